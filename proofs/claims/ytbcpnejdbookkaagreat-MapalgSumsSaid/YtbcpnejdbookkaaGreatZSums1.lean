-- The texts of this repo that the claim reaches, in one (wip/print/bundle.py): only what is reached; not trusted: Lean checks it.
import Derived.Test.YtbcpnejdbookkaaGreatProg
import Derived.Test.YtbcpnejdbookkaaGreatRows
import Derived.Below
import Derived.Deep.Draws
import Derived.Deep.AppendLies
import Derived.Maps.AppendAt
import Derived.OwnWalk
import Derived.Laws.BytesArg
import Derived.Laws.MakeOwn
import Derived.Laws.OwnMore
import Derived.Deep.OwnRows
import Derived.Tactics
import Derived.Lib.ConvBytes
import Derived.Laws.Slices
import Derived.WalkKit
import Derived.KernelRfl
import Derived.RowKit3
import Derived.Deep.LoopGhost
import Derived.Deep.QuietTactic
import Derived.BigQuiet
import Derived.WideLaws
import Derived.Deep.DeepCutAuto
import Derived.Deep.CutBlock
import Derived.Deep.RegionHeld3
import Derived.Laws.Rows
import Derived.Lib.AppendStr
import Derived.ArgAppend
import Derived.Laws.IdiomCopy
import Derived.RowKit
import Derived.OrdersHeld
import Derived.Laws.BitsLemmas
import Derived.Laws.StructEq
import Derived.Laws.EntriesVeiled
import Derived.OpenShut
import Derived.Deep.Slices
import Derived.Deep.Fields
import Derived.ChangeSame
import Derived.RangeFuncRecord
set_option maxHeartbeats 8000000
set_option maxRecDepth 100000
set_option linter.unusedVariables false
set_option linter.unusedSimpArgs false
namespace Go.Proofs.YtbcpnejdbookkaaGreatW.PrintWords
open Go.RowKit
structure Aside0 (p:Prop):Prop where mk :: (out:p)
structure Drawn0 (w w':World):Prop where mk :: (out:∃ n,w'=w.drewN n)
theorem Drawn0.refl (w:World):Drawn0 w w:=⟨⟨0,rfl⟩⟩
theorem Drawn0.step {w w':World} (h:Drawn0 w w') (n:Nat):Drawn0 w (w'.drewN n):=by
 obtain ⟨m,rfl⟩:=h
 exact ⟨⟨m+n,World.drewN_drewN ..⟩⟩
theorem Drawn0.grown {w w':World} (h:Drawn0 w w'):Grown w w':=by
 obtain ⟨n,rfl⟩:=h
 induction n with
 | zero=>exact Grown.refl _
 | succ n ih=>rw [← World.drew_drewN];exact Grown.drew ih
theorem Drawn0.below {w w':World} (h:Drawn0 w w'):Below w.heap.size w w':=by
 obtain ⟨n,rfl⟩:=h
 induction n with
 | zero=>exact Below.refl _ _
 | succ n ih=>rw [← World.drew_drewN];exact ih.drew
def rd (xs:List Int) (i:Int):Int:=xs.getD i.toNat 0
def bt (s:ByteArray) (i:Int):Int:=if h:i.toNat < s.size then ((s[i.toNat]'h).toNat:Int) else 0
def nums (k:IntKind) (xs:List Int):List Value:=xs.map fun x=>.int k x
theorem below_alloc {w W:World} (h:Below w.heap.size w W) (o:Obj):Below w.heap.size w (W.alloc o):=h.alloc h.size o
theorem below_drew {B:Nat} {w W:World} (h:Below B w W):Below B w W.drew:=⟨h.os,h.tape,h.output,h.size,h.block⟩
theorem pw_below_drewN {B:Nat} {w W:World} (h:Below B w W) (n:Nat):Below B w (W.drewN n):=⟨h.os,h.tape,h.output,h.size,h.block⟩
theorem below_then {B:Nat} {w w1 w2:World} (h:Below B w w1) (hB:B≤w1.heap.size) (k:Below w1.heap.size w1 w2):Below B w w2 :=
 h.trans ⟨k.os,k.tape,k.output,k.size,fun i hi=>k.block i (Nat.lt_of_lt_of_le hi hB)⟩
theorem pw_below_grown {B:Nat} {w w1:World} (h:Below B w w1) (row:Option Nat) (hB:B≤w1.heap.size) {w2:World} (hg:w1.grownBy w2 row) (hr:∀ k,row=some k→B≤k):Below B w w2:=h.grown hg hB hr
theorem grown_of_below {w w1:World} (h:Below w.heap.size w w1) (row:Option Nat):w.grownBy w1 row:=⟨h.os,h.tape,h.output,h.size,fun i hi _=>h.block i hi⟩
theorem pw_cell_below {w w1:World} (h:Below w.heap.size w w1) {a:Addr} {v:Value} (hc:w.cell? a=some v):w1.cell? a=some v:=(h.cell (World.block_lt_of_cell? w a hc)).trans hc
theorem add_plain (g j:Nat):(⟨g,0,none⟩:Addr).add j=⟨g,j,none⟩:=by unfold Addr.add;split <;> simp_all
def ReadsInt (w:World) (k:IntKind) (A:Option Addr) (n:Nat) (xs:List Int):Prop :=
 xs.length=n∧n≤9223372036854775807∧(0 < n→∃ ad,A=some ad∧∀ j,j < n→w.cell? (ad.add j)=some (.int k (xs.getD j 0)))
theorem ReadsInt.at_ {w:World} {k:IntKind} {A:Option Addr} {n:Nat} {xs:List Int} (h:ReadsInt w k A n xs) (i:Int) (h0:0≤i) (h1:i < n):∃ ad,A=some ad∧w.cell? (ad.add i.toNat)=some (.int k (rd xs i)):=by
 obtain ⟨ad,e,hc⟩:=h.2.2 (by omega)
 exact ⟨ad,e,hc _ (by omega)⟩
theorem ReadsInt.below {w w1:World} {k:IntKind} {A:Option Addr} {n:Nat} {xs:List Int} (h:ReadsInt w k A n xs) (hb:Below w.heap.size w w1):ReadsInt w1 k A n xs :=
 ⟨h.1,h.2.1,fun hn=>by
  obtain ⟨ad,e,hc⟩:=h.2.2 hn
  exact ⟨ad,e,fun j hj=>pw_cell_below hb (hc j hj)⟩⟩
theorem own_nil (W:World) (base:Nat) (e:TypeId) (size:Nat):W.ownsRow base e size (.slice none 0 0) 0 []:=⟨by simp,.inl ⟨rfl,rfl⟩⟩
theorem own_base {w:World} {base:Nat} {e:TypeId} {size n:Nat} {v:Value} {xs:List Value} (h:w.ownsRow base e size v n xs) (k:Nat) (hk:v.ownBlock=some k):base≤k:=by
 rcases h.2 with ⟨rfl,_⟩ | ⟨g,cap,cur,rfl,hb,_⟩
 ·simp [Value.ownBlock] at hk
 ·have:g=k:=by simpa [Value.ownBlock] using hk
  omega
theorem own_lt {w:World} {base:Nat} {e:TypeId} {size n:Nat} {v:Value} {xs:List Value} (h:w.ownsRow base e size v n xs) (k:Nat) (hk:v.ownBlock=some k):k < w.heap.size:=by
 rcases h.2 with ⟨rfl,_⟩ | ⟨g,cap,cur,rfl,hb,hh,_⟩
 ·simp [Value.ownBlock] at hk
 ·have:g=k:=by simpa [Value.ownBlock] using hk
  subst this
  exact (Array.getElem?_eq_some_iff.1 hh).1
theorem pw_own_below {w w1:World} {base:Nat} {e:TypeId} {size n:Nat} {v:Value} {xs:List Value} (h:w.ownsRow base e size v n xs) (hb:Below w.heap.size w w1):w1.ownsRow base e size v n xs :=
 h.kept (grown_of_below hb none) (by cases v.ownBlock <;> simp)
theorem own_slice {w:World} {base n:Nat} {e:TypeId} {size:Nat} {v:Value} {xs:List Value} (h:w.ownsRow base e size v n xs):∃ A c,v=.slice A n c:=by
 rcases h.2 with ⟨rfl,rfl⟩ | ⟨g,cap,cur,rfl,_⟩
 ·exact ⟨none,0,rfl⟩
 ·exact ⟨_,cap,rfl⟩
def LeO {α:Type} (a b:Option α):Prop:=∀ r,a=some r→b=some r
theorem LeO.refl {α:Type} (a:Option α):LeO a a:=fun _ h=>h
theorem LeO.none {α:Type} (b:Option α):LeO Option.none b:=fun _ h=>by cases h
theorem LeO.trans {α:Type} {a b c:Option α} (h:LeO a b) (k:LeO b c):LeO a c:=fun r hr=>k r (h r hr)
theorem LeO.ite {α:Type} {c:Prop} [Decidable c] {a a' b b':Option α} (h:LeO a a') (k:LeO b b'):LeO (if c then a else b) (if c then a' else b'):=by
 split
 ·exact h
 ·exact k
theorem LeO.bind {α β:Type} {a a':Option α} {f f':α→Option β} (h:LeO a a') (k:∀ x,LeO (f x) (f' x)):LeO (a.bind f) (a'.bind f'):=by
 intro r hr
 obtain ⟨x,hx,hf⟩:=Option.bind_eq_some_iff.1 hr
 exact Option.bind_eq_some_iff.2 ⟨x,h x hx,k x r hf⟩
theorem more_rounds {α:Type} {g:Nat→Option α} (h:∀ k,LeO (g k) (g (k+1))) (k:Nat):∀ j,LeO (g k) (g (k+j))
 | 0=>LeO.refl _
 | j+1=>(more_rounds h k j).trans (h (k+j))
theorem at_rounds {α:Type} {g:Nat→Option α} (h:∀ k,LeO (g k) (g (k+1))) {k k':Nat} (hk:k≤k') {r:α} (hr:g k=some r):g k'=some r:=by
 have:=more_rounds h k (k' - k) r hr
 rwa [Nat.add_sub_cancel' hk] at this
def Reps {α:Type} (R:α→List Value→Prop) (size:Nat) (ps:List α) (cs:List Value):Prop :=
 cs.length=ps.length * size∧∀ j p,ps[j]? = some p→R p ((cs.drop (j * size)).take size)
theorem Reps.none {α:Type} (R:α→List Value→Prop) (size:Nat):Reps R size [] []:=⟨by simp,fun j p h=>by simp at h⟩
theorem Reps.snoc {α:Type} {R:α→List Value→Prop} {size:Nat} {ps:List α} {cs c:List Value} {p:α} (h:Reps R size ps cs) (hp:R p c) (hc:c.length=size):Reps R size (ps ++ [p]) (cs ++ c):=by
 refine ⟨by rw [List.length_append,h.1,hc,List.length_append,List.length_singleton,Nat.add_mul,Nat.one_mul],fun j q hq=>?_⟩
 rcases Nat.lt_or_ge j ps.length with hj | hj
 ·rw [List.getElem?_append_left hj] at hq
  have h1:j * size+size≤cs.length:=by rw [h.1,← Nat.succ_mul];exact Nat.mul_le_mul_right _ hj
  have h2:=h.2 j q hq
  rw [List.drop_append_of_le_length (by omega),List.take_append_of_le_length (by rw [List.length_drop];omega)]
  exact h2
 ·have hj':j=ps.length:=by
   have:=(List.getElem?_eq_some_iff.1 hq).1
   rw [List.length_append,List.length_singleton] at this
   omega
  subst hj'
  have hq':p=q:=by simpa using hq
  subst hq'
  rw [← h.1,List.drop_left,← hc,List.take_length]
  exact hp
theorem Reps.imp_ {α:Type} {R R':α→List Value→Prop} {size:Nat} {ps:List α} {cs:List Value} (h:Reps R size ps cs) (hR:∀ p c,R p c→R' p c):Reps R' size ps cs:=⟨h.1,fun j p hj=>hR _ _ (h.2 j p hj)⟩
def ReadsRow {α:Type} (R:α→List Value→Prop) (size:Nat) (w:World) (A:Option Addr) (n:Nat) (ps:List α):Prop :=
 ps.length=n∧n≤9223372036854775807∧(0 < n→∃ ad,A=some ad∧∀ j p,ps[j]? = some p→∃ c,c.length=size∧R p c∧∀ i u,c[i]? = some u→w.cell? (ad.add (j * size+i))=some u)
theorem ReadsRow.get_ {α:Type} {R:α→List Value→Prop} {size:Nat} {w:World} {A:Option Addr} {n:Nat} {ps:List α} (h:ReadsRow R size w A n ps) (d:α) (i:Int) (h0:0≤i) (h1:i < n) :
  ∃ ad c,A=some ad∧c.length=size∧R (ps.getD i.toNat d) c∧∀ j u,c[j]? = some u→w.cell? (ad.add (i.toNat * size+j))=some u:=by
 obtain ⟨ad,e,hc⟩:=h.2.2 (by omega)
 have hl:i.toNat < ps.length:=by have:=h.1;omega
 obtain ⟨c,hs,hr,hcell⟩:=hc i.toNat _ (List.getElem?_eq_getElem hl)
 refine ⟨ad,c,e,hs,?_,hcell⟩
 rw [List.getD_eq_getElem?_getD,List.getElem?_eq_getElem hl]
 exact hr
theorem ReadsRow.imp_ {α:Type} {R R':α→List Value→Prop} {size:Nat} {w w1:World} {A:Option Addr} {n:Nat} {ps:List α} (h:ReadsRow R size w A n ps) (hb:Below w.heap.size w w1) (hR:∀ p c,R p c→R' p c):ReadsRow R' size w1 A n ps :=
 ⟨h.1,h.2.1,fun hn=>by
  obtain ⟨ad,e,hc⟩:=h.2.2 hn
  refine ⟨ad,e,fun j p hj=>?_⟩
  obtain ⟨c,hs,hr,hcell⟩:=hc j p hj
  exact ⟨c,hs,hR _ _ hr,fun i u hu=>pw_cell_below hb (hcell i u hu)⟩⟩
theorem own_reads_row {α:Type} {R:α→List Value→Prop} {w:World} {base n size:Nat} {e:TypeId} {v:Value} {ps:List α} {cs:List Value} (h:w.ownsRow base e size v n cs) (hR:Reps R size ps cs) (hn:ps.length=n) :
    ∃ A c,v=.slice A n c∧ReadsRow R size w A n ps:=by
  rcases Nat.eq_zero_or_pos n with h0 | h0
  · rcases h.2 with ⟨rfl,rfl⟩ | ⟨g,cap,cur,rfl,_⟩
    · exact ⟨none,0,rfl,hn,by omega,fun hp=>absurd hp (by omega)⟩
    · exact ⟨_,cap,rfl,hn,by omega,fun hp=>absurd hp (by omega)⟩
  · obtain ⟨g,cap,rfl,_,_⟩:=h.form h0
    have hm:n≤9223372036854775807:=by
      rcases h.2 with ⟨_,h1⟩ | ⟨g',cap',cur,he,_,_,h1,h2,_⟩
      · omega
      · simp only [maxLen] at h2
        omega
    refine ⟨_,cap,rfl,hn,hm,fun _=>⟨_,rfl,fun j p hj=>⟨(cs.drop (j * size)).take size,?_,hR.2 j p hj,fun i u hu=>?_⟩⟩⟩
    · have hjl:=(List.getElem?_eq_some_iff.1 hj).1
      have h1:j * size+size≤cs.length:=by rw [hR.1,← Nat.succ_mul];exact Nat.mul_le_mul_right _ hjl
      rw [List.length_take,List.length_drop]
      omega
    · refine h.cells (g:=g) rfl _ u ?_
      rw [List.getElem?_take] at hu
      split at hu
      · rw [List.getElem?_drop] at hu
        exact hu
      · cases hu
theorem add_field (ad:Addr) (m j:Nat) (hj:0 < j):ad.add (m+j)=⟨(ad.add m).block,(ad.add m).off+j,none⟩:=by
 unfold Addr.add
 by_cases hm:m=0
 ·subst hm
  simp [Nat.ne_of_gt hj]
 ·simp [hm,Nat.add_assoc]
section
variable {P : Program} {ops : Array Oper} {rest : List Oper} {o : Oper} {a : Act} {Q : Exit → Act → World → Prop}
theorem print_append_cells {w0 W:World} (base:Nat) (hgd:o.guard=none) (s x:Operand) (t e:TypeId) (z:Value) (size bytes:Nat)
  (ho:o.op=.call { callee:=.builtin .append,args:=#[s,x],argTypes:=#[t,t] })
  (ht:P.underlying t=some (.slice e)) (hinfo:(P.info? e).map (fun i=>(i.zero,i.size,i.bytes))=some (some z,size,bytes)) (hz:z.cells.size=size) (hs0:0 < size) (hb0:0 < bytes)
  (v:Value) (n:Nat) (xs ys:List Value) (hs:a.eval s=v) (hx:a.eval x=.slice (some ⟨W.heap.size,0,none⟩) 1 1) (hys:ys.length=size) (h1:∀ u∈ys,u.oneCell'=true)
  (HO:W.ownsRow base e size v n xs) (HB:Below base w0 W) (hbase:base≤W.heap.size) (hl:(n+1) * bytes≤140737488355328)
  (h:∀ v1 w1,w1.ownsRow base e size v1 (n+1) (xs ++ ys)→Below base w0 w1→W.grownBy w1 v.ownBlock→(v1.ownBlock=v.ownBlock∨∃ b,v1.ownBlock=some b∧W.heap.size≤b)→wpList P ops Q rest (a.put o.dst v1) w1) :
  wpList P ops Q (o :: rest) a (W.alloc (.cells ys.toArray e)):=by
 obtain ⟨i0,hi,hzz⟩:=Option.map_eq_some_iff.1 hinfo
 simp only [Prod.mk.injEq] at hzz
 obtain ⟨hz0,hz1,hz2⟩:=hzz
 have hlen:n+1≤140737488355328:=Nat.le_trans (Nat.le_mul_of_pos_right _ hb0) hl
 refine wpList_append_own_at (W.alloc (.cells ys.toArray e)) hgd s x t ho base e i0 z size bytes ht hi hz0 hz1 hz2 hz hs0 v n xs hs (HO.alloc _) ⟨W.heap.size,0,none⟩ 1 1 ys hx (by rw [hys];simp)
  (by simpa using World.news_of_block (cs:=ys.toArray) (t:=e) (fr:=(0,0)) (heap_alloc_new W (.cells ys.toArray e))) h1 (by simp only [maxLen];omega) hl (by simp;omega) ?_
 intro v1 w1 hown hg _ hat
 refine h v1 w1 hown ((HB.alloc hbase _).grown hg (by simp;omega) (own_base HO)) (World.grownBy.trans (World.grownBy_alloc W _ _) hg) ?_
 rcases hat with hat | hat
 ·exact .inl hat
 ·exact .inr ⟨_,hat,by simp⟩
end
theorem own_ne {w:World} {base:Nat} {e t:TypeId} {size n g:Nat} {v:Value} {xs:List Value} {cs:Array Value} (h:w.ownsRow base e size v n xs) (hg:w.heap[g]? = some (.cells cs t (0,0))) (hne:e≠t):some g≠v.ownBlock:=by
 rcases h.2 with ⟨rfl,_⟩ | ⟨g',cap,cur,rfl,_,hh,_⟩
 ·simp [Value.ownBlock]
 ·intro he
  have:g=g':=by simpa [Value.ownBlock] using he
  subst this
  rw [hg] at hh
  injection hh with hh
  injection hh with _ ht
  exact hne ht.symm
theorem blk_set {w:World} {g:Nat} {t:TypeId} {cs:Array Value} (h:w.heap[g]? = some (.cells cs t (0,0))) (i:Nat) (u:Value):(w.setCell ⟨g,i,none⟩ u).heap[g]? = some (.cells (cs.setIfInBounds i u) t (0,0)):=by
 simp [World.setCell,Array.getElem?_modify,h]
theorem blk_far {w:World} {g:Nat} {t:TypeId} {cs:Array Value} (h:w.heap[g]? = some (.cells cs t (0,0))) {p:Addr} (hp:g≠p.block) (u:Value):(w.setCell p u).heap[g]? = some (.cells cs t (0,0)):=(Below.heap_setCell w p u g hp).trans h
theorem blk_lt {w:World} {g:Nat} {o:Obj} (h:w.heap[g]? = some o):g < w.heap.size:=(Array.getElem?_eq_some_iff.1 h).1
theorem blk_cell {w:World} {g:Nat} {t:TypeId} {cs:Array Value} (h:w.heap[g]? = some (.cells cs t (0,0))) (i:Nat):w.cell? ⟨g,i,none⟩=cs[i]? := cell_of_row w g i cs t (0,0) h
theorem blk_frozen {w:World} {g:Nat} {t:TypeId} {cs:Array Value} (h:w.heap[g]? = some (.cells cs t (0,0))) (i:Nat):w.frozen? ⟨g,i,none⟩=false:=by simp [World.frozen?,h]
theorem blk_grown {w w1:World} {g:Nat} {o:Obj} {row:Option Nat} (h:w.heap[g]? = some o) (hg:w.grownBy w1 row) (hne:some g≠row):w1.heap[g]? = some o:=(hg.block g (blk_lt h) hne).trans h
def KeepBut (w w':World) (g:Nat) (row:Option Nat):Prop:=w.heap.size≤w'.heap.size∧∀ i,i < w.heap.size→i≠g→some i≠row→w'.heap[i]? = w.heap[i]?
theorem KeepBut.refl (w:World) (g:Nat) (row:Option Nat):KeepBut w w g row:=⟨Nat.le_refl _,fun _ _ _ _=>rfl⟩
theorem KeepBut.of_below {w w1:World} (h:Below w.heap.size w w1) (g:Nat) (row:Option Nat):KeepBut w w1 g row:=⟨h.size,fun i hi _ _=>h.block i hi⟩
theorem KeepBut.set_ {w w1:World} {g:Nat} {row:Option Nat} (h:KeepBut w w1 g row) (j:Nat) (u:Value):KeepBut w (w1.setCell ⟨g,j,none⟩ u) g row :=
 ⟨by simpa [World.setCell] using h.1,fun i hi hg hr=>(Below.heap_setCell w1 ⟨g,j,none⟩ u i hg).trans (h.2 i hi hg hr)⟩
theorem KeepBut.trans {w w1 w2:World} {g:Nat} {row row1:Option Nat} (h:KeepBut w w1 g row) (k:KeepBut w1 w2 g row1) (hr:row1=row∨∃ b,row1=some b∧w.heap.size≤b):KeepBut w w2 g row :=
 ⟨Nat.le_trans h.1 k.1,fun i hi hg hn=>by
  refine (k.2 i (Nat.lt_of_lt_of_le hi h.1) hg ?_).trans (h.2 i hi hg hn)
  rcases hr with rfl | ⟨b,rfl,hb⟩
  ·exact hn
  ·intro e
   injection e with e
   omega⟩
def Ev {α:Type} (g:Nat→Option α) (r:α):Prop:=∃ K,∀ k,K≤k→g k=some r
theorem Ev.now {α:Type} (r:α):Ev (fun _=>some r) r:=⟨0,fun _ _=>rfl⟩
theorem Ev.bind {α β:Type} {g:Nat→Option α} {f:Nat→α→Option β} {a:α} {r:β} (h:Ev g a) (k:Ev (fun n=>f n a) r):Ev (fun n=>(g n).bind (f n)) r:=by
 obtain ⟨K,h⟩:=h
 obtain ⟨K',k⟩:=k
 refine ⟨max K K',fun n hn=>?_⟩
 have h1:=h n (by omega)
 have h2:=k n (by omega)
 simp only [h1,Option.bind_some]
 exact h2
theorem Ev.step {α:Type} {g f:Nat→Option α} {r:α} (h:∀ k,g (k+1)=f k) (k:Ev f r):Ev g r:=by
 obtain ⟨K,k⟩:=k
 refine ⟨K+1,fun n hn=>?_⟩
 obtain ⟨m,rfl⟩:∃ m,n=m+1:=⟨n - 1,by omega⟩
 rw [h]
 exact k m (by omega)
theorem Ev.congr {α:Type} {g f:Nat→Option α} {r:α} (h:∀ k,g k=f k) (k:Ev f r):Ev g r:=by
 obtain ⟨K,k⟩:=k
 exact ⟨K,fun n hn=>(h n).trans (k n hn)⟩
section
variable {P : Program} {ops : Array Oper} {o : Oper} {a : Act} {Q : Exit → Act → World → Prop} {K : Act → World → Prop}
theorem step_append_cells {w0 W:World} (base:Nat) (hw:Region.wanted o (yielded ops a.tmps)=true) (s x:Operand) (t e:TypeId) (z:Value) (size bytes:Nat)
  (ho:o.op=.call { callee:=.builtin .append,args:=#[s,x],argTypes:=#[t,t] })
  (ht:P.underlying t=some (.slice e)) (hinfo:(P.info? e).map (fun i=>(i.zero,i.size,i.bytes))=some (some z,size,bytes)) (hz:z.cells.size=size) (hs0:0 < size) (hb0:0 < bytes)
  (v:Value) (n:Nat) (xs ys:List Value) (hs:a.eval s=v) (hx:a.eval x=.slice (some ⟨W.heap.size,0,none⟩) 1 1) (hys:ys.length=size) (h1:∀ u∈ys,u.oneCell'=true)
  (HO:W.ownsRow base e size v n xs) (HB:Below base w0 W) (hbase:base≤W.heap.size) (hl:(n+1) * bytes≤140737488355328)
  (h:∀ v1 w1,w1.ownsRow base e size v1 (n+1) (xs ++ ys)→Below base w0 w1→W.grownBy w1 v.ownBlock→(v1.ownBlock=v.ownBlock∨∃ b,v1.ownBlock=some b∧W.heap.size≤b)→K (a.put o.dst v1) w1) :
  if Region.wanted o (yielded ops a.tmps)=true then Oper.wp P o a (W.alloc (.cells ys.toArray e)) K Q else K (a.put o.dst undef) (W.alloc (.cells ys.toArray e)):=by
 obtain ⟨i0,hi,hzz⟩:=Option.map_eq_some_iff.1 hinfo
 simp only [Prod.mk.injEq] at hzz
 obtain ⟨hz0,hz1,hz2⟩:=hzz
 have hlen:n+1≤140737488355328:=Nat.le_trans (Nat.le_mul_of_pos_right _ hb0) hl
 rw [if_pos hw]
 obtain ⟨v1,w1,hr,hown,hg,_,hat⟩:=run_append_own_at (P:=P) (W.alloc (.cells ys.toArray e)) base t o.type e i0 z size bytes ht hi hz0 hz1 hz2 hz hs0 v n xs (HO.alloc _) ⟨W.heap.size,0,none⟩ 1 1 ys (by rw [hys];simp)
  (by simpa using World.news_of_block (cs:=ys.toArray) (t:=e) (fr:=(0,0)) (heap_alloc_new W (.cells ys.toArray e))) h1 (by simp only [maxLen];omega) hl (by simp;omega)
 unfold Oper.wp execOp
 simp only [ho,resolve,invoke,builtin,Sem.run_bind,Sem.run_pure,Result.andThen_ok,List.map_toArray,List.map_cons,List.map_nil,hs,hx,hr]
 refine h v1 w1 hown ((HB.alloc hbase _).grown hg (by simp;omega) (own_base HO)) (World.grownBy.trans (World.grownBy_alloc W _ _) hg) ?_
 rcases hat with hat | hat
 ·exact .inl hat
 ·exact .inr ⟨_,hat,by simp⟩
end
theorem own_weaken {w:World} {base base':Nat} {e:TypeId} {size n:Nat} {v:Value} {xs:List Value} (h:w.ownsRow base e size v n xs) (hb:base'≤base):w.ownsRow base' e size v n xs:=by
 obtain ⟨h1,h2⟩:=h
 refine ⟨h1,?_⟩
 rcases h2 with h2 | ⟨g,cap,cur,rfl,hg,r⟩
 ·exact .inl h2
 ·exact .inr ⟨g,cap,cur,rfl,Nat.le_trans hb hg,r⟩
section
variable {α : Type} {enc : α → Value} {d : α}
def encs (enc:α→Value) (xs:List α):List Value:=xs.map enc
def rdOf (d:α) (xs:List α) (i:Int):α:=xs.getD i.toNat d
theorem encs_length (xs:List α):(encs enc xs).length=xs.length:=by simp [encs]
theorem encs_get (xs:List α) (j:Nat) (h:j < xs.length):(encs enc xs)[j]? = some (enc (xs.getD j d)):=by
 simp [encs,List.getElem?_eq_getElem h,List.getD_eq_getElem?_getD]
def ReadsOf (enc:α→Value) (d:α) (w:World) (A:Option Addr) (n:Nat) (xs:List α):Prop :=
 xs.length=n∧n≤9223372036854775807∧(0 < n→∃ ad,A=some ad∧∀ j,j < n→w.cell? (ad.add j)=some (enc (xs.getD j d)))
theorem ReadsOf.at_ {w:World} {A:Option Addr} {n:Nat} {xs:List α} (h:ReadsOf enc d w A n xs) (i:Int) (h0:0≤i) (h1:i < n):∃ ad,A=some ad∧w.cell? (ad.add i.toNat)=some (enc (rdOf d xs i)):=by
 obtain ⟨ad,e,hc⟩:=h.2.2 (by omega)
 exact ⟨ad,e,hc _ (by omega)⟩
theorem ReadsOf.below {w w1:World} {A:Option Addr} {n:Nat} {xs:List α} (h:ReadsOf enc d w A n xs) (hb:Below w.heap.size w w1):ReadsOf enc d w1 A n xs :=
 ⟨h.1,h.2.1,fun hn=>by
  obtain ⟨ad,e,hc⟩:=h.2.2 hn
  exact ⟨ad,e,fun j hj=>pw_cell_below hb (hc j hj)⟩⟩
theorem own_at_of {W:World} {base g n cap:Nat} {e:TypeId} {xs:List α} (h:W.ownsRow base e 1 (.slice (some ⟨g,0,none⟩) n cap) n (encs enc xs)) (i:Int) (h0:0≤i) (h1:i < n) :
  W.cell? ⟨g,i.toNat,none⟩=some (enc (rdOf d xs i))∧W.frozen? ⟨g,i.toNat,none⟩=false:=by
 have hl:xs.length=n:=by have:=h.1;simp [encs] at this;exact this
 constructor
 ·have hc:=h.cells (g:=g) rfl i.toNat _ (encs_get (d:=d) xs i.toNat (by omega))
  rwa [add_plain] at hc
 ·rcases h.2 with ⟨h',_⟩ | ⟨g',cap',cur,h',_,hh,_⟩
  ·cases h'
  ·have:g=g':=by injection h' with h';injection h' with h';injection h' with h'
   subst this
   simp [World.frozen?,hh]
theorem own_store_of {W:World} {base g n cap:Nat} {e:TypeId} {xs:List α} (h:W.ownsRow base e 1 (.slice (some ⟨g,0,none⟩) n cap) n (encs enc xs)) (i:Int) (x:α) :
  (W.setCell ⟨g,i.toNat,none⟩ (enc x)).ownsRow base e 1 (.slice (some ⟨g,0,none⟩) n cap) n (encs enc (xs.set i.toNat x))∧W.grownBy (W.setCell ⟨g,i.toNat,none⟩ (enc x)) (some g):=by
 have hs:=h.stored i.toNat (enc x)
 have he:(encs enc xs).set i.toNat (enc x)=encs enc (xs.set i.toNat x):=by simp [encs,List.map_set]
 rwa [he] at hs
end
theorem blk_alloc {w:World} {g:Nat} {o:Obj} (h:w.heap[g]? = some o) (o':Obj):(w.alloc o').heap[g]? = some o:=(Below.heap_alloc w o' g (blk_lt h)).trans h
theorem blk_drew {w:World} {g:Nat} {o:Obj} (h:w.heap[g]? = some o):w.drew.heap[g]? = some o:=h
theorem blk_drewN {w:World} {g:Nat} {o:Obj} (h:w.heap[g]? = some o) (n:Nat):(w.drewN n).heap[g]? = some o:=h
theorem blk_below {w w1:World} {g:Nat} {o:Obj} (h:w.heap[g]? = some o) (hb:Below w.heap.size w w1):w1.heap[g]? = some o:=(hb.block g (blk_lt h)).trans h
theorem blk_new (w:World) (o:Obj):(w.alloc o).heap[w.heap.size]? = some o:=heap_alloc_new w o
section
variable {P : Program}
theorem results_ct {fn:Func} {p u:Tmp} {ty:TypeId} (h:fn.results=#[.cell p ty,.tmp u]) (tmps:Array Value) (w:World) (g:Nat) (t:TypeId) (cs:Array Value) (fr:Nat×Nat) (d:TypeDesc)
  (hp:tmps.getD p undef=.pointer (some ⟨g,0,none⟩)) (hg:w.heap[g]? = some (.cells cs t fr))
  (hu:P.underlying ty=some d) (hd:(match d with | .struct _ | .array _ _=>true | _=>false)=true) (hi:(P.info? ty).map (·.size)=some cs.size) :
  (results fn tmps).run P w=.ok (.tuple #[.agg cs,tmps.getD u undef]) w:=by
 have hp':tmps[p]?.getD undef=.pointer (some ⟨g,0,none⟩):=by simpa using hp
 simp [results,h,hp',asAddr,run_loadVar_row w g t ty cs fr d hg hu hd hi]
end
theorem own_le {w:World} {base n m c size:Nat} {e:TypeId} {A:Option Addr} {xs:List Value} (h:w.ownsRow base e size (.slice A m c) n xs):m≤c:=by
 rcases h.2 with ⟨he,_⟩ | ⟨g,cap,cur,he,_,_,hnc,_⟩
 ·injection he with _ h2 h3
  omega
 ·injection he with _ h2 h3
  omega
def OwnRow {α:Type} (R:α→List Value→Prop) (e:TypeId) (size:Nat) (w:World) (base:Nat) (v:Value) (ps:List α):Prop :=
 ∃ inner,w.ownsRow base e size v ps.length inner∧Reps R size ps inner
section
variable {α : Type} {R R' : α → List Value → Prop} {e : TypeId} {size : Nat} {w w1 : World} {base : Nat} {v : Value} {ps : List α}
theorem OwnRow.none_ (R:α→List Value→Prop) (e:TypeId) (size:Nat) (w:World) (base:Nat):OwnRow R e size w base (.slice none 0 0) []:=⟨[],own_nil _ _ _ _,Reps.none _ _⟩
theorem OwnRow.imp_ (h:OwnRow R e size w base v ps) (hR:∀ p c,R p c→R' p c):OwnRow R' e size w base v ps:=by
 obtain ⟨inner,ho,hr⟩:=h
 exact ⟨inner,ho,hr.imp_ hR⟩
theorem OwnRow.below (h:OwnRow R e size w base v ps) (hb:Below w.heap.size w w1):OwnRow R e size w1 base v ps:=by
 obtain ⟨inner,ho,hr⟩:=h
 exact ⟨inner,pw_own_below ho hb,hr⟩
theorem OwnRow.reads (h:OwnRow R e size w base v ps):∃ A c,v=.slice A ps.length c∧ps.length≤c∧ReadsRow R size w A ps.length ps:=by
 obtain ⟨inner,ho,hr⟩:=h
 obtain ⟨A,c,rfl,hrow⟩:=own_reads_row ho hr rfl
 exact ⟨A,c,rfl,own_le ho,hrow⟩
theorem OwnRow.ne_block (h:OwnRow R e size w base v ps) {g:Nat} {t:TypeId} {cells:Array Value} (hb:w.heap[g]? = some (.cells cells t (0,0))) (ht:e≠t):some g≠v.ownBlock:=by
 obtain ⟨inner,ho,hr⟩:=h
 exact own_ne ho hb ht
end
theorem ReadsRow.inner_ {α:Type} {R:α→List Value→Prop} {size:Nat} {w:World} {ad:Addr} {n:Nat} {ps:List α} (h:ReadsRow R size w (some ad) n ps) :
    ∃ inner,Reps R size ps inner∧∀ j u,inner[j]? = some u→w.cell? (ad.add j)=some u:=by
  have key:∀ m,m≤ps.length→∃ inner,Reps R size (ps.take m) inner∧∀ j u,inner[j]? = some u→w.cell? (ad.add j)=some u:=by
    intro m
    induction m with
    | zero=>exact fun _=>⟨[],Reps.none _ _,fun j u hu=>by simp at hu⟩
    | succ m ih =>
      intro hm
      obtain ⟨inner,hr,hc⟩:=ih (by omega)
      obtain ⟨ad',he,hcell⟩:=h.2.2 (by have:=h.1;omega)
      injection he with he
      subst he
      obtain ⟨c,hcl,hp,hcc⟩:=hcell m _ (List.getElem?_eq_getElem (show m < ps.length by omega))
      refine ⟨inner ++ c,?_,fun j u hu=>?_⟩
      · rw [List.take_succ_eq_append_getElem (show m < ps.length by omega)]
        exact hr.snoc hp hcl
      · have hil:inner.length=m * size:=by rw [hr.1,List.length_take,Nat.min_eq_left (by omega)]
        rcases Nat.lt_or_ge j inner.length with hj | hj
        · rw [List.getElem?_append_left hj] at hu
          exact hc j u hu
        · rw [List.getElem?_append_right hj] at hu
          have:=hcc (j - inner.length) u hu
          rwa [hil,Nat.add_sub_cancel' (by omega)] at this
  obtain ⟨inner,hr,hc⟩:=key ps.length (Nat.le_refl _)
  rw [List.take_length] at hr
  exact ⟨inner,hr,hc⟩
structure Kd (α:Type) where
 sz:Nat
 E:List Nat
 K:World→α→List Value→Prop
 M:World→Nat→(Nat→Prop)→α→List Value→Prop
 K_len:∀ {w x cs},K w x cs→cs.length=sz
 K_one:∀ {w x cs},K w x cs→∀ u∈cs,u.oneCell'=true
 K_below:∀ {w w1:World} {x cs},Below w.heap.size w w1→K w x cs→K w1 x cs
 K_of_M:∀ {w base ok x cs},M w base ok x cs→K w x cs
 M_mono:∀ {w base ok ok' x cs},(∀ k,ok k→ok' k)→M w base ok x cs→M w base ok' x cs
 M_bound:∀ {w:World} {base ok x cs},M w base ok x cs→M w base (fun k=>ok k∧base≤k∧k < w.heap.size∧∃ q,q∈E∧∃ cells,w.heap[k]? = some (.cells cells q (0,0))) x cs
 M_move:∀ {w w1:World} {base ok x cs},(∀ k,ok k→w1.heap[k]? = w.heap[k]?)→M w base ok x cs→M w1 base ok x cs
 M_lower:∀ {w base base' ok x cs},base'≤base→M w base ok x cs→M w base' ok x cs
theorem own_move {w w1:World} {base:Nat} {e:TypeId} {size n:Nat} {v:Value} {xs:List Value} (h:w.ownsRow base e size v n xs) (hm:∀ k,v.ownBlock=some k→w1.heap[k]? = w.heap[k]?):w1.ownsRow base e size v n xs:=by
 obtain ⟨h1,h2⟩:=h
 refine ⟨h1,?_⟩
 rcases h2 with h2 | ⟨g,cap,cur,rfl,hg,hh,r⟩
 ·exact .inl h2
 ·exact .inr ⟨g,cap,cur,rfl,hg,(hm g (by simp [Value.ownBlock])).trans hh,r⟩
theorem own_typed {w:World} {base:Nat} {e:TypeId} {size n:Nat} {v:Value} {xs:List Value} (h:w.ownsRow base e size v n xs) (k:Nat) (hk:v.ownBlock=some k):∃ cells,w.heap[k]? = some (.cells cells e (0,0)):=by
 rcases h.2 with ⟨rfl,_⟩ | ⟨g,cap,cur,rfl,hg,hh,r⟩
 ·simp [Value.ownBlock] at hk
 ·have:g=k:=by simpa [Value.ownBlock] using hk
  subst this
  exact ⟨cur,hh⟩
namespace Kd
def C {α:Type} (d:Kd α) (w:World) (A:Option Addr) (n:Nat) (xs:List α):Prop:=ReadsRow (d.K w) d.sz w A n xs
def R {α:Type} (d:Kd α) (e:Nat) (w:World) (base:Nat) (ok:Nat→Prop) (v:Value) (xs:List α):Prop :=
 (∀ k,v.ownBlock=some k→ok k)∧OwnRow (d.M w base (fun k=>ok k∧some k≠v.ownBlock)) e d.sz w base v xs
section
variable {α : Type} {d : Kd α} {e : Nat} {w w1 : World} {base : Nat} {ok ok' : Nat → Prop} {v : Value} {xs : List α}
theorem C_below {A:Option Addr} {n:Nat} (h:d.C w A n xs) (hb:Below w.heap.size w w1):d.C w1 A n xs:=ReadsRow.imp_ h hb (fun _ _ hp=>d.K_below hb hp)
theorem R_nil (d:Kd α) (e:Nat) (w:World) (base:Nat) (ok:Nat→Prop):d.R e w base ok (.slice none 0 0) []:=⟨fun k hk=>by simp [Value.ownBlock] at hk,OwnRow.none_ _ _ _ _ _⟩
theorem R_mono (h:d.R e w base ok v xs) (hok:∀ k,ok k→ok' k):d.R e w base ok' v xs:=⟨fun k hk=>hok k (h.1 k hk),h.2.imp_ (fun _ _ hp=>d.M_mono (fun k hk=>⟨hok k hk.1,hk.2⟩) hp)⟩
theorem R_bound (h:d.R e w base ok v xs):d.R e w base (fun k=>ok k∧base≤k∧k < w.heap.size∧∃ q,q∈e :: d.E∧∃ cells,w.heap[k]? = some (.cells cells q (0,0))) v xs:=by
 obtain ⟨h0,inner,ho,hr⟩:=h
 refine ⟨fun k hk=>?_,inner,ho,hr.imp_ (fun _ _ hp=>d.M_mono (fun k hk=>?_) (d.M_bound hp))⟩
 ·obtain ⟨cells,hc⟩:=own_typed ho k hk
  exact ⟨h0 k hk,own_base ho k hk,own_lt ho k hk,e,List.mem_cons_self,cells,hc⟩
 ·obtain ⟨⟨h1,h2⟩,h3,h4,q,hq,hc⟩:=hk
  exact ⟨⟨h1,h3,h4,q,List.mem_cons_of_mem _ hq,hc⟩,h2⟩
theorem R_move (h:d.R e w base ok v xs) (hm:∀ k,ok k→w1.heap[k]? = w.heap[k]?):d.R e w1 base ok v xs:=by
 obtain ⟨h0,inner,ho,hr⟩:=h
 exact ⟨h0,inner,own_move ho (fun k hk=>hm k (h0 k hk)),hr.imp_ (fun _ _ hp=>d.M_move (fun k hk=>hm k hk.1) hp)⟩
theorem R_lower {base':Nat} (h:d.R e w base ok v xs) (hb:base'≤base):d.R e w base' ok v xs:=by
 obtain ⟨h0,inner,ho,hr⟩:=h
 exact ⟨h0,inner,own_weaken ho hb,hr.imp_ (fun _ _ hp=>d.M_lower hb hp)⟩
theorem R_step (h:d.R e w base ok v xs) (hm:∀ k,ok k→k < w.heap.size→w1.heap[k]? = w.heap[k]?):d.R e w1 base ok v xs :=
 R_mono (R_move (R_bound h) (fun k hk=>hm k hk.1 hk.2.2.1)) (fun _ hk=>hk.1)
theorem M_step {x:α} {cs:List Value} (h:d.M w base ok x cs) (hm:∀ k,ok k→k < w.heap.size→w1.heap[k]? = w.heap[k]?):d.M w1 base ok x cs :=
 d.M_mono (fun _ hk=>hk.1) (d.M_move (fun k hk=>hm k hk.1 hk.2.2.1) (d.M_bound h))
theorem R_below (h:d.R e w base ok v xs) (hb:Below w.heap.size w w1):d.R e w1 base ok v xs:=R_step h (fun k _ hk=>hb.block k hk)
theorem M_below {x:α} {cs:List Value} (h:d.M w base ok x cs) (hb:Below w.heap.size w w1):d.M w1 base ok x cs:=M_step h (fun k _ hk=>hb.block k hk)
theorem R_far (h:d.R e w base ok v xs) {p:Addr} (hok:∀ k,ok k→k≠p.block) (u:Value):d.R e (w.setCell p u) base ok v xs:=R_step h (fun k ho _=>Below.heap_setCell w p u k (hok k ho))
theorem R_types (h:d.R e w base ok v xs) {g t:Nat} {cells:Array Value} (hb:w.heap[g]? = some (.cells cells t (0,0))) (ht:∀ q,q∈e :: d.E→q≠t):d.R e w base (fun k=>ok k∧k≠g) v xs :=
 R_mono (R_bound h) (fun k hk=>⟨hk.1,by
  obtain ⟨_,_,_,q,hq,cells',hc⟩:=hk
  rintro rfl
  rw [hc] at hb
  injection hb with hb
  injection hb with _ hb
  exact ht q hq hb⟩)
theorem R_reads (h:d.R e w base ok v xs):∃ A c,v=.slice A xs.length c∧xs.length≤c∧d.C w A xs.length xs:=by
 obtain ⟨A,c,he,hl,hr⟩:=OwnRow.reads h.2
 exact ⟨A,c,he,hl,hr.imp_ (Below.refl _ _) (fun _ _ hp=>d.K_of_M hp)⟩
theorem R_slice (h:d.R e w base ok v xs):∃ A c,v=.slice A xs.length c:=by
 obtain ⟨A,c,he,_⟩:=R_reads h
 exact ⟨A,c,he⟩
theorem R_own (h:d.R e w base ok v xs):∃ inner,w.ownsRow base e d.sz v xs.length inner:=by
 obtain ⟨_,inner,ho,_⟩:=h
 exact ⟨inner,ho⟩
theorem R_ne (h:d.R e w base ok v xs) {g t:Nat} {cells:Array Value} (hb:w.heap[g]? = some (.cells cells t (0,0))) (ht:e≠t):some g≠v.ownBlock:=OwnRow.ne_block h.2 hb ht
end
def scalar {α:Type} (enc:α→Value) (h1:∀ x,(enc x).oneCell'=true):Kd α where
  sz:=1
  E:=[]
  K:=fun _ x cs=>cs=[enc x]
  M:=fun _ _ _ x cs=>cs=[enc x]
  K_len:=fun h=>by rw [h];rfl
  K_one:=fun h u hu=>by
    rw [h] at hu
    rw [List.mem_singleton.1 hu]
    exact h1 _
  K_below:=fun _ h=>h
  K_of_M:=fun h=>h
  M_mono:=fun _ h=>h
  M_bound:=fun h=>h
  M_move:=fun _ h=>h
  M_lower:=fun _ h=>h
def int (k:IntKind):Kd Int:=scalar (Value.int k) (fun _=>rfl)
def bool:Kd Bool:=scalar Value.bool (fun _=>rfl)
def slice {α:Type} (e:Nat) (d:Kd α):Kd (List α) where
  sz:=1
  E:=e :: d.E
  K:=fun w xs cs=>∃ A c,cs=[.slice A xs.length c]∧xs.length≤c∧d.C w A xs.length xs
  M:=fun w base ok xs cs=>∃ v,cs=[v]∧d.R e w base ok v xs
  K_len:=by
    rintro w x cs ⟨A,c,rfl,_⟩
    rfl
  K_one:=by
    rintro w x cs ⟨A,c,rfl,_⟩ u hu
    rw [List.mem_singleton.1 hu]
    rfl
  K_below:=by
    rintro w w1 x cs hb ⟨A,c,rfl,hl,hr⟩
    exact ⟨A,c,rfl,hl,C_below hr hb⟩
  K_of_M:=by
    rintro w base ok x cs ⟨v,rfl,h⟩
    obtain ⟨A,c,rfl,hl,hr⟩:=R_reads h
    exact ⟨A,c,rfl,hl,hr⟩
  M_mono:=by
    rintro w base ok ok' x cs hok ⟨v,rfl,h⟩
    exact ⟨v,rfl,R_mono h hok⟩
  M_bound:=by
    rintro w base ok x cs ⟨v,rfl,h⟩
    exact ⟨v,rfl,R_bound h⟩
  M_move:=by
    rintro w w1 base ok x cs hm ⟨v,rfl,h⟩
    exact ⟨v,rfl,R_move h hm⟩
  M_lower:=by
    rintro w base base' ok x cs hb ⟨v,rfl,h⟩
    exact ⟨v,rfl,R_lower h hb⟩
def pair {α β:Type} (a:Kd α) (b:Kd β):Kd (α×β) where
  sz:=a.sz+b.sz
  E:=a.E ++ b.E
  K:=fun w x cs=>∃ c0 c1,cs=c0 ++ c1∧a.K w x.1 c0∧b.K w x.2 c1
  M:=fun w base ok x cs=>∃ c0 c1,cs=c0 ++ c1∧a.M w base ok x.1 c0∧b.M w base ok x.2 c1
  K_len:=by
    rintro w x cs ⟨c0,c1,rfl,h0,h1⟩
    rw [List.length_append,a.K_len h0,b.K_len h1]
  K_one:=by
    rintro w x cs ⟨c0,c1,rfl,h0,h1⟩ u hu
    rcases List.mem_append.1 hu with hu | hu
    · exact a.K_one h0 u hu
    · exact b.K_one h1 u hu
  K_below:=by
    rintro w w1 x cs hb ⟨c0,c1,rfl,h0,h1⟩
    exact ⟨c0,c1,rfl,a.K_below hb h0,b.K_below hb h1⟩
  K_of_M:=by
    rintro w base ok x cs ⟨c0,c1,rfl,h0,h1⟩
    exact ⟨c0,c1,rfl,a.K_of_M h0,b.K_of_M h1⟩
  M_mono:=by
    rintro w base ok ok' x cs hok ⟨c0,c1,rfl,h0,h1⟩
    exact ⟨c0,c1,rfl,a.M_mono hok h0,b.M_mono hok h1⟩
  M_bound:=by
    rintro w base ok x cs ⟨c0,c1,rfl,h0,h1⟩
    refine ⟨c0,c1,rfl,a.M_mono ?_ (a.M_bound h0),b.M_mono ?_ (b.M_bound h1)⟩
    · rintro k ⟨h2,h3,h4,q,hq,hc⟩
      exact ⟨h2,h3,h4,q,List.mem_append_left _ hq,hc⟩
    · rintro k ⟨h2,h3,h4,q,hq,hc⟩
      exact ⟨h2,h3,h4,q,List.mem_append_right _ hq,hc⟩
  M_move:=by
    rintro w w1 base ok x cs hm ⟨c0,c1,rfl,h0,h1⟩
    exact ⟨c0,c1,rfl,a.M_move hm h0,b.M_move hm h1⟩
  M_lower:=by
    rintro w base base' ok x cs hb ⟨c0,c1,rfl,h0,h1⟩
    exact ⟨c0,c1,rfl,a.M_lower hb h0,b.M_lower hb h1⟩
def iso {α β:Type} (d:Kd α) (f:β→α):Kd β where
 sz:=d.sz
 E:=d.E
 K:=fun w x cs=>d.K w (f x) cs
 M:=fun w base ok x cs=>d.M w base ok (f x) cs
 K_len:=d.K_len
 K_one:=d.K_one
 K_below:=d.K_below
 K_of_M:=d.K_of_M
 M_mono:=d.M_mono
 M_bound:=d.M_bound
 M_move:=d.M_move
 M_lower:=d.M_lower
def bot {α:Type} (sz:Nat) (E:List Nat):Kd α where
 sz:=sz
 E:=E
 K:=fun _ _ _=>False
 M:=fun _ _ _ _ _=>False
 K_len:=fun h=>h.elim
 K_one:=fun h=>h.elim
 K_below:=fun _ h=>h
 K_of_M:=fun h=>h
 M_mono:=fun _ h=>h
 M_bound:=fun h=>h
 M_move:=fun _ h=>h
 M_lower:=fun _ h=>h
def upto {α:Type} (F:Kd α→Kd α) (sz:Nat) (E:List Nat):Nat→Kd α
 | 0=>bot sz E
 | n+1=>F (upto F sz E n)
theorem C_get {α:Type} {d:Kd α} {w:World} {A:Option Addr} {n:Nat} {xs:List α} (h:d.C w A n xs) (z:α) (i:Int) (h0:0≤i) (h1:i < n) :
  ∃ ad c,A=some ad∧c.length=d.sz∧d.K w (xs.getD i.toNat z) c∧∀ j u,c[j]? = some u→w.cell? (ad.add (i.toNat * d.sz+j))=some u:=ReadsRow.get_ h z i h0 h1
theorem R_appended {α:Type} {d:Kd α} {e base:Nat} {ok okp:Nat→Prop} {W w1:World} {v v1:Value} {xs:List α} {p:α} {inner cs:List Value} (h0:∀ k,v.ownBlock=some k→ok k) (hr:Reps (d.M W base (fun k=>ok k∧some k≠v.ownBlock)) d.sz xs inner) (hp:d.M W base okp p cs) (hokp:∀ k,okp k→ok k∧some k≠v.ownBlock) (hfresh:∀ k,W.heap.size≤k→ok k)
  (hown:w1.ownsRow base e d.sz v1 (xs.length+1) (inner ++ cs)) (hg:W.grownBy w1 v.ownBlock) (hat:v1.ownBlock=v.ownBlock∨∃ b,v1.ownBlock=some b∧W.heap.size≤b):d.R e w1 base ok v1 (xs ++ [p]):=by
 have hne:∀ k,some k≠v.ownBlock→k < W.heap.size→some k≠v1.ownBlock:=by
  intro k hk hlt
  rcases hat with hat | ⟨b,hb,hle⟩
  ·rw [hat];exact hk
  ·rw [hb]
   intro he
   injection he with he
   omega
 have step:∀ {q:α} {c:List Value} {o:Nat→Prop},d.M W base o q c→(∀ k,o k→ok k∧some k≠v.ownBlock)→d.M w1 base (fun k=>ok k∧some k≠v1.ownBlock) q c:=by
  intro q c o hq ho
  have h1:=d.M_move (w1:=w1) (fun k hk=>hg.block k hk.2.2.1 (ho k hk.1).2) (d.M_bound hq)
  exact d.M_mono (fun k hk=>⟨(ho k hk.1).1,hne k (ho k hk.1).2 hk.2.2.1⟩) h1
 refine ⟨fun k hk=>?_,inner ++ cs,by rw [List.length_append,List.length_singleton];exact hown,?_⟩
 ·rcases hat with hat | ⟨b,hb,hle⟩
  ·exact h0 k (hat ▸ hk)
  ·rw [hb] at hk
   injection hk with hk
   exact hfresh k (by omega)
 ·exact (hr.imp_ (fun _ _ hq=>step hq (fun _ hk=>hk))).snoc (step hp hokp) (d.K_len (d.K_of_M hp))
section
variable {P : Program} {ops : Array Oper} {rest : List Oper} {o : Oper} {a : Act} {Q : Exit → Act → World → Prop} {α : Type}
theorem R_append (d:Kd α) {w0 W:World} (base:Nat) (hgd:o.guard=none) (s x:Operand) (t e:TypeId) (z:Value) (bytes:Nat)
  (ho:o.op=.call { callee:=.builtin .append,args:=#[s,x],argTypes:=#[t,t] })
  (ht:P.underlying t=some (.slice e)) (hinfo:(P.info? e).map (fun i=>(i.zero,i.size,i.bytes))=some (some z,d.sz,bytes)) (hz:z.cells.size=d.sz) (hs0:0 < d.sz) (hb0:0 < bytes)
  (v:Value) (xs:List α) (p:α) (cs:List Value) (ok okp:Nat→Prop) (hs:a.eval s=v) (hx:a.eval x=.slice (some ⟨W.heap.size,0,none⟩) 1 1) (hp:d.M W base okp p cs) (hokp:∀ k,okp k→ok k∧some k≠v.ownBlock) (hfresh:∀ k,W.heap.size≤k→ok k)
  (HO:d.R e W base ok v xs) (HB:Below base w0 W) (hbase:base≤W.heap.size) (hl:(xs.length+1) * bytes≤140737488355328)
  (h:∀ v1 w1,d.R e w1 base ok v1 (xs ++ [p])→Below base w0 w1→W.grownBy w1 v.ownBlock→(v1.ownBlock=v.ownBlock∨∃ b,v1.ownBlock=some b∧W.heap.size≤b)→wpList P ops Q rest (a.put o.dst v1) w1) :
  wpList P ops Q (o :: rest) a (W.alloc (.cells cs.toArray e)):=by
 obtain ⟨h0,inner,hown,hr⟩:=HO
 refine print_append_cells base hgd s x t e z d.sz bytes ho ht hinfo hz hs0 hb0 v xs.length inner cs hs hx (d.K_len (d.K_of_M hp)) (d.K_one (d.K_of_M hp)) hown HB hbase hl ?_
 intro v1 w1 hown1 hb1 hg1 hat1
 exact h v1 w1 (R_appended h0 hr hp hokp hfresh hown1 hg1 hat1) hb1 hg1 hat1
end
section
variable {P : Program} {ops : Array Oper} {o : Oper} {a : Act} {Q : Exit → Act → World → Prop} {Kc : Act → World → Prop} {α : Type}
theorem R_append_step (d:Kd α) {w0 W:World} (base:Nat) (hw:Region.wanted o (yielded ops a.tmps)=true) (s x:Operand) (t e:TypeId) (z:Value) (bytes:Nat)
  (ho:o.op=.call { callee:=.builtin .append,args:=#[s,x],argTypes:=#[t,t] })
  (ht:P.underlying t=some (.slice e)) (hinfo:(P.info? e).map (fun i=>(i.zero,i.size,i.bytes))=some (some z,d.sz,bytes)) (hz:z.cells.size=d.sz) (hs0:0 < d.sz) (hb0:0 < bytes)
  (v:Value) (xs:List α) (p:α) (cs:List Value) (ok okp:Nat→Prop) (hs:a.eval s=v) (hx:a.eval x=.slice (some ⟨W.heap.size,0,none⟩) 1 1) (hp:d.M W base okp p cs) (hokp:∀ k,okp k→ok k∧some k≠v.ownBlock) (hfresh:∀ k,W.heap.size≤k→ok k)
  (HO:d.R e W base ok v xs) (HB:Below base w0 W) (hbase:base≤W.heap.size) (hl:(xs.length+1) * bytes≤140737488355328)
  (h:∀ v1 w1,d.R e w1 base ok v1 (xs ++ [p])→Below base w0 w1→W.grownBy w1 v.ownBlock→(v1.ownBlock=v.ownBlock∨∃ b,v1.ownBlock=some b∧W.heap.size≤b)→Kc (a.put o.dst v1) w1) :
  if Region.wanted o (yielded ops a.tmps)=true then Oper.wp P o a (W.alloc (.cells cs.toArray e)) Kc Q else Kc (a.put o.dst undef) (W.alloc (.cells cs.toArray e)):=by
 obtain ⟨h0,inner,hown,hr⟩:=HO
 refine step_append_cells base hw s x t e z d.sz bytes ho ht hinfo hz hs0 hb0 v xs.length inner cs hs hx (d.K_len (d.K_of_M hp)) (d.K_one (d.K_of_M hp)) hown HB hbase hl ?_
 intro v1 w1 hown1 hb1 hg1 hat1
 exact h v1 w1 (R_appended h0 hr hp hokp hfresh hown1 hg1 hat1) hb1 hg1 hat1
end
theorem reps_scalar {α:Type} {enc:α→Value} (xs:List α):Reps (fun (x:α) (cs:List Value)=>cs=[enc x]) 1 xs (encs enc xs):=by
 refine ⟨by simp [encs],fun j p hj=>?_⟩
 obtain ⟨hl,hp⟩:=List.getElem?_eq_some_iff.1 hj
 have hl':j < (encs enc xs).length:=by rw [encs_length];exact hl
 rw [Nat.mul_one,List.drop_eq_getElem_cons hl']
 simp [encs,hp]
theorem R_of_own {α:Type} {enc:α→Value} {h1:∀ x,(enc x).oneCell'=true} {e:Nat} {w:World} {base:Nat} {ok:Nat→Prop} {v:Value} {xs:List α} (ho:w.ownsRow base e 1 v xs.length (encs enc xs)) (hok:∀ k,v.ownBlock=some k→ok k):(scalar enc h1).R e w base ok v xs:=⟨hok,encs enc xs,ho,reps_scalar xs⟩
theorem own_of_R {α:Type} {enc:α→Value} {h1:∀ x,(enc x).oneCell'=true} {e:Nat} {w:World} {base:Nat} {ok:Nat→Prop} {v:Value} {xs:List α} (h:(scalar enc h1).R e w base ok v xs):w.ownsRow base e 1 v xs.length (encs enc xs):=by
  obtain ⟨_,inner,ho,hr⟩:=h
  have:inner=encs enc xs:=by
    apply List.ext_getElem?
    intro j
    rcases Nat.lt_or_ge j xs.length with hj | hj
    · have h2:=hr.2 j _ (List.getElem?_eq_getElem hj)
      have hl:j < inner.length:=by have:=hr.1;simp [scalar] at this;omega
      have h3:(inner.drop (j * 1)).take 1=[enc xs[j]]:=h2
      rw [Nat.mul_one,List.drop_eq_getElem_cons hl] at h3
      have h4:inner[j]=enc xs[j]:=by
        have h5:=congrArg List.head? h3
        rw [List.take_succ_cons] at h5
        exact Option.some.inj h5
      rw [List.getElem?_eq_getElem hl,h4]
      simp [encs,List.getElem?_eq_getElem hj]
    · have h3:inner.length=xs.length:=by have:=hr.1;simp [scalar] at this;omega
      rw [List.getElem?_eq_none (by omega),List.getElem?_eq_none (by rw [encs_length];omega)]
  rw [← this]
  exact ho
theorem reads_of_C {α:Type} {enc:α→Value} {d:α} {h1:∀ x,(enc x).oneCell'=true} {w:World} {A:Option Addr} {n:Nat} {xs:List α} (h:(scalar enc h1).C w A n xs):ReadsOf enc d w A n xs:=by
 refine ⟨h.1,h.2.1,fun hn=>?_⟩
 obtain ⟨ad,e,hc⟩:=h.2.2 hn
 refine ⟨ad,e,fun j hj=>?_⟩
 have hl:j < xs.length:=by have:=h.1;omega
 obtain ⟨c,_,hK,hcell⟩:=hc j _ (List.getElem?_eq_getElem hl)
 have hK':c=[enc xs[j]]:=hK
 subst hK'
 have:=hcell 0 _ rfl
 simpa [scalar,List.getD_eq_getElem?_getD,List.getElem?_eq_getElem hl] using this
end Kd
namespace Kd
theorem R_after {α:Type} {d:Kd α} {e base:Nat} {ok:Nat→Prop} {W w1:World} {u v v1:Value} {xs:List α} (h:d.R e W base (fun k=>ok k∧some k≠v.ownBlock) u xs) (hg:W.grownBy w1 v.ownBlock) (hat:v1.ownBlock=v.ownBlock∨∃ b,v1.ownBlock=some b∧W.heap.size≤b):d.R e w1 base (fun k=>ok k∧some k≠v1.ownBlock) u xs:=by
 refine R_mono (R_move (R_bound h) (fun k hk=>hg.block k hk.2.2.1 hk.1.2)) (fun k hk=>⟨hk.1.1,?_⟩)
 rcases hat with hat | ⟨b,hb,hle⟩
 ·rw [hat];exact hk.1.2
 ·rw [hb]
  intro he
  injection he with he
  have:=hk.2.2.1
  omega
end Kd
namespace Kd
section
variable {α β : Type} {d : Kd α} {d' : Kd β} {e e' : Nat} {w w1 W : World} {base b b' : Nat} {ok ok' okv oku : Nat → Prop} {v u : Value} {xs : List α} {ys : List β}
theorem R_alloc (h:d.R e w base ok v xs) (o:Obj):d.R e (w.alloc o) base ok v xs:=R_below h (below_alloc (Below.refl _ _) o)
theorem R_drew (h:d.R e w base ok v xs):d.R e w.drew base ok v xs:=R_below h (below_drew (Below.refl _ _))
theorem R_drewN (h:d.R e w base ok v xs) (m:Nat):d.R e (w.drewN m) base ok v xs:=R_below h (pw_below_drewN (Below.refl _ _) m)
theorem C_alloc {A:Option Addr} {n:Nat} (h:d.C w A n xs) (o:Obj):d.C (w.alloc o) A n xs:=C_below h (below_alloc (Below.refl _ _) o)
theorem C_drew {A:Option Addr} {n:Nat} (h:d.C w A n xs):d.C w.drew A n xs:=C_below h (below_drew (Below.refl _ _))
theorem C_drewN {A:Option Addr} {n:Nat} (h:d.C w A n xs) (m:Nat):d.C (w.drewN m) A n xs:=C_below h (pw_below_drewN (Below.refl _ _) m)
theorem C_nil (d:Kd α) (w:World):d.C w none ([]:List α).length []:=⟨rfl,by simp,fun h=>absurd h (Nat.lt_irrefl 0)⟩
theorem R_reads' {A:Option Addr} {n c:Nat} (h:d.R e w base ok (.slice A n c) xs):n=xs.length∧n≤c∧d.C w A xs.length xs:=by
 obtain ⟨A',c',he,hl,hr⟩:=R_reads h
 injection he with h1 h2 h3
 subst h1
 exact ⟨h2,by omega,hr⟩
theorem R_lt (h:d.R e w base ok v xs):∀ k,v.ownBlock=some k→k < w.heap.size:=by
 obtain ⟨inner,ho⟩:=R_own h
 exact own_lt ho
theorem R_base (h:d.R e w base ok v xs):∀ k,v.ownBlock=some k→base≤k:=by
 obtain ⟨inner,ho⟩:=R_own h
 exact own_base ho
theorem R_away (h:d.R e w base ok v xs) {g:Nat} (hok:∀ k,ok k→k≠g):some g≠v.ownBlock:=fun e=>hok g (h.1 g e.symm) rfl
theorem R_form (h:d.R e w base ok v xs) (hp:0 < xs.length):∃ g cap,v=.slice (some ⟨g,0,none⟩) xs.length cap∧base≤g∧g < w.heap.size∧∃ cells,w.heap[g]? = some (.cells cells e (0,0)):=by
 obtain ⟨inner,ho⟩:=R_own h
 obtain ⟨g,cap,he,hb,hl⟩:=ho.form hp
 obtain ⟨cells,hc⟩:=own_typed ho g (by rw [he];simp [Value.ownBlock])
 exact ⟨g,cap,he,hb,hl,cells,hc⟩
end
section
variable {w W : World} {A : Option Addr} {n : Nat}
theorem at_int {k:IntKind} {xs:List Int} (h:(Kd.int k).C w A n xs) (i:Int) (h0:0≤i) (h1:i < n):∃ ad,A=some ad∧w.cell? (ad.add i.toNat)=some (.int k (rd xs i)) :=
 ReadsOf.at_ (reads_of_C (enc:=Value.int k) (d:=(0:Int)) (h1:=fun _=>rfl) h) i h0 h1
variable {α : Type} {enc : α → Value} {h1 : ∀ x, (enc x).oneCell' = true} {e base g cap : Nat} {ok : Nat → Prop} {xs : List α}
theorem R_cell (d:α) (h:(scalar enc h1).R e W base ok (.slice (some ⟨g,0,none⟩) xs.length cap) xs) (i:Int) (h0:0≤i) (hi:i < xs.length):W.cell? ⟨g,i.toNat,none⟩=some (enc (rdOf d xs i))∧W.frozen? ⟨g,i.toNat,none⟩=false:=own_at_of (own_of_R h) i h0 hi
theorem R_put (h:(scalar enc h1).R e W base ok (.slice (some ⟨g,0,none⟩) xs.length cap) xs) (i:Int) (x:α):(scalar enc h1).R e (W.setCell ⟨g,i.toNat,none⟩ (enc x)) base ok (.slice (some ⟨g,0,none⟩) xs.length cap) (xs.set i.toNat x)∧W.grownBy (W.setCell ⟨g,i.toNat,none⟩ (enc x)) (some g):=by
 obtain ⟨ho,hg⟩:=own_store_of (own_of_R h) i x
 exact ⟨R_of_own (by rw [List.length_set];exact ho) h.1,hg⟩
end
section
variable {P : Program} {ops : Array Oper} {rest : List Oper} {o : Oper} {a : Act} {Q : Exit → Act → World → Prop}
theorem event_run {W w1:World} {v:Value} (hgd:o.guard=none) (hrun:(execOp a.eval o).run P W=.ok (.value v) w1) (h:wpList P ops Q rest (a.put o.dst v) w1):wpList P ops Q (o :: rest) a W:=by
 refine wpList_plain hgd fun K hK=>?_
 unfold Oper.wp
 rw [hrun]
 exact hK _ _ h
variable {α : Type}
theorem R_lit (d:Kd α) {w0 W:World} (base e:Nat) (hgd:o.guard=none) {N:Tmp} (_hd:o.dst=some N) {xs:List α} {inner:List Value} {ok okp:Nat→Prop}
  (hrun:(execOp a.eval o).run P W=.ok (.value (.slice (some ⟨W.heap.size,0,none⟩) xs.length xs.length)) (W.alloc (.cells inner.toArray e)))
  (hrep:Reps (d.M W base okp) d.sz xs inner) (hok:∀ k,okp k→ok k) (hfresh:ok W.heap.size) (HB:Below base w0 W) (hbase:base≤W.heap.size) (hm:xs.length≤9223372036854775807)
  (h:∀ v1 w1,d.R e w1 base ok v1 xs→Below base w0 w1→W.grownBy w1 none→(∃ b,v1.ownBlock=some b∧W.heap.size≤b)→wpList P ops Q rest (a.put o.dst v1) w1):wpList P ops Q (o :: rest) a W:=by
 refine event_run hgd hrun (h _ _ ⟨fun k hk=>?_,inner,?_,?_⟩ (HB.alloc hbase _) (World.grownBy_alloc W _ none) ⟨W.heap.size,by simp [Value.ownBlock],Nat.le_refl _⟩)
 ·have:W.heap.size=k:=by simpa [Value.ownBlock] using hk
  subst this
  exact hfresh
 ·have h2:=World.ownsRow_lit (base:=base) (e:=e) (size:=d.sz) W inner.toArray xs.length hbase (by simpa [maxLen] using hm) (by simpa using hrep.1)
  simpa using h2
 ·refine hrep.imp_ (fun p c hp=>d.M_mono (fun k hk=>⟨hok k hk.1,fun he=>?_⟩) (M_below (d.M_bound hp) (below_alloc (Below.refl _ _) _)))
  have h3:k=W.heap.size:=by simpa [Value.ownBlock] using he
  have:=hk.2.2.1
  omega
end
end Kd
section
variable {P : Program}
theorem cut_to (t e:TypeId) (kh:IntKind) {i:TypeInfo} (ht:P.underlying t=some (.slice e)) (hi:P.info? e=some i) (A:Option Addr) (n c:Nat) (j:Int) (h0:0≤j) (hm:j≤n) (hc:n≤c) :
  ∀ W:World,(Instr.slice t (.slice A n c) none (some (.int kh j)) none).run P W=.ok (.slice A j.toNat c) W:=by
 intro W
 have hel:P.elem t=e:=by simp [Program.elem,ht]
 have hu:P.underlying t=some (.slice (P.elem t)):=by rw [hel];exact ht
 have ha:(A.map fun x=>x.add 0)=A:=by cases A <;> simp [Addr.add]
 rw [run_slice_h W t A n c hu kh j h0 (by omega),hel]
 simp [sizeOf,typeInfo,hi,sliced,Result.andThen,ha]
end
def QRow (w:World) (base:Nat) (e:TypeId) (size:Nat) (v:Value) (n:Nat) (xs:List Value):Prop :=
  xs.length=n * size ∧
  ((n=0∧∃ A,v=.slice A 0 0∧∀ a,A=some a→base≤a.block∧∃ cur,w.heap[a.block]? = some (.cells cur e (0,0))) ∨
   ∃ g off cap cur,v=.slice (some ⟨g,off * size,none⟩) n cap∧base≤g∧w.heap[g]? = some (.cells cur e (0,0))∧n≤cap∧off+cap≤maxLen∧cur.size=(off+cap) * size∧(cur.toList.drop (off * size)).take (n * size)=xs)
section
variable {w w1 : World} {base n size : Nat} {e : TypeId} {v : Value} {xs : List Value}
theorem setCells_far {g:Nat}:∀ (vs:List Value) (o:Nat) {w:World} (k:Nat),k≠g→(w.setCells g o vs).heap[k]? = w.heap[k]?
  | [],_,_,_,_=>rfl
  | v :: r,o,w,k,hk=>by
    rw [World.setCells,setCells_far r (o+1) k hk]
    exact Below.heap_setCell w ⟨g,o,none⟩ v k hk
theorem setCells_same (g:Nat):∀ (vs:List Value) (o:Nat) (w:World),(w.setCells g o vs).os=w.os∧(w.setCells g o vs).tape=w.tape∧(w.setCells g o vs).output=w.output∧(w.setCells g o vs).heap.size=w.heap.size
  | [],_,_=>⟨rfl,rfl,rfl,rfl⟩
  | v :: r,o,w=>by
    obtain ⟨h1,h2,h3,h4⟩:=setCells_same g r (o+1) (w.setCell ⟨g,o,none⟩ v)
    rw [World.setCells]
    exact ⟨h1,h2,h3,by rw [h4];simp [World.setCell]⟩
theorem setCells_row {g:Nat} {e:TypeId}:∀ (vs:List Value) (o:Nat) (w:World) (cur:Array Value),w.heap[g]? = some (.cells cur e (0,0))→o+vs.length≤cur.size →
    ∃ cur',(w.setCells g o vs).heap[g]? = some (.cells cur' e (0,0))∧cur'.size=cur.size∧cur'.toList=cur.toList.take o ++ vs ++ cur.toList.drop (o+vs.length)
  | [],o,w,cur,h,_=>⟨cur,h,rfl,by simp⟩
  | v :: r,o,w,cur,h,hl=>by
    have h2:=blk_set h o v
    simp only [List.length_cons] at hl
    obtain ⟨cur',h3,h4,h5⟩:=setCells_row r (o+1) (w.setCell ⟨g,o,none⟩ v) _ h2 (by simp;omega)
    refine ⟨cur',h3,by rw [h4];simp,?_⟩
    rw [h5,Array.toList_setIfInBounds]
    have ho:o < cur.toList.length:=by rw [Array.length_toList];omega
    rw [List.take_set,List.drop_set_of_lt (by omega)]
    simp only [List.length_cons]
    rw [show o+1+r.length=o+(r.length+1) by omega]
    congr 1
    rw [List.take_succ_eq_append_getElem ho,List.set_append_right _ _ (by rw [List.length_take];omega)]
    have ho':o < cur.size:=by omega
    simp [Nat.min_eq_left (Nat.le_of_lt ho')]
end
namespace Kd
def Q {α:Type} (d:Kd α) (e:Nat) (w:World) (base:Nat) (ok:Nat→Prop) (v:Value) (xs:List α):Prop :=
 (∀ k,v.ownBlock=some k→ok k)∧∃ inner,QRow w base e d.sz v xs.length inner∧Reps (d.M w base (fun k=>ok k∧some k≠v.ownBlock)) d.sz xs inner
end Kd
namespace Kd
section
variable {α : Type} {d : Kd α} {e e' : Nat} {w w1 W : World} {base : Nat} {ok : Nat → Prop} {u v : Value} {xs : List α}
theorem R_typed (h:d.R e w base ok v xs):∀ k,v.ownBlock=some k→∃ cells,w.heap[k]? = some (.cells cells e (0,0)):=by
 obtain ⟨inner,ho⟩:=R_own h
 exact fun k hk=>own_typed ho k hk
theorem R_over' (h:d.R e W base ok u xs) (hty:∀ k,v.ownBlock=some k→∃ cells,W.heap[k]? = some (.cells cells e' (0,0))) (ht:∀ q,q∈e :: d.E→q≠e') (hg:W.grownBy w1 v.ownBlock):d.R e w1 base ok u xs:=by
 refine R_mono (R_move (R_bound h) (fun k hk=>hg.block k hk.2.2.1 (fun he=>?_))) (fun _ hk=>hk.1)
 obtain ⟨_,_,_,q,hq,cells,hc⟩:=hk
 obtain ⟨cells',hc'⟩:=hty k he.symm
 rw [hc] at hc'
 injection hc' with hc'
 injection hc' with _ hc'
 exact ht q hq hc'
theorem R_elder' (hu:d.R e W base ok u xs) (hbase:∀ k,v.ownBlock=some k→W.heap.size≤k) (hb:Below W.heap.size W w1):d.R e w1 base (fun k=>ok k∧some k≠v.ownBlock) u xs :=
 R_mono (R_move (R_bound hu) (fun k hk=>hb.block k hk.2.2.1)) (fun k hk=>⟨hk.1,fun he=>by have:=hbase k he.symm;have:=hk.2.2.1;omega⟩)
theorem R_new' (h:d.R e w1 W.heap.size ok v xs) (hlt:∀ k,u.ownBlock=some k→k < W.heap.size):d.R e w1 W.heap.size (fun k=>ok k∧some k≠u.ownBlock) v xs :=
 R_mono (R_bound h) (fun k hk=>⟨hk.1,fun he=>by have:=hlt k he.symm;have:=hk.2.1;omega⟩)
theorem fresh' (hlt:∀ k,u.ownBlock=some k→k < W.heap.size):∀ k,W.heap.size≤k→some k≠u.ownBlock:=fun k hk he=>by have:=hlt k he.symm;omega
end
end Kd
theorem seg_get {α:Type} (a seg:List α) (o:Nat) (h:o+seg.length≤a.length) (q:Nat) :
  (a.take o ++ seg ++ a.drop (o+seg.length))[q]? = if q < o then a[q]? else if q < o+seg.length then seg[q - o]? else a[q]? := by
 have hl:(a.take o).length=o:=by rw [List.length_take];omega
 rw [List.append_assoc]
 by_cases h1:q < o
 ·rw [if_pos h1,List.getElem?_append_left (by omega),List.getElem?_take,if_pos h1]
 ·rw [if_neg h1,List.getElem?_append_right (by omega),hl]
  by_cases h2:q < o+seg.length
  ·rw [if_pos h2,List.getElem?_append_left (by omega)]
  ·rw [if_neg h2,List.getElem?_append_right (by omega),List.getElem?_drop]
   congr 1
   omega
namespace Kd
section
variable {α : Type} {d : Kd α} {e base g n cap : Nat} {ok okp : Nat → Prop} {W : World} {xs : List α}
theorem R_elem (h:d.R e W base ok (.slice (some ⟨g,0,none⟩) n cap) xs) (z:α) (i:Int) (h0:0≤i) (h1:i < n) :
  ∃ c,c.length=d.sz∧d.M W base (fun k=>ok k∧k≠g) (xs.getD i.toNat z) c∧(∀ j u,c[j]? = some u→W.cell? ⟨g,i.toNat * d.sz+j,none⟩=some u)∧∀ j,W.frozen? ⟨g,i.toNat * d.sz+j,none⟩=false:=by
 obtain ⟨hn,hnc,hC⟩:=R_reads' h
 obtain ⟨_,inner,ho,hr⟩:=h
 have hil:i.toNat < xs.length:=by omega
 have hseg:i.toNat * d.sz+d.sz≤inner.length:=by rw [hr.1,← Nat.succ_mul];exact Nat.mul_le_mul_right _ hil
 have hM:=hr.2 i.toNat _ (List.getElem?_eq_getElem hil)
 refine ⟨(inner.drop (i.toNat * d.sz)).take d.sz,by rw [List.length_take,List.length_drop];omega,?_,fun j u hu=>?_,fun j=>?_⟩
 ·rw [List.getD_eq_getElem?_getD,List.getElem?_eq_getElem hil]
  exact d.M_mono (fun k hk=>⟨hk.1,fun he=>hk.2 (by rw [he];simp [Value.ownBlock])⟩) hM
 ·rw [List.getElem?_take] at hu
  split at hu
  ·rw [List.getElem?_drop] at hu
   have:=ho.cells (g:=g) (by simp [Value.ownBlock]) _ u hu
   rwa [add_plain] at this
  ·cases hu
 ·obtain ⟨cells,hc⟩:=own_typed ho g (by simp [Value.ownBlock])
  exact blk_frozen hc _
theorem R_seg (h:d.R e W base ok (.slice (some ⟨g,0,none⟩) n cap) xs) (i:Int) (h0:0≤i) (h1:i < n) {c seg:List Value} {j:Nat} (hcl:c.length=d.sz) (hcc:∀ j u,c[j]? = some u→W.cell? ⟨g,i.toNat * d.sz+j,none⟩=some u)
    (hj:j+seg.length≤d.sz) {x':α} (hM:d.M W base okp x' (c.take j ++ seg ++ c.drop (j+seg.length))) (hokp:∀ k,okp k→ok k∧k≠g) :
    d.R e (W.setCells g (i.toNat * d.sz+j) seg) base ok (.slice (some ⟨g,0,none⟩) n cap) (xs.set i.toNat x')∧W.grownBy (W.setCells g (i.toNat * d.sz+j) seg) (some g):=by
  obtain ⟨hn,hnc,_⟩:=R_reads' h
  obtain ⟨hok,inner,ho,hr⟩:=h
  have hil:i.toNat < xs.length:=by omega
  have hseg:i.toNat * d.sz+d.sz≤inner.length:=by rw [hr.1,← Nat.succ_mul];exact Nat.mul_le_mul_right _ hil
  have hin:inner.length=n * d.sz:=by rw [hr.1,hn]
  obtain ⟨ho1,ho2⟩:=ho
  rcases ho2 with ⟨hv,_⟩ | ⟨g',cap',cur,hv,hb,hh,hnc',hcm,hcs,ht⟩
  · cases hv
  injection hv with ha _ hc
  injection ha with ha
  injection ha with hg
  subst hg;subst hc
  have hfit:i.toNat * d.sz+j+seg.length≤cur.size:=by
    have:n * d.sz≤cap * d.sz:=Nat.mul_le_mul_right _ hnc
    omega
  obtain ⟨cur',h3,h4,h5⟩:=setCells_row seg (i.toNat * d.sz+j) W cur hh hfit
  obtain ⟨s1,s2,s3,s4⟩:=setCells_same g seg (i.toNat * d.sz+j) W
  have hfar:∀ k,k≠g→(W.setCells g (i.toNat * d.sz+j) seg).heap[k]? = W.heap[k]? := fun k hk=>setCells_far seg _ k hk
  -- the element's cells before are what was read
  have hcin:∀ q,q < d.sz→c[q]? = inner[i.toNat * d.sz+q]? := by
    intro q hq
    have hq':q < c.length:=by omega
    have h6:=hcc q _ (List.getElem?_eq_getElem hq')
    rw [cell_of_row W g _ cur e (0,0) hh] at h6
    rw [List.getElem?_eq_getElem hq',← h6,← ht,List.getElem?_take,if_pos (by rw [← hn];omega),Array.getElem?_toList]
  refine ⟨⟨hok,inner.take (i.toNat * d.sz+j) ++ seg ++ inner.drop (i.toNat * d.sz+j+seg.length),⟨?_,.inr ⟨g,cap,cur',by rw [List.length_set,hn],hb,h3,by rw [List.length_set,← hn];exact hnc,hcm,by rw [h4,hcs],?_⟩⟩,?_⟩,
    ⟨s1,s2,s3,by rw [s4];exact Nat.le_refl _,fun k _ hk=>hfar k (fun he=>hk (by rw [he]))⟩⟩
  · rw [List.length_set]
    simp only [List.length_append,List.length_take,List.length_drop]
    rw [hr.1] at hseg ⊢
    omega
  · rw [List.length_set,← hn]
    apply List.ext_getElem?
    intro q
    rw [List.getElem?_take,h5]
    rw [seg_get cur.toList seg (i.toNat * d.sz+j) (by rw [Array.length_toList];omega) q,seg_get inner seg (i.toNat * d.sz+j) (by omega) q]
    have hcur:∀ q,q < n * d.sz→cur.toList[q]? = inner[q]? := by
      intro q hq
      rw [← ht,List.getElem?_take,if_pos (by rw [← hn];exact hq)]
    by_cases hq:q < n * d.sz
    · rw [if_pos hq,hcur q hq]
    · rw [if_neg hq,if_neg (by omega),if_neg (by omega),List.getElem?_eq_none (by omega)]
  · refine ⟨?_, fun m p hm=>?_⟩
    · rw [List.length_set]
      simp only [List.length_append,List.length_take,List.length_drop]
      rw [hr.1] at hseg ⊢
      omega
    · have hml:m < xs.length:=by
        have:=(List.getElem?_eq_some_iff.1 hm).1
        rwa [List.length_set] at this
      have hmfit:m * d.sz+d.sz≤inner.length:=by rw [hr.1,← Nat.succ_mul];exact Nat.mul_le_mul_right _ hml
      have hgo:some g=(Value.slice (some ⟨g,0,none⟩) n cap).ownBlock:=by simp [Value.ownBlock]
      by_cases hmi:m=i.toNat
      · subst hmi
        rw [List.getElem?_set_self (by omega)] at hm
        injection hm with hm
        subst hm
        have hcells:((inner.take (i.toNat * d.sz+j) ++ seg ++ inner.drop (i.toNat * d.sz+j+seg.length)).drop (i.toNat * d.sz)).take d.sz=c.take j ++ seg ++ c.drop (j+seg.length):=by
          apply List.ext_getElem?
          intro q
          rw [List.getElem?_take,List.getElem?_drop,seg_get inner seg _ (by omega),seg_get c seg j (by omega) q]
          by_cases hq:q < d.sz
          · rw [if_pos hq,hcin q hq]
            by_cases hq1:q < j
            · rw [if_pos (by omega),if_pos hq1]
            · rw [if_neg (by omega),if_neg hq1]
              by_cases hq2:q < j+seg.length
              · rw [if_pos (by omega),if_pos hq2]
                congr 1
                omega
              · rw [if_neg (by omega),if_neg hq2]
          · rw [if_neg hq,if_neg (by omega),if_neg (by omega),List.getElem?_eq_none (by omega)]
        rw [hcells]
        refine d.M_mono (fun k hk=>?_) (d.M_move (w1:=W.setCells g (i.toNat * d.sz+j) seg) (fun k hk=>hfar k (hokp k hk).2) hM)
        exact ⟨(hokp k hk).1,fun he=>(hokp k hk).2 (by rw [← hgo] at he;injection he)⟩
      · rw [List.getElem?_set_ne (by omega)] at hm
        have hold:=hr.2 m p hm
        have hcells:((inner.take (i.toNat * d.sz+j) ++ seg ++ inner.drop (i.toNat * d.sz+j+seg.length)).drop (m * d.sz)).take d.sz=(inner.drop (m * d.sz)).take d.sz:=by
          apply List.ext_getElem?
          intro q
          rw [List.getElem?_take,List.getElem?_take,List.getElem?_drop,List.getElem?_drop,seg_get inner seg _ (by omega)]
          by_cases hq:q < d.sz
          · rw [if_pos hq,if_pos hq]
            rcases Nat.lt_or_gt_of_ne hmi with hlt | hgt
            · have:m * d.sz+d.sz≤i.toNat * d.sz:=by rw [← Nat.succ_mul];exact Nat.mul_le_mul_right _ hlt
              rw [if_pos (by omega)]
            · have:i.toNat * d.sz+d.sz≤m * d.sz:=by rw [← Nat.succ_mul];exact Nat.mul_le_mul_right _ hgt
              rw [if_neg (by omega),if_neg (by omega)]
          · rw [if_neg hq,if_neg hq]
        rw [hcells]
        refine d.M_move (fun k hk=>hfar k (fun he=>hk.2 (by rw [he];exact hgo))) hold
end
end Kd
namespace Kd
theorem reps_append {α:Type} {R:α→List Value→Prop} {size:Nat} {ps qs:List α} {cs ds:List Value} (h:Reps R size ps cs) (h':Reps R size qs ds):Reps R size (ps ++ qs) (cs ++ ds):=by
 refine ⟨by rw [List.length_append,List.length_append,h.1,h'.1,Nat.add_mul],fun j p hj=>?_⟩
 rcases Nat.lt_or_ge j ps.length with hlt | hge
 ·rw [List.getElem?_append_left hlt] at hj
  have hle:j * size+size≤cs.length:=by rw [h.1,← Nat.succ_mul];exact Nat.mul_le_mul_right _ hlt
  rw [List.drop_append_of_le_length (by omega),List.take_append_of_le_length (by rw [List.length_drop];omega)]
  exact h.2 j p hj
 ·rw [List.getElem?_append_right hge] at hj
  have h2:=h'.2 (j - ps.length) p hj
  have hle:ps.length * size≤j * size:=Nat.mul_le_mul_right _ hge
  rw [List.drop_append,List.drop_eq_nil_of_le (by rw [h.1];exact hle),List.nil_append,h.1,← Nat.sub_mul]
  exact h2
section
variable {P : Program} {ops : Array Oper} {rest : List Oper} {o : Oper} {a : Act} {Q : Exit → Act → World → Prop} {α : Type}
theorem R_append_rows (d:Kd α) {Rr:α→List Value→Prop} {w0 W:World} (base:Nat) (hgd:o.guard=none) (s x:Operand) (t e:TypeId) (z:Value) (bytes:Nat)
    (ho:o.op=.call { callee:=.builtin .append,args:=#[s,x],argTypes:=#[t,t] })
    (ht:P.underlying t=some (.slice e)) (hinfo:(P.info? e).map (fun i=>(i.zero,i.size,i.bytes))=some (some z,d.sz,bytes)) (hz:z.cells.size=d.sz) (hs0:0 < d.sz) (hb0:0 < bytes)
    (v:Value) (xs ys:List α) (A:Option Addr) (m c:Nat) (ok okp:Nat→Prop) (hs:a.eval s=v) (hx:a.eval x=.slice A m c)
    (HO:d.R e W base ok v xs) (HR:ReadsRow Rr d.sz W A m ys) (hKM:∀ x cs,Rr x cs→d.M W base okp x cs) (hokp:∀ k,okp k→ok k∧some k≠v.ownBlock) (hfresh:∀ k,W.heap.size≤k→ok k)
    (HB:Below base w0 W) (hbase:base≤W.heap.size) (hl:(xs.length+m) * bytes≤140737488355328)
    (h:∀ v1 w1,d.R e w1 base ok v1 (xs ++ ys)→Below base w0 w1→W.grownBy w1 v.ownBlock→(v1.ownBlock=v.ownBlock∨∃ b,v1.ownBlock=some b∧W.heap.size≤b)→wpList P ops Q rest (a.put o.dst v1) w1) :
    wpList P ops Q (o :: rest) a W:=by
  obtain ⟨i0,hi,hzz⟩:=Option.map_eq_some_iff.1 hinfo
  simp only [Prod.mk.injEq] at hzz
  obtain ⟨hz0,hz1,hz2⟩:=hzz
  have hm:ys.length=m:=HR.1
  have hlen:xs.length+m≤140737488355328:=Nat.le_trans (Nat.le_mul_of_pos_right _ hb0) hl
  obtain ⟨hok,inner,hown,hr⟩:=HO
  have hrun:∃ v1 w1,(Builtin.append_ #[t,t] o.type #[v,.slice A m c]).run P W=.ok v1 w1∧d.R e w1 base ok v1 (xs ++ ys)∧W.grownBy w1 v.ownBlock∧(v1.ownBlock=v.ownBlock∨∃ b,v1.ownBlock=some b∧W.heap.size≤b):=by
    rcases A with _ | ad
    · have h0:m=0:=by
        rcases Nat.eq_zero_or_pos m with h0 | h0
        · exact h0
        · obtain ⟨ad,h,_⟩:=HR.2.2 h0
          cases h
      subst h0
      obtain rfl:ys=[]:=List.eq_nil_of_length_eq_zero hm
      refine ⟨v,W,?_,by rw [List.append_nil];exact ⟨hok,inner,hown,hr⟩,World.grownBy.refl W _,.inl rfl⟩
      rcases hown.2 with ⟨rfl,hn⟩ | ⟨g,cap,cur,rfl,_,_,hnc,_⟩
      · simp [Builtin.append_,run_underlying ht,sizeOf,typeInfo,hi,Builtin.lenOf,Builtin.firstCells]
      · simp [Builtin.append_,run_underlying ht,sizeOf,typeInfo,hi,Builtin.lenOf,Builtin.firstCells,hnc,storeCells]
    · obtain ⟨news,hnr,hnc⟩:=ReadsRow.inner_ HR
      have hnM:Reps (d.M W base okp) d.sz ys news:=hnr.imp_ (fun p c hp=>hKM p c hp)
      have hone:∀ u∈news,u.oneCell'=true:=by
        intro u hu
        obtain ⟨q,hq,rfl⟩:=List.mem_iff_getElem.1 hu
        have hql:q / d.sz < ys.length:=by
          rw [Nat.div_lt_iff_lt_mul hs0]
          rw [← hnM.1]
          exact hq
        have hc:=hnM.2 (q / d.sz) _ (List.getElem?_eq_getElem hql)
        refine d.K_one (d.K_of_M hc) _ ?_
        rw [List.mem_iff_getElem?]
        refine ⟨q % d.sz,?_⟩
        rw [List.getElem?_take,if_pos (Nat.mod_lt _ hs0),List.getElem?_drop,Nat.mul_comm,Nat.div_add_mod,List.getElem?_eq_getElem hq]
      obtain ⟨v1,w1,hrun,h2,hg,_,hat⟩:=run_append_own_at (P:=P) W base t o.type e i0 z d.sz bytes ht hi hz0 hz1 hz2 hz hs0 v xs.length inner hown ad m c news (by rw [hnM.1,hm]) hnc hone (by simp only [maxLen];omega) hl hbase
      have hat':v1.ownBlock=v.ownBlock∨∃ b,v1.ownBlock=some b∧W.heap.size≤b:=by
        rcases hat with hat | hat
        · exact .inl hat
        · exact .inr ⟨_,hat,Nat.le_refl _⟩
      have hne:∀ k,some k≠v.ownBlock→k < W.heap.size→some k≠v1.ownBlock:=by
        intro k hk hlt
        rcases hat' with hat | ⟨b,hb,hle⟩
        · rw [hat];exact hk
        · rw [hb]
          intro he
          injection he with he
          omega
      have step:∀ {q:α} {c:List Value} {o:Nat→Prop},d.M W base o q c→(∀ k,o k→ok k∧some k≠v.ownBlock)→d.M w1 base (fun k=>ok k∧some k≠v1.ownBlock) q c:=by
        intro q c o hq ho
        have h1:=d.M_move (w1:=w1) (fun k hk=>hg.block k hk.2.2.1 (ho k hk.1).2) (d.M_bound hq)
        exact d.M_mono (fun k hk=>⟨(ho k hk.1).1,hne k (ho k hk.1).2 hk.2.2.1⟩) h1
      refine ⟨v1,w1,hrun,⟨fun k hk=>?_,inner ++ news,by rw [List.length_append,hm];exact h2,reps_append (hr.imp_ (fun _ _ hq=>step hq (fun _ hk=>hk))) (hnM.imp_ (fun _ _ hq=>step hq hokp))⟩,hg,hat'⟩
      rcases hat' with hat | ⟨b,hb,hle⟩
      · exact hok k (hat ▸ hk)
      · rw [hb] at hk
        injection hk with hk
        exact hfresh k (by omega)
  obtain ⟨v1,w1,hr1,h1,hg,hat⟩:=hrun
  refine wpList_plain hgd fun K hK=>?_
  unfold Oper.wp execOp
  simp only [ho,resolve,invoke,builtin,Sem.run_bind,Sem.run_pure,Result.andThen_ok,List.map_toArray,List.map_cons,List.map_nil,hs,hx,hr1]
  exact hK _ _ (h v1 w1 h1 (HB.grown hg hbase (own_base hown)) hg hat)
end
end Kd
namespace Kd
section
variable {α : Type} {k : Kd α} {w : World} {A : Option Addr} {xs : List α} {m c : Nat}
theorem C_take (h:k.C w A xs.length xs) (hm:m≤xs.length):k.C w A (xs.take m).length (xs.take m):=by
 have hl:(xs.take m).length=m:=by rw [List.length_take];omega
 refine ⟨rfl,by rw [hl];have:=h.2.1;omega,fun hp=>?_⟩
 obtain ⟨ad,e,hc⟩:=h.2.2 (by omega)
 refine ⟨ad,e,fun j p hj=>hc j p ?_⟩
 rw [List.getElem?_take] at hj
 split at hj
 ·exact hj
 ·cases hj
end
end Kd
theorem below_size {w W:World} (h:Below w.heap.size w W):w.heap.size≤W.heap.size:=h.size
theorem below_step {w W w2:World} (h:Below w.heap.size w W) (k:Below W.heap.size W w2):Below w.heap.size w w2:=below_then h h.size k
theorem below_set {w W:World} {g j:Nat} {v:Value} (h:Below w.heap.size w W) (hg:w.heap.size≤g):Below w.heap.size w (W.setCell ⟨g,j,none⟩ v):=h.setCell hg _
theorem keep_drewN {w W:World} {g:Nat} {row:Option Nat} (h:KeepBut w W g row) (m:Nat):KeepBut w (W.drewN m) g row:=h
theorem blk_put {w:World} {g:Nat} {t:TypeId} {cs cs':Array Value} (h:w.heap[g]? = some (.cells cs t (0,0))) (i:Nat) (u:Value) (e:cs.setIfInBounds i u=cs'):(w.setCell ⟨g,i,none⟩ u).heap[g]? = some (.cells cs' t (0,0)):=e ▸ blk_set h i u
theorem below_drew1 {base:Nat} {w W:World} (h:Below base w W):Below base w W.drew:=h.drew
theorem keep_drew {w W:World} {g:Nat} {row:Option Nat} (h:KeepBut w W g row):KeepBut w W.drew g row:=h
namespace Kd
section
variable {α : Type} {d : Kd α} {e base g : Nat} {ok : Nat → Prop} {w w1 : World} {v : Value} {xs : List α} {o : Obj}
theorem R_elderB (h:d.R e w base ok v xs) (a:Nat) (ha:w.heap.size≤a):d.R e w base (fun k=>ok k∧k≠a) v xs:=R_mono (R_bound h) (fun k hk=>⟨hk.1,by have:=hk.2.2.1;omega⟩)
theorem R_newB (h:d.R e w1 w.heap.size ok v xs) (hb:w.heap[g]? = some o):d.R e w1 w.heap.size (fun k=>ok k∧k≠g) v xs:=R_mono (R_bound h) (fun k hk=>⟨hk.1,by have:=blk_lt hb;have:=hk.2.1;omega⟩)
theorem freshB (hb:w.heap[g]? = some o):∀ k,w.heap.size≤k→k≠g:=fun k hk=>by have:=blk_lt hb;omega
end
end Kd
section
variable {P : Program} {ops : Array Oper} {rest : List Oper} {o : Oper} {a : Act} {Q : Exit → Act → World → Prop}
theorem box_event {W:World} (hgd:o.guard=none) {N:Tmp} (_hd:o.dst=some N) {cs:Array Value} {t:TypeId}
  (hrun:(execOp a.eval o).run P W=.ok (.value (.pointer (some ⟨W.heap.size,0,none⟩))) (W.alloc (.cells cs t (0,0))))
  (h:∀ g,g=W.heap.size→∀ w1,w1.heap[g]? = some (.cells cs t (0,0))→Below W.heap.size W w1→wpList P ops Q rest (a.put o.dst (.pointer (some ⟨g,0,none⟩))) w1):wpList P ops Q (o :: rest) a W :=
 Kd.event_run hgd hrun (h _ rfl _ (blk_new W _) (below_alloc (Below.refl _ _) _))
end
namespace Kd
section
variable {α : Type} {enc : α → Value} {h1 : ∀ x, (enc x).oneCell' = true} {e base g n cap : Nat} {ok : Nat → Prop} {W : World} {xs : List α}
theorem R_celln (d:α) (h:(scalar enc h1).R e W base ok (.slice (some ⟨g,0,none⟩) n cap) xs) (i:Int) (h0:0≤i) (hi:i < n):W.cell? ⟨g,i.toNat,none⟩=some (enc (rdOf d xs i))∧W.frozen? ⟨g,i.toNat,none⟩=false:=by
 obtain ⟨rfl,_⟩:=R_reads' h
 exact R_cell d h i h0 hi
end
end Kd
section
variable {P : Program} {ops : Array Oper} {rest : List Oper} {o : Oper} {a : Act} {Q : Exit → Act → World → Prop}
theorem store_event {W w1:World} (hgd:o.guard=none) {t:TypeId} {p:Tmp} {v:Operand} (_ho:o.op=.store t (.tmp p) v) (hN:o.dst=none)
  (hrun:(execOp a.eval o).run P W=.ok .skip w1) (h:∀ w',w'=w1→wpList P ops Q rest a w'):wpList P ops Q (o :: rest) a W:=by
 refine wpList_plain hgd fun K hK=>?_
 unfold Oper.wp
 rw [hrun]
 show K (a.put o.dst undef) w1
 rw [hN]
 exact hK _ _ (h _ rfl)
end
namespace Kd
section
variable {α : Type} {enc : α → Value} {h1 : ∀ x, (enc x).oneCell' = true} {e base g n cap : Nat} {ok : Nat → Prop} {W : World} {xs : List α}
theorem R_putg (h:(scalar enc h1).R e W base ok (.slice (some ⟨g,0,none⟩) n cap) xs) (i:Int) (x:α):(scalar enc h1).R e (W.setCell ⟨g,i.toNat,none⟩ (enc x)) base ok (.slice (some ⟨g,0,none⟩) n cap) (xs.set i.toNat x)∧W.grownBy (W.setCell ⟨g,i.toNat,none⟩ (enc x)) (some g):=by
 obtain ⟨rfl,_⟩:=R_reads' h
 exact R_put h i x
end
end Kd
section
variable {P : Program} {ops : Array Oper} {rest : List Oper} {o : Oper} {a : Act} {Q : Exit → Act → World → Prop} {W : World}
theorem gate_dst {N:Tmp} (_hN:o.dst=some N) (h:wpList P ops Q (o :: rest) a W):wpList P ops Q (o :: rest) a W:=h
theorem gate_store {t:TypeId} {p:Tmp} {v:Operand} (_ho:o.op=.store t (.tmp p) v) (h:wpList P ops Q (o :: rest) a W):wpList P ops Q (o :: rest) a W:=h
end
section
variable {P : Program} {ops : Array Oper} {o : Oper} {a : Act} {Q : Exit → Act → World → Prop} {Kc : Act → World → Prop}
theorem event_step {W w1:World} {v:Value} (hw:Region.wanted o (yielded ops a.tmps)=true) (hrun:(execOp a.eval o).run P W=.ok (.value v) w1) (h:Kc (a.put o.dst v) w1):if Region.wanted o (yielded ops a.tmps)=true then Oper.wp P o a W Kc Q else Kc (a.put o.dst undef) W:=by
 rw [if_pos hw]
 unfold Oper.wp
 rw [hrun]
 exact h
theorem box_step {W:World} (hw:Region.wanted o (yielded ops a.tmps)=true) {N:Tmp} (_hd:o.dst=some N) {cs:Array Value} {t:TypeId}
  (hrun:(execOp a.eval o).run P W=.ok (.value (.pointer (some ⟨W.heap.size,0,none⟩))) (W.alloc (.cells cs t (0,0))))
  (h:∀ g,g=W.heap.size→∀ w1,w1.heap[g]? = some (.cells cs t (0,0))→Below W.heap.size W w1→Kc (a.put o.dst (.pointer (some ⟨g,0,none⟩))) w1):if Region.wanted o (yielded ops a.tmps)=true then Oper.wp P o a W Kc Q else Kc (a.put o.dst undef) W :=
 event_step hw hrun (h _ rfl _ (blk_new W _) (below_alloc (Below.refl _ _) _))
namespace Kd
variable {α : Type}
theorem R_lit_step (d:Kd α) {w0 W:World} (base e:Nat) (hw:Region.wanted o (yielded ops a.tmps)=true) {N:Tmp} (_hd:o.dst=some N) {xs:List α} {inner:List Value} {ok okp:Nat→Prop}
  (hrun:(execOp a.eval o).run P W=.ok (.value (.slice (some ⟨W.heap.size,0,none⟩) xs.length xs.length)) (W.alloc (.cells inner.toArray e)))
  (hrep:Reps (d.M W base okp) d.sz xs inner) (hok:∀ k,okp k→ok k) (hfresh:ok W.heap.size) (HB:Below base w0 W) (hbase:base≤W.heap.size) (hm:xs.length≤9223372036854775807)
  (h:∀ v1 w1,d.R e w1 base ok v1 xs→Below base w0 w1→W.grownBy w1 none→(∃ b,v1.ownBlock=some b∧W.heap.size≤b)→Kc (a.put o.dst v1) w1):if Region.wanted o (yielded ops a.tmps)=true then Oper.wp P o a W Kc Q else Kc (a.put o.dst undef) W:=by
 refine event_step hw hrun (h _ _ ⟨fun k hk=>?_,inner,?_,?_⟩ (HB.alloc hbase _) (World.grownBy_alloc W _ none) ⟨W.heap.size,by simp [Value.ownBlock],Nat.le_refl _⟩)
 ·have:W.heap.size=k:=by simpa [Value.ownBlock] using hk
  subst this
  exact hfresh
 ·have h2:=World.ownsRow_lit (base:=base) (e:=e) (size:=d.sz) W inner.toArray xs.length hbase (by simpa [maxLen] using hm) (by simpa using hrep.1)
  simpa using h2
 ·refine hrep.imp_ (fun p c hp=>d.M_mono (fun k hk=>⟨hok k hk.1,fun he=>?_⟩) (M_below (d.M_bound hp) (below_alloc (Below.refl _ _) _)))
  have h3:k=W.heap.size:=by simpa [Value.ownBlock] using he
  have:=hk.2.2.1
  omega
theorem R_append_rows_step (d:Kd α) {Rr:α→List Value→Prop} {w0 W:World} (base:Nat) (hw:Region.wanted o (yielded ops a.tmps)=true) (s x:Operand) (t e:TypeId) (z:Value) (bytes:Nat)
    (ho:o.op=.call { callee:=.builtin .append,args:=#[s,x],argTypes:=#[t,t] })
    (ht:P.underlying t=some (.slice e)) (hinfo:(P.info? e).map (fun i=>(i.zero,i.size,i.bytes))=some (some z,d.sz,bytes)) (hz:z.cells.size=d.sz) (hs0:0 < d.sz) (hb0:0 < bytes)
    (v:Value) (xs ys:List α) (A:Option Addr) (m c:Nat) (ok okp:Nat→Prop) (hs:a.eval s=v) (hx:a.eval x=.slice A m c)
    (HO:d.R e W base ok v xs) (HR:ReadsRow Rr d.sz W A m ys) (hKM:∀ x cs,Rr x cs→d.M W base okp x cs) (hokp:∀ k,okp k→ok k∧some k≠v.ownBlock) (hfresh:∀ k,W.heap.size≤k→ok k)
    (HB:Below base w0 W) (hbase:base≤W.heap.size) (hl:(xs.length+m) * bytes≤140737488355328)
    (h:∀ v1 w1,d.R e w1 base ok v1 (xs ++ ys)→Below base w0 w1→W.grownBy w1 v.ownBlock→(v1.ownBlock=v.ownBlock∨∃ b,v1.ownBlock=some b∧W.heap.size≤b)→Kc (a.put o.dst v1) w1) :
    if Region.wanted o (yielded ops a.tmps)=true then Oper.wp P o a W Kc Q else Kc (a.put o.dst undef) W:=by
  obtain ⟨i0,hi,hzz⟩:=Option.map_eq_some_iff.1 hinfo
  simp only [Prod.mk.injEq] at hzz
  obtain ⟨hz0,hz1,hz2⟩:=hzz
  have hm:ys.length=m:=HR.1
  have hlen:xs.length+m≤140737488355328:=Nat.le_trans (Nat.le_mul_of_pos_right _ hb0) hl
  obtain ⟨hok,inner,hown,hr⟩:=HO
  have hrun:∃ v1 w1,(Builtin.append_ #[t,t] o.type #[v,.slice A m c]).run P W=.ok v1 w1∧d.R e w1 base ok v1 (xs ++ ys)∧W.grownBy w1 v.ownBlock∧(v1.ownBlock=v.ownBlock∨∃ b,v1.ownBlock=some b∧W.heap.size≤b):=by
    rcases A with _ | ad
    · have h0:m=0:=by
        rcases Nat.eq_zero_or_pos m with h0 | h0
        · exact h0
        · obtain ⟨ad,h,_⟩:=HR.2.2 h0
          cases h
      subst h0
      obtain rfl:ys=[]:=List.eq_nil_of_length_eq_zero hm
      refine ⟨v,W,?_,by rw [List.append_nil];exact ⟨hok,inner,hown,hr⟩,World.grownBy.refl W _,.inl rfl⟩
      rcases hown.2 with ⟨rfl,hn⟩ | ⟨g,cap,cur,rfl,_,_,hnc,_⟩
      · simp [Builtin.append_,run_underlying ht,sizeOf,typeInfo,hi,Builtin.lenOf,Builtin.firstCells]
      · simp [Builtin.append_,run_underlying ht,sizeOf,typeInfo,hi,Builtin.lenOf,Builtin.firstCells,hnc,storeCells]
    · obtain ⟨news,hnr,hnc⟩:=ReadsRow.inner_ HR
      have hnM:Reps (d.M W base okp) d.sz ys news:=hnr.imp_ (fun p c hp=>hKM p c hp)
      have hone:∀ u∈news,u.oneCell'=true:=by
        intro u hu
        obtain ⟨q,hq,rfl⟩:=List.mem_iff_getElem.1 hu
        have hql:q / d.sz < ys.length:=by
          rw [Nat.div_lt_iff_lt_mul hs0]
          rw [← hnM.1]
          exact hq
        have hc:=hnM.2 (q / d.sz) _ (List.getElem?_eq_getElem hql)
        refine d.K_one (d.K_of_M hc) _ ?_
        rw [List.mem_iff_getElem?]
        refine ⟨q % d.sz,?_⟩
        rw [List.getElem?_take,if_pos (Nat.mod_lt _ hs0),List.getElem?_drop,Nat.mul_comm,Nat.div_add_mod,List.getElem?_eq_getElem hq]
      obtain ⟨v1,w1,hrun,h2,hg,_,hat⟩:=run_append_own_at (P:=P) W base t o.type e i0 z d.sz bytes ht hi hz0 hz1 hz2 hz hs0 v xs.length inner hown ad m c news (by rw [hnM.1,hm]) hnc hone (by simp only [maxLen];omega) hl hbase
      have hat':v1.ownBlock=v.ownBlock∨∃ b,v1.ownBlock=some b∧W.heap.size≤b:=by
        rcases hat with hat | hat
        · exact .inl hat
        · exact .inr ⟨_,hat,Nat.le_refl _⟩
      have hne:∀ k,some k≠v.ownBlock→k < W.heap.size→some k≠v1.ownBlock:=by
        intro k hk hlt
        rcases hat' with hat | ⟨b,hb,hle⟩
        · rw [hat];exact hk
        · rw [hb]
          intro he
          injection he with he
          omega
      have step:∀ {q:α} {c:List Value} {o:Nat→Prop},d.M W base o q c→(∀ k,o k→ok k∧some k≠v.ownBlock)→d.M w1 base (fun k=>ok k∧some k≠v1.ownBlock) q c:=by
        intro q c o hq ho
        have h1:=d.M_move (w1:=w1) (fun k hk=>hg.block k hk.2.2.1 (ho k hk.1).2) (d.M_bound hq)
        exact d.M_mono (fun k hk=>⟨(ho k hk.1).1,hne k (ho k hk.1).2 hk.2.2.1⟩) h1
      refine ⟨v1,w1,hrun,⟨fun k hk=>?_,inner ++ news,by rw [List.length_append,hm];exact h2,reps_append (hr.imp_ (fun _ _ hq=>step hq (fun _ hk=>hk))) (hnM.imp_ (fun _ _ hq=>step hq hokp))⟩,hg,hat'⟩
      rcases hat' with hat | ⟨b,hb,hle⟩
      · exact hok k (hat ▸ hk)
      · rw [hb] at hk
        injection hk with hk
        exact hfresh k (by omega)
  obtain ⟨v1,w1,hr1,h1,hg,hat⟩:=hrun
  rw [if_pos hw]
  unfold Oper.wp execOp
  simp only [ho,resolve,invoke,builtin,Sem.run_bind,Sem.run_pure,Result.andThen_ok,List.map_toArray,List.map_cons,List.map_nil,hs,hx,hr1]
  exact h v1 w1 h1 (HB.grown hg hbase (own_base hown)) hg hat
end Kd
end
end Go.Proofs.YtbcpnejdbookkaaGreatW.PrintWords
namespace Go.Proofs.YtbcpnejdbookkaaGreatW.PrintLast
section
variable {P : Program} {ops : Array Oper} {Q : Exit → Act → World → Prop} {md : Region.Mode} {S : World → Prop} {ds : List Nat}
def Region.reachB (md:Region.Mode) (ops:Array Oper) (i:Nat):Nat→Nat→Bool
  | 0,_=>false
  | fuel+1,d=>match ops[d]? with
    | some o=>o.after.any fun e=>Region.binds md e && (e.on == i || Region.reachB md ops i fuel e.on)
    | none=>false
def Region.closedB (md:Region.Mode) (ops:Array Oper) (listed:Array Bool):Bool :=
  (List.range ops.size).all fun j=>!listed.getD j false || match ops[j]? with
    | some o=>o.after.all fun e=>!Region.binds md e || listed.getD e.on false
    | none=>true
def Region.lastB (md:Region.Mode) (ops:Array Oper) (listed:Array Bool) (ds:List Nat) (i:Nat):Bool :=
 ds.all fun d=>listed.getD d true || Region.reachB md ops i ops.size d
def ListedClosed (md:Region.Mode) (ops:Array Oper) (listed:Array Bool):Prop :=
 ∀ j oj,ops[j]? = some oj→listed.getD j false=true→∀ e∈oj.after,Region.binds md e=true→listed.getD e.on false=true
theorem Region.closedB_spec {listed:Array Bool} (h:Region.closedB md ops listed=true):ListedClosed md ops listed:=by
 intro j oj hj hl e he hb
 have hlt:j < ops.size:=(Array.getElem?_eq_some_iff.1 hj).1
 have h1:=List.all_eq_true.1 h j (List.mem_range.2 hlt)
 simp only [hl,hj,Bool.not_true,Bool.false_or] at h1
 have h2:=Array.all_eq_true_iff_forall_mem.1 h1 e he
 simpa [hb] using h2
theorem ListedClosed.set {listed:Array Bool} {i:Nat} (h:ListedClosed md ops listed) (hi:i∈Region.ready md ops listed):ListedClosed md ops (listed.setIfInBounds i true):=by
 obtain ⟨_,oi,hoi,hall⟩:=mem_ready.1 hi
 intro j oj hj hl e he hb
 by_cases hij:i=j
 ·subst hij
  have:oj=oi:=Option.some.inj (hj.symm.trans hoi)
  subst this
  exact getD_set_true (hall e he hb)
 ·rw [getD_set_ne false hij] at hl
  exact getD_set_true (h j oj hj hl e he hb)
theorem Region.reach_listed {listed:Array Bool} {i:Nat} (hc:ListedClosed md ops listed):∀ (fuel d:Nat),Region.reachB md ops i fuel d=true→listed.getD d false=true→listed.getD i false=true
  | 0,_,h,_=>by simp [Region.reachB] at h
  | fuel+1,d,h,hl=>by
    unfold Region.reachB at h
    cases ho:ops[d]? with
    | none=>rw [ho] at h;simp at h
    | some o =>
      rw [ho] at h
      obtain ⟨e,he,h1⟩:=Array.any_eq_true'.1 h
      simp only [Bool.and_eq_true,Bool.or_eq_true,beq_iff_eq] at h1
      have hle:=hc d o ho hl e he h1.1
      rcases h1.2 with h2 | h2
      · rw [← h2];exact hle
      · exact Region.reach_listed hc fuel e.on h2 hle
theorem Region.reach_not_ready {listed:Array Bool} {i d fuel:Nat} (hc:ListedClosed md ops listed) (hr:Region.reachB md ops i fuel d=true) (hun:listed.getD i true=false):d ∉ Region.ready md ops listed:=by
  intro hd
  obtain ⟨_,o,ho,hall⟩:=mem_ready.1 hd
  have hi:listed.getD i false=true:=by
    cases fuel with
    | zero=>simp [Region.reachB] at hr
    | succ n =>
      unfold Region.reachB at hr
      rw [ho] at hr
      obtain ⟨e,he,h1⟩:=Array.any_eq_true'.1 hr
      simp only [Bool.and_eq_true,Bool.or_eq_true,beq_iff_eq] at h1
      have hle:=hall e he h1.1
      rcases h1.2 with h2 | h2
      · rw [← h2];exact hle
      · exact Region.reach_listed hc n e.on h2 hle
  rcases Nat.lt_or_ge i listed.size with h' | h'
  · simp [h'] at hun hi
    rw [hun] at hi
    cases hi
  · simp [Array.getElem?_eq_none h'] at hun
def wpAnyLast (P:Program) (md:Region.Mode) (ops:Array Oper) (Q:Exit→Act→World→Prop) (S:World→Prop) (ds:List Nat):Nat→Array Bool→Act→World→Prop
  | 0,listed,a,w=>Region.ready md ops listed=[]∧Q .normal a w
  | fuel+1,listed,a,w =>
    (Region.ready md ops listed=[]→Q .normal a w) ∧
    ∀ i∈Region.ready md ops listed,wpOp P ops Q i (fun a' w'=>(i ∉ ds→S w→S w')∧wpAnyLast P md ops Q S ds fuel (listed.setIfInBounds i true) a' w') a w
theorem wpAny_of_last:∀ (fuel:Nat) (listed:Array Bool) (a:Act) (w:World),wpAnyLast P md ops Q S ds fuel listed a w→wpAny P md ops Q fuel listed a w
 | 0,_,_,_,h=>h
 | fuel+1,_,_,_,h=>⟨h.1,fun i hi=>wpOp_mono (fun a' w' h'=>wpAny_of_last fuel _ a' w' h'.2) (h.2 i hi)⟩
theorem wpAnyLast_first {i:Nat} {oi:Oper} {v:Value} (hi:ops[i]? = some oi) (hsel:∀ (j:Nat) (o:Oper) cs b,ops[j]? = some o→o.op≠.select cs b)
    (hQ:∀ c a w,Q (.panic c) (a.put oi.dst v) w→Q (.panic c) a w) (n:Nat) :
    ∀ (fuel:Nat) (listed:Array Bool) (a:Act) (w:World),
      (∀ j oj,ops[j]? = some oj→j≠i→listed.getD j true=false→(∀ e∈oj.after,Region.binds md e=true→e.on≠i)→oi.apart ops oj=true) →
      ListedClosed md ops listed→(∀ d∈ds,listed.getD d true=false→Region.reachB md ops i n d=true) →
      i∈Region.ready md ops listed→YieldsIf P ops S oi v a→S w →
      wpAnyLast P md ops Q S ds fuel (listed.setIfInBounds i true) (a.put oi.dst v) w→wpAnyLast P md ops Q S ds (fuel+1) listed a w:=by
  intro fuel
  induction fuel with
  | zero =>
    intro listed a w _ _ _ hr hy hS H
    refine ⟨fun h=>(by rw [h] at hr;cases hr),fun j hj=>?_⟩
    by_cases hji:j=i
    · subst hji;exact hy.wpOp hi hS ⟨fun _ h=>h,H⟩
    · have:=ready_mono hj hji
      rw [H.1] at this
      cases this
  | succ fuel ih =>
    intro listed a w hfree hc hd hr hy hS H
    refine ⟨fun h=>(by rw [h] at hr;cases hr),fun j hj=>?_⟩
    by_cases hji:j=i
    · subst hji;exact hy.wpOp hi hS ⟨fun _ h=>h,H⟩
    · have h1:=H.2 j (ready_mono hj hji)
      obtain ⟨hjun,oj,hoj,hall⟩:=mem_ready.1 hj
      have hiun:=(mem_ready.1 hr).1
      have hnot:∀ e∈oj.after,Region.binds md e=true→e.on≠i:=fun e he hb heq=>by
        have h1:=hall e he hb
        rw [heq] at h1
        rcases Nat.lt_or_ge i listed.size with h' | h'
        · simp [h'] at hiun h1;rw [hiun] at h1;cases h1
        · simp [Array.getElem?_eq_none h'] at h1
      have hjd:j ∉ ds:=fun hm=>Region.reach_not_ready hc (hd j hm hjun) hiun hj
      have h2:=wpOp_putIf hoj (hfree j oj hoj hji hjun hnot) (fun cs b=>hsel i oi cs b hi) (fun cs b=>hsel j oj cs b hoj) hQ hy h1
      have hfree':∀ k ok,ops[k]? = some ok→k≠i→(listed.setIfInBounds j true).getD k true=false →
          (∀ e∈ok.after,Region.binds md e=true→e.on≠i)→oi.apart ops ok=true:=fun k ok hk hki hun hno=>by
        refine hfree k ok hk hki ?_ hno
        by_cases hjk:j=k
        · subst hjk;exact hjun
        · rw [getD_set_ne true hjk] at hun;exact hun
      have hd':∀ d∈ds,(listed.setIfInBounds j true).getD d true=false→Region.reachB md ops i n d=true:=fun d hm hun=>by
        refine hd d hm ?_
        by_cases hjk:j=d
        · subst hjk;exact hjun
        · rw [getD_set_ne true hjk] at hun;exact hun
      refine wpOp_mono (fun a' w' h3=>⟨h3.2.1,ih (listed.setIfInBounds j true) a' w' hfree' (hc.set hj) hd' (ready_mono hr (Ne.symm hji)) h3.1 (h3.2.1 hjd hS) ?_⟩) h2
      rw [Array.setIfInBounds_comm _ _ hji]
      exact h3.2.2
theorem wpAnyLast_any {i:Nat} {oi:Oper} {v:Value} (hi:ops[i]? = some oi) (hsel:∀ (j:Nat) (o:Oper) cs b,ops[j]? = some o→o.op≠.select cs b)
    (hQ:∀ c a w,Q (.panic c) (a.put oi.dst v) w→Q (.panic c) a w) :
    ∀ (fuel:Nat) (listed:Array Bool) (a:Act) (w:World),
      (∀ j oj,ops[j]? = some oj→j≠i→listed.getD j true=false→(∀ e∈oj.after,Region.binds md e=true→e.on≠i)→oi.apart ops oj=true) →
      i∈Region.ready md ops listed→Yields P ops oi v a →
      wpAnyLast P md ops Q S ds fuel (listed.setIfInBounds i true) (a.put oi.dst v) w→wpAnyLast P md ops Q S ds (fuel+1) listed a w:=by
  intro fuel
  induction fuel with
  | zero =>
    intro listed a w _ hr hy H
    refine ⟨fun h=>(by rw [h] at hr;cases hr),fun j hj=>?_⟩
    by_cases hji:j=i
    · subst hji;exact (hy.yieldsIf (S:=fun _=>True)).wpOp hi trivial ⟨fun _ h=>h,H⟩
    · have:=ready_mono hj hji
      rw [H.1] at this
      cases this
  | succ fuel ih =>
    intro listed a w hfree hr hy H
    refine ⟨fun h=>(by rw [h] at hr;cases hr),fun j hj=>?_⟩
    by_cases hji:j=i
    · subst hji;exact (hy.yieldsIf (S:=fun _=>True)).wpOp hi trivial ⟨fun _ h=>h,H⟩
    · have h1:=H.2 j (ready_mono hj hji)
      obtain ⟨hjun,oj,hoj,hall⟩:=mem_ready.1 hj
      have hiun:=(mem_ready.1 hr).1
      have hnot:∀ e∈oj.after,Region.binds md e=true→e.on≠i:=fun e he hb heq=>by
        have h1:=hall e he hb
        rw [heq] at h1
        rcases Nat.lt_or_ge i listed.size with h' | h'
        · simp [h'] at hiun h1;rw [hiun] at h1;cases h1
        · simp [Array.getElem?_eq_none h'] at h1
      have h2:=wpOp_put hoj (hfree j oj hoj hji hjun hnot) (fun cs b=>hsel i oi cs b hi) (fun cs b=>hsel j oj cs b hoj) hQ hy h1
      have hfree':∀ k ok,ops[k]? = some ok→k≠i→(listed.setIfInBounds j true).getD k true=false →
          (∀ e∈ok.after,Region.binds md e=true→e.on≠i)→oi.apart ops ok=true:=fun k ok hk hki hun hno=>by
        refine hfree k ok hk hki ?_ hno
        by_cases hjk:j=k
        · subst hjk;exact hjun
        · rw [getD_set_ne true hjk] at hun;exact hun
      refine wpOp_mono (fun a' w' h3=>⟨h3.2.1,ih (listed.setIfInBounds j true) a' w' hfree' (ready_mono hr (Ne.symm hji)) h3.1 ?_⟩) h2
      rw [Array.setIfInBounds_comm _ _ hji]
      exact h3.2.2
theorem wpAnyLast_take {i:Nat} {oi:Oper} {v:Value} {fuel:Nat} {listed:Array Bool} {a:Act} {w:World} (hi:ops[i]? = some oi)
  (hs:Region.noSelect ops=true) (hf:Region.free md ops listed i=true) (hr:(Region.ready md ops listed).contains i=true)
  (hc:Region.closedB md ops listed=true) (hl:Region.lastB md ops listed ds i=true)
  (hQ:∀ c a w,Q (.panic c) (a.put oi.dst v) w→Q (.panic c) a w) (hy:YieldsIf P ops S oi v a) (hS:S w)
  (h:wpAnyLast P md ops Q S ds fuel (listed.setIfInBounds i true) (a.put oi.dst v) w):wpAnyLast P md ops Q S ds (fuel+1) listed a w :=
 wpAnyLast_first hi (Region.noSelect_spec hs) hQ ops.size fuel listed a w (Region.free_spec hi hf) (Region.closedB_spec hc)
  (fun d hm hun=>by have:=List.all_eq_true.1 hl d hm;rw [hun] at this;simpa using this) (by simpa using hr) hy hS h
theorem wpAnyLast_all {rs:List Nat} {fuel:Nat} {listed:Array Bool} {a:Act} {w:World} (hr:Region.ready md ops listed=rs) (hne:rs≠[])
  (h:∀ i∈rs,wpOp P ops Q i (fun a' w'=>(i ∉ ds→S w→S w')∧wpAnyLast P md ops Q S ds fuel (listed.setIfInBounds i true) a' w') a w):wpAnyLast P md ops Q S ds (fuel+1) listed a w :=
 ⟨fun h0=>absurd (hr ▸ h0) hne,hr ▸ h⟩
theorem wpAnyLast_done {listed:Array Bool} {a:Act} {w:World} (hr:Region.ready md ops listed=[]) (h:Q .normal a w) :
  ∀ fuel,wpAnyLast P md ops Q S ds fuel listed a w
 | 0=>⟨hr,h⟩
 | _+1=>⟨fun _=>h,by rw [hr];simp⟩
theorem wp_region_last {id:Nat} {a:Act} {w:World} (hm:P.follows .mixedOrders=true)
  (h:wpAnyLast P .any ops Q S ds ops.size (Array.replicate ops.size false) a { w with drawn:=w.drawn+1 }):(Code.region id ops true).wp P Q a w :=
 wp_region_any hm (wpAny_of_last _ _ _ _ h)
end
section
variable {P : Program} {ops : Array Oper} {Q : Exit → Act → World → Prop} {md : Region.Mode} {S : World → Prop} {ds : List Nat}
def AllReadyL (P:Program) (md:Region.Mode) (ops:Array Oper) (Q:Exit→Act→World→Prop) (S:World→Prop) (ds:List Nat) (fuel:Nat) (listed:Array Bool) (a:Act) (w:World) (rs:List Nat):Prop :=
 ∀ i∈rs,wpOp P ops Q i (fun a' w'=>(i ∉ ds→S w→S w')∧wpAnyLast P md ops Q S ds fuel (listed.setIfInBounds i true) a' w') a w
theorem AllReadyL.nil {fuel:Nat} {listed:Array Bool} {a:Act} {w:World}:AllReadyL P md ops Q S ds fuel listed a w []:=fun _ h=>by cases h
theorem AllReadyL.cons {fuel:Nat} {listed:Array Bool} {a:Act} {w:World} {i:Nat} {o:Oper} {rs:List Nat} (ho:ops[i]? = some o) (hd:i ∉ ds)
  (h:∀ K':Act→World→Prop,Shut (∀ a w,S w→(S w→wpAnyLast P md ops Q S ds fuel (listed.setIfInBounds i true) a w)→K' a w)→if Region.wanted o (yielded ops a.tmps)=true then Oper.wp P o a w K' Q else K' (a.put o.dst undef) w)
  (hs:AllReadyL P md ops Q S ds fuel listed a w rs):AllReadyL P md ops Q S ds fuel listed a w (i :: rs):=fun j hj=>by
 rcases List.mem_cons.1 hj with rfl | hj
 ·exact wpOp_step ho (fun K' hK=>h K' (fun a w hS hW=>hK a w ⟨fun _ _=>hS,hW hS⟩))
 ·exact hs j hj
theorem AllReadyL.cons_last {fuel:Nat} {listed:Array Bool} {a:Act} {w:World} {i:Nat} {o:Oper} {rs:List Nat} (ho:ops[i]? = some o) (hd:i∈ds)
  (h:∀ K':Act→World→Prop,Shut (∀ a w,wpAnyLast P md ops Q S ds fuel (listed.setIfInBounds i true) a w→K' a w)→if Region.wanted o (yielded ops a.tmps)=true then Oper.wp P o a w K' Q else K' (a.put o.dst undef) w)
  (hs:AllReadyL P md ops Q S ds fuel listed a w rs):AllReadyL P md ops Q S ds fuel listed a w (i :: rs):=fun j hj=>by
 rcases List.mem_cons.1 hj with rfl | hj
 ·exact wpOp_step ho (fun K' hK=>h K' (fun a w hW=>hK a w ⟨fun hn=>absurd hd hn,hW⟩))
 ·exact hs j hj
theorem wpAnyLast_ready {rs:List Nat} {fuel:Nat} {listed:Array Bool} {a:Act} {w:World} (hr:Region.ready md ops listed=rs) (hne:rs≠[])
  (h:AllReadyL P md ops Q S ds fuel listed a w rs):wpAnyLast P md ops Q S ds (fuel+1) listed a w:=wpAnyLast_all hr hne h
theorem start_ {id n:Nat} {a:Act} {w:World} (l:Array Bool) (hm:P.follows .mixedOrders=true) (hn:ops.size=n) (hl:Array.replicate n false=l) (hS:S w.drew)
  (h:S w.drew→wpAnyLast P .any ops Q S ds n l a w.drew):(Code.region id ops true).wp P Q a w:=by
 subst hn
 subst hl
 exact wp_region_last hm (h hS)
def takeB (md:Region.Mode) (ops:Array Oper) (ds:List Nat) (l l':Array Bool) (i:Nat):Bool :=
 Region.noSelect ops && Region.free md ops l i && (Region.ready md ops l).contains i && Region.closedB md ops l && Region.lastB md ops l ds i && (l.setIfInBounds i true == l')
theorem take_ {i:Nat} {N:Option Tmp} {oi:Oper} {v:Value} {fuel:Nat} {l:Array Bool} {a:Act} {w:World} (l':Array Bool) (hi:ops[i]? = some oi) (hN:oi.dst=N) (hc:takeB md ops ds l l' i=true)
  (hQ:∀ c a w,Q (.panic c) (a.put oi.dst v) w→Q (.panic c) a w) (hy:YieldsIf P ops S oi v a) (hS:S w) {a':Act} (ha:a.put N v=a')
  (h:wpAnyLast P md ops Q S ds fuel l' a' w):wpAnyLast P md ops Q S ds (fuel+1) l a w:=by
 subst ha
 subst hN
 simp only [takeB,Bool.and_eq_true,beq_iff_eq] at hc
 obtain ⟨⟨⟨⟨⟨h1,h2⟩,h3⟩,h4⟩,h5⟩,h6⟩:=hc
 subst h6
 exact wpAnyLast_take hi h1 h2 h3 h4 h5 hQ hy hS h
def anyB (md:Region.Mode) (ops:Array Oper) (l l':Array Bool) (i:Nat):Bool :=
 Region.noSelect ops && Region.free md ops l i && (Region.ready md ops l).contains i && (l.setIfInBounds i true == l')
theorem pure_ {i:Nat} {N:Option Tmp} {oi:Oper} {v:Value} {fuel:Nat} {l:Array Bool} {a:Act} {w:World} (l':Array Bool) (hi:ops[i]? = some oi) (hN:oi.dst=N) (hc:anyB md ops l l' i=true)
  (hQ:∀ c a w,Q (.panic c) (a.put oi.dst v) w→Q (.panic c) a w) (hy:Yields P ops oi v a) {a':Act} (ha:a.put N v=a')
  (h:wpAnyLast P md ops Q S ds fuel l' a' w):wpAnyLast P md ops Q S ds (fuel+1) l a w:=by
 subst ha
 subst hN
 simp only [anyB,Bool.and_eq_true,beq_iff_eq] at hc
 obtain ⟨⟨⟨h1,h2⟩,h3⟩,h6⟩:=hc
 subst h6
 exact wpAnyLast_any hi (Region.noSelect_spec h1) hQ fuel l a w (Region.free_spec hi h2) (by simpa using h3) hy h
def readyB (md:Region.Mode) (ops:Array Oper) (l l':Array Bool) (i:Nat):Bool:=(Region.ready md ops l == [i]) && (l.setIfInBounds i true == l')
theorem one_ {i:Nat} {N:Option Tmp} {oi:Oper} {fuel:Nat} {l:Array Bool} {a:Act} {w:World} (l':Array Bool) (hi:ops[i]? = some oi) (hN:oi.dst=N) (hc:readyB md ops l l' i=true) (hd:i ∉ ds)
  (h:∀ K:Act→World→Prop,Shut (∀ a' w',S w'→(S w'→wpAnyLast P md ops Q S ds fuel l' a' w')→K a' w')→if Region.wanted oi (yielded ops a.tmps)=true then Oper.wp P oi a w K Q else K (a.put N undef) w) :
  wpAnyLast P md ops Q S ds (fuel+1) l a w:=by
 subst hN
 simp only [readyB,Bool.and_eq_true,beq_iff_eq] at hc
 obtain ⟨h1,h2⟩:=hc
 subst h2
 exact wpAnyLast_ready h1 (by simp) (AllReadyL.cons hi hd (fun K hK=>h K hK) AllReadyL.nil)
theorem last_ {i:Nat} {N:Option Tmp} {oi:Oper} {fuel:Nat} {l:Array Bool} {a:Act} {w:World} (l':Array Bool) (hi:ops[i]? = some oi) (hN:oi.dst=N) (hc:readyB md ops l l' i=true) (hd:i∈ds)
  (h:∀ K:Act→World→Prop,Shut (∀ a' w',wpAnyLast P md ops Q S ds fuel l' a' w'→K a' w')→if Region.wanted oi (yielded ops a.tmps)=true then Oper.wp P oi a w K Q else K (a.put N undef) w) :
  wpAnyLast P md ops Q S ds (fuel+1) l a w:=by
 subst hN
 simp only [readyB,Bool.and_eq_true,beq_iff_eq] at hc
 obtain ⟨h1,h2⟩:=hc
 subst h2
 exact wpAnyLast_ready h1 (by simp) (AllReadyL.cons_last hi hd (fun K hK=>h K hK) AllReadyL.nil)
theorem done_ {l:Array Bool} {a:Act} {w:World} {n:Nat} (hr:(Region.ready md ops l == [])=true) (h:Q .normal a w):wpAnyLast P md ops Q S ds n l a w:=wpAnyLast_done (by simpa using hr) h n
theorem two_ {i j:Nat} {Ni Nj:Option Tmp} {oi oj:Oper} {fuel:Nat} {l:Array Bool} {a:Act} {w:World} (li lj:Array Bool) (hi:ops[i]? = some oi) (hj:ops[j]? = some oj) (hNi:oi.dst=Ni) (hNj:oj.dst=Nj)
  (hc:(Region.ready md ops l == [i,j] && l.setIfInBounds i true == li && l.setIfInBounds j true == lj)=true) (hdi:i ∉ ds) (hdj:j ∉ ds)
  (h1:∀ K:Act→World→Prop,Shut (∀ a' w',S w'→(S w'→wpAnyLast P md ops Q S ds fuel li a' w')→K a' w')→if Region.wanted oi (yielded ops a.tmps)=true then Oper.wp P oi a w K Q else K (a.put Ni undef) w)
  (h2:∀ K:Act→World→Prop,Shut (∀ a' w',S w'→(S w'→wpAnyLast P md ops Q S ds fuel lj a' w')→K a' w')→if Region.wanted oj (yielded ops a.tmps)=true then Oper.wp P oj a w K Q else K (a.put Nj undef) w) :
  wpAnyLast P md ops Q S ds (fuel+1) l a w:=by
 subst hNi
 subst hNj
 simp only [Bool.and_eq_true,beq_iff_eq] at hc
 obtain ⟨⟨h3,h4⟩,h5⟩:=hc
 subst h4
 subst h5
 exact wpAnyLast_ready h3 (by simp) (AllReadyL.cons hi hdi (fun K hK=>h1 K hK) (AllReadyL.cons hj hdj (fun K hK=>h2 K hK) AllReadyL.nil))
theorem norm_ {fuel:Nat} {l:Array Bool} {a a':Act} {w:World} (ha:a=a') (h:wpAnyLast P md ops Q S ds fuel l a' w):wpAnyLast P md ops Q S ds fuel l a w:=by
 subst ha
 exact h
theorem call_ {oi:Oper} {N:Option Tmp} {a:Act} {w:World} {K:Act→World→Prop} (f:FuncId) (args:Array Value) (hw:Region.wanted oi (yielded ops a.tmps)=true) (hN:oi.dst=N) (hrun:(execOp a.eval oi).run P w=.ok (.enter f args) w)
  (h:Calls P f args w fun e w'=>∃ v,e=.returned v∧K (a.put N v) w'):if Region.wanted oi (yielded ops a.tmps)=true then Oper.wp P oi a w K Q else K (a.put N undef) w:=by
 rw [if_pos hw]
 subst hN
 unfold Oper.wp
 rw [hrun,Oper.upon_enter]
 refine h.mono fun e w'' hh=>?_
 obtain ⟨v,rfl,hk⟩:=hh
 exact hk
theorem enters_ {f : FuncId} {fn : Func} (hf : P.funcs[f]? = some fn) (hname : (fn.name == "runtime.NumGoroutine") = false) (hb : fn.body.isSome = true) (args : Array Value) (w : World) : (callFunc f args).run P w = .ok (.enter f args) w := by
 have h1 : fn.name ≠ "runtime.NumGoroutine" := by simpa using hname
 obtain ⟨c,hc⟩:=Option.isSome_iff_exists.1 hb
 simp [callFunc,hf,h1,hc]
theorem goes_ {oi : Oper} {N : Option Tmp} {a : Act} {w : World} {K : Act → World → Prop} {f : FuncId} {fn : Func} {as_ : Array Operand} {ts : Array TypeId} (hf : P.funcs[f]? = some fn) (hname : (fn.name == "runtime.NumGoroutine") = false) (hb : fn.body.isSome = true) (args : Array Value)
  (hw:Region.wanted oi (yielded ops a.tmps)=true) (hN:oi.dst=N) (hop:oi.op=.call { callee:=.value (.func f),args:=as_,argTypes:=ts }) (hargs:as_.map a.eval=args)
  (h:Calls P f args w fun e w'=>∃ v,e=.returned v∧K (a.put N v) w'):if Region.wanted oi (yielded ops a.tmps)=true then Oper.wp P oi a w K Q else K (a.put N undef) w:=by
 refine call_ f args hw hN ?_ h
 have he:=enters_ hf hname hb args w
 unfold execOp
 simp [hop,resolve,Deferred.ofValue,invoke,Act.eval,hargs,he]
theorem goesL_ {rest : List Oper} {oi : Oper} {a : Act} {w : World} (N : Option Tmp) (hd : oi.dst = N) (hg : oi.guard = none) {f : FuncId} {fn : Func} {as_ : Array Operand} {ts : Array TypeId} (hf : P.funcs[f]? = some fn) (hname : (fn.name == "runtime.NumGoroutine") = false) (hb : fn.body.isSome = true) (args : Array Value)
  (hop:oi.op=.call { callee:=.value (.func f),args:=as_,argTypes:=ts }) (hargs:as_.map a.eval=args)
  (h:Calls P f args w fun e w'=>∃ v,e=.returned v∧wpList P ops Q rest (a.put N v) w'):wpList P ops Q (oi :: rest) a w:=by
 refine wpList_plain hg fun K hK=>?_
 have he:=enters_ hf hname hb args w
 have hrun:(execOp a.eval oi).run P w=.ok (.enter f args) w:=by
  unfold execOp
  simp [hop,resolve,Deferred.ofValue,invoke,Act.eval,hargs,he]
 unfold Oper.wp
 rw [hrun,Oper.upon_enter]
 refine h.mono fun e w'' hh=>?_
 obtain ⟨v,rfl,hk⟩:=hh
 subst hd
 exact hK _ _ hk
theorem value_ {oi:Oper} {N:Option Tmp} {a:Act} {w w1:World} {v:Value} {K:Act→World→Prop} (hw:Region.wanted oi (yielded ops a.tmps)=true) (hN:oi.dst=N) (hrun:(execOp a.eval oi).run P w=.ok (.value v) w1)
  (h:K (a.put N v) w1):if Region.wanted oi (yielded ops a.tmps)=true then Oper.wp P oi a w K Q else K (a.put N undef) w:=by
 rw [if_pos hw]
 subst hN
 unfold Oper.wp
 rw [hrun]
 exact h
theorem skip_ {oi:Oper} {a:Act} {w w1:World} {K:Act→World→Prop} (hw:Region.wanted oi (yielded ops a.tmps)=true) (hN:oi.dst=none) (hrun:(execOp a.eval oi).run P w=.ok .skip w1)
  (h:K a w1):if Region.wanted oi (yielded ops a.tmps)=true then Oper.wp P oi a w K Q else K (a.put none undef) w:=by
 rw [if_pos hw]
 unfold Oper.wp
 rw [hrun]
 show K (a.put oi.dst undef) w1
 rw [hN]
 exact h
theorem i64_w (n:Int):IntKind.i64.wrap n=Go.RowKit.wrap64 n:=by unfold Go.RowKit.wrap64;exact IntKind.wrap_i64 n
theorem i32_w (n:Int):IntKind.i32.wrap n=Go.RowKit.wrap32 n:=by unfold Go.RowKit.wrap32;exact IntKind.wrap_i32 n
end
end Go.Proofs.YtbcpnejdbookkaaGreatW.PrintLast
namespace Go.Proofs.YtbcpnejdbookkaaGreatW.PrintLast
open Go.Proofs.YtbcpnejdbookkaaGreatW.PrintWords (Aside0)
def needsOf (md:Region.Mode) (o:Oper):List Nat:=(o.after.toList.filter (fun e=>Region.binds md e)).map (fun e=>e.on)
def clashOf (md:Region.Mode) (ops:Array Oper) (i:Nat) (oi:Oper):List Nat:=(List.range ops.size).filter fun j=>!(j == i) && match ops[j]? with
 | some oj=>!(oj.after.any (fun e=>Region.binds md e && e.on == i) || oi.apart ops oj)
 | none=>false
def rtab (md:Region.Mode) (ops:Array Oper):Bool×List (List Nat×List Nat):=(Region.noSelect ops,(List.range ops.size).map fun i=>match ops[i]? with
 | some o=>(needsOf md o,clashOf md ops i o)
 | none=>([],[]))
def readyAt (T:List (List Nat×List Nat)) (l:List Bool) (i:Nat):Bool:=!l.getD i true && match T[i]? with
 | some r=>r.1.all (fun j=>l.getD j false)
 | none=>false
def readyT (T:List (List Nat×List Nat)) (l:List Bool):List Nat:=(List.range T.length).filter (readyAt T l)
def freeT (T:List (List Nat×List Nat)) (l:List Bool) (i:Nat):Bool:=match T[i]? with
 | some r=>r.2.all (fun j=>l.getD j true)
 | none=>false
def closedT (T:List (List Nat×List Nat)) (l:List Bool):Bool:=(List.range T.length).all fun j=>!l.getD j false || match T[j]? with
 | some r=>r.1.all (fun k=>l.getD k false)
 | none=>true
def reachT (T:List (List Nat×List Nat)) (i:Nat):Nat→Nat→Bool
  | 0,_=>false
  | fuel+1,d=>match T[d]? with
    | some r=>r.1.any fun j=>j == i || reachT T i fuel j
    | none=>false
def lastT (T:List (List Nat×List Nat)) (l:List Bool) (ds:List Nat) (i:Nat):Bool:=ds.all fun d=>l.getD d true || reachT T i T.length d
section
variable {md : Region.Mode} {ops : Array Oper} {T : Bool × List (List Nat × List Nat)} {l l' li lj lk : Array Bool} {ds : List Nat} {i j k : Nat}
theorem gd (l:Array Bool) (j:Nat) (b:Bool):l.getD j b=l.toList.getD j b:=by simp [Array.getD_eq_getD_getElem?,List.getD_eq_getElem?_getD]
theorem needs_all (o:Oper) (p:Nat→Bool):o.after.all (fun e=>!Region.binds md e || p e.on)=(needsOf md o).all p:=by
  unfold needsOf
  rw [← Array.all_toList]
  induction o.after.toList with
  | nil=>rfl
  | cons e r ih =>
    rw [List.all_cons,ih,List.filter_cons]
    cases h:Region.binds md e <;> simp
theorem needs_any (o:Oper) (p:Nat→Bool):o.after.any (fun e=>Region.binds md e && p e.on)=(needsOf md o).any p:=by
  unfold needsOf
  rw [← Array.any_toList]
  induction o.after.toList with
  | nil=>rfl
  | cons e r ih =>
    rw [List.any_cons,ih,List.filter_cons]
    cases h:Region.binds md e <;> simp
theorem rtab_length:(rtab md ops).2.length=ops.size:=by simp [rtab]
theorem rtab_some {o:Oper} (h:ops[i]? = some o):(rtab md ops).2[i]? = some (needsOf md o,clashOf md ops i o):=by
 have hi:=(Array.getElem?_eq_some_iff.1 h).1
 unfold rtab
 rw [List.getElem?_map,List.getElem?_range hi,Option.map_some,h]
theorem rtab_none (h:ops[i]? = none):(rtab md ops).2[i]? = none:=by
 have hi:ops.size≤i:=Array.getElem?_eq_none_iff.1 h
 exact List.getElem?_eq_none (by rw [rtab_length];exact hi)
theorem readyAt_eq:readyAt (rtab md ops).2 l.toList i=(!l.getD i true && ((ops[i]?).map (·.after.all fun e=>!Region.binds md e || l.getD e.on false)).getD false):=by
  unfold readyAt
  rw [gd]
  cases h:ops[i]? with
  | none=>rw [rtab_none h];rfl
  | some o =>
    rw [rtab_some h]
    simp only [Option.map_some,Option.getD_some]
    rw [← needs_all]
    simp only [gd]
theorem ready_eq:Region.ready md ops l=readyT (rtab md ops).2 l.toList:=by
 unfold Region.ready readyT
 rw [rtab_length]
 refine List.filter_congr (fun i _=>?_)
 rw [readyAt_eq]
theorem free_eq:Region.free md ops l i=freeT (rtab md ops).2 l.toList i:=by
  unfold Region.free freeT
  cases h:ops[i]? with
  | none=>rw [rtab_none h]
  | some oi =>
    rw [rtab_some h]
    simp only [clashOf]
    rw [List.all_filter]
    congr 1
    funext j
    rw [gd]
    cases hj:ops[j]? with
    | none=>cases (j == i) <;> cases (l.toList.getD j true) <;> simp
    | some oj =>
      cases (j == i) <;> cases (l.toList.getD j true) <;> cases (oj.after.any (fun e=>Region.binds md e && e.on == i) || oi.apart ops oj) <;> simp_all
theorem closed_eq:Region.closedB md ops l=closedT (rtab md ops).2 l.toList:=by
  unfold Region.closedB closedT
  rw [rtab_length]
  congr 1
  funext j
  rw [gd]
  cases h:ops[j]? with
  | none=>rw [rtab_none h]
  | some o =>
    rw [rtab_some h]
    simp only
    rw [← needs_all]
    simp only [gd]
theorem reach_eq:∀ (fuel d:Nat),Region.reachB md ops i fuel d=reachT (rtab md ops).2 i fuel d
  | 0,_=>rfl
  | fuel+1,d=>by
    unfold Region.reachB reachT
    cases h:ops[d]? with
    | none=>rw [rtab_none h]
    | some o =>
      rw [rtab_some h]
      simp only
      rw [← needs_any]
      congr 1
      funext e
      rw [reach_eq fuel]
theorem last_eq:Region.lastB md ops l ds i=lastT (rtab md ops).2 l.toList ds i:=by
 unfold Region.lastB lastT
 rw [rtab_length]
 congr 1
 funext d
 rw [gd,reach_eq]
theorem readyAt_mem (h:readyAt T.2 l.toList i=true) (hT:rtab md ops=T):(Region.ready md ops l).contains i=true:=by
 subst hT
 rw [ready_eq]
 unfold readyT
 rw [List.contains_iff_mem,List.mem_filter,List.mem_range]
 refine ⟨?_,h⟩
 unfold readyAt at h
 rw [Bool.and_eq_true] at h
 cases hq:(rtab md ops).2[i]? with
 | none=>rw [hq] at h;simp at h
 | some r=>exact (List.getElem?_eq_some_iff.1 hq).1
theorem set_of (h:(l.toList.set i true == l'.toList)=true):(l.setIfInBounds i true == l')=true:=by
 rw [beq_iff_eq] at h ⊢
 apply Array.ext'
 rw [Array.toList_setIfInBounds]
 exact h
def anyT (T:Bool×List (List Nat×List Nat)) (l l':List Bool) (i:Nat):Bool:=T.1 && freeT T.2 l i && readyAt T.2 l i && (l.set i true == l')
theorem any_of (hT:rtab md ops=T) (h:anyT T l.toList l'.toList i=true):anyB md ops l l' i=true:=by
 simp only [anyT,Bool.and_eq_true] at h
 obtain ⟨⟨⟨h1,h2⟩,h3⟩,h4⟩:=h
 have h5:=readyAt_mem h3 hT
 have h6:=set_of h4
 subst hT
 simp only [anyB,Bool.and_eq_true]
 exact ⟨⟨⟨h1,by rw [free_eq];exact h2⟩,h5⟩,h6⟩
def takeT (T:Bool×List (List Nat×List Nat)) (ds:List Nat) (l l':List Bool) (i:Nat):Bool:=T.1 && freeT T.2 l i && readyAt T.2 l i && closedT T.2 l && lastT T.2 l ds i && (l.set i true == l')
theorem take_of (hT:rtab md ops=T) (h:takeT T ds l.toList l'.toList i=true):takeB md ops ds l l' i=true:=by
 simp only [takeT,Bool.and_eq_true] at h
 obtain ⟨⟨⟨⟨⟨h1,h2⟩,h3⟩,h4⟩,h5⟩,h6⟩:=h
 have h7:=readyAt_mem h3 hT
 have h8:=set_of h6
 subst hT
 simp only [takeB,Bool.and_eq_true]
 exact ⟨⟨⟨⟨⟨h1,by rw [free_eq];exact h2⟩,h7⟩,by rw [closed_eq];exact h4⟩,by rw [last_eq];exact h5⟩,h8⟩
theorem one_of (hT:rtab md ops=T) (h:(readyT T.2 l.toList == [i] && l.toList.set i true == l'.toList)=true):readyB md ops l l' i=true:=by
 simp only [Bool.and_eq_true] at h
 obtain ⟨h1,h2⟩:=h
 subst hT
 simp only [readyB,Bool.and_eq_true]
 exact ⟨by rw [ready_eq];exact h1,set_of h2⟩
theorem two_of (hT:rtab md ops=T) (h:(readyT T.2 l.toList == [i,j] && l.toList.set i true == li.toList && l.toList.set j true == lj.toList)=true):(Region.ready md ops l == [i,j] && l.setIfInBounds i true == li && l.setIfInBounds j true == lj)=true:=by
 simp only [Bool.and_eq_true] at h ⊢
 obtain ⟨⟨h1,h2⟩,h3⟩:=h
 subst hT
 exact ⟨⟨by rw [ready_eq];exact h1,set_of h2⟩,set_of h3⟩
theorem done_of (hT:rtab md ops=T) (h:(readyT T.2 l.toList == [])=true):(Region.ready md ops l == [])=true:=by
 subst hT
 rw [ready_eq]
 exact h
def upM (B:List Nat) (d:Nat):List Nat→Nat
 | []=>0
 | n :: r=>(2 ^ n ||| (if n < d then B.getD n 0 else 0)) ||| upM B d r
def waitsOk (T:List (List Nat×List Nat)) (B:List Nat):Bool:=(List.range T.length).all fun d=>match T[d]? with
 | some r=>(B.getD d 0 ||| upM B d r.1) == upM B d r.1
 | none=>false
theorem upM_bit {B:List Nat} {d i:Nat}:∀ {ns:List Nat},(upM B d ns).testBit i=true→∃ n∈ns,n=i∨(n < d∧(B.getD n 0).testBit i=true)
  | [],h=>by simp [upM] at h
  | n :: r,h=>by
    unfold upM at h
    rw [Nat.testBit_or,Nat.testBit_or,Bool.or_eq_true,Bool.or_eq_true] at h
    rcases h with (h | h) | h
    · rw [Nat.testBit_two_pow] at h
      exact ⟨n,List.mem_cons_self,.inl (by simpa using h)⟩
    · by_cases hn:n < d
      · rw [if_pos hn] at h
        exact ⟨n,List.mem_cons_self,.inr ⟨hn,h⟩⟩
      · rw [if_neg hn] at h
        simp at h
    · obtain ⟨m,hm,h2⟩:=upM_bit h
      exact ⟨m,List.mem_cons_of_mem _ hm,h2⟩
theorem reach_bit {T:List (List Nat×List Nat)} {B:List Nat} (hB:waitsOk T B=true):∀ (fuel d:Nat),d < fuel→d < T.length→(B.getD d 0).testBit i=true→reachT T i fuel d=true
  | 0,d,h,_,_=>by omega
  | fuel+1,d,h,hd,hb=>by
    have h1:=List.all_eq_true.1 hB d (List.mem_range.2 hd)
    cases hr:T[d]? with
    | none=>rw [hr] at h1;simp at h1
    | some r =>
      rw [hr] at h1
      simp only [beq_iff_eq] at h1
      have h2:(upM B d r.1).testBit i=true:=by rw [← h1,Nat.testBit_or,hb,Bool.true_or]
      obtain ⟨n,hn,h3⟩:=upM_bit h2
      unfold reachT
      rw [hr]
      simp only
      rw [List.any_eq_true]
      refine ⟨n,hn,?_⟩
      rcases h3 with rfl | ⟨h4,h5⟩
      · simp
      · rw [reach_bit hB fuel n (by omega) (by omega) h5,Bool.or_true]
def lastW (T:List (List Nat×List Nat)) (B:List Nat) (l:List Bool) (ds:List Nat) (i:Nat):Bool:=ds.all fun d=>l.getD d true || (decide (d < T.length) && (B.getD d 0).testBit i)
def takeW (T:Bool×List (List Nat×List Nat)) (B:List Nat) (ds:List Nat) (l l':List Bool) (i:Nat):Bool:=T.1 && freeT T.2 l i && readyAt T.2 l i && closedT T.2 l && lastW T.2 B l ds i && (l.set i true == l')
theorem take_ofW {B:List Nat} (hT:rtab md ops=T) (hB:waitsOk T.2 B=true) (h:takeW T B ds l.toList l'.toList i=true):takeB md ops ds l l' i=true:=by
 refine take_of hT ?_
 simp only [takeW,takeT,Bool.and_eq_true] at h ⊢
 obtain ⟨⟨⟨⟨⟨h1,h2⟩,h3⟩,h4⟩,h5⟩,h6⟩:=h
 refine ⟨⟨⟨⟨⟨h1,h2⟩,h3⟩,h4⟩,?_⟩,h6⟩
 unfold lastW at h5
 unfold lastT
 rw [List.all_eq_true] at h5 ⊢
 intro d hd
 have h7:=h5 d hd
 rw [Bool.or_eq_true,Bool.and_eq_true,decide_eq_true_eq] at h7
 rcases h7 with h7 | ⟨h8,h9⟩
 ·rw [h7,Bool.true_or]
 ·rw [reach_bit hB _ d h8 h8 h9,Bool.or_true]
theorem with_tabW {P:Program} {Q:Exit→Act→World→Prop} {S:World→Prop} {n:Nat} {a:Act} {w:World} {B:List Nat} (hT:rtab md ops=T) (hB:waitsOk T.2 B=true) (h:Aside0 (rtab md ops=T)→Aside0 (waitsOk T.2 B=true)→wpAnyLast P md ops Q S ds n l a w):wpAnyLast P md ops Q S ds n l a w:=h ⟨hT⟩ ⟨hB⟩
end
def opsIn:Code→Nat→Option (Array Oper)
  | .region id ops _,k=>if id == k then some ops else none
  | .seq a b,k=>match opsIn a k with
    | some o=>some o
    | none=>opsIn b k
  | .cond _ a b,k=>match opsIn a k with
    | some o=>some o
    | none=>opsIn b k
  | .block _ c,k=>opsIn c k
  | .loop c,k=>opsIn c k
  | .scope c,k=>opsIn c k
  | .rangeFunc _ _ a b,k=>match opsIn a k with
    | some o=>some o
    | none=>opsIn b k
  | _,_=>none
def opsOf (f:Func) (k:Nat):Array Oper:=((f.body.bind fun c=>opsIn c k)).getD #[]
end Go.Proofs.YtbcpnejdbookkaaGreatW.PrintLast
namespace Go.Proofs.YtbcpnejdbookkaaGreatW.PrintWords
open Go.RowKit
namespace Kd
def tag {α:Type} (f:Nat→Nat) (d:Kd α):Kd (α×Nat) where
 sz:=d.sz
 E:=d.E
 K:=fun w x cs=>d.K w x.1 cs
 M:=fun w base ok x cs=>d.M w base (fun k=>ok k∧f k=x.2) x.1 cs
 K_len:=fun h=>d.K_len h
 K_one:=fun h=>d.K_one h
 K_below:=fun hb h=>d.K_below hb h
 K_of_M:=fun h=>d.K_of_M h
 M_mono:=fun hok h=>d.M_mono (fun k hk=>⟨hok k hk.1,hk.2⟩) h
 M_bound:=fun h=>d.M_mono (fun _ hk=>⟨⟨hk.1.1,hk.2⟩,hk.1.2⟩) (d.M_bound h)
 M_move:=fun hm h=>d.M_move (fun k hk=>hm k hk.1) h
 M_lower:=fun hb h=>d.M_lower hb h
def raw (sz:Nat):Kd (List Value) where
 sz:=sz
 E:=[]
 K:=fun _ x cs=>cs=x∧cs.length=sz∧∀ u∈cs,u.oneCell'=true
 M:=fun _ _ _ x cs=>cs=x∧cs.length=sz∧∀ u∈cs,u.oneCell'=true
 K_len:=fun h=>h.2.1
 K_one:=fun h=>h.2.2
 K_below:=fun _ h=>h
 K_of_M:=fun h=>h
 M_mono:=fun _ h=>h
 M_bound:=fun h=>h
 M_move:=fun _ h=>h
 M_lower:=fun _ h=>h
def S {α:Type} (d:Kd α) (e:Nat) (w:World) (base:Nat) (ok:Nat→Prop) (v:Value) (xs:List α):Prop:=∃ f,(tag f d).R e w base ok v xs.zipIdx
section
variable {α β : Type} {d : Kd α} {d' : Kd β} {e e' : Nat} {w w1 W : World} {base b : Nat} {ok ok' okv oku : Nat → Prop} {u v : Value} {xs : List α} {ys : List β}
theorem zip_at {xs:List α} {j:Nat} {p:α} (h:xs[j]? = some p):xs.zipIdx[j]? = some (p,j):=by rw [List.getElem?_zipIdx,h,Nat.zero_add];rfl
theorem S_R (h:S d e w base ok v xs):d.R e w base ok v xs:=by
 obtain ⟨f,h0,inner,ho,hr⟩:=h
 rw [List.length_zipIdx] at ho
 exact ⟨h0,inner,ho,by have:=hr.1;rw [List.length_zipIdx] at this;exact this,fun j p hj=>d.M_mono (fun _ hk=>hk.1) (hr.2 j (p,j) (zip_at hj))⟩
theorem R_tight (hE:d.E=[]) (h:d.R e w base ok v xs):d.R e w base (fun k=>some k=v.ownBlock) v xs:=by
 obtain ⟨h0,inner,ho,hr⟩:=h
 refine ⟨fun k hk=>hk.symm,inner,ho,hr.imp_ (fun p c hp=>d.M_mono (fun k hk=>?_) (d.M_bound hp))⟩
 obtain ⟨_,_,_,q,hq,_⟩:=hk
 rw [hE] at hq
 cases hq
theorem S_nil (d:Kd α) (e:Nat) (w:World) (base:Nat) (ok:Nat→Prop):S d e w base ok (.slice none 0 0) []:=⟨fun _=>0,R_nil _ _ _ _ _⟩
theorem S_mono (h:S d e w base ok v xs) (hok:∀ k,ok k→ok' k):S d e w base ok' v xs:=by
 obtain ⟨f,h⟩:=h
 exact ⟨f,R_mono h hok⟩
theorem S_bound (h:S d e w base ok v xs):S d e w base (fun k=>ok k∧base≤k∧k < w.heap.size∧∃ q,q∈e :: d.E∧∃ cells,w.heap[k]? = some (.cells cells q (0,0))) v xs:=by
 obtain ⟨f,h⟩:=h
 exact ⟨f,R_bound h⟩
theorem S_move (h:S d e w base ok v xs) (hm:∀ k,ok k→w1.heap[k]? = w.heap[k]?):S d e w1 base ok v xs:=by
 obtain ⟨f,h⟩:=h
 exact ⟨f,R_move h hm⟩
theorem S_lower {base':Nat} (h:S d e w base ok v xs) (hb:base'≤base):S d e w base' ok v xs:=by
 obtain ⟨f,h⟩:=h
 exact ⟨f,R_lower h hb⟩
theorem S_step (h:S d e w base ok v xs) (hm:∀ k,ok k→k < w.heap.size→w1.heap[k]? = w.heap[k]?):S d e w1 base ok v xs :=
 S_mono (S_move (S_bound h) (fun k hk=>hm k hk.1 hk.2.2.1)) (fun _ hk=>hk.1)
theorem S_below (h:S d e w base ok v xs) (hb:Below w.heap.size w w1):S d e w1 base ok v xs:=S_step h (fun k _ hk=>hb.block k hk)
theorem S_drewN (h:S d e w base ok v xs) (m:Nat):S d e (w.drewN m) base ok v xs:=S_below h (pw_below_drewN (Below.refl _ _) m)
theorem S_elder' (h:S d e W base ok u xs) (hbase:∀ k,v.ownBlock=some k→W.heap.size≤k) (hb:Below W.heap.size W w1):S d e w1 base (fun k=>ok k∧some k≠v.ownBlock) u xs:=by
 obtain ⟨f,h⟩:=h
 exact ⟨f,R_elder' h hbase hb⟩
theorem R_tag {f f':Nat→Nat} {zs:List (α×Nat)} (h:(tag f d).R e w base ok v zs) (hf:∀ k,ok k→k < w.heap.size→f' k=f k):(tag f' d).R e w base ok v zs:=by
 obtain ⟨h0,inner,ho,hr⟩:=R_bound h
 exact ⟨fun k hk=>(h0 k hk).1,inner,ho,hr.1,fun j p hj=>d.M_mono (fun k hk=>⟨⟨hk.1.1.1,hk.1.2⟩,(hf k hk.1.1.1 hk.1.1.2.2.1).trans hk.2⟩) (hr.2 j p hj)⟩
end
section
variable {α β : Type} {d : Kd α} {d' : Kd β} {e e' g : Nat} {w w1 W : World} {base b : Nat} {ok ok' okv oku : Nat → Prop} {u v : Value} {xs : List α} {ys : List β}
theorem S_slice (h:S d e w base ok v xs):∃ A c,v=.slice A xs.length c:=R_slice (S_R h)
theorem zip_snoc (xs:List α) (p:α):(xs ++ [p]).zipIdx=xs.zipIdx ++ [(p,xs.length)]:=by rw [List.zipIdx_append];simp
end
section
open Classical in
theorem S_tag {α:Type} {d:Kd α} {e base:Nat} {okv:Nat→Prop} {w:World} {v:Value} {xs:List α} (h:S d e w base okv v xs) (m:Nat) (okp:Nat→Prop) (hap:∀ k,okp k→¬ okv k):∃ f,(∀ k,okp k→f k=m)∧(tag f d).R e w base okv v xs.zipIdx:=by
 obtain ⟨f,h⟩:=h
 exact ⟨fun k=>if okp k then m else f k,fun k hk=>if_pos hk,R_tag h (fun k hk _=>if_neg (fun h2=>hap k h2 hk))⟩
variable {P : Program} {ops : Array Oper} {rest : List Oper} {o : Oper} {a : Act} {Q : Exit → Act → World → Prop} {Kc : Act → World → Prop} {α : Type}
theorem S_append (d:Kd α) {w0 W:World} (base:Nat) (hgd:o.guard=none) (s x:Operand) (t e:TypeId) (z:Value) (bytes:Nat)
  (ho:o.op=.call { callee:=.builtin .append,args:=#[s,x],argTypes:=#[t,t] })
  (ht:P.underlying t=some (.slice e)) (hinfo:(P.info? e).map (fun i=>(i.zero,i.size,i.bytes))=some (some z,d.sz,bytes)) (hz:z.cells.size=d.sz) (hs0:0 < d.sz) (hb0:0 < bytes)
  (v:Value) (xs:List α) (p:α) (cs:List Value) (ok okp:Nat→Prop) (hs:a.eval s=v) (hx:a.eval x=.slice (some ⟨W.heap.size,0,none⟩) 1 1) (hp:d.M W base okp p cs) (hokp:∀ k,okp k→ok k∧some k≠v.ownBlock) (hfresh:∀ k,W.heap.size≤k→ok k)
  (HO:S d e W base (fun k=>ok k∧¬ okp k) v xs) (HB:Below base w0 W) (hbase:base≤W.heap.size) (hl:(xs.length+1) * bytes≤140737488355328)
  (h:∀ v1 w1,S d e w1 base ok v1 (xs ++ [p])→Below base w0 w1→W.grownBy w1 v.ownBlock→(v1.ownBlock=v.ownBlock∨∃ b,v1.ownBlock=some b∧W.heap.size≤b)→wpList P ops Q rest (a.put o.dst v1) w1) :
  wpList P ops Q (o :: rest) a (W.alloc (.cells cs.toArray e)):=by
 obtain ⟨f,hf,hR⟩:=S_tag HO xs.length okp (fun _ hk h2=>h2.2 hk)
 refine R_append (tag f d) base hgd s x t e z bytes ho ht hinfo hz hs0 hb0 v xs.zipIdx (p,xs.length) cs ok okp hs hx (d.M_mono (fun k hk=>⟨hk,hf k hk⟩) hp) hokp hfresh (R_mono hR (fun _ hk=>hk.1)) HB hbase (by rw [List.length_zipIdx];exact hl) ?_
 intro v1 w1 hr
 rw [← zip_snoc] at hr
 exact h v1 w1 ⟨f,hr⟩
end
def gap {α:Type} (f:Nat→Nat) (d:Kd α) (i:Nat) (c:List Value):Kd (α×Nat) where
  sz:=d.sz
  E:=d.E
  K:=fun w x cs=>(x.2=i→cs=c∧cs.length=d.sz∧∀ u∈cs,u.oneCell'=true)∧(x.2≠i→d.K w x.1 cs)
  M:=fun w base ok x cs=>(x.2=i→cs=c∧cs.length=d.sz∧∀ u∈cs,u.oneCell'=true)∧(x.2≠i→d.M w base (fun k=>ok k∧f k=x.2) x.1 cs)
  K_len:=fun {w x cs} h=>by
    by_cases hx:x.2=i
    · exact (h.1 hx).2.1
    · exact d.K_len (h.2 hx)
  K_one:=fun {w x cs} h=>by
    by_cases hx:x.2=i
    · exact (h.1 hx).2.2
    · exact d.K_one (h.2 hx)
  K_below:=fun hb h=>⟨h.1,fun hx=>d.K_below hb (h.2 hx)⟩
  K_of_M:=fun h=>⟨h.1,fun hx=>d.K_of_M (h.2 hx)⟩
  M_mono:=fun hok h=>⟨h.1,fun hx=>d.M_mono (fun k hk=>⟨hok k hk.1,hk.2⟩) (h.2 hx)⟩
  M_bound:=fun h=>⟨h.1,fun hx=>d.M_mono (fun _ hk=>⟨⟨hk.1.1,hk.2⟩,hk.1.2⟩) (d.M_bound (h.2 hx))⟩
  M_move:=fun hm h=>⟨h.1,fun hx=>d.M_move (fun k hk=>hm k hk.1) (h.2 hx)⟩
  M_lower:=fun hb h=>⟨h.1,fun hx=>d.M_lower hb (h.2 hx)⟩
def H {α:Type} (d:Kd α) (e:Nat) (w:World) (base:Nat) (ok:Nat→Prop) (v:Value) (xs:List α) (i:Int) (oki:Nat→Prop) (c:List Value):Prop :=
 (∀ k,oki k→ok k)∧∃ f,(gap f d i.toNat c).R e w base (fun k=>ok k∧¬ oki k) v xs.zipIdx
structure Heap {α:Type} (d:Kd α):Prop where
 K:∀ {w w1:World} {x:α} {cs:List Value},(∀ k,k < w.heap.size→w1.heap[k]? = w.heap[k]?)→d.K w x cs→d.K w1 x cs
theorem cell_heap {w w1:World} (hb:∀ k,k < w.heap.size→w1.heap[k]? = w.heap[k]?) {a:Addr} {v:Value} (h:w.cell? a=some v):w1.cell? a=some v:=by
 have:=hb a.block (World.block_lt_of_cell? w a h)
 simpa [World.cell?,this] using h
theorem Heap.C {α:Type} {d:Kd α} (hd:Heap d) {w w1:World} {A:Option Addr} {n:Nat} {xs:List α} (hb:∀ k,k < w.heap.size→w1.heap[k]? = w.heap[k]?) (h:d.C w A n xs):d.C w1 A n xs :=
 ⟨h.1,h.2.1,fun hn=>by
  obtain ⟨ad,e,hc⟩:=h.2.2 hn
  refine ⟨ad,e,fun j p hj=>?_⟩
  obtain ⟨c,hs,hr,hcell⟩:=hc j p hj
  exact ⟨c,hs,hd.K hb hr,fun i u hu=>cell_heap hb (hcell i u hu)⟩⟩
end Kd
end Go.Proofs.YtbcpnejdbookkaaGreatW.PrintWords
namespace Go.Proofs.YtbcpnejdbookkaaGreatW.PrintWords
open Go.RowKit
def Kept (w W:World) (S:Nat→Prop):Prop:=w.heap.size≤W.heap.size∧∀ i,i < w.heap.size→¬ S i→W.heap[i]? = w.heap[i]?
section
variable {w W W2 : World} {S S2 S' : Nat → Prop}
theorem Kept.refl (w:World) (S:Nat→Prop):Kept w w S:=⟨Nat.le_refl _,fun _ _ _=>rfl⟩
theorem Kept.of_below (h:Below w.heap.size w W) (S:Nat→Prop):Kept w W S:=⟨h.size,fun i hi _=>h.block i hi⟩
theorem Kept.then_ (h:Kept w W S) (k:Kept W W2 S2) (hs:∀ k,S2 k→S k∨w.heap.size≤k):Kept w W2 S :=
 ⟨Nat.le_trans h.1 k.1,fun i hi hn=>(k.2 i (Nat.lt_of_lt_of_le hi h.1) (fun h2=>(hs i h2).elim hn (fun h3=>by omega))).trans (h.2 i hi hn)⟩
theorem Kept.of_grown {row:Option Nat} (hg:W.grownBy W2 row) (h:Kept w W S) (hr:∀ k,row=some k→S k∨w.heap.size≤k):Kept w W2 S :=
 h.then_ (S2:=fun k=>row=some k) ⟨hg.size,fun i hi hn=>hg.block i hi (fun he=>hn he.symm)⟩ hr
theorem Kept.below (h:Kept w W S) (hb:Below W.heap.size W W2):Kept w W2 S:=h.then_ (Kept.of_below hb (fun _=>False)) (fun _ hk=>hk.elim)
theorem Kept.alloc (h:Kept w W S) (o:Obj):Kept w (W.alloc o) S:=h.below (below_alloc (Below.refl _ _) o)
theorem Kept.drew (h:Kept w W S):Kept w W.drew S:=h
theorem Kept.setCell (h:Kept w W S) {p:Addr} (hp:S p.block∨w.heap.size≤p.block) (u:Value):Kept w (W.setCell p u) S :=
 h.then_ (S2:=fun k=>k=p.block) ⟨by simp [World.setCell],fun i _ hn=>Below.heap_setCell W p u i hn⟩ (fun k hk=>by rw [hk];exact hp)
theorem Kept.of_keep {g:Nat} (h:Kept w W S) (k:KeepBut W W2 g none) (hg:S g∨w.heap.size≤g):Kept w W2 S :=
 h.then_ (S2:=fun k=>k=g) ⟨k.1,fun i hi hn=>k.2 i hi hn (by simp)⟩ (fun k hk=>by rw [hk];exact hg)
theorem blk_kept {g:Nat} {o:Obj} (hb:W.heap[g]? = some o) (hk:Kept W W2 S) (hne:¬ S g):W2.heap[g]? = some o:=(hk.2 g (blk_lt hb) hne).trans hb
end
namespace Kd
section
variable {α : Type} {d : Kd α} {e base n c : Nat} {ok oki S S2 : Nat → Prop} {w w0 W W1 W2 : World} {v : Value} {A : Option Addr} {xs : List α} {i : Int} {cs : List Value}
theorem R_kept (h:d.R e W base ok v xs) (hk:Kept W W2 S) (hne:∀ k,ok k→¬ S k):d.R e W2 base ok v xs:=R_step h (fun k ho hlt=>hk.2 k hlt (hne k ho))
theorem C_kept_own (h:d.R e W base ok (.slice A n c) xs) (hok:∀ k,ok k→¬ S k):∀ W',Kept W W' S→d.C W' A n xs:=fun W' hk=>by
 have h2:=R_reads' (R_kept h hk hok)
 rw [h2.1]
 exact h2.2.2
end
end Kd
def Foot (P:World→Prop) (W:World) (ok:Nat→Prop):Prop:=∀ W':World,(∀ k,ok k→k < W.heap.size→W'.heap[k]? = W.heap[k]?)→P W'
theorem heap_lt {W W1:World} {k:Nat} (h:W1.heap[k]? = W.heap[k]?) (hlt:k < W.heap.size):k < W1.heap.size:=by
 rw [Array.getElem?_eq_getElem hlt] at h
 exact (Array.getElem?_eq_some_iff.1 h).1
namespace Foot
variable {P Q : World → Prop} {W W1 : World} {ok ok' : Nat → Prop}
theorem now (h:Foot P W ok):P W:=h W (fun _ _ _=>rfl)
theorem mono (h:Foot P W ok) (hok:∀ k,ok k→ok' k):Foot P W ok':=fun W' hW=>h W' (fun k hk hlt=>hW k (hok k hk) hlt)
theorem bound (h:Foot P W ok):Foot P W (fun k=>ok k∧k < W.heap.size):=fun W' hW=>h W' (fun k hk hlt=>hW k ⟨hk,hlt⟩ hlt)
theorem step (h:Foot P W ok) (hm:∀ k,ok k→k < W.heap.size→W1.heap[k]? = W.heap[k]?):Foot P W1 ok:=fun W' hW=>h W' (fun k hk hlt=>(hW k hk (heap_lt (hm k hk hlt) hlt)).trans (hm k hk hlt))
theorem imp (h:Foot P W ok) (hi:∀ W',P W'→Q W'):Foot Q W ok:=fun W' hW=>hi W' (h W' hW)
theorem old (h:Foot P W ok) (hb:Below W.heap.size W W1):Foot P W1 (fun k=>ok k∧k < W.heap.size):=(h.bound).step (fun k _ hlt=>hb.block k hlt)
end Foot
namespace Kd
def F {α:Type} (d:Kd α) (W:World) (ok:Nat→Prop) (A:Option Addr) (n:Nat) (xs:List α):Prop:=Foot (fun W=>d.C W A n xs) W ok
def FK {α:Type} (d:Kd α) (W:World) (ok:Nat→Prop) (x:α) (c:List Value):Prop:=Foot (fun W=>d.K W x c) W ok
section
variable {α β : Type} {d : Kd α} {e base n n' cc g N : Nat} {ok ok' okp S : Nat → Prop} {w w0 w1 W W1 : World} {A A' : Option Addr} {u v v1 : Value} {xs : List α} {xs' : List β} {d' : Kd β} {x : α} {c : List Value}
theorem F_now (h:F d W ok A n xs):d.C W A n xs:=Foot.now h
theorem F_mono (h:F d W ok A n xs) (hok:∀ k,ok k→ok' k):F d W ok' A n xs:=Foot.mono h hok
theorem F_bound (h:F d W ok A n xs):F d W (fun k=>ok k∧k < W.heap.size) A n xs:=Foot.bound h
theorem F_step (h:F d W ok A n xs) (hm:∀ k,ok k→k < W.heap.size→W1.heap[k]? = W.heap[k]?):F d W1 ok A n xs:=Foot.step h hm
theorem F_imp (h:F d W ok A n xs) (hi:∀ W',d.C W' A n xs→d'.C W' A' n' xs'):F d' W ok A' n' xs':=Foot.imp h hi
theorem F_below (h:F d W ok A n xs) (hb:Below W.heap.size W W1):F d W1 ok A n xs:=F_step h (fun k _ hlt=>hb.block k hlt)
theorem F_drew (h:F d W ok A n xs):F d W.drew ok A n xs:=F_below h (below_drew (Below.refl _ _))
theorem F_far (h:F d W ok A n xs) {p:Addr} (hok:∀ k,ok k→k≠p.block) (u:Value):F d (W.setCell p u) ok A n xs:=F_step h (fun k hk _=>Below.heap_setCell W p u k (hok k hk))
theorem F_nil (d:Kd α) (W:World) (ok:Nat→Prop):F d W ok none ([]:List α).length []:=fun W' _=>C_nil d W'
theorem F_elder' (h:F d W ok A n xs) (hbase:∀ k,v.ownBlock=some k→W.heap.size≤k) (hb:Below W.heap.size W W1):F d W1 (fun k=>ok k∧some k≠v.ownBlock) A n xs :=
 F_mono (Foot.old h hb) (fun k hk=>⟨hk.1,fun he=>by have:=hbase k he.symm;have:=hk.2;omega⟩)
theorem F_elderB (h:F d W ok A n xs) (a:Nat) (ha:W.heap.size≤a):F d W (fun k=>ok k∧k≠a) A n xs:=F_mono (F_bound h) (fun k hk=>⟨hk.1,by have:=hk.2;omega⟩)
theorem R_F (h:d.R e W base ok (.slice A n cc) xs):F d W ok A n xs:=fun W' hW=>by
 have h2:=R_reads' (R_step h hW)
 rw [h2.1]
 exact h2.2.2
end
end Kd
end Go.Proofs.YtbcpnejdbookkaaGreatW.PrintWords
namespace Go.Proofs.YtbcpnejdbookkaaGreatW.PrintWords
open Go.RowKit
namespace Kd
section
variable {α : Type} {d : Kd α} {e base n cc g : Nat} {ok ok' okp S : Nat → Prop} {w w1 W W1 : World} {A : Option Addr} {u v v1 : Value} {xs : List α} {x : α} {c : List Value}
def N {α:Type} (d:Kd α) (e:Nat) (w:World) (base:Nat) (ok:Nat→Prop) (v:Value) (xs:List α):Prop :=
 (∀ k,v.ownBlock=some k→ok k)∧∃ rows:List (List Value),rows.length=xs.length∧(raw d.sz).R e w base (fun k=>some k=v.ownBlock) v rows∧∀ (j:Nat) (x:α) (c:List Value),xs[j]? = some x→rows[j]? = some c→FK d w (fun k=>ok k∧some k≠v.ownBlock) x c
end
end Kd
end Go.Proofs.YtbcpnejdbookkaaGreatW.PrintWords
namespace Go.Proofs.YtbcpnejdbookkaaGreatW.PrintWords
open Go.RowKit
section
variable {P : Program} {d : Nat} {xs ys : Array Value} {f : Field} {fs : List Field} {a b : Value} {r s : Bool} {w : World}
theorem eqf_last (hn : (f.name == "_") = false) (ha : (part f.type xs f.offset).run P w = .ok a w) (hb : (part f.type ys f.offset).run P w = .ok b w) (he : (Op.equalIn d f.type a b).run P w = .ok r w) : (Op.eqFields d xs ys [f]).run P w = .ok r w := by
 have hn' : f.name ≠ "_" := by simpa using hn
 simp only [Op.eqFields,if_pos hn',Sem.run_bind,ha,hb,he,Result.andThen_ok]
 cases r <;> simp
theorem eqf_cons (hn : (f.name == "_") = false) (ha : (part f.type xs f.offset).run P w = .ok a w) (hb : (part f.type ys f.offset).run P w = .ok b w) (he : (Op.equalIn d f.type a b).run P w = .ok r w) (hr : (Op.eqFields d xs ys fs).run P w = .ok s w) : (Op.eqFields d xs ys (f :: fs)).run P w = .ok (r && s) w := by
 have hn' : f.name ≠ "_" := by simpa using hn
 rw [Op.eqFields]
 simp only [if_pos hn',Sem.run_bind,ha,hb,he,Result.andThen_ok]
 cases r
 ·simp
 ·simpa using hr
theorem eqA_of {t:TypeId} {fs:Array Field} (hu:P.underlying t=some (.struct fs)) (hp:P.stoodInHeld t=false) (h:(Op.eqFields d xs ys fs.toList).run P w=.ok r w):(Op.equalIn (d+1) t (.agg xs) (.agg ys)).run P w=.ok r w:=by
 have hf:P.fieldsOf t=fs:=by simp [Program.fieldsOf,hu]
 rw [run_equalIn_struct (P:=P) w d t xs ys (by rw [hf];exact hu) hp,hf]
 exact h
end
end Go.Proofs.YtbcpnejdbookkaaGreatW.PrintWords
namespace Go.Proofs.YtbcpnejdbookkaaGreatW.PrintWords
theorem Reps.one {α:Type} {R:α→List Value→Prop} {ps:List α} {cs:List Value} {p:α} {v:Value} (hp:R p [v]) (h:Reps R 1 ps cs):Reps R 1 (p :: ps) (v :: cs):=by
  refine ⟨by simp [h.1],fun j q hq=>?_⟩
  cases j with
  | zero =>
    simp only [List.getElem?_cons_zero,Option.some.injEq] at hq
    subst hq
    simpa using hp
  | succ j =>
    simp only [List.getElem?_cons_succ] at hq
    have h1:=h.2 j q hq
    simpa [Nat.mul_one] using h1
theorem Reps.front {α:Type} {R:α→List Value→Prop} {size:Nat} {ps:List α} {cs c all:List Value} {p:α} (hp:R p c) (hc:c.length=size) (h:Reps R size ps cs) (ha:c ++ cs=all):Reps R size (p :: ps) all:=by
  subst ha
  refine ⟨by rw [List.length_append,hc,h.1,List.length_cons,Nat.succ_mul,Nat.add_comm],fun j q hq=>?_⟩
  cases j with
  | zero =>
    simp only [List.getElem?_cons_zero,Option.some.injEq] at hq
    subst hq
    rw [Nat.zero_mul,List.drop_zero,List.take_append_of_le_length (by omega),List.take_of_length_le (by omega)]
    exact hp
  | succ j =>
    simp only [List.getElem?_cons_succ] at hq
    have h1:=h.2 j q hq
    rw [Nat.succ_mul,List.drop_append,List.drop_of_length_le (by rw [hc];exact Nat.le_add_left _ _),List.nil_append,hc,Nat.add_sub_cancel]
    exact h1
theorem Reps.c2 {α:Type} {R:α→List Value→Prop} {ps:List α} {cs:List Value} {p:α} {va vb:Value} (hp:R p [va,vb]) (h:Reps R 2 ps cs):Reps R 2 (p :: ps) (va :: vb :: cs):=Reps.front hp rfl h rfl
theorem Reps.c4 {α:Type} {R:α→List Value→Prop} {ps:List α} {cs:List Value} {p:α} {va vb vc vd:Value} (hp:R p [va,vb,vc,vd]) (h:Reps R 4 ps cs):Reps R 4 (p :: ps) (va :: vb :: vc :: vd :: cs):=Reps.front hp rfl h rfl
theorem Reps.c5 {α:Type} {R:α→List Value→Prop} {ps:List α} {cs:List Value} {p:α} {va vb vc vd ve:Value} (hp:R p [va,vb,vc,vd,ve]) (h:Reps R 5 ps cs):Reps R 5 (p :: ps) (va :: vb :: vc :: vd :: ve :: cs):=Reps.front hp rfl h rfl
end Go.Proofs.YtbcpnejdbookkaaGreatW.PrintWords
namespace Go.Proofs.YtbcpnejdbookkaaGreatW.PrintWords
open Go.RowKit
section
variable {P : Program} {ops : Array Oper} {rest : List Oper} {o : Oper} {a : Act} {Q : Exit → Act → World → Prop} {W : World}
theorem gate_guard (hw:Region.wanted o (yielded ops a.tmps)=true) (h:wpList P ops Q ({ o with guard:=none } :: rest) a W):wpList P ops Q (o :: rest) a W:=by
 have h1:Region.wanted { o with guard:=none } (yielded ops a.tmps)=true:=rfl
 unfold wpList at h ⊢
 rw [if_pos h1] at h
 rw [if_pos hw]
 exact h
end
end Go.Proofs.YtbcpnejdbookkaaGreatW.PrintWords
namespace Go.Proofs.YtbcpnejdbookkaaGreatW.PrintMore
open Go.RowKit Go.Proofs.YtbcpnejdbookkaaGreatW.PrintWords
theorem max2_int (k k':IntKind) (x y:Int):Builtin.max2 (.int k x) (.int k' y)=pure (.int k (if x < y then y else x)):=by simp only [Builtin.max2,gt_iff_lt]
theorem min2_int (k k':IntKind) (x y:Int):Builtin.min2 (.int k x) (.int k' y)=pure (.int k (if y < x then y else x)):=by simp only [Builtin.min2]
theorem max_two (ats:Array TypeId) (ty:TypeId) (a b:Value):Builtin.max_ ats ty #[a,b]=(Builtin.max2 a b >>= fun s=>pure s):=by simp only [Builtin.max_,List.foldlM_cons,List.foldlM_nil]
theorem min_two (ats:Array TypeId) (ty:TypeId) (a b:Value):Builtin.min_ ats ty #[a,b]=(Builtin.min2 a b >>= fun s=>pure s):=by simp only [Builtin.min_,List.foldlM_cons,List.foldlM_nil]
theorem max_three (ats:Array TypeId) (ty:TypeId) (a b c:Value):Builtin.max_ ats ty #[a,b,c]=(Builtin.max2 a b >>= fun s=>Builtin.max2 s c >>= fun s=>pure s):=by simp only [Builtin.max_,List.foldlM_cons,List.foldlM_nil]
theorem min_three (ats:Array TypeId) (ty:TypeId) (a b c:Value):Builtin.min_ ats ty #[a,b,c]=(Builtin.min2 a b >>= fun s=>Builtin.min2 s c >>= fun s=>pure s):=by simp only [Builtin.min_,List.foldlM_cons,List.foldlM_nil]
theorem max_four (ats:Array TypeId) (ty:TypeId) (a b c d:Value):Builtin.max_ ats ty #[a,b,c,d]=(Builtin.max2 a b >>= fun s=>Builtin.max2 s c >>= fun s=>Builtin.max2 s d >>= fun s=>pure s):=by simp only [Builtin.max_,List.foldlM_cons,List.foldlM_nil]
theorem min_four (ats:Array TypeId) (ty:TypeId) (a b c d:Value):Builtin.min_ ats ty #[a,b,c,d]=(Builtin.min2 a b >>= fun s=>Builtin.min2 s c >>= fun s=>Builtin.min2 s d >>= fun s=>pure s):=by simp only [Builtin.min_,List.foldlM_cons,List.foldlM_nil]
end Go.Proofs.YtbcpnejdbookkaaGreatW.PrintMore
namespace Go.Proofs.YtbcpnejdbookkaaGreatW.PrintWords
open Go.RowKit
section
variable {P : Program} {ops : Array Oper} {rest : List Oper} {o : Oper} {a : Act} {Q : Exit → Act → World → Prop} {W : World}
theorem gate_callee {f:FuncId} {as_:Array Operand} {ts:Array TypeId} (_ho:o.op=.call { callee:=.value (.func f),args:=as_,argTypes:=ts }) (h:wpList P ops Q (o :: rest) a W):wpList P ops Q (o :: rest) a W:=h
theorem gate_builtin {b:Builtin} {xs:Array Operand} {ts:Array TypeId} (_ho:o.op=.call { callee:=.builtin b,args:=xs,argTypes:=ts }) (h:wpList P ops Q (o :: rest) a W):wpList P ops Q (o :: rest) a W:=h
end
def mx (a b:Int):Int:=if a < b then b else a
def mn (a b:Int):Int:=if b < a then b else a
end Go.Proofs.YtbcpnejdbookkaaGreatW.PrintWords
namespace Go.Proofs.YtbcpnejdbookkaaGreatW.PrintWords
open Go.RowKit
namespace Kd
def V {α:Type} (d:Kd α) (_e:Nat) (W:World) (_base:Nat) (ok:Nat→Prop) (v:Value) (xs:List α):Prop:=∃ A c,v=.slice A xs.length c∧xs.length≤c∧F d W ok A xs.length xs
section
variable {α β : Type} {d : Kd α} {e base base' n m c g N' lo hi : Nat} {ok ok' S : Nat → Prop} {w W w1 : World} {A : Option Addr} {ad : Addr} {u v v1 : Value} {xs : List α}
theorem V_map (h:V d e W base ok v xs) (hF:∀ A,F d W ok A xs.length xs→F d w1 ok' A xs.length xs):V d e w1 base' ok' v xs:=by
 obtain ⟨A,c,hv,hl,hf⟩:=h
 exact ⟨A,c,hv,hl,hF A hf⟩
theorem V_mk (hl:xs.length≤c) (hf:F d W ok A xs.length xs):V d e W base ok (.slice A xs.length c) xs:=⟨A,c,rfl,hl,hf⟩
theorem V_slice (h:V d e W base ok v xs):∃ A c,v=.slice A xs.length c:=by
 obtain ⟨A,c,hv,_⟩:=h
 exact ⟨A,c,hv⟩
theorem V_at (h:V d e W base ok (.slice A n c) xs):n=xs.length∧n≤c∧F d W ok A xs.length xs:=by
 obtain ⟨A',c',hv,hl,hf⟩:=h
 injection hv with ha hn hc
 subst ha;subst hc
 exact ⟨hn,by rw [hn];exact hl,hf⟩
theorem V_reads' (h:V d e W base ok (.slice A n c) xs):n=xs.length∧n≤c∧d.C W A xs.length xs:=⟨(V_at h).1,(V_at h).2.1,F_now (V_at h).2.2⟩
theorem V_nil (d:Kd α) (e:Nat) (W:World) (base:Nat) (ok:Nat→Prop):V d e W base ok (.slice none 0 0) []:=⟨none,0,rfl,Nat.le_refl _,F_nil d W ok⟩
theorem R_V (h:d.R e W base ok v xs):V d e W base' ok v xs:=by
 obtain ⟨A,c,rfl⟩:=R_slice h
 exact ⟨A,c,rfl,(R_reads' h).2.1,R_F h⟩
theorem V_mono (h:V d e W base ok v xs) (hok:∀ k,ok k→ok' k):V d e W base ok' v xs:=V_map h (fun _ hf=>F_mono hf hok)
theorem V_lower (h:V d e W base ok v xs) (_:base'≤base):V d e W base' ok v xs:=h
theorem V_step (h:V d e W base ok v xs) (hm:∀ k,ok k→k < W.heap.size→w1.heap[k]? = W.heap[k]?):V d e w1 base ok v xs:=V_map h (fun _ hf=>F_step hf hm)
theorem V_below (h:V d e W base ok v xs) (hb:Below W.heap.size W w1):V d e w1 base ok v xs:=V_map h (fun _ hf=>F_below hf hb)
theorem V_drew (h:V d e W base ok v xs):V d e W.drew base ok v xs:=V_map h (fun _ hf=>F_drew hf)
theorem V_far (h:V d e W base ok v xs) {p:Addr} (hok:∀ k,ok k→k≠p.block) (u:Value):V d e (W.setCell p u) base ok v xs:=V_map h (fun _ hf=>F_far hf hok u)
theorem V_elder' (h:V d e W base ok v xs) (hbase:∀ k,u.ownBlock=some k→W.heap.size≤k) (hb:Below W.heap.size W w1):V d e w1 base (fun k=>ok k∧some k≠u.ownBlock) v xs:=V_map h (fun _ hf=>F_elder' hf hbase hb)
theorem V_elderB (h:V d e W base ok v xs) (a:Nat) (ha:W.heap.size≤a):V d e W base (fun k=>ok k∧k≠a) v xs:=V_map h (fun _ hf=>F_elderB hf a ha)
theorem F_take (h:F d W ok A xs.length xs) (hm:m≤xs.length):F d W ok A (xs.take m).length (xs.take m):=F_imp h (fun _ hC=>C_take hC hm)
end
end Kd
end Go.Proofs.YtbcpnejdbookkaaGreatW.PrintWords
namespace Go.Proofs.YtbcpnejdbookkaaGreat.Print
open Go.RowKit Go.Proofs.YtbcpnejdbookkaaGreatW.PrintWords Go.Proofs.YtbcpnejdbookkaaGreatW.PrintLast Go.Proofs.YtbcpnejdbookkaaGreatW.PrintMore
attribute [local go_sem] max2_int min2_int max_two min_two max_three min_three max_four min_four   -- for this text's walks alone
def errW:Option Int→Value
 | none=>.nilIface
 | some c=>.iface 0 (.int .i64 c)
theorem errW_none:errW none=.nilIface:=rfl
theorem errW_some (c:Int):errW (some c)=.iface 0 (.int .i64 c):=rfl
theorem info3:(Tryz.prog.info? 3).map (fun i=>(i.zero,i.size,i.bytes))=some (some (.int .i64 0),1,8):=by kernel_rfl
theorem info33:(Tryz.prog.info? 33).map (fun i=>(i.zero,i.size,i.bytes))=some (some (.agg #[(.int .i64 0),(.int .i64 0)]),2,16):=by kernel_rfl
theorem info35:(Tryz.prog.info? 35).map (fun i=>(i.zero,i.size,i.bytes))=some (some (.agg #[(.int .i64 0),(.int .i64 0),(.int .i64 0),(.int .i64 0)]),4,32):=by kernel_rfl
theorem info37:(Tryz.prog.info? 37).map (fun i=>(i.zero,i.size,i.bytes))=some (some (.agg #[(.int .i64 0),(.int .i64 0),(.int .i64 0),(.int .i64 0),(.int .i64 0)]),5,40):=by kernel_rfl
structure S33 where
 f0:Int
 f1:Int
def z33:S33:=⟨(0:Int),(0:Int)⟩
def k33:Kd S33:=Kd.iso (Kd.pair (Kd.int .i64) (Kd.int .i64)) (fun x:S33=>(x.f0,x.f1))
theorem k33_open {w:World} {x:S33} {cs:List Value} (h:k33.K w x cs):cs=[.int .i64 x.f0,.int .i64 x.f1]:=by
 obtain ⟨_,_,rfl,rfl,rfl⟩:=h
 exact rfl
theorem k33_openM {w:World} {base:Nat} {ok:Nat→Prop} {x:S33} {cs:List Value} (h:k33.M w base ok x cs):cs=[.int .i64 x.f0,.int .i64 x.f1]:=by
 obtain ⟨_,_,rfl,rfl,rfl⟩:=h
 exact rfl
theorem k33_mk (w:World) (x:S33) :k33.K w x [.int .i64 x.f0,.int .i64 x.f1]:=⟨[.int .i64 x.f0],[.int .i64 x.f1],rfl,rfl,rfl⟩
theorem k33_mkM (w:World) (base:Nat) (ok:Nat→Prop) (x:S33) :k33.M w base ok x [.int .i64 x.f0,.int .i64 x.f1]:=⟨[.int .i64 x.f0],[.int .i64 x.f1],rfl,rfl,rfl⟩
def rd_T33 (xs:List S33) (i:Int):S33:=xs.getD i.toNat z33
theorem at_T33 {w:World} {A:Option Addr} {n:Nat} {xs:List S33} (h:Kd.C k33 w A n xs) (i:Int) (h0:0≤i) (h1:i < n):∃ ad ,A=some ad∧w.cell? (ad.add (i.toNat * 2))=some (.int .i64 (rd_T33 xs i).f0)∧w.cell? ⟨(ad.add (i.toNat * 2)).block,(ad.add (i.toNat * 2)).off+1,none⟩=some (.int .i64 (rd_T33 xs i).f1):=by
 obtain ⟨ad,c,e,_,hK,hc0⟩:=Kd.C_get h z33 i h0 h1
 have hc:∀ j u,c[j]? = some u→w.cell? (ad.add (i.toNat * 2+j))=some u:=hc0
 obtain rfl:=k33_open hK
 exact ⟨ad,e,hc 0 _ rfl,by rw [← add_field _ _ 1 (by omega)];exact hc 1 _ rfl⟩
structure S35 where
 f0:S33
 f1:S33
def z35:S35:=⟨z33,z33⟩
def k35:Kd S35:=Kd.iso (Kd.pair k33 k33) (fun x:S35=>(x.f0,x.f1))
theorem k35_open {w:World} {x:S35} {cs:List Value} (h:k35.K w x cs):cs=[.int .i64 x.f0.f0,.int .i64 x.f0.f1,.int .i64 x.f1.f0,.int .i64 x.f1.f1]:=by
 obtain ⟨_,_,rfl,s0,s2⟩:=h
 obtain rfl:=k33_open s0
 obtain rfl:=k33_open s2
 exact rfl
theorem k35_openM {w:World} {base:Nat} {ok:Nat→Prop} {x:S35} {cs:List Value} (h:k35.M w base ok x cs):cs=[.int .i64 x.f0.f0,.int .i64 x.f0.f1,.int .i64 x.f1.f0,.int .i64 x.f1.f1]:=by
 obtain ⟨_,_,rfl,s0,s2⟩:=h
 obtain rfl:=k33_openM s0
 obtain rfl:=k33_openM s2
 exact rfl
theorem k35_mk (w:World) (x:S35) :k35.K w x [.int .i64 x.f0.f0,.int .i64 x.f0.f1,.int .i64 x.f1.f0,.int .i64 x.f1.f1]:=⟨[.int .i64 x.f0.f0,.int .i64 x.f0.f1],[.int .i64 x.f1.f0,.int .i64 x.f1.f1],rfl,(k33_mk w x.f0 ),(k33_mk w x.f1 )⟩
theorem k35_mkM (w:World) (base:Nat) (ok:Nat→Prop) (x:S35) :k35.M w base ok x [.int .i64 x.f0.f0,.int .i64 x.f0.f1,.int .i64 x.f1.f0,.int .i64 x.f1.f1]:=⟨[.int .i64 x.f0.f0,.int .i64 x.f0.f1],[.int .i64 x.f1.f0,.int .i64 x.f1.f1],rfl,(k33_mkM w base ok x.f0 ),(k33_mkM w base ok x.f1 )⟩
def rd_T35 (xs:List S35) (i:Int):S35:=xs.getD i.toNat z35
theorem at_T35 {w:World} {A:Option Addr} {n:Nat} {xs:List S35} (h:Kd.C k35 w A n xs) (i:Int) (h0:0≤i) (h1:i < n):∃ ad ,A=some ad∧w.cell? (ad.add (i.toNat * 4))=some (.int .i64 (rd_T35 xs i).f0.f0)∧w.cell? ⟨(ad.add (i.toNat * 4)).block,(ad.add (i.toNat * 4)).off+1,none⟩=some (.int .i64 (rd_T35 xs i).f0.f1)∧w.cell? ⟨(ad.add (i.toNat * 4)).block,(ad.add (i.toNat * 4)).off+2,none⟩=some (.int .i64 (rd_T35 xs i).f1.f0)∧w.cell? ⟨(ad.add (i.toNat * 4)).block,(ad.add (i.toNat * 4)).off+3,none⟩=some (.int .i64 (rd_T35 xs i).f1.f1):=by
 obtain ⟨ad,c,e,_,hK,hc0⟩:=Kd.C_get h z35 i h0 h1
 have hc:∀ j u,c[j]? = some u→w.cell? (ad.add (i.toNat * 4+j))=some u:=hc0
 obtain rfl:=k35_open hK
 exact ⟨ad,e,hc 0 _ rfl,by rw [← add_field _ _ 1 (by omega)];exact hc 1 _ rfl,by rw [← add_field _ _ 2 (by omega)];exact hc 2 _ rfl,by rw [← add_field _ _ 3 (by omega)];exact hc 3 _ rfl⟩
structure S37 where
 f0:S35
 f1:Int
def z37:S37:=⟨z35,(0:Int)⟩
def k37:Kd S37:=Kd.iso (Kd.pair k35 (Kd.int .i64)) (fun x:S37=>(x.f0,x.f1))
theorem k37_open {w:World} {x:S37} {cs:List Value} (h:k37.K w x cs):cs=[.int .i64 x.f0.f0.f0,.int .i64 x.f0.f0.f1,.int .i64 x.f0.f1.f0,.int .i64 x.f0.f1.f1,.int .i64 x.f1]:=by
 obtain ⟨_,_,rfl,s0,rfl⟩:=h
 obtain rfl:=k35_open s0
 exact rfl
theorem k37_openM {w:World} {base:Nat} {ok:Nat→Prop} {x:S37} {cs:List Value} (h:k37.M w base ok x cs):cs=[.int .i64 x.f0.f0.f0,.int .i64 x.f0.f0.f1,.int .i64 x.f0.f1.f0,.int .i64 x.f0.f1.f1,.int .i64 x.f1]:=by
 obtain ⟨_,_,rfl,s0,rfl⟩:=h
 obtain rfl:=k35_openM s0
 exact rfl
theorem k37_mk (w:World) (x:S37) :k37.K w x [.int .i64 x.f0.f0.f0,.int .i64 x.f0.f0.f1,.int .i64 x.f0.f1.f0,.int .i64 x.f0.f1.f1,.int .i64 x.f1]:=⟨[.int .i64 x.f0.f0.f0,.int .i64 x.f0.f0.f1,.int .i64 x.f0.f1.f0,.int .i64 x.f0.f1.f1],[.int .i64 x.f1],rfl,(k35_mk w x.f0 ),rfl⟩
theorem k37_mkM (w:World) (base:Nat) (ok:Nat→Prop) (x:S37) :k37.M w base ok x [.int .i64 x.f0.f0.f0,.int .i64 x.f0.f0.f1,.int .i64 x.f0.f1.f0,.int .i64 x.f0.f1.f1,.int .i64 x.f1]:=⟨[.int .i64 x.f0.f0.f0,.int .i64 x.f0.f0.f1,.int .i64 x.f0.f1.f0,.int .i64 x.f0.f1.f1],[.int .i64 x.f1],rfl,(k35_mkM w base ok x.f0 ),rfl⟩
def rd_T37 (xs:List S37) (i:Int):S37:=xs.getD i.toNat z37
theorem at_T37 {w:World} {A:Option Addr} {n:Nat} {xs:List S37} (h:Kd.C k37 w A n xs) (i:Int) (h0:0≤i) (h1:i < n):∃ ad ,A=some ad∧w.cell? (ad.add (i.toNat * 5))=some (.int .i64 (rd_T37 xs i).f0.f0.f0)∧w.cell? ⟨(ad.add (i.toNat * 5)).block,(ad.add (i.toNat * 5)).off+1,none⟩=some (.int .i64 (rd_T37 xs i).f0.f0.f1)∧w.cell? ⟨(ad.add (i.toNat * 5)).block,(ad.add (i.toNat * 5)).off+2,none⟩=some (.int .i64 (rd_T37 xs i).f0.f1.f0)∧w.cell? ⟨(ad.add (i.toNat * 5)).block,(ad.add (i.toNat * 5)).off+3,none⟩=some (.int .i64 (rd_T37 xs i).f0.f1.f1)∧w.cell? ⟨(ad.add (i.toNat * 5)).block,(ad.add (i.toNat * 5)).off+4,none⟩=some (.int .i64 (rd_T37 xs i).f1):=by
 obtain ⟨ad,c,e,_,hK,hc0⟩:=Kd.C_get h z37 i h0 h1
 have hc:∀ j u,c[j]? = some u→w.cell? (ad.add (i.toNat * 5+j))=some u:=hc0
 obtain rfl:=k37_open hK
 exact ⟨ad,e,hc 0 _ rfl,by rw [← add_field _ _ 1 (by omega)];exact hc 1 _ rfl,by rw [← add_field _ _ 2 (by omega)];exact hc 2 _ rfl,by rw [← add_field _ _ 3 (by omega)];exact hc 3 _ rfl,by rw [← add_field _ _ 4 (by omega)];exact hc 4 _ rfl⟩
def rd_L4 (xs:List (List S37)) (i:Int):(List S37):=xs.getD i.toNat ([]:List S37)
theorem at_L4 {w:World} {A:Option Addr} {n:Nat} {xs:List (List S37)} (h:Kd.C (Kd.slice 37 k37) w A n xs) (i:Int) (h0:0≤i) (h1:i < n):∃ ad A0 c0,A=some ad∧w.cell? (ad.add i.toNat)=some (.slice A0 (rd_L4 xs i).length c0)∧(rd_L4 xs i).length≤c0∧k37.C w A0 (rd_L4 xs i).length (rd_L4 xs i):=by
 obtain ⟨ad,c,e,_,hK,hc0⟩:=Kd.C_get h ([]:List S37) i h0 h1
 have hc:∀ j u,c[j]? = some u→w.cell? (ad.add (i.toNat * 1+j))=some u:=hc0
 obtain ⟨A0,c0,rfl,l0,g0⟩:=hK
 exact ⟨ad,A0,c0,e,by have hq:=hc 0 _ rfl;rwa [Nat.mul_one,Nat.add_zero] at hq,l0,g0⟩
end Go.Proofs.YtbcpnejdbookkaaGreat.Print
namespace Go.Proofs.YtbcpnejdbookkaaGreat.Print
open Go Go.ChangeShapes Go.WideShapes Go.RowKit
def Opens (P:Program) (t:TypeId) {α:Type} (g:α→List Value) (ok:α→Prop):Prop :=
  ∀ (H:Type) (enc:TypeId×Value→H) (w:World) (base:Nat) (spare:Nat→Bool) (held:Bool) (fuel:Nat) (cs:List Value) (x:DataW H×List MemPlace),
    DataW.trod enc P w base spare held fuel t cs=some x→∃ a,cs=g a∧ok a
theorem Opens.int {P:Program} {t:TypeId} {k:IntKind} (ht:P.underlying t=some (.int k)):Opens P t (fun n:Int=>[Value.int k n]) (fun n=>(Lit.int k n).wf=true) :=
 fun H enc w base spare held fuel cs x h=>by
  obtain ⟨n,e,_,hw⟩:=DataW.trod_int ht h
  exact ⟨n,e,hw⟩
theorem Opens.bool {P:Program} {t:TypeId} (ht:P.underlying t=some .bool):Opens P t (fun b:Bool=>[Value.bool b]) (fun _=>True) :=
 fun H enc w base spare held fuel cs x h=>by
  obtain ⟨n,e,_⟩:=DataW.trod_bool ht h
  exact ⟨n,e,trivial⟩
theorem Opens.struct2 {P:Program} {t:TypeId} {f0 f1:Field} {α β:Type} {g0:α→List Value} {g1:β→List Value} {k0:α→Prop} {k1:β→Prop} (ht:P.underlying t=some (.struct #[f0,f1]))
  (o0:Opens P f0.type g0 k0) (o1:Opens P f1.type g1 k1) (h0:f0.offset=0) (h1:f1.offset=P.cellsOf f0.type) (hc:P.cellsOf t=f1.offset+P.cellsOf f1.type) :
  Opens P t (fun a:α×β=>g0 a.1 ++ g1 a.2) (fun a=>k0 a.1∧k1 a.2) :=
 fun H enc w base spare held fuel cs x h=>by
  obtain ⟨y0,y1,n,_,hl,e0,e1⟩:=trod_struct2 ht h
  obtain ⟨a,ea,wa⟩:=o0 _ _ _ _ _ _ _ _ _ e0
  obtain ⟨b,eb,wb⟩:=o1 _ _ _ _ _ _ _ _ _ e1
  refine ⟨(a,b),?_,wa,wb⟩
  show cs=g0 a ++ g1 b
  rw [← ea,← eb,h0,h1,List.drop_zero,List.take_of_length_le (l:=List.drop _ cs) (by rw [List.length_drop];omega),List.take_append_drop]
theorem Opens.agg {P:Program} {t:TypeId} {α:Type} {g:α→List Value} {k:α→Prop} (o:Opens P t g k) (hs:(∃ fs,P.underlying t=some (.struct fs))∨∃ n e,P.underlying t=some (.array n e))
  {H:Type} {enc:TypeId×Value→H} {w:World} {r:Reach} {b0 base:Nat} {spare:Nat→Bool} {held:Bool} {v:Value} {d:DataW H} {ps:List MemPlace} (hval:Value.okWide P w r b0 t v)
  (hd:DataW.Trod enc P w base spare held t v d ps):∃ a,v=.agg (g a).toArray∧k a:=by
 have hv:∃ cs,v=.agg cs:=by
  unfold Value.okWide at hval
  rcases hs with ⟨fs,h⟩ | ⟨n,e,h⟩
  ·rw [h] at hval;obtain ⟨cs,h,_⟩:=hval;exact ⟨cs,h⟩
  ·rw [h] at hval;obtain ⟨cs,h,_⟩:=hval;exact ⟨cs,h⟩
 obtain ⟨cs,rfl⟩:=hv
 obtain ⟨fuel,hf⟩:=hd
 obtain ⟨a,ea,wa⟩:=o _ _ _ _ _ _ _ _ _ hf
 refine ⟨a,?_,wa⟩
 have:cs.toList=g a:=ea
 rw [← this]
end Go.Proofs.YtbcpnejdbookkaaGreat.Print
namespace Go.Proofs.YtbcpnejdbookkaaGreat.Print
open Go.RowKit
open Go Go.ChangeShapes Go.WideShapes Go.RowKit Go.Deep
theorem Opens.slice {P:Program} {t e:TypeId} {α:Type} {g:α→List Value} {ok:α→Prop} (ht:P.underlying t=some (.slice e)) (o:Opens P e g ok) {H:Type} {enc:TypeId×Value→H} {w:World} {base:Nat} {spare:Nat→Bool} {held:Bool}
    {a:Option Addr} {len cap:Nat} {d:DataW H} {ps:List MemPlace} (hd:DataW.Trod enc P w base spare held t (.slice a len cap) d ps) :
    ∃ xs:List α,xs.length=len∧(∀ x∈xs,ok x)∧len≤cap∧len≤9223372036854775807∧(0 < len→∃ ad,a=some ad∧∀ (j:Nat) (x:α),xs[j]? = some x→∀ (i:Nat) (u:Value),(g x)[i]? = some u→w.cell? (ad.add (j * P.cellsOf e+i))=some u):=by
  obtain ⟨fuel,hf⟩:=hd
  rcases open_slice ht hf with ⟨hcs,_⟩ | ⟨ad,l,c,m,n,D,Pl,hcs,_,hl,hm,hmm,_,hi⟩
  · simp [Value.cells] at hcs
    obtain ⟨rfl,rfl,rfl⟩:=hcs
    exact ⟨[],rfl,fun _ h=>(by cases h),Nat.le_refl _,by omega,fun h=>absurd h (by omega)⟩
  · simp [Value.cells] at hcs
    obtain ⟨rfl,rfl,rfl⟩:=hcs
    have hlm:len≤m:=by rw [hmm];split <;> omega
    have key:∀ k,k≤len→∃ xs:List α,xs.length=k∧(∀ x∈xs,ok x)∧∀ (j:Nat) (x:α),xs[j]? = some x→∀ (i:Nat) (u:Value),(g x)[i]? = some u→w.cell? (ad.add (j * P.cellsOf e+i))=some u:=by
      intro k
      induction k with
      | zero=>intro _;exact ⟨[],rfl,fun _ h=>(by cases h),fun j x h=>by simp at h⟩
      | succ k ih =>
        intro hk
        obtain ⟨xs,h1,h2,h3⟩:=ih (by omega)
        obtain ⟨cs',hc,hT⟩:=hi k (by omega)
        obtain ⟨x,rfl,hx⟩:=o _ _ _ _ _ _ _ _ _ hT
        obtain ⟨_,hcl,hat⟩:=World.cells?_some hc
        refine ⟨xs ++ [x],by simp [h1],fun y hy=>?_,fun j y hj i u hu=>?_⟩
        · rcases List.mem_append.1 hy with hy | hy
          · exact h2 y hy
          · rcases List.mem_singleton.1 hy with rfl;exact hx
        · by_cases hjk:j < k
          · rw [List.getElem?_append_left (by omega)] at hj
            exact h3 j y hj i u hu
          · have hjl:j < (xs ++ [x]).length:=(List.getElem?_eq_some_iff.1 hj).1
            have:j=k:=by simp at hjl;omega
            subst this
            rw [← h1,List.getElem?_append_right (Nat.le_refl _)] at hj
            simp at hj
            subst hj
            have hil:i < (g x).length:=(List.getElem?_eq_some_iff.1 hu).1
            have hcell:=hat i (by omega)
            rw [← Go.Deep.add_add,hcell,hu]
    obtain ⟨xs,h1,h2,h3⟩:=key len (Nat.le_refl _)
    exact ⟨xs,h1,h2,hl,by unfold maxLen at hm;omega,fun _=>⟨ad,rfl,h3⟩⟩
end Go.Proofs.YtbcpnejdbookkaaGreat.Print
namespace Go.Proofs.YtbcpnejdbookkaaGreat.Print
open Go.RowKit Go.Proofs.YtbcpnejdbookkaaGreatW.PrintWords Go.Proofs.YtbcpnejdbookkaaGreatW.PrintLast
theorem kdC_of {α S:Type} (d:Kd S) (g:α→List Value) (mk:α→S) (hK:∀ w x,d.K w (mk x) (g x)) {w:World} {a:Option Addr} (xs:List α) (n:Nat) (hn:n=d.sz) (hl:xs.length≤9223372036854775807)
  (hcell:0 < xs.length→∃ ad,a=some ad∧∀ (j:Nat) (x:α),xs[j]? = some x→∀ (i:Nat) (u:Value),(g x)[i]? = some u→w.cell? (ad.add (j * n+i))=some u):d.C w a (xs.map mk).length (xs.map mk):=by
 subst hn
 refine ⟨rfl,by rw [List.length_map];exact hl,fun hp=>?_⟩
 rw [List.length_map] at hp
 obtain ⟨ad,ea,hc⟩:=hcell hp
 refine ⟨ad,ea,fun j p hj=>?_⟩
 rw [List.getElem?_map] at hj
 obtain ⟨x,hx,rfl⟩:=Option.map_eq_some_iff.1 hj
 exact ⟨g x,d.K_len (hK w x),hK w x,fun i u hu=>hc j x hx i u hu⟩
theorem bk {w W:World} {g:Nat} {o:Obj} (h:Aside0 (w.heap[g]? = some o)) (c:w.heap[g]? = some o→W.heap[g]? = some o:=by (intro h_;(with_reducible repeat (first | refine blk_drewN ?_ _ | refine blk_drew ?_ | refine blk_alloc ?_ _));exact h_)):W.heap[g]? = some o:=c h.out
theorem bl {B:Nat} {w0 w W:World} (h:Aside0 (Below B w0 w)) (c:Below B w0 w→Below B w0 W:=by (intro h_;repeat (first | (with_reducible first | exact h_ | apply below_alloc | apply pw_below_drewN | apply below_drew1 | refine below_set ?_ (Aside0.out (by assumption))) | exact h_))):Below B w0 W:=c h.out
theorem kr {α:Type} {d:Kd α} {e base:Nat} {w W:World} {ok:Nat→Prop} {v:Value} {xs:List α} (h:Aside0 (d.R e w base ok v xs)) (c:d.R e w base ok v xs→d.R e W base ok v xs:=by (intro h_;(with_reducible repeat (first | apply Kd.R_alloc | apply Kd.R_drewN | apply Kd.R_drew));exact h_)):d.R e W base ok v xs:=c h.out
theorem c4 {w:World} {g:Nat} {a b c d:Value} {t:TypeId} {p:Prop} (h:Aside0 (w.heap[g]? = some (.cells #[a,b,c,d] t (0,0)))) (r:p):w.cell? ⟨g,0,none⟩=some a∧w.cell? ⟨g,1,none⟩=some b∧w.cell? ⟨g,2,none⟩=some c∧w.cell? ⟨g,3,none⟩=some d∧p :=
 ⟨(blk_cell h.out 0).trans rfl,(blk_cell h.out 1).trans rfl,(blk_cell h.out 2).trans rfl,(blk_cell h.out 3).trans rfl,r⟩
theorem e4 {w:World} {g:Nat} {a b c d:Value} {t:TypeId} (h:Aside0 (w.heap[g]? = some (.cells #[a,b,c,d] t (0,0)))):w.cell? ⟨g,0,none⟩=some a∧w.cell? ⟨g,1,none⟩=some b∧w.cell? ⟨g,2,none⟩=some c∧w.cell? ⟨g,3,none⟩=some d :=
 ⟨(blk_cell h.out 0).trans rfl,(blk_cell h.out 1).trans rfl,(blk_cell h.out 2).trans rfl,(blk_cell h.out 3).trans rfl⟩
theorem c2 {w:World} {g:Nat} {a b:Value} {t:TypeId} {p:Prop} (h:Aside0 (w.heap[g]? = some (.cells #[a,b] t (0,0)))) (r:p):w.cell? ⟨g,0,none⟩=some a∧w.cell? ⟨g,1,none⟩=some b∧p:=⟨(blk_cell h.out 0).trans rfl,(blk_cell h.out 1).trans rfl,r⟩
theorem e2 {w:World} {g:Nat} {a b:Value} {t:TypeId} (h:Aside0 (w.heap[g]? = some (.cells #[a,b] t (0,0)))):w.cell? ⟨g,0,none⟩=some a∧w.cell? ⟨g,1,none⟩=some b:=⟨(blk_cell h.out 0).trans rfl,(blk_cell h.out 1).trans rfl⟩
theorem bkb {w W w1:World} {g:Nat} {o:Obj} (h:Aside0 (w.heap[g]? = some o)) (hb:Below W.heap.size W w1) (c:w.heap[g]? = some o→W.heap[g]? = some o:=by (intro h_;(with_reducible repeat (first | refine blk_drewN ?_ _ | refine blk_drew ?_ | refine blk_alloc ?_ _));exact h_)):Aside0 (w1.heap[g]? = some o):=⟨blk_below (c h.out) hb⟩
theorem bst {w0 w W w1:World} (h:Aside0 (Below w0.heap.size w0 w)) (hb:Below W.heap.size W w1) (c:Below w0.heap.size w0 w→Below w0.heap.size w0 W:=by (intro h_;repeat (first | (with_reducible first | exact h_ | apply below_alloc | apply pw_below_drewN | apply below_drew1 | refine below_set ?_ (Aside0.out (by assumption))) | exact h_))):Aside0 (Below w0.heap.size w0 w1):=⟨below_step (c h.out) hb⟩
theorem krb {α:Type} {d:Kd α} {e base:Nat} {w W w1:World} {ok:Nat→Prop} {v:Value} {xs:List α} (h:Aside0 (d.R e w base ok v xs)) (hb:Below W.heap.size W w1) (c:d.R e w base ok v xs→d.R e W base ok v xs:=by (intro h_;(with_reducible repeat (first | apply Kd.R_alloc | apply Kd.R_drewN | apply Kd.R_drew));exact h_)):Aside0 (d.R e w1 base ok v xs):=⟨Kd.R_below (c h.out) hb⟩
theorem lsz {w0 w W:World} {g:Nat} (hg:g=W.heap.size) (h:Aside0 (Below w0.heap.size w0 w)) (c:Below w0.heap.size w0 w→Below w0.heap.size w0 W:=by (intro h_;repeat (first | (with_reducible first | exact h_ | apply below_alloc | apply pw_below_drewN | apply below_drew1 | refine below_set ?_ (Aside0.out (by assumption))) | exact h_))):Aside0 (w0.heap.size≤g):=⟨by rw [hg];exact below_size (c h.out)⟩
theorem nlt {w W:World} {g g':Nat} {o:Obj} (hg:g'=W.heap.size) (h:Aside0 (w.heap[g]? = some o)) (c:w.heap[g]? = some o→W.heap[g]? = some o:=by (intro h_;(with_reducible repeat (first | refine blk_drewN ?_ _ | refine blk_drew ?_ | refine blk_alloc ?_ _));exact h_)):Aside0 (g≠g'):=⟨by rw [hg];exact Nat.ne_of_lt (blk_lt (c h.out))⟩
theorem ngt {w W:World} {g g':Nat} {o:Obj} (hg:g'=W.heap.size) (h:Aside0 (w.heap[g]? = some o)) (c:w.heap[g]? = some o→W.heap[g]? = some o:=by (intro h_;(with_reducible repeat (first | refine blk_drewN ?_ _ | refine blk_drew ?_ | refine blk_alloc ?_ _));exact h_)):Aside0 (g'≠g):=⟨by rw [hg];exact Nat.ne_of_gt (blk_lt (c h.out))⟩
theorem bkf {w W:World} {g g':Nat} {t:TypeId} {cs:Array Value} (h:Aside0 (w.heap[g]? = some (.cells cs t (0,0)))) (n:Aside0 (g≠g')) (c:w.heap[g]? = some (.cells cs t (0,0))→g≠g'→W.heap[g]? = some (.cells cs t (0,0)):=by (intro h_ n_;(with_reducible repeat (first | refine blk_drewN ?_ _ | refine blk_drew ?_ | refine blk_alloc ?_ _ | refine blk_far ?_ n_ _));exact h_)):W.heap[g]? = some (.cells cs t (0,0)):=c h.out n.out
theorem bkp {w W:World} {g:Nat} {t:TypeId} {cs cs':Array Value} (h:Aside0 (w.heap[g]? = some (.cells cs t (0,0)))) (c:w.heap[g]? = some (.cells cs t (0,0))→W.heap[g]? = some (.cells cs' t (0,0)):=by (intro h_;(with_reducible repeat (first | refine blk_drewN ?_ _ | refine blk_drew ?_ | refine blk_alloc ?_ _ | apply blk_put));exact h_;all_goals rfl)):W.heap[g]? = some (.cells cs' t (0,0)):=c h.out
theorem f2 {w:World} {g:Nat} {a b:Value} {t:TypeId} (h:Aside0 (w.heap[g]? = some (.cells #[a,b] t (0,0)))):w.frozen? ⟨g,0,none⟩=false∧w.frozen? ⟨g,1,none⟩=false:=⟨blk_frozen h.out 0,blk_frozen h.out 1⟩
theorem f4 {w:World} {g:Nat} {a b c d:Value} {t:TypeId} (h:Aside0 (w.heap[g]? = some (.cells #[a,b,c,d] t (0,0)))):w.frozen? ⟨g,0,none⟩=false∧w.frozen? ⟨g,1,none⟩=false∧w.frozen? ⟨g,2,none⟩=false∧w.frozen? ⟨g,3,none⟩=false:=⟨blk_frozen h.out 0,blk_frozen h.out 1,blk_frozen h.out 2,blk_frozen h.out 3⟩
theorem endB {B:Nat} {w0 w W:World} {e e':Ending} (h:Aside0 (Below B w0 w)) (he:e=e':=by first | rfl | (simp [errW_none,errW_some] <;> rfl) | (simp [*,errW_none,errW_some] <;> rfl)) (c:Below B w0 w→Below B w0 W:=by (intro h_;repeat (first | (with_reducible first | exact h_ | apply below_alloc | apply pw_below_drewN | apply below_drew1 | refine below_set ?_ (Aside0.out (by assumption))) | exact h_))):e=e'∧Below B w0 W:=⟨he,c h.out⟩
section
variable {P : Program} {ops : Array Oper} {Q : Exit → Act → World → Prop} {md : Region.Mode} {S : World → Prop} {ds : List Nat}
theorem nrp (_N:Tmp) {v:Value} {o:Option Tmp} {fuel:Nat} {l:Array Bool} {a a':Act} {w:World} (h:wpAnyLast P md ops Q S ds fuel l a' w) (ha:a.put o v=a':=by (show Act.put _ (some _) _=_;simp only [Act.put,List.setIfInBounds_toArray,List.set_cons_zero,List.set_cons_succ,i64_w,i32_w];rfl)):wpAnyLast P md ops Q S ds fuel l (a.put o v) w:=norm_ ha h
theorem pu (i:Nat) (N:Option Tmp) {oi:Oper} {v:Value} {fuel:Nat} {l:Array Bool} {a a':Act} {w:World} (l':Array Bool) (hc:anyB md ops l l' i=true) (h:wpAnyLast P md ops Q S ds fuel l' a' w) (hi:ops[i]? = some oi:=by rfl) (hN:oi.dst=N:=by rfl) (hQ:∀ c a w,Q (.panic c) (a.put oi.dst v) w→Q (.panic c) a w:=by exact fun _ _ _ h=>h) (hy:Yields P ops oi v a:=by exact Or.inl ⟨by rfl,by (intro w';go_simp;with_reducible rfl)⟩) (ha:a.put N v=a':=by (simp only [Act.put,List.setIfInBounds_toArray,List.set_cons_zero,List.set_cons_succ,i64_w,i32_w];rfl)):wpAnyLast P md ops Q S ds (fuel+1) l a w:=pure_ l' hi hN hc hQ hy ha h
theorem tk2 (i:Nat) (N:Option Tmp) {oi:Oper} {v:Value} {fuel:Nat} {l:Array Bool} {a a':Act} {w:World} (l':Array Bool) (hc:takeB md ops ds l l' i=true) (hS:S w) (h:wpAnyLast P md ops Q S ds fuel l' a' w) (hi:ops[i]? = some oi:=by rfl) (hN:oi.dst=N:=by rfl) (hQ:∀ c a w,Q (.panic c) (a.put oi.dst v) w→Q (.panic c) a w:=by exact fun _ _ _ h=>h) (hy:YieldsIf P ops S oi v a:=by exact Or.inl ⟨by rfl,by (rintro w' ⟨s0,s1⟩;go_simp;with_reducible rfl)⟩) (ha:a.put N v=a':=by (simp only [Act.put,List.setIfInBounds_toArray,List.set_cons_zero,List.set_cons_succ,i64_w,i32_w];rfl)):wpAnyLast P md ops Q S ds (fuel+1) l a w:=take_ l' hi hN hc hQ hy hS ha h
theorem tk4 (i:Nat) (N:Option Tmp) {oi:Oper} {v:Value} {fuel:Nat} {l:Array Bool} {a a':Act} {w:World} (l':Array Bool) (hc:takeB md ops ds l l' i=true) (hS:S w) (h:wpAnyLast P md ops Q S ds fuel l' a' w) (hi:ops[i]? = some oi:=by rfl) (hN:oi.dst=N:=by rfl) (hQ:∀ c a w,Q (.panic c) (a.put oi.dst v) w→Q (.panic c) a w:=by exact fun _ _ _ h=>h) (hy:YieldsIf P ops S oi v a:=by exact Or.inl ⟨by rfl,by (rintro w' ⟨s0,s1,s2,s3⟩;go_simp;with_reducible rfl)⟩) (ha:a.put N v=a':=by (simp only [Act.put,List.setIfInBounds_toArray,List.set_cons_zero,List.set_cons_succ,i64_w,i32_w];rfl)):wpAnyLast P md ops Q S ds (fuel+1) l a w:=take_ l' hi hN hc hQ hy hS ha h
theorem gol {rest : List Oper} {oi : Oper} {a : Act} {w : World} (N : Option Tmp) {f : FuncId} {fn : Func} {as_ : Array Operand} {ts : Array TypeId} (hf : P.funcs[f]? = some fn) (args : Array Value) (h : Calls P f args w fun e w' => ∃ v, e = .returned v ∧ wpList P ops Q rest (a.put N v) w') (hd : oi.dst = N := by rfl) (hg : oi.guard = none := by rfl) (hname : (fn.name == "runtime.NumGoroutine") = false := by kernel_rfl) (hb : fn.body.isSome = true := by rfl)
  (hop:oi.op=.call { callee:=.value (.func f),args:=as_,argTypes:=ts }:=by rfl) (hargs:as_.map a.eval=args:=by ((try simp only [List.map_toArray,List.map_cons,List.map_nil]);first | done | rfl | (simp only [List.length_drop,List.length_take];rfl))):wpList P ops Q (oi :: rest) a w:=goesL_ N hd hg hf hname hb args hop hargs h
theorem bxe {o:Oper} {rest:List Oper} {a:Act} {W:World} {N:Tmp} {cs:Array Value} {t:TypeId} (h:∀ g,g=W.heap.size→∀ w1,w1.heap[g]? = some (.cells cs t (0,0))→Below W.heap.size W w1→wpList P ops Q rest (a.put o.dst (.pointer (some ⟨g,0,none⟩))) w1) (hd:o.dst=some N:=by rfl) (hg:o.guard=none:=by rfl)
  (hr:(execOp a.eval o).run P W=.ok (.value (.pointer (some ⟨W.heap.size,0,none⟩))) (W.alloc (.cells cs t (0,0))):=by first | (go_simp;done) | (go_simp;rfl)):wpList P ops Q (o :: rest) a W:=box_event hg hd hr h
end
end Go.Proofs.YtbcpnejdbookkaaGreat.Print
namespace Go.Proofs.YtbcpnejdbookkaaGreat.Print
open Go.RowKit Go.Proofs.YtbcpnejdbookkaaGreatW.PrintWords Go.Proofs.YtbcpnejdbookkaaGreatW.PrintLast Go.Proofs.YtbcpnejdbookkaaGreatW.PrintMore
section
variable {P : Program} {ops : Array Oper} {Q : Exit → Act → World → Prop} {md : Region.Mode} {S : World → Prop} {ds : List Nat} {T : Bool × List (List Nat × List Nat)}
theorem pw (i N:Nat) (HT:Aside0 (rtab md ops=T)) {oi:Oper} {v:Value} {fuel:Nat} {l l':Array Bool} {a a':Act} {w:World} (h:wpAnyLast P md ops Q S ds fuel l' a' w) (_hl:l.setIfInBounds i true=l':=by (simp only [List.setIfInBounds_toArray,List.set_cons_zero,List.set_cons_succ];rfl)) (hc:anyT T l.toList l'.toList i=true:=by kernel_rfl) (hi:ops[i]? = some oi:=by rfl) (hN:oi.dst=some N:=by rfl) (hQ:∀ c a w,Q (.panic c) (a.put oi.dst v) w→Q (.panic c) a w:=by exact fun _ _ _ h=>h) (hy:Yields P ops oi v a:=by exact Or.inl ⟨by rfl,by (intro w';go_simp;with_reducible rfl)⟩) (ha:a.put (some N) v=a':=by (simp only [Act.put,List.setIfInBounds_toArray,List.set_cons_zero,List.set_cons_succ,i64_w,i32_w];rfl)):wpAnyLast P md ops Q S ds (fuel+1) l a w:=pure_ l' hi hN (any_of HT.out hc) hQ hy ha h
theorem px (i N:Nat) (HT:Aside0 (rtab md ops=T)) {oi:Oper} {fuel:Nat} {l l':Array Bool} {a a':Act} {w:World} (h:wpAnyLast P md ops Q S ds fuel l' a' w) (_hl:l.setIfInBounds i true=l':=by (simp only [List.setIfInBounds_toArray,List.set_cons_zero,List.set_cons_succ];rfl)) (hc:anyT T l.toList l'.toList i=true:=by kernel_rfl) (hi:ops[i]? = some oi:=by rfl) (hN:oi.dst=some N:=by rfl) (hQ:∀ c a w,Q (.panic c) (a.put oi.dst undef) w→Q (.panic c) a w:=by exact fun _ _ _ h=>h) (hy:Yields P ops oi undef a:=by exact Or.inr ⟨by rfl,rfl⟩) (ha:a.put (some N) undef=a':=by (simp only [Act.put,List.setIfInBounds_toArray,List.set_cons_zero,List.set_cons_succ,i64_w,i32_w];rfl)):wpAnyLast P md ops Q S ds (fuel+1) l a w:=pure_ l' hi hN (any_of HT.out hc) hQ hy ha h
theorem tw2 (i N:Nat) {B:List Nat} {w:World} (HT:Aside0 (rtab md ops=T)) (HW:Aside0 (waitsOk T.2 B=true)) (hS:S w) {oi:Oper} {v:Value} {fuel:Nat} {l l':Array Bool} {a a':Act} (h:wpAnyLast P md ops Q S ds fuel l' a' w) (_hl:l.setIfInBounds i true=l':=by (simp only [List.setIfInBounds_toArray,List.set_cons_zero,List.set_cons_succ];rfl)) (hc:takeW T B ds l.toList l'.toList i=true:=by kernel_rfl) (hi:ops[i]? = some oi:=by rfl) (hN:oi.dst=some N:=by rfl) (hQ:∀ c a w,Q (.panic c) (a.put oi.dst v) w→Q (.panic c) a w:=by exact fun _ _ _ h=>h) (hy:YieldsIf P ops S oi v a:=by exact Or.inl ⟨by rfl,by (rintro w' ⟨s0,s1⟩;go_simp;with_reducible rfl)⟩) (ha:a.put (some N) v=a':=by (simp only [Act.put,List.setIfInBounds_toArray,List.set_cons_zero,List.set_cons_succ,i64_w,i32_w];rfl)):wpAnyLast P md ops Q S ds (fuel+1) l a w:=take_ l' hi hN (take_ofW HT.out HW.out hc) hQ hy hS ha h
theorem tw3 (i N:Nat) {B:List Nat} {w:World} (HT:Aside0 (rtab md ops=T)) (HW:Aside0 (waitsOk T.2 B=true)) (hS:S w) {oi:Oper} {v:Value} {fuel:Nat} {l l':Array Bool} {a a':Act} (h:wpAnyLast P md ops Q S ds fuel l' a' w) (_hl:l.setIfInBounds i true=l':=by (simp only [List.setIfInBounds_toArray,List.set_cons_zero,List.set_cons_succ];rfl)) (hc:takeW T B ds l.toList l'.toList i=true:=by kernel_rfl) (hi:ops[i]? = some oi:=by rfl) (hN:oi.dst=some N:=by rfl) (hQ:∀ c a w,Q (.panic c) (a.put oi.dst v) w→Q (.panic c) a w:=by exact fun _ _ _ h=>h) (hy:YieldsIf P ops S oi v a:=by exact Or.inl ⟨by rfl,by (rintro w' ⟨s0,s1,s2⟩;go_simp;with_reducible rfl)⟩) (ha:a.put (some N) v=a':=by (simp only [Act.put,List.setIfInBounds_toArray,List.set_cons_zero,List.set_cons_succ,i64_w,i32_w];rfl)):wpAnyLast P md ops Q S ds (fuel+1) l a w:=take_ l' hi hN (take_ofW HT.out HW.out hc) hQ hy hS ha h
theorem tw4 (i N:Nat) {B:List Nat} {w:World} (HT:Aside0 (rtab md ops=T)) (HW:Aside0 (waitsOk T.2 B=true)) (hS:S w) {oi:Oper} {v:Value} {fuel:Nat} {l l':Array Bool} {a a':Act} (h:wpAnyLast P md ops Q S ds fuel l' a' w) (_hl:l.setIfInBounds i true=l':=by (simp only [List.setIfInBounds_toArray,List.set_cons_zero,List.set_cons_succ];rfl)) (hc:takeW T B ds l.toList l'.toList i=true:=by kernel_rfl) (hi:ops[i]? = some oi:=by rfl) (hN:oi.dst=some N:=by rfl) (hQ:∀ c a w,Q (.panic c) (a.put oi.dst v) w→Q (.panic c) a w:=by exact fun _ _ _ h=>h) (hy:YieldsIf P ops S oi v a:=by exact Or.inl ⟨by rfl,by (rintro w' ⟨s0,s1,s2,s3⟩;go_simp;with_reducible rfl)⟩) (ha:a.put (some N) v=a':=by (simp only [Act.put,List.setIfInBounds_toArray,List.set_cons_zero,List.set_cons_succ,i64_w,i32_w];rfl)):wpAnyLast P md ops Q S ds (fuel+1) l a w:=take_ l' hi hN (take_ofW HT.out HW.out hc) hQ hy hS ha h
theorem tw6 (i N:Nat) {B:List Nat} {w:World} (HT:Aside0 (rtab md ops=T)) (HW:Aside0 (waitsOk T.2 B=true)) (hS:S w) {oi:Oper} {v:Value} {fuel:Nat} {l l':Array Bool} {a a':Act} (h:wpAnyLast P md ops Q S ds fuel l' a' w) (_hl:l.setIfInBounds i true=l':=by (simp only [List.setIfInBounds_toArray,List.set_cons_zero,List.set_cons_succ];rfl)) (hc:takeW T B ds l.toList l'.toList i=true:=by kernel_rfl) (hi:ops[i]? = some oi:=by rfl) (hN:oi.dst=some N:=by rfl) (hQ:∀ c a w,Q (.panic c) (a.put oi.dst v) w→Q (.panic c) a w:=by exact fun _ _ _ h=>h) (hy:YieldsIf P ops S oi v a:=by exact Or.inl ⟨by rfl,by (rintro w' ⟨s0,s1,s2,s3,s4,s5⟩;go_simp;with_reducible rfl)⟩) (ha:a.put (some N) v=a':=by (simp only [Act.put,List.setIfInBounds_toArray,List.set_cons_zero,List.set_cons_succ,i64_w,i32_w];rfl)):wpAnyLast P md ops Q S ds (fuel+1) l a w:=take_ l' hi hN (take_ofW HT.out HW.out hc) hQ hy hS ha h
theorem tw8 (i N:Nat) {B:List Nat} {w:World} (HT:Aside0 (rtab md ops=T)) (HW:Aside0 (waitsOk T.2 B=true)) (hS:S w) {oi:Oper} {v:Value} {fuel:Nat} {l l':Array Bool} {a a':Act} (h:wpAnyLast P md ops Q S ds fuel l' a' w) (_hl:l.setIfInBounds i true=l':=by (simp only [List.setIfInBounds_toArray,List.set_cons_zero,List.set_cons_succ];rfl)) (hc:takeW T B ds l.toList l'.toList i=true:=by kernel_rfl) (hi:ops[i]? = some oi:=by rfl) (hN:oi.dst=some N:=by rfl) (hQ:∀ c a w,Q (.panic c) (a.put oi.dst v) w→Q (.panic c) a w:=by exact fun _ _ _ h=>h) (hy:YieldsIf P ops S oi v a:=by exact Or.inl ⟨by rfl,by (rintro w' ⟨s0,s1,s2,s3,s4,s5,s6,s7⟩;go_simp;with_reducible rfl)⟩) (ha:a.put (some N) v=a':=by (simp only [Act.put,List.setIfInBounds_toArray,List.set_cons_zero,List.set_cons_succ,i64_w,i32_w];rfl)):wpAnyLast P md ops Q S ds (fuel+1) l a w:=take_ l' hi hN (take_ofW HT.out HW.out hc) hQ hy hS ha h
theorem tw9 (i N:Nat) {B:List Nat} {w:World} (HT:Aside0 (rtab md ops=T)) (HW:Aside0 (waitsOk T.2 B=true)) (hS:S w) {oi:Oper} {v:Value} {fuel:Nat} {l l':Array Bool} {a a':Act} (h:wpAnyLast P md ops Q S ds fuel l' a' w) (_hl:l.setIfInBounds i true=l':=by (simp only [List.setIfInBounds_toArray,List.set_cons_zero,List.set_cons_succ];rfl)) (hc:takeW T B ds l.toList l'.toList i=true:=by kernel_rfl) (hi:ops[i]? = some oi:=by rfl) (hN:oi.dst=some N:=by rfl) (hQ:∀ c a w,Q (.panic c) (a.put oi.dst v) w→Q (.panic c) a w:=by exact fun _ _ _ h=>h) (hy:YieldsIf P ops S oi v a:=by exact Or.inl ⟨by rfl,by (rintro w' ⟨s0,s1,s2,s3,s4,s5,s6,s7,s8⟩;go_simp;with_reducible rfl)⟩) (ha:a.put (some N) v=a':=by (simp only [Act.put,List.setIfInBounds_toArray,List.set_cons_zero,List.set_cons_succ,i64_w,i32_w];rfl)):wpAnyLast P md ops Q S ds (fuel+1) l a w:=take_ l' hi hN (take_ofW HT.out HW.out hc) hQ hy hS ha h
theorem tw10 (i N:Nat) {B:List Nat} {w:World} (HT:Aside0 (rtab md ops=T)) (HW:Aside0 (waitsOk T.2 B=true)) (hS:S w) {oi:Oper} {v:Value} {fuel:Nat} {l l':Array Bool} {a a':Act} (h:wpAnyLast P md ops Q S ds fuel l' a' w) (_hl:l.setIfInBounds i true=l':=by (simp only [List.setIfInBounds_toArray,List.set_cons_zero,List.set_cons_succ];rfl)) (hc:takeW T B ds l.toList l'.toList i=true:=by kernel_rfl) (hi:ops[i]? = some oi:=by rfl) (hN:oi.dst=some N:=by rfl) (hQ:∀ c a w,Q (.panic c) (a.put oi.dst v) w→Q (.panic c) a w:=by exact fun _ _ _ h=>h) (hy:YieldsIf P ops S oi v a:=by exact Or.inl ⟨by rfl,by (rintro w' ⟨s0,s1,s2,s3,s4,s5,s6,s7,s8,s9⟩;go_simp;with_reducible rfl)⟩) (ha:a.put (some N) v=a':=by (simp only [Act.put,List.setIfInBounds_toArray,List.set_cons_zero,List.set_cons_succ,i64_w,i32_w];rfl)):wpAnyLast P md ops Q S ds (fuel+1) l a w:=take_ l' hi hN (take_ofW HT.out HW.out hc) hQ hy hS ha h
theorem tw12 (i N:Nat) {B:List Nat} {w:World} (HT:Aside0 (rtab md ops=T)) (HW:Aside0 (waitsOk T.2 B=true)) (hS:S w) {oi:Oper} {v:Value} {fuel:Nat} {l l':Array Bool} {a a':Act} (h:wpAnyLast P md ops Q S ds fuel l' a' w) (_hl:l.setIfInBounds i true=l':=by (simp only [List.setIfInBounds_toArray,List.set_cons_zero,List.set_cons_succ];rfl)) (hc:takeW T B ds l.toList l'.toList i=true:=by kernel_rfl) (hi:ops[i]? = some oi:=by rfl) (hN:oi.dst=some N:=by rfl) (hQ:∀ c a w,Q (.panic c) (a.put oi.dst v) w→Q (.panic c) a w:=by exact fun _ _ _ h=>h) (hy:YieldsIf P ops S oi v a:=by exact Or.inl ⟨by rfl,by (rintro w' ⟨s0,s1,s2,s3,s4,s5,s6,s7,s8,s9,s10,s11⟩;go_simp;with_reducible rfl)⟩) (ha:a.put (some N) v=a':=by (simp only [Act.put,List.setIfInBounds_toArray,List.set_cons_zero,List.set_cons_succ,i64_w,i32_w];rfl)):wpAnyLast P md ops Q S ds (fuel+1) l a w:=take_ l' hi hN (take_ofW HT.out HW.out hc) hQ hy hS ha h
end
end Go.Proofs.YtbcpnejdbookkaaGreat.Print
namespace Go.Proofs.YtbcpnejdbookkaaGreat.Print
open Go.RowKit Go.Proofs.YtbcpnejdbookkaaGreatW.PrintWords Go.Proofs.YtbcpnejdbookkaaGreatW.PrintLast Go.Proofs.YtbcpnejdbookkaaGreatW.PrintMore
theorem lr {α:Type} (x:Option α):LeO x x:=LeO.refl x
theorem li {α:Type} {p:Prop} [Decidable p] {x x' y y':Option α} (h:LeO x x') (k:LeO y y'):LeO (if p then x else y) (if p then x' else y'):=LeO.ite h k
theorem lb {α β:Type} {x x':Option α} {f f':α→Option β} (h:LeO x x') (k:∀ a,LeO (f a) (f' a)):LeO (x.bind f) (x'.bind f'):=LeO.bind h k
theorem am {p:Prop} (h:p):Aside0 p:=⟨h⟩
theorem rs {p:Prop} (h:p:=by first | rfl | (simp;done) | (simp [*];done)):p:=h
theorem pd {p:Prop} [Decidable p] (h:decide p=true:=by first | (with_reducible assumption) | assumption):p:=of_decide_eq_true h
theorem dn {w w':World} (h:Drawn0 w w':=by repeat (first | exact Drawn0.refl _ | apply Drawn0.step)):Drawn0 w w':=h
theorem kl {a b:Nat} (h:Aside0 (a+1≤b)):Aside0 (a≤b):=⟨Nat.le_of_succ_le h.out⟩
theorem kn {p:Prop} (h:p:=by first | exact Kd.R_nil _ _ _ _ _ | exact Kd.N_nil _ _ _ _ _ | exact Kd.V_nil _ _ _ _ _ | exact Kd.Q_nil _ _ _ _ _ | exact Kd.S_nil _ _ _ _ _):Aside0 p:=⟨h⟩
theorem cl {w w':World} {a:Addr} {v:Value} (hB:Aside0 (Below w.heap.size w w')) (h:w.cell? a=some v):w'.cell? a=some v:=(hB.out.cell (World.block_lt_of_cell? w _ h)).trans h
theorem s2 {w:World} {g:Nat} {a b:Value} {t:TypeId} (h:Aside0 (w.heap[g]? = some (.cells #[a,b] t (0,0)))):w.cell? ⟨g,0,none⟩=some a∧w.cell? ⟨g,1,none⟩=some b∧w.frozen? ⟨g,0,none⟩=false∧w.frozen? ⟨g,1,none⟩=false:=⟨(blk_cell h.out 0).trans rfl,(blk_cell h.out 1).trans rfl,blk_frozen h.out 0,blk_frozen h.out 1⟩
theorem e3 {w:World} {g:Nat} {a b c:Value} {t:TypeId} (h:Aside0 (w.heap[g]? = some (.cells #[a,b,c] t (0,0)))):w.cell? ⟨g,0,none⟩=some a∧w.cell? ⟨g,1,none⟩=some b∧w.cell? ⟨g,2,none⟩=some c:=⟨(blk_cell h.out 0).trans rfl,(blk_cell h.out 1).trans rfl,(blk_cell h.out 2).trans rfl⟩
theorem e5 {w:World} {g:Nat} {a b c d e:Value} {t:TypeId} (h:Aside0 (w.heap[g]? = some (.cells #[a,b,c,d,e] t (0,0)))):w.cell? ⟨g,0,none⟩=some a∧w.cell? ⟨g,1,none⟩=some b∧w.cell? ⟨g,2,none⟩=some c∧w.cell? ⟨g,3,none⟩=some d∧w.cell? ⟨g,4,none⟩=some e:=⟨(blk_cell h.out 0).trans rfl,(blk_cell h.out 1).trans rfl,(blk_cell h.out 2).trans rfl,(blk_cell h.out 3).trans rfl,(blk_cell h.out 4).trans rfl⟩
theorem s3 {w:World} {g:Nat} {a b c:Value} {t:TypeId} (h:Aside0 (w.heap[g]? = some (.cells #[a,b,c] t (0,0)))):w.cell? ⟨g,0,none⟩=some a∧w.cell? ⟨g,1,none⟩=some b∧w.cell? ⟨g,2,none⟩=some c∧w.frozen? ⟨g,0,none⟩=false∧w.frozen? ⟨g,1,none⟩=false∧w.frozen? ⟨g,2,none⟩=false:=⟨(blk_cell h.out 0).trans rfl,(blk_cell h.out 1).trans rfl,(blk_cell h.out 2).trans rfl,blk_frozen h.out 0,blk_frozen h.out 1,blk_frozen h.out 2⟩
theorem s5 {w:World} {g:Nat} {a b c d e:Value} {t:TypeId} (h:Aside0 (w.heap[g]? = some (.cells #[a,b,c,d,e] t (0,0)))):w.cell? ⟨g,0,none⟩=some a∧w.cell? ⟨g,1,none⟩=some b∧w.cell? ⟨g,2,none⟩=some c∧w.cell? ⟨g,3,none⟩=some d∧w.cell? ⟨g,4,none⟩=some e∧w.frozen? ⟨g,0,none⟩=false∧w.frozen? ⟨g,1,none⟩=false∧w.frozen? ⟨g,2,none⟩=false∧w.frozen? ⟨g,3,none⟩=false∧w.frozen? ⟨g,4,none⟩=false:=⟨(blk_cell h.out 0).trans rfl,(blk_cell h.out 1).trans rfl,(blk_cell h.out 2).trans rfl,(blk_cell h.out 3).trans rfl,(blk_cell h.out 4).trans rfl,blk_frozen h.out 0,blk_frozen h.out 1,blk_frozen h.out 2,blk_frozen h.out 3,blk_frozen h.out 4⟩
theorem s4 {w:World} {g:Nat} {a b c d:Value} {t:TypeId} (h:Aside0 (w.heap[g]? = some (.cells #[a,b,c,d] t (0,0)))):w.cell? ⟨g,0,none⟩=some a∧w.cell? ⟨g,1,none⟩=some b∧w.cell? ⟨g,2,none⟩=some c∧w.cell? ⟨g,3,none⟩=some d∧w.frozen? ⟨g,0,none⟩=false∧w.frozen? ⟨g,1,none⟩=false∧w.frozen? ⟨g,2,none⟩=false∧w.frozen? ⟨g,3,none⟩=false:=⟨(blk_cell h.out 0).trans rfl,(blk_cell h.out 1).trans rfl,(blk_cell h.out 2).trans rfl,(blk_cell h.out 3).trans rfl,blk_frozen h.out 0,blk_frozen h.out 1,blk_frozen h.out 2,blk_frozen h.out 3⟩
theorem endK {α:Type} {d:Kd α} {e:TypeId} {base:Nat} {w0 w1 w2 W:World} {B:Nat} {ok:Nat→Prop} {v:Value} {xs:List α} {e1:Ending} {e2:Value→Ending} (h:Aside0 (d.R e w1 base ok v xs)) (hB:Aside0 (Below B w0 w2)) (he:e1=e2 v:=by first | rfl | (simp [errW_none,errW_some] <;> rfl) | (simp [*,errW_none,errW_some] <;> rfl)) (c:d.R e w1 base ok v xs→d.R e W base ok v xs:=by (intro h_;(with_reducible repeat (first | apply Kd.R_alloc | apply Kd.R_drewN | apply Kd.R_drew));exact h_)) (c2:Below B w0 w2→Below B w0 W:=by (intro h_;repeat (first | (with_reducible first | exact h_ | apply below_alloc | apply pw_below_drewN | apply below_drew1) | exact h_))):∃ v0_:Value,e1=e2 v0_∧d.R e W base ok v0_ xs∧Below B w0 W:=⟨v,he,c h.out,c2 hB.out⟩
section
variable {α β : Type} {G : Prop} {p : Prop} [Decidable p] {x y : Option α} {o : Option α} {r : α}
theorem its (k:decide p=true→x=some r→G):(if p then x else none)=some r→G:=fun h=>by
 by_cases c:p
 ·rw [if_pos c] at h;exact k (decide_eq_true c) h
 ·rw [if_neg c] at h;cases h
theorem itl (k:Aside0 p→x=some r→G):(if p then x else none)=some r→G:=fun h=>by
 by_cases c:p
 ·rw [if_pos c] at h;exact k ⟨c⟩ h
 ·rw [if_neg c] at h;cases h
theorem itc (k:decide p=true→x=o→G) (k':decide p=false→y=o→G):(if p then x else y)=o→G:=fun h=>by
 by_cases c:p
 ·rw [if_pos c] at h;exact k (decide_eq_true c) h
 ·rw [if_neg c] at h;exact k' (decide_eq_false c) h
theorem itt (h:(if true=true then x else y)=o):x=o:=by rwa [if_pos rfl] at h
theorem itf (h:(if false=true then x else y)=o):y=o:=by rwa [if_neg Bool.false_ne_true] at h
end
section
variable {α β γ δ ε ζ : Type} {G : Prop} {r : ζ}
theorem bnd {x:Option α} {f:α→Option ζ} (k:∀ t,Aside0 (x=some t)→f t=some r→G):x.bind f=some r→G:=fun h=>by
 obtain ⟨t,h1,h2⟩:=Option.bind_eq_some_iff.1 h
 exact k t ⟨h1⟩ h2
theorem bns {x:α} {f:α→Option ζ} (k:∀ y,Aside0 (y=x)→f y=some r→G):(some x).bind f=some r→G:=fun h=>k x ⟨rfl⟩ h
theorem bnd2 {x:Option (α×β)} {f:α×β→Option ζ} (k:∀ a b,Aside0 (x=some (a,b))→f (a,b)=some r→G):x.bind f=some r→G:=bnd fun ⟨a,b⟩ h=>k a b h
theorem bnd4 {x:Option (α×β×γ×δ)} {f:α×β×γ×δ→Option ζ} (k:∀ a b c d,Aside0 (x=some (a,b,c,d))→f (a,b,c,d)=some r→G):x.bind f=some r→G:=bnd fun ⟨a,b,c,d⟩ h=>k a b c d h
theorem bnd5 {x:Option (α×β×γ×δ×ε)} {f:α×β×γ×δ×ε→Option ζ} (k:∀ a b c d e,Aside0 (x=some (a,b,c,d,e))→f (a,b,c,d,e)=some r→G):x.bind f=some r→G:=bnd fun ⟨a,b,c,d,e⟩ h=>k a b c d e h
end
section
variable {α : Type} {d : Kd α} {e : TypeId} {base : Nat} {w W w1 : World} {ok : Nat → Prop} {v : Value} {xs : List α}
theorem cr {A:Option Addr} {n c:Nat} (h:Aside0 (d.R e w base ok (.slice A n c) xs)) (k:d.C w A xs.length xs→d.C W A xs.length xs:=by (intro h_;repeat (first | exact h_ | (with_reducible refine Kd.C_alloc ?_ _) | (with_reducible refine Kd.C_drewN ?_ _) | (with_reducible refine Kd.C_drew ?_)))):d.C W A xs.length xs:=k (Kd.R_reads' h.out).2.2
theorem cv {A:Option Addr} {n c:Nat} (h:Aside0 (d.R e w base ok (.slice A n c) xs)):n≤c:=(Kd.R_reads' h.out).2.1
theorem ke {β:Type} {d':Kd β} {e':TypeId} {ok':Nat→Prop} {v':Value} {ys:List β} (h:Aside0 (d.R e w base ok v xs)) (ho:d'.R e' w1 W.heap.size ok' v' ys) (hb:Below W.heap.size W w1) (k:d.R e w base ok v xs→d.R e W base ok v xs:=by (intro h_;(with_reducible repeat (first | apply Kd.R_alloc | apply Kd.R_drewN | apply Kd.R_drew));exact h_)):Aside0 (d.R e w1 base (fun k=>ok k∧some k≠v'.ownBlock) v xs):=⟨Kd.R_elder' (k h.out) (Kd.R_base ho) hb⟩
theorem se {β:Type} {d':Kd β} {e':TypeId} {ok':Nat→Prop} {v':Value} {ys:List β} (h:Aside0 (d.S e w base ok v xs)) (ho:d'.R e' w1 W.heap.size ok' v' ys) (hb:Below W.heap.size W w1) (k:d.S e w base ok v xs→d.S e W base ok v xs:=by (intro h_;(with_reducible repeat (first | apply Kd.S_alloc | apply Kd.S_drewN | apply Kd.S_drew));exact h_)):Aside0 (d.S e w1 base (fun k=>ok k∧some k≠v'.ownBlock) v xs):=⟨Kd.S_elder' (k h.out) (Kd.R_base ho) hb⟩
theorem sb (h:Aside0 (d.S e w base ok v xs)) (hb:Below W.heap.size W w1) (k:d.S e w base ok v xs→d.S e W base ok v xs:=by (intro h_;(with_reducible repeat (first | apply Kd.S_alloc | apply Kd.S_drewN | apply Kd.S_drew));exact h_)):Aside0 (d.S e w1 base ok v xs):=⟨Kd.S_below (k h.out) hb⟩
theorem kz {β:Type} {d':Kd β} {e':TypeId} {base':Nat} {ok':Nat→Prop} {v':Value} {ys:List β} (h:d.R e w1 W.heap.size ok v xs) (hu:Aside0 (d'.R e' w base' ok' v' ys)) (k:d'.R e' w base' ok' v' ys→d'.R e' W base' ok' v' ys:=by (intro h_;(with_reducible repeat (first | apply Kd.R_alloc | apply Kd.R_drewN | apply Kd.R_drew));exact h_)):d.R e w1 W.heap.size (fun k=>ok k∧some k≠v'.ownBlock) v xs:=Kd.R_new' h (Kd.R_lt (k hu.out))
theorem kw {w0:World} (h:d.R e w1 W.heap.size ok v xs) (HB:Aside0 (Below w0.heap.size w0 w)) (c:Below w0.heap.size w0 w→Below w0.heap.size w0 W:=by (intro h_;repeat (first | (with_reducible first | exact h_ | apply below_alloc | apply pw_below_drewN | apply below_drew1 | refine below_set ?_ (Aside0.out (by assumption))) | exact h_))):Aside0 (d.R e w1 w0.heap.size ok v xs):=⟨Kd.R_lower h (below_size (c HB.out))⟩
end
section
variable {P : Program} {ops : Array Oper} {Q : Exit → Act → World → Prop}
theorem gs {oi : Oper} {N : Option Tmp} {a : Act} {w : World} {K : Act → World → Prop} {f : FuncId} {fn : Func} {as_ : Array Operand} {ts : Array TypeId} (hf : P.funcs[f]? = some fn) (args : Array Value) (h : Calls P f args w fun e w' => ∃ v, e = .returned v ∧ K (a.put N v) w') (hname : (fn.name == "runtime.NumGoroutine") = false := by kernel_rfl) (hb : fn.body.isSome = true := by rfl) (hw : Region.wanted oi (yielded ops a.tmps) = true := by rfl) (hN : oi.dst = N := by rfl) (hop : oi.op = .call { callee := .value (.func f), args := as_, argTypes := ts } := by rfl) (hargs : as_.map a.eval = args := by ((try simp only [List.map_toArray, List.map_cons, List.map_nil]); first | done | rfl | (simp only [List.length_drop, List.length_take]; rfl))) : if Region.wanted oi (yielded ops a.tmps) = true then Oper.wp P oi a w K Q else K (a.put N undef) w := goes_ hf hname hb args hw hN hop hargs h
end
section
variable {P : Program} {ops : Array Oper} {Q : Exit → Act → World → Prop} {md : Region.Mode} {S : World → Prop} {ds : List Nat} {T : Bool × List (List Nat × List Nat)}
theorem cl1 {w w':World} {a:Addr} {v:Value} (hb:Below w.heap.size w w') (h:w.cell? a=some v):w'.cell? a=some v:=(hb.cell (World.block_lt_of_cell? w _ h)).trans h
theorem ca (i : Nat) {N : Tmp} {f : FuncId} {fn : Func} {args : Array Value} {v : Value} {oi : Oper} {as_ : Array Operand} {ts : Array TypeId} {fuel : Nat} {l l' : Array Bool} {a a' : Act} {w : World} (HT : Aside0 (rtab md ops = T)) (hf : P.funcs[f]? = some fn) (hc : Calls P f args w fun e w' => e = .returned v ∧ Below w.heap.size w w') (hS : S w) (h : ∀ w', Below w.heap.size w w' → S w' → wpAnyLast P md ops Q S ds fuel l' a' w') (hi : ops[i]? = some oi := by rfl) (hN : oi.dst = some N := by rfl) (_hl : l.setIfInBounds i true = l' := by (simp only [List.setIfInBounds_toArray, List.set_cons_zero, List.set_cons_succ]; rfl)) (hr : (readyT T.2 l.toList == [i] && l.toList.set i true == l'.toList) = true := by kernel_rfl) (hd : i ∉ ds := by decide) (hname : (fn.name == "runtime.NumGoroutine") = false := by kernel_rfl) (hb : fn.body.isSome = true := by rfl) (hw : Region.wanted oi (yielded ops a.tmps) = true := by rfl) (hop : oi.op = .call { callee := .value (.func f), args := as_, argTypes := ts } := by rfl) (hargs : as_.map a.eval = args := by ((try simp only [List.map_toArray, List.map_cons, List.map_nil]); first | done | rfl | (simp only [List.length_drop, List.length_take]; rfl) | (simp only [*]; rfl))) (kp : ∀ w', Below w.heap.size w w' → S w → S w' := by (intro w' hb; (repeat' first | exact cl1 hb | exact id | refine And.imp ?_ ?_))) (ha : a.put (some N) v = a' := by (show Act.put _ (some _) _ = _; simp only [Act.put, List.setIfInBounds_toArray, List.set_cons_zero, List.set_cons_succ, i64_w, i32_w]; rfl)) : wpAnyLast P md ops Q S ds (fuel + 1) l a w :=
 one_ l' hi hN (one_of HT.out hr) hd fun K hK=>goes_ hf hname hb args hw hN hop hargs (hc.mono fun e w' hq=>⟨v,hq.1,hK _ _ (kp w' hq.2 hS) fun hS'=>ha ▸ h w' hq.2 hS'⟩)
theorem cb (i : Nat) {N : Tmp} {f : FuncId} {fn : Func} {args : Array Value} {v : Value} {oi : Oper} {as_ : Array Operand} {ts : Array TypeId} {fuel : Nat} {l l' : Array Bool} {a a' : Act} {w : World} (hf : P.funcs[f]? = some fn) (hc : Calls P f args w fun e w' => e = .returned v ∧ Below w.heap.size w w') (hS : S w) (h : ∀ w', Below w.heap.size w w' → S w' → wpAnyLast P md ops Q S ds fuel l' a' w') (hi : ops[i]? = some oi := by rfl) (hN : oi.dst = some N := by rfl) (_hl : l.setIfInBounds i true = l' := by (simp only [List.setIfInBounds_toArray, List.set_cons_zero, List.set_cons_succ]; rfl)) (hr : readyB md ops l l' i = true := by kernel_rfl) (hd : i ∉ ds := by decide) (hname : (fn.name == "runtime.NumGoroutine") = false := by kernel_rfl) (hb : fn.body.isSome = true := by rfl) (hw : Region.wanted oi (yielded ops a.tmps) = true := by rfl) (hop : oi.op = .call { callee := .value (.func f), args := as_, argTypes := ts } := by rfl) (hargs : as_.map a.eval = args := by ((try simp only [List.map_toArray, List.map_cons, List.map_nil]); first | done | rfl | (simp only [List.length_drop, List.length_take]; rfl) | (simp only [*]; rfl))) (kp : ∀ w', Below w.heap.size w w' → S w → S w' := by (intro w' hb; (repeat' first | exact cl1 hb | exact id | refine And.imp ?_ ?_))) (ha : a.put (some N) v = a' := by (show Act.put _ (some _) _ = _; simp only [Act.put, List.setIfInBounds_toArray, List.set_cons_zero, List.set_cons_succ, i64_w, i32_w]; rfl)) : wpAnyLast P md ops Q S ds (fuel + 1) l a w :=
 one_ l' hi hN (hr) hd fun K hK=>goes_ hf hname hb args hw hN hop hargs (hc.mono fun e w' hq=>⟨v,hq.1,hK _ _ (kp w' hq.2 hS) fun hS'=>ha ▸ h w' hq.2 hS'⟩)
theorem cd (i : Nat) {N : Tmp} {f : FuncId} {fn : Func} {args : Array Value} {v : Value} {oi : Oper} {as_ : Array Operand} {ts : Array TypeId} {fuel : Nat} {l l' : Array Bool} {a a' : Act} {w : World} (HT : Aside0 (rtab md ops = T)) (hf : P.funcs[f]? = some fn) (hc : Calls P f args w fun e w' => e = .returned v ∧ Drawn0 w w') (hS : S w) (h : ∀ nd, S (w.drewN nd) → wpAnyLast P md ops Q S ds fuel l' a' (w.drewN nd)) (hi : ops[i]? = some oi := by rfl) (hN : oi.dst = some N := by rfl) (_hl : l.setIfInBounds i true = l' := by (simp only [List.setIfInBounds_toArray, List.set_cons_zero, List.set_cons_succ]; rfl)) (hr : (readyT T.2 l.toList == [i] && l.toList.set i true == l'.toList) = true := by kernel_rfl) (hd : i ∉ ds := by decide) (hname : (fn.name == "runtime.NumGoroutine") = false := by kernel_rfl) (hb : fn.body.isSome = true := by rfl) (hw : Region.wanted oi (yielded ops a.tmps) = true := by rfl) (hop : oi.op = .call { callee := .value (.func f), args := as_, argTypes := ts } := by rfl) (hargs : as_.map a.eval = args := by ((try simp only [List.map_toArray, List.map_cons, List.map_nil]); first | done | rfl | (simp only [List.length_drop, List.length_take]; rfl) | (simp only [*]; rfl))) (kp : ∀ nd, S w → S (w.drewN nd) := by exact fun _ h => h) (ha : a.put (some N) v = a' := by (show Act.put _ (some _) _ = _; simp only [Act.put, List.setIfInBounds_toArray, List.set_cons_zero, List.set_cons_succ, i64_w, i32_w]; rfl)) : wpAnyLast P md ops Q S ds (fuel + 1) l a w :=
 one_ l' hi hN (one_of HT.out hr) hd fun K hK=>goes_ hf hname hb args hw hN hop hargs (hc.mono fun e w' hq=>by obtain ⟨rfl,⟨nd,rfl⟩⟩:=hq;exact ⟨_,rfl,hK _ _ (kp nd hS) fun hS'=>ha ▸ h nd hS'⟩)
theorem dt (HT:Aside0 (rtab md ops=T)) {l:Array Bool} {a:Act} {w:World} {n:Nat} (h:Q .normal a w) (hr:(readyT T.2 l.toList == [])=true:=by kernel_rfl):wpAnyLast P md ops Q S ds n l a w:=done_ (done_of HT.out hr) h
theorem dq {l:Array Bool} {a:Act} {w:World} {n:Nat} (h:Q .normal a w) (hr:(Region.ready md ops l == [])=true:=by kernel_rfl):wpAnyLast P md ops Q S ds n l a w:=done_ hr h
theorem on (i:Nat) (HT:Aside0 (rtab md ops=T)) {N:Option Tmp} {oi:Oper} {fuel:Nat} {l l':Array Bool} {a:Act} {w:World} (h:∀ K:Act→World→Prop,Shut (∀ a' w',S w'→(S w'→wpAnyLast P md ops Q S ds fuel l' a' w')→K a' w')→if Region.wanted oi (yielded ops a.tmps)=true then Oper.wp P oi a w K Q else K (a.put N undef) w) (hi:ops[i]? = some oi:=by rfl) (hN:oi.dst=N:=by rfl) (_hl:l.setIfInBounds i true=l':=by (simp only [List.setIfInBounds_toArray,List.set_cons_zero,List.set_cons_succ];rfl)) (hr:(readyT T.2 l.toList == [i] && l.toList.set i true == l'.toList)=true:=by kernel_rfl) (hd:i ∉ ds:=by decide):wpAnyLast P md ops Q S ds (fuel+1) l a w:=one_ l' hi hN (one_of HT.out hr) hd h
theorem la (i:Nat) (HT:Aside0 (rtab md ops=T)) {N:Option Tmp} {oi:Oper} {fuel:Nat} {l l':Array Bool} {a:Act} {w:World} (h:∀ K:Act→World→Prop,Shut (∀ a' w',wpAnyLast P md ops Q S ds fuel l' a' w'→K a' w')→if Region.wanted oi (yielded ops a.tmps)=true then Oper.wp P oi a w K Q else K (a.put N undef) w) (hi:ops[i]? = some oi:=by rfl) (hN:oi.dst=N:=by rfl) (_hl:l.setIfInBounds i true=l':=by (simp only [List.setIfInBounds_toArray,List.set_cons_zero,List.set_cons_succ];rfl)) (hr:(readyT T.2 l.toList == [i] && l.toList.set i true == l'.toList)=true:=by kernel_rfl) (hd:i∈ds:=by decide):wpAnyLast P md ops Q S ds (fuel+1) l a w:=last_ l' hi hN (one_of HT.out hr) hd h
theorem gob {rest : List Oper} {oi : Oper} {a : Act} {w : World} {N : Option Tmp} {f : FuncId} {fn : Func} {as_ : Array Operand} {ts : Array TypeId} {args : Array Value} {v : Value} (hf : P.funcs[f]? = some fn) (hc : Calls P f args w fun e w' => e = .returned v ∧ Below w.heap.size w w') (h : ∀ w', Below w.heap.size w w' → wpList P ops Q rest (a.put N v) w') (hd : oi.dst = N := by rfl) (hg : oi.guard = none := by rfl) (hname : (fn.name == "runtime.NumGoroutine") = false := by kernel_rfl) (hb : fn.body.isSome = true := by rfl) (hop : oi.op = .call { callee := .value (.func f), args := as_, argTypes := ts } := by rfl) (hargs : as_.map a.eval = args := by ((try simp only [List.map_toArray, List.map_cons, List.map_nil]); first | done | rfl | (simp only [List.length_drop, List.length_take]; rfl))) : wpList P ops Q (oi :: rest) a w := goesL_ N hd hg hf hname hb args hop hargs (hc.mono fun e w' hq => ⟨v, hq.1, h w' hq.2⟩)
theorem god {rest : List Oper} {oi : Oper} {a : Act} {w : World} {N : Option Tmp} {f : FuncId} {fn : Func} {as_ : Array Operand} {ts : Array TypeId} {args : Array Value} {v : Value} (hf : P.funcs[f]? = some fn) (hc : Calls P f args w fun e w' => e = .returned v ∧ Drawn0 w w') (h : ∀ nd, wpList P ops Q rest (a.put N v) (w.drewN nd)) (hd : oi.dst = N := by rfl) (hg : oi.guard = none := by rfl) (hname : (fn.name == "runtime.NumGoroutine") = false := by kernel_rfl) (hb : fn.body.isSome = true := by rfl) (hop : oi.op = .call { callee := .value (.func f), args := as_, argTypes := ts } := by rfl) (hargs : as_.map a.eval = args := by ((try simp only [List.map_toArray, List.map_cons, List.map_nil]); first | done | rfl | (simp only [List.length_drop, List.length_take]; rfl))) : wpList P ops Q (oi :: rest) a w := goesL_ N hd hg hf hname hb args hop hargs (hc.mono fun e w' hq => by obtain ⟨rfl, ⟨nd, rfl⟩⟩ := hq; exact ⟨v, rfl, h nd⟩)
theorem gor {rest : List Oper} {oi : Oper} {a : Act} {w : World} {N : Option Tmp} {f : FuncId} {fn : Func} {as_ : Array Operand} {ts : Array TypeId} {args : Array Value} {R : Value → World → Prop} (hf : P.funcs[f]? = some fn) (hc : Calls P f args w fun e w' => ∃ v0_, e = .returned v0_ ∧ R v0_ w' ∧ Below w.heap.size w w') (h : ∀ w' v0_, R v0_ w' → Below w.heap.size w w' → wpList P ops Q rest (a.put N v0_) w') (hd : oi.dst = N := by rfl) (hg : oi.guard = none := by rfl) (hname : (fn.name == "runtime.NumGoroutine") = false := by kernel_rfl) (hb : fn.body.isSome = true := by rfl) (hop : oi.op = .call { callee := .value (.func f), args := as_, argTypes := ts } := by rfl) (hargs : as_.map a.eval = args := by ((try simp only [List.map_toArray, List.map_cons, List.map_nil]); first | done | rfl | (simp only [List.length_drop, List.length_take]; rfl))) : wpList P ops Q (oi :: rest) a w := goesL_ N hd hg hf hname hb args hop hargs (hc.mono fun e w' hq => by obtain ⟨v0_, rfl, h1, h2⟩ := hq; exact ⟨v0_, rfl, h _ _ h1 h2⟩)
theorem bxf {o:Oper} {rest:List Oper} {a:Act} {W w w0:World} (cs:Array Value) (t:TypeId) (hB:Aside0 (Below w0.heap.size w0 w)) (h:∀ g w1,Aside0 (w1.heap[g]? = some (.cells cs t (0,0)))→Aside0 (w0.heap.size≤g)→Aside0 (Below w0.heap.size w0 w1)→g=W.heap.size→Below W.heap.size W w1→wpList P ops Q rest (a.put o.dst (.pointer (some ⟨g,0,none⟩))) w1) {N:Tmp} (hd:o.dst=some N:=by rfl) (hg:o.guard=none:=by rfl)
  (hr:(execOp a.eval o).run P W=.ok (.value (.pointer (some ⟨W.heap.size,0,none⟩))) (W.alloc (.cells cs t (0,0))):=by first | (go_simp;done) | (go_simp;rfl)) (c:Below w0.heap.size w0 w→Below w0.heap.size w0 W:=by (intro h_;repeat (first | (with_reducible first | exact h_ | apply below_alloc | apply pw_below_drewN | apply below_drew1 | refine below_set ?_ (Aside0.out (by assumption))) | exact h_))):wpList P ops Q (o :: rest) a W:=box_event hg hd hr fun g h1 w1 h2 h3=>h g w1 ⟨h2⟩ ⟨by rw [h1];exact below_size (c hB.out)⟩ ⟨below_step (c hB.out) h3⟩ h1 h3
def Hd (S:World→Prop) (w:World):Prop:=S w
theorem h1 {w:World} {a:Addr} {v:Value} (h:w.cell? a=some v):Hd (fun w=>w.cell? a=some v) w:=h
theorem g1 {w:World} {a:Addr} {v:Value} (h:w.cell? a=some v) (r:Hd S w):Hd (fun w=>w.cell? a=some v∧S w) w:=⟨h,r⟩
theorem h2 {w:World} {g:Nat} {a b:Value} {t:TypeId} (h:Aside0 (w.heap[g]? = some (.cells #[a,b] t (0,0)))):Hd (fun w=>w.cell? ⟨g,0,none⟩=some a∧w.cell? ⟨g,1,none⟩=some b) w:=e2 h
theorem g2 {w:World} {g:Nat} {a b:Value} {t:TypeId} (h:Aside0 (w.heap[g]? = some (.cells #[a,b] t (0,0)))) (r:Hd S w):Hd (fun w=>w.cell? ⟨g,0,none⟩=some a∧w.cell? ⟨g,1,none⟩=some b∧S w) w:=c2 h r
theorem h4 {w:World} {g:Nat} {a b c d:Value} {t:TypeId} (h:Aside0 (w.heap[g]? = some (.cells #[a,b,c,d] t (0,0)))):Hd (fun w=>w.cell? ⟨g,0,none⟩=some a∧w.cell? ⟨g,1,none⟩=some b∧w.cell? ⟨g,2,none⟩=some c∧w.cell? ⟨g,3,none⟩=some d) w:=e4 h
theorem g4 {w:World} {g:Nat} {a b c d:Value} {t:TypeId} (h:Aside0 (w.heap[g]? = some (.cells #[a,b,c,d] t (0,0)))) (r:Hd S w):Hd (fun w=>w.cell? ⟨g,0,none⟩=some a∧w.cell? ⟨g,1,none⟩=some b∧w.cell? ⟨g,2,none⟩=some c∧w.cell? ⟨g,3,none⟩=some d∧S w) w:=c4 h r
theorem h0 {w:World}:Hd (fun _=>True) w:=trivial
theorem h3 {w:World} {g:Nat} {a b c:Value} {t:TypeId} (h:Aside0 (w.heap[g]? = some (.cells #[a,b,c] t (0,0)))):Hd (fun w=>w.cell? ⟨g,0,none⟩=some a∧w.cell? ⟨g,1,none⟩=some b∧w.cell? ⟨g,2,none⟩=some c) w:=⟨(blk_cell h.out 0).trans rfl,(blk_cell h.out 1).trans rfl,(blk_cell h.out 2).trans rfl⟩
theorem g3 {w:World} {g:Nat} {a b c:Value} {t:TypeId} (h:Aside0 (w.heap[g]? = some (.cells #[a,b,c] t (0,0)))) (r:Hd S w):Hd (fun w=>w.cell? ⟨g,0,none⟩=some a∧w.cell? ⟨g,1,none⟩=some b∧w.cell? ⟨g,2,none⟩=some c∧S w) w:=⟨(blk_cell h.out 0).trans rfl,(blk_cell h.out 1).trans rfl,(blk_cell h.out 2).trans rfl,r⟩
theorem h5 {w:World} {g:Nat} {a b c d e:Value} {t:TypeId} (h:Aside0 (w.heap[g]? = some (.cells #[a,b,c,d,e] t (0,0)))):Hd (fun w=>w.cell? ⟨g,0,none⟩=some a∧w.cell? ⟨g,1,none⟩=some b∧w.cell? ⟨g,2,none⟩=some c∧w.cell? ⟨g,3,none⟩=some d∧w.cell? ⟨g,4,none⟩=some e) w:=⟨(blk_cell h.out 0).trans rfl,(blk_cell h.out 1).trans rfl,(blk_cell h.out 2).trans rfl,(blk_cell h.out 3).trans rfl,(blk_cell h.out 4).trans rfl⟩
theorem st {n:Nat} {l:Array Bool} (hl:Array.replicate n false=l) (ds:List Nat) {w:World} {id:Nat} {a:Act} (hS:Hd S w.drew) (h:S w.drew→wpAnyLast P .any ops Q S ds n l a w.drew) (hm:P.follows .mixedOrders=true:=by kernel_rfl) (hn:ops.size=n:=by rfl):(Code.region id ops true).wp P Q a w:=start_ l hm hn hl hS h
end
section
variable {w w' : World} {A : Option Addr} {n : Nat}
theorem ax33 {xs:List S33} (h:Aside0 (Kd.C k33 w A n xs)) (hB:Aside0 (Below w.heap.size w w')) (i:Int) (p:decide (0≤i)=true:=by first | (with_reducible assumption) | assumption) (q:decide (i < (n:Int))=true:=by first | (with_reducible assumption) | assumption):∃ ad,A=some ad∧w'.cell? (ad.add (i.toNat * 2))=some (.int .i64 (rd_T33 xs i).f0)∧w'.cell? ⟨(ad.add (i.toNat * 2)).block,(ad.add (i.toNat * 2)).off+1,none⟩=some (.int .i64 (rd_T33 xs i).f1)∧(0≤i)=True∧(i < (n:Int))=True:=by
 obtain ⟨ad,e,h0,h1⟩:=at_T33 h.out i (of_decide_eq_true p) (of_decide_eq_true q)
 exact ⟨ad,e,cl hB h0,cl hB h1,eq_true (of_decide_eq_true p),eq_true (of_decide_eq_true q)⟩
theorem ay33 {xs:List S33} (h:Kd.C k33 w A n xs) (i:Int) (p:decide (0≤i)=true:=by first | (with_reducible assumption) | assumption) (q:decide (i < (n:Int))=true:=by first | (with_reducible assumption) | assumption):∃ ad,A=some ad∧w.cell? (ad.add (i.toNat * 2))=some (.int .i64 (rd_T33 xs i).f0)∧w.cell? ⟨(ad.add (i.toNat * 2)).block,(ad.add (i.toNat * 2)).off+1,none⟩=some (.int .i64 (rd_T33 xs i).f1)∧(0≤i)=True∧(i < (n:Int))=True:=by
 obtain ⟨ad,e,h0,h1⟩:=at_T33 h i (of_decide_eq_true p) (of_decide_eq_true q)
 exact ⟨ad,e,h0,h1,eq_true (of_decide_eq_true p),eq_true (of_decide_eq_true q)⟩
theorem ax35 {xs:List S35} (h:Aside0 (Kd.C k35 w A n xs)) (hB:Aside0 (Below w.heap.size w w')) (i:Int) (p:decide (0≤i)=true:=by first | (with_reducible assumption) | assumption) (q:decide (i < (n:Int))=true:=by first | (with_reducible assumption) | assumption):∃ ad,A=some ad∧w'.cell? (ad.add (i.toNat * 4))=some (.int .i64 (rd_T35 xs i).f0.f0)∧w'.cell? ⟨(ad.add (i.toNat * 4)).block,(ad.add (i.toNat * 4)).off+1,none⟩=some (.int .i64 (rd_T35 xs i).f0.f1)∧w'.cell? ⟨(ad.add (i.toNat * 4)).block,(ad.add (i.toNat * 4)).off+2,none⟩=some (.int .i64 (rd_T35 xs i).f1.f0)∧w'.cell? ⟨(ad.add (i.toNat * 4)).block,(ad.add (i.toNat * 4)).off+3,none⟩=some (.int .i64 (rd_T35 xs i).f1.f1)∧(0≤i)=True∧(i < (n:Int))=True:=by
 obtain ⟨ad,e,h0,h1,h2,h3⟩:=at_T35 h.out i (of_decide_eq_true p) (of_decide_eq_true q)
 exact ⟨ad,e,cl hB h0,cl hB h1,cl hB h2,cl hB h3,eq_true (of_decide_eq_true p),eq_true (of_decide_eq_true q)⟩
theorem ay35 {xs:List S35} (h:Kd.C k35 w A n xs) (i:Int) (p:decide (0≤i)=true:=by first | (with_reducible assumption) | assumption) (q:decide (i < (n:Int))=true:=by first | (with_reducible assumption) | assumption):∃ ad,A=some ad∧w.cell? (ad.add (i.toNat * 4))=some (.int .i64 (rd_T35 xs i).f0.f0)∧w.cell? ⟨(ad.add (i.toNat * 4)).block,(ad.add (i.toNat * 4)).off+1,none⟩=some (.int .i64 (rd_T35 xs i).f0.f1)∧w.cell? ⟨(ad.add (i.toNat * 4)).block,(ad.add (i.toNat * 4)).off+2,none⟩=some (.int .i64 (rd_T35 xs i).f1.f0)∧w.cell? ⟨(ad.add (i.toNat * 4)).block,(ad.add (i.toNat * 4)).off+3,none⟩=some (.int .i64 (rd_T35 xs i).f1.f1)∧(0≤i)=True∧(i < (n:Int))=True:=by
 obtain ⟨ad,e,h0,h1,h2,h3⟩:=at_T35 h i (of_decide_eq_true p) (of_decide_eq_true q)
 exact ⟨ad,e,h0,h1,h2,h3,eq_true (of_decide_eq_true p),eq_true (of_decide_eq_true q)⟩
theorem ax37 {xs:List S37} (h:Aside0 (Kd.C k37 w A n xs)) (hB:Aside0 (Below w.heap.size w w')) (i:Int) (p:decide (0≤i)=true:=by first | (with_reducible assumption) | assumption) (q:decide (i < (n:Int))=true:=by first | (with_reducible assumption) | assumption):∃ ad,A=some ad∧w'.cell? (ad.add (i.toNat * 5))=some (.int .i64 (rd_T37 xs i).f0.f0.f0)∧w'.cell? ⟨(ad.add (i.toNat * 5)).block,(ad.add (i.toNat * 5)).off+1,none⟩=some (.int .i64 (rd_T37 xs i).f0.f0.f1)∧w'.cell? ⟨(ad.add (i.toNat * 5)).block,(ad.add (i.toNat * 5)).off+2,none⟩=some (.int .i64 (rd_T37 xs i).f0.f1.f0)∧w'.cell? ⟨(ad.add (i.toNat * 5)).block,(ad.add (i.toNat * 5)).off+3,none⟩=some (.int .i64 (rd_T37 xs i).f0.f1.f1)∧w'.cell? ⟨(ad.add (i.toNat * 5)).block,(ad.add (i.toNat * 5)).off+4,none⟩=some (.int .i64 (rd_T37 xs i).f1)∧(0≤i)=True∧(i < (n:Int))=True:=by
 obtain ⟨ad,e,h0,h1,h2,h3,h4⟩:=at_T37 h.out i (of_decide_eq_true p) (of_decide_eq_true q)
 exact ⟨ad,e,cl hB h0,cl hB h1,cl hB h2,cl hB h3,cl hB h4,eq_true (of_decide_eq_true p),eq_true (of_decide_eq_true q)⟩
theorem ay37 {xs:List S37} (h:Kd.C k37 w A n xs) (i:Int) (p:decide (0≤i)=true:=by first | (with_reducible assumption) | assumption) (q:decide (i < (n:Int))=true:=by first | (with_reducible assumption) | assumption):∃ ad,A=some ad∧w.cell? (ad.add (i.toNat * 5))=some (.int .i64 (rd_T37 xs i).f0.f0.f0)∧w.cell? ⟨(ad.add (i.toNat * 5)).block,(ad.add (i.toNat * 5)).off+1,none⟩=some (.int .i64 (rd_T37 xs i).f0.f0.f1)∧w.cell? ⟨(ad.add (i.toNat * 5)).block,(ad.add (i.toNat * 5)).off+2,none⟩=some (.int .i64 (rd_T37 xs i).f0.f1.f0)∧w.cell? ⟨(ad.add (i.toNat * 5)).block,(ad.add (i.toNat * 5)).off+3,none⟩=some (.int .i64 (rd_T37 xs i).f0.f1.f1)∧w.cell? ⟨(ad.add (i.toNat * 5)).block,(ad.add (i.toNat * 5)).off+4,none⟩=some (.int .i64 (rd_T37 xs i).f1)∧(0≤i)=True∧(i < (n:Int))=True:=by
 obtain ⟨ad,e,h0,h1,h2,h3,h4⟩:=at_T37 h i (of_decide_eq_true p) (of_decide_eq_true q)
 exact ⟨ad,e,h0,h1,h2,h3,h4,eq_true (of_decide_eq_true p),eq_true (of_decide_eq_true q)⟩
end
theorem F5:Array.replicate 5 false=#[false,false,false,false,false]:=rfl
theorem F6:Array.replicate 6 false=#[false,false,false,false,false,false]:=rfl
theorem F10:Array.replicate 10 false=#[false,false,false,false,false,false,false,false,false,false]:=rfl
theorem F12:Array.replicate 12 false=#[false,false,false,false,false,false,false,false,false,false,false,false]:=rfl
theorem F13:Array.replicate 13 false=#[false,false,false,false,false,false,false,false,false,false,false,false,false]:=rfl
theorem F14:Array.replicate 14 false=#[false,false,false,false,false,false,false,false,false,false,false,false,false,false]:=rfl
theorem F15:Array.replicate 15 false=#[false,false,false,false,false,false,false,false,false,false,false,false,false,false,false]:=rfl
theorem F17:Array.replicate 17 false=#[false,false,false,false,false,false,false,false,false,false,false,false,false,false,false,false,false]:=rfl
theorem F18:Array.replicate 18 false=#[false,false,false,false,false,false,false,false,false,false,false,false,false,false,false,false,false,false]:=rfl
theorem F19:Array.replicate 19 false=#[false,false,false,false,false,false,false,false,false,false,false,false,false,false,false,false,false,false,false]:=rfl
theorem F22:Array.replicate 22 false=#[false,false,false,false,false,false,false,false,false,false,false,false,false,false,false,false,false,false,false,false,false,false]:=rfl
theorem F24:Array.replicate 24 false=#[false,false,false,false,false,false,false,false,false,false,false,false,false,false,false,false,false,false,false,false,false,false,false,false]:=rfl
theorem F35:Array.replicate 35 false=#[false,false,false,false,false,false,false,false,false,false,false,false,false,false,false,false,false,false,false,false,false,false,false,false,false,false,false,false,false,false,false,false,false,false,false]:=rfl
end Go.Proofs.YtbcpnejdbookkaaGreat.Print
namespace Go.Proofs.YtbcpnejdbookkaaGreat.Print
open Go.RowKit Go.Proofs.YtbcpnejdbookkaaGreatW.PrintWords Go.Proofs.YtbcpnejdbookkaaGreatW.PrintLast Go.Proofs.YtbcpnejdbookkaaGreatW.PrintMore
attribute [local go_sem] max2_int min2_int max_two min_two max_three min_three max_four min_four   -- for this text's walks alone
def bocagelaw16_few.l0:Nat→Int→List (List (S37))→Int→Int→Option (Bool)
 | 0,_,_,_,_=>none
 | k+1,x3,x6,x7,x8=>if x8 < x7 then (if 0≤x8 then (if x8 < (x6.length:Int) then (bocagelaw16_few.l0 k (wrap64 (x3+((rd_L4 x6 x8).length:Int))) x6 x7 (wrap64 (x8+1))) else (none)) else (none)) else (some (decide (x3≤40)))
def bocagelaw16_few.f (k:Nat) (l0:List (List (S37))):Option (Bool):=bocagelaw16_few.l0 k 0 l0 (l0.length:Int) 0
def comb_Right.f (a0:Int):Option (Bool):=if a0 ≥ 1 then (some (decide (a0≤6))) else (some false)
theorem comb_Right.calls (a0:Int) (r:Bool) (w:World) (h:comb_Right.f a0=some r) :
 Calls Tryz.prog 43 #[.int .i64 a0] w fun e w'=>e=.returned (.bool r)∧Drawn0 w w':=by
 unfold comb_Right.f at h;have H:=h;clear h;revert H;refine itc (fun (c2b0:decide (1≤a0)=true) H=>?_) fun (c2b0:decide (1≤a0)=false) H=>?_
 ·obtain rfl:=Option.some.inj H;go_enter Tryz.func43,Tryz.ntmps43;go_wp2;go_ret
  exact ⟨rs,dn⟩
 ·obtain rfl:=Option.some.inj H;go_enter Tryz.func43,Tryz.ntmps43;go_wp2;go_ret
  exact ⟨rs,dn⟩
def cmp_Or_int.l0:Nat→Int→List Int→Int→Int→Option (Int)
 | 0,_,_,_,_=>none
 | k+1,x3,x6,x7,x8=>if x8 < x7 then (if 0≤x8 then (if x8 < (x6.length:Int) then (if (rd x6 x8)=x3 then (cmp_Or_int.l0 k x3 x6 x7 (wrap64 (x8+1))) else (some (rd x6 x8))) else (none)) else (none)) else (some x3)
def cmp_Or_int.f (k:Nat) (l0:List Int):Option (Int):=cmp_Or_int.l0 k 0 l0 (l0.length:Int) 0
theorem cmp_Or_int.mono_l:∀ k,(∀ y0 y1 y2 y3,LeO (cmp_Or_int.l0 k y0 y1 y2 y3) (cmp_Or_int.l0 (k+1) y0 y1 y2 y3))
 | 0=>fun _ _ _ _ r h=>by simp [cmp_Or_int.l0] at h
 | k+1=>by
  have ih0:=cmp_Or_int.mono_l k
  ·intro y0 y1 y2 y3
   unfold cmp_Or_int.l0
   repeat' with_reducible first | apply ih0 | apply lr | apply ln | apply li | refine lb ?_ fun _=>?_
theorem cmp_Or_int.mono:∀ a0 k,LeO (cmp_Or_int.f k a0) (cmp_Or_int.f (k+1) a0):=by
 intro a0 k
 have ih0:=cmp_Or_int.mono_l k
 unfold cmp_Or_int.f
 repeat' with_reducible first | apply ih0 | apply lr | apply ln | apply li | refine lb ?_ fun _=>?_
theorem cmp_Or_int.calls (k:Nat) (A0:Option Addr) (c0:Nat) (l0:List Int) (r:Int) (w:World) (hr0:Kd.C (Kd.int .i64) w A0 l0.length l0) (hc0:l0.length≤c0) (h:cmp_Or_int.f k l0=some r) :
 Calls Tryz.prog 123 #[.slice A0 l0.length c0] w fun e w'=>e=.returned (.int .i64 r)∧Drawn0 w w':=by
 have HR0:=am hr0;have HC0:=am hc0;clear hr0 hc0
 have H:(cmp_Or_int.l0 k 0 l0 (l0.length:Int) 0)=some r:=h
 clear h;have H':=am H;clear H;go_enter Tryz.func123,Tryz.ntmps123;go_wp2
 go_loopg [8] k (fun kq v8 w'=>∃ (x8_1:Int),v8=.int .i64 x8_1∧Aside0 (cmp_Or_int.l0 kq 0 l0 (l0.length:Int) x8_1=some r)∧Aside0 (kq≤k)∧Drawn0 w w')
 case atStart=>exact ⟨_,rs,H',⟨Nat.le_refl _⟩,dn⟩
 case round =>
  clear H'
  try clear c1
  obtain ⟨x8_1,rfl,HA,HK1,⟨m1,rfl⟩⟩:=hrel
  cases gk with
  | zero=>exact absurd HA.out (by simp [cmp_Or_int.l0])
  | succ k1 =>
   have H:=HA.out;clear HA
   simp only [cmp_Or_int.l0] at H
   revert H;refine itc (fun c2b0 H=>?_) fun c2b0 H=>?_
   ·revert H;refine its fun c3b0 H=>?_
    revert H;refine its fun c4b0 H=>?_
    by_cases c5:(rd l0 x8_1)=0
    ·rw [if_pos c5] at H
     have c5b0:((rd l0 x8_1) == 0)=true:=beq_iff_eq.mpr c5
     have c5b1:((rd l0 x8_1) != 0)=false:=bne_eq_false_iff_eq.mpr c5
     clear c5;have H':=am H;clear H;have p102:0≤(x8_1:Int):=pd;have q102:x8_1 < (l0.length:Int):=pd
     obtain ⟨ad102,e102,hx102_0⟩:=Kd.at_int HR0.out x8_1 p102 q102
     cases e102;replace p102:=eq_true p102;replace q102:=eq_true q102;go_wp2
     go_roundg k1
     case measure=>have:=HK1.out;omega
     case rel=>exact ⟨_,rs,H',kl HK1,dn⟩
    ·rw [if_neg c5] at H
     have c5b0:((rd l0 x8_1) == 0)=false:=beq_eq_false_iff_ne.mpr c5
     have c5b1:((rd l0 x8_1) != 0)=true:=bne_iff_ne.mpr c5
     obtain rfl:=Option.some.inj H;have p102:0≤(x8_1:Int):=pd;have q102:x8_1 < (l0.length:Int):=pd
     obtain ⟨ad102,e102,hx102_0⟩:=Kd.at_int HR0.out x8_1 p102 q102
     cases e102;replace p102:=eq_true p102;replace q102:=eq_true q102;go_wp2;go_ret
     exact ⟨rs,dn⟩
   ·obtain rfl:=Option.some.inj H;go_wp2;go_ret
    exact ⟨rs,dn⟩
end Go.Proofs.YtbcpnejdbookkaaGreat.Print
namespace Go.Proofs.YtbcpnejdbookkaaGreat.Print
open Go.RowKit Go.Proofs.YtbcpnejdbookkaaGreatW.PrintWords Go.Proofs.YtbcpnejdbookkaaGreatW.PrintLast Go.Proofs.YtbcpnejdbookkaaGreatW.PrintMore
attribute [local go_sem] max2_int min2_int max_two min_two max_three min_three max_four min_four
theorem few.callsA (k:Nat) (A0:Option Addr) (c0:Nat) (l0:List (List (S37))) (r:Bool) (w:World) (hr0:Kd.C (Kd.slice 37 k37) w A0 l0.length l0) (hc0:l0.length≤c0) (h:bocagelaw16_few.f k l0=some r) :
    Calls Tryz.prog 11 #[.slice A0 l0.length c0] w fun e w'=>e=.returned (.bool r)∧Drawn0 w w':=by
  have HR0:=Aside0.mk hr0
  have HC0:=Aside0.mk hc0
  clear hr0 hc0
  have H:(bocagelaw16_few.l0 k 0 l0 (l0.length:Int) 0)=some r:=h
  clear h
  have H':=Aside0.mk H
  clear H
  go_enter Tryz.func11,Tryz.ntmps11
  go_wp2
  go_loopg [3,8] k (fun kq v3 v8 w'=>∃ (x3_1:Int) (x8_1:Int),v3=.int .i64 x3_1∧v8=.int .i64 x8_1∧Aside0 (bocagelaw16_few.l0 kq x3_1 l0 (l0.length:Int) x8_1=some r)∧Aside0 (kq≤k)∧Drawn0 w w')
  case atStart=>exact ⟨(0),(0),(by first | rfl | (simp;done) | (simp [*];done)),(by first | rfl | (simp;done) | (simp [*];done)),H',⟨Nat.le_refl _⟩,by repeat (first | exact Drawn0.refl _ | apply Drawn0.step)⟩
  case round =>
    clear H'
    try clear c1
    obtain ⟨x3_1,x8_1,rfl,rfl,HA,HK1,⟨m1,rfl⟩⟩:=hrel
    cases gk with
    | zero=>exact absurd HA.out (by simp [bocagelaw16_few.l0])
    | succ k1 =>
      have H:=HA.out
      clear HA
      simp only [bocagelaw16_few.l0] at H
      by_cases c2:x8_1 < (l0.length:Int)
      · rw [if_pos c2] at H
        have c2b0:decide (x8_1 < (l0.length:Int))=true:=decide_eq_true c2
        clear c2
        by_cases c3:0≤x8_1
        · rw [if_pos c3] at H
          have c3b0:decide (0≤x8_1)=true:=decide_eq_true c3
          clear c3
          by_cases c4:x8_1 < (l0.length:Int)
          · rw [if_pos c4] at H
            have c4b0:decide (x8_1 < (l0.length:Int))=true:=decide_eq_true c4
            clear c4
            have H':=Aside0.mk H
            clear H
            have p101:0≤(x8_1:Int):=of_decide_eq_true (by first | (with_reducible assumption) | assumption)
            have q101:x8_1 < (l0.length:Int):=of_decide_eq_true (by first | (with_reducible assumption) | assumption)
            obtain ⟨ad101,A101_0,c101_0,e101,hx101_0,hl101_0,hi101_0⟩:=at_L4 HR0.out x8_1 p101 q101
            cases e101
            have HR101_0:=Aside0.mk hi101_0
            have HC101_0:=Aside0.mk hl101_0
            clear hi101_0 hl101_0
            replace p101:=eq_true p101
            replace q101:=eq_true q101
            go_wp2
            go_roundg k1
            case measure=>have:=HK1.out;omega
            case rel=>exact ⟨(wrap64 (x3_1+((rd_L4 l0 x8_1).length:Int))),(wrap64 (x8_1+1)),(by first | rfl | (simp;done) | (simp [*];done)),(by first | rfl | (simp;done) | (simp [*];done)),H',⟨by have:=HK1.out;omega⟩,by repeat (first | exact Drawn0.refl _ | apply Drawn0.step)⟩
          · rw [if_neg c4] at H
            exact absurd H (by simp)
        · rw [if_neg c3] at H
          exact absurd H (by simp)
      · rw [if_neg c2] at H
        have c2b0:decide (x8_1 < (l0.length:Int))=false:=decide_eq_false c2
        clear c2
        obtain rfl:=Option.some.inj H
        go_wp2
        go_ret
        exact ⟨by first | rfl | (simp;done) | (simp [*];done),by repeat (first | exact Drawn0.refl _ | apply Drawn0.step)⟩
theorem few.eq1 (k:Nat) (hk:3≤k) (l:List S37) (hl:l.length≤9223372036854775807):bocagelaw16_few.f k [l]=some (decide (l.length≤40)):=by
 obtain ⟨k,rfl⟩:∃ j,k=j+2:=⟨k - 2,by omega⟩
 have e0:rd_L4 [l] 0=l:=rfl
 have e1:wrap64 (0+(l.length:Int))=l.length:=by unfold wrap64;omega
 have e2:wrap64 (0+1)=1:=by unfold wrap64;omega
 unfold bocagelaw16_few.f
 rw [bocagelaw16_few.l0,if_pos (by simp),if_pos (by omega),if_pos (by simp),e0,e1,e2,bocagelaw16_few.l0,if_neg (by simp)]
 congr 1
 rw [Bool.eq_iff_iff,decide_eq_true_eq,decide_eq_true_eq];omega
theorem lit37 {W:World} {g c:Nat} {A0:Option Addr} {l:List S37} (h:W.heap[g]? = some (.cells #[.slice A0 l.length c] 22 (0,0))) (hC:Kd.C k37 W A0 l.length l) (hc:l.length≤c):Kd.C (Kd.slice 37 k37) W (some ⟨g,0,none⟩) 1 [l] :=
  ⟨rfl, by decide,fun _=>⟨_,rfl,fun j p hp=>by
    cases j with
    | zero =>
      obtain rfl:l=p:=by simpa using hp
      exact ⟨_,rfl,⟨A0,c,rfl,hc,hC⟩,fun i u hu=>by
        cases i with
        | zero =>
          obtain rfl:=Option.some.inj hu
          exact (blk_cell h 0).trans rfl
        | succ i=>cases hu⟩
    | succ j=>cases hp⟩⟩
theorem few.one (k:Nat) (A:Option Addr) (c:Nat) (l:List S37) (b:Bool) (w:World) (hr:Kd.C k37 w A l.length l) (hc:l.length≤c) (he:bocagelaw16_few.f k [l]=some b) (W:World) (g:Nat) (hW:W.heap[g]? = some (.cells #[.slice A l.length c] 22 (0,0))) (hB:Below w.heap.size w W):Calls Tryz.prog 11 #[.slice (some ⟨g,0,none⟩) 1 1] W fun e w'=>e=.returned (.bool b)∧Below W.heap.size W w' :=
 (few.callsA k (some ⟨g,0,none⟩) 1 [l] b W (lit37 hW (Kd.C_below hr hB) hc) (Nat.le_refl 1) he).mono (fun e w' hh=>⟨hh.1,by obtain ⟨nd,rfl⟩:=hh.2;exact pw_below_drewN (Below.refl _ _) nd⟩)
theorem put4 {W:World} {g:Nat} {t:TypeId} {a b c d:Value} (h:W.heap[g]? = some (.cells #[a,b,c,d] t (0,0))) (e f u v:Value):((((W.setCell ⟨g,0,none⟩ e).setCell ⟨g,1,none⟩ f).setCell ⟨g,2,none⟩ u).setCell ⟨g,3,none⟩ v).heap[g]? = some (.cells #[e,f,u,v] t (0,0)):=blk_put (blk_put (blk_put (blk_put h 0 _ rfl) 1 _ rfl) 2 _ rfl) 3 _ rfl
theorem below4 {w W:World} {g:Nat} (h:Below w.heap.size w W) (hg:w.heap.size≤g) (e f u v:Value):Below w.heap.size w ((((W.setCell ⟨g,0,none⟩ e).setCell ⟨g,1,none⟩ f).setCell ⟨g,2,none⟩ u).setCell ⟨g,3,none⟩ v):=below_set (below_set (below_set (below_set h hg) hg) hg) hg
theorem far4 {W:World} {g q:Nat} {t:TypeId} {cs:Array Value} (h:W.heap[q]? = some (.cells cs t (0,0))) (hne:q≠g) (e f u v:Value):((((W.setCell ⟨g,0,none⟩ e).setCell ⟨g,1,none⟩ f).setCell ⟨g,2,none⟩ u).setCell ⟨g,3,none⟩ v).heap[q]? = some (.cells cs t (0,0)):=blk_far (blk_far (blk_far (blk_far h (p:=⟨g,0,none⟩) hne _) (p:=⟨g,1,none⟩) hne _) (p:=⟨g,2,none⟩) hne _) (p:=⟨g,3,none⟩) hne _
theorem st4 {w:World} {g:Nat} {a b c d:Value} {t:TypeId} (h:w.heap[g]? = some (.cells #[a,b,c,d] t (0,0))):w.cell? ⟨g,0,none⟩=some a∧w.cell? ⟨g,1,none⟩=some b∧w.cell? ⟨g,2,none⟩=some c∧w.cell? ⟨g,3,none⟩=some d∧w.frozen? ⟨g,0,none⟩=false∧w.frozen? ⟨g,1,none⟩=false∧w.frozen? ⟨g,2,none⟩=false∧w.frozen? ⟨g,3,none⟩=false :=
 ⟨(blk_cell h 0).trans rfl,(blk_cell h 1).trans rfl,(blk_cell h 2).trans rfl,(blk_cell h 3).trans rfl,blk_frozen h 0,blk_frozen h 1,blk_frozen h 2,blk_frozen h 3⟩
theorem lit33 (a b c d:Int) (W:World) (g:Nat) (h:W.heap[g]? = some (.cells #[.int .i64 a,.int .i64 b,.int .i64 c,.int .i64 d] 33 (0,0))):Kd.C k33 W (some ⟨g,0,none⟩) 2 [(⟨a,b⟩:S33),⟨c,d⟩]:=by
 have ho:W.ownsRow 0 33 2 (.slice (some ⟨g,0,none⟩) 2 2) 2 [.int .i64 a,.int .i64 b,.int .i64 c,.int .i64 d]:=⟨by simp,.inr ⟨g,2,_,rfl,by simp,h,Nat.le_refl _,by decide,rfl,rfl⟩⟩
 have hr:k33.R 33 W 0 (fun _=>True) (.slice (some ⟨g,0,none⟩) 2 2) [(⟨a,b⟩:S33),⟨c,d⟩]:=⟨fun _ _=>trivial,_,ho,by
  have h0:=Reps.none (k33.M W 0 (fun k=>True∧some k≠(Value.slice (some ⟨g,0,none⟩) 2 2).ownBlock)) k33.sz
  have h1:=h0.snoc (k33_mkM W 0 _ (⟨a,b⟩:S33)) rfl
  exact h1.snoc (k33_mkM W 0 _ (⟨c,d⟩:S33)) rfl⟩
 exact (Kd.R_reads' hr).2.2
section
variable {X w' : World} {l l' B : Obj}
theorem nb0 (h:Below (X.alloc B).heap.size (X.alloc B) w'):w'.heap[X.heap.size]? = some B:=blk_below (World.alloc_heap_new _ _) h
theorem nb1 (h:Below ((X.alloc B).alloc l).heap.size ((X.alloc B).alloc l) w'):w'.heap[X.heap.size]? = some B:=blk_below (blk_alloc (World.alloc_heap_new _ _) _) h
theorem nb2 (h:Below (((X.alloc B).alloc l).alloc l').heap.size (((X.alloc B).alloc l).alloc l') w'):w'.heap[X.heap.size]? = some B:=blk_below (blk_alloc (blk_alloc (World.alloc_heap_new _ _) _) _) h
theorem nd0 (h:Below (X.alloc B).drew.heap.size (X.alloc B).drew w'):w'.heap[X.heap.size]? = some B:=nb0 ⟨h.os,h.tape,h.output,h.size,h.block⟩
theorem nd1 (h:Below ((X.alloc B).alloc l).drew.heap.size ((X.alloc B).alloc l).drew w'):w'.heap[X.heap.size]? = some B:=nb1 ⟨h.os,h.tape,h.output,h.size,h.block⟩
theorem nd2 (h:Below (((X.alloc B).alloc l).alloc l').drew.heap.size (((X.alloc B).alloc l).alloc l').drew w'):w'.heap[X.heap.size]? = some B:=nb2 ⟨h.os,h.tape,h.output,h.size,h.block⟩
end
theorem alloc4 {G:World→Prop} {w X:World} {o o4:Obj} {g4:Nat} (h4:X.heap[g4]? = some o4) (hB:Below w.heap.size w X) (h:∀ W:World,W.heap[X.heap.size]? = some o→W.heap[g4]? = some o4→Below w.heap.size w W→G W):G (X.alloc o):=h _ (World.alloc_heap_new _ _) (blk_alloc h4 _) (below_alloc hB _)
theorem store4 {G:World→Prop} {w X:World} {n g4:Nat} {a b c d e f u v:Value} {t t4:TypeId} {cs4:Array Value} (hX:X.heap[n]? = some (.cells #[a,b,c,d] t (0,0))) (h4:X.heap[g4]? = some (.cells cs4 t4 (0,0))) (hne:g4≠n) (hB:Below w.heap.size w X) (hn:w.heap.size≤n) (h:∀ W:World,W.heap[n]? = some (.cells #[e,f,u,v] t (0,0))→W.heap[g4]? = some (.cells cs4 t4 (0,0))→Below w.heap.size w W→G W):G ((((X.setCell ⟨n,0,none⟩ e).setCell ⟨n,1,none⟩ f).setCell ⟨n,2,none⟩ u).setCell ⟨n,3,none⟩ v):=h _ (put4 hX _ _ _ _) (far4 h4 hne _ _ _ _) (below4 hB hn _ _ _ _)
theorem st2 {w:World} {g:Nat} {a b:Value} {t:TypeId} (h:w.heap[g]? = some (.cells #[a,b] t (0,0))):w.cell? ⟨g,0,none⟩=some a∧w.cell? ⟨g,1,none⟩=some b:=⟨(blk_cell h 0).trans rfl,(blk_cell h 1).trans rfl⟩
theorem alloc_at {X:World} {o:Obj} {n:Nat} (h:n=X.heap.size):(X.alloc o).heap[n]? = some o:=by subst h;exact World.alloc_heap_new _ _
theorem drew_size (w:World):w.drew.heap.size=w.heap.size:=rfl
end Go.Proofs.YtbcpnejdbookkaaGreat.Print
namespace Go.Proofs.YtbcpnejdbookkaaGreat.Print
open Go.RowKit Go.Proofs.YtbcpnejdbookkaaGreatW.PrintWords Go.Proofs.YtbcpnejdbookkaaGreatW.PrintLast Go.Proofs.YtbcpnejdbookkaaGreatW.PrintMore
attribute [local go_sem] max2_int min2_int max_two min_two max_three min_three max_four min_four   -- for this text's walks alone
theorem eqA33 (d:Nat) (w:World) (x0 y0:Int) (x1 y1:Int) :
 (Op.equalIn (d+2) 33 (.agg #[.int .i64 x0,.int .i64 x1]) (.agg #[.int .i64 y0,.int .i64 y1])).run Tryz.prog w=.ok (x0 == y0 && (x1 == y1)) w:=by
 refine eqA_of Tryz.underlying33 (by kernel_rfl) ?_
 refine eqf_cons (by rfl) (by go_simp;rfl) (by go_simp;rfl) (by go_simp) ?_
 exact eqf_last (by rfl) (by go_simp;rfl) (by go_simp;rfl) (by go_simp)
def cut_Last.f :Option (Int×Int):=some (1,0)
theorem cut_Last.calls  (r1:Int) (r2:Int) (w:World) (h:cut_Last.f =some (r1,r2)) :
 Calls Tryz.prog 134 #[] w fun e w'=>e=.returned (.agg #[.int .i64 r1,.int .i64 r2])∧Below w.heap.size w w':=by
 have hu33:=Tryz.underlying33
 have HB:=am (Below.refl w.heap.size w)
 unfold cut_Last.f at h;have H:=h;clear h
 simp only [Option.some.injEq,Prod.mk.injEq] at H
 obtain ⟨rfl,rfl⟩:=H
 go_enter Tryz.func134,Tryz.ntmps134
 go_wp2_with (first | ((with_reducible refine gate_dst (N:=0) rfl ?_);refine bxf #[.int .i64 0,.int .i64 0] 33 HB fun gb103 w1 BK103 GW103 HB hg hb=>?_;clear hb hg;obtain ⟨_,_,_,_⟩:=s2 BK103))
 refine bodyPost_ret (results_cell_row rfl _ _ gb103 33 #[.int .i64 1,.int .i64 0] (0,0) _ rfl (bkp BK103) Tryz.underlying33 rfl (by kernel_rfl)) rfl ?_
 exact endB HB
def cut_First.f :Option (Int×Int):=some ((-1),0)
theorem cut_First.calls  (r1:Int) (r2:Int) (w:World) (h:cut_First.f =some (r1,r2)) :
 Calls Tryz.prog 135 #[] w fun e w'=>e=.returned (.agg #[.int .i64 r1,.int .i64 r2])∧Below w.heap.size w w':=by
 have hu33:=Tryz.underlying33
 have HB:=am (Below.refl w.heap.size w)
 unfold cut_First.f at h;have H:=h;clear h
 simp only [Option.some.injEq,Prod.mk.injEq] at H
 obtain ⟨rfl,rfl⟩:=H
 go_enter Tryz.func135,Tryz.ntmps135
 go_wp2_with (first | ((with_reducible refine gate_dst (N:=0) rfl ?_);refine bxf #[.int .i64 0,.int .i64 0] 33 HB fun gb104 w1 BK104 GW104 HB hg hb=>?_;clear hb hg;obtain ⟨_,_,_,_⟩:=s2 BK104))
 refine bodyPost_ret (results_cell_row rfl _ _ gb104 33 #[.int .i64 (-1),.int .i64 0] (0,0) _ rfl (bkp BK104) Tryz.underlying33 rfl (by kernel_rfl)) rfl ?_
 exact endB HB
def cut_Canon.j0:Nat→Bool→Int→Int→Option (Int×Int)
 | 0,_,_,_=>none
 | k+1,x3,x106000,x106001=>if x3=true then ((cut_First.f).bind fun bt107=>(some (bt107.1,bt107.2))) else (if x106000 > 0 then ((cut_Last.f).bind fun bt109=>(some (bt109.1,bt109.2))) else (some (x106000,x106001)))
def cut_Canon.f (k:Nat) (a0_0:Int) (a0_1:Int):Option (Int×Int):=if a0_0 < 0 then (cut_Canon.j0 k true a0_0 a0_1) else (if a0_0=0 then (cut_Canon.j0 k (a0_1 == (-9223372036854775808)) a0_0 a0_1) else (cut_Canon.j0 k false a0_0 a0_1))
theorem cut_Canon.mono_l:∀ k,(∀ y0 y1 y2,LeO (cut_Canon.j0 k y0 y1 y2) (cut_Canon.j0 (k+1) y0 y1 y2))
 | 0=>fun _ _ _ r h=>by simp [cut_Canon.j0] at h
 | k+1=>by
  have ih0:=cut_Canon.mono_l k
  ·intro y0 y1 y2
   unfold cut_Canon.j0
   repeat' with_reducible first | apply ih0 | apply lr | apply ln | apply li | refine lb ?_ fun _=>?_
theorem cut_Canon.mono:∀ a0 a1 k,LeO (cut_Canon.f k a0 a1) (cut_Canon.f (k+1) a0 a1):=by
 intro a0 a1 k
 have ih0:=cut_Canon.mono_l k
 unfold cut_Canon.f
 repeat' with_reducible first | apply ih0 | apply lr | apply ln | apply li | refine lb ?_ fun _=>?_
theorem cut_Canon.calls (k:Nat) (a0_0:Int) (a0_1:Int) (r1:Int) (r2:Int) (w:World) (h:cut_Canon.f k a0_0 a0_1=some (r1,r2)) :
 Calls Tryz.prog 130 #[.agg #[.int .i64 a0_0,.int .i64 a0_1]] w fun e w'=>e=.returned (.agg #[.int .i64 r1,.int .i64 r2])∧Below w.heap.size w w':=by
 have hu33:=Tryz.underlying33
 have HB:=am (Below.refl w.heap.size w)
 unfold cut_Canon.f at h;have H:=h;clear h;have HC2:=am H;clear H;go_enter Tryz.func130,Tryz.ntmps130
 go_upto_region 1 with (first | ((with_reducible refine gate_dst (N:=1) rfl ?_);refine bxf #[.int .i64 a0_0,.int .i64 a0_1] 33 HB fun gb105 w3 BK105 GW105 HB hg hb=>?_;clear hb hg) | ((with_reducible refine gate_dst (N:=2) rfl ?_);refine bxf #[.int .i64 0,.int .i64 0] 33 HB fun gb106 w4 BK106 GW106 HB hg hb=>?_;have NB105_106:=nlt hg BK105;have NB106_105:=ngt hg BK105;replace BK105:=bkb BK105 hb;clear hb hg))
 (try simp only [Act.put,List.setIfInBounds_toArray,List.set_cons_zero,List.set_cons_succ])
 go_cut [3] (fun v3 wc=>∃ (kq:Nat) (x3_1:Bool),v3=.bool x3_1∧Aside0 (cut_Canon.j0 kq x3_1 a0_0 a0_1=some (r1,r2))∧Aside0 (kq≤k)∧Aside0 (wc.heap[gb105]? = some (.cells #[.int .i64 a0_0,.int .i64 a0_1] 33 (0,0)))∧Aside0 (wc.heap[gb106]? = some (.cells #[.int .i64 0,.int .i64 0] 33 (0,0)))∧Aside0 (Below w.heap.size w wc))
 case first =>
  have H:=HC2.out;clear HC2;revert H;refine itc (fun c5b0 H=>?_) fun c5b0 H=>?_
  ·(first | rw [c5b0] | (simp only [i64_w,i32_w];rw [c5b0]) | skip)
   have H':=am H;clear H;have hnb6:=NB105_106.out;have hnc6:=NB106_105.out;obtain ⟨hcz7_0,hcz7_1,hfz7_0,hfz7_1⟩:=s2 BK105;go_wp2
   go_meet
   case rel=>exact ⟨_,(true),rs,H',⟨by first | omega | exact Nat.le_refl _⟩,⟨bk BK105⟩,⟨bk BK106⟩,⟨bl HB⟩⟩
  ·(first | rw [c5b0] | (simp only [i64_w,i32_w];rw [c5b0]) | skip)
   by_cases c8:a0_0=0
   ·rw [if_pos c8] at H
    have c8b0:(a0_0 == 0)=true:=beq_iff_eq.mpr c8
    have c8b1:(a0_0 != 0)=false:=bne_eq_false_iff_eq.mpr c8
    clear c8;have H':=am H;clear H;have hnb9:=NB105_106.out;have hnc9:=NB106_105.out;obtain ⟨hcz10_0,hcz10_1,hfz10_0,hfz10_1⟩:=s2 BK105;go_wp2
    go_meet
    case rel=>exact ⟨_,((a0_1 == (-9223372036854775808))),rs,H',⟨by first | omega | exact Nat.le_refl _⟩,⟨bk BK105⟩,⟨bk BK106⟩,⟨bl HB⟩⟩
   ·rw [if_neg c8] at H
    have c8b0:(a0_0 == 0)=false:=beq_eq_false_iff_ne.mpr c8
    have c8b1:(a0_0 != 0)=true:=bne_iff_ne.mpr c8
    have H':=am H;clear H;have hnb11:=NB105_106.out;have hnc11:=NB106_105.out;obtain ⟨hcz12_0,hcz12_1,hfz12_0,hfz12_1⟩:=s2 BK105;go_wp2
    go_meet
    case rel=>exact ⟨_,(false),rs,H',⟨by first | omega | exact Nat.le_refl _⟩,⟨bk BK105⟩,⟨bk BK106⟩,⟨bl HB⟩⟩
 case rest =>
  clear HC2
  try clear c1
  try clear p2
  try clear c5
  try clear c5b0
  try clear c6
  try clear c8
  try clear c8b0
  try clear c8b1
  try clear c9
  try clear c11
  try clear hcz10_0
  try clear hcz10_1
  try clear hcz12_0
  try clear hcz12_1
  try clear hcz7_0
  try clear hcz7_1
  try clear hfz10_0
  try clear hfz10_1
  try clear hfz12_0
  try clear hfz12_1
  try clear hfz7_0
  try clear hfz7_1
  obtain ⟨kq,x3_1,rfl,HA,HJ1,BK105,BK106,HB⟩:=hcut
  cases kq with
  | zero=>exact absurd HA.out (by simp [cut_Canon.j0])
  | succ kj1 =>
   have H:=HA.out;clear HA
   simp only [cut_Canon.j0] at H
   cases x3_1;rotate_left
   ·replace H:=itt H;revert H;refine bnd2 fun t107 t108 A14 H=>?_;dsimp only at H
    simp only [Option.some.injEq,Prod.mk.injEq] at H
    obtain ⟨rfl,rfl⟩:=H
    go_wp2_with (first | ((with_reducible refine gate_callee (f:=135) rfl ?_);refine gob Tryz.func135 (cut_First.calls _ _ _ A14.out) fun w15 hb=>?_;replace BK105:=bkb BK105 hb;replace BK106:=bkb BK106 hb;replace HB:=bst HB hb;(try clear hb);(try clear hb2);(try clear hk);(try clear hi);have hnb16:=NB106_105.out;have hnc16:=NB105_106.out;obtain ⟨_,_,_,_⟩:=s2 BK106))
    refine bodyPost_ret (results_cell_row rfl _ _ gb106 33 #[.int .i64 t107,.int .i64 t108] (0,0) _ rfl (bkp BK106) Tryz.underlying33 rfl (by kernel_rfl)) rfl ?_
    exact endB HB
   ·replace H:=itf H;revert H;refine itc (fun (c18b0:decide (0 < a0_0)=true) H=>?_) fun (c18b0:decide (0 < a0_0)=false) H=>?_
    ·revert H;refine bnd2 fun t109 t110 A19 H=>?_;dsimp only at H
     simp only [Option.some.injEq,Prod.mk.injEq] at H
     obtain ⟨rfl,rfl⟩:=H
     have hnb20:=NB105_106.out;have hnc20:=NB106_105.out;obtain ⟨_,_,_,_⟩:=s2 BK105
     go_wp2_with (first | ((with_reducible refine gate_callee (f:=134) rfl ?_);refine gob Tryz.func134 (cut_Last.calls _ _ _ A19.out) fun w22 hb=>?_;replace BK105:=bkb BK105 hb;replace BK106:=bkb BK106 hb;replace HB:=bst HB hb;(try clear hb);(try clear hb2);(try clear hk);(try clear hi);obtain ⟨_,_,_,_⟩:=s2 BK106))
     refine bodyPost_ret (results_cell_row rfl _ _ gb106 33 #[.int .i64 t109,.int .i64 t110] (0,0) _ rfl (bkp BK106) Tryz.underlying33 rfl (by kernel_rfl)) rfl ?_
     exact endB HB
    ·simp only [Option.some.injEq,Prod.mk.injEq] at H
     obtain ⟨rfl,rfl⟩:=H
     have hnb24:=NB105_106.out;have hnc24:=NB106_105.out;obtain ⟨_,_,_,_⟩:=s2 BK105;obtain ⟨_,_,_,_⟩:=s2 BK106;go_wp2
     refine bodyPost_ret (results_cell_row rfl _ _ gb106 33 #[.int .i64 a0_0,.int .i64 a0_1] (0,0) _ rfl (bkp BK106) Tryz.underlying33 rfl (by kernel_rfl)) rfl ?_
     exact endB HB
def cmp_isNaN_int.f (a0:Int):Option (Bool):=some (a0 != a0)
theorem cmp_isNaN_int.calls (a0:Int) (r:Bool) (w:World) (h:cmp_isNaN_int.f a0=some r) :
 Calls Tryz.prog 160 #[.int .i64 a0] w fun e w'=>e=.returned (.bool r)∧Drawn0 w w':=by
 unfold cmp_isNaN_int.f at h;have H:=h;clear h;obtain rfl:=Option.some.inj H;go_enter Tryz.func160,Tryz.ntmps160;go_wp2;go_ret
 exact ⟨rs,dn⟩
def cmp_Compare_int.f (a0:Int) (a1:Int):Option (Int):=(cmp_isNaN_int.f a0).bind fun t111=>((cmp_isNaN_int.f a1).bind fun t112=>(if t111=true then (if t112=true then (some 0) else (some (-1))) else (if t112=true then (some 1) else (if a0 < a1 then (some (-1)) else (if a0 > a1 then (some 1) else (some 0))))))
theorem cmp_Compare_int.calls (a0:Int) (a1:Int) (r:Int) (w:World) (h:cmp_Compare_int.f a0 a1=some r) :
 Calls Tryz.prog 131 #[.int .i64 a0,.int .i64 a1] w fun e w'=>e=.returned (.int .i64 r)∧Drawn0 w w':=by
 unfold cmp_Compare_int.f at h;have H:=h;clear h;revert H;refine bnd fun t111 A3 H=>?_
 revert H;refine bnd fun t112 A4 H=>?_
 cases t111;rotate_left
 ·replace H:=itt H;cases t112;rotate_left
  ·replace H:=itt H;obtain rfl:=Option.some.inj H;go_enter Tryz.func131,Tryz.ntmps131
   go_wp2_with (first | ((with_reducible refine gate_callee (f:=160) rfl ?_);refine god Tryz.func160 (cmp_isNaN_int.calls _ _ _ A3.out) fun nd=>?_) | ((with_reducible refine gate_callee (f:=160) rfl ?_);refine god Tryz.func160 (cmp_isNaN_int.calls _ _ _ A4.out) fun nd=>?_))
   go_ret
   exact ⟨rs,dn⟩
  ·replace H:=itf H;obtain rfl:=Option.some.inj H;go_enter Tryz.func131,Tryz.ntmps131
   go_wp2_with (first | ((with_reducible refine gate_callee (f:=160) rfl ?_);refine god Tryz.func160 (cmp_isNaN_int.calls _ _ _ A3.out) fun nd=>?_) | ((with_reducible refine gate_callee (f:=160) rfl ?_);refine god Tryz.func160 (cmp_isNaN_int.calls _ _ _ A4.out) fun nd=>?_))
   go_ret
   exact ⟨rs,dn⟩
 ·replace H:=itf H;cases t112;rotate_left
  ·replace H:=itt H;obtain rfl:=Option.some.inj H;go_enter Tryz.func131,Tryz.ntmps131
   go_wp2_with (first | ((with_reducible refine gate_callee (f:=160) rfl ?_);refine god Tryz.func160 (cmp_isNaN_int.calls _ _ _ A3.out) fun nd=>?_) | ((with_reducible refine gate_callee (f:=160) rfl ?_);refine god Tryz.func160 (cmp_isNaN_int.calls _ _ _ A4.out) fun nd=>?_))
   go_ret
   exact ⟨rs,dn⟩
  ·replace H:=itf H;revert H;refine itc (fun c8b0 H=>?_) fun c8b0 H=>?_
   ·obtain rfl:=Option.some.inj H;go_enter Tryz.func131,Tryz.ntmps131
    go_wp2_with (first | ((with_reducible refine gate_callee (f:=160) rfl ?_);refine god Tryz.func160 (cmp_isNaN_int.calls _ _ _ A3.out) fun nd=>?_) | ((with_reducible refine gate_callee (f:=160) rfl ?_);refine god Tryz.func160 (cmp_isNaN_int.calls _ _ _ A4.out) fun nd=>?_))
    go_ret
    exact ⟨rs,dn⟩
   ·revert H;refine itc (fun (c9b0:decide (a1 < a0)=true) H=>?_) fun (c9b0:decide (a1 < a0)=false) H=>?_
    ·obtain rfl:=Option.some.inj H;go_enter Tryz.func131,Tryz.ntmps131
     go_wp2_with (first | ((with_reducible refine gate_callee (f:=160) rfl ?_);refine god Tryz.func160 (cmp_isNaN_int.calls _ _ _ A3.out) fun nd=>?_) | ((with_reducible refine gate_callee (f:=160) rfl ?_);refine god Tryz.func160 (cmp_isNaN_int.calls _ _ _ A4.out) fun nd=>?_))
     go_ret
     exact ⟨rs,dn⟩
    ·obtain rfl:=Option.some.inj H;go_enter Tryz.func131,Tryz.ntmps131
     go_wp2_with (first | ((with_reducible refine gate_callee (f:=160) rfl ?_);refine god Tryz.func160 (cmp_isNaN_int.calls _ _ _ A3.out) fun nd=>?_) | ((with_reducible refine gate_callee (f:=160) rfl ?_);refine god Tryz.func160 (cmp_isNaN_int.calls _ _ _ A4.out) fun nd=>?_))
     go_ret
     exact ⟨rs,dn⟩
def cmp_isNaN_int64.f (a0:Int):Option (Bool):=some (a0 != a0)
theorem cmp_isNaN_int64.calls (a0:Int) (r:Bool) (w:World) (h:cmp_isNaN_int64.f a0=some r) :
 Calls Tryz.prog 161 #[.int .i64 a0] w fun e w'=>e=.returned (.bool r)∧Drawn0 w w':=by
 unfold cmp_isNaN_int64.f at h;have H:=h;clear h;obtain rfl:=Option.some.inj H;go_enter Tryz.func161,Tryz.ntmps161;go_wp2;go_ret
 exact ⟨rs,dn⟩
def cmp_Compare_int64.f (a0:Int) (a1:Int):Option (Int):=(cmp_isNaN_int64.f a0).bind fun t113=>((cmp_isNaN_int64.f a1).bind fun t114=>(if t113=true then (if t114=true then (some 0) else (some (-1))) else (if t114=true then (some 1) else (if a0 < a1 then (some (-1)) else (if a0 > a1 then (some 1) else (some 0))))))
theorem cmp_Compare_int64.calls (a0:Int) (a1:Int) (r:Int) (w:World) (h:cmp_Compare_int64.f a0 a1=some r) :
 Calls Tryz.prog 132 #[.int .i64 a0,.int .i64 a1] w fun e w'=>e=.returned (.int .i64 r)∧Drawn0 w w':=by
 unfold cmp_Compare_int64.f at h;have H:=h;clear h;revert H;refine bnd fun t113 A3 H=>?_
 revert H;refine bnd fun t114 A4 H=>?_
 cases t113;rotate_left
 ·replace H:=itt H;cases t114;rotate_left
  ·replace H:=itt H;obtain rfl:=Option.some.inj H;go_enter Tryz.func132,Tryz.ntmps132
   go_wp2_with (first | ((with_reducible refine gate_callee (f:=161) rfl ?_);refine god Tryz.func161 (cmp_isNaN_int64.calls _ _ _ A3.out) fun nd=>?_) | ((with_reducible refine gate_callee (f:=161) rfl ?_);refine god Tryz.func161 (cmp_isNaN_int64.calls _ _ _ A4.out) fun nd=>?_))
   go_ret
   exact ⟨rs,dn⟩
  ·replace H:=itf H;obtain rfl:=Option.some.inj H;go_enter Tryz.func132,Tryz.ntmps132
   go_wp2_with (first | ((with_reducible refine gate_callee (f:=161) rfl ?_);refine god Tryz.func161 (cmp_isNaN_int64.calls _ _ _ A3.out) fun nd=>?_) | ((with_reducible refine gate_callee (f:=161) rfl ?_);refine god Tryz.func161 (cmp_isNaN_int64.calls _ _ _ A4.out) fun nd=>?_))
   go_ret
   exact ⟨rs,dn⟩
 ·replace H:=itf H;cases t114;rotate_left
  ·replace H:=itt H;obtain rfl:=Option.some.inj H;go_enter Tryz.func132,Tryz.ntmps132
   go_wp2_with (first | ((with_reducible refine gate_callee (f:=161) rfl ?_);refine god Tryz.func161 (cmp_isNaN_int64.calls _ _ _ A3.out) fun nd=>?_) | ((with_reducible refine gate_callee (f:=161) rfl ?_);refine god Tryz.func161 (cmp_isNaN_int64.calls _ _ _ A4.out) fun nd=>?_))
   go_ret
   exact ⟨rs,dn⟩
  ·replace H:=itf H;revert H;refine itc (fun c8b0 H=>?_) fun c8b0 H=>?_
   ·obtain rfl:=Option.some.inj H;go_enter Tryz.func132,Tryz.ntmps132
    go_wp2_with (first | ((with_reducible refine gate_callee (f:=161) rfl ?_);refine god Tryz.func161 (cmp_isNaN_int64.calls _ _ _ A3.out) fun nd=>?_) | ((with_reducible refine gate_callee (f:=161) rfl ?_);refine god Tryz.func161 (cmp_isNaN_int64.calls _ _ _ A4.out) fun nd=>?_))
    go_ret
    exact ⟨rs,dn⟩
   ·revert H;refine itc (fun (c9b0:decide (a1 < a0)=true) H=>?_) fun (c9b0:decide (a1 < a0)=false) H=>?_
    ·obtain rfl:=Option.some.inj H;go_enter Tryz.func132,Tryz.ntmps132
     go_wp2_with (first | ((with_reducible refine gate_callee (f:=161) rfl ?_);refine god Tryz.func161 (cmp_isNaN_int64.calls _ _ _ A3.out) fun nd=>?_) | ((with_reducible refine gate_callee (f:=161) rfl ?_);refine god Tryz.func161 (cmp_isNaN_int64.calls _ _ _ A4.out) fun nd=>?_))
     go_ret
     exact ⟨rs,dn⟩
    ·obtain rfl:=Option.some.inj H;go_enter Tryz.func132,Tryz.ntmps132
     go_wp2_with (first | ((with_reducible refine gate_callee (f:=161) rfl ?_);refine god Tryz.func161 (cmp_isNaN_int64.calls _ _ _ A3.out) fun nd=>?_) | ((with_reducible refine gate_callee (f:=161) rfl ?_);refine god Tryz.func161 (cmp_isNaN_int64.calls _ _ _ A4.out) fun nd=>?_))
     go_ret
     exact ⟨rs,dn⟩
def cut_Compare.f (k:Nat) (a0_0:Int) (a0_1:Int) (a1_0:Int) (a1_1:Int):Option (Int):=(cut_Canon.f k a0_0 a0_1).bind fun bt117=>((cut_Canon.f k a1_0 a1_1).bind fun bt119=>((cmp_Compare_int.f bt117.1 bt119.1).bind fun t121=>((cmp_Compare_int64.f bt117.2 bt119.2).bind fun t122=>((cmp_Or_int.f k (([t121,t122]:List Int))).bind fun t126=>(some t126)))))
theorem cut_Compare.mono:∀ a0 a1 a2 a3 k,LeO (cut_Compare.f k a0 a1 a2 a3) (cut_Compare.f (k+1) a0 a1 a2 a3):=by
 intro a0 a1 a2 a3 k
 unfold cut_Compare.f
 repeat' with_reducible first | apply cmp_Or_int.mono | apply cut_Canon.mono | apply lr | apply ln | apply li | refine lb ?_ fun _=>?_
def cut_Compare.T2:Bool×List (List Nat×List Nat):=(true,[([],[]),([0],[0]),([],[]),([2],[2]),([1,3],[1,3]),([],[]),([5],[5]),([],[]),([7],[7]),([6,8,4],[6,8]),([4,9],[4,9]),([10,9],[10]),([11,11,0,1,2,3,4,5,6,7,8,9,10,11],[11])])
def cut_Compare.B2:List Nat:=[0,1,0,4,15,0,32,0,128,511,1023,2047,4095]
theorem cut_Compare.tab2:rtab .any (opsOf Tryz.f109 2)=cut_Compare.T2:=by kernel_rfl
theorem cut_Compare.bits2:waitsOk cut_Compare.T2.2 cut_Compare.B2=true:=by kernel_rfl
theorem cut_Compare.calls (k:Nat) (a0_0:Int) (a0_1:Int) (a1_0:Int) (a1_1:Int) (r:Int) (w:World) (h:cut_Compare.f k a0_0 a0_1 a1_0 a1_1=some r) :
 Calls Tryz.prog 109 #[.agg #[.int .i64 a0_0,.int .i64 a0_1],.agg #[.int .i64 a1_0,.int .i64 a1_1]] w fun e w'=>e=.returned (.int .i64 r)∧Below w.heap.size w w':=by
 have hu33:=Tryz.underlying33
 have HB:=am (Below.refl w.heap.size w)
 unfold cut_Compare.f at h;have H:=h;clear h;revert H;refine bnd2 fun t117 t118 A3 H=>?_;dsimp only at H
 revert H;refine bnd2 fun t119 t120 A4 H=>?_;dsimp only at H
 revert H;refine bnd fun t121 A5 H=>?_
 revert H;refine bnd fun t122 A6 H=>?_
 generalize hy123:([t121,t122]:List Int)=y123 at H;have Ny123:=am hy123.symm;clear hy123;revert H;refine bnd fun t126 A7 H=>?_
 obtain rfl:=Option.some.inj H;go_enter Tryz.func109,Tryz.ntmps109
 try go_wp2_with (first | ((with_reducible refine gate_dst (N:=2) rfl ?_);refine bxf #[.int .i64 a0_0,.int .i64 a0_1] 33 HB fun gb115 w8 BK115 GW115 HB hg hb=>?_;clear hb hg) | ((with_reducible refine gate_dst (N:=3) rfl ?_);refine bxf #[.int .i64 a1_0,.int .i64 a1_1] 33 HB fun gb116 w9 BK116 GW116 HB hg hb=>?_;have NB115_116:=nlt hg BK115;have NB116_115:=ngt hg BK115;replace BK115:=bkb BK115 hb;clear hb hg))
 replace BK115:=am (blk_drew BK115.out);replace BK116:=am (blk_drew BK116.out);replace HB:=am (below_drew1 HB.out)
 refine st F6 [4,5] (g2 BK115 (h2 BK116)) fun hHeld=>?_
 generalize w9.drew=w10 at BK115 BK116 HB hHeld ⊢
 refine tk4 0 (some 5) #[true,false,false,false,false,false] (by kernel_rfl) hHeld ?_
 refine tk4 2 (some 7) #[true,false,true,false,false,false] (by kernel_rfl) hHeld ?_
 refine cb 1 Tryz.func130 (cut_Canon.calls _ _ _ _ _ _ A3.out) hHeld fun w11 hb hHeld=>?_
 replace BK115:=bkb BK115 hb;replace BK116:=bkb BK116 hb;replace HB:=bst HB hb;clear hb
 refine cb 3 Tryz.func130 (cut_Canon.calls _ _ _ _ _ _ A4.out) hHeld fun w12 hb hHeld=>?_
 replace BK115:=bkb BK115 hb;replace BK116:=bkb BK116 hb;replace HB:=bst HB hb;clear hb
 refine last_ (i:=4) (N:=none) #[true,true,true,true,true,false] rfl rfl (by kernel_rfl) (by decide) (fun K hK=>?_)
 have hs13:w12.cell? ⟨gb115,0,none⟩=some (.int .i64 a0_0):=(blk_cell BK115.out 0).trans rfl
 have hfs13:=blk_frozen BK115.out 0
 have hns13_1:=NB116_115.out;have hms13_1:=NB115_116.out
 have hs14:w12.cell? ⟨gb115,1,none⟩=some (.int .i64 a0_1):=(blk_cell BK115.out 1).trans rfl
 have hfs14:=blk_frozen BK115.out 1
 have hns14_1:=NB116_115.out;have hms14_1:=NB115_116.out
 refine skip_ (w1:=?_) (by rfl) rfl ?_ ?_
 rotate_left
 ·go_simp
  rfl
 refine hK.out _ _ ?_;clear hK K
 refine last_ (i:=5) (N:=none) #[true,true,true,true,true,true] rfl rfl (by kernel_rfl) (by decide) (fun K hK=>?_)
 have hs15:w12.cell? ⟨gb116,0,none⟩=some (.int .i64 a1_0):=(blk_cell BK116.out 0).trans rfl
 have hfs15:=blk_frozen BK116.out 0
 have hns15_0:=NB115_116.out;have hms15_0:=NB116_115.out
 have hs16:w12.cell? ⟨gb116,1,none⟩=some (.int .i64 a1_1):=(blk_cell BK116.out 1).trans rfl
 have hfs16:=blk_frozen BK116.out 1
 have hns16_0:=NB115_116.out;have hms16_0:=NB116_115.out
 refine skip_ (w1:=?_) (by rfl) rfl ?_ ?_
 rotate_left
 ·go_simp
  rfl
 refine hK.out _ _ ?_;clear hK K
 refine dq ?_
 try go_wp2
 have n0_:Aside0 (((((w12.setCell ⟨gb115,0,none⟩ (.int .i64 t117)).setCell ⟨gb115,1,none⟩ (.int .i64 t118)).setCell ⟨gb116,0,none⟩ (.int .i64 t119)).setCell ⟨gb116,1,none⟩ (.int .i64 t120)).heap[gb115]? = some (.cells #[.int .i64 t117,.int .i64 t118] 33 (0,0))):=⟨by (with_reducible repeat (first | refine blk_drewN ?_ _ | refine blk_drew ?_ | refine blk_alloc ?_ _));refine blk_far ?_ NB115_116.out _;(with_reducible repeat (first | refine blk_drewN ?_ _ | refine blk_drew ?_ | refine blk_alloc ?_ _));refine blk_far ?_ NB115_116.out _;(with_reducible repeat (first | refine blk_drewN ?_ _ | refine blk_drew ?_ | refine blk_alloc ?_ _));refine blk_put (cs:=#[.int .i64 t117,.int .i64 a0_1]) ?_ 1 _ rfl;(with_reducible repeat (first | refine blk_drewN ?_ _ | refine blk_drew ?_ | refine blk_alloc ?_ _));refine blk_put (cs:=#[.int .i64 a0_0,.int .i64 a0_1]) ?_ 0 _ rfl;(with_reducible repeat (first | refine blk_drewN ?_ _ | refine blk_drew ?_ | refine blk_alloc ?_ _));exact BK115.out⟩
 have n1_:Aside0 (((((w12.setCell ⟨gb115,0,none⟩ (.int .i64 t117)).setCell ⟨gb115,1,none⟩ (.int .i64 t118)).setCell ⟨gb116,0,none⟩ (.int .i64 t119)).setCell ⟨gb116,1,none⟩ (.int .i64 t120)).heap[gb116]? = some (.cells #[.int .i64 t119,.int .i64 t120] 33 (0,0))):=⟨by (with_reducible repeat (first | refine blk_drewN ?_ _ | refine blk_drew ?_ | refine blk_alloc ?_ _));refine blk_put (cs:=#[.int .i64 t119,.int .i64 a1_1]) ?_ 1 _ rfl;(with_reducible repeat (first | refine blk_drewN ?_ _ | refine blk_drew ?_ | refine blk_alloc ?_ _));refine blk_put (cs:=#[.int .i64 a1_0,.int .i64 a1_1]) ?_ 0 _ rfl;(with_reducible repeat (first | refine blk_drewN ?_ _ | refine blk_drew ?_ | refine blk_alloc ?_ _));refine blk_far ?_ NB116_115.out _;(with_reducible repeat (first | refine blk_drewN ?_ _ | refine blk_drew ?_ | refine blk_alloc ?_ _));refine blk_far ?_ NB116_115.out _;(with_reducible repeat (first | refine blk_drewN ?_ _ | refine blk_drew ?_ | refine blk_alloc ?_ _));exact BK116.out⟩
 have n2_:Aside0 (Below w.heap.size w ((((w12.setCell ⟨gb115,0,none⟩ (.int .i64 t117)).setCell ⟨gb115,1,none⟩ (.int .i64 t118)).setCell ⟨gb116,0,none⟩ (.int .i64 t119)).setCell ⟨gb116,1,none⟩ (.int .i64 t120))):=⟨bl HB⟩
 (try clear BK115)
 (try clear BK116)
 (try clear HB)
 generalize ((((w12.setCell ⟨gb115,0,none⟩ (.int .i64 t117)).setCell ⟨gb115,1,none⟩ (.int .i64 t118)).setCell ⟨gb116,0,none⟩ (.int .i64 t119)).setCell ⟨gb116,1,none⟩ (.int .i64 t120))=w17 at n0_ n1_ n2_ ⊢
 have BK115:=n0_
 have BK116:=n1_
 have HB:=n2_
 clear n0_ n1_ n2_;replace BK115:=am (blk_drew BK115.out);replace BK116:=am (blk_drew BK116.out);replace HB:=am (below_drew1 HB.out)
 refine st F13 [] (g2 BK115 (h2 BK116)) fun hHeld=>?_;refine with_tabW cut_Compare.tab2 cut_Compare.bits2 (fun HT_ HW_=>?_)
 generalize w17.drew=w18 at BK115 BK116 HB hHeld ⊢;refine pw 0 9 HT_ ?_;refine pw 2 11 HT_ ?_;refine pw 5 14 HT_ ?_;refine pw 7 16 HT_ ?_;refine tw4 1 10 HT_ HW_ hHeld ?_;refine tw4 3 12 HT_ HW_ hHeld ?_;refine tw4 6 15 HT_ HW_ hHeld ?_;refine tw4 8 17 HT_ HW_ hHeld ?_
 refine cd 4 HT_ Tryz.func131 (cmp_Compare_int.calls _ _ _ _ A5.out) hHeld fun nd hHeld=>?_
 refine cd 9 HT_ Tryz.func132 (cmp_Compare_int64.calls _ _ _ _ A6.out) hHeld fun nd hHeld=>?_
 refine on 10 HT_ fun K hK=>?_
 refine Kd.R_lit_step (Kd.int .i64) _ 3 ?hg (N:=19) ?hd (xs:=([t121,t122]:List Int)) (inner:=[.int .i64 t121,.int .i64 t122]) (ok:=fun _=>True) (okp:=fun _=>True) ?hr ?hp (fun _ hk=>hk) trivial (Below.refl _ _) (Nat.le_refl _) (by simp) ?_;(case hd=>rfl);(case hg=>rfl);(case hr=>first | (go_simp;done) | (go_simp;rfl));(case hp=>exact (Reps.one (show Kd.M (Kd.int .i64) _ _ _ t121 [.int .i64 t121] from rfl) (Reps.one (show Kd.M (Kd.int .i64) _ _ _ t122 [.int .i64 t122] from rfl) (Reps.none _ _))))
 intro v124 w19 ho20 hb hg_ hnew_
 clear hg_ hnew_
 (first | rw [← Ny123.out] at ho20 | (simp only [Int.reduceToNat] at ho20;rw [← Ny123.out] at ho20))
 have HO125:=kw ho20 HB
 replace BK115:=bkb BK115 hb;replace BK116:=bkb BK116 hb;replace HB:=bst HB hb;clear hb ho20
 obtain ⟨Ao21,co21,eo21⟩:=Kd.R_slice HO125.out
 (first | subst eo21 | (injection eo21 with f1_ f2_ f3_;have f4_:=f1_.symm;have f5_:=f3_.symm;clear f1_ f2_ f3_;subst f4_;subst f5_))
 refine hK.out _ _ (c2 BK115 (e2 BK116)) (fun hHeld=>?_);clear hK K;refine nrp 19 ?_
 refine on 11 HT_ fun K hK=>?_
 refine gs Tryz.func123 #[.slice Ao21 y123.length co21] ?_
 with_reducible refine (cmp_Or_int.calls _ _ _ _ _ _ ?side1 ?side2 A7.out).mono ?_
 (case side1=>repeat (first | exact (Kd.R_reads' HO125.out).2.2 | (with_reducible refine Kd.C_alloc ?_ _) | (with_reducible refine Kd.C_drewN ?_ _) | (with_reducible refine Kd.C_drew ?_)))
 (case side2=>exact (Kd.R_reads' HO125.out).2.1)
 rintro e w' ⟨rfl,⟨nd,rfl⟩⟩;refine ⟨_,rfl,?_⟩;refine hK.out _ _ (c2 BK115 (e2 BK116)) (fun hHeld=>?_);clear hK K;refine nrp 20 ?_;refine pw 12 4 HT_ ?_
 refine dt HT_ ?_
 try go_wp2
 go_ret;exact endB HB
end Go.Proofs.YtbcpnejdbookkaaGreat.Print
namespace Go.Proofs.YtbcpnejdbookkaaGreat.Print
open Go.RowKit Go.Proofs.YtbcpnejdbookkaaGreatW.PrintWords Go.Proofs.YtbcpnejdbookkaaGreatW.PrintLast Go.Proofs.YtbcpnejdbookkaaGreatW.PrintMore
attribute [local go_sem] max2_int min2_int max_two min_two max_three min_three max_four min_four   -- for this text's walks alone
attribute [local go_sem high] eqA33
def cut_Right.f (k:Nat) (a0_0:Int) (a0_1:Int):Option (Bool):=(cut_Canon.f k a0_0 a0_1).bind fun bt128=>(some (bt128.1 == a0_0 && (bt128.2 == a0_1)))
theorem cut_Right.mono:∀ a0 a1 k,LeO (cut_Right.f k a0 a1) (cut_Right.f (k+1) a0 a1):=by
 intro a0 a1 k
 unfold cut_Right.f
 repeat' with_reducible first | apply cut_Canon.mono | apply lr | apply ln | apply li | refine lb ?_ fun _=>?_
theorem cut_Right.calls (k:Nat) (a0_0:Int) (a0_1:Int) (r:Bool) (w:World) (h:cut_Right.f k a0_0 a0_1=some r) :
 Calls Tryz.prog 118 #[.agg #[.int .i64 a0_0,.int .i64 a0_1]] w fun e w'=>e=.returned (.bool r)∧Below w.heap.size w w':=by
 have hu33:=Tryz.underlying33
 have HB:=am (Below.refl w.heap.size w)
 unfold cut_Right.f at h;have H:=h;clear h;revert H;refine bnd2 fun t128 t129 A2 H=>?_;dsimp only at H
 obtain rfl:=Option.some.inj H;go_enter Tryz.func118,Tryz.ntmps118
 try go_wp2_with (first | ((with_reducible refine gate_dst (N:=1) rfl ?_);refine bxf #[.int .i64 a0_0,.int .i64 a0_1] 33 HB fun gb127 w3 BK127 GW127 HB hg hb=>?_;clear hb hg))
 replace BK127:=am (blk_drew BK127.out);replace HB:=am (below_drew1 HB.out)
 refine st F5 [] (h2 BK127) fun hHeld=>?_
 generalize w3.drew=w4 at BK127 HB hHeld ⊢
 refine tk2 0 (some 3) #[true,false,false,false,false] (by kernel_rfl) hHeld ?_
 refine tk2 2 (some 5) #[true,false,true,false,false] (by kernel_rfl) hHeld ?_
 refine cb 1 Tryz.func130 (cut_Canon.calls _ _ _ _ _ _ A2.out) hHeld fun w5 hb hHeld=>?_
 replace BK127:=bkb BK127 hb;replace HB:=bst HB hb;clear hb
 refine pu 3 (some 6) #[true,true,true,true,false] (by kernel_rfl) ?_
 refine pu 4 (some 2) #[true,true,true,true,true] (by kernel_rfl) ?_
 refine dq ?_
 try go_wp2
 go_ret;exact endB HB
def span_Right.f (k:Nat) (a0_0:Int) (a0_1:Int) (a0_2:Int) (a0_3:Int):Option (Bool):=(cut_Right.f k a0_0 a0_1).bind fun t131=>(if t131=true then ((cut_Right.f k a0_2 a0_3).bind fun t132=>(if t132=true then ((cut_Compare.f k a0_0 a0_1 a0_2 a0_3).bind fun t133=>(some (decide (t133 < 0)))) else (some false))) else (some false))
theorem span_Right.mono:∀ a0 a1 a2 a3 k,LeO (span_Right.f k a0 a1 a2 a3) (span_Right.f (k+1) a0 a1 a2 a3):=by
 intro a0 a1 a2 a3 k
 unfold span_Right.f
 repeat' with_reducible first | apply cut_Compare.mono | apply cut_Right.mono | apply lr | apply ln | apply li | refine lb ?_ fun _=>?_
theorem span_Right.calls (k:Nat) (a0_0:Int) (a0_1:Int) (a0_2:Int) (a0_3:Int) (r:Bool) (w:World) (h:span_Right.f k a0_0 a0_1 a0_2 a0_3=some r) :
 Calls Tryz.prog 88 #[.agg #[.int .i64 a0_0,.int .i64 a0_1,.int .i64 a0_2,.int .i64 a0_3]] w fun e w'=>e=.returned (.bool r)∧Below w.heap.size w w':=by
 have hu35:=Tryz.underlying35;have hu33:=Tryz.underlying33
 have HB:=am (Below.refl w.heap.size w)
 unfold span_Right.f at h;have H:=h;clear h;revert H;refine bnd fun t131 A2 H=>?_
 cases t131;rotate_left
 ·replace H:=itt H;revert H;refine bnd fun t132 A4 H=>?_
  cases t132;rotate_left
  ·replace H:=itt H;revert H;refine bnd fun t133 A6 H=>?_
   obtain rfl:=Option.some.inj H;go_enter Tryz.func88,Tryz.ntmps88
   go_wp2_with (first | ((with_reducible refine gate_dst (N:=1) rfl ?_);refine bxf #[.int .i64 a0_0,.int .i64 a0_1,.int .i64 a0_2,.int .i64 a0_3] 35 HB fun gb130 w7 BK130 GW130 HB hg hb=>?_;have GE130:=GW130;clear hb hg;obtain ⟨_,_,_,_,_,_,_,_⟩:=s4 BK130) | ((with_reducible refine gate_callee (f:=118) rfl ?_);refine gob Tryz.func118 (cut_Right.calls _ _ _ _ _ A2.out) fun w9 hb=>?_;replace BK130:=bkb BK130 hb;replace HB:=bst HB hb;(try clear hb);(try clear hb2);(try clear hk);(try clear hi);obtain ⟨_,_,_,_,_,_,_,_⟩:=s4 BK130) | (go_at_call 118;(with_reducible refine (cut_Right.calls _ _ _ _ _ A4.out).mono ?_);rintro e w11 ⟨rfl,hb⟩;replace BK130:=bkb BK130 hb;replace HB:=bst HB hb;clear hb;obtain ⟨_,_,_,_,_,_,_,_⟩:=s4 BK130) | (go_at_call 109;(with_reducible refine (cut_Compare.calls _ _ _ _ _ _ _ A6.out).mono ?_);rintro e w13 ⟨rfl,hb⟩;replace BK130:=bkb BK130 hb;replace HB:=bst HB hb;clear hb))
   go_ret;exact endB HB
  ·replace H:=itf H;obtain rfl:=Option.some.inj H;go_enter Tryz.func88,Tryz.ntmps88
   go_wp2_with (first | ((with_reducible refine gate_dst (N:=1) rfl ?_);refine bxf #[.int .i64 a0_0,.int .i64 a0_1,.int .i64 a0_2,.int .i64 a0_3] 35 HB fun gb130 w14 BK130 GW130 HB hg hb=>?_;have GE130:=GW130;clear hb hg;obtain ⟨_,_,_,_,_,_,_,_⟩:=s4 BK130) | ((with_reducible refine gate_callee (f:=118) rfl ?_);refine gob Tryz.func118 (cut_Right.calls _ _ _ _ _ A2.out) fun w16 hb=>?_;replace BK130:=bkb BK130 hb;replace HB:=bst HB hb;(try clear hb);(try clear hb2);(try clear hk);(try clear hi);obtain ⟨_,_,_,_,_,_,_,_⟩:=s4 BK130) | (go_at_call 118;(with_reducible refine (cut_Right.calls _ _ _ _ _ A4.out).mono ?_);rintro e w18 ⟨rfl,hb⟩;replace BK130:=bkb BK130 hb;replace HB:=bst HB hb;clear hb))
   go_ret;exact endB HB
 ·replace H:=itf H;obtain rfl:=Option.some.inj H;go_enter Tryz.func88,Tryz.ntmps88
  go_wp2_with (first | ((with_reducible refine gate_dst (N:=1) rfl ?_);refine bxf #[.int .i64 a0_0,.int .i64 a0_1,.int .i64 a0_2,.int .i64 a0_3] 35 HB fun gb130 w19 BK130 GW130 HB hg hb=>?_;have GE130:=GW130;clear hb hg;obtain ⟨_,_,_,_,_,_,_,_⟩:=s4 BK130) | ((with_reducible refine gate_callee (f:=118) rfl ?_);refine gob Tryz.func118 (cut_Right.calls _ _ _ _ _ A2.out) fun w21 hb=>?_;replace BK130:=bkb BK130 hb;replace HB:=bst HB hb;(try clear hb);(try clear hb2);(try clear hk);(try clear hi)))
  go_ret;exact endB HB
end Go.Proofs.YtbcpnejdbookkaaGreat.Print
namespace Go.Proofs.YtbcpnejdbookkaaGreat.Print
open Go.RowKit Go.Proofs.YtbcpnejdbookkaaGreatW.PrintWords Go.Proofs.YtbcpnejdbookkaaGreatW.PrintLast Go.Proofs.YtbcpnejdbookkaaGreatW.PrintMore
attribute [local go_sem] max2_int min2_int max_two min_two max_three min_three max_four min_four   -- for this text's walks alone
def span_Compare.f (k:Nat) (a0_0:Int) (a0_1:Int) (a0_2:Int) (a0_3:Int) (a1_0:Int) (a1_1:Int) (a1_2:Int) (a1_3:Int):Option (Int):=(cut_Compare.f k a0_0 a0_1 a1_0 a1_1).bind fun t172=>((cut_Compare.f k a0_2 a0_3 a1_2 a1_3).bind fun t173=>((cmp_Or_int.f k (([t172,t173]:List Int))).bind fun t177=>(some t177)))
def span_Compare.T1:Bool×List (List Nat×List Nat):=(true,[([],[]),([0],[0]),([],[]),([2],[2]),([1,3],[1,3]),([],[]),([5],[5]),([],[]),([7],[7]),([6,8,4],[6,8]),([4,9],[4,9]),([10,9],[10]),([11,11,0,1,2,3,4,5,6,7,8,9,10,11],[11])])
def span_Compare.B1:List Nat:=[0,1,0,4,15,0,32,0,128,511,1023,2047,4095]
theorem span_Compare.tab1:rtab .any (opsOf Tryz.f101 1)=span_Compare.T1:=by kernel_rfl
theorem span_Compare.bits1:waitsOk span_Compare.T1.2 span_Compare.B1=true:=by kernel_rfl
theorem span_Compare.calls (k:Nat) (a0_0:Int) (a0_1:Int) (a0_2:Int) (a0_3:Int) (a1_0:Int) (a1_1:Int) (a1_2:Int) (a1_3:Int) (r:Int) (w:World) (h:span_Compare.f k a0_0 a0_1 a0_2 a0_3 a1_0 a1_1 a1_2 a1_3=some r) :
 Calls Tryz.prog 101 #[.agg #[.int .i64 a0_0,.int .i64 a0_1,.int .i64 a0_2,.int .i64 a0_3],.agg #[.int .i64 a1_0,.int .i64 a1_1,.int .i64 a1_2,.int .i64 a1_3]] w fun e w'=>e=.returned (.int .i64 r)∧Below w.heap.size w w':=by
 have hu35:=Tryz.underlying35;have hu33:=Tryz.underlying33
 have HB:=am (Below.refl w.heap.size w)
 unfold span_Compare.f at h;have H:=h;clear h;revert H;refine bnd fun t172 A3 H=>?_
 revert H;refine bnd fun t173 A4 H=>?_
 generalize hy174:([t172,t173]:List Int)=y174 at H;have Ny174:=am hy174.symm;clear hy174;revert H;refine bnd fun t177 A5 H=>?_
 obtain rfl:=Option.some.inj H;go_enter Tryz.func101,Tryz.ntmps101
 try go_wp2_with (first | ((with_reducible refine gate_dst (N:=2) rfl ?_);refine bxf #[.int .i64 a0_0,.int .i64 a0_1,.int .i64 a0_2,.int .i64 a0_3] 35 HB fun gb170 w6 BK170 GW170 HB hg hb=>?_;clear hb hg) | ((with_reducible refine gate_dst (N:=3) rfl ?_);refine bxf #[.int .i64 a1_0,.int .i64 a1_1,.int .i64 a1_2,.int .i64 a1_3] 35 HB fun gb171 w7 BK171 GW171 HB hg hb=>?_;have NB170_171:=nlt hg BK170;have NB171_170:=ngt hg BK170;replace BK170:=bkb BK170 hb;clear hb hg))
 replace BK170:=am (blk_drew BK170.out);replace BK171:=am (blk_drew BK171.out);replace HB:=am (below_drew1 HB.out)
 refine st F13 [] (g4 BK170 (h4 BK171)) fun hHeld=>?_;refine with_tabW span_Compare.tab1 span_Compare.bits1 (fun HT_ HW_=>?_)
 generalize w7.drew=w8 at BK170 BK171 HB hHeld ⊢;refine pw 0 5 HT_ ?_;refine pw 2 7 HT_ ?_;refine pw 5 10 HT_ ?_;refine pw 7 12 HT_ ?_;refine tw8 1 6 HT_ HW_ hHeld ?_;refine tw8 3 8 HT_ HW_ hHeld ?_;refine tw8 6 11 HT_ HW_ hHeld ?_;refine tw8 8 13 HT_ HW_ hHeld ?_
 refine ca 4 HT_ Tryz.func109 (cut_Compare.calls _ _ _ _ _ _ _ A3.out) hHeld fun w9 hb hHeld=>?_
 replace BK170:=bkb BK170 hb;replace BK171:=bkb BK171 hb;replace HB:=bst HB hb;clear hb
 refine ca 9 HT_ Tryz.func109 (cut_Compare.calls _ _ _ _ _ _ _ A4.out) hHeld fun w10 hb hHeld=>?_
 replace BK170:=bkb BK170 hb;replace BK171:=bkb BK171 hb;replace HB:=bst HB hb;clear hb
 refine on 10 HT_ fun K hK=>?_
 refine Kd.R_lit_step (Kd.int .i64) _ 3 ?hg (N:=15) ?hd (xs:=([t172,t173]:List Int)) (inner:=[.int .i64 t172,.int .i64 t173]) (ok:=fun _=>True) (okp:=fun _=>True) ?hr ?hp (fun _ hk=>hk) trivial (Below.refl _ _) (Nat.le_refl _) (by simp) ?_;(case hd=>rfl);(case hg=>rfl);(case hr=>first | (go_simp;done) | (go_simp;rfl));(case hp=>exact (Reps.one (show Kd.M (Kd.int .i64) _ _ _ t172 [.int .i64 t172] from rfl) (Reps.one (show Kd.M (Kd.int .i64) _ _ _ t173 [.int .i64 t173] from rfl) (Reps.none _ _))))
 intro v175 w11 ho12 hb hg_ hnew_
 clear hg_ hnew_
 (first | rw [← Ny174.out] at ho12 | (simp only [Int.reduceToNat] at ho12;rw [← Ny174.out] at ho12))
 have HO176:=kw ho12 HB
 replace BK170:=bkb BK170 hb;replace BK171:=bkb BK171 hb;replace HB:=bst HB hb;clear hb ho12
 obtain ⟨Ao13,co13,eo13⟩:=Kd.R_slice HO176.out
 (first | subst eo13 | (injection eo13 with f1_ f2_ f3_;have f4_:=f1_.symm;have f5_:=f3_.symm;clear f1_ f2_ f3_;subst f4_;subst f5_))
 refine hK.out _ _ (c4 BK170 (e4 BK171)) (fun hHeld=>?_);clear hK K;refine nrp 15 ?_
 refine on 11 HT_ fun K hK=>?_
 refine gs Tryz.func123 #[.slice Ao13 y174.length co13] ?_
 with_reducible refine (cmp_Or_int.calls _ _ _ _ _ _ ?side1 ?side2 A5.out).mono ?_
 (case side1=>repeat (first | exact (Kd.R_reads' HO176.out).2.2 | (with_reducible refine Kd.C_alloc ?_ _) | (with_reducible refine Kd.C_drewN ?_ _) | (with_reducible refine Kd.C_drew ?_)))
 (case side2=>exact (Kd.R_reads' HO176.out).2.1)
 rintro e w' ⟨rfl,⟨nd,rfl⟩⟩;refine ⟨_,rfl,?_⟩;refine hK.out _ _ (c4 BK170 (e4 BK171)) (fun hHeld=>?_);clear hK K;refine nrp 16 ?_;refine pw 12 4 HT_ ?_
 refine dt HT_ ?_
 try go_wp2
 go_ret;exact endB HB
end Go.Proofs.YtbcpnejdbookkaaGreat.Print
namespace Go.Proofs.YtbcpnejdbookkaaGreat.PrintG
open Go.RowKit hiding Below
open Go.Proofs.YtbcpnejdbookkaaGreatW.PrintWords hiding below_alloc below_drew pw_below_drewN below_then below_size below_step below_set below_drew1 blk_below box_event
open Go.Proofs.YtbcpnejdbookkaaGreatW.PrintLast Go.Proofs.YtbcpnejdbookkaaGreatW.PrintMore Go.Proofs.YtbcpnejdbookkaaGreat.Print
attribute [local go_sem] max2_int min2_int max_two min_two max_three min_three max_four min_four
structure Below (B:Nat) (w w':World):Prop where
 b:Go.RowKit.Below B w w'
 d:w.drawn≤w'.drawn
theorem Below.refl (B:Nat) (w:World):Below B w w:=⟨Go.RowKit.Below.refl B w,Nat.le_refl _⟩
theorem Below.size {B:Nat} {w w':World} (h:Below B w w'):w.heap.size≤w'.heap.size:=h.b.size
theorem below_alloc {w W:World} (h:Below w.heap.size w W) (o:Obj):Below w.heap.size w (W.alloc o):=⟨h.b.alloc h.b.size o,h.d⟩
theorem pw_below_drewN {B:Nat} {w W:World} (h:Below B w W) (n:Nat):Below B w (W.drewN n):=⟨⟨h.b.os,h.b.tape,h.b.output,h.b.size,h.b.block⟩,Nat.le_trans h.d (Nat.le_add_right _ _)⟩
theorem below_drew1 {B:Nat} {w W:World} (h:Below B w W):Below B w W.drew:=⟨h.b.drew,Nat.le_trans h.d (Nat.le_succ _)⟩
theorem below_size {w W:World} (h:Below w.heap.size w W):w.heap.size≤W.heap.size:=h.b.size
theorem below_step {w W w2:World} (h:Below w.heap.size w W) (k:Below W.heap.size W w2):Below w.heap.size w w2 :=
 ⟨h.b.trans ⟨k.b.os,k.b.tape,k.b.output,k.b.size,fun i hi=>k.b.block i (Nat.lt_of_lt_of_le hi h.b.size)⟩,Nat.le_trans h.d k.d⟩
theorem below_set {w W:World} {g j:Nat} {v:Value} (h:Below w.heap.size w W) (hg:w.heap.size≤g):Below w.heap.size w (W.setCell ⟨g,j,none⟩ v):=⟨h.b.setCell hg _,h.d⟩
theorem blk_below {w w1:World} {g:Nat} {o:Obj} (h:w.heap[g]? = some o) (hb:Below w.heap.size w w1):w1.heap[g]? = some o:=(hb.b.block g (blk_lt h)).trans h
section
variable {P : Program} {ops : Array Oper} {rest : List Oper} {o : Oper} {a : Act} {Q : Exit → Act → World → Prop}
theorem box_event {W:World} (hgd:o.guard=none) {N:Tmp} (_hd:o.dst=some N) {cs:Array Value} {t:TypeId}
 (hrun:(execOp a.eval o).run P W=.ok (.value (.pointer (some ⟨W.heap.size,0,none⟩))) (W.alloc (.cells cs t (0,0))))
 (h:∀ g,g=W.heap.size→∀ w1,w1.heap[g]? = some (.cells cs t (0,0))→Below W.heap.size W w1→wpList P ops Q rest (a.put o.dst (.pointer (some ⟨g,0,none⟩))) w1):wpList P ops Q (o :: rest) a W :=
 Kd.event_run hgd hrun (h _ rfl _ (blk_new W _) (below_alloc (Below.refl _ _) _))
theorem Kd.R_lit_step (d:Kd Int) {w0 W:World} (base e:Nat) (hw:Region.wanted o (yielded ops a.tmps)=true) {N:Tmp} (_hd:o.dst=some N) {xs:List Int} {inner:List Value} {ok okp:Nat→Prop} {Kc:Act→World→Prop}
 (hrun:(execOp a.eval o).run P W=.ok (.value (.slice (some ⟨W.heap.size,0,none⟩) xs.length xs.length)) (W.alloc (.cells inner.toArray e)))
 (hrep:Reps (d.M W base okp) d.sz xs inner) (hok:∀ k,okp k→ok k) (hfresh:ok W.heap.size) (HB:Below base w0 W) (hbase:base≤W.heap.size) (hm:xs.length≤9223372036854775807)
 (h:∀ v1 w1,d.R e w1 base ok v1 xs→Below base w0 w1→W.grownBy w1 none→(∃ b,v1.ownBlock=some b∧W.heap.size≤b)→Kc (a.put o.dst v1) w1):if Region.wanted o (yielded ops a.tmps)=true then Oper.wp P o a W Kc Q else Kc (a.put o.dst undef) W:=by
 -- the kit's own step, for a row of its own that tells nothing of the draws; what is known of the world besides is told by the run
 have key:=Go.Proofs.YtbcpnejdbookkaaGreatW.PrintWords.Kd.R_lit_step (ops:=ops) (a:=a) (Q:=Q) (Kc:=fun a' w'=>w'=W.alloc (.cells inner.toArray e)→Kc a' w') d base e hw _hd hrun hrep hok hfresh HB.b hbase hm
  (fun v1 w1 h1 h2 h3 h4 he=>h v1 w1 h1 ⟨h2,by rw [he];exact HB.d⟩ h3 h4)
 rw [if_pos hw] at key ⊢
 unfold Oper.wp at key ⊢
 rw [hrun] at key ⊢
 exact key rfl
end
theorem bl {B:Nat} {w0 w W:World} (h:Aside0 (Below B w0 w)) (c:Below B w0 w→Below B w0 W:=by (intro h_;repeat (first | (with_reducible first | exact h_ | apply below_alloc | apply pw_below_drewN | apply below_drew1 | refine below_set ?_ (Aside0.out (by assumption))) | exact h_))):Below B w0 W:=c h.out
theorem bkb {w W w1:World} {g:Nat} {o:Obj} (h:Aside0 (w.heap[g]? = some o)) (hb:Below W.heap.size W w1) (c:w.heap[g]? = some o→W.heap[g]? = some o:=by (intro h_;(with_reducible repeat (first | refine blk_drewN ?_ _ | refine blk_drew ?_ | refine blk_alloc ?_ _));exact h_)):Aside0 (w1.heap[g]? = some o):=⟨blk_below (c h.out) hb⟩
theorem bst {w0 w W w1:World} (h:Aside0 (Below w0.heap.size w0 w)) (hb:Below W.heap.size W w1) (c:Below w0.heap.size w0 w→Below w0.heap.size w0 W:=by (intro h_;repeat (first | (with_reducible first | exact h_ | apply below_alloc | apply pw_below_drewN | apply below_drew1 | refine below_set ?_ (Aside0.out (by assumption))) | exact h_))):Aside0 (Below w0.heap.size w0 w1):=⟨below_step (c h.out) hb⟩
theorem lsz {w0 w W:World} {g:Nat} (hg:g=W.heap.size) (h:Aside0 (Below w0.heap.size w0 w)) (c:Below w0.heap.size w0 w→Below w0.heap.size w0 W:=by (intro h_;repeat (first | (with_reducible first | exact h_ | apply below_alloc | apply pw_below_drewN | apply below_drew1 | refine below_set ?_ (Aside0.out (by assumption))) | exact h_))):Aside0 (w0.heap.size≤g):=⟨by rw [hg];exact below_size (c h.out)⟩
theorem endB {B:Nat} {w0 w W:World} {e e':Ending} (h:Aside0 (Below B w0 w)) (he:e=e':=by first | rfl | (simp [errW_none,errW_some] <;> rfl) | (simp [*,errW_none,errW_some] <;> rfl)) (c:Below B w0 w→Below B w0 W:=by (intro h_;repeat (first | (with_reducible first | exact h_ | apply below_alloc | apply pw_below_drewN | apply below_drew1 | refine below_set ?_ (Aside0.out (by assumption))) | exact h_))):e=e'∧Below B w0 W:=⟨he,c h.out⟩
section
variable {P : Program} {ops : Array Oper} {Q : Exit → Act → World → Prop}
theorem bxe {o:Oper} {rest:List Oper} {a:Act} {W:World} {N:Tmp} {cs:Array Value} {t:TypeId} (h:∀ g,g=W.heap.size→∀ w1,w1.heap[g]? = some (.cells cs t (0,0))→Below W.heap.size W w1→wpList P ops Q rest (a.put o.dst (.pointer (some ⟨g,0,none⟩))) w1) (hd:o.dst=some N:=by rfl) (hg:o.guard=none:=by rfl)
 (hr:(execOp a.eval o).run P W=.ok (.value (.pointer (some ⟨W.heap.size,0,none⟩))) (W.alloc (.cells cs t (0,0))):=by first | (go_simp;done) | (go_simp;rfl)):wpList P ops Q (o :: rest) a W:=box_event hg hd hr h
end
theorem cut_First.calls  (r1:Int) (r2:Int) (w:World) (h:cut_First.f =some (r1,r2)) :
 Calls Tryz.prog 135 #[] w fun e w'=>e=.returned (.agg #[.int .i64 r1,.int .i64 r2])∧Below w.heap.size w w':=by
 have hu33:=Tryz.underlying33
 have HB:=am (Below.refl w.heap.size w)
 unfold cut_First.f at h;have H:=h;clear h
 simp only [Option.some.injEq,Prod.mk.injEq] at H
 obtain ⟨rfl,rfl⟩:=H
 go_enter Tryz.func135,Tryz.ntmps135
 go_wp2_with (first | ((with_reducible refine gate_dst (N:=0) rfl ?_);refine bxe (N:=0) (cs:=#[.int .i64 0,.int .i64 0]) (t:=33) ?_;intro gb104 hg w1 hbox hb;have BK104:=am hbox;have GW104:=lsz hg HB;replace HB:=bst HB hb;clear hb hbox hg;obtain ⟨_,_,_,_⟩:=s2 BK104))
 refine bodyPost_ret (results_cell_row rfl _ _ gb104 33 #[.int .i64 (-1),.int .i64 0] (0,0) _ rfl (bkp BK104) Tryz.underlying33 rfl (by kernel_rfl)) rfl ?_
 exact endB HB
theorem cut_Last.calls  (r1:Int) (r2:Int) (w:World) (h:cut_Last.f =some (r1,r2)) :
 Calls Tryz.prog 134 #[] w fun e w'=>e=.returned (.agg #[.int .i64 r1,.int .i64 r2])∧Below w.heap.size w w':=by
 have hu33:=Tryz.underlying33
 have HB:=am (Below.refl w.heap.size w)
 unfold cut_Last.f at h;have H:=h;clear h
 simp only [Option.some.injEq,Prod.mk.injEq] at H
 obtain ⟨rfl,rfl⟩:=H
 go_enter Tryz.func134,Tryz.ntmps134
 go_wp2_with (first | ((with_reducible refine gate_dst (N:=0) rfl ?_);refine bxe (N:=0) (cs:=#[.int .i64 0,.int .i64 0]) (t:=33) ?_;intro gb103 hg w1 hbox hb;have BK103:=am hbox;have GW103:=lsz hg HB;replace HB:=bst HB hb;clear hb hbox hg;obtain ⟨_,_,_,_⟩:=s2 BK103))
 refine bodyPost_ret (results_cell_row rfl _ _ gb103 33 #[.int .i64 1,.int .i64 0] (0,0) _ rfl (bkp BK103) Tryz.underlying33 rfl (by kernel_rfl)) rfl ?_
 exact endB HB
theorem cut_Canon.calls (k:Nat) (a0_0:Int) (a0_1:Int) (r1:Int) (r2:Int) (w:World) (h:cut_Canon.f k a0_0 a0_1=some (r1,r2)) :
 Calls Tryz.prog 130 #[.agg #[.int .i64 a0_0,.int .i64 a0_1]] w fun e w'=>e=.returned (.agg #[.int .i64 r1,.int .i64 r2])∧Below w.heap.size w w':=by
 have hu33:=Tryz.underlying33
 have HB:=am (Below.refl w.heap.size w)
 unfold cut_Canon.f at h;have H:=h;clear h;have HC2:=am H;clear H;go_enter Tryz.func130,Tryz.ntmps130
 go_upto_region 1 with (first | ((with_reducible refine gate_dst (N:=1) rfl ?_);refine bxe (N:=1) (cs:=#[.int .i64 a0_0,.int .i64 a0_1]) (t:=33) ?_;intro gb105 hg w3 hbox hb;have BK105:=am hbox;have GW105:=lsz hg HB;replace HB:=bst HB hb;clear hb hbox hg) | ((with_reducible refine gate_dst (N:=2) rfl ?_);refine bxe (N:=2) (cs:=#[.int .i64 0,.int .i64 0]) (t:=33) ?_;intro gb106 hg w4 hbox hb;have BK106:=am hbox;have GW106:=lsz hg HB;replace HB:=bst HB hb;have NB105_106:=nlt hg BK105;have NB106_105:=ngt hg BK105;replace BK105:=bkb BK105 hb;clear hb hbox hg))
 (try simp only [Act.put,List.setIfInBounds_toArray,List.set_cons_zero,List.set_cons_succ])
 go_cut [3] (fun v3 wc=>∃ (kq:Nat) (x3_1:Bool),v3=.bool x3_1∧Aside0 (cut_Canon.j0 kq x3_1 a0_0 a0_1=some (r1,r2))∧Aside0 (kq≤k)∧Aside0 (wc.heap[gb105]? = some (.cells #[.int .i64 a0_0,.int .i64 a0_1] 33 (0,0)))∧Aside0 (wc.heap[gb106]? = some (.cells #[.int .i64 0,.int .i64 0] 33 (0,0)))∧Aside0 (Below w.heap.size w wc))
 case first =>
  have H:=HC2.out;clear HC2;revert H;refine itc (fun c5b0 H=>?_) fun c5b0 H=>?_
  ·(first | rw [c5b0] | (simp only [i64_w,i32_w];rw [c5b0]) | skip)
   have H':=am H;clear H;have hnb6:=NB105_106.out;have hnc6:=NB106_105.out;obtain ⟨hcz7_0,hcz7_1,hfz7_0,hfz7_1⟩:=s2 BK105;go_wp2
   go_meet
   case rel=>exact ⟨_,(true),rs,H',⟨by first | omega | exact Nat.le_refl _⟩,⟨bk BK105⟩,⟨bk BK106⟩,⟨bl HB⟩⟩
  ·(first | rw [c5b0] | (simp only [i64_w,i32_w];rw [c5b0]) | skip)
   by_cases c8:a0_0=0
   ·rw [if_pos c8] at H
    have c8b0:(a0_0 == 0)=true:=beq_iff_eq.mpr c8
    have c8b1:(a0_0 != 0)=false:=bne_eq_false_iff_eq.mpr c8
    clear c8;have H':=am H;clear H;have hnb9:=NB105_106.out;have hnc9:=NB106_105.out;obtain ⟨hcz10_0,hcz10_1,hfz10_0,hfz10_1⟩:=s2 BK105;go_wp2
    go_meet
    case rel=>exact ⟨_,((a0_1 == (-9223372036854775808))),rs,H',⟨by first | omega | exact Nat.le_refl _⟩,⟨bk BK105⟩,⟨bk BK106⟩,⟨bl HB⟩⟩
   ·rw [if_neg c8] at H
    have c8b0:(a0_0 == 0)=false:=beq_eq_false_iff_ne.mpr c8
    have c8b1:(a0_0 != 0)=true:=bne_iff_ne.mpr c8
    have H':=am H;clear H;have hnb11:=NB105_106.out;have hnc11:=NB106_105.out;obtain ⟨hcz12_0,hcz12_1,hfz12_0,hfz12_1⟩:=s2 BK105;go_wp2
    go_meet
    case rel=>exact ⟨_,(false),rs,H',⟨by first | omega | exact Nat.le_refl _⟩,⟨bk BK105⟩,⟨bk BK106⟩,⟨bl HB⟩⟩
 case rest =>
  clear HC2
  try clear c1
  try clear p2
  try clear c5
  try clear c5b0
  try clear c6
  try clear c8
  try clear c8b0
  try clear c8b1
  try clear c9
  try clear c11
  try clear hcz10_0
  try clear hcz10_1
  try clear hcz12_0
  try clear hcz12_1
  try clear hcz7_0
  try clear hcz7_1
  try clear hfz10_0
  try clear hfz10_1
  try clear hfz12_0
  try clear hfz12_1
  try clear hfz7_0
  try clear hfz7_1
  obtain ⟨kq,x3_1,rfl,HA,HJ1,BK105,BK106,HB⟩:=hcut
  cases kq with
  | zero=>exact absurd HA.out (by simp [cut_Canon.j0])
  | succ kj1 =>
   have H:=HA.out;clear HA
   simp only [cut_Canon.j0] at H
   cases x3_1;rotate_left
   ·replace H:=itt H;revert H;refine bnd2 fun t107 t108 A14 H=>?_;dsimp only at H
    simp only [Option.some.injEq,Prod.mk.injEq] at H
    obtain ⟨rfl,rfl⟩:=H
    go_wp2_with (first | ((with_reducible refine gate_callee (f:=135) rfl ?_);refine gol (some 17) Tryz.func135 #[] ?_;(with_reducible refine (cut_First.calls  t107 t108 _ A14.out).mono ?_);rintro e w15 ⟨rfl,hb⟩;refine ⟨_,rfl,?_⟩;replace BK105:=bkb BK105 hb;replace BK106:=bkb BK106 hb;replace HB:=bst HB hb;clear hb;have hnb16:=NB106_105.out;have hnc16:=NB105_106.out;obtain ⟨_,_,_,_⟩:=s2 BK106))
    refine bodyPost_ret (results_cell_row rfl _ _ gb106 33 #[.int .i64 t107,.int .i64 t108] (0,0) _ rfl (bkp BK106) Tryz.underlying33 rfl (by kernel_rfl)) rfl ?_
    exact endB HB
   ·replace H:=itf H;revert H;refine itc (fun (c18b0:decide (0 < a0_0)=true) H=>?_) fun (c18b0:decide (0 < a0_0)=false) H=>?_
    ·revert H;refine bnd2 fun t109 t110 A19 H=>?_;dsimp only at H
     simp only [Option.some.injEq,Prod.mk.injEq] at H
     obtain ⟨rfl,rfl⟩:=H
     have hnb20:=NB105_106.out;have hnc20:=NB106_105.out;obtain ⟨_,_,_,_⟩:=s2 BK105
     go_wp2_with (first | ((with_reducible refine gate_callee (f:=134) rfl ?_);refine gol (some 22) Tryz.func134 #[] ?_;(with_reducible refine (cut_Last.calls  t109 t110 _ A19.out).mono ?_);rintro e w22 ⟨rfl,hb⟩;refine ⟨_,rfl,?_⟩;replace BK105:=bkb BK105 hb;replace BK106:=bkb BK106 hb;replace HB:=bst HB hb;clear hb;obtain ⟨_,_,_,_⟩:=s2 BK106))
     refine bodyPost_ret (results_cell_row rfl _ _ gb106 33 #[.int .i64 t109,.int .i64 t110] (0,0) _ rfl (bkp BK106) Tryz.underlying33 rfl (by kernel_rfl)) rfl ?_
     exact endB HB
    ·simp only [Option.some.injEq,Prod.mk.injEq] at H
     obtain ⟨rfl,rfl⟩:=H
     have hnb24:=NB105_106.out;have hnc24:=NB106_105.out;obtain ⟨_,_,_,_⟩:=s2 BK105;obtain ⟨_,_,_,_⟩:=s2 BK106;go_wp2
     refine bodyPost_ret (results_cell_row rfl _ _ gb106 33 #[.int .i64 a0_0,.int .i64 a0_1] (0,0) _ rfl (bkp BK106) Tryz.underlying33 rfl (by kernel_rfl)) rfl ?_
     exact endB HB
theorem cut_Compare.calls (k:Nat) (a0_0:Int) (a0_1:Int) (a1_0:Int) (a1_1:Int) (r:Int) (w:World) (h:cut_Compare.f k a0_0 a0_1 a1_0 a1_1=some r) :
 Calls Tryz.prog 109 #[.agg #[.int .i64 a0_0,.int .i64 a0_1],.agg #[.int .i64 a1_0,.int .i64 a1_1]] w fun e w'=>e=.returned (.int .i64 r)∧Below w.heap.size w w':=by
 have hu33:=Tryz.underlying33
 have HB:=am (Below.refl w.heap.size w)
 unfold cut_Compare.f at h;have H:=h;clear h;revert H;refine bnd2 fun t117 t118 A3 H=>?_;dsimp only at H
 revert H;refine bnd2 fun t119 t120 A4 H=>?_;dsimp only at H
 revert H;refine bnd fun t121 A5 H=>?_
 revert H;refine bnd fun t122 A6 H=>?_
 generalize hy123:([t121,t122]:List Int)=y123 at H;have Ny123:=am hy123.symm;clear hy123;revert H;refine bnd fun t126 A7 H=>?_
 obtain rfl:=Option.some.inj H;go_enter Tryz.func109,Tryz.ntmps109
 try go_wp2_with (first | ((with_reducible refine gate_dst (N:=2) rfl ?_);refine bxe (N:=2) (cs:=#[.int .i64 a0_0,.int .i64 a0_1]) (t:=33) ?_;intro gb115 hg w8 hbox hb;have BK115:=am hbox;have GW115:=lsz hg HB;replace HB:=bst HB hb;clear hb hbox hg) | ((with_reducible refine gate_dst (N:=3) rfl ?_);refine bxe (N:=3) (cs:=#[.int .i64 a1_0,.int .i64 a1_1]) (t:=33) ?_;intro gb116 hg w9 hbox hb;have BK116:=am hbox;have GW116:=lsz hg HB;replace HB:=bst HB hb;have NB115_116:=nlt hg BK115;have NB116_115:=ngt hg BK115;replace BK115:=bkb BK115 hb;clear hb hbox hg))
 replace BK115:=am (blk_drew BK115.out);replace BK116:=am (blk_drew BK116.out);replace HB:=am (below_drew1 HB.out)
 refine st F6 [4,5] (g2 BK115 (h2 BK116)) fun hHeld=>?_
 generalize w9.drew=w10 at BK115 BK116 HB hHeld ⊢
 refine tk4 0 (some 5) #[true,false,false,false,false,false] (by kernel_rfl) hHeld ?_
 refine tk4 2 (some 7) #[true,false,true,false,false,false] (by kernel_rfl) hHeld ?_
 refine one_ (i:=1) (N:=some 6) #[true,true,true,false,false,false] rfl rfl (by kernel_rfl) (by decide) (fun K hK=>?_);refine gs Tryz.func130 #[.agg #[.int .i64 a0_0,.int .i64 a0_1]] ?_
 with_reducible refine (cut_Canon.calls k a0_0 a0_1 t117 t118 _ A3.out).mono ?_
 rintro e w11 ⟨rfl,hb⟩;refine ⟨_,rfl,?_⟩;replace BK115:=bkb BK115 hb;replace BK116:=bkb BK116 hb;replace HB:=bst HB hb
 (try clear hb)
 (try clear hb2)
 (try clear hk)
 (try clear hi)
 refine hK.out _ _ (c2 BK115 (e2 BK116)) (fun hHeld=>?_);clear hK K;refine nrp 6 ?_;refine one_ (i:=3) (N:=some 8) #[true,true,true,true,false,false] rfl rfl (by kernel_rfl) (by decide) (fun K hK=>?_);refine gs Tryz.func130 #[.agg #[.int .i64 a1_0,.int .i64 a1_1]] ?_
 with_reducible refine (cut_Canon.calls k a1_0 a1_1 t119 t120 _ A4.out).mono ?_
 rintro e w12 ⟨rfl,hb⟩;refine ⟨_,rfl,?_⟩;replace BK115:=bkb BK115 hb;replace BK116:=bkb BK116 hb;replace HB:=bst HB hb
 (try clear hb)
 (try clear hb2)
 (try clear hk)
 (try clear hi)
 refine hK.out _ _ (c2 BK115 (e2 BK116)) (fun hHeld=>?_);clear hK K;refine nrp 8 ?_
 refine last_ (i:=4) (N:=none) #[true,true,true,true,true,false] rfl rfl (by kernel_rfl) (by decide) (fun K hK=>?_)
 have hs13:w12.cell? ⟨gb115,0,none⟩=some (.int .i64 a0_0):=(blk_cell BK115.out 0).trans rfl
 have hfs13:=blk_frozen BK115.out 0
 have hns13_1:=NB116_115.out;have hms13_1:=NB115_116.out
 have hs14:w12.cell? ⟨gb115,1,none⟩=some (.int .i64 a0_1):=(blk_cell BK115.out 1).trans rfl
 have hfs14:=blk_frozen BK115.out 1
 have hns14_1:=NB116_115.out;have hms14_1:=NB115_116.out
 refine skip_ (w1:=?_) (by rfl) rfl ?_ ?_
 rotate_left
 ·go_simp
  rfl
 refine hK.out _ _ ?_;clear hK K
 refine last_ (i:=5) (N:=none) #[true,true,true,true,true,true] rfl rfl (by kernel_rfl) (by decide) (fun K hK=>?_)
 have hs15:w12.cell? ⟨gb116,0,none⟩=some (.int .i64 a1_0):=(blk_cell BK116.out 0).trans rfl
 have hfs15:=blk_frozen BK116.out 0
 have hns15_0:=NB115_116.out;have hms15_0:=NB116_115.out
 have hs16:w12.cell? ⟨gb116,1,none⟩=some (.int .i64 a1_1):=(blk_cell BK116.out 1).trans rfl
 have hfs16:=blk_frozen BK116.out 1
 have hns16_0:=NB115_116.out;have hms16_0:=NB116_115.out
 refine skip_ (w1:=?_) (by rfl) rfl ?_ ?_
 rotate_left
 ·go_simp
  rfl
 refine hK.out _ _ ?_;clear hK K
 refine dq ?_
 try go_wp2
 have n0_:Aside0 (((((w12.setCell ⟨gb115,0,none⟩ (.int .i64 t117)).setCell ⟨gb115,1,none⟩ (.int .i64 t118)).setCell ⟨gb116,0,none⟩ (.int .i64 t119)).setCell ⟨gb116,1,none⟩ (.int .i64 t120)).heap[gb115]? = some (.cells #[.int .i64 t117,.int .i64 t118] 33 (0,0))):=⟨by (with_reducible repeat (first | refine blk_drewN ?_ _ | refine blk_drew ?_ | refine blk_alloc ?_ _));refine blk_far ?_ NB115_116.out _;(with_reducible repeat (first | refine blk_drewN ?_ _ | refine blk_drew ?_ | refine blk_alloc ?_ _));refine blk_far ?_ NB115_116.out _;(with_reducible repeat (first | refine blk_drewN ?_ _ | refine blk_drew ?_ | refine blk_alloc ?_ _));refine blk_put (cs:=#[.int .i64 t117,.int .i64 a0_1]) ?_ 1 _ rfl;(with_reducible repeat (first | refine blk_drewN ?_ _ | refine blk_drew ?_ | refine blk_alloc ?_ _));refine blk_put (cs:=#[.int .i64 a0_0,.int .i64 a0_1]) ?_ 0 _ rfl;(with_reducible repeat (first | refine blk_drewN ?_ _ | refine blk_drew ?_ | refine blk_alloc ?_ _));exact BK115.out⟩
 have n1_:Aside0 (((((w12.setCell ⟨gb115,0,none⟩ (.int .i64 t117)).setCell ⟨gb115,1,none⟩ (.int .i64 t118)).setCell ⟨gb116,0,none⟩ (.int .i64 t119)).setCell ⟨gb116,1,none⟩ (.int .i64 t120)).heap[gb116]? = some (.cells #[.int .i64 t119,.int .i64 t120] 33 (0,0))):=⟨by (with_reducible repeat (first | refine blk_drewN ?_ _ | refine blk_drew ?_ | refine blk_alloc ?_ _));refine blk_put (cs:=#[.int .i64 t119,.int .i64 a1_1]) ?_ 1 _ rfl;(with_reducible repeat (first | refine blk_drewN ?_ _ | refine blk_drew ?_ | refine blk_alloc ?_ _));refine blk_put (cs:=#[.int .i64 a1_0,.int .i64 a1_1]) ?_ 0 _ rfl;(with_reducible repeat (first | refine blk_drewN ?_ _ | refine blk_drew ?_ | refine blk_alloc ?_ _));refine blk_far ?_ NB116_115.out _;(with_reducible repeat (first | refine blk_drewN ?_ _ | refine blk_drew ?_ | refine blk_alloc ?_ _));refine blk_far ?_ NB116_115.out _;(with_reducible repeat (first | refine blk_drewN ?_ _ | refine blk_drew ?_ | refine blk_alloc ?_ _));exact BK116.out⟩
 have n2_:Aside0 (Below w.heap.size w ((((w12.setCell ⟨gb115,0,none⟩ (.int .i64 t117)).setCell ⟨gb115,1,none⟩ (.int .i64 t118)).setCell ⟨gb116,0,none⟩ (.int .i64 t119)).setCell ⟨gb116,1,none⟩ (.int .i64 t120))):=⟨bl HB⟩
 (try clear BK115)
 (try clear BK116)
 (try clear HB)
 generalize ((((w12.setCell ⟨gb115,0,none⟩ (.int .i64 t117)).setCell ⟨gb115,1,none⟩ (.int .i64 t118)).setCell ⟨gb116,0,none⟩ (.int .i64 t119)).setCell ⟨gb116,1,none⟩ (.int .i64 t120))=w17 at n0_ n1_ n2_ ⊢
 have BK115:=n0_
 have BK116:=n1_
 have HB:=n2_
 clear n0_ n1_ n2_;replace BK115:=am (blk_drew BK115.out);replace BK116:=am (blk_drew BK116.out);replace HB:=am (below_drew1 HB.out)
 refine st F13 [] (g2 BK115 (h2 BK116)) fun hHeld=>?_;refine with_tabW cut_Compare.tab2 cut_Compare.bits2 (fun HT_ HW_=>?_)
 generalize w17.drew=w18 at BK115 BK116 HB hHeld ⊢;refine pw 0 9 HT_ ?_;refine pw 2 11 HT_ ?_;refine pw 5 14 HT_ ?_;refine pw 7 16 HT_ ?_;refine tw4 1 10 HT_ HW_ hHeld ?_;refine tw4 3 12 HT_ HW_ hHeld ?_;refine tw4 6 15 HT_ HW_ hHeld ?_;refine tw4 8 17 HT_ HW_ hHeld ?_
 refine on 4 HT_ fun K hK=>?_
 refine gs Tryz.func131 #[.int .i64 t117,.int .i64 t119] ?_
 with_reducible refine (cmp_Compare_int.calls t117 t119 t121 _ A5.out).mono ?_
 rintro e w' ⟨rfl,⟨nd,rfl⟩⟩;refine ⟨_,rfl,?_⟩;refine hK.out _ _ (c2 BK115 (e2 BK116)) (fun hHeld=>?_);clear hK K;refine nrp 13 ?_
 refine on 9 HT_ fun K hK=>?_
 refine gs Tryz.func132 #[.int .i64 t118,.int .i64 t120] ?_
 with_reducible refine (cmp_Compare_int64.calls t118 t120 t122 _ A6.out).mono ?_
 rintro e w' ⟨rfl,⟨nd,rfl⟩⟩;refine ⟨_,rfl,?_⟩;refine hK.out _ _ (c2 BK115 (e2 BK116)) (fun hHeld=>?_);clear hK K;refine nrp 18 ?_
 refine on 10 HT_ fun K hK=>?_
 refine Kd.R_lit_step (Kd.int .i64) _ 3 ?hg (N:=19) ?hd (xs:=([t121,t122]:List Int)) (inner:=[.int .i64 t121,.int .i64 t122]) (ok:=fun _=>True) (okp:=fun _=>True) ?hr ?hp (fun _ hk=>hk) trivial (Below.refl _ _) (Nat.le_refl _) (by simp) ?_;(case hd=>rfl);(case hg=>rfl);(case hr=>first | (go_simp;done) | (go_simp;rfl));(case hp=>exact (Reps.one (show Kd.M (Kd.int .i64) _ _ _ t121 [.int .i64 t121] from rfl) (Reps.one (show Kd.M (Kd.int .i64) _ _ _ t122 [.int .i64 t122] from rfl) (Reps.none _ _))))
 intro v124 w19 ho20 hb hg_ hnew_
 clear hg_ hnew_
 (first | rw [← Ny123.out] at ho20 | (simp only [Int.reduceToNat] at ho20;rw [← Ny123.out] at ho20))
 have HO125:=am (Kd.R_lower ho20 (below_size (bl HB)))
 replace BK115:=bkb BK115 hb;replace BK116:=bkb BK116 hb;replace HB:=bst HB hb;clear hb ho20
 obtain ⟨Ao21,co21,eo21⟩:=Kd.R_slice HO125.out
 (first | subst eo21 | (injection eo21 with f1_ f2_ f3_;have f4_:=f1_.symm;have f5_:=f3_.symm;clear f1_ f2_ f3_;subst f4_;subst f5_))
 refine hK.out _ _ (c2 BK115 (e2 BK116)) (fun hHeld=>?_);clear hK K;refine nrp 19 ?_
 refine on 11 HT_ fun K hK=>?_
 refine gs Tryz.func123 #[.slice Ao21 y123.length co21] ?_
 with_reducible refine (cmp_Or_int.calls k _ _ y123 t126 _ ?side1 ?side2 A7.out).mono ?_
 (case side1=>repeat (first | exact (Kd.R_reads' HO125.out).2.2 | (with_reducible refine Kd.C_alloc ?_ _) | (with_reducible refine Kd.C_drewN ?_ _) | (with_reducible refine Kd.C_drew ?_)))
 (case side2=>exact (Kd.R_reads' HO125.out).2.1)
 rintro e w' ⟨rfl,⟨nd,rfl⟩⟩;refine ⟨_,rfl,?_⟩;refine hK.out _ _ (c2 BK115 (e2 BK116)) (fun hHeld=>?_);clear hK K;refine nrp 20 ?_;refine pw 12 4 HT_ ?_
 refine dt HT_ ?_
 try go_wp2
 go_ret;exact endB HB
theorem span_Compare.calls (k:Nat) (a0_0:Int) (a0_1:Int) (a0_2:Int) (a0_3:Int) (a1_0:Int) (a1_1:Int) (a1_2:Int) (a1_3:Int) (r:Int) (w:World) (h:span_Compare.f k a0_0 a0_1 a0_2 a0_3 a1_0 a1_1 a1_2 a1_3=some r) :
 Calls Tryz.prog 101 #[.agg #[.int .i64 a0_0,.int .i64 a0_1,.int .i64 a0_2,.int .i64 a0_3],.agg #[.int .i64 a1_0,.int .i64 a1_1,.int .i64 a1_2,.int .i64 a1_3]] w fun e w'=>e=.returned (.int .i64 r)∧Below w.heap.size w w':=by
 have hu35:=Tryz.underlying35;have hu33:=Tryz.underlying33
 have HB:=am (Below.refl w.heap.size w)
 unfold span_Compare.f at h;have H:=h;clear h;revert H;refine bnd fun t172 A3 H=>?_
 revert H;refine bnd fun t173 A4 H=>?_
 generalize hy174:([t172,t173]:List Int)=y174 at H;have Ny174:=am hy174.symm;clear hy174;revert H;refine bnd fun t177 A5 H=>?_
 obtain rfl:=Option.some.inj H;go_enter Tryz.func101,Tryz.ntmps101
 try go_wp2_with (first | ((with_reducible refine gate_dst (N:=2) rfl ?_);refine bxe (N:=2) (cs:=#[.int .i64 a0_0,.int .i64 a0_1,.int .i64 a0_2,.int .i64 a0_3]) (t:=35) ?_;intro gb170 hg w6 hbox hb;have BK170:=am hbox;have GW170:=lsz hg HB;replace HB:=bst HB hb;clear hb hbox hg) | ((with_reducible refine gate_dst (N:=3) rfl ?_);refine bxe (N:=3) (cs:=#[.int .i64 a1_0,.int .i64 a1_1,.int .i64 a1_2,.int .i64 a1_3]) (t:=35) ?_;intro gb171 hg w7 hbox hb;have BK171:=am hbox;have GW171:=lsz hg HB;replace HB:=bst HB hb;have NB170_171:=nlt hg BK170;have NB171_170:=ngt hg BK170;replace BK170:=bkb BK170 hb;clear hb hbox hg))
 replace BK170:=am (blk_drew BK170.out);replace BK171:=am (blk_drew BK171.out);replace HB:=am (below_drew1 HB.out)
 refine st F13 [] (g4 BK170 (h4 BK171)) fun hHeld=>?_;refine with_tabW span_Compare.tab1 span_Compare.bits1 (fun HT_ HW_=>?_)
 generalize w7.drew=w8 at BK170 BK171 HB hHeld ⊢;refine pw 0 5 HT_ ?_;refine pw 2 7 HT_ ?_;refine pw 5 10 HT_ ?_;refine pw 7 12 HT_ ?_;refine tw8 1 6 HT_ HW_ hHeld ?_;refine tw8 3 8 HT_ HW_ hHeld ?_;refine tw8 6 11 HT_ HW_ hHeld ?_;refine tw8 8 13 HT_ HW_ hHeld ?_
 refine on 4 HT_ fun K hK=>?_
 refine gs Tryz.func109 #[.agg #[.int .i64 a0_0,.int .i64 a0_1],.agg #[.int .i64 a1_0,.int .i64 a1_1]] ?_
 with_reducible refine (cut_Compare.calls k a0_0 a0_1 a1_0 a1_1 t172 _ A3.out).mono ?_
 rintro e w9 ⟨rfl,hb⟩;refine ⟨_,rfl,?_⟩;replace BK170:=bkb BK170 hb;replace BK171:=bkb BK171 hb;replace HB:=bst HB hb
 (try clear hb)
 (try clear hb2)
 (try clear hk)
 (try clear hi)
 refine hK.out _ _ (c4 BK170 (e4 BK171)) (fun hHeld=>?_);clear hK K;refine nrp 9 ?_
 refine on 9 HT_ fun K hK=>?_
 refine gs Tryz.func109 #[.agg #[.int .i64 a0_2,.int .i64 a0_3],.agg #[.int .i64 a1_2,.int .i64 a1_3]] ?_
 with_reducible refine (cut_Compare.calls k a0_2 a0_3 a1_2 a1_3 t173 _ A4.out).mono ?_
 rintro e w10 ⟨rfl,hb⟩;refine ⟨_,rfl,?_⟩;replace BK170:=bkb BK170 hb;replace BK171:=bkb BK171 hb;replace HB:=bst HB hb
 (try clear hb)
 (try clear hb2)
 (try clear hk)
 (try clear hi)
 refine hK.out _ _ (c4 BK170 (e4 BK171)) (fun hHeld=>?_);clear hK K;refine nrp 14 ?_
 refine on 10 HT_ fun K hK=>?_
 refine Kd.R_lit_step (Kd.int .i64) _ 3 ?hg (N:=15) ?hd (xs:=([t172,t173]:List Int)) (inner:=[.int .i64 t172,.int .i64 t173]) (ok:=fun _=>True) (okp:=fun _=>True) ?hr ?hp (fun _ hk=>hk) trivial (Below.refl _ _) (Nat.le_refl _) (by simp) ?_;(case hd=>rfl);(case hg=>rfl);(case hr=>first | (go_simp;done) | (go_simp;rfl));(case hp=>exact (Reps.one (show Kd.M (Kd.int .i64) _ _ _ t172 [.int .i64 t172] from rfl) (Reps.one (show Kd.M (Kd.int .i64) _ _ _ t173 [.int .i64 t173] from rfl) (Reps.none _ _))))
 intro v175 w11 ho12 hb hg_ hnew_
 clear hg_ hnew_
 (first | rw [← Ny174.out] at ho12 | (simp only [Int.reduceToNat] at ho12;rw [← Ny174.out] at ho12))
 have HO176:=am (Kd.R_lower ho12 (below_size (bl HB)))
 replace BK170:=bkb BK170 hb;replace BK171:=bkb BK171 hb;replace HB:=bst HB hb;clear hb ho12
 obtain ⟨Ao13,co13,eo13⟩:=Kd.R_slice HO176.out
 (first | subst eo13 | (injection eo13 with f1_ f2_ f3_;have f4_:=f1_.symm;have f5_:=f3_.symm;clear f1_ f2_ f3_;subst f4_;subst f5_))
 refine hK.out _ _ (c4 BK170 (e4 BK171)) (fun hHeld=>?_);clear hK K;refine nrp 15 ?_
 refine on 11 HT_ fun K hK=>?_
 refine gs Tryz.func123 #[.slice Ao13 y174.length co13] ?_
 with_reducible refine (cmp_Or_int.calls k _ _ y174 t177 _ ?side1 ?side2 A5.out).mono ?_
 (case side1=>repeat (first | exact (Kd.R_reads' HO176.out).2.2 | (with_reducible refine Kd.C_alloc ?_ _) | (with_reducible refine Kd.C_drewN ?_ _) | (with_reducible refine Kd.C_drew ?_)))
 (case side2=>exact (Kd.R_reads' HO176.out).2.1)
 rintro e w' ⟨rfl,⟨nd,rfl⟩⟩;refine ⟨_,rfl,?_⟩;refine hK.out _ _ (c4 BK170 (e4 BK171)) (fun hHeld=>?_);clear hK K;refine nrp 16 ?_;refine pw 12 4 HT_ ?_
 refine dt HT_ ?_
 try go_wp2
 go_ret;exact endB HB
end Go.Proofs.YtbcpnejdbookkaaGreat.PrintG
namespace Go.Proofs.YtbcpnejdbookkaaGreat.Print
open Go.RowKit Go.Proofs.YtbcpnejdbookkaaGreatW.PrintWords Go.Proofs.YtbcpnejdbookkaaGreatW.PrintLast
def I64 (x:Int):Prop:=-9223372036854775808≤x∧x≤9223372036854775807
def clamp (x:Int):Int:=if x < -9223372036854775808 then -9223372036854775808 else if x > 9223372036854775807 then 9223372036854775807 else x
theorem I64.of_wf {x:Int} (h:(Lit.int .i64 x).wf=true):I64 x:=by
 simpa [Lit.wf,IntKind.min,IntKind.max,IntKind.bits,IntKind.signed,I64] using h
theorem clamp_I64 (x:Int):I64 (clamp x):=by unfold clamp I64;split <;> (try split) <;> omega
theorem clamp_of {x:Int} (h:I64 x):clamp x=x:=by unfold clamp;unfold I64 at h;rw [if_neg (by omega),if_neg (by omega)]
theorem wrap64_of {x:Int} (h:I64 x):wrap64 x=x:=by unfold I64 at h;unfold wrap64;omega
abbrev Ct:=S33
def canon (s a:Int):Int×Int:=if s < 0∨(s=0∧a=-9223372036854775808) then (-1,0) else if s > 0 then (1,0) else (s,a)
theorem cut_Canon.eq (s a:Int) (k:Nat) (hk:1≤k):cut_Canon.f k s a=some (canon s a):=by
 obtain ⟨k,rfl⟩:∃ j,k=j+1:=⟨k - 1,by omega⟩
 unfold cut_Canon.f canon
 by_cases h1:s < 0
 ·rw [if_pos h1,if_pos (.inl h1)];rfl
 ·rw [if_neg h1]
  by_cases h2:s=0
  ·subst h2
   rw [if_pos rfl]
   by_cases h3:a=-9223372036854775808
   ·subst h3;rfl
   ·rw [show (a == -9223372036854775808)=false from beq_eq_false_iff_ne.2 h3,if_neg (c:=(0:Int) < 0∨_) (by omega)];rfl
  ·rw [if_neg h2,if_neg (c:=s < 0∨_) (by omega),if_pos (c:=s > 0) (by omega),cut_Canon.j0,if_neg Bool.false_ne_true,if_pos (c:=s > 0) (by omega)];rfl
def CC (p:Int×Int):Prop:=p=(-1,0)∨p=(1,0)∨∃ a,p=(0,a)∧-9223372036854775808 < a∧a≤9223372036854775807
theorem canon_CC {s a:Int} (ha:I64 a):CC (canon s a):=by
 unfold canon CC
 unfold I64 at ha
 by_cases h1:s < 0∨(s=0∧a=-9223372036854775808)
 ·rw [if_pos h1];exact .inl rfl
 ·rw [if_neg h1]
  by_cases h2:s > 0
  ·rw [if_pos h2];exact .inr (.inl rfl)
  ·rw [if_neg h2];exact .inr (.inr ⟨a,by rw [show s=0 by omega],by omega,by omega⟩)
theorem canon_zero {a:Int} (h:-9223372036854775808 < a):canon 0 a=(0,a):=by
 unfold canon;rw [if_neg (by omega),if_neg (by omega)]
theorem CC.canon {p:Int×Int} (h:CC p):canon p.1 p.2=p:=by
 rcases h with rfl | rfl | ⟨a,rfl,h1,h2⟩
 ·rfl
 ·rfl
 ·exact canon_zero h1
def cmp2 (p q:Int×Int):Int:=if p.1 < q.1 then -1 else if p.1 > q.1 then 1 else if p.2 < q.2 then -1 else if p.2 > q.2 then 1 else 0
theorem cmp_Compare_int.eq (a b:Int):cmp_Compare_int.f a b=some (if a < b then -1 else if a > b then 1 else 0):=by
 unfold cmp_Compare_int.f cmp_isNaN_int.f
 simp only [bne_self_eq_false,Option.bind_some,Bool.false_eq_true,if_false]
 repeat' split
 all_goals rfl
theorem cmp_Compare_int64.eq (a b:Int):cmp_Compare_int64.f a b=some (if a < b then -1 else if a > b then 1 else 0):=by
 unfold cmp_Compare_int64.f cmp_isNaN_int64.f
 simp only [bne_self_eq_false,Option.bind_some,Bool.false_eq_true,if_false]
 repeat' split
 all_goals rfl
theorem cmp_Or_int.eq (x y:Int) (k:Nat) (hk:3≤k):cmp_Or_int.f k [x,y]=some (if x=0 then y else x):=by
 obtain ⟨k,rfl⟩:∃ j,k=j+3:=⟨k - 3,by omega⟩
 unfold cmp_Or_int.f
 by_cases h:x=0
 ·subst h
  by_cases h2:y=0
  ·subst h2;simp [cmp_Or_int.l0,rd,wrap64]
  ·simp [cmp_Or_int.l0,rd,wrap64,h2]
 ·simp [cmp_Or_int.l0,rd,wrap64,h]
theorem cut_Compare.eq (s a t b:Int) (k:Nat) (hk:3≤k):cut_Compare.f k s a t b=some (cmp2 (canon s a) (canon t b)):=by
 unfold cut_Compare.f cmp2
 rw [cut_Canon.eq _ _ k (by omega),Option.bind_some,cut_Canon.eq _ _ k (by omega),Option.bind_some,cmp_Compare_int.eq,Option.bind_some,cmp_Compare_int64.eq,Option.bind_some,cmp_Or_int.eq _ _ k hk,Option.bind_some]
 congr 1
 by_cases h1:(canon s a).1 < (canon t b).1
 ·rw [if_pos h1,if_pos h1];rfl
 ·rw [if_neg h1,if_neg h1]
  by_cases h2:(canon s a).1 > (canon t b).1
  ·rw [if_pos h2,if_pos h2];rfl
  ·rw [if_neg h2,if_neg h2];rfl
theorem cmp2_cases (p q:Int×Int):(cmp2 p q=-1∧(p.1 < q.1∨(p.1=q.1∧p.2 < q.2)))∨(cmp2 p q=1∧(q.1 < p.1∨(p.1=q.1∧q.2 < p.2)))∨(cmp2 p q=0∧p=q):=by
  unfold cmp2
  by_cases h1:p.1 < q.1
  · rw [if_pos h1];exact .inl ⟨rfl,.inl h1⟩
  · rw [if_neg h1]
    by_cases h2:p.1 > q.1
    · rw [if_pos h2];exact .inr (.inl ⟨rfl,.inl h2⟩)
    · rw [if_neg h2]
      by_cases h3:p.2 < q.2
      · rw [if_pos h3];exact .inl ⟨rfl,.inr ⟨by omega,h3⟩⟩
      · rw [if_neg h3]
        by_cases h4:p.2 > q.2
        · rw [if_pos h4];exact .inr (.inl ⟨rfl,.inr ⟨by omega,h4⟩⟩)
        · rw [if_neg h4];exact .inr (.inr ⟨rfl,Prod.ext (by omega) (by omega)⟩)
theorem cmp2_swap (p q:Int×Int):cmp2 p q=-cmp2 q p:=by
 rcases cmp2_cases p q with ⟨h,g⟩ | ⟨h,g⟩ | ⟨h,rfl⟩
 ·rcases cmp2_cases q p with ⟨h',g'⟩ | ⟨h',g'⟩ | ⟨h',e⟩
  ·omega
  ·omega
  ·subst e;omega
 ·rcases cmp2_cases q p with ⟨h',g'⟩ | ⟨h',g'⟩ | ⟨h',e⟩
  ·omega
  ·omega
  ·subst e;omega
 ·rw [h];rfl
def nextOf (p:Int×Int):Int×Bool:=if p.1 > 0 then (0,false) else if p.1 < 0 then (-9223372036854775808,true) else (p.2,true)
def prevOf (p:Int×Int):Int×Bool:=if p.1 < 0 then (0,false) else if p.1 > 0 then (9223372036854775807,true) else (p.2 - 1,true)
end Go.Proofs.YtbcpnejdbookkaaGreat.Print
