-- The texts of this repo that the claim reaches, in one (wip/print/bundle.py): only what is reached; not trusted: Lean checks it.
import Derived.Test.YtbcpnejdbookkaaGreatZSums5
set_option maxHeartbeats 8000000
set_option maxRecDepth 100000
set_option linter.unusedVariables false
set_option linter.unusedSimpArgs false
namespace Go.Proofs.YtbcpnejdbookkaaGreat.Print
open Go.RowKit Go.Proofs.YtbcpnejdbookkaaGreatW.PrintWords Go.Proofs.YtbcpnejdbookkaaGreatW.PrintLast
theorem bestC_ok (out:List Ct):∀(l:List Ct) (st:Option (Int×Int)),(∀c∈l,WC c)→(∀m,st=some m→CC m) →
    match l.foldl (bestC out) st with
    | some m=>CC m∧(st=some m∨∃c∈l,aboveC out c=true∧cn c=m)∧(∀c∈l,aboveC out c=true→pos m≤pos (cn c))∧(∀m',st=some m'→pos m≤pos m')
    | none=>st=none∧∀c∈l,aboveC out c=false
  | [],st,_,hs=>by
    cases st with
    | none=>exact ⟨rfl,fun _ h=>(by cases h)⟩
    | some m=>exact ⟨hs m rfl,.inl rfl,fun _ h=>(by cases h),fun m' h=>(by injection h with h;rw[h];exact Int.le_refl _)⟩
  | c :: l, st,w,hs=>by
    have wc:=w c List.mem_cons_self
    have hs':∀m,bestC out st c=some m→CC m:=by
      intro m hm
      unfold bestC at hm
      by_cases ha:aboveC out c=true
      · rw[if_pos ha] at hm
        cases st with
        | none=>injection hm with hm;rw[←hm];exact wc.cc
        | some m0 =>
          dsimp only at hm
          split at hm
          · injection hm with hm;rw[←hm];exact wc.cc
          · injection hm with hm;rw[←hm];exact hs m0 rfl
      · rw[if_neg ha] at hm;exact hs m hm
    have ih:=bestC_ok out l (bestC out st c) (fun d hd=>w d (List.mem_cons_of_mem _ hd)) hs'
    rw[List.foldl_cons]
    have hb : (aboveC out c=false∧bestC out st c=st)∨(aboveC out c=true∧∃m1,bestC out st c=some m1∧pos m1≤pos (cn c)∧(∀m',st=some m'→pos m1≤pos m')∧(st=some m1∨cn c=m1)):=by
      unfold bestC
      by_cases ha:aboveC out c=true
      · refine .inr ⟨ha,?_⟩
        rw[if_pos ha]
        cases st with
        | none=>exact ⟨cn c,rfl,Int.le_refl _,fun _ h=>(by cases h),.inr rfl⟩
        | some m0 =>
          have hc0:=hs m0 rfl
          dsimp only
          rw[hc0.canon]
          by_cases hlt:cmp2 (cn c) m0 < 0
          · rw[if_pos hlt]
            exact ⟨cn c,rfl,Int.le_refl _,fun m' h=>(by injection h with h;rw[←h];have:=(cmp2_pos wc.cc hc0).1 hlt;omega),.inr rfl⟩
          · rw[if_neg hlt]
            exact ⟨m0,rfl,Int.not_lt.1 (fun g=>hlt ((cmp2_pos wc.cc hc0).2 g)),fun m' h=>(by injection h with h;rw[h];exact Int.le_refl _),.inl rfl⟩
      · exact .inl ⟨by simpa using ha,if_neg ha⟩
    generalize l.foldl (bestC out) (bestC out st c)=R at *
    cases R with
    | none =>
      obtain ⟨i1,i2⟩:=ih
      rcases hb with ⟨b1,b2⟩ | ⟨_,m1,b2,_⟩
      · exact ⟨b2.symm.trans i1,fun d hd=>(List.mem_cons.1 hd).elim (fun e=>e ▸ b1) (i2 d)⟩
      · rw[b2] at i1;cases i1
    | some m =>
      obtain ⟨i1,i2,i3,i4⟩:=ih
      rcases hb with ⟨b1,b2⟩ | ⟨b1,m1,b2,b3,b4,b5⟩
      · rw[b2] at i2 i4
        refine ⟨i1,?_,fun d hd=>?_,i4⟩
        · rcases i2 with h | ⟨d,hd,h⟩
          · exact .inl h
          · exact .inr ⟨d,List.mem_cons_of_mem _ hd,h⟩
        · rcases List.mem_cons.1 hd with rfl | hd
          · intro h;rw[b1] at h;cases h
          · exact i3 d hd
      · have i5:=i4 m1 b2
        refine ⟨i1,?_,fun d hd=>?_,fun m' h=>by have:=b4 m' h;omega⟩
        · rcases i2 with h | ⟨d,hd,h⟩
          · rw[b2] at h;injection h with h;subst h
            rcases b5 with h | h
            · exact .inl h
            · exact .inr ⟨c,List.mem_cons_self,b1,h⟩
          · exact .inr ⟨d,List.mem_cons_of_mem _ hd,h⟩
        · rcases List.mem_cons.1 hd with rfl | hd
          · intro _;omega
          · exact i3 d hd
structure SortedOf (l R:List Ct):Prop where
 cc:∀c∈R,CC (ct c)
 up:R.Pairwise (fun a b=>pos (ct a) < pos (ct b))
 mem:∀p,(∃c∈R,ct c=p) ↔ ∃c∈l,cn c=p
 len:R.length≤l.length
theorem cn_of_cc {c:Ct} (h:CC (ct c)):cn c=ct c:=h.canon
theorem sort_l0 (l:List Ct) (hl:l.length≤1000000) (w:∀c∈l,WC c):∀(n:Nat) (out:List Ct),(l.filter (aboveC out)).length≤n→out.length+(l.filter (aboveC out)).length≤l.length →
    (∀c∈out,CC (ct c))→out.Pairwise (fun a b=>pos (ct a) < pos (ct b))→(∀c∈out,∃d∈l,cn d=ct c)→(∀c∈l,aboveC out c=true∨∃d∈out,ct d=cn c) →
    ∃R,Ev (fun k=>bocageref02_Sort.l0 k l out) R∧SortedOf l R:=by
  intro n
  induction n with
  | zero =>
    intro out hn hlen hcc hup hin hall
    have hb:=bestC_ok out l none w (fun _ h=>by cases h)
    have hnil:∀c∈l,aboveC out c=false:=fun c hc=>by
      by_cases h:aboveC out c=true
      · have:=List.mem_filter.2 ⟨hc,h⟩
        have hz:l.filter (aboveC out)=[]:=List.eq_nil_of_length_eq_zero (by omega)
        rw[hz] at this
        cases this
      · simpa using h
    refine ⟨out,?_,hcc,hup,fun p=>⟨fun ⟨c,hc,e⟩=>?_,fun ⟨c,hc,e⟩=>?_⟩,by omega⟩
    · refine Ev.step (f:=fun k=>bocageref02_Sort.l1 k l out (none:Option (Int×Int)).isSome ((0:Nat):Int) ((none:Option (Int×Int)).getD (0,0)).1 ((none:Option (Int×Int)).getD (0,0)).2) (fun k=>rfl) ?_
      refine sort_l1 l out hl (by omega) out l.length 0 none (by omega) ?_
      rw[List.drop_zero]
      generalize l.foldl (bestC out) none=R at *
      cases R with
      | none=>exact Ev.now out
      | some m =>
        obtain ⟨_,h2,_⟩:=hb
        rcases h2 with h2 | ⟨c,hc,h2,_⟩
        · cases h2
        · rw[hnil c hc] at h2;cases h2
    · obtain ⟨d,hd,h⟩:=hin c hc;exact ⟨d,hd,h.trans e⟩
    · rcases hall c hc with h | ⟨d,hd,h⟩
      · rw[hnil c hc] at h;cases h
      · exact ⟨d,hd,h.trans e⟩
  | succ n ih =>
    intro out hn hlen hcc hup hin hall
    have hb:=bestC_ok out l none w (fun _ h=>by cases h)
    have start:∀r,Ev (finC l out (l.foldl (bestC out) none)) r→Ev (fun k=>bocageref02_Sort.l0 k l out) r:=fun r hr =>
      Ev.step (f:=fun k=>bocageref02_Sort.l1 k l out (none:Option (Int×Int)).isSome ((0:Nat):Int) ((none:Option (Int×Int)).getD (0,0)).1 ((none:Option (Int×Int)).getD (0,0)).2) (fun k=>rfl) (sort_l1 l out hl (by omega) r l.length 0 none (by omega) (by rw[List.drop_zero];exact hr))
    generalize l.foldl (bestC out) none=R at *
    cases R with
    | none =>
      refine ⟨out,start out (Ev.now out),hcc,hup,fun p=>⟨fun ⟨c,hc,e⟩=>?_,fun ⟨c,hc,e⟩=>?_⟩,by omega⟩
      · obtain ⟨d,hd,h⟩:=hin c hc;exact ⟨d,hd,h.trans e⟩
      · rcases hall c hc with h | ⟨d,hd,h⟩
        · rw[hb.2 c hc] at h;cases h
        · exact ⟨d,hd,h.trans e⟩
    | some m =>
      obtain ⟨b1,b2,b3,_⟩:=hb
      obtain ⟨c0,hc0,ha0,e0⟩:∃c∈l,aboveC out c=true∧cn c=m:=b2.resolve_left (by intro h;cases h)
      have habove:∀c∈l,aboveC (out ++ [tc m]) c=decide (pos m < pos (cn c)):=fun c hc=>by
        unfold aboveC
        rw[List.getLast?_concat]
        have e:cn (tc m)=m:=b1.canon
        dsimp only
        rw[e,Bool.eq_iff_iff,decide_eq_true_eq,decide_eq_true_eq,cmp2_pos b1 (w c hc).cc]
      have hlast:∀c∈l,aboveC out c=true→∀d∈out,pos (ct d) < pos (cn c):=fun c hc ha d hd=>by
        rcases List.eq_nil_or_concat out with rfl | ⟨ys,o,rfl⟩
        · cases hd
        · rw[List.concat_eq_append] at *
          unfold aboveC at ha
          rw[List.getLast?_concat,decide_eq_true_eq] at ha
          have co:=hcc o (by simp)
          rw[cn_of_cc co,cmp2_pos co (w c hc).cc] at ha
          rcases List.mem_append.1 hd with hd | hd
          · have:=(List.pairwise_append.1 hup).2.2 d hd o List.mem_cons_self;omega
          · rcases List.mem_singleton.1 hd with rfl;exact ha
      have hsub : (l.filter (aboveC (out ++ [tc m]))).length < (l.filter (aboveC out)).length:=by
        have hsl:∀(L:List Ct),(∀c∈L,c∈l)→(L.filter (aboveC (out ++ [tc m]))).length≤(L.filter (aboveC out)).length∧(c0∈L→(L.filter (aboveC (out ++ [tc m]))).length < (L.filter (aboveC out)).length):=by
          intro L
          induction L with
          | nil=>intro _;exact ⟨Nat.le_refl _,fun h=>by cases h⟩
          | cons c L ihL =>
            intro hL
            have hc:=hL c List.mem_cons_self
            obtain ⟨i1,i2⟩:=ihL (fun d hd=>hL d (List.mem_cons_of_mem _ hd))
            have key:aboveC (out ++ [tc m]) c=true→aboveC out c=true:=fun h=>by
              rw[habove c hc,decide_eq_true_eq] at h
              rcases hall c hc with g | ⟨d,hd,g⟩
              · exact g
              · have:=hlast c0 hc0 ha0 d hd
                rw[e0,g] at this;omega
            have h0:aboveC (out ++ [tc m]) c0=false:=by rw[habove c0 hc0,e0];simp
            rw[List.filter_cons,List.filter_cons]
            by_cases h1:aboveC (out ++ [tc m]) c=true
            · rw[if_pos h1,if_pos (key h1),List.length_cons,List.length_cons]
              refine ⟨by omega,fun hm=>?_⟩
              rcases List.mem_cons.1 hm with rfl | hm
              · rw[h0] at h1;cases h1
              · have:=i2 hm;omega
            · rw[if_neg h1]
              by_cases h2:aboveC out c=true
              · rw[if_pos h2,List.length_cons];exact ⟨by omega,fun _=>by omega⟩
              · rw[if_neg h2]
                refine ⟨i1,fun hm=>?_⟩
                rcases List.mem_cons.1 hm with rfl | hm
                · exact absurd ha0 h2
                · exact i2 hm
        exact(hsl l (fun _ h=>h)).2 hc0
      obtain ⟨R,r1,r2⟩:=ih (out ++ [tc m]) (by omega) (by rw[List.length_append,List.length_singleton];omega)
        (fun c hc=>(List.mem_append.1 hc).elim (hcc c) (fun hc=>by rcases List.mem_singleton.1 hc with rfl;exact b1))
        (List.pairwise_append.2 ⟨hup,List.pairwise_singleton _ _,fun a ha b hb=>by rcases List.mem_singleton.1 hb with rfl;rw[ct_tc,←e0];exact hlast c0 hc0 ha0 a ha⟩)
        (fun c hc=>(List.mem_append.1 hc).elim (hin c) (fun hc=>by rcases List.mem_singleton.1 hc with rfl;exact ⟨c0,hc0,e0⟩))
        (fun c hc=>by
          rw[habove c hc,decide_eq_true_eq]
          rcases hall c hc with h | ⟨d,hd,h⟩
          · have h3:=b3 c hc h
            by_cases he:pos m < pos (cn c)
            · exact .inl he
            · exact .inr ⟨tc m,by simp,by rw[ct_tc];exact pos_inj b1 (w c hc).cc (by omega)⟩
          · exact .inr ⟨d,List.mem_append_left _ hd,h⟩)
      exact ⟨R,start R r1,r2⟩
theorem bocageref02_Sort.ev (l:List Ct) (hl:l.length≤1000000) (w:∀c∈l,WC c):∃R,Ev (fun k=>bocageref02_Sort.f k l) R∧SortedOf l R:=by
 have h:=sort_l0 l hl w l.length [] (List.length_filter_le _ _) (by simpa using List.length_filter_le _ _) (fun _ h=>by cases h) List.Pairwise.nil (fun _ h=>by cases h) (fun _ _=>.inl rfl)
 exact h
theorem any_l0 (l:List Sp) (hl:l.length≤10000000) (w:∀x∈l,WS x) {n:Int} (hn:I64 n):∀(m i:Nat),i+m=l.length→Ev (fun k=>bocageref03_Any.l0 k l n (i:Int)) ((l.drop i).any (fun x=>hasB x n)):=by
  intro m
  induction m with
  | zero =>
    intro i hi
    rw[List.drop_of_length_le (by omega)]
    refine Ev.step (f:=fun _=>some false) (fun k=>?_) (Ev.now _)
    rw[bocageref03_Any.l0,if_neg (by omega)]
  | succ m ih =>
    intro i hi
    have hlt:i < l.length:=by omega
    have hw:wrap64 ((i:Int)+1)=((i+1:Nat):Int):=by unfold wrap64;omega
    rw[List.drop_eq_getElem_cons hlt,List.any_cons]
    refine Ev.step (f:=fun k=>(bocageref03_Has.f k l[i].f0.f0 l[i].f0.f1 l[i].f1.f0 l[i].f1.f1 n).bind fun t=>if t=true then some true else bocageref03_Any.l0 k l n ((i+1:Nat):Int)) (fun k=>?_) ?_
    · rw[bocageref03_Any.l0,if_pos (by omega),if_pos (by omega),rdS hlt,hw]
    · refine Ev.bind (a:=hasB l[i] n) ⟨1,fun k hk=>bocageref03_Has.eq _ (w _ (List.getElem_mem hlt)) hn k hk⟩ ?_
      by_cases h:hasB l[i] n=true
      · simp only[h,if_true,Bool.true_or];exact Ev.now _
      · have h':hasB l[i] n=false:=by simpa using h
        simp only[h',Bool.false_eq_true,if_false,Bool.false_or]
        exact ih (i+1) (by omega)
theorem bocageref03_Any.ev (l:List Sp) (hl:l.length≤10000000) (w:∀x∈l,WS x) {n:Int} (hn:I64 n):Ev (fun k=>bocageref03_Any.f k l n) (anyB l n):=by
 have:=any_l0 l hl w hn l.length 0 (by omega)
 rwa [List.drop_zero] at this
def cutsS (l:List Sp):List Ct:=l.flatMap (fun x=>if RX x=true then [x.f0,x.f1] else [])
theorem cutsS_len (l:List Sp):(cutsS l).length≤2 * l.length:=by
  induction l with
  | nil=>exact Nat.le_refl _
  | cons x l ih =>
    show((if RX x=true then [x.f0,x.f1] else []) ++ cutsS l).length≤_
    rw[List.length_append,List.length_cons]
    have:(if RX x=true then [x.f0,x.f1] else []).length≤2:=by split <;> simp
    omega
theorem cuts_l0 (l:List Sp) (hl:l.length≤100000) (r:List Ct):∀(m i:Nat) (out:List Ct),i+m=l.length→out.length≤2 * i→Ev (fun k=>bocageref02_Sort.f k (out ++ cutsS (l.drop i))) r→Ev (fun k=>bocageref03_Cuts.l0 k l out (i:Int)) r:=by
  intro m
  induction m with
  | zero =>
    intro i out hi ho h
    rw[List.drop_of_length_le (by omega)] at h
    refine Ev.step (f:=fun k=>(bocageref02_Sort.f k out).bind fun t=>some t) (fun k=>?_) (Ev.bind (by simpa [cutsS] using h) (Ev.now _))
    rw[bocageref03_Cuts.l0,if_neg (by omega)]
  | succ m ih =>
    intro i out hi ho h
    have hlt:i < l.length:=by omega
    have hw:wrap64 ((i:Int)+1)=((i+1:Nat):Int):=by unfold wrap64;omega
    rw[List.drop_eq_getElem_cons hlt] at h
    have hc:cutsS (l[i] :: l.drop (i+1))=(if RX l[i]=true then [l[i].f0,l[i].f1] else []) ++ cutsS (l.drop (i+1)):=rfl
    rw[hc] at h
    refine Ev.step (f:=fun k=>(bocageref03_Right.f k l[i].f0.f0 l[i].f0.f1 l[i].f1.f0 l[i].f1.f1).bind fun t=>if t=true then(if out.length+2 < 8796093022208 then bocageref03_Cuts.l0 k l (out ++ [l[i].f0,l[i].f1]) ((i+1:Nat):Int) else none) else bocageref03_Cuts.l0 k l out ((i+1:Nat):Int)) (fun k=>?_) ?_
    · rw[bocageref03_Cuts.l0,if_pos (by omega),if_pos (by omega),rdS hlt,hw];rfl
    · refine Ev.bind (a:=RX l[i]) ⟨1,fun k hk=>bocageref03_Right.eq _ _ _ _ k hk⟩ ?_
      by_cases hx:RX l[i]=true
      · simp only[hx,if_true] at h ⊢
        rw[←List.append_assoc] at h
        have hb:out.length+2 < 8796093022208:=by omega
        simp only[hb,if_true]
        exact ih (i+1) _ (by omega) (by rw[List.length_append];show out.length+2≤_;omega) h
      · have hx':RX l[i]=false:=by simpa using hx
        simp only[hx',Bool.false_eq_true,if_false,List.nil_append] at h ⊢
        exact ih (i+1) _ (by omega) (by omega) h
theorem bocageref03_Cuts.ev (l:List Sp) (hl:l.length≤100000) (w:∀x∈l,WS x):∃R,Ev (fun k=>bocageref03_Cuts.f k l) R∧(∀c∈R,CC (ct c))∧R.Pairwise (fun a b=>pos (ct a) < pos (ct b))∧(∀p,(∃c∈R,ct c=p) ↔ ∃x∈l,RR x∧(lo x=p∨hi x=p))∧R.length≤2 * l.length:=by
 have hmem:∀c,c∈cutsS l ↔ ∃x∈l,RX x=true∧(c=x.f0∨c=x.f1):=fun c=>by
  unfold cutsS
  rw[List.mem_flatMap]
  constructor
  ·rintro ⟨x,hx,h⟩
   by_cases hr:RX x=true
   ·rw[if_pos hr] at h;exact ⟨x,hx,hr,by simpa using h⟩
   ·rw[if_neg hr] at h;cases h
  ·rintro ⟨x,hx,hr,h⟩;exact ⟨x,hx,by rw[if_pos hr];simpa using h⟩
 have hlen:=cutsS_len l
 obtain ⟨R,r1,r2⟩:=bocageref02_Sort.ev (cutsS l) (by omega) (fun c hc=>by
  obtain ⟨x,hx,_,rfl | rfl⟩:=(hmem c).1 hc
  ·exact(w x hx).1
  ·exact(w x hx).2)
 refine ⟨R,cuts_l0 l hl R l.length 0 [] (by omega) (by simp) (by rw[List.drop_zero,List.nil_append];exact r1),r2.cc,r2.up,fun p=>?_,by have:=r2.len;omega⟩
 rw[r2.mem]
 constructor
 ·rintro ⟨c,hc,rfl⟩
  obtain ⟨x,hx,hr,h⟩:=(hmem c).1 hc
  have rr:=(RX_RR (w x hx)).1 hr
  refine ⟨x,hx,rr,?_⟩
  rcases h with rfl | rfl
  ·exact .inl rr.1.canon.symm
  ·exact .inr rr.2.1.canon.symm
 ·rintro ⟨x,hx,rr,h⟩
  have hr:=(RX_RR (w x hx)).2 rr
  rcases h with rfl | rfl
  ·exact ⟨x.f0,(hmem _).2 ⟨x,hx,hr,.inl rfl⟩,rr.1.canon⟩
  ·exact ⟨x.f1,(hmem _).2 ⟨x,hx,hr,.inr rfl⟩,rr.2.1.canon⟩
def addP (out:List Sp) (c d:Ct):List Sp :=
 match out.getLast? with
 | some o=>if hi o=ct c then out.dropLast ++ [sp (lo o) (ct d)] else out ++ [sp (ct c) (ct d)]
 | none=>out ++ [sp (ct c) (ct d)]
def goP (f:Int→Bool) (add:List Sp→Ct→Ct→List Sp):List Sp→List Ct→List Sp
 | out,[]=>out
 | out,[_]=>out
 | out,c :: d :: rest=>goP f add (if f (pos (ct c))=true then add out c d else out) (d :: rest)
theorem Next_pos {c:Ct} (h:CC (ct c)) (hl:pos (ct c) < 9223372036854775808) (k:Nat) (hk:1≤k):∃b,bocageref02_Next.f k c.f0 c.f1=some (pos (ct c),b):=by
 have w:I64 (ct c).2:=by
  unfold I64
  rcases h.pos_cases with ⟨e,_⟩ | ⟨e,_⟩ | ⟨e,h1,h2⟩
  ·rw[e];exact ⟨by decide,by decide⟩
  ·rw[e];exact ⟨by decide,by decide⟩
  ·rw[e];exact ⟨by dsimp only;omega,by dsimp only;omega⟩
 have e0:=bocageref02_Next.eq c.f0 (a:=c.f1) w k hk
 have ec:canon c.f0 c.f1=ct c:=h.canon
 rw[ec] at e0
 rw[e0]
 unfold nextOf
 rcases h.pos_cases with ⟨e,e2⟩ | ⟨e,e2⟩ | ⟨e,h1,h2⟩
 ·rw[e2,e];exact ⟨true,rfl⟩
 ·omega
 ·rw[e];exact ⟨true,rfl⟩
theorem pos_I64 {c:Ct} (h:CC (ct c)) (hl:pos (ct c) < 9223372036854775808):I64 (pos (ct c)):=by
 have:=h.range
 unfold I64;omega
theorem addP_len (out:List Sp) (c d:Ct):(addP out c d).length≤out.length+1:=by
 rcases List.eq_nil_or_concat out with rfl | ⟨ys,o,rfl⟩
 ·exact Nat.le_refl _
 ·rw[List.concat_eq_append]
  unfold addP
  rw[List.getLast?_concat]
  dsimp only
  split <;> simp
def UpC (C:List Ct):Prop:=(∀c∈C,CC (ct c))∧C.Pairwise (fun a b=>pos (ct a) < pos (ct b))
theorem UpC.low {C:List Ct} (h:UpC C) {i:Nat} (hi:i+1 < C.length):pos (ct C[i]) < 9223372036854775808:=by
 have h1:=List.pairwise_iff_getElem.1 h.2 i (i+1) (by omega) hi (by omega)
 have:=(h.1 C[i+1] (List.getElem_mem hi)).range
 omega
theorem list_l0 (l:List Sp) (hl:l.length≤100000) (w:∀x∈l,WS x) (C:List Ct) (hC:UpC C) (hCl:C.length≤1000000):∀(m i:Nat) (out:List Sp),i+m=C.length→out.length≤i →
    Ev (fun k=>bocageref03_List.l0 k l C out (i:Int)) (goP (anyB l) addP out (C.drop i)):=by
  intro m
  induction m with
  | zero =>
    intro i out hin ho
    have hw:wrap64 ((i:Int)+1)=((i+1:Nat):Int):=by unfold wrap64;omega
    rw[List.drop_of_length_le (by omega)]
    refine Ev.step (f:=fun _=>some out) (fun k=>?_) (Ev.now _)
    rw[bocageref03_List.l0,hw,if_neg (by omega)]
  | succ m ih =>
    intro i out hin ho
    have hlt:i < C.length:=by omega
    have hw:wrap64 ((i:Int)+1)=((i+1:Nat):Int):=by unfold wrap64;omega
    by_cases h2:i+1 < C.length
    · have hlow:=hC.low h2
      have hcc:=hC.1 C[i] (List.getElem_mem hlt)
      rw[List.drop_eq_getElem_cons hlt,List.drop_eq_getElem_cons h2]
      show Ev _ (goP (anyB l) addP (if anyB l (pos (ct C[i]))=true then addP out C[i] C[i+1] else out) (C[i+1] :: C.drop (i+1+1)))
      rw[←List.drop_eq_getElem_cons h2]
      obtain ⟨b,hb⟩:=Next_pos hcc hlow 1 (by omega)
      refine Ev.step (f:=fun k=>(bocageref02_Next.f k C[i].f0 C[i].f1).bind fun t=>(bocageref03_Any.f k l t.1).bind fun u=>if u=true then bocageref03_List.l0 k l C (addP out C[i] C[i+1]) ((i+1:Nat):Int) else bocageref03_List.l0 k l C out ((i+1:Nat):Int)) (fun k=>?_) ?_
      · rw[bocageref03_List.l0,hw,if_pos (by omega),if_pos (by omega),if_pos (by omega),rdC hlt,rdC h2]
        congr 1;funext t
        congr 1;funext u
        by_cases hu:u=true
        · rw[if_pos hu,if_pos hu]
          rcases List.eq_nil_or_concat out with rfl | ⟨ys,o,rfl⟩
          · have hm:wrap64 ((([]:List Sp).length:Int) - 1)=-1:=by unfold wrap64;simp
            rw[hm,if_neg (by decide),if_pos (by omega),if_pos (by decide)]
            rfl
          · rw[List.concat_eq_append] at *
            have hlen:((ys ++ [o]).length:Int)=ys.length+1:=by simp
            have hys:ys.length+1≤i:=by simpa using ho
            have hm:wrap64 (((ys ++ [o]).length:Int) - 1)=(ys.length:Int):=by rw[hlen];unfold wrap64;omega
            have hrd2:rd_T35 (ys ++ [o]) (ys.length:Int)=o:=by simp[rd_T35,List.getD]
            have hset:∀v:Sp,(ys ++ [o]).set (ys.length:Int).toNat v=ys ++ [v]:=fun v=>by simp
            have hadd:addP (ys ++ [o]) C[i] C[i+1]=if hi o=ct C[i] then ys ++ [sp (lo o) (ct C[i+1])] else ys ++ [o] ++ [sp (ct C[i]) (ct C[i+1])]:=by
              unfold addP;rw[List.getLast?_concat];simp only[List.dropLast_concat]
            rw[hm,if_pos (by omega),if_pos (by omega),if_pos (by omega),hrd2,hadd]
            by_cases he:hi o=ct C[i]
            · rw[if_pos (by have e1:=congrArg Prod.fst he;have e2:=congrArg Prod.snd he;have e1':o.f1.f0=C[i].f0:=e1;have e2':o.f1.f1=C[i].f1:=e2;rw[e1',e2'];simp),if_pos (by omega),if_pos he,hset]
              rfl
            · rw[if_neg (fun h=>he (by simp at h;exact Prod.ext h.1 h.2)),if_pos (by omega),if_neg he,if_pos (by rw[List.length_append];show ys.length+1 < _;omega)]
              rfl
        · rw[if_neg hu,if_neg hu]
      · refine Ev.bind (a:=(pos (ct C[i]),b)) ⟨1,fun k hk=>?_⟩ ?_
        · obtain ⟨b',hb'⟩:=Next_pos hcc hlow k hk
          have m1:=at_rounds (g:=fun k=>bocageref02_Next.f k C[i].f0 C[i].f1) (bocageref02_Next.mono _ _) hk hb
          exact m1
        · refine Ev.bind (bocageref03_Any.ev l (by omega) w (pos_I64 hcc hlow)) ?_
          by_cases ha:anyB l (pos (ct C[i]))=true
          · simp only[ha,if_true]
            exact ih (i+1) _ (by omega) (by have:=addP_len out C[i] C[i+1];omega)
          · have ha':anyB l (pos (ct C[i]))=false:=by simpa using ha
            simp only[ha',Bool.false_eq_true,if_false]
            exact ih (i+1) _ (by omega) (by omega)
    · have hd:C.drop i=[C[i]]:=by rw[List.drop_eq_getElem_cons hlt,List.drop_of_length_le (by omega)]
      rw[hd]
      refine Ev.step (f:=fun _=>some out) (fun k=>?_) (Ev.now _)
      rw[bocageref03_List.l0,hw,if_neg (by omega)]
def Fine (l:List Sp) (C:List Ct):Prop:=∀x∈l,RR x→(pos (lo x)≤pos (ct (C.headD (tc (1,0))))∨∃c∈C,ct c=lo x)∧(pos (hi x)≤pos (ct (C.headD (tc (1,0))))∨∃c∈C,ct c=hi x)
theorem Fine.tail {l:List Sp} {c d:Ct} {C:List Ct} (h:Fine l (c :: d :: C)) (hC:UpC (c :: d :: C)):Fine l (d :: C):=by
 intro x hx hr
 have hcd:pos (ct c) < pos (ct d):=(List.pairwise_cons.1 hC.2).1 d List.mem_cons_self
 obtain ⟨h1,h2⟩:=h x hx hr
 have key:∀p:Int×Int,(pos p≤pos (ct c)∨∃e∈c :: d :: C,ct e=p)→pos p≤pos (ct d)∨∃e∈d :: C,ct e=p:=by
  rintro p (g | ⟨e,he,g⟩)
  ·left;omega
  ·rcases List.mem_cons.1 he with he | he
   ·left;rw[←g,he];omega
   ·exact .inr ⟨e,he,g⟩
 exact ⟨key _ h1,key _ h2⟩
theorem Fine.piece {l:List Sp} {c d:Ct} {C:List Ct} (h:Fine l (c :: d :: C)) (hC:UpC (c :: d :: C)) {n:Int} (h1:pos (ct c)≤n) (h2:n < pos (ct d)):Any l n ↔ Any l (pos (ct c)):=by
  have hge:∀p:Int×Int,(pos p≤pos (ct c)∨∃e∈c :: d :: C,ct e=p)→pos p≤pos (ct c)∨pos (ct d)≤pos p:=by
    rintro p (g | ⟨e,he,g⟩)
    · exact .inl g
    · rcases List.mem_cons.1 he with he | he
      · left;rw[←g,he];exact Int.le_refl _
      · right;rw[←g]
        rcases List.mem_cons.1 he with he | he
        · rw[he];exact Int.le_refl _
        · have:=(List.pairwise_cons.1 (List.pairwise_cons.1 hC.2).2).1 e he;omega
  constructor
  · rintro ⟨x,hx,hr,hn⟩
    obtain ⟨g1,g2⟩:=h x hx hr
    exact ⟨x,hx,hr,by rcases hge _ g1 with g | g <;> omega,by omega⟩
  · rintro ⟨x,hx,hr,hn⟩
    obtain ⟨g1,g2⟩:=h x hx hr
    exact ⟨x,hx,hr,by omega,by rcases hge _ g2 with g | g <;> omega⟩
theorem Any_append {l m:List Sp} {n:Int}:Any (l ++ m) n ↔ Any l n∨Any m n:=by
 constructor
 ·rintro ⟨x,hx,h⟩
  rcases List.mem_append.1 hx with hx | hx
  ·exact .inl ⟨x,hx,h⟩
  ·exact .inr ⟨x,hx,h⟩
 ·rintro (⟨x,hx,h⟩ | ⟨x,hx,h⟩)
  ·exact ⟨x,List.mem_append_left _ hx,h⟩
  ·exact ⟨x,List.mem_append_right _ hx,h⟩
theorem Any_one {x:Sp} {n:Int}:Any [x] n ↔ RR x∧pos (lo x)≤n∧n < pos (hi x) :=
 ⟨fun ⟨y,hy,h⟩=>by rcases List.mem_singleton.1 hy with rfl;exact h,fun h=>⟨x,List.mem_singleton.2 rfl,h⟩⟩
theorem Any_nil {n:Int}:¬Any [] n:=fun ⟨_,h,_⟩=>by cases h
theorem goP_ok (l:List Sp) (w:∀x∈l,WS x):∀(C:List Ct) (c:Ct) (out:List Sp),UpC (c :: C)→Fine l (c :: C)→GoodL out→(∀o∈out,pos (hi o)≤pos (ct c))→(∀n,Any out n ↔ Any l n∧n < pos (ct c)) →
    GoodL (goP (anyB l) addP out (c :: C))∧∀n,Any (goP (anyB l) addP out (c :: C)) n ↔ Any l n
  | [],c,out,hC,hF,hG,hb,ha=>by
    refine ⟨hG,fun n=>?_⟩
    show Any out n ↔ _
    rw[ha]
    refine ⟨fun h=>h.1,fun h=>⟨h,?_⟩⟩
    obtain ⟨x,hx,hr,hn⟩:=h
    obtain ⟨_,g2⟩:=hF x hx hr
    rcases g2 with g | ⟨e,he,g⟩
    · have:pos (hi x)≤pos (ct c):=g
      omega
    · rcases List.mem_singleton.1 he with rfl
      rw[←g] at hn;omega
  | d :: C, c,out,hC,hF,hG,hb,ha=>by
    have hcd:pos (ct c) < pos (ct d):=(List.pairwise_cons.1 hC.2).1 d List.mem_cons_self
    have hC':UpC (d :: C):=⟨fun e he=>hC.1 e (List.mem_cons_of_mem _ he),(List.pairwise_cons.1 hC.2).2⟩
    have cc:=hC.1 c List.mem_cons_self
    have cd:=hC.1 d (List.mem_cons_of_mem _ List.mem_cons_self)
    show GoodL (goP (anyB l) addP (if anyB l (pos (ct c))=true then addP out c d else out) (d :: C))∧∀n,Any (goP (anyB l) addP (if anyB l (pos (ct c))=true then addP out c d else out) (d :: C)) n ↔ Any l n
    by_cases hx:anyB l (pos (ct c))=true
    · rw[if_pos hx]
      have hx':=(anyB_iff w).1 hx
      have hpiece:RR (sp (ct c) (ct d)):=⟨cc,cd,hcd⟩
      have hall:∀n,(Any l n∧n < pos (ct d)) ↔ (Any l n∧n < pos (ct c))∨(pos (ct c)≤n∧n < pos (ct d)):=fun n=>by
        constructor
        · rintro ⟨h1,h2⟩
          by_cases h3:n < pos (ct c)
          · exact .inl ⟨h1,h3⟩
          · exact .inr ⟨by omega,h2⟩
        · rintro (⟨h1,h2⟩ | ⟨h1,h2⟩)
          · exact ⟨h1,by omega⟩
          · exact ⟨(hF.piece hC h1 h2).2 hx',h2⟩
      have done:∀out',GoodL out'→(∀o∈out',pos (hi o)≤pos (ct d))→(∀n,Any out' n ↔ Any out n∨(pos (ct c)≤n∧n < pos (ct d)))→GoodL (goP (anyB l) addP out' (d :: C))∧∀n,Any (goP (anyB l) addP out' (d :: C)) n ↔ Any l n :=
        fun out' g1 g2 g3=>goP_ok l w C d out' hC' (hF.tail hC) g1 g2 (fun n=>by rw[g3,ha,hall])
      rcases List.eq_nil_or_concat out with rfl | ⟨ys,o,rfl⟩
      · refine done _ ⟨fun x hx=>(by rcases List.mem_singleton.1 hx with rfl;exact hpiece),NormI_one hcd⟩ (fun o ho=>(by rcases List.mem_singleton.1 ho with rfl;exact Int.le_refl _)) (fun n=>?_)
        show Any [sp (ct c) (ct d)] n ↔ _
        rw[Any_one]
        exact ⟨fun h=>.inr h.2,fun h=>⟨hpiece,h.resolve_left Any_nil⟩⟩
      · rw[List.concat_eq_append] at *
        have hadd:addP (ys ++ [o]) c d=if hi o=ct c then ys ++ [sp (lo o) (ct d)] else ys ++ [o] ++ [sp (ct c) (ct d)]:=by
          unfold addP;rw[List.getLast?_concat];simp only[List.dropLast_concat]
        have ho:=hG.1 o (by simp)
        have hN:=hG.2
        rw[List.map_append,List.map_singleton] at hN
        rw[hadd]
        by_cases he:hi o=ct c
        · rw[if_pos he]
          have hlt:pos (lo o) < pos (ct d):=by have:=ho.2.2;rw[he] at this;omega
          have hr:RR (sp (lo o) (ct d)):=⟨ho.1,cd,hlt⟩
          refine done _ ⟨fun x hx=>?_,?_⟩ (fun x hx=>?_) (fun n=>?_)
          · rcases List.mem_append.1 hx with hx | hx
            · exact hG.1 x (List.mem_append_left _ hx)
            · rcases List.mem_singleton.1 hx with rfl;exact hr
          · rw[List.map_append,List.map_singleton]
            exact hN.left.snoc hlt (fun q hq=>hN.last.2 q hq)
          · rcases List.mem_append.1 hx with hx | hx
            · have:=hb x (List.mem_append_left _ hx);omega
            · rcases List.mem_singleton.1 hx with rfl;exact Int.le_refl _
          · rw[Any_append,Any_append,Any_one,Any_one]
            have e1:lo (sp (lo o) (ct d))=lo o:=rfl
            have e2:hi (sp (lo o) (ct d))=ct d:=rfl
            rw[e1,e2,he]
            have:=ho.2.2
            rw[he] at this
            constructor
            · rintro (h | ⟨_,h1,h2⟩)
              · exact .inl (.inl h)
              · by_cases h3:n < pos (ct c)
                · exact .inl (.inr ⟨ho,h1,h3⟩)
                · exact .inr ⟨by omega,h2⟩
            · rintro ((h | ⟨_,h1,h2⟩) | ⟨h1,h2⟩)
              · exact .inl h
              · exact .inr ⟨hr,h1,by omega⟩
              · exact .inr ⟨hr,by omega,h2⟩
        · rw[if_neg he]
          have hlo:pos (hi o) < pos (ct c):=by
            have h1:=hb o (by simp)
            have h2:pos (hi o)≠pos (ct c):=fun h=>he (pos_inj ho.2.1 cc h)
            omega
          refine done _ ⟨fun x hx=>?_,?_⟩ (fun x hx=>?_) (fun n=>?_)
          · rcases List.mem_append.1 hx with hx | hx
            · exact hG.1 x hx
            · rcases List.mem_singleton.1 hx with rfl;exact hpiece
          · rw[List.map_append,List.map_append,List.map_singleton,List.map_singleton]
            refine hN.snoc hcd (fun q hq=>?_)
            rcases List.mem_append.1 hq with hq | hq
            · have h1:=hN.last.2 q hq
              have h2:(iv o).1 < (iv o).2:=ho.2.2
              have h3:(iv o).2 < pos (ct c):=hlo
              show q.2 < pos (ct c)
              omega
            · rcases List.mem_singleton.1 hq with rfl;exact hlo
          · rcases List.mem_append.1 hx with hx | hx
            · have:=hb x hx;omega
            · rcases List.mem_singleton.1 hx with rfl;exact Int.le_refl _
          · rw[Any_append,Any_one]
            exact ⟨fun h=>h.elim .inl (fun h=>.inr h.2),fun h=>h.elim .inl (fun h=>.inr ⟨hpiece,h⟩)⟩
    · rw[if_neg hx]
      have hx':¬Any l (pos (ct c)):=fun h=>hx ((anyB_iff w).2 h)
      refine goP_ok l w C d out hC' (hF.tail hC) hG (fun o ho=>by have:=hb o ho;omega) (fun n=>?_)
      rw[ha]
      refine ⟨fun h=>⟨h.1,by omega⟩,fun h=>⟨h.1,?_⟩⟩
      by_cases h3:n < pos (ct c)
      · exact h3
      · exact absurd ((hF.piece hC (by omega) h.2).1 h.1) hx'
theorem GoodL_nil:GoodL []:=⟨fun _ h=>(by cases h),NormI_nil⟩
theorem bocageref03_List.ev (l:List Sp) (hl:l.length≤100000) (w:∀x∈l,WS x):∃R,Ev (fun k=>bocageref03_List.f k l) R∧GoodL R∧∀n,Any R n ↔ Any l n:=by
  obtain ⟨C,c1,c2,c3,c4,c5⟩:=bocageref03_Cuts.ev l hl w
  have h0:=list_l0 l hl w C ⟨c2,c3⟩ (by omega) C.length 0 [] (by omega) (Nat.le_refl _)
  rw[List.drop_zero] at h0
  refine ⟨_,Ev.bind c1 h0,?_⟩
  cases C with
  | nil =>
    refine ⟨GoodL_nil,fun n=>⟨fun h=>absurd h Any_nil,?_⟩⟩
    rintro ⟨x,hx,hr,_⟩
    obtain ⟨c,hc,_⟩:=(c4 (lo x)).2 ⟨x,hx,hr,.inl rfl⟩
    cases hc
  | cons c C =>
    refine goP_ok l w C c [] ⟨c2,c3⟩ (fun x hx hr=>⟨.inr ((c4 _).2 ⟨x,hx,hr,.inl rfl⟩),.inr ((c4 _).2 ⟨x,hx,hr,.inr rfl⟩)⟩) GoodL_nil (fun _ h=>by cases h) (fun n=>⟨fun h=>absurd h Any_nil,?_⟩)
    rintro ⟨⟨x,hx,hr,h1,_⟩,h2⟩
    obtain ⟨e,he,h⟩:=(c4 (lo x)).2 ⟨x,hx,hr,.inl rfl⟩
    rw[←h] at h1
    rcases List.mem_cons.1 he with rfl | he
    · omega
    · have:=(List.pairwise_cons.1 c3).1 e he;omega
instance:DecidableEq S33:=fun x y=>by
 by_cases h:x.f0=y.f0∧x.f1=y.f1
 ·exact isTrue (by cases x;cases y;simp only at h;rw[h.1,h.2])
 ·exact isFalse (fun e=>h (by rw[e];exact ⟨rfl,rfl⟩))
instance:DecidableEq S35:=fun x y=>by
 by_cases h:x.f0=y.f0∧x.f1=y.f1
 ·exact isTrue (by cases x;cases y;simp only at h;rw[h.1,h.2])
 ·exact isFalse (fun e=>h (by rw[e];exact ⟨rfl,rfl⟩))
theorem spsM_len (l:List Sg):(spsM l).length=l.length:=by simp[spsM]
theorem imap_spans.l0_ev (l:List Sg) (hl:l.length≤1000000):∀(n i:Nat),i+n=l.length→Ev (fun k=>imap_spans.l0 k ((spsM l).take i) l (l.length:Int) (i:Int)) (spsM l):=by
  intro n
  induction n with
  | zero =>
    intro i hin
    refine Ev.step (f:=fun _=>some (spsM l)) (fun k=>?_) (Ev.now _)
    rw[imap_spans.l0,if_neg (by omega),List.take_of_length_le (by rw[spsM_len];omega)]
  | succ n ih =>
    intro i hin
    have hlt:i < l.length:=by omega
    have hw:wrap64 ((i:Int)+1)=((i+1:Nat):Int):=by unfold wrap64;omega
    refine Ev.step (f:=fun k=>imap_spans.l0 k ((spsM l).take (i+1)) l (l.length:Int) ((i+1:Nat):Int)) (fun k=>?_) (ih (i+1) (by omega))
    rw[imap_spans.l0,if_pos (by omega),if_pos (by omega),if_pos (by omega),if_pos (by rw[List.length_take,spsM_len];omega),rdM hlt,hw,←spsM_take hlt]
theorem imap_spans.ev (l:List Sg) (hl:l.length≤1000000):Ev (fun k=>imap_spans.f k l) (spsM l):=imap_spans.l0_ev l hl l.length 0 (by omega)
theorem mapalg_spans.l0_ev (l:List Sg) (hl:l.length≤1000000):∀(n i:Nat),i+n=l.length→Ev (fun k=>mapalg_spans.l0 k ((spsM l).take i) l (l.length:Int) (i:Int)) (spsM l):=by
  intro n
  induction n with
  | zero =>
    intro i hin
    refine Ev.step (f:=fun _=>some (spsM l)) (fun k=>?_) (Ev.now _)
    rw[mapalg_spans.l0,if_neg (by omega),List.take_of_length_le (by rw[spsM_len];omega)]
  | succ n ih =>
    intro i hin
    have hlt:i < l.length:=by omega
    have hw:wrap64 ((i:Int)+1)=((i+1:Nat):Int):=by unfold wrap64;omega
    refine Ev.step (f:=fun k=>mapalg_spans.l0 k ((spsM l).take (i+1)) l (l.length:Int) ((i+1:Nat):Int)) (fun k=>?_) (ih (i+1) (by omega))
    rw[mapalg_spans.l0,if_pos (by omega),if_pos (by omega),if_pos (by omega),if_pos (by rw[List.length_take,spsM_len];omega),rdM hlt,hw,←spsM_take hlt]
theorem bocageref09_Spans.l0_ev (l:List Sg) (hl:l.length≤1000000):∀(n i:Nat),i+n=l.length→Ev (fun k=>bocageref09_Spans.l0 k l ((spsM l).take i) (i:Int)) (spsM l):=by
  intro n
  induction n with
  | zero =>
    intro i hin
    refine Ev.step (f:=fun _=>some (spsM l)) (fun k=>?_) (Ev.now _)
    rw[bocageref09_Spans.l0,if_neg (by omega),List.take_of_length_le (by rw[spsM_len];omega)]
  | succ n ih =>
    intro i hin
    have hlt:i < l.length:=by omega
    have hw:wrap64 ((i:Int)+1)=((i+1:Nat):Int):=by unfold wrap64;omega
    refine Ev.step (f:=fun k=>bocageref09_Spans.l0 k l ((spsM l).take (i+1)) ((i+1:Nat):Int)) (fun k=>?_) (ih (i+1) (by omega))
    rw[bocageref09_Spans.l0,if_pos (by omega),if_pos (by omega),if_pos (by rw[List.length_take,spsM_len];omega),rdM hlt,hw,←spsM_take hlt]
theorem bocageref09_Spans.ev (l:List Sg) (hl:l.length≤1000000):Ev (fun k=>bocageref09_Spans.f k l) (spsM l):=bocageref09_Spans.l0_ev l hl l.length 0 (by omega)
theorem bocageref09_Sound.ev (l:List Sg) (hl:l.length≤1000000):Ev (fun k=>bocageref09_Sound.f k l) (sortedM l) :=
 Ev.bind (bocageref09_Spans.ev l hl) (Ev.bind (by have h:=bocageref03_Sorted.ev (spsM l) (by rw[spsM_len];exact hl);rw[spsM_len] at h;exact h) (Ev.now _))
theorem touchM {o s:Sp} (ho:RR o) (hs:RR s) (hb:pos (hi o)≤pos (lo s)) (k:Nat) (hk:9≤k):span_Touch.f k o.f0.f0 o.f0.f1 o.f1.f0 o.f1.f1 s.f0.f0 s.f0.f1 s.f1.f0 s.f1.f1=some (decide (hi o=lo s)):=by
 rw[span_Touch.eq _ _ _ _ _ _ _ _ k hk]
 congr 1
 rw[Bool.eq_iff_iff,decide_eq_true_eq,decide_eq_true_eq]
 constructor
 ·rintro ⟨_,_,h | h⟩
  ·exact h
  ·exfalso
   have h1:pos (hi s)=pos (lo o):=congrArg pos h
   have:=ho.2.2
   have:=hs.2.2
   omega
 ·exact fun h=>⟨ho.RS,hs.RS,.inl h⟩
theorem imap_add.eq {out:List Sg} {s:Sg} (h:OkM out) (hs:RR s.f0) (hb:∀o∈out,pos (hi o.f0)≤pos (lo s.f0)) (hl:out.length≤1000000) (k:Nat) (hk:9≤k):imap_add.f k out s=some (joinM out s):=by
 unfold imap_add.f
 rw[if_pos (by omega)]
 rcases List.eq_nil_or_concat out with rfl | ⟨ys,o,rfl⟩
 ·rfl
 ·rw[List.concat_eq_append] at *
  have hn:(ys ++ [o]).length=ys.length+1:=by simp
  have hg:(ys ++ [o]).getD ((ys ++ [o]).length - 1) z37=o:=by rw[hn,Nat.add_sub_cancel];simp[List.getD]
  rw[if_neg (by omega),hg,joinM_snoc]
  by_cases hv:o.f1=s.f1
  ·rw[if_pos hv,touchM (h.1 o (by simp)) hs (hb o (by simp)) k hk,Option.bind_some]
   by_cases ht:hi o.f0=lo s.f0
   ·rw[decide_eq_true ht,if_pos rfl,if_pos ⟨hv,ht⟩,hn,Nat.add_sub_cancel];simp
   ·rw[decide_eq_false ht,if_neg Bool.false_ne_true,if_neg (fun g=>ht g.2)]
  ·rw[if_neg hv,if_neg (fun g=>hv g.1)]
theorem imap_Tidy.l0_eq (k:Nat) (hk:9≤k):∀(l out:List Sg),OkM out→OkM l→(∀o∈out,∀s∈l,pos (hi o.f0)≤pos (lo s.f0))→out.length+l.length≤1000000→imap_Tidy.l0 k out l=some (l.foldl joinM out)
  | [],out,_,_,_,_=>rfl
  | s :: l,out,h,hl,hb,hn=>by
    obtain ⟨h1,h2,h3⟩:=hl.cons
    rw[List.length_cons] at hn
    have hj:=joinM_len out s
    obtain ⟨j1,j2⟩:=joinM_ok h h1 (fun o ho=>hb o ho s List.mem_cons_self)
    rw[imap_Tidy.l0,imap_add.eq h h1 (fun o ho=>hb o ho s List.mem_cons_self) (by omega) k hk,Option.bind_some]
    exact imap_Tidy.l0_eq k hk l _ j1 h3 (fun o ho x hx=>by have:=j2 o ho;have:=h2 x hx;omega) (by omega)
theorem imap_Tidy.ev (l:List Sg) (w:WM l) (hl:l.length < 1000000):Ev (fun k=>imap_Tidy.f k 0 false 0 l) (mergeM l):=by
 refine Ev.congr (f:=fun k=>(imap_spans.f k l).bind fun sp=>(span_Sorted.f k sp).bind fun b=>if b=true then imap_Tidy.l0 k [] l else some []) (fun k=>?_) ?_
 ·unfold imap_Tidy.f;rw[if_pos rfl,if_pos rfl,if_pos rfl,if_pos hl]
 ·refine Ev.bind (imap_spans.ev l (by omega)) (Ev.bind (a:=sortedM l) (by have h:=span_Sorted.ev (spsM l) (by rw[spsM_len];omega);rw[spsM_len] at h;exact h) ?_)
  unfold mergeM
  by_cases h:sortedM l=true
  ·simp only[h,if_true]
   exact ⟨9,fun k hk=>imap_Tidy.l0_eq k hk l [] OkM_nil ((sortedM_iff w).1 h) (fun o ho=>by cases ho) (by simp;omega)⟩
  ·simp only[h,if_false]
   exact Ev.now _
theorem mapalg_Merge.ev (l:List Sg) (w:WM l) (hl:l.length < 1000000):Ev (fun k=>mapalg_Merge.f k l) (mergeM l):=Ev.bind (imap_Tidy.ev l w hl) (Ev.now _)
theorem bocageref14_Tidy.l0_ev (l:List Sg) (hl:l.length≤1000000):∀(n i:Nat) (out:List Sg),i+n=l.length→out.length≤i→Ev (fun k=>bocageref14_Tidy.l0 k l out (i:Int) 0 false 0) ((l.drop i).foldl joinM out):=by
  intro n
  induction n with
  | zero =>
    intro i out hin ho
    rw[List.drop_of_length_le (by omega)]
    refine Ev.step (f:=fun _=>some out) (fun k=>?_) (Ev.now _)
    rw[bocageref14_Tidy.l0,if_neg (by omega)]
  | succ n ih =>
    intro i out hin ho
    have hlt:i < l.length:=by omega
    have hw:wrap64 ((i:Int)+1)=((i+1:Nat):Int):=by unfold wrap64;omega
    rw[List.drop_eq_getElem_cons hlt,List.foldl_cons]
    have hj:=joinM_len out l[i]
    refine Ev.step (f:=fun k=>bocageref14_Tidy.j1 k l out (i:Int) false 0 false 0) (fun k=>?_) ?_
    · rw[bocageref14_Tidy.l0,if_pos (by omega),if_neg Bool.false_ne_true]
    · refine Ev.step (f:=fun k=>bocageref14_Tidy.l0 k l (joinM out l[i]) ((i+1:Nat):Int) 0 false 0) (fun k=>?_) (ih (i+1) (joinM out l[i]) (by omega) (by omega))
      rw[bocageref14_Tidy.j1,if_neg Bool.false_ne_true,if_pos rfl]
      rcases List.eq_nil_or_concat out with rfl | ⟨ys,o,rfl⟩
      · rw[if_neg (by simp[wrap64])]
        simp only[joinM_nil,rdM hlt,hw]
        rw[if_pos (by omega),if_pos (by omega),if_pos (by simp)];rfl
      · rw[List.concat_eq_append] at *
        have hn:(ys ++ [o]).length=ys.length+1:=by simp
        have hlen:(((ys ++ [o]).length:Nat):Int)=(ys.length:Int)+1:=by rw[hn];omega
        have hm:wrap64 (((ys ++ [o]).length:Int) - 1)=(ys.length:Int):=by rw[hlen];unfold wrap64;omega
        have hrd:rd_T37 (ys ++ [o]) (ys.length:Int)=o:=by simp[rd_T37,List.getD]
        have hset:∀v:Sg,(ys ++ [o]).set (ys.length:Int).toNat v=ys ++ [v]:=fun v=>by simp
        rw[hm,if_pos (by omega),if_pos (by omega),if_pos (by omega),if_pos (by omega),if_pos (by omega),hrd,rdM hlt,hw,joinM_snoc,hset,if_pos (show(ys ++ [o]).length < 3518437208883 by omega)]
        by_cases hv:o.f1=l[i].f1
        · rw[if_pos hv]
          by_cases ht:hi o.f0=lo l[i].f0
          · rw[if_pos (by have e1:=congrArg Prod.fst ht;have e2:=congrArg Prod.snd ht;have e1':o.f0.f1.f0=l[i].f0.f0.f0:=e1;have e2':o.f0.f1.f1=l[i].f0.f0.f1:=e2;rw[e1',e2'];simp),if_pos ⟨hv,ht⟩]
          · rw[if_neg (fun h=>ht (by simp at h;exact Prod.ext h.1 h.2)),if_neg (fun g=>ht g.2)]
        · rw[if_neg hv,if_neg (fun g=>hv g.1)]
theorem bocageref14_Tidy.ev (l:List Sg) (hl:l.length≤1000000):Ev (fun k=>bocageref14_Tidy.f k 0 false 0 l) (mergeM l):=by
 unfold mergeM
 refine Ev.bind (bocageref09_Sound.ev l hl) ?_
 by_cases h:sortedM l=true
 ·simp only[h,if_true]
  have:=bocageref14_Tidy.l0_ev l hl l.length 0 [] (by omega) (Nat.le_refl _)
  rwa [List.drop_zero] at this
 ·simp only[h,if_false];exact Ev.now _
theorem bocageref16_Merge.ev (l:List Sg) (hl:l.length≤1000000):Ev (fun k=>bocageref16_Merge.f k l) (mergeM l):=Ev.bind (bocageref14_Tidy.ev l hl) (Ev.now _)
theorem valM_cons (s:Sg) (l:List Sg) (n:Int):valM (s :: l) n=if hasB s.f0 n=true then some s.f1 else valM l n:=by
 unfold valM
 rw[List.find?_cons]
 cases hasB s.f0 n <;> rfl
def paintM (l:List Sp) (v:Int):List Sg:=(listS l).map (fun s=>⟨s,v⟩)
theorem paint_l0 (v:Int) (l:List Sp) (hl:l.length≤1000000):∀(n i:Nat),i+n=l.length→Ev (fun k=>mapalg_Paint.l0 k v ((l.take i).map (fun s=>(⟨s,v⟩:Sg))) l (l.length:Int) (i:Int)) (l.map (fun s=>(⟨s,v⟩:Sg))):=by
  intro n
  induction n with
  | zero =>
    intro i hin
    refine Ev.step (f:=fun _=>some (l.map (fun s=>(⟨s,v⟩:Sg)))) (fun k=>?_) (Ev.now _)
    rw[mapalg_Paint.l0,if_neg (by omega),List.take_of_length_le (by omega)]
  | succ n ih =>
    intro i hin
    have hlt:i < l.length:=by omega
    have hw:wrap64 ((i:Int)+1)=((i+1:Nat):Int):=by unfold wrap64;omega
    refine Ev.step (f:=fun k=>mapalg_Paint.l0 k v ((l.take (i+1)).map (fun s=>(⟨s,v⟩:Sg))) l (l.length:Int) ((i+1:Nat):Int)) (fun k=>?_) (ih (i+1) (by omega))
    rw[mapalg_Paint.l0,if_pos (by omega),if_pos (by omega),if_pos (by omega),if_pos (by rw[List.length_map,List.length_take];omega),rdS hlt,hw,List.take_succ_eq_append_getElem hlt,List.map_append]
    rfl
theorem listS_len (l:List Sp):(listS l).length≤l.length:=by
  have hj : ∀(d out:List Sp),(d.foldl joinS out).length≤out.length+d.length:=by
    intro d
    induction d with
    | nil=>intro out;exact Nat.le_refl _
    | cons s d ih =>
      intro out
      have h1:=ih (joinS out s)
      have h2:(joinS out s).length≤out.length+1:=by
        rcases List.eq_nil_or_concat out with rfl | ⟨ys,o,rfl⟩
        · exact Nat.le_refl _
        · rw[List.concat_eq_append]
          unfold joinS
          rw[List.getLast?_concat]
          dsimp only
          split <;> simp
      rw[List.foldl_cons,List.length_cons];omega
  have h1:=hj (sortS (l.filter RX)) []
  have h2:=(sortS_perm (l.filter RX)).length_eq
  have h3:=List.length_filter_le RX l
  show((sortS (l.filter RX)).foldl joinS []).length≤_
  rw[List.length_nil] at h1
  omega
theorem mapalg_Paint.ev (l:List Sp) (v:Int) (hl:l.length < 1000000):Ev (fun k=>mapalg_Paint.f k l v) (paintM l v):=by
 refine Ev.bind (a:=listS l) ⟨0,fun k _=>by unfold span_List.f;rw[if_pos hl]⟩ ?_
 exact paint_l0 v (listS l) (by have:=listS_len l;omega) (listS l).length 0 (by omega)
instance:DecidableEq Sg:=fun x y=>by
 by_cases h:x.f0=y.f0∧x.f1=y.f1
 ·exact isTrue (by cases x;cases y;simp only at h;rw[h.1,h.2])
 ·exact isFalse (fun e=>h (by rw[e];exact ⟨rfl,rfl⟩))
theorem OkM.tail_lo {s:Sg} {l:List Sg} (h:OkM (s :: l)) {n:Int} (hn:n < pos (hi s.f0)):valM l n=none:=by
 refine valM_none.2 (fun x hx g=>?_)
 have h1:=(hasB_RR (h.cons.2.2.1 x hx)).1 g
 have:=h.cons.2.1 x hx
 omega
theorem valM_lo {l:List Sg} (h:OkM l) {n:Int} (hn:∀s∈l,n < pos (lo s.f0)):valM l n=none :=
 valM_none.2 (fun x hx g=>by have h1:=(hasB_RR (h.1 x hx)).1 g;have:=hn x hx;omega)
theorem valM_head {s:Sg} {l:List Sg} (h:RR s.f0) {n:Int} (h1:pos (lo s.f0)≤n) (h2:n < pos (hi s.f0)):valM (s :: l) n=some s.f1:=by
 rw[valM_cons,if_pos ((hasB_RR h).2 ⟨h1,h2⟩)]
theorem valM_skip {s:Sg} {l:List Sg} (h:RR s.f0) {n:Int} (h1:¬(pos (lo s.f0)≤n∧n < pos (hi s.f0))):valM (s :: l) n=valM l n:=by
 rw[valM_cons,if_neg (fun g=>h1 ((hasB_RR h).1 g))]
theorem OkM.lo_le {s:Sg} {l:List Sg} (h:OkM (s :: l)):∀x∈s :: l,pos (lo s.f0)≤pos (lo x.f0):=by
 intro x hx
 rcases List.mem_cons.1 hx with rfl | hx
 ·exact Int.le_refl _
 ·have:=h.cons.2.1 x hx;have:=h.cons.1.2.2;omega
theorem OkM.some_lo {l:List Sg} {s:Sg} (h:OkM (s :: l)) {n v:Int} (hv:valM (s :: l) n=some v):pos (lo s.f0)≤n:=by
 by_cases g:pos (lo s.f0)≤n
 ·exact g
 ·rw[valM_lo h (fun x hx=>by have:=h.lo_le x hx;omega)] at hv;cases hv
theorem sg_ext {a b:Sg} (ha:RR a.f0) (hb:RR b.f0) (h1:pos (lo a.f0)=pos (lo b.f0)) (h2:pos (hi a.f0)=pos (hi b.f0)) (h3:a.f1=b.f1):a=b:=by
 have e:=iv_inj ha hb (Prod.ext h1 h2)
 cases a;cases b;simp only at e h3;rw[e,h3]
theorem CanM.hi_le {a b:Sg} {l m:List Sg} (ha:OkM (a :: l)) (hb:OkM (b :: m)) (ca:CanM (a :: l)) (h:∀n,valM (a :: l) n=valM (b :: m) n) (e:pos (lo a.f0)=pos (lo b.f0)) (ev:a.f1=b.f1):pos (hi b.f0)≤pos (hi a.f0):=by
  by_cases g:pos (hi b.f0)≤pos (hi a.f0)
  · exact g
  · exfalso
    have r1:=ha.cons.1
    have r2:=hb.cons.1
    have h1:=h (pos (hi a.f0))
    have r3:=r1.2.2
    rw[valM_head r2 (by omega) (by omega),valM_skip r1 (by omega)] at h1
    cases l with
    | nil=>cases h1
    | cons c l =>
      have hc:=ha.cons.2.1 c List.mem_cons_self
      have h2:=OkM.some_lo ha.cons.2.2 h1
      have h3:pos (hi a.f0)=pos (lo c.f0):=by omega
      have r4:=ha.cons.2.2.cons.1
      rw[valM_head r4 (by omega) (by have:=r4.2.2;omega)] at h1
      exact ca.1 ⟨by rw[ev];exact(Option.some.inj h1).symm,pos_inj r1.2.1 r4.1 h3⟩
theorem CanM.unique:∀ {l m:List Sg},OkM l→OkM m→CanM l→CanM m→(∀n,valM l n=valM m n)→l=m
  | [],[],_,_,_,_,_=>rfl
  | [],b :: m,_,hb,_,_,h=>by
    have h1:=h (pos (lo b.f0))
    rw[valM_head hb.cons.1 (Int.le_refl _) hb.cons.1.2.2] at h1
    cases h1
  | a :: l,[],ha,_,_,_,h=>by
    have h1:=h (pos (lo a.f0))
    rw[valM_head ha.cons.1 (Int.le_refl _) ha.cons.1.2.2] at h1
    cases h1
  | a :: l,b :: m,ha,hb,ca,cb,h=>by
    have r1:=ha.cons.1
    have r2:=hb.cons.1
    have h1:=h (pos (lo a.f0))
    rw[valM_head r1 (Int.le_refl _) r1.2.2] at h1
    have h2:=h (pos (lo b.f0))
    rw[valM_head r2 (Int.le_refl _) r2.2.2] at h2
    have e:pos (lo a.f0)=pos (lo b.f0):=by
      have:=OkM.some_lo hb h1.symm
      have:=OkM.some_lo ha h2
      omega
    have ev:a.f1=b.f1:=by
      rw[←e,valM_head r1 (Int.le_refl _) r1.2.2] at h2
      exact Option.some.inj h2
    have eh:pos (hi a.f0)=pos (hi b.f0):=by
      have:=CanM.hi_le ha hb ca h e ev
      have:=CanM.hi_le hb ha cb (fun n=>(h n).symm) e.symm ev.symm
      omega
    rw[sg_ext r1 r2 e eh ev,CanM.unique ha.cons.2.2 hb.cons.2.2 ca.tail cb.tail (fun n=>?_)]
    by_cases hn:n < pos (hi a.f0)
    · rw[ha.tail_lo hn,hb.tail_lo (by omega)]
    · have h3:=h n
      rw[valM_skip r1 (by omega),valM_skip r2 (by omega)] at h3
      exact h3
theorem adv_ok {α:Type} (f:α→Int×Int) {c:Int×Int} (hc:CC c) (l:List α) (hl:∀s∈l,CC (f s)):∀(m i:Nat),i+m=l.length →
    i≤advF f c l i∧advF f c l i≤l.length∧(∀(j:Nat) (h:j < l.length),i≤j→j < advF f c l i→pos (f l[j])≤pos c)∧∀h:advF f c l i < l.length,pos c < pos (f l[advF f c l i]):=by
  have key:∀s∈l,(cmpC (f s) c≤0 ↔ pos (f s)≤pos c):=fun s hs=>by
    unfold cmpC
    rw[(hl s hs).canon,hc.canon]
    have h1:=cmp2_pos_gt (hl s hs) hc
    omega
  intro m
  induction m with
  | zero =>
    intro i hi
    rw[advF_end f c l i (by omega)]
    exact ⟨Nat.le_refl _,by omega,fun j h h1 h2=>by omega,fun h=>by omega⟩
  | succ m ih =>
    intro i hi
    have hlt:i < l.length:=by omega
    by_cases g:cmpC (f l[i]) c≤0
    · rw[advF_step f c l i hlt g]
      obtain ⟨a1,a2,a3,a4⟩:=ih (i+1) (by omega)
      refine ⟨by omega,a2,fun j h h1 h2=>?_,a4⟩
      rcases Nat.eq_or_lt_of_le h1 with rfl | h3
      · exact(key _ (List.getElem_mem hlt)).1 g
      · exact a3 j h h3 h2
    · have e:=advF_stop f c l i hlt g
      refine ⟨by omega,by omega,fun j h h1 h2=>by omega,fun h=>?_⟩
      have:¬pos (f l[i])≤pos c:=fun k=>g ((key _ (List.getElem_mem hlt)).2 k)
      simp only[e]
      omega
def o2:Option Int→Int×Bool
 | none=>(0,false)
 | some v=>(v,true)
theorem val_ok {x:List Sg} (h:OkM x) {c:Int×Int} (hc:CC c) {i:Nat} (hle:i≤x.length) (hb:∀(j:Nat) (h:j < x.length),j < i→pos (hiP x[j])≤pos c) :
    advF hiP c x i≤x.length∧(∀(j:Nat) (h:j < x.length),j < advF hiP c x i→pos (hiP x[j])≤pos c)∧valV c x (advF hiP c x i)=o2 (valM x (pos c)):=by
  obtain ⟨a1,a2,a3,a4⟩:=adv_ok hiP hc x (fun s hs=>(h.1 s hs).2.1) (x.length - i) i (by omega)
  generalize advF hiP c x i=j at a1 a2 a3 a4
  have hall:∀(m:Nat) (h:m < x.length),m < j→pos (hiP x[m])≤pos c:=fun m hm h1=>by
    by_cases g:m < i
    · exact hb m hm g
    · exact a3 m hm (by omega) h1
  refine ⟨a2,hall,?_⟩
  have e:valM x (pos c)=valM (x.drop j) (pos c):=by
    have h1:valM (x.take j ++ x.drop j) (pos c)=(valM (x.take j) (pos c)).or (valM (x.drop j) (pos c)):=valM_append _ _ _
    rw[List.take_append_drop] at h1
    rw[h1,valM_none.2,Option.none_or]
    intro s hs g
    obtain ⟨m,hm,rfl⟩:=List.getElem_of_mem hs
    rw[List.length_take] at hm
    rw[List.getElem_take] at g
    have h2:=hall m (by omega) (by omega)
    have h3:=(hasB_RR (h.1 _ (List.getElem_mem (show m < x.length by omega)))).1 g
    have h4:pos (hiP x[m])=pos (hi x[m].f0):=rfl
    omega
  rw[e]
  unfold valV
  by_cases g:j < x.length
  · rw[List.getElem?_eq_getElem g,List.drop_eq_getElem_cons g]
    have r:=h.1 _ (List.getElem_mem g)
    have h1:=a4 g
    have h2:pos (hiP x[j])=pos (hi x[j].f0):=rfl
    have h3:cmpC (loP x[j]) c=cmp2 (lo x[j].f0) c:=by
      unfold cmpC
      have:loP x[j]=lo x[j].f0:=rfl
      rw[this,r.1.canon,hc.canon]
    dsimp only
    rw[h3]
    by_cases k:0 < cmp2 (lo x[j].f0) c
    · have k1:=(cmp2_pos_gt r.1 hc).1 k
      have hd:OkM (x[j] :: x.drop (j+1)):=by
        rw[←List.drop_eq_getElem_cons g]
        exact ⟨fun s hs=>h.1 s (List.mem_of_mem_drop hs),h.2.sublist (List.drop_sublist _ _)⟩
      rw[if_pos k,valM_lo hd (fun s hs=>by have:=hd.lo_le s hs;omega)]
      rfl
    · have k1:¬pos c < pos (lo x[j].f0):=fun q=>k ((cmp2_pos_gt r.1 hc).2 q)
      rw[if_neg k,valM_head r (by omega) (by omega)]
      rfl
  · rw[List.getElem?_eq_none (by omega),List.drop_of_length_le (by omega)]
    rfl
theorem has_ok {x:List Sp} (h:GoodL x) {c:Int×Int} (hc:CC c) {i:Nat} (hle:i≤x.length) (hb:∀(j:Nat) (h:j < x.length),j < i→pos (hiS x[j])≤pos c) :
    advF hiS c x i≤x.length∧(∀(j:Nat) (h:j < x.length),j < advF hiS c x i→pos (hiS x[j])≤pos c)∧(hasV c x (advF hiS c x i)=true ↔ Any x (pos c)):=by
  obtain ⟨a1,a2,a3,a4⟩:=adv_ok hiS hc x (fun s hs=>(h.1 s hs).2.1) (x.length - i) i (by omega)
  generalize advF hiS c x i=j at a1 a2 a3 a4
  have hall:∀(m:Nat) (h:m < x.length),m < j→pos (hiS x[m])≤pos c:=fun m hm h1=>by
    by_cases g:m < i
    · exact hb m hm g
    · exact a3 m hm (by omega) h1
  refine ⟨a2,hall,?_⟩
  have hp:=List.pairwise_iff_getElem.1 (List.pairwise_map.1 h.2.2)
  unfold hasV
  by_cases g:j < x.length
  · rw[List.getElem?_eq_getElem g]
    have r:=h.1 _ (List.getElem_mem g)
    have h1:=a4 g
    have h2:pos (hiS x[j])=pos (hi x[j]):=rfl
    have h3:cmpC (loS x[j]) c=cmp2 (lo x[j]) c:=by
      unfold cmpC
      have:loS x[j]=lo x[j]:=rfl
      rw[this,r.1.canon,hc.canon]
    dsimp only
    rw[decide_eq_true_eq,h3]
    have h4:=cmp2_pos_gt r.1 hc
    constructor
    · intro k
      exact ⟨x[j],List.getElem_mem g,r,by omega,by show pos c < pos (hi x[j]);omega⟩
    · rintro ⟨s,hs,hr,k1,k2⟩
      obtain ⟨m,hm,rfl⟩:=List.getElem_of_mem hs
      rcases Nat.lt_trichotomy m j with h6 | rfl | h6
      · have h7:=hall m hm h6
        have h8:pos (hiS x[m])=pos (hi x[m]):=rfl
        have h9:pos c < pos (hi x[m]):=k2
        omega
      · omega
      · have h7:pos (hi x[j]) < pos (lo x[m]):=hp j m g hm h6
        omega
  · rw[List.getElem?_eq_none (by omega)]
    constructor
    · intro k;cases k
    · rintro ⟨s,hs,hr,k1,k2⟩
      obtain ⟨m,hm,rfl⟩:=List.getElem_of_mem hs
      have h7:=hall m hm (by omega)
      have h8:pos (hiS x[m])=pos (hi x[m]):=rfl
      have h9:pos c < pos (hi x[m]):=k2
      omega
theorem acuts_l0 (l:List Sp) (hl:l.length≤100000) (r:List Ct):∀(m i:Nat) (out:List Ct),i+m=l.length→out.length≤2 * i→Ev (fun k=>cut_Sort.f k (out ++ cutsS (l.drop i))) r→Ev (fun k=>algebra_Cuts.l0 k out l (l.length:Int) (i:Int)) r:=by
  intro m
  induction m with
  | zero =>
    intro i out hi ho h
    rw[List.drop_of_length_le (by omega)] at h
    refine Ev.step (f:=fun k=>(cut_Sort.f k out).bind fun t=>some t) (fun k=>?_) (Ev.bind (by simpa [cutsS] using h) (Ev.now _))
    rw[algebra_Cuts.l0,if_neg (by omega)]
  | succ m ih =>
    intro i out hi ho h
    have hlt:i < l.length:=by omega
    have hw:wrap64 ((i:Int)+1)=((i+1:Nat):Int):=by unfold wrap64;omega
    rw[List.drop_eq_getElem_cons hlt] at h
    have hc:cutsS (l[i] :: l.drop (i+1))=(if RX l[i]=true then [l[i].f0,l[i].f1] else []) ++ cutsS (l.drop (i+1)):=rfl
    rw[hc] at h
    refine Ev.step (f:=fun k=>(span_Right.f k l[i].f0.f0 l[i].f0.f1 l[i].f1.f0 l[i].f1.f1).bind fun t=>if t=true then(if out.length+2 < 8796093022208 then algebra_Cuts.l0 k (out ++ [l[i].f0,l[i].f1]) l (l.length:Int) ((i+1:Nat):Int) else none) else algebra_Cuts.l0 k out l (l.length:Int) ((i+1:Nat):Int)) (fun k=>?_) ?_
    · rw[algebra_Cuts.l0,if_pos (by omega),if_pos (by omega),if_pos (by omega),rdS hlt,hw];rfl
    · refine Ev.bind (a:=RX l[i]) ⟨3,fun k hk=>span_Right.eq _ _ _ _ k hk⟩ ?_
      by_cases hx:RX l[i]=true
      · simp only[hx,if_true] at h ⊢
        rw[←List.append_assoc] at h
        have hb:out.length+2 < 8796093022208:=by omega
        simp only[hb,if_true]
        exact ih (i+1) _ (by omega) (by rw[List.length_append];show out.length+2≤_;omega) h
      · have hx':RX l[i]=false:=by simpa using hx
        simp only[hx',Bool.false_eq_true,if_false,List.nil_append] at h ⊢
        exact ih (i+1) _ (by omega) (by omega) h
def cutC (l:List Sp):List Ct:=sortC ((cutsS l).map cnC)
theorem insC_len (x:Ct):∀l:List Ct,(insC x l).length≤l.length+1
  | []=>Nat.le_refl _
  | y :: l=>by
    unfold insC
    split
    · simp
    · split
      · have:=insC_len x l;simp;omega
      · simp
theorem sortC_len:∀l:List Ct,(sortC l).length≤l.length
  | []=>Nat.le_refl _
  | x :: l=>by
    have h1:=insC_len x (sortC l)
    have h2:=sortC_len l
    show(insC x (sortC l)).length≤_
    rw[List.length_cons];omega
theorem cutC_len (l:List Sp):(cutC l).length≤2 * l.length:=by
 have h1:=sortC_len ((cutsS l).map cnC)
 rw[List.length_map] at h1
 have:=cutsS_len l
 unfold cutC;omega
theorem algebra_Cuts.ev (l:List Sp) (hl:l.length≤100000):Ev (fun k=>algebra_Cuts.f k l) (cutC l) :=
 acuts_l0 l hl (cutC l) l.length 0 [] (by omega) (by simp) ⟨0,fun k _=>by rw[List.drop_zero,List.nil_append];unfold cut_Sort.f;rw[if_pos (by have:=cutsS_len l;omega)];rfl⟩
theorem cutC_mem {l:List Sp} (w:∀x∈l,WS x) (p:Int×Int):(∃c∈cutC l,ct c=p) ↔ ∃x∈l,RR x∧(lo x=p∨hi x=p):=by
 have hmem:∀c,c∈cutsS l ↔ ∃x∈l,RX x=true∧(c=x.f0∨c=x.f1):=fun c=>by
  unfold cutsS
  rw[List.mem_flatMap]
  constructor
  ·rintro ⟨x,hx,h⟩
   by_cases hr:RX x=true
   ·rw[if_pos hr] at h;exact ⟨x,hx,hr,by simpa using h⟩
   ·rw[if_neg hr] at h;cases h
  ·rintro ⟨x,hx,hr,h⟩;exact ⟨x,hx,by rw[if_pos hr];simpa using h⟩
 unfold cutC
 constructor
 ·rintro ⟨c,hc,rfl⟩
  rw[sortC_mem,List.mem_map] at hc
  obtain ⟨d,hd,rfl⟩:=hc
  obtain ⟨x,hx,hr,h⟩:=(hmem d).1 hd
  have rr:=(RX_RR (w x hx)).1 hr
  refine ⟨x,hx,rr,?_⟩
  rcases h with rfl | rfl
  ·exact .inl rr.1.canon.symm
  ·exact .inr rr.2.1.canon.symm
 ·rintro ⟨x,hx,rr,h⟩
  have hr:=(RX_RR (w x hx)).2 rr
  rcases h with rfl | rfl
  ·exact ⟨cnC x.f0,by rw[sortC_mem];exact List.mem_map_of_mem ((hmem _).2 ⟨x,hx,hr,.inl rfl⟩),rr.1.canon⟩
  ·exact ⟨cnC x.f1,by rw[sortC_mem];exact List.mem_map_of_mem ((hmem _).2 ⟨x,hx,hr,.inr rfl⟩),rr.2.1.canon⟩
theorem cutC_up {l:List Sp} (w:∀x∈l,WS x):UpC (cutC l):=by
 have hcc:∀c∈cutC l,CC (ct c):=fun c hc=>by
  obtain ⟨x,hx,rr,h | h⟩:=(cutC_mem w (ct c)).1 ⟨c,hc,rfl⟩
  ·rw[←h];exact rr.1
  ·rw[←h];exact rr.2.1
 refine ⟨hcc,?_⟩
 refine(List.Pairwise.and_mem.1 (sortC_up ((cutsS l).map cnC))).imp ?_
 rintro a b ⟨ha,hb,h⟩
 rw[ltC_iff] at h
 exact(cmp2_pos (hcc a ha) (hcc b hb)).1 (lex_lt.2 h)
def pcs:List Ct→List Sp
 | c :: d :: C=>⟨c,d⟩ :: pcs (d :: C)
 | _=>[]
theorem refineL_ok {x:List Sp} (h:GoodL x):∀(C:List Ct) (p:Ct) (i:Nat),UpC (p :: C)→i≤x.length→(∀(j:Nat) (h:j < x.length),j < i→pos (hiS x[j])≤pos (ct p))→refineL x p C i=(pcs (p :: C)).map (fun s=>(s,anyB x (pos (lo s))))
  | [],p,i,_,_,_=>rfl
  | q :: C,p,i,hC,hi,hb=>by
    obtain ⟨a1,a2,a3⟩:=has_ok h (hC.1 p List.mem_cons_self) hi hb
    have hpq:pos (ct p) < pos (ct q):=(List.pairwise_cons.1 hC.2).1 q List.mem_cons_self
    have hC':UpC (q :: C):=⟨fun e he=>hC.1 e (List.mem_cons_of_mem _ he),(List.pairwise_cons.1 hC.2).2⟩
    have e:hasV (ct p) x (advF hiS (ct p) x i)=anyB x (pos (ct p)):=by rw[Bool.eq_iff_iff,a3,anyB_iff (fun s hs=>(h.1 s hs).wsM)]
    show(⟨p,q⟩,hasV (ct p) x (advF hiS (ct p) x i)) :: refineL x q C (advF hiS (ct p) x i)=_
    rw[e,refineL_ok h C q _ hC' a1 (fun j hj h1=>by have:=a2 j hj h1;omega)]
    rfl
theorem selR_map (f:Sp→Bool):∀l:List Sp,selR (l.map (fun s=>(s,f s)))=l.filter f
  | []=>rfl
  | s :: l=>by
    have ih:=selR_map f l
    unfold selR at ih ⊢
    rw[List.map_cons,List.filter_cons,List.filter_cons]
    by_cases h:f s=true
    · rw[if_pos h,if_pos h,List.map_cons,ih]
    · rw[if_neg h,if_neg h,ih]
theorem pcs_len:∀C:List Ct,(pcs C).length≤C.length
 | []=>Nat.le_refl _
 | [_]=>Nat.zero_le _
 | c :: d :: C=>by have:=pcs_len (d :: C);simp only[pcs,List.length_cons] at this ⊢;omega
theorem algebra_Refine.ev (l:List Sp) (hl:l.length≤100000) (w:∀x∈l,WS x):Ev (fun k=>algebra_Refine.f k l) ((pcs (cutC l)).filter (fun s=>anyB l (pos (lo s)))):=by
  obtain ⟨g1,g2⟩:=listS_ok l w
  have hn:∀n,anyB (listS l) n=anyB l n:=fun n=>by rw[Bool.eq_iff_iff,anyB_iff (fun s hs=>(g1.1 s hs).wsM),anyB_iff w,g2]
  have hc:=cutC_len l
  have hs:=listS_len l
  refine Ev.bind (algebra_Cuts.ev l hl) (Ev.bind (a:=listS l) ⟨0,fun k _=>by unfold span_List.f;rw[if_pos (by omega)]⟩ ?_)
  have e:selR (piecesR (listS l) (cutC l))=(pcs (cutC l)).filter (fun s=>anyB l (pos (lo s))):=by
    have hu:=cutC_up w
    unfold piecesR
    cases hC:cutC l with
    | nil=>rfl
    | cons p C =>
      rw[hC] at hu
      have h0:rd_T33 (p :: C) 0=p:=rfl
      rw[h0,List.drop_one,List.tail_cons,refineL_ok g1 C p 0 hu (Nat.zero_le _) (fun j _ h=>by omega),selR_map]
      congr 1
      funext s
      exact hn _
  exact ⟨0,fun k _=>by rw[if_pos ⟨by omega,by omega,by omega⟩,e]⟩
def outS (ψ:Option Int→Option Int→Option Int) (x y:List Sg) (rs:List Sp):List Sg :=
 rs.flatMap (fun s=>match ψ (valM x (pos (lo s))) (valM y (pos (lo s))) with | some v=>[(⟨s,v⟩:Sg)] | none=>[])
def Tells (φ:Int→Bool→Int→Bool→Option (Int×Bool)) (ψ:Option Int→Option Int→Option Int):Prop :=
 ∀u v,∃z,φ (o2 u).1 (o2 u).2 (o2 v).1 (o2 v).2=some z∧(if z.2=true then some z.1 else none)=ψ u v
theorem pieces_l0 {x y:List Sg} (hx:OkM x) (hy:OkM y) {φ:Int→Bool→Int→Bool→Option (Int×Bool)} {ψ:Option Int→Option Int→Option Int} (hφ:Tells φ ψ):∀(rs:List Sp) (i1 i2:Nat) (out:List Sg),(∀s∈rs,CC (lo s))→rs.Pairwise (fun a b=>pos (lo a)≤pos (lo b))→i1≤x.length→i2≤y.length→(∀s∈rs,∀(j:Nat) (h:j < x.length),j < i1→pos (hiP x[j])≤pos (lo s))→(∀s∈rs,∀(j:Nat) (h:j < y.length),j < i2→pos (hiP y[j])≤pos (lo s)) →
    pieces.l0 φ x y rs i1 i2 out=some (out ++ outS ψ x y rs)
  | [],_,_,out,_,_,_,_,_,_=>by show some out=_;rw[show outS ψ x y []=[] from rfl,List.append_nil]
  | s :: rs,i1,i2,out,hcc,hp,h1,h2,b1,b2=>by
    have hs:=hcc s List.mem_cons_self
    obtain ⟨p1,p2⟩:=List.pairwise_cons.1 hp
    obtain ⟨u1,u2,u3⟩:=val_ok hx hs h1 (b1 s List.mem_cons_self)
    obtain ⟨v1,v2,v3⟩:=val_ok hy hs h2 (b2 s List.mem_cons_self)
    obtain ⟨z,z1,z2⟩:=hφ (valM x (pos (lo s))) (valM y (pos (lo s)))
    have el:loS s=lo s:=rfl
    unfold pieces.l0
    rw[el,u3,v3,z1,Option.bind_some,pieces_l0 hx hy hφ rs _ _ _ (fun t ht=>hcc t (List.mem_cons_of_mem _ ht)) p2 u1 v1 (fun t ht j hj h=>by have:=u2 j hj h;have:=p1 t ht;omega) (fun t ht j hj h=>by have:=v2 j hj h;have:=p1 t ht;omega)]
    congr 1
    have eo:outS ψ x y (s :: rs)=(match ψ (valM x (pos (lo s))) (valM y (pos (lo s))) with | some v=>[(⟨s,v⟩:Sg)] | none=>[]) ++ outS ψ x y rs:=rfl
    rw[eo,←z2,←List.append_assoc]
    by_cases hz:z.2=true
    · rw[if_pos hz,if_pos hz]
    · rw[if_neg hz,if_neg hz,List.append_nil]
theorem valM_congr {n m:Int}:∀ {l:List Sg},(∀s∈l,hasB s.f0 n=hasB s.f0 m)→valM l n=valM l m
 | [],_=>rfl
 | s :: l,h=>by rw[valM_cons,valM_cons,h s List.mem_cons_self,valM_congr (fun t ht=>h t (List.mem_cons_of_mem _ ht))]
theorem Fine.val {x:List Sg} {L:List Sp} (hx:OkM x) (hL:∀s∈x,s.f0∈L) {c d:Ct} {C:List Ct} (h:Fine L (c :: d :: C)) (hC:UpC (c :: d :: C)) {n:Int} (h1:pos (ct c)≤n) (h2:n < pos (ct d)):valM x n=valM x (pos (ct c)):=by
  have hge:∀p:Int×Int,(pos p≤pos (ct c)∨∃e∈c :: d :: C,ct e=p)→pos p≤pos (ct c)∨pos (ct d)≤pos p:=by
    rintro p (g | ⟨e,he,g⟩)
    · exact .inl g
    · rcases List.mem_cons.1 he with he | he
      · left;rw[←g,he];exact Int.le_refl _
      · right;rw[←g]
        rcases List.mem_cons.1 he with he | he
        · rw[he];exact Int.le_refl _
        · have:=(List.pairwise_cons.1 (List.pairwise_cons.1 hC.2).2).1 e he;omega
  refine valM_congr (fun s hs=>?_)
  have r:=hx.1 s hs
  obtain ⟨g1,g2⟩:=h s.f0 (hL s hs) r
  have k1:=hge _ g1
  have k2:=hge _ g2
  rw[Bool.eq_iff_iff,hasB_RR r,hasB_RR r]
  omega
theorem valM_any {x:List Sg} {L:List Sp} (hx:OkM x) (hL:∀s∈x,s.f0∈L) {n:Int} (h:¬Any L n):valM x n=none :=
 valM_none.2 (fun s hs g=>h ⟨s.f0,hL s hs,hx.1 s hs,(hasB_RR (hx.1 s hs)).1 g⟩)
theorem out_ok {x y:List Sg} {L:List Sp} (hx:OkM x) (hy:OkM y) (hLx:∀s∈x,s.f0∈L) (hLy:∀s∈y,s.f0∈L) (w:∀s∈L,WS s) {ψ:Option Int→Option Int→Option Int} (h0:ψ none none=none):∀(C:List Ct) (c:Ct),UpC (c :: C)→Fine L (c :: C) →
    (∀n,pos (ct c)≤n→valM (outS ψ x y ((pcs (c :: C)).filter (fun s=>anyB L (pos (lo s))))) n=ψ (valM x n) (valM y n))∧OkM (outS ψ x y ((pcs (c :: C)).filter (fun s=>anyB L (pos (lo s)))))∧∀o∈outS ψ x y ((pcs (c :: C)).filter (fun s=>anyB L (pos (lo s)))),pos (ct c)≤pos (lo o.f0)
  | [], c,hC,hF=>by
    refine ⟨fun n hn=>?_,OkM_nil,fun o ho=>by cases ho⟩
    have hA:¬Any L n:=by
      rintro ⟨s,hs,hr,h1,h2⟩
      obtain ⟨_,g | ⟨e,he,g⟩⟩:=hF s hs hr
      · have:pos (hi s)≤pos (ct c):=g
        omega
      · rcases List.mem_singleton.1 he with rfl
        rw[←g] at h2;omega
    rw[valM_any hx hLx hA,valM_any hy hLy hA,h0]
    rfl
  | d :: C, c,hC,hF=>by
    have hcd:pos (ct c) < pos (ct d):=(List.pairwise_cons.1 hC.2).1 d List.mem_cons_self
    have hC':UpC (d :: C):=⟨fun e he=>hC.1 e (List.mem_cons_of_mem _ he),(List.pairwise_cons.1 hC.2).2⟩
    obtain ⟨i1,i2,i3⟩:=out_ok hx hy hLx hLy w h0 C d hC' (hF.tail hC)
    have hr:RR (⟨c,d⟩:Sp):=⟨hC.1 c List.mem_cons_self,hC.1 d (List.mem_cons_of_mem _ List.mem_cons_self),hcd⟩
    have hlow:∀n,n < pos (ct d)→valM (outS ψ x y ((pcs (d :: C)).filter (fun s=>anyB L (pos (lo s))))) n=none:=fun n hn=>valM_lo i2 (fun s hs=>by have:=i3 s hs;omega)
    have e:(pcs (c :: d :: C)).filter (fun s=>anyB L (pos (lo s)))=(if anyB L (pos (ct c))=true then [(⟨c,d⟩:Sp)] else []) ++ (pcs (d :: C)).filter (fun s=>anyB L (pos (lo s))):=by
      show((⟨c,d⟩:Sp) :: pcs (d :: C)).filter _=_
      rw[List.filter_cons]
      have:lo (⟨c,d⟩:Sp)=ct c:=rfl
      rw[this]
      by_cases g:anyB L (pos (ct c))=true
      · rw[if_pos g,if_pos g];rfl
      · rw[if_neg g,if_neg g];rfl
    rw[e]
    by_cases g:anyB L (pos (ct c))=true
    · rw[if_pos g]
      have eo:outS ψ x y ([(⟨c,d⟩:Sp)] ++ (pcs (d :: C)).filter (fun s=>anyB L (pos (lo s))))=(match ψ (valM x (pos (ct c))) (valM y (pos (ct c))) with | some v=>[(⟨⟨c,d⟩,v⟩:Sg)] | none=>[]) ++ outS ψ x y ((pcs (d :: C)).filter (fun s=>anyB L (pos (lo s)))):=rfl
      rw[eo]
      generalize hO:outS ψ x y ((pcs (d :: C)).filter (fun s=>anyB L (pos (lo s))))=O at i1 i2 i3 hlow
      cases hv:ψ (valM x (pos (ct c))) (valM y (pos (ct c))) with
      | none =>
        dsimp only
        rw[List.nil_append]
        refine ⟨fun n hn=>?_,i2,fun o ho=>by have:=i3 o ho;omega⟩
        by_cases k:n < pos (ct d)
        · rw[hlow n k,hF.val hx hLx hC hn k,hF.val hy hLy hC hn k,hv]
        · exact i1 n (by omega)
      | some v =>
        dsimp only
        refine ⟨fun n hn=>?_,⟨fun s hs=>?_,List.pairwise_append.2 ⟨List.pairwise_singleton _ _,i2.2,fun a ha b hb=>?_⟩⟩,fun o ho=>?_⟩
        · by_cases k:n < pos (ct d)
          · rw[hF.val hx hLx hC hn k,hF.val hy hLy hC hn k,hv,List.singleton_append,valM_head hr hn k]
          · rw[List.singleton_append,valM_skip hr (fun q=>k q.2)]
            exact i1 n (by omega)
        · rcases List.mem_append.1 hs with hs | hs
          · rcases List.mem_singleton.1 hs with rfl;exact hr
          · exact i2.1 s hs
        · rcases List.mem_singleton.1 ha with rfl
          exact i3 b hb
        · rcases List.mem_append.1 ho with ho | ho
          · rcases List.mem_singleton.1 ho with rfl;exact Int.le_refl _
          · have:=i3 o ho;omega
    · rw[if_neg g,List.nil_append]
      refine ⟨fun n hn=>?_,i2,fun o ho=>by have:=i3 o ho;omega⟩
      by_cases k:n < pos (ct d)
      · have hA:¬Any L n:=fun q=>g ((anyB_iff w).2 ((hF.piece hC hn k).1 q))
        rw[hlow n k,valM_any hx hLx hA,valM_any hy hLy hA,h0]
      · exact i1 n (by omega)
theorem outS_len {ψ:Option Int→Option Int→Option Int} {x y:List Sg}:∀rs:List Sp,(outS ψ x y rs).length≤rs.length
  | []=>Nat.le_refl _
  | s :: rs=>by
    have ih:=outS_len (ψ:=ψ) (x:=x) (y:=y) rs
    have eo:outS ψ x y (s :: rs)=(match ψ (valM x (pos (lo s))) (valM y (pos (lo s))) with | some v=>[(⟨s,v⟩:Sg)] | none=>[]) ++ outS ψ x y rs:=rfl
    rw[eo,List.length_append,List.length_cons]
    cases ψ (valM x (pos (lo s))) (valM y (pos (lo s))) <;> simp <;> omega
theorem mapalg_spans.ev (l:List Sg) (w:WM l) (hl:l.length < 1000000):Ev (fun k=>mapalg_spans.f k l) (spsM (mergeM l)) :=
 Ev.bind (mapalg_Merge.ev l w hl) (mapalg_spans.l0_ev (mergeM l) (by have:=mergeM_len l;omega) (mergeM l).length 0 (by omega))
theorem pcs_up:∀(C:List Ct),UpC C→(∀s∈pcs C,CC (lo s)∧∀c∈C.head?,pos (ct c)≤pos (lo s))∧(pcs C).Pairwise (fun a b=>pos (lo a)≤pos (lo b))
  | [],_=>⟨fun s hs=>(by cases hs),List.Pairwise.nil⟩
  | [_],_=>⟨fun s hs=>(by cases hs),List.Pairwise.nil⟩
  | c :: d :: C,hC=>by
    have hcd:pos (ct c) < pos (ct d):=(List.pairwise_cons.1 hC.2).1 d List.mem_cons_self
    have hC':UpC (d :: C):=⟨fun e he=>hC.1 e (List.mem_cons_of_mem _ he),(List.pairwise_cons.1 hC.2).2⟩
    obtain ⟨i1,i2⟩:=pcs_up (d :: C) hC'
    refine ⟨fun s hs=>?_,List.pairwise_cons.2 ⟨fun b hb=>?_,i2⟩⟩
    · rcases List.mem_cons.1 hs with rfl | hs
      · exact ⟨hC.1 c List.mem_cons_self,fun e he=>by obtain rfl:=Option.some.inj he;exact Int.le_refl _⟩
      · have h1:=(i1 s hs).2 d rfl
        exact ⟨(i1 s hs).1,fun e he=>by obtain rfl:=Option.some.inj he;omega⟩
    · have h1:=(i1 b hb).2 d rfl
      show pos (ct c)≤pos (lo b)
      omega
theorem pieces.ev (a b:List Sg) (wa:WM a) (wb:WM b) (la:a.length≤10000) (lb:b.length≤10000) {φ:Int→Bool→Int→Bool→Option (Int×Bool)} {ψ:Option Int→Option Int→Option Int} (hφ:Tells φ ψ) (h0:ψ none none=none) :
    ∃R,Ev (fun k=>pieces.f k φ a b) R∧OkM R∧CanM R∧R.length≤2 * (a.length+b.length)∧∀n,valM R n=ψ (valM (mergeM a) n) (valM (mergeM b) n):=by
  have e1:=mapalg_Merge.ev a wa (by omega)
  have e2:=mapalg_Merge.ev b wb (by omega)
  have e3:=mapalg_spans.ev a wa (by omega)
  have e4:=mapalg_spans.ev b wb (by omega)
  have hx:=mergeM_ok wa
  have hy:=mergeM_ok wb
  have lx:=mergeM_len a
  have ly:=mergeM_len b
  generalize mergeM a=x at e1 e3 hx lx
  generalize mergeM b=y at e2 e4 hy ly
  have w:∀s∈spsM x ++ spsM y,WS s:=fun s hs=>by
    rcases List.mem_append.1 hs with hs | hs
    · obtain ⟨g,hg,rfl⟩:=List.mem_map.1 hs;exact hx.wm g hg
    · obtain ⟨g,hg,rfl⟩:=List.mem_map.1 hs;exact hy.wm g hg
  have hl:(spsM x ++ spsM y).length=x.length+y.length:=by rw[List.length_append,spsM_len,spsM_len]
  have hLx:∀s∈x,s.f0∈spsM x ++ spsM y:=fun s hs=>List.mem_append_left _ (List.mem_map_of_mem hs)
  have hLy:∀s∈y,s.f0∈spsM x ++ spsM y:=fun s hs=>List.mem_append_right _ (List.mem_map_of_mem hs)
  have e5:=algebra_Refine.ev (spsM x ++ spsM y) (by omega) w
  have hU:=cutC_up w
  have hM:=cutC_mem w
  have hcl:=cutC_len (spsM x ++ spsM y)
  have hrl:=List.length_filter_le (fun s=>anyB (spsM x ++ spsM y) (pos (lo s))) (pcs (cutC (spsM x ++ spsM y)))
  have hpl:=pcs_len (cutC (spsM x ++ spsM y))
  have hol:=outS_len (ψ:=ψ) (x:=x) (y:=y) ((pcs (cutC (spsM x ++ spsM y))).filter (fun s=>anyB (spsM x ++ spsM y) (pos (lo s))))
  have e6:pieces.l0 φ x y ((pcs (cutC (spsM x ++ spsM y))).filter (fun s=>anyB (spsM x ++ spsM y) (pos (lo s)))) 0 0 []=some (outS ψ x y ((pcs (cutC (spsM x ++ spsM y))).filter (fun s=>anyB (spsM x ++ spsM y) (pos (lo s))))):=by
    obtain ⟨p1,p2⟩:=pcs_up _ hU
    rw[pieces_l0 hx hy hφ _ 0 0 [] (fun s hs=>(p1 s (List.mem_filter.1 hs).1).1) (p2.filter _) (Nat.zero_le _) (Nat.zero_le _) (fun _ _ j _ h=>by omega) (fun _ _ j _ h=>by omega),List.nil_append]
  have hO : (∀n,valM (outS ψ x y ((pcs (cutC (spsM x ++ spsM y))).filter (fun s=>anyB (spsM x ++ spsM y) (pos (lo s))))) n=ψ (valM x n) (valM y n))∧OkM (outS ψ x y ((pcs (cutC (spsM x ++ spsM y))).filter (fun s=>anyB (spsM x ++ spsM y) (pos (lo s))))):=by
    cases hC:cutC (spsM x ++ spsM y) with
    | nil =>
      refine ⟨fun n=>?_,OkM_nil⟩
      have hA:¬Any (spsM x ++ spsM y) n:=by
        rintro ⟨s,hs,hr,_⟩
        obtain ⟨c,hc,_⟩:=(hM (lo s)).2 ⟨s,hs,hr,.inl rfl⟩
        rw[hC] at hc;cases hc
      rw[valM_any hx hLx hA,valM_any hy hLy hA,h0]
      rfl
    | cons c C =>
      rw[hC] at hU hM
      have hF:Fine (spsM x ++ spsM y) (c :: C):=fun s hs hr=>⟨.inr ((hM _).2 ⟨s,hs,hr,.inl rfl⟩),.inr ((hM _).2 ⟨s,hs,hr,.inr rfl⟩)⟩
      obtain ⟨o1,o2,o3⟩:=out_ok hx hy hLx hLy w h0 C c hU hF
      refine ⟨fun n=>?_,o2⟩
      by_cases hn:pos (ct c)≤n
      · exact o1 n hn
      · have hA:¬Any (spsM x ++ spsM y) n:=by
          rintro ⟨s,hs,hr,h1,_⟩
          obtain ⟨e,he,h⟩:=(hM (lo s)).2 ⟨s,hs,hr,.inl rfl⟩
          rw[←h] at h1
          rcases List.mem_cons.1 he with rfl | he
          · omega
          · have:=(List.pairwise_cons.1 hU.2).1 e he;omega
        rw[valM_lo o2 (fun s hs=>by have:=o3 s hs;omega),valM_any hx hLx hA,valM_any hy hLy hA,h0]
  obtain ⟨o1,o2⟩:=hO
  have e7:=mapalg_Merge.ev _ o2.wm (by omega)
  refine ⟨mergeM (outS ψ x y ((pcs (cutC (spsM x ++ spsM y))).filter (fun s=>anyB (spsM x ++ spsM y) (pos (lo s))))),?_,mergeM_ok o2.wm,mergeM_can _,by have:=mergeM_len (outS ψ x y ((pcs (cutC (spsM x ++ spsM y))).filter (fun s=>anyB (spsM x ++ spsM y) (pos (lo s)))));omega,fun n=>(mergeM_val o2 o2.wm n).trans (o1 n)⟩
  refine Ev.bind e1 (Ev.bind e2 (Ev.bind e3 (Ev.bind e4 ?_)))
  have hc:x.length < 1000000∧y.length < 1000000∧(spsM x).length+(spsM y).length < 1000000:=by rw[spsM_len,spsM_len];omega
  simp only[hc,and_self,if_true]
  refine Ev.bind e5 ?_
  have hr:((pcs (cutC (spsM x ++ spsM y))).filter (fun s=>anyB (spsM x ++ spsM y) (pos (lo s)))).length < 1000000:=by omega
  simp only[hr,if_true,e6,Option.bind_some]
  exact e7
def addQ (out:List Sp) (c d:Ct):List Sp:=out ++ [sp (ct c) (ct d)]
theorem minus_l0 (l m:List Sp) (hl:l.length≤100000) (hm':m.length≤100000) (w:∀x∈l,WS x) (wm:∀x∈m,WS x) (C:List Ct) (hC:UpC C) (hCl:C.length≤1000000) (r:List Sp):∀(j i:Nat) (out:List Sp),i+j=C.length→out.length≤i →
    Ev (fun k=>bocageref03_List.f k (goP (fun n=>anyB l n && !anyB m n) addQ out (C.drop i))) r→Ev (fun k=>bocageref03_Minus.l0 k l m C out (i:Int)) r:=by
  intro j
  induction j with
  | zero =>
    intro i out hin ho h
    have hw:wrap64 ((i:Int)+1)=((i+1:Nat):Int):=by unfold wrap64;omega
    rw[List.drop_of_length_le (by omega)] at h
    refine Ev.step (f:=fun k=>(bocageref03_List.f k out).bind fun t=>some t) (fun k=>?_) (Ev.bind h (Ev.now _))
    rw[bocageref03_Minus.l0,hw,if_neg (by omega)]
  | succ j ih =>
    intro i out hin ho h
    have hlt:i < C.length:=by omega
    have hw:wrap64 ((i:Int)+1)=((i+1:Nat):Int):=by unfold wrap64;omega
    by_cases h2:i+1 < C.length
    · have hlow:=hC.low h2
      have hcc:=hC.1 C[i] (List.getElem_mem hlt)
      rw[List.drop_eq_getElem_cons hlt,List.drop_eq_getElem_cons h2] at h
      replace h:Ev (fun k=>bocageref03_List.f k (goP (fun n=>anyB l n && !anyB m n) addQ (if (anyB l (pos (ct C[i])) && !anyB m (pos (ct C[i])))=true then addQ out C[i] C[i+1] else out) (C[i+1] :: C.drop (i+1+1)))) r:=h
      rw[←List.drop_eq_getElem_cons h2] at h
      obtain ⟨b,hb⟩:=Next_pos hcc hlow 1 (by omega)
      refine Ev.step (f:=fun k=>(bocageref02_Next.f k C[i].f0 C[i].f1).bind fun t=>(bocageref03_Any.f k l t.1).bind fun u=>if u=true then((bocageref03_Any.f k m t.1).bind fun v=>if v=true then bocageref03_Minus.l0 k l m C out ((i+1:Nat):Int) else bocageref03_Minus.l0 k l m C (addQ out C[i] C[i+1]) ((i+1:Nat):Int)) else bocageref03_Minus.l0 k l m C out ((i+1:Nat):Int)) (fun k=>?_) ?_
      · rw[bocageref03_Minus.l0,hw,if_pos (by omega),if_pos (by omega),if_pos (by omega),rdC hlt,rdC h2]
        congr 1;funext t
        congr 1;funext u
        by_cases hu:u=true
        · rw[if_pos hu,if_pos hu]
          congr 1;funext v
          by_cases hv:v=true
          · rw[if_pos hv,if_pos hv]
          · rw[if_neg hv,if_neg hv,if_pos (by omega),if_pos (by omega)];rfl
        · rw[if_neg hu,if_neg hu]
      · refine Ev.bind (a:=(pos (ct C[i]),b)) ⟨1,fun k hk=>at_rounds (g:=fun k=>bocageref02_Next.f k C[i].f0 C[i].f1) (bocageref02_Next.mono _ _) hk hb⟩ ?_
        refine Ev.bind (bocageref03_Any.ev l (by omega) w (pos_I64 hcc hlow)) ?_
        by_cases ha:anyB l (pos (ct C[i]))=true
        · simp only[ha,if_true,Bool.true_and] at h ⊢
          refine Ev.bind (bocageref03_Any.ev m (by omega) wm (pos_I64 hcc hlow)) ?_
          by_cases hb2:anyB m (pos (ct C[i]))=true
          · simp only[hb2,if_true,Bool.not_true,Bool.false_eq_true,if_false] at h ⊢
            exact ih (i+1) _ (by omega) (by omega) h
          · have hb':anyB m (pos (ct C[i]))=false:=by simpa using hb2
            simp only[hb',Bool.false_eq_true,if_false,Bool.not_false,if_true] at h ⊢
            exact ih (i+1) _ (by omega) (by unfold addQ;rw[List.length_append];show out.length+1≤_;omega) h
        · have ha':anyB l (pos (ct C[i]))=false:=by simpa using ha
          simp only[ha',Bool.false_eq_true,if_false,Bool.false_and] at h ⊢
          exact ih (i+1) _ (by omega) (by omega) h
    · have hd:C.drop i=[C[i]]:=by rw[List.drop_eq_getElem_cons hlt,List.drop_of_length_le (by omega)]
      rw[hd] at h
      refine Ev.step (f:=fun k=>(bocageref03_List.f k out).bind fun t=>some t) (fun k=>?_) (Ev.bind h (Ev.now _))
      rw[bocageref03_Minus.l0,hw,if_neg (by omega)]
theorem goQ_ok (f:Int→Bool) (A:Int→Prop):∀(C:List Ct) (c:Ct) (out:List Sp),UpC (c :: C)→(∀o∈out,RR o)→(∀n,Any out n ↔ A n∧n < pos (ct c)) →
    (∀n,A n→n < pos (ct c)∨∃d∈C,n < pos (ct d))→(∀a∈c :: C,∀b∈c :: C,(∀e∈c :: C,pos (ct e)≤pos (ct a)∨pos (ct b)≤pos (ct e))→∀n,pos (ct a)≤n→n < pos (ct b)→(A n ↔ f (pos (ct a))=true)) →
    (∀o∈goP f addQ out (c :: C),RR o)∧(∀n,Any (goP f addQ out (c :: C)) n ↔ A n)∧(goP f addQ out (c :: C)).length≤out.length+C.length
  | [],c,out,hC,hr,ha,hend,hp=>by
    refine ⟨hr,fun n=>?_,Nat.le_refl _⟩
    show Any out n ↔ _
    rw[ha]
    refine ⟨fun h=>h.1,fun h=>⟨h,?_⟩⟩
    rcases hend n h with h | ⟨d,hd,_⟩
    · exact h
    · cases hd
  | d :: C,c,out,hC,hr,ha,hend,hp=>by
    have hcd:pos (ct c) < pos (ct d):=(List.pairwise_cons.1 hC.2).1 d List.mem_cons_self
    have hC':UpC (d :: C):=⟨fun e he=>hC.1 e (List.mem_cons_of_mem _ he),(List.pairwise_cons.1 hC.2).2⟩
    have cc:=hC.1 c List.mem_cons_self
    have cd:=hC.1 d (List.mem_cons_of_mem _ List.mem_cons_self)
    have hge:∀e∈c :: d :: C,pos (ct e)≤pos (ct c)∨pos (ct d)≤pos (ct e):=fun e he=>by
      rcases List.mem_cons.1 he with he | he
      · rw[he];exact .inl (Int.le_refl _)
      · rcases List.mem_cons.1 he with he | he
        · rw[he];exact .inr (Int.le_refl _)
        · have:=(List.pairwise_cons.1 hC'.2).1 e he;exact .inr (by omega)
    have hpiece:=hp c List.mem_cons_self d (List.mem_cons_of_mem _ List.mem_cons_self) hge
    have next:∀out',(∀o∈out',RR o)→out'.length≤out.length+1→(∀n,Any out' n ↔ A n∧n < pos (ct d)) →
        (∀o∈goP f addQ out' (d :: C),RR o)∧(∀n,Any (goP f addQ out' (d :: C)) n ↔ A n)∧(goP f addQ out' (d :: C)).length≤out.length+(C.length+1):=fun out' g1 g2 g3=>by
      obtain ⟨k1,k2,k3⟩:=goQ_ok f A C d out' hC' g1 g3 (fun n hn=>by
        rcases hend n hn with h | ⟨e,he,h⟩
        · left;omega
        · rcases List.mem_cons.1 he with he | he
          · rw[he] at h;exact .inl h
          · exact .inr ⟨e,he,h⟩) (fun a ha' b hb hab=>by
        refine hp a (List.mem_cons_of_mem _ ha') b (List.mem_cons_of_mem _ hb) (fun e he=>?_)
        rcases List.mem_cons.1 he with he | he
        · left;rw[he]
          rcases List.mem_cons.1 ha' with h | h
          · rw[h];omega
          · have:=(List.pairwise_cons.1 hC.2).1 a (List.mem_cons_of_mem _ h);omega
        · exact hab e he)
      exact ⟨k1,k2,by omega⟩
    show(∀o∈goP f addQ (if f (pos (ct c))=true then addQ out c d else out) (d :: C),RR o)∧(∀n,Any (goP f addQ (if f (pos (ct c))=true then addQ out c d else out) (d :: C)) n ↔ A n)∧(goP f addQ (if f (pos (ct c))=true then addQ out c d else out) (d :: C)).length≤_
    by_cases hx:f (pos (ct c))=true
    · rw[if_pos hx]
      have hr1:RR (sp (ct c) (ct d)):=⟨cc,cd,hcd⟩
      refine next _ (fun o ho=>?_) (by unfold addQ;rw[List.length_append];exact Nat.le_refl _) (fun n=>?_)
      · rcases List.mem_append.1 ho with ho | ho
        · exact hr o ho
        · rcases List.mem_singleton.1 ho with rfl;exact hr1
      · unfold addQ
        rw[Any_append,Any_one,ha]
        constructor
        · rintro (⟨h1,h2⟩ | ⟨_,h1,h2⟩)
          · exact ⟨h1,by omega⟩
          · exact ⟨(hpiece n h1 h2).2 hx,h2⟩
        · rintro ⟨h1,h2⟩
          by_cases h3:n < pos (ct c)
          · exact .inl ⟨h1,h3⟩
          · exact .inr ⟨hr1,by show pos (ct c)≤n;omega,h2⟩
    · rw[if_neg hx]
      refine next _ hr (by omega) (fun n=>?_)
      rw[ha]
      refine ⟨fun h=>⟨h.1,by omega⟩,fun h=>⟨h.1,?_⟩⟩
      by_cases h3:n < pos (ct c)
      · exact h3
      · exact absurd ((hpiece n (by omega) h.2).1 h.1) hx
theorem RR.ws {x:Sp} (h:RR x):WS x:=by
 have key:∀p:Int×Int,CC p→I64 p.2:=fun p hp=>by
  rcases hp with e | e | ⟨a,e,h1,h2⟩
  ·rw[e];exact ⟨by decide,by decide⟩
  ·rw[e];exact ⟨by decide,by decide⟩
  ·rw[e];exact ⟨by show -9223372036854775808≤a;omega,h2⟩
 exact ⟨key _ h.1,key _ h.2.1⟩
theorem bocageref03_Minus.ev (l m:List Sp) (hl:l.length≤10000) (hm:m.length≤10000) (w:∀x∈l,WS x) (wm:∀x∈m,WS x) :
    ∃R,Ev (fun k=>bocageref03_Minus.f k l m) R∧GoodL R∧R.length≤2 * (l.length+m.length)∧∀n,Any R n ↔ Any l n∧¬Any m n:=by
  have hlen:(l ++ m).length=l.length+m.length:=List.length_append
  have wlm:∀x∈l ++ m,WS x:=fun x hx=>(List.mem_append.1 hx).elim (w x) (wm x)
  obtain ⟨C,c1,c2,c3,c4,c5⟩:=bocageref03_Cuts.ev (l ++ m) (by omega) wlm
  have hin:∀x∈l ++ m,RR x→(∃c∈C,ct c=lo x)∧∃c∈C,ct c=hi x:=fun x hx hr=>⟨(c4 _).2 ⟨x,hx,hr,.inl rfl⟩,(c4 _).2 ⟨x,hx,hr,.inr rfl⟩⟩
  -- what the pieces hold
  have hq : (∀o∈goP (fun n=>anyB l n && !anyB m n) addQ [] C,RR o)∧(∀n,Any (goP (fun n=>anyB l n && !anyB m n) addQ [] C) n ↔ Any l n∧¬Any m n)∧(goP (fun n=>anyB l n && !anyB m n) addQ [] C).length≤C.length:=by
    cases C with
    | nil =>
      refine ⟨fun _ h=>by(cases h),fun n=>⟨fun h=>absurd h Any_nil,?_⟩,Nat.le_refl _⟩
      rintro ⟨⟨x,hx,hr,_⟩,_⟩
      obtain ⟨⟨c,hc,_⟩,_⟩:=hin x (List.mem_append_left _ hx) hr
      cases hc
    | cons c C =>
      have const:∀(l':List Sp),(∀x∈l',x∈l ++ m)→∀a∈c :: C,∀b∈c :: C,(∀e∈c :: C,pos (ct e)≤pos (ct a)∨pos (ct b)≤pos (ct e))→∀n,pos (ct a)≤n→n < pos (ct b)→(Any l' n ↔ Any l' (pos (ct a))):=by
        intro l' hl' a _ b _ hab n h1 h2
        constructor
        · rintro ⟨x,hx,hr,hn⟩
          obtain ⟨⟨e,he,g⟩,_⟩:=hin x (hl' x hx) hr
          refine ⟨x,hx,hr,?_,by omega⟩
          rw[←g] at hn ⊢
          rcases hab e he with g1 | g1 <;> omega
        · rintro ⟨x,hx,hr,hn⟩
          obtain ⟨_,⟨e,he,g⟩⟩:=hin x (hl' x hx) hr
          refine ⟨x,hx,hr,by omega,?_⟩
          rw[←g] at hn ⊢
          rcases hab e he with g1 | g1 <;> omega
      have:=goQ_ok (fun n=>anyB l n && !anyB m n) (fun n=>Any l n∧¬Any m n) C c [] ⟨c2,c3⟩ (fun _ h=>by cases h)
        (fun n=>⟨fun h=>absurd h Any_nil,by
          rintro ⟨⟨⟨x,hx,hr,h1,_⟩,_⟩,h2⟩
          obtain ⟨⟨e,he,g⟩,_⟩:=hin x (List.mem_append_left _ hx) hr
          rw[←g] at h1
          rcases List.mem_cons.1 he with he | he
          · rw[he] at h1;omega
          · have:=(List.pairwise_cons.1 c3).1 e he;omega⟩)
        (fun n hn=>by
          obtain ⟨⟨x,hx,hr,_,h2⟩,_⟩:=hn
          obtain ⟨_,⟨e,he,g⟩⟩:=hin x (List.mem_append_left _ hx) hr
          rw[←g] at h2
          rcases List.mem_cons.1 he with he | he
          · rw[he] at h2;exact .inl h2
          · exact .inr ⟨e,he,h2⟩)
        (fun a ha b hb hab n h1 h2=>by
          rw[Bool.and_eq_true,Bool.not_eq_true',anyB_iff w,const l (fun x hx=>List.mem_append_left _ hx) a ha b hb hab n h1 h2,const m (fun x hx=>List.mem_append_right _ hx) a ha b hb hab n h1 h2]
          have e:¬Any m (pos (ct a)) ↔ anyB m (pos (ct a))=false:=by rw[←anyB_iff wm];simp
          rw[e])
      refine ⟨this.1,this.2.1,?_⟩
      have h3:=this.2.2
      rw[List.length_nil] at h3
      rw[List.length_cons];omega
  obtain ⟨q1,q2,q3⟩:=hq
  obtain ⟨R,r1,r2,r3⟩:=bocageref03_List.ev (goP (fun n=>anyB l n && !anyB m n) addQ [] C) (by omega) (fun x hx=>(q1 x hx).ws)
  have hlr:R.length≤2 * (l.length+m.length):=by
    obtain ⟨g1,g2⟩:=listS_ok (goP (fun n=>anyB l n && !anyB m n) addQ [] C) (fun x hx=>(q1 x hx).ws)
    have e:listS (goP (fun n=>anyB l n && !anyB m n) addQ [] C)=R:=g1.unique r2 (fun n=>by rw[g2,r3])
    have h1:=listS_len (goP (fun n=>anyB l n && !anyB m n) addQ [] C)
    rw[e] at h1
    omega
  refine ⟨R,?_,r2,hlr,fun n=>by rw[r3,q2]⟩
  have h0:=minus_l0 l m (by omega) (by omega) w wm C ⟨c2,c3⟩ (by omega) R C.length 0 [] (by omega) (Nat.le_refl _) (by rw[List.drop_zero];exact r1)
  refine Ev.congr (f:=fun k=>(bocageref03_Cuts.f k (l ++ m)).bind fun t=>bocageref03_Minus.l0 k l m t [] 0) (fun k=>?_) (Ev.bind c1 h0)
  unfold bocageref03_Minus.f
  simp only[Option.bind_some,List.length_nil,Nat.zero_add,List.nil_append]
  rw[if_pos (by omega),if_pos (by omega)]
theorem GoodL.ws {L:List Sp} (h:GoodL L):∀x∈L,WS x:=fun x hx=>(h.1 x hx).ws
theorem bocageref03_Meet.ev (l m:List Sp) (hl:l.length≤1000) (hm:m.length≤1000) (w:∀x∈l,WS x) (wm:∀x∈m,WS x) :
  ∃R,Ev (fun k=>bocageref03_Meet.f k l m) R∧GoodL R∧R.length≤6 * (l.length+m.length)∧∀n,Any R n ↔ Any l n∧Any m n:=by
 obtain ⟨A,a1,a2,a4,a3⟩:=bocageref03_Minus.ev l m (by omega) (by omega) w wm
 obtain ⟨B,b1,b2,b4,b3⟩:=bocageref03_Minus.ev l A (by omega) (by omega) w a2.ws
 refine ⟨B,?_,b2,by omega,fun n=>?_⟩
 ·exact Ev.bind a1 (Ev.bind b1 (Ev.now _))
 ·rw[b3,a3]
  exact ⟨fun h=>⟨h.1,Classical.byContradiction fun g=>h.2 ⟨h.1,g⟩⟩,fun h=>⟨h.1,fun g=>g.2 h.2⟩⟩
def tag (v:Int) (P:List Sp):List Sg:=P.map (fun s=>(⟨s,v⟩:Sg))
theorem tag_ok {P:List Sp} (h:GoodL P) (v:Int):OkM (tag v P):=by
 refine ⟨fun s hs=>by obtain ⟨x,hx,rfl⟩:=List.mem_map.1 hs;exact h.1 x hx,List.pairwise_map.2 ?_⟩
 exact(List.pairwise_map.1 h.2.2).imp (fun {a b} h=>Int.le_of_lt h)
theorem tag_val {P:List Sp} (h:∀x∈P,RR x) (v n:Int):valM (tag v P) n=if anyB P n=true then some v else none:=by
  induction P with
  | nil=>rfl
  | cons x P ih =>
    show valM ((⟨x,v⟩:Sg) :: tag v P) n=_
    rw[valM_cons,ih (fun y hy=>h y (List.mem_cons_of_mem _ hy))]
    have e:anyB (x :: P) n=(hasB x n || anyB P n):=rfl
    rw[e]
    by_cases g:hasB x n=true
    · simp only[g,Bool.true_or,if_true]
    · have g':hasB x n=false:=by simpa using g
      simp only[g',Bool.false_or,Bool.false_eq_true,if_false]
theorem inner_l1 (m:List Sp) (b:Bool) (x:List Sg) {i:Nat} (hi:i < x.length) (hx:x.length≤1000000) (P:List Sp) (hP:P.length≤1000000) (r:List Sg):∀(c j:Nat) (out:List Sg),j+c=P.length→out.length+c≤100000000→Ev (fun k=>bocageref16_Restrict.l0 k m b x (out ++ tag x[i].f1 (P.drop j)) ((i+1:Nat):Int)) r→Ev (fun k=>bocageref16_Restrict.l1 k m b x out (i:Int) P (j:Int)) r:=by
  intro c
  induction c with
  | zero =>
    intro j out hj ho h
    have hw:wrap64 ((i:Int)+1)=((i+1:Nat):Int):=by unfold wrap64;omega
    rw[List.drop_of_length_le (by omega)] at h
    refine Ev.step (f:=fun k=>bocageref16_Restrict.l0 k m b x out ((i+1:Nat):Int)) (fun k=>?_) (by simpa [tag] using h)
    rw[bocageref16_Restrict.l1,if_neg (by omega),hw]
  | succ c ih =>
    intro j out hj ho h
    have hlt:j < P.length:=by omega
    have hw:wrap64 ((j:Int)+1)=((j+1:Nat):Int):=by unfold wrap64;omega
    rw[List.drop_eq_getElem_cons hlt] at h
    refine Ev.step (f:=fun k=>bocageref16_Restrict.l1 k m b x (out ++ [(⟨P[j],x[i].f1⟩:Sg)]) (i:Int) P ((j+1:Nat):Int)) (fun k=>?_) (ih (j+1) (out ++ [(⟨P[j],x[i].f1⟩:Sg)]) (by omega) (by rw[List.length_append,List.length_singleton];omega) (by rw[List.append_assoc];exact h))
    rw[bocageref16_Restrict.l1,if_pos (by omega),if_pos (by omega),if_pos (by omega),if_pos (by omega),if_pos (by omega),rdS hlt,rdM hi,hw]
theorem one_part (x:Sp) (hx:RR x) (m:List Sp) (hm:m.length≤100) (wm:∀s∈m,WS s) (b:Bool):∃P P',Ev (fun k=>bocageref03_Minus.f k [x] m) P'∧(b=true→Ev (fun k=>bocageref03_Meet.f k [x] m) P)∧(b=false→P=P')∧GoodL P∧P.length≤606∧∀n,anyB P n=(hasB x n && (anyB m n == b)):=by
  have w1:∀s∈[x],WS s:=fun s hs=>by rcases List.mem_singleton.1 hs with rfl;exact hx.ws
  obtain ⟨A,a1,a2,a4,a3⟩:=bocageref03_Minus.ev [x] m (by simp) (by omega) w1 wm
  obtain ⟨B,b1,b2,b4,b3⟩:=bocageref03_Meet.ev [x] m (by simp) (by omega) w1 wm
  rw[List.length_singleton] at a4 b4
  have one:∀n,Any [x] n ↔ hasB x n=true:=fun n=>by rw[Any_one,hasB_RR hx];exact ⟨fun h=>h.2,fun h=>⟨hx,h⟩⟩
  cases b with
  | true =>
    refine ⟨B,A,a1,fun _=>b1,fun h=>(by cases h),b2,by omega,fun n=>?_⟩
    rw[Bool.eq_iff_iff,anyB_iff b2.ws,b3,one,Bool.and_eq_true,←anyB_iff wm,beq_iff_eq]
  | false =>
    refine ⟨A,A,a1,fun h=>(by cases h),fun _=>rfl,a2,by omega,fun n=>?_⟩
    rw[Bool.eq_iff_iff,anyB_iff a2.ws,a3,one,Bool.and_eq_true,←anyB_iff wm,beq_iff_eq]
    cases anyB m n <;> simp
theorem restrict_l0 (m:List Sp) (hm:m.length≤100) (wm:∀s∈m,WS s) (b:Bool) (x:List Sg) (hx:OkM x) (hl:x.length≤1000):∀(c i:Nat),i+c=x.length →
    ∃O:List Sg,OkM O∧O.length≤606 * c∧(∀s∈O,∀h:i < x.length,pos (lo x[i].f0)≤pos (lo s.f0))∧(∀n,valM O n=if (anyB m n == b)=true then valM (x.drop i) n else none) ∧
    ∀out:List Sg,out.length≤606 * i→Ev (fun k=>bocageref16_Restrict.l0 k m b x out (i:Int)) (mergeM (out ++ O)):=by
  intro c
  induction c with
  | zero =>
    intro i hic
    refine ⟨[],OkM_nil,Nat.zero_le _,fun s hs=>(by cases hs),fun n=>?_,fun out ho=>?_⟩
    · rw[List.drop_of_length_le (by omega)];show none=_;split <;> rfl
    · refine Ev.step (f:=fun k=>(bocageref16_Merge.f k out).bind fun t=>some t) (fun k=>?_) (Ev.bind (by rw[List.append_nil];exact bocageref16_Merge.ev out (by omega)) (Ev.now _))
      rw[bocageref16_Restrict.l0,if_neg (by omega)]
  | succ c ih =>
    intro i hic
    have hlt:i < x.length:=by omega
    obtain ⟨O,o1,o2,o3,o4,o5⟩:=ih (i+1) (by omega)
    have r:=hx.1 _ (List.getElem_mem hlt)
    obtain ⟨P,P',p1,p2,p3,p4,p5,p6⟩:=one_part x[i].f0 r m hm wm b
    have hin:∀s∈P,pos (lo x[i].f0)≤pos (lo s)∧pos (hi s)≤pos (hi x[i].f0):=fun s hs=>by
      have rs:=p4.1 s hs
      have h3:=rs.2.2
      have key:∀n,pos (lo s)≤n→n < pos (hi s)→pos (lo x[i].f0)≤n∧n < pos (hi x[i].f0):=fun n h1 h2=>by
        have h4:anyB P n=true:=(anyB_iff p4.ws).2 ⟨s,hs,rs,h1,h2⟩
        rw[p6,Bool.and_eq_true] at h4
        exact(hasB_RR r).1 h4.1
      have k1:=key (pos (lo s)) (Int.le_refl _) h3
      have k2:=key (pos (hi s) - 1) (by omega) (by omega)
      omega
    have tl:(tag x[i].f1 P).length=P.length:=by unfold tag;simp
    refine ⟨tag x[i].f1 P ++ O,⟨fun s hs=>?_,List.pairwise_append.2 ⟨(tag_ok p4 _).2,o1.2,fun a ha t ht=>?_⟩⟩,?_,fun s hs h=>?_,fun n=>?_,fun out ho=>?_⟩
    · rcases List.mem_append.1 hs with hs | hs
      · exact(tag_ok p4 _).1 s hs
      · exact o1.1 s hs
    · obtain ⟨s,hs,rfl⟩:=List.mem_map.1 ha
      have h1:=(hin s hs).2
      by_cases g:i+1 < x.length
      · have h2:=o3 t ht g
        have h3:=List.pairwise_iff_getElem.1 hx.2 i (i+1) hlt g (by omega)
        show pos (hi s)≤_
        omega
      · have h2 : O.length ≤ 606 * 0 := by have:c=0:=by omega
                                           rw[this] at o2;exact o2
        have:O=[]:=List.eq_nil_of_length_eq_zero (by omega)
        rw[this] at ht;cases ht
    · rw[List.length_append,tl];omega
    · rcases List.mem_append.1 hs with hs | hs
      · obtain ⟨y,hy,rfl⟩:=List.mem_map.1 hs
        exact(hin y hy).1
      · by_cases g:i+1 < x.length
        · have h2:=o3 s hs g
          have h3:=List.pairwise_iff_getElem.1 hx.2 i (i+1) hlt g (by omega)
          have h4:=r.2.2
          omega
        · have:c=0:=by omega
          rw[this] at o2
          have:O=[]:=List.eq_nil_of_length_eq_zero (by omega)
          rw[this] at hs;cases hs
    · rw[valM_append,tag_val p4.1,o4,List.drop_eq_getElem_cons hlt,valM_cons,p6]
      cases hasB x[i].f0 n <;> cases anyB m n <;> cases b <;> simp
    · have ho':(out ++ tag x[i].f1 P).length≤606 * (i+1):=by rw[List.length_append,tl];omega
      have h5:=o5 (out ++ tag x[i].f1 P) ho'
      rw[List.append_assoc] at h5
      have h6:Ev (fun k=>bocageref16_Restrict.j1 k m b x out (i:Int) P) (mergeM (out ++ (tag x[i].f1 P ++ O))):=by
        refine Ev.step (f:=fun k=>bocageref16_Restrict.l1 k m b x out (i:Int) P ((0:Nat):Int)) (fun k=>by rw[bocageref16_Restrict.j1];rfl) ?_
        refine inner_l1 m b x hlt (by omega) P (by omega) _ P.length 0 out (by omega) (by omega) ?_
        rw[List.drop_zero]
        exact h5
      have e1:bocageref03_One.f x[i].f0.f0.f0 x[i].f0.f0.f1 x[i].f0.f1.f0 x[i].f0.f1.f1=some [x[i].f0]:=rfl
      refine Ev.step (f:=fun k=>(bocageref03_Minus.f k [x[i].f0] m).bind fun t=>if b=true then(bocageref03_Meet.f k [x[i].f0] m).bind fun u=>bocageref16_Restrict.j1 k m b x out (i:Int) u else bocageref16_Restrict.j1 k m b x out (i:Int) t) (fun k=>?_) (Ev.bind p1 ?_)
      · rw[bocageref16_Restrict.l0,if_pos (by omega),if_pos (by omega),rdM hlt,e1]
        simp only[Option.bind_some]
      · cases b with
        | true=>simp only[if_true];exact Ev.bind (p2 rfl) h6
        | false=>simp only[Bool.false_eq_true,if_false];rw[←p3 rfl];exact h6
theorem bocageref16_Restrict.ev (a:List Sg) (wa:WM a) (la:a.length≤1000) (m:List Sp) (hm:m.length≤100) (wm:∀s∈m,WS s) (b:Bool) :
  ∃R,Ev (fun k=>bocageref16_Restrict.f k a m b) R∧OkM R∧CanM R∧R.length≤606000∧∀n,valM R n=if (anyB m n == b)=true then valM (mergeM a) n else none:=by
 have lx:=mergeM_len a
 obtain ⟨O,o1,o2,o3,o4,o5⟩:=restrict_l0 m hm wm b (mergeM a) (mergeM_ok wa) (by omega) (mergeM a).length 0 (by omega)
 have h:=o5 [] (Nat.zero_le _)
 rw[List.nil_append] at h
 rw[List.drop_zero] at o4
 exact ⟨mergeM O,Ev.bind (bocageref16_Merge.ev a (by omega)) h,mergeM_ok o1.wm,mergeM_can O,by have:=mergeM_len O;omega,fun n=>(mergeM_val o1 o1.wm n).trans (o4 n)⟩
def tagP (v:Int) (P:List Sp):List Sg:=P.map (fun s=>(⟨s,v⟩:Sg))
theorem tagP_ok {P:List Sp} (h:GoodL P) (v:Int):OkM (tagP v P):=by
 refine ⟨fun s hs=>by obtain ⟨x,hx,rfl⟩:=List.mem_map.1 hs;exact h.1 x hx,List.pairwise_map.2 ?_⟩
 exact(List.pairwise_map.1 h.2.2).imp (fun {a b} h=>Int.le_of_lt h)
theorem tagP_val (P:List Sp) (v n:Int):valM (tagP v P) n=if anyB P n=true then some v else none:=by
  induction P with
  | nil=>rfl
  | cons x P ih =>
    show valM ((⟨x,v⟩:Sg) :: tagP v P) n=_
    rw[valM_cons,ih]
    have e:anyB (x :: P) n=(hasB x n || anyB P n):=rfl
    rw[e]
    by_cases g:hasB x n=true
    · simp only[g,Bool.true_or,if_true]
    · have g':hasB x n=false:=by simpa using g
      simp only[g',Bool.false_or,Bool.false_eq_true,if_false]
theorem anyB_listS {l:List Sp} (w:∀s∈l,WS s) (n:Int):anyB (listS l) n=anyB l n:=by
 obtain ⟨g1,g2⟩:=listS_ok l w
 rw[Bool.eq_iff_iff,anyB_iff (fun s hs=>(g1.1 s hs).wsM),anyB_iff w,g2]
theorem paint_ok {l:List Sp} (w:∀s∈l,WS s) (v:Int):OkM (paintM l v)∧∀n,valM (paintM l v) n=if anyB l n=true then some v else none :=
 ⟨tagP_ok (listS_ok l w).1 v,fun n=>by rw[←anyB_listS w];exact tagP_val _ _ _⟩
theorem paint_len (l:List Sp) (v:Int):(paintM l v).length≤l.length:=by have:=listS_len l;unfold paintM;simpa using this
theorem mapalg_Restrict.ev (a:List Sg) (wa:WM a) (la:a.length≤10000) (l:List Sp) (w:∀s∈l,WS s) (ll:l.length≤10000) :
  ∃R,Ev (fun k=>mapalg_Restrict.f k a l) R∧OkM R∧CanM R∧R.length≤2 * (a.length+l.length)∧∀n,valM R n=if anyB l n=true then valM (mergeM a) n else none:=by
 obtain ⟨p1,p2⟩:=paint_ok w 0
 have pl:=paint_len l 0
 obtain ⟨R,r1,r2,r3,r4,r5⟩:=pieces.ev a (paintM l 0) wa p1.wm la (by omega) (φ:=restrict_phi) (ψ:=fun u v=>if v.isSome=true then u else none)
  (fun u v=>by cases u <;> cases v <;> exact ⟨_,rfl,rfl⟩) rfl
 refine ⟨R,Ev.bind (mapalg_Paint.ev l 0 (by omega)) r1,r2,r3,by omega,fun n=>?_⟩
 rw[r5,mergeM_val p1 p1.wm,p2]
 cases anyB l n <;> rfl
theorem OkM.val_self:∀ {x:List Sg},OkM x→∀s∈x,valM x (pos (lo s.f0))=some s.f1
  | s :: l,h,t,ht=>by
    rcases List.mem_cons.1 ht with rfl | ht
    · exact valM_head h.cons.1 (Int.le_refl _) h.cons.1.2.2
    · rw[valM_skip h.cons.1 (fun g=>by have:=h.cons.2.1 t ht;omega)]
      exact OkM.val_self h.cons.2.2 t ht
theorem merge_from {a:List Sg} (wa:WM a) {n v:Int} (h:valM (mergeM a) n=some v):∃s∈a,s.f1=v:=by
 by_cases hs:sortedM a=true
 ·rw[mergeM_val ((sortedM_iff wa).1 hs) wa] at h
  unfold valM at h
  obtain ⟨s,h1,h2⟩:=Option.map_eq_some_iff.1 h
  exact ⟨s,List.mem_of_find?_eq_some h1,h2⟩
 ·unfold mergeM at h
  rw[if_neg hs] at h
  cases h
def szS (x:Sp):Int:=pos (hi x) - pos (lo x)
theorem szS_range {x:Sp} (h:RR x):0 < szS x∧szS x≤18446744073709551616:=by
 have h1:=h.1.range
 have h2:=h.2.1.range
 have h3:=h.2.2
 unfold szS;omega
theorem cntS_RR {x:Sp} (h:RR x):cntS x=if szS x < 18446744073709551616 then(szS x,true) else(0,false):=by
 unfold cntS szS
 by_cases g:pos (hi x) - pos (lo x) < 18446744073709551616
 ·rw[if_pos ⟨h.RS,g⟩,if_pos g]
 ·rw[if_neg (fun q=>g q.2),if_neg g]
theorem prod_bound {v z:Int} (hv:I64 v) (h0:0≤z) (h1:z≤18446744073709551616):-170141183460469231731687303715884105728≤v * z∧v * z≤170141183460469231731687303715884105728:=by
 have a:=Int.mul_le_mul_of_nonneg_right hv.2 h0
 have b:=Int.mul_le_mul_of_nonneg_right hv.1 h0
 omega
def sumM:List Sg→Int
 | []=>0
 | s :: l=>s.f1 * szS s.f0+sumM l
def OkV (l:List Sg):Prop:=∀s∈l,RR s.f0∧I64 s.f1
theorem sumM_bound:∀l:List Sg,OkV l→-((l.length:Int) * 170141183460469231731687303715884105728)≤sumM l∧sumM l≤(l.length:Int) * 170141183460469231731687303715884105728
  | [],_=>by simp[sumM]
  | s :: l,h=>by
    have ih:=sumM_bound l (fun t ht=>h t (List.mem_cons_of_mem _ ht))
    obtain ⟨h1,h2⟩:=h s List.mem_cons_self
    have z:=szS_range h1
    have p:=prod_bound h2 (by omega:0≤szS s.f0) z.2
    simp only[sumM,List.length_cons]
    omega
theorem times16.l2_mono (k:Nat) (ps:Int) (pd:List Int):∀(m:Nat) (s:Int) (d:List Int),LeO (times16.l2 k ps pd m s d) (times16.l2 (k+1) ps pd m s d)
 | 0,_,_=>LeO.refl _
 | m+1,s,d=>LeO.bind (bocageref01_Plus.mono _ _ _ _ _) (fun t=>times16.l2_mono k ps pd m t.1 t.2)
theorem times16.l0_mono (k:Nat):∀(f:Nat) (n s:Int) (d:List Int) (ps:Int) (pd:List Int),LeO (times16.l0 k f n s d ps pd) (times16.l0 (k+1) f n s d ps pd)
  | 0,_,_,_,_,_=>LeO.refl _
  | f+1,n,s,d,ps,pd=>by
    unfold times16.l0
    exact LeO.ite (LeO.ite (LeO.bind (times16.l2_mono k ps pd _ s d) (fun t=>times16.l0_mono k f _ t.1 t.2 ps _)) (LeO.refl _)) (LeO.refl _)
theorem bocageref16_times.mono (v n:Int) (k:Nat):LeO (bocageref16_times.f k v n) (bocageref16_times.f (k+1) v n) :=
 LeO.bind (bocageref01_Of.mono _ _) (fun p=>times16.l0_mono k 30 n 0 [] p.1 p.2)
theorem bocageref16_times.all {v n:Int} (hv:I64 v) (n0:0≤n) (n1:n < 18446744073709551616):∃s d,(∀k,300≤k→bocageref16_times.f k v n=some (s,d))∧Big s d (n * v):=by
 obtain ⟨s,d,e1,e2⟩:=bocageref16_times.eq hv n0 n1 300 (Nat.le_refl _)
 exact ⟨s,d,fun k hk=>at_rounds (g:=fun k=>bocageref16_times.f k v n) (bocageref16_times.mono v n) hk e1,e2⟩
theorem bocageref01_Plus.all {s v t u:Int} {a b:List Int} (ha:Big s a v) (hb:Big t b u) (v1:v < 1000000000000000000000000000000000000000000000000000000000000) (v2:-1000000000000000000000000000000000000000000000000000000000000 < v) (u1:u < 1000000000000000000000000000000000000000000000000000000000000) (u2:-1000000000000000000000000000000000000000000000000000000000000 < u) :
  ∃s' d',(∀k,300≤k→bocageref01_Plus.f k s a t b=some (s',d'))∧Big s' d' (v+u):=by
 have l1:=ha.len 60 (by rw[p10_60];exact v1) (by rw[p10_60];exact v2)
 have l2:=hb.len 60 (by rw[p10_60];exact u1) (by rw[p10_60];exact u2)
 obtain ⟨s',d',e1,e2,_⟩:=bocageref01_Plus.eq ha hb 300 (by omega) (by omega) (by omega) (by omega)
 exact ⟨s',d',fun k hk=>at_rounds (g:=fun k=>bocageref01_Plus.f k s a t b) (bocageref01_Plus.mono _ _ _ _) hk e1,e2⟩
theorem rsum.step_ev {s:Sg} (hr:RR s.f0) (hv:I64 s.f1) {a V:Int} {d:List Int} (hb:Big a d V) (h1:-100000000000000000000000000000000000000000000000000≤V) (h2:V≤100000000000000000000000000000000000000000000000000) :
  ∃a' d',Ev (fun k=>rsum.step k s a d) (a',d')∧Big a' d' (V+s.f1 * szS s.f0):=by
 obtain ⟨K,c⟩:=bocageref03_Count.ev s.f0 hr.wsM
 dsimp only at c
 have z:=szS_range hr
 have hvb:=hv
 unfold I64 at hvb
 by_cases hz:szS s.f0 < 18446744073709551616
 ·have pb:=prod_bound hv (by omega:0≤szS s.f0) z.2
  rw[Int.mul_comm] at pb
  obtain ⟨b1,b2,t1,t2⟩:=bocageref16_times.all hv (by omega:0≤szS s.f0) hz
  obtain ⟨e1,e2,p1,p2⟩:=bocageref01_Plus.all hb t2 (by omega) (by omega) (by omega) (by omega)
  rw[Int.mul_comm s.f1]
  refine ⟨e1,e2,⟨K+300,fun k hk=>?_⟩,p2⟩
  dsimp only
  unfold rsum.step
  rw[c k (by omega),cntS_RR hr,if_pos hz,Option.bind_some]
  dsimp only
  rw[if_pos rfl,Option.bind_some,if_pos ⟨by omega,hz⟩,t1 k (by omega),Option.bind_some]
  exact p1 k (by omega)
 ·have ez:szS s.f0=18446744073709551616:=by omega
  obtain ⟨b1,b2,t1,t2⟩:=bocageref16_times.all hv (n:=18446744073709551615) (by omega) (by omega)
  obtain ⟨c1,c2,o1,o2,_⟩:=bocageref01_Of.eq hv 25 (by omega)
  have o3:∀k,25≤k→bocageref01_Of.f k s.f1=some (c1,c2):=fun k hk=>at_rounds (g:=fun k=>bocageref01_Of.f k s.f1) (bocageref01_Of.mono _) hk o1
  obtain ⟨e1,e2,p1,p2⟩:=bocageref01_Plus.all t2 o2 (by omega) (by omega) (by omega) (by omega)
  obtain ⟨f1,f2,q1,q2⟩:=bocageref01_Plus.all hb p2 (by omega) (by omega) (by omega) (by omega)
  obtain ⟨g1,g2,r1,r2⟩:=bocageref16_times.all hv (n:=0) (by omega) (by omega)
  obtain ⟨i1,i2,w1,w2⟩:=bocageref01_Plus.all q2 r2 (by omega) (by omega) (by omega) (by omega)
  have ev:V+(18446744073709551615 * s.f1+s.f1)+0 * s.f1=V+s.f1 * szS s.f0:=by rw[ez];omega
  rw[ev] at w2
  refine ⟨i1,i2,⟨K+300,fun k hk=>?_⟩,w2⟩
  dsimp only
  unfold rsum.step
  rw[c k (by omega),cntS_RR hr,if_neg hz,Option.bind_some]
  dsimp only
  rw[if_neg Bool.false_ne_true,t1 k (by omega),Option.bind_some,o3 k (by omega),Option.bind_some]
  dsimp only
  rw[p1 k (by omega),Option.bind_some]
  dsimp only
  rw[q1 k (by omega),Option.bind_some,if_pos (by omega),r1 k (by omega),Option.bind_some]
  exact w1 k (by omega)
theorem rsum.l0_ev (x:List Sg) (hx:OkV x) (m:Nat):∀(j:Nat) (a V:Int) (d:List Int),j+m=x.length→j+m < 1000000→Big a d V→-((j:Int) * 170141183460469231731687303715884105728)≤V→V≤(j:Int) * 170141183460469231731687303715884105728 →
    ∃a' d',Ev (fun k=>rsum.l0 k x m j a d) (a',d')∧Big a' d' (V+sumM (x.drop j)):=by
  induction m with
  | zero =>
    intro j a V d hj _ hb h1 h2
    refine ⟨a,d,⟨0,fun k _=>by dsimp only;rw[rsum.l0]⟩,?_⟩
    rw[List.drop_eq_nil_of_le (by omega)]
    simpa [sumM] using hb
  | succ m ih =>
    intro j a V d hj hl hb h1 h2
    have hjx:j < x.length:=by omega
    obtain ⟨g1,g2⟩:=hx x[j] (List.getElem_mem hjx)
    have z:=szS_range g1
    have pb:=prod_bound g2 (by omega:0≤szS x[j].f0) z.2
    obtain ⟨a1,d1,⟨K1,e1⟩,e2⟩:=rsum.step_ev g1 g2 hb (by omega) (by omega)
    obtain ⟨a2,d2,⟨K2,e3⟩,e4⟩:=ih (j+1) a1 _ d1 (by omega) (by omega) e2 (by omega) (by omega)
    refine ⟨a2,d2,⟨K1+K2,fun k hk=>?_⟩,?_⟩
    · dsimp only
      rw[rsum.l0,rdM hjx]
      have:=e1 k (by omega)
      dsimp only at this
      rw[this,Option.bind_some]
      exact e3 k (by omega)
    · rw[List.drop_eq_getElem_cons hjx]
      simp only[sumM]
      rw[←Int.add_assoc];exact e4
theorem mapalg_wide_add.all {t:Int×Int×Int} {V v n:Int} (h:U3 t V) (hv:I64 v) (n0:0≤n) (n1:n < 18446744073709551616):∃u,(∀k,1≤k→mapalg_wide_add.f k t.1 t.2.1 t.2.2 v n=some u)∧U3 u (V+v * n):=by
 obtain ⟨u,e1,e2⟩:=mapalg_wide_add.eq h hv n0 n1 1 (Nat.le_refl _)
 exact ⟨u,fun k hk=>at_rounds (g:=fun k=>mapalg_wide_add.f k t.1 t.2.1 t.2.2 v n) (mapalg_wide_add.mono _ _ _ _ _) hk e1,e2⟩
theorem sum.l0_ev:∀(l:List Sg) (t:Int×Int×Int) (V:Int),OkV l→U3 t V→∃u,Ev (fun k=>sum.l0 k l t) u∧U3 u (V+sumM l)
  | [],t,V,_,h=>⟨t,Ev.now _,by simpa [sumM] using h⟩
  | s :: l,t,V,hx,h=>by
    obtain ⟨hr,hv⟩:=hx s List.mem_cons_self
    have hl:OkV l:=fun t ht=>hx t (List.mem_cons_of_mem _ ht)
    have z:=szS_range hr
    have c:∀k,3≤k→span_Count.f k s.f0.f0.f0 s.f0.f0.f1 s.f0.f1.f0 s.f0.f1.f1=some (cntS s.f0):=fun k hk=>span_Count.eq s.f0 hr.wsM k hk
    simp only[sumM]
    by_cases hz:szS s.f0 < 18446744073709551616
    · obtain ⟨u1,a1,b1⟩:=mapalg_wide_add.all h hv (by omega:0≤szS s.f0) hz
      obtain ⟨u2,⟨K,a2⟩,b2⟩:=sum.l0_ev l u1 _ hl b1
      refine ⟨u2,⟨K+3,fun k hk=>?_⟩,by rw[←Int.add_assoc];exact b2⟩
      dsimp only
      rw[sum.l0,c k (by omega),cntS_RR hr,if_pos hz,Option.bind_some]
      dsimp only
      rw[if_pos rfl,Option.bind_some]
      dsimp only
      rw[a1 k (by omega),Option.bind_some]
      exact a2 k (by omega)
    · have ez:szS s.f0=18446744073709551616:=by omega
      obtain ⟨u0,a0,b0⟩:=mapalg_wide_add.all h hv (n:=1) (by omega) (by omega)
      obtain ⟨u1,a1,b1⟩:=mapalg_wide_add.all b0 hv (n:=18446744073709551615) (by omega) (by omega)
      obtain ⟨u2,⟨K,a2⟩,b2⟩:=sum.l0_ev l u1 _ hl b1
      have ew:IntKind.u64.wrap ((0:Int) - 1)=18446744073709551615:=by rw[u64w];rfl
      have ev:V+s.f1 * 1+s.f1 * 18446744073709551615+sumM l=V+(s.f1 * szS s.f0+sumM l):=by rw[ez];omega
      rw[ev] at b2
      refine ⟨u2,⟨K+3,fun k hk=>?_⟩,b2⟩
      dsimp only
      rw[sum.l0,c k (by omega),cntS_RR hr,if_neg hz,Option.bind_some]
      dsimp only
      rw[if_neg Bool.false_ne_true,a0 k (by omega)]
      simp only[Option.map_some,Option.bind_some]
      rw[ew,a1 k (by omega),Option.bind_some]
      exact a2 k (by omega)
theorem sums_ev (a:List Sg) (wa:WM a) (la:a.length≤1000) (va:∀s∈a,I64 s.f1) (x:Sp) (wx:WS x) :
  ∃r,Ev (fun k=>mapalg_Sum.f k a x.f0.f0 x.f0.f1 x.f1.f0 x.f1.f1) r∧Ev (fun k=>bocageref16_Sum.f k a x.f0.f0 x.f0.f1 x.f1.f0 x.f1.f1) r:=by
 have w1:∀s∈[x],WS s:=fun s hs=>by rcases List.mem_singleton.1 hs with rfl;exact wx
 obtain ⟨R,⟨K1,a0⟩,b0,c0,d0,v0⟩:=mapalg_Restrict.ev a wa (by omega) [x] w1 (by simp)
 obtain ⟨R2,⟨K2,a2⟩,b2,c2,d2,v2⟩:=bocageref16_Restrict.ev a wa (by omega) [x] (by simp) w1 true
 have e02:R=R2:=CanM.unique b0 b2 c0 c2 (fun n=>by rw[v0,v2];cases anyB [x] n <;> rfl)
 subst e02
 have hl:R.length < 1000000:=by simp at d0;omega
 have ok:OkV R:=fun s hs=>⟨b0.1 s hs,by
  have h:=b0.val_self s hs
  rw[v0] at h
  split at h
  ·obtain ⟨t,ht,e⟩:=merge_from wa h
   rw[←e];exact va t ht
  ·cases h⟩
 have sb:=sumM_bound R ok
 obtain ⟨u,⟨K3,a3⟩,b3⟩:=sum.l0_ev R (0,0,0) 0 ok U3.zero
 obtain ⟨s,d,⟨K4,a4⟩,b4⟩:=rsum.l0_ev R ok R.length 0 0 0 [] (by omega) (by omega) Big.zero (by omega) (by omega)
 rw[Int.zero_add] at b3
 rw[Int.zero_add,List.drop_zero] at b4
 obtain ⟨q,a5⟩:=mapalg_wide_end.eq b3 (by omega) (by omega) 1 (Nat.le_refl _)
 have ld:=b4.len 60 (by rw[p10_60];omega) (by rw[p10_60];omega)
 refine ⟨clamp (sumM R),⟨K1+K3+1,fun k hk=>?_⟩,⟨K2+K4+100,fun k hk=>?_⟩⟩
 ·dsimp only
  unfold mapalg_Sum.f
  have h1:=a0 k (by omega)
  have h3:=a3 k (by omega)
  have h5:=at_rounds (g:=fun k=>mapalg_wide_end.f k u.1 u.2.1 u.2.2) (mapalg_wide_end.mono _ _ _) (by omega:1≤k) a5
  dsimp only at h1 h3 h5
  show(mapalg_Restrict.f k a [x]).bind _=_
  rw[h1,Option.bind_some,if_pos hl,h3,Option.bind_some,h5,Option.bind_some]
 ·dsimp only
  unfold bocageref16_Sum.f bocageref03_One.f
  have h1:=a2 k (by omega)
  have h3:=a4 k (by omega)
  dsimp only at h1 h3
  rw[Option.bind_some]
  show(bocageref16_Restrict.f k a [x] true).bind _=_
  rw[h1,Option.bind_some,if_pos hl,h3,Option.bind_some]
  exact bocageref01_End.eq b4 k (by omega) (by omega)
theorem bocagelaw16_alive.ge (k:Nat) (hk:100≤k):bocagelaw16_alive.f k=some true:=at_rounds (g:=fun k=>bocagelaw16_alive.f k) bocagelaw16_alive.mono hk (by decide +kernel)
end Go.Proofs.YtbcpnejdbookkaaGreat.Print
namespace Go.Proofs.YtbcpnejdbookkaaGreat.Pure
open Go.RowKit Go.Proofs.YtbcpnejdbookkaaGreat.Print Go.Proofs.YtbcpnejdbookkaaGreatW.PrintWords Go.Proofs.YtbcpnejdbookkaaGreatW.PrintLast
theorem MapalgSums:bocagelaw16_MapalgSums.Pure:=by
 intro l0 a b c d w0 wa wb wc wd
 have W0:WM l0:=fun s hs=>⟨I64.of_wf (w0 s hs).2.1,I64.of_wf (w0 s hs).2.2.2.1⟩
 have V0:∀s∈l0,I64 s.f1:=fun s hs=>I64.of_wf (w0 s hs).2.2.2.2
 by_cases h0:l0.length≤40
 ·obtain ⟨r,⟨K1,e1⟩,⟨K2,e2⟩⟩:=sums_ev l0 W0 (by omega) V0 (⟨⟨a,b⟩,⟨c,d⟩⟩:Sp) ⟨I64.of_wf wb,I64.of_wf wd⟩
  exact ⟨K1+K2+100,by omega,bocagelaw16_alive.ge _ (by omega),fun _=>⟨r,e1 _ (by omega),e2 _ (by omega)⟩⟩
 ·exact ⟨100,by omega,bocagelaw16_alive.ge _ (by omega),fun h=>absurd h h0⟩
end Go.Proofs.YtbcpnejdbookkaaGreat.Pure
