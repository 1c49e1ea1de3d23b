-- The texts of this repo that the claim reaches, in one (wip/print/bundle.py): only what is reached; not trusted: Lean checks it.
import Derived.Test.YtbcpnejdbookkaaGreatZSums3
set_option maxHeartbeats 8000000
set_option maxRecDepth 100000
set_option linter.unusedVariables false
set_option linter.unusedSimpArgs false
namespace Go.Proofs.YtbcpnejdbookkaaGreat.Print
open Go.RowKit Go.Proofs.YtbcpnejdbookkaaGreatW.PrintWords Go.Proofs.YtbcpnejdbookkaaGreatW.PrintLast Go.Proofs.YtbcpnejdbookkaaGreatW.PrintMore
attribute [local go_sem] max2_int min2_int max_two min_two max_three min_three max_four min_four   -- for this text's walks alone
def bocageref09_Spans.l0:Nat→List (S37)→List (S35)→Int→Option ((List (S35)))
 | 0,_,_,_=>none
 | k+1,x0,x3,x4=>if x4 < (x0.length:Int) then (if 0≤x4 then (if x3.length < 4398046511104 then (bocageref09_Spans.l0 k x0 (x3 ++ [(⟨(⟨(rd_T37 x0 x4).f0.f0.f0,(rd_T37 x0 x4).f0.f0.f1⟩:S33),(⟨(rd_T37 x0 x4).f0.f1.f0,(rd_T37 x0 x4).f0.f1.f1⟩:S33)⟩:S35)]) (wrap64 (x4+1))) else (none)) else (none)) else (some x3)
def bocageref09_Spans.f (k:Nat) (l0:List (S37)):Option ((List (S35))):=bocageref09_Spans.l0 k l0 ([]:List (S35)) 0
theorem bocageref09_Spans.mono_l:∀ k,(∀ y0 y1 y2,LeO (bocageref09_Spans.l0 k y0 y1 y2) (bocageref09_Spans.l0 (k+1) y0 y1 y2))
 | 0=>fun _ _ _ r h=>by simp [bocageref09_Spans.l0] at h
 | k+1=>by
  have ih0:=bocageref09_Spans.mono_l k
  ·intro y0 y1 y2
   unfold bocageref09_Spans.l0
   repeat' with_reducible first | apply ih0 | apply lr | apply ln | apply li | refine lb ?_ fun _=>?_
theorem bocageref09_Spans.mono:∀ a0 k,LeO (bocageref09_Spans.f k a0) (bocageref09_Spans.f (k+1) a0):=by
 intro a0 k
 have ih0:=bocageref09_Spans.mono_l k
 unfold bocageref09_Spans.f
 repeat' with_reducible first | apply ih0 | apply lr | apply ln | apply li | refine lb ?_ fun _=>?_
theorem bocageref09_Spans.calls (k:Nat) (A0:Option Addr) (c0:Nat) (l0:List (S37)) (r:List (S35)) (w:World) (hr0:Kd.C k37 w A0 l0.length l0) (hc0:l0.length≤c0) (h:bocageref09_Spans.f k l0=some r) :
 Calls Tryz.prog 26 #[.slice A0 l0.length c0] w fun e w'=>∃ v0_:Value,e=.returned (v0_)∧Kd.R k35 35 w' w.heap.size (fun _=>True) v0_ r∧Below w.heap.size w w':=by
 have hu35:=Tryz.underlying35;have HR0:=am hr0;have HC0:=am hc0;clear hr0 hc0
 have HB:=am (Below.refl w.heap.size w)
 have H:(bocageref09_Spans.l0 k l0 ([]:List (S35)) 0)=some r:=h
 clear h;have H':=am H;clear H;go_enter Tryz.func26,Tryz.ntmps26;go_wp2
 go_loopg [3,4] k (fun kq v3 v4 w'=>∃ (x3_1:List (S35)) (x4_1:Int),v4=.int .i64 x4_1∧Aside0 (bocageref09_Spans.l0 kq l0 x3_1 x4_1=some r)∧Aside0 (kq≤k)∧Aside0 (Kd.R k35 35 w' w.heap.size (fun _=>True) v3 x3_1)∧Aside0 (Below w.heap.size w w'))
 case atStart=>exact ⟨_,_,rs,H',⟨Nat.le_refl _⟩,kn,⟨bl HB⟩⟩
 case round =>
  clear H'
  obtain ⟨x3_1,x4_1,rfl,HA,HK1,HO_3,HB⟩:=hrel
  cases gk with
  | zero=>exact absurd HA.out (by simp [bocageref09_Spans.l0])
  | succ k1 =>
   have H:=HA.out;clear HA
   simp only [bocageref09_Spans.l0] at H
   revert H;refine itc (fun c2b0 H=>?_) fun c2b0 H=>?_
   ·revert H;refine its fun c3b0 H=>?_
    revert H;refine itl fun LMc4 H=>?_
    generalize hy288:x3_1 ++ [(⟨(⟨(rd_T37 l0 x4_1).f0.f0.f0,(rd_T37 l0 x4_1).f0.f0.f1⟩:S33),(⟨(rd_T37 l0 x4_1).f0.f1.f0,(rd_T37 l0 x4_1).f0.f1.f1⟩:S33)⟩:S35)]=y288 at H;have Ny288:=am hy288.symm;clear hy288;have H':=am H;clear H
    obtain ⟨ad287,e287,hx287_0,hx287_1,hx287_2,hx287_3,hx287_4,p287,q287⟩:=ax37 HR0 HB x4_1
    cases e287
    go_wp2_with (first | ((with_reducible refine gate_builtin (b:=.append) (xs:=#[.tmp 11,.tmp 17]) rfl ?_);at_builtin;refine Kd.R_append k35 (w0:=w) w.heap.size rfl (.tmp 11) (.tmp 17) 29 35 (.agg #[(.int .i64 0),(.int .i64 0),(.int .i64 0),(.int .i64 0)]) 32 rfl Tryz.underlying29 info35 rfl (by decide) (by omega) u3 x3_1 (⟨(⟨(rd_T37 l0 x4_1).f0.f0.f0,(rd_T37 l0 x4_1).f0.f0.f1⟩:S33),(⟨(rd_T37 l0 x4_1).f0.f1.f0,(rd_T37 l0 x4_1).f0.f1.f1⟩:S33)⟩:S35) [.int .i64 ((rd_T37 l0 x4_1).f0.f0.f0),.int .i64 ((rd_T37 l0 x4_1).f0.f0.f1),.int .i64 ((rd_T37 l0 x4_1).f0.f1.f0),.int .i64 ((rd_T37 l0 x4_1).f0.f1.f1)] (fun _=>True) (fun _=>False) rfl rfl ?aP (fun _ hk=>hk.elim) ?aF ?aO ?aB ?aS ?aL ?_;(case aP=>exact k35_mkM _ _ _ (⟨(⟨(rd_T37 l0 x4_1).f0.f0.f0,(rd_T37 l0 x4_1).f0.f0.f1⟩:S33),(⟨(rd_T37 l0 x4_1).f0.f1.f0,(rd_T37 l0 x4_1).f0.f1.f1⟩:S33)⟩:S35));(case aB=>exact (bl HB));(case aF=>exact (fun _ _=>trivial));(case aO=>exact (kr HO_3));(case aS=>exact (below_size (bl HB)));(case aL=>have:=LMc4.out;omega);intro v289 w5 ho hb hg hat;rw [← Ny288.out] at ho;replace HB:=am hb;have HO290:=am ho;clear HO_3;clear ho hb hg hat))
    go_roundg k1
    case measure=>have:=HK1.out;omega
    case rel=>exact ⟨_,_,rs,H',kl HK1,⟨kr HO290⟩,⟨bl HB⟩⟩
   ·obtain rfl:=Option.some.inj H;go_wp2;go_ret;exact endK HO_3 HB
def bocagelaw16_to.f (a0:Int) (a1:Int) (a2:Int):Option (Int×Int×Int×Int×Int):=some (0,a0,0,a1,a2)
theorem bocagelaw16_to.calls (a0:Int) (a1:Int) (a2:Int) (r1:Int) (r2:Int) (r3:Int) (r4:Int) (r5:Int) (w:World) (h:bocagelaw16_to.f a0 a1 a2=some (r1,r2,r3,r4,r5)) :
 Calls Tryz.prog 42 #[.int .i64 a0,.int .i64 a1,.int .i64 a2] w fun e w'=>e=.returned (.agg #[.int .i64 r1,.int .i64 r2,.int .i64 r3,.int .i64 r4,.int .i64 r5])∧Below w.heap.size w w':=by
 have hu37:=Tryz.underlying37;have hu33:=Tryz.underlying33;have hu35:=Tryz.underlying35
 have HB:=am (Below.refl w.heap.size w)
 unfold bocagelaw16_to.f at h;have H:=h;clear h
 simp only [Option.some.injEq,Prod.mk.injEq] at H
 obtain ⟨rfl,rfl,rfl,rfl,rfl⟩:=H
 go_enter Tryz.func42,Tryz.ntmps42
 go_wp2_with (first | ((with_reducible refine gate_dst (N:=6) rfl ?_);refine bxf #[.int .i64 0,.int .i64 0,.int .i64 0,.int .i64 0,.int .i64 0] 37 HB fun gb291 w4 BK291 GW291 HB hg hb=>?_;clear hb hg;obtain ⟨_,_,_,_,_,_,_,_,_,_⟩:=s5 BK291))
 refine bodyPost_ret (results_cell_row rfl _ _ gb291 37 #[.int .i64 0,.int .i64 a0,.int .i64 0,.int .i64 a1,.int .i64 a2] (0,0) _ rfl (bkp BK291) Tryz.underlying37 rfl (by kernel_rfl)) rfl ?_
 exact endB HB
def bocagelaw16_alive.f (k:Nat) :Option (Bool):=(bocagelaw16_to.f 0 4 5).bind fun bt292=>((some (([(⟨(⟨(⟨bt292.1,bt292.2.1⟩:S33),(⟨bt292.2.2.1,bt292.2.2.2.1⟩:S33)⟩:S35),bt292.2.2.2.2⟩:S37)]:List (S37)):List (S37))).bind fun y297=>((bocagelaw16_to.f 2 6 1).bind fun bt300=>((some (([(⟨(⟨(⟨bt300.1,bt300.2.1⟩:S33),(⟨bt300.2.2.1,bt300.2.2.2.1⟩:S33)⟩:S35),bt300.2.2.2.2⟩:S37)]:List (S37)):List (S37))).bind fun y305=>((mapalg_Both.f k 2 y297 y305).bind fun t308=>((mapalg_Group.f k t308).bind fun bt311=>((mapalg_Both.f k 2 y297 y305).bind fun t317=>((bocagelaw16_to.f 0 2 5).bind fun bt320=>((bocagelaw16_to.f 2 4 4).bind fun bt325=>((bocagelaw16_to.f 4 6 (-1)).bind fun bt330=>((bocageref14_Same.f k t317 (([(⟨(⟨(⟨bt320.1,bt320.2.1⟩:S33),(⟨bt320.2.2.1,bt320.2.2.2.1⟩:S33)⟩:S35),bt320.2.2.2.2⟩:S37),(⟨(⟨(⟨bt325.1,bt325.2.1⟩:S33),(⟨bt325.2.2.1,bt325.2.2.2.1⟩:S33)⟩:S35),bt325.2.2.2.2⟩:S37),(⟨(⟨(⟨bt330.1,bt330.2.1⟩:S33),(⟨bt330.2.2.1,bt330.2.2.2.1⟩:S33)⟩:S35),bt330.2.2.2.2⟩:S37)]:List (S37)))).bind fun t338=>(if t338=true then ((bocagelaw16_to.f 1 9 0).bind fun bt339=>((mapalg_Sum.f k y297 bt339.1 bt339.2.1 bt339.2.2.1 bt339.2.2.2.1).bind fun t344=>(if t344=15 then (if (bt311.1.length:Int)=3 then (if 0 < (bt311.1.length:Int) then (if (rd bt311.1 0)=(-1) then (if (bt311.2.length:Int)=3 then ((mapalg_Domain.f k y305).bind fun t346=>((bocageref09_Spans.f k y305).bind fun t349=>((bocageref03_Same.f k t346 t349).bind fun t352=>(if t352=true then ((mapalg_Diff.f k y297 y305).bind fun t353=>(some ((t353.length:Int) == 1))) else (some false))))) else (some false)) else (some false)) else (none)) else (some false)) else (some false)))) else (some false))))))))))))
theorem bocagelaw16_alive.mono:∀ k,LeO (bocagelaw16_alive.f k ) (bocagelaw16_alive.f (k+1) ):=by
 intro  k
 unfold bocagelaw16_alive.f
 repeat' with_reducible first | apply bocageref03_Same.mono | apply bocageref09_Spans.mono | apply bocageref14_Same.mono | apply mapalg_Both.mono | apply mapalg_Diff.mono | apply mapalg_Domain.mono | apply mapalg_Group.mono | apply mapalg_Sum.mono | apply lr | apply ln | apply li | refine lb ?_ fun _=>?_
theorem bocagelaw16_alive.calls (k:Nat)  (r:Bool) (w:World) (h:bocagelaw16_alive.f k =some r) (hr:r=true) :
 Calls Tryz.prog 12 #[] w fun e w'=>e=.returned (.bool r)∧Below w.heap.size w w':=by
 have HRT:=am hr;clear hr
 have HB:=am (Below.refl w.heap.size w)
 unfold bocagelaw16_alive.f at h;have H:=h;clear h;revert H;refine bnd5 fun t292 t293 t294 t295 t296 A1 H=>?_;dsimp only at H
 revert H;refine bns fun y297 Ny297 H=>?_
 revert H;refine bnd5 fun t300 t301 t302 t303 t304 A2 H=>?_;dsimp only at H
 revert H;refine bns fun y305 Ny305 H=>?_
 revert H;refine bnd fun t308 A3 H=>?_
 revert H;refine bnd2 fun t311 t312 A4 H=>?_;dsimp only at H
 revert H;refine bnd fun t317 A5 H=>?_
 revert H;refine bnd5 fun t320 t321 t322 t323 t324 A6 H=>?_;dsimp only at H
 revert H;refine bnd5 fun t325 t326 t327 t328 t329 A7 H=>?_;dsimp only at H
 revert H;refine bnd5 fun t330 t331 t332 t333 t334 A8 H=>?_;dsimp only at H
 generalize hy335:([(⟨(⟨(⟨t320,t321⟩:S33),(⟨t322,t323⟩:S33)⟩:S35),t324⟩:S37),(⟨(⟨(⟨t325,t326⟩:S33),(⟨t327,t328⟩:S33)⟩:S35),t329⟩:S37),(⟨(⟨(⟨t330,t331⟩:S33),(⟨t332,t333⟩:S33)⟩:S35),t334⟩:S37)]:List (S37))=y335 at H;have Ny335:=am hy335.symm;clear hy335;revert H;refine bnd fun t338 A9 H=>?_
 by_cases c10:t338=true
 ·subst c10
  have H1:((bocagelaw16_to.f 1 9 0).bind fun bt339=>((mapalg_Sum.f k y297 bt339.1 bt339.2.1 bt339.2.2.1 bt339.2.2.2.1).bind fun t344=>(if t344=15 then (if (t311.length:Int)=3 then (if 0 < (t311.length:Int) then (if (rd t311 0)=(-1) then (if (t312.length:Int)=3 then ((mapalg_Domain.f k y305).bind fun t346=>((bocageref09_Spans.f k y305).bind fun t349=>((bocageref03_Same.f k t346 t349).bind fun t352=>(if t352=true then ((mapalg_Diff.f k y297 y305).bind fun t353=>(some ((t353.length:Int) == 1))) else (some false))))) else (some false)) else (some false)) else (none)) else (some false)) else (some false))))=some r:=by rw [if_pos rfl] at H;exact H
  clear H
  have H:=H1
  clear H1;revert H;refine bnd5 fun t339 t340 t341 t342 t343 A11 H=>?_;dsimp only at H
  revert H;refine bnd fun t344 A12 H=>?_
  by_cases c13:t344=15
  ·rw [if_pos c13] at H
   have c13b0:(t344 == 15)=true:=beq_iff_eq.mpr c13
   have c13b1:(t344 != 15)=false:=bne_eq_false_iff_eq.mpr c13
   clear c13
   by_cases c14:(t311.length:Int)=3
   ·rw [if_pos c14] at H
    have c14b0:((t311.length:Int) == 3)=true:=beq_iff_eq.mpr c14
    have c14b1:((t311.length:Int) != 3)=false:=bne_eq_false_iff_eq.mpr c14
    clear c14
    by_cases c15:0 < (t311.length:Int)
    ·rw [if_pos c15] at H
     have c15b0:decide (0 < (t311.length:Int))=true:=decide_eq_true c15
     have c15b1:decide (0 < t311.length)=true:=decide_eq_true (by omega)
     clear c15
     by_cases c16:(rd t311 0)=(-1)
     ·rw [if_pos c16] at H
      have c16b0:((rd t311 0) == (-1))=true:=beq_iff_eq.mpr c16
      have c16b1:((rd t311 0) != (-1))=false:=bne_eq_false_iff_eq.mpr c16
      clear c16
      by_cases c17:(t312.length:Int)=3
      ·rw [if_pos c17] at H
       have c17b0:((t312.length:Int) == 3)=true:=beq_iff_eq.mpr c17
       have c17b1:((t312.length:Int) != 3)=false:=bne_eq_false_iff_eq.mpr c17
       clear c17;revert H;refine bnd fun t346 A18 H=>?_
       revert H;refine bnd fun t349 A19 H=>?_
       revert H;refine bnd fun t352 A20 H=>?_
       by_cases c21:t352=true
       ·subst c21
        have H1:((mapalg_Diff.f k y297 y305).bind fun t353=>(some ((t353.length:Int) == 1)))=some r:=by rw [if_pos rfl] at H;exact H
        clear H
        have H:=H1
        clear H1;revert H;refine bnd fun t353 A22 H=>?_
        obtain rfl:=Option.some.inj H
        have hfl37:∀ (a b c d e:Int) (w:World),(Instr.field 37 (Value.agg #[.int .i64 a,.int .i64 b,.int .i64 c,.int .i64 d,.int .i64 e]) 0).run Tryz.prog w=.ok (.agg #[.int .i64 a,.int .i64 b,.int .i64 c,.int .i64 d]) w:=fun a b c d e w=>by kernel_rfl
        go_enter Tryz.func12,Tryz.ntmps12
        go_wp2_with (first | ((with_reducible refine gate_callee (f:=42) rfl ?_);refine gob Tryz.func42 (bocagelaw16_to.calls _ _ _ _ _ _ _ _ _ A1.out) fun w23 hb=>?_;replace HB:=bst HB hb;(try clear hb);(try clear hb2);(try clear hk);(try clear hi)) | ((with_reducible refine gate_dst (N:=6) rfl ?_);(try (refine gate_guard (by rfl) ?_;dsimp only));refine Kd.R_lit k37 _ 37 ?hg (N:=6) ?hd (xs:=([(⟨(⟨(⟨t292,t293⟩:S33),(⟨t294,t295⟩:S33)⟩:S35),t296⟩:S37)]:List (S37))) (inner:=[.int .i64 t292,.int .i64 t293,.int .i64 t294,.int .i64 t295,.int .i64 t296]) (ok:=fun _=>True) (okp:=fun _=>True) ?hr ?hp (fun _ hk=>hk) trivial (Below.refl _ _) (Nat.le_refl _) (by simp) ?_;(case hd=>rfl);(case hg=>rfl);(case hr=>first | (go_simp;done) | (go_simp;rfl));(case hp=>exact (Reps.c5 (show Kd.M k37 _ _ _ (⟨(⟨(⟨t292,t293⟩:S33),(⟨t294,t295⟩:S33)⟩:S35),t296⟩:S37) [.int .i64 t292,.int .i64 t293,.int .i64 t294,.int .i64 t295,.int .i64 t296] from (k37_mkM _ _ _ (⟨(⟨(⟨t292,t293⟩:S33),(⟨t294,t295⟩:S33)⟩:S35),t296⟩:S37) )) (Reps.none _ _)));intro v298 w24 ho25 hb hg_ hnew_;clear hg_ hnew_;(first | rw [← Ny297.out] at ho25 | (simp only [Int.reduceToNat] at ho25;rw [← Ny297.out] at ho25));have HO299:=kw ho25 HB;replace HB:=bst HB hb;clear hb ho25) | ((with_reducible refine gate_callee (f:=42) rfl ?_);refine gob Tryz.func42 (bocagelaw16_to.calls _ _ _ _ _ _ _ _ _ A2.out) fun w26 hb=>?_;replace HO299:=krb HO299 hb;replace HB:=bst HB hb;(try clear hb);(try clear hb2);(try clear hk);(try clear hi)) | ((with_reducible refine gate_dst (N:=8) rfl ?_);(try (refine gate_guard (by rfl) ?_;dsimp only));refine Kd.R_lit k37 _ 37 ?hg (N:=8) ?hd (xs:=([(⟨(⟨(⟨t300,t301⟩:S33),(⟨t302,t303⟩:S33)⟩:S35),t304⟩:S37)]:List (S37))) (inner:=[.int .i64 t300,.int .i64 t301,.int .i64 t302,.int .i64 t303,.int .i64 t304]) (ok:=fun _=>True) (okp:=fun _=>True) ?hr ?hp (fun _ hk=>hk) trivial (Below.refl _ _) (Nat.le_refl _) (by simp) ?_;(case hd=>rfl);(case hg=>rfl);(case hr=>first | (go_simp;done) | (go_simp;rfl));(case hp=>exact (Reps.c5 (show Kd.M k37 _ _ _ (⟨(⟨(⟨t300,t301⟩:S33),(⟨t302,t303⟩:S33)⟩:S35),t304⟩:S37) [.int .i64 t300,.int .i64 t301,.int .i64 t302,.int .i64 t303,.int .i64 t304] from (k37_mkM _ _ _ (⟨(⟨(⟨t300,t301⟩:S33),(⟨t302,t303⟩:S33)⟩:S35),t304⟩:S37) )) (Reps.none _ _)));intro v306 w27 ho28 hb hg_ hnew_;clear hg_ hnew_;(first | rw [← Ny305.out] at ho28 | (simp only [Int.reduceToNat] at ho28;rw [← Ny305.out] at ho28));have HO307:=kw (kz ho28 HO299) HB;replace HO299:=ke HO299 ho28 hb;replace HB:=bst HB hb;clear hb ho28;obtain ⟨Ao29,co29,rfl⟩:=Kd.R_slice HO299.out;obtain ⟨Ao30,co30,rfl⟩:=Kd.R_slice HO307.out) | ((with_reducible refine gate_callee (f:=13) rfl ?_);refine gol (some 12) Tryz.func13 #[.int .i64 2,.slice Ao29 y297.length co29,.slice Ao30 y305.length co30] ?_;(with_reducible refine (mapalg_Both.calls _ _ _ _ _ _ _ _ _ _ (cr HO299) (cv HO299) (cr HO307) (cv HO307) A3.out).mono ?_);rintro e w31 ⟨v309,rfl,ho0,hb⟩;refine ⟨_,rfl,?_⟩;have HO310:=kw (kz (kz ho0 HO299) HO307) HB;replace HO299:=ke HO299 ho0 hb;replace HO307:=ke HO307 ho0 hb;replace HB:=bst HB hb;clear hb ho0;obtain ⟨Ao32,co32,rfl⟩:=Kd.R_slice HO310.out) | ((with_reducible refine gate_callee (f:=35) rfl ?_);refine gol (some 13) Tryz.func35 #[.slice Ao32 t308.length co32] ?_;(with_reducible refine (mapalg_Group.calls _ _ _ _ _ _ _ (cr HO310) (cv HO310) A4.out).mono ?_);rintro e w33 ⟨v313,v315,rfl,ho0,ho1,hb⟩;refine ⟨_,rfl,?_⟩;replace HO299:=krb HO299 hb;replace HO307:=krb HO307 hb;replace HO310:=krb HO310 hb;have HO314:=kw ho0 HB;have HO316:=am (Kd.S_lower ho1 (below_size (bl HB)));replace HB:=bst HB hb;clear hb ho0 ho1) | ((with_reducible refine gate_callee (f:=13) rfl ?_);refine gol (some 18) Tryz.func13 #[.int .i64 2,.slice Ao29 y297.length co29,.slice Ao30 y305.length co30] ?_;(with_reducible refine (mapalg_Both.calls _ _ _ _ _ _ _ _ _ _ (cr HO299) (cv HO299) (cr HO307) (cv HO307) A5.out).mono ?_);rintro e w34 ⟨v318,rfl,ho0,hb⟩;refine ⟨_,rfl,?_⟩;replace HO314:=krb HO314 hb;replace HO316:=sb HO316 hb;have HO319:=kw (kz (kz (kz ho0 HO299) HO307) HO310) HB;replace HO299:=ke HO299 ho0 hb;replace HO307:=ke HO307 ho0 hb;replace HO310:=ke HO310 ho0 hb;replace HB:=bst HB hb;clear hb ho0) | ((with_reducible refine gate_callee (f:=42) rfl ?_);refine gob Tryz.func42 (bocagelaw16_to.calls _ _ _ _ _ _ _ _ _ A6.out) fun w35 hb=>?_;replace HO299:=krb HO299 hb;replace HO307:=krb HO307 hb;replace HO310:=krb HO310 hb;replace HO314:=krb HO314 hb;replace HO316:=sb HO316 hb;replace HO319:=krb HO319 hb;replace HB:=bst HB hb;(try clear hb);(try clear hb2);(try clear hk);(try clear hi)) | ((with_reducible refine gate_callee (f:=42) rfl ?_);refine gob Tryz.func42 (bocagelaw16_to.calls _ _ _ _ _ _ _ _ _ A7.out) fun w36 hb=>?_;replace HO299:=krb HO299 hb;replace HO307:=krb HO307 hb;replace HO310:=krb HO310 hb;replace HO314:=krb HO314 hb;replace HO316:=sb HO316 hb;replace HO319:=krb HO319 hb;replace HB:=bst HB hb;(try clear hb);(try clear hb2);(try clear hk);(try clear hi)) | ((with_reducible refine gate_callee (f:=42) rfl ?_);refine gob Tryz.func42 (bocagelaw16_to.calls _ _ _ _ _ _ _ _ _ A8.out) fun w37 hb=>?_;replace HO299:=krb HO299 hb;replace HO307:=krb HO307 hb;replace HO310:=krb HO310 hb;replace HO314:=krb HO314 hb;replace HO316:=sb HO316 hb;replace HO319:=krb HO319 hb;replace HB:=bst HB hb;(try clear hb);(try clear hb2);(try clear hk);(try clear hi)) | ((with_reducible refine gate_dst (N:=22) rfl ?_);(try (refine gate_guard (by rfl) ?_;dsimp only));refine Kd.R_lit k37 _ 37 ?hg (N:=22) ?hd (xs:=([(⟨(⟨(⟨t320,t321⟩:S33),(⟨t322,t323⟩:S33)⟩:S35),t324⟩:S37),(⟨(⟨(⟨t325,t326⟩:S33),(⟨t327,t328⟩:S33)⟩:S35),t329⟩:S37),(⟨(⟨(⟨t330,t331⟩:S33),(⟨t332,t333⟩:S33)⟩:S35),t334⟩:S37)]:List (S37))) (inner:=[.int .i64 t320,.int .i64 t321,.int .i64 t322,.int .i64 t323,.int .i64 t324,.int .i64 t325,.int .i64 t326,.int .i64 t327,.int .i64 t328,.int .i64 t329,.int .i64 t330,.int .i64 t331,.int .i64 t332,.int .i64 t333,.int .i64 t334]) (ok:=fun _=>True) (okp:=fun _=>True) ?hr ?hp (fun _ hk=>hk) trivial (Below.refl _ _) (Nat.le_refl _) (by simp) ?_;(case hd=>rfl);(case hg=>rfl);(case hr=>first | (go_simp;done) | (go_simp;rfl));(case hp=>exact (Reps.c5 (show Kd.M k37 _ _ _ (⟨(⟨(⟨t320,t321⟩:S33),(⟨t322,t323⟩:S33)⟩:S35),t324⟩:S37) [.int .i64 t320,.int .i64 t321,.int .i64 t322,.int .i64 t323,.int .i64 t324] from (k37_mkM _ _ _ (⟨(⟨(⟨t320,t321⟩:S33),(⟨t322,t323⟩:S33)⟩:S35),t324⟩:S37) )) (Reps.c5 (show Kd.M k37 _ _ _ (⟨(⟨(⟨t325,t326⟩:S33),(⟨t327,t328⟩:S33)⟩:S35),t329⟩:S37) [.int .i64 t325,.int .i64 t326,.int .i64 t327,.int .i64 t328,.int .i64 t329] from (k37_mkM _ _ _ (⟨(⟨(⟨t325,t326⟩:S33),(⟨t327,t328⟩:S33)⟩:S35),t329⟩:S37) )) (Reps.c5 (show Kd.M k37 _ _ _ (⟨(⟨(⟨t330,t331⟩:S33),(⟨t332,t333⟩:S33)⟩:S35),t334⟩:S37) [.int .i64 t330,.int .i64 t331,.int .i64 t332,.int .i64 t333,.int .i64 t334] from (k37_mkM _ _ _ (⟨(⟨(⟨t330,t331⟩:S33),(⟨t332,t333⟩:S33)⟩:S35),t334⟩:S37) )) (Reps.none _ _)))));intro v336 w38 ho39 hb hg_ hnew_;clear hg_ hnew_;(first | rw [← Ny335.out] at ho39 | (simp only [Int.reduceToNat] at ho39;rw [← Ny335.out] at ho39));replace HO314:=krb HO314 hb;replace HO316:=sb HO316 hb;have HO337:=kw (kz (kz (kz (kz ho39 HO299) HO307) HO310) HO319) HB;replace HO299:=ke HO299 ho39 hb;replace HO307:=ke HO307 ho39 hb;replace HO310:=ke HO310 ho39 hb;replace HO319:=ke HO319 ho39 hb;replace HB:=bst HB hb;clear hb ho39;obtain ⟨Ao40,co40,rfl⟩:=Kd.R_slice HO319.out;obtain ⟨Ao41,co41,rfl⟩:=Kd.R_slice HO337.out) | ((with_reducible refine gate_callee (f:=14) rfl ?_);refine gol (some 23) Tryz.func14 #[.slice Ao40 t317.length co40,.slice Ao41 y335.length co41] ?_;(with_reducible refine (bocageref14_Same.calls _ _ _ _ _ _ _ _ _ (cr HO319) (cv HO319) (cr HO337) (cv HO337) A9.out).mono ?_);rintro e w' ⟨rfl,⟨nd,rfl⟩⟩;refine ⟨_,rfl,?_⟩) | (go_at_call 42;(with_reducible refine (bocagelaw16_to.calls _ _ _ _ _ _ _ _ _ A11.out).mono ?_);rintro e w42 ⟨rfl,hb⟩;replace HO299:=krb HO299 hb;replace HO307:=krb HO307 hb;replace HO310:=krb HO310 hb;replace HO314:=krb HO314 hb;replace HO316:=sb HO316 hb;replace HO319:=krb HO319 hb;replace HO337:=krb HO337 hb;replace HB:=bst HB hb) | (go_at_call 23;(with_reducible refine (mapalg_Sum.calls _ _ _ _ _ _ _ _ _ _ (cr HO299) (cv HO299) A12.out).mono ?_);rintro e w43 ⟨rfl,hb⟩;replace HO299:=krb HO299 hb;replace HO307:=krb HO307 hb;replace HO310:=krb HO310 hb;replace HO314:=krb HO314 hb;replace HO316:=sb HO316 hb;replace HO319:=krb HO319 hb;replace HO337:=krb HO337 hb;replace HB:=bst HB hb;clear hb;obtain ⟨Ao44,co44,rfl⟩:=Kd.R_slice HO314.out;have p345:0≤(0:Int):=(by omega);have q345:0 < (t311.length:Int):=pd;obtain ⟨ad345,e345,hx345_0⟩:=Kd.at_int (Kd.R_reads' HO314.out).2.2 0 p345 q345;cases e345;have qi345:(0 < t311.length)=True:=eq_true (by omega);(try rw [show ((0:Int)).toNat=0 from rfl] at hx345_0);(try rw [Addr.add_zero'] at hx345_0);replace p345:=eq_true p345;replace q345:=eq_true q345;obtain ⟨Ao45,co45,rfl⟩:=Kd.S_slice HO316.out) | (go_at_call 31;(with_reducible refine (mapalg_Domain.calls _ _ _ _ _ _ (cr HO307) (cv HO307) A18.out).mono ?_);rintro e w46 ⟨v347,rfl,ho0,hb⟩;replace HO299:=krb HO299 hb;replace HO307:=krb HO307 hb;replace HO310:=krb HO310 hb;replace HO314:=krb HO314 hb;replace HO316:=se HO316 ho0 hb;replace HO319:=krb HO319 hb;replace HO337:=krb HO337 hb;have HO348:=kw ho0 HB;replace HB:=bst HB hb;clear hb ho0) | (go_at_call 26;(with_reducible refine (bocageref09_Spans.calls _ _ _ _ _ _ (cr HO307) (cv HO307) A19.out).mono ?_);rintro e w47 ⟨v350,rfl,ho0,hb⟩;replace HO299:=krb HO299 hb;replace HO307:=krb HO307 hb;replace HO310:=krb HO310 hb;replace HO314:=krb HO314 hb;replace HO316:=se HO316 ho0 hb;replace HO319:=krb HO319 hb;replace HO337:=krb HO337 hb;have HO351:=kw (kz ho0 HO348) HB;replace HO348:=ke HO348 ho0 hb;replace HB:=bst HB hb;clear hb ho0;obtain ⟨Ao48,co48,rfl⟩:=Kd.R_slice HO348.out;obtain ⟨Ao49,co49,rfl⟩:=Kd.R_slice HO351.out) | (go_at_call 21;(with_reducible refine (bocageref03_Same.calls _ _ _ _ _ _ _ _ _ (cr HO348) (cv HO348) (cr HO351) (cv HO351) A20.out).mono ?_);rintro e w' ⟨rfl,⟨nd,rfl⟩⟩) | (go_at_call 18;(with_reducible refine (mapalg_Diff.calls _ _ _ _ _ _ _ _ _ (cr HO299) (cv HO299) (cr HO307) (cv HO307) A22.out).mono ?_);rintro e w50 ⟨v354,rfl,ho0,hb⟩;replace HO299:=krb HO299 hb;replace HO307:=krb HO307 hb;replace HO310:=krb HO310 hb;replace HO314:=krb HO314 hb;replace HO316:=se HO316 ho0 hb;replace HO319:=krb HO319 hb;replace HO337:=krb HO337 hb;have HO355:=kw (kz (kz ho0 HO348) HO351) HB;replace HO348:=ke HO348 ho0 hb;replace HO351:=ke HO351 ho0 hb;replace HB:=bst HB hb;obtain ⟨Ao51,co51,rfl⟩:=Kd.R_slice HO355.out))
        go_ret;exact endB HB
       ·replace c21:=Bool.eq_false_iff.mpr c21
        subst c21
        have H1:(some false)=some r:=by rw [if_neg (show ¬ (false=true) by decide)] at H;exact H
        exact absurd ((Option.some.inj H1).trans HRT.out) Bool.false_ne_true
      ·rw [if_neg c17] at H
       exact absurd ((Option.some.inj H).trans HRT.out) Bool.false_ne_true
     ·rw [if_neg c16] at H
      exact absurd ((Option.some.inj H).trans HRT.out) Bool.false_ne_true
    ·rw [if_neg c15] at H
     exact absurd H (by simp)
   ·rw [if_neg c14] at H
    exact absurd ((Option.some.inj H).trans HRT.out) Bool.false_ne_true
  ·rw [if_neg c13] at H
   exact absurd ((Option.some.inj H).trans HRT.out) Bool.false_ne_true
 ·replace c10:=Bool.eq_false_iff.mpr c10
  subst c10
  have H1:(some false)=some r:=by rw [if_neg (show ¬ (false=true) by decide)] at H;exact H
  exact absurd ((Option.some.inj H1).trans HRT.out) Bool.false_ne_true
def bocageref02_Least64.f :Option (Int):=some (-9223372036854775808)
theorem bocageref02_Least64.calls  (r:Int) (w:World) (h:bocageref02_Least64.f =some r) :
 Calls Tryz.prog 78 #[] w fun e w'=>e=.returned (.int .i64 r)∧Drawn0 w w':=by
 unfold bocageref02_Least64.f at h;have H:=h;clear h;obtain rfl:=Option.some.inj H;go_enter Tryz.func78,Tryz.ntmps78;go_wp2;go_ret
 exact ⟨rs,dn⟩
def bocageref02_Canon.j0:Nat→Bool→Int→Int→Option (Int×Int)
 | 0,_,_,_=>none
 | k+1,x16,x357000,x357001=>if x16=true then (some ((-1),0)) else (if x357000 > 0 then (some (1,0)) else (some (x357000,x357001)))
def bocageref02_Canon.f (k:Nat) (a0_0:Int) (a0_1:Int):Option (Int×Int):=if a0_0 < 0 then (bocageref02_Canon.j0 k true a0_0 a0_1) else (if a0_0=0 then ((bocageref02_Least64.f).bind fun t358=>(bocageref02_Canon.j0 k (a0_1 == t358) a0_0 a0_1)) else (bocageref02_Canon.j0 k false a0_0 a0_1))
theorem bocageref02_Canon.mono_l:∀ k,(∀ y0 y1 y2,LeO (bocageref02_Canon.j0 k y0 y1 y2) (bocageref02_Canon.j0 (k+1) y0 y1 y2))
 | 0=>fun _ _ _ r h=>by simp [bocageref02_Canon.j0] at h
 | k+1=>by
  have ih0:=bocageref02_Canon.mono_l k
  ·intro y0 y1 y2
   unfold bocageref02_Canon.j0
   repeat' with_reducible first | apply ih0 | apply lr | apply ln | apply li | refine lb ?_ fun _=>?_
theorem bocageref02_Canon.mono:∀ a0 a1 k,LeO (bocageref02_Canon.f k a0 a1) (bocageref02_Canon.f (k+1) a0 a1):=by
 intro a0 a1 k
 have ih0:=bocageref02_Canon.mono_l k
 unfold bocageref02_Canon.f
 repeat' with_reducible first | apply ih0 | apply lr | apply ln | apply li | refine lb ?_ fun _=>?_
theorem bocageref02_Canon.calls (k:Nat) (a0_0:Int) (a0_1:Int) (r1:Int) (r2:Int) (w:World) (h:bocageref02_Canon.f k a0_0 a0_1=some (r1,r2)) :
 Calls Tryz.prog 77 #[.agg #[.int .i64 a0_0,.int .i64 a0_1]] w fun e w'=>e=.returned (.agg #[.int .i64 r1,.int .i64 r2])∧Below w.heap.size w w':=by
 have hu33:=Tryz.underlying33
 have HB:=am (Below.refl w.heap.size w)
 unfold bocageref02_Canon.f at h;have H:=h;clear h;have HC2:=am H;clear H;go_enter Tryz.func77,Tryz.ntmps77
 go_upto_region 1 with (first | ((with_reducible refine gate_dst (N:=1) rfl ?_);refine bxf #[.int .i64 a0_0,.int .i64 a0_1] 33 HB fun gb356 w3 BK356 GW356 HB hg hb=>?_;have GE356:=GW356;clear hb hg) | ((with_reducible refine gate_dst (N:=2) rfl ?_);refine bxf #[.int .i64 0,.int .i64 0] 33 HB fun gb357 w4 BK357 GW357 HB hg hb=>?_;have GE357:=GW357;have NB356_357:=nlt hg BK356;have NB357_356:=ngt hg BK356;replace BK356:=bkb BK356 hb;clear hb hg))
 repeat (go_quiet (first | ((with_reducible refine gate_dst (N:=1) rfl ?_);refine bxf #[.int .i64 a0_0,.int .i64 a0_1] 33 HB fun gb356 w3 BK356 GW356 HB hg hb=>?_;have GE356:=GW356;clear hb hg) | ((with_reducible refine gate_dst (N:=2) rfl ?_);refine bxf #[.int .i64 0,.int .i64 0] 33 HB fun gb357 w4 BK357 GW357 HB hg hb=>?_;have GE357:=GW357;have NB356_357:=nlt hg BK356;have NB357_356:=ngt hg BK356;replace BK356:=bkb BK356 hb;clear hb hg));go_upto_region 1 with (first | ((with_reducible refine gate_dst (N:=1) rfl ?_);refine bxf #[.int .i64 a0_0,.int .i64 a0_1] 33 HB fun gb356 w3 BK356 GW356 HB hg hb=>?_;have GE356:=GW356;clear hb hg) | ((with_reducible refine gate_dst (N:=2) rfl ?_);refine bxf #[.int .i64 0,.int .i64 0] 33 HB fun gb357 w4 BK357 GW357 HB hg hb=>?_;have GE357:=GW357;have NB356_357:=nlt hg BK356;have NB357_356:=ngt hg BK356;replace BK356:=bkb BK356 hb;clear hb hg)))
 (try simp only [Act.put,List.setIfInBounds_toArray,List.set_cons_zero,List.set_cons_succ])
 go_cut [16] (fun v16 wc=>∃ (kq:Nat) (x16_1:Bool),v16=.bool x16_1∧Aside0 (bocageref02_Canon.j0 kq x16_1 a0_0 a0_1=some (r1,r2))∧Aside0 (kq≤k)∧Aside0 (wc.heap[gb356]? = some (.cells #[.int .i64 a0_0,.int .i64 a0_1] 33 (0,0)))∧Aside0 (wc.heap[gb357]? = some (.cells #[.int .i64 0,.int .i64 0] 33 (0,0)))∧Aside0 (Below w.heap.size w wc))
 case first =>
  have H:=HC2.out;clear HC2;revert H;refine itc (fun c5b0 H=>?_) fun c5b0 H=>?_
  ·(first | rw [c5b0] | (simp only [i64_w,i32_w];rw [c5b0]) | skip)
   have H':=am H;clear H;have hnb6:=NB356_357.out;have hnc6:=NB357_356.out;obtain ⟨hcz7_0,hcz7_1,hfz7_0,hfz7_1⟩:=s2 BK356;go_wp2
   repeat (go_quiet (fail);try go_wp2)
   go_meet
   case rel=>exact ⟨_,(true),rs,H',⟨by first | omega | exact Nat.le_refl _⟩,⟨bk BK356⟩,⟨bk BK357⟩,⟨bl HB⟩⟩
  ·(first | rw [c5b0] | (simp only [i64_w,i32_w];rw [c5b0]) | skip)
   by_cases c8:a0_0=0
   ·rw [if_pos c8] at H
    have c8b0:(a0_0 == 0)=true:=beq_iff_eq.mpr c8
    have c8b1:(a0_0 != 0)=false:=bne_eq_false_iff_eq.mpr c8
    clear c8;revert H;refine bnd fun t358 A9 H=>?_
    have H':=am H;clear H;have hnb10:=NB356_357.out;have hnc10:=NB357_356.out;obtain ⟨hcz11_0,hcz11_1,hfz11_0,hfz11_1⟩:=s2 BK356
    go_wp2_with (first | (go_at_call 78;(with_reducible refine (bocageref02_Least64.calls _ _ A9.out).mono ?_);rintro e w' ⟨rfl,⟨nd,rfl⟩⟩;(try first | exact ⟨rfl,_,World.drewN_drewN _ _ _⟩ | exact ⟨rfl,_,Eq.trans (World.drewN_drewN _ _ _) (congrArg (World.drewN _) (Nat.add_assoc _ _ _))⟩)))
    repeat (go_quiet (first | (go_at_call 78;(with_reducible refine (bocageref02_Least64.calls _ _ A9.out).mono ?_);rintro e w' ⟨rfl,⟨nd,rfl⟩⟩;(try first | exact ⟨rfl,_,World.drewN_drewN _ _ _⟩ | exact ⟨rfl,_,Eq.trans (World.drewN_drewN _ _ _) (congrArg (World.drewN _) (Nat.add_assoc _ _ _))⟩)));try go_wp2_with (first | (go_at_call 78;(with_reducible refine (bocageref02_Least64.calls _ _ A9.out).mono ?_);rintro e w' ⟨rfl,⟨nd,rfl⟩⟩;(try first | exact ⟨rfl,_,World.drewN_drewN _ _ _⟩ | exact ⟨rfl,_,Eq.trans (World.drewN_drewN _ _ _) (congrArg (World.drewN _) (Nat.add_assoc _ _ _))⟩))))
    go_meet
    case rel=>exact ⟨_,((a0_1 == t358)),rs,H',⟨by first | omega | exact Nat.le_refl _⟩,⟨bk BK356⟩,⟨bk BK357⟩,⟨bl HB⟩⟩
   ·rw [if_neg c8] at H
    have c8b0:(a0_0 == 0)=false:=beq_eq_false_iff_ne.mpr c8
    have c8b1:(a0_0 != 0)=true:=bne_iff_ne.mpr c8
    have H':=am H;clear H;have hnb12:=NB356_357.out;have hnc12:=NB357_356.out;obtain ⟨hcz13_0,hcz13_1,hfz13_0,hfz13_1⟩:=s2 BK356;go_wp2
    repeat (go_quiet (fail);try go_wp2)
    go_meet
    case rel=>exact ⟨_,(false),rs,H',⟨by first | omega | exact Nat.le_refl _⟩,⟨bk BK356⟩,⟨bk BK357⟩,⟨bl HB⟩⟩
 case rest =>
  clear HC2
  try clear c1
  try clear p2
  try clear c5
  try clear c5b0
  try clear c6
  try clear c7
  try clear c8
  try clear c8b0
  try clear c8b1
  try clear c10
  try clear c12
  try clear hcz11_0
  try clear hcz11_1
  try clear hcz13_0
  try clear hcz13_1
  try clear hcz7_0
  try clear hcz7_1
  try clear hfz11_0
  try clear hfz11_1
  try clear hfz13_0
  try clear hfz13_1
  try clear hfz7_0
  try clear hfz7_1
  obtain ⟨kq,x16_1,rfl,HA,HJ1,BK356,BK357,HB⟩:=hcut
  cases kq with
  | zero=>exact absurd HA.out (by simp [bocageref02_Canon.j0])
  | succ kj1 =>
   have H:=HA.out;clear HA
   simp only [bocageref02_Canon.j0] at H
   cases x16_1;rotate_left
   ·replace H:=itt H
    simp only [Option.some.injEq,Prod.mk.injEq] at H
    obtain ⟨rfl,rfl⟩:=H
    have hnb15:=NB357_356.out;have hnc15:=NB356_357.out;obtain ⟨_,_,_,_⟩:=s2 BK357;go_wp2
    repeat (go_quiet (fail);try go_wp2)
    refine bodyPost_ret (results_cell_row rfl _ _ gb357 33 #[.int .i64 (-1),.int .i64 0] (0,0) _ rfl (bkp BK357) Tryz.underlying33 rfl (by kernel_rfl)) rfl ?_
    exact endB HB
   ·replace H:=itf H;revert H;refine itc (fun (c17b0:decide (0 < a0_0)=true) H=>?_) fun (c17b0:decide (0 < a0_0)=false) H=>?_
    ·simp only [Option.some.injEq,Prod.mk.injEq] at H
     obtain ⟨rfl,rfl⟩:=H
     have hnb18:=NB356_357.out;have hnc18:=NB357_356.out;obtain ⟨_,_,_,_⟩:=s2 BK356;obtain ⟨_,_,_,_⟩:=s2 BK357;go_wp2
     repeat (go_quiet (fail);try go_wp2)
     refine bodyPost_ret (results_cell_row rfl _ _ gb357 33 #[.int .i64 1,.int .i64 0] (0,0) _ rfl (bkp BK357) Tryz.underlying33 rfl (by kernel_rfl)) rfl ?_
     exact endB HB
    ·simp only [Option.some.injEq,Prod.mk.injEq] at H
     obtain ⟨rfl,rfl⟩:=H
     have hnb21:=NB356_357.out;have hnc21:=NB357_356.out;obtain ⟨_,_,_,_⟩:=s2 BK356;obtain ⟨_,_,_,_⟩:=s2 BK357;go_wp2
     repeat (go_quiet (fail);try go_wp2)
     refine bodyPost_ret (results_cell_row rfl _ _ gb357 33 #[.int .i64 a0_0,.int .i64 a0_1] (0,0) _ rfl (bkp BK357) Tryz.underlying33 rfl (by kernel_rfl)) rfl ?_
     exact endB HB
def bocageref02_Less.f (k:Nat) (a0_0:Int) (a0_1:Int) (a1_0:Int) (a1_1:Int):Option (Bool):=(bocageref02_Canon.f k a0_0 a0_1).bind fun bt361=>((bocageref02_Canon.f k a1_0 a1_1).bind fun bt363=>(if bt361.1=bt363.1 then (some (decide (bt361.2 < bt363.2))) else (some (decide (bt361.1 < bt363.1)))))
theorem bocageref02_Less.calls (k:Nat) (a0_0:Int) (a0_1:Int) (a1_0:Int) (a1_1:Int) (r:Bool) (w:World) (h:bocageref02_Less.f k a0_0 a0_1 a1_0 a1_1=some r) :
 Calls Tryz.prog 87 #[.agg #[.int .i64 a0_0,.int .i64 a0_1],.agg #[.int .i64 a1_0,.int .i64 a1_1]] w fun e w'=>e=.returned (.bool r)∧Below w.heap.size w w':=by
 have hu33:=Tryz.underlying33
 have HB:=am (Below.refl w.heap.size w)
 unfold bocageref02_Less.f at h;have H:=h;clear h;revert H;refine bnd2 fun t361 t362 A3 H=>?_;dsimp only at H
 revert H;refine bnd2 fun t363 t364 A4 H=>?_;dsimp only at H
 by_cases c5:t361=t363
 ·rw [if_pos c5] at H
  have c5b0:(t361 == t363)=true:=beq_iff_eq.mpr c5
  have c5b1:(t361 != t363)=false:=bne_eq_false_iff_eq.mpr c5
  clear c5;obtain rfl:=Option.some.inj H;go_enter Tryz.func87,Tryz.ntmps87
  go_wp2_with (first | ((with_reducible refine gate_dst (N:=2) rfl ?_);refine bxf #[.int .i64 a0_0,.int .i64 a0_1] 33 HB fun gb359 w6 BK359 GW359 HB hg hb=>?_;have GE359:=GW359;clear hb hg) | ((with_reducible refine gate_dst (N:=3) rfl ?_);refine bxf #[.int .i64 a1_0,.int .i64 a1_1] 33 HB fun gb360 w7 BK360 GW360 HB hg hb=>?_;have GE360:=GW360;have NB359_360:=nlt hg BK359;have NB360_359:=ngt hg BK359;replace BK359:=bkb BK359 hb;clear hb hg;have hnb8:=NB359_360.out;have hnc8:=NB360_359.out;obtain ⟨_,_,_,_⟩:=s2 BK359) | ((with_reducible refine gate_callee (f:=77) rfl ?_);refine gob Tryz.func77 (bocageref02_Canon.calls _ _ _ _ _ _ A3.out) fun w10 hb=>?_;replace BK359:=bkb BK359 hb;replace BK360:=bkb BK360 hb;replace HB:=bst HB hb;(try clear hb);(try clear hb2);(try clear hk);(try clear hi);obtain ⟨_,_,_,_⟩:=s2 BK359;obtain ⟨_,_,_,_⟩:=s2 BK360) | ((with_reducible refine gate_callee (f:=77) rfl ?_);refine gob Tryz.func77 (bocageref02_Canon.calls _ _ _ _ _ _ A4.out) fun w13 hb=>?_;replace BK359:=am (blk_below (g:=gb359) (o:=.cells #[.int .i64 t361,.int .i64 t362] 33 (0,0)) (bkp BK359) hb);replace BK360:=am (blk_below (bkf BK360 NB360_359) hb);replace HB:=bst HB hb;(try clear hb);(try clear hb2);(try clear hk);(try clear hi);obtain ⟨_,_,_,_⟩:=s2 BK360;obtain ⟨_,_,_,_⟩:=s2 BK359));go_ret;exact endB HB
 ·rw [if_neg c5] at H
  have c5b0:(t361 == t363)=false:=beq_eq_false_iff_ne.mpr c5
  have c5b1:(t361 != t363)=true:=bne_iff_ne.mpr c5
  obtain rfl:=Option.some.inj H;go_enter Tryz.func87,Tryz.ntmps87
  go_wp2_with (first | ((with_reducible refine gate_dst (N:=2) rfl ?_);refine bxf #[.int .i64 a0_0,.int .i64 a0_1] 33 HB fun gb359 w16 BK359 GW359 HB hg hb=>?_;have GE359:=GW359;clear hb hg) | ((with_reducible refine gate_dst (N:=3) rfl ?_);refine bxf #[.int .i64 a1_0,.int .i64 a1_1] 33 HB fun gb360 w17 BK360 GW360 HB hg hb=>?_;have GE360:=GW360;have NB359_360:=nlt hg BK359;have NB360_359:=ngt hg BK359;replace BK359:=bkb BK359 hb;clear hb hg;have hnb18:=NB359_360.out;have hnc18:=NB360_359.out;obtain ⟨_,_,_,_⟩:=s2 BK359) | ((with_reducible refine gate_callee (f:=77) rfl ?_);refine gob Tryz.func77 (bocageref02_Canon.calls _ _ _ _ _ _ A3.out) fun w20 hb=>?_;replace BK359:=bkb BK359 hb;replace BK360:=bkb BK360 hb;replace HB:=bst HB hb;(try clear hb);(try clear hb2);(try clear hk);(try clear hi);obtain ⟨_,_,_,_⟩:=s2 BK359;obtain ⟨_,_,_,_⟩:=s2 BK360) | ((with_reducible refine gate_callee (f:=77) rfl ?_);refine gob Tryz.func77 (bocageref02_Canon.calls _ _ _ _ _ _ A4.out) fun w23 hb=>?_;replace BK359:=am (blk_below (g:=gb359) (o:=.cells #[.int .i64 t361,.int .i64 t362] 33 (0,0)) (bkp BK359) hb);replace BK360:=am (blk_below (bkf BK360 NB360_359) hb);replace HB:=bst HB hb;(try clear hb);(try clear hb2);(try clear hk);(try clear hi);obtain ⟨_,_,_,_⟩:=s2 BK360;obtain ⟨_,_,_,_⟩:=s2 BK359));go_ret;exact endB HB
end Go.Proofs.YtbcpnejdbookkaaGreat.Print
namespace Go.Proofs.YtbcpnejdbookkaaGreat.Print
open Go.RowKit Go.Proofs.YtbcpnejdbookkaaGreatW.PrintWords Go.Proofs.YtbcpnejdbookkaaGreatW.PrintLast Go.Proofs.YtbcpnejdbookkaaGreatW.PrintMore
attribute [local go_sem] max2_int min2_int max_two min_two max_three min_three max_four min_four   -- for this text's walks alone
attribute [local go_sem high] eqA33
def bocageref03_Right.f (k:Nat) (a0_0:Int) (a0_1:Int) (a0_2:Int) (a0_3:Int):Option (Bool):=(bocageref02_Canon.f k a0_0 a0_1).bind fun bt366=>(if (bt366.1 == a0_0 && (bt366.2 == a0_1))=true then ((bocageref02_Canon.f k a0_2 a0_3).bind fun bt368=>(if (bt368.1 == a0_2 && (bt368.2 == a0_3))=true then ((bocageref02_Less.f k a0_0 a0_1 a0_2 a0_3).bind fun t370=>(some t370)) else (some false))) else (some false))
def bocageref03_Right.T1:Bool×List (List Nat×List Nat):=(true,[([],[]),([0],[0]),([1],[1]),([],[]),([3],[3]),([2,4],[2,4]),([5,2],[5]),([6],[6]),([7,6],[6,7]),([8,6,6],[6,8]),([6],[6]),([10,6],[6,10]),([9,11,6],[6,9,11]),([6,12],[6,12]),([13,9],[13]),([14],[14]),([15,14],[14,15]),([14],[14]),([17,14],[14,17]),([16,18,14,14],[14,16,18]),([14,19],[14,19]),([20,19,0,1,2,3,4,5,6,7,8,9,10,11,12,13,14,15,16,17,18,19,20],[20])])
def bocageref03_Right.B1:List Nat:=[0,1,3,0,8,31,63,127,255,511,127,1151,4095,8191,16383,32767,65535,32767,163839,524287,1048575,2097151]
theorem bocageref03_Right.tab1:rtab .any (opsOf Tryz.f86 1)=bocageref03_Right.T1:=by kernel_rfl
theorem bocageref03_Right.bits1:waitsOk bocageref03_Right.T1.2 bocageref03_Right.B1=true:=by kernel_rfl
theorem bocageref03_Right.calls (k:Nat) (a0_0:Int) (a0_1:Int) (a0_2:Int) (a0_3:Int) (r:Bool) (w:World) (h:bocageref03_Right.f k a0_0 a0_1 a0_2 a0_3=some r) :
 Calls Tryz.prog 86 #[.agg #[.int .i64 a0_0,.int .i64 a0_1,.int .i64 a0_2,.int .i64 a0_3]] w fun e w'=>e=.returned (.bool r)∧Below w.heap.size w w':=by
 have hu35:=Tryz.underlying35;have hu33:=Tryz.underlying33
 have HB:=am (Below.refl w.heap.size w)
 unfold bocageref03_Right.f at h;have H:=h;clear h;revert H;refine bnd2 fun t366 t367 A2 H=>?_;dsimp only at H
 by_cases c3:(t366 == a0_0 && (t367 == a0_1))=true
 ·rw [if_pos c3] at H
  have c3b0:(t366 == a0_0 && (t367 == a0_1))=true:=c3
  (try (have c3b1:decide (t366=a0_0 && (t367 == a0_1))=true:=by simpa using c3))
  (try (have c3b2:(t366 == a0_0 && (t367 == a0_1))=true:=by simpa using c3))
  clear c3;revert H;refine bnd2 fun t368 t369 A4 H=>?_;dsimp only at H
  by_cases c5:(t368 == a0_2 && (t369 == a0_3))=true
  ·rw [if_pos c5] at H
   have c5b0:(t368 == a0_2 && (t369 == a0_3))=true:=c5
   (try (have c5b1:decide (t368=a0_2 && (t369 == a0_3))=true:=by simpa using c5))
   (try (have c5b2:(t368 == a0_2 && (t369 == a0_3))=true:=by simpa using c5))
   clear c5;revert H;refine bnd fun t370 A6 H=>?_
   obtain rfl:=Option.some.inj H;go_enter Tryz.func86,Tryz.ntmps86
   try go_wp2_with (first | ((with_reducible refine gate_dst (N:=1) rfl ?_);refine bxf #[.int .i64 a0_0,.int .i64 a0_1,.int .i64 a0_2,.int .i64 a0_3] 35 HB fun gb365 w7 BK365 GW365 HB hg hb=>?_;have GE365:=GW365;clear hb hg))
   replace BK365:=am (blk_drew BK365.out);replace HB:=am (below_drew1 HB.out)
   refine st F22 [] (h4 BK365) fun hHeld=>?_;refine with_tabW bocageref03_Right.tab1 bocageref03_Right.bits1 (fun HT_ HW_=>?_)
   generalize w7.drew=w8 at BK365 HB hHeld ⊢;refine pw 0 3 HT_ ?_;refine pw 3 6 HT_ ?_;refine tw4 1 4 HT_ HW_ hHeld ?_;refine tw4 4 7 HT_ HW_ hHeld ?_
   refine ca 2 HT_ Tryz.func77 (bocageref02_Canon.calls _ _ _ _ _ _ A2.out) hHeld fun w9 hb hHeld=>?_
   replace BK365:=bkb BK365 hb;replace HB:=bst HB hb;clear hb;refine pw 5 8 HT_ ?_;refine pw 6 9 HT_ ?_;refine pw 7 10 HT_ ?_;refine pw 10 13 HT_ ?_;refine tw4 8 11 HT_ HW_ hHeld ?_;refine tw4 11 14 HT_ HW_ hHeld ?_
   refine ca 9 HT_ Tryz.func77 (bocageref02_Canon.calls _ _ _ _ _ _ A4.out) hHeld fun w10 hb hHeld=>?_
   replace BK365:=bkb BK365 hb;replace HB:=bst HB hb;clear hb;refine pw 12 15 HT_ ?_;refine pw 13 16 HT_ ?_;refine pw 14 17 HT_ ?_;refine pw 15 18 HT_ ?_;refine pw 17 20 HT_ ?_;refine tw4 16 19 HT_ HW_ hHeld ?_;refine tw4 18 21 HT_ HW_ hHeld ?_
   refine ca 19 HT_ Tryz.func87 (bocageref02_Less.calls _ _ _ _ _ _ _ A6.out) hHeld fun w11 hb hHeld=>?_
   replace BK365:=bkb BK365 hb;replace HB:=bst HB hb;clear hb;refine pw 20 23 HT_ ?_;refine pw 21 2 HT_ ?_
   refine dt HT_ ?_
   try go_wp2
   go_ret;exact endB HB
  ·rw [if_neg c5] at H
   have c5b0:(t368 == a0_2 && (t369 == a0_3))=false:=by simpa using c5
   (try (have c5b1:decide (t368=a0_2 && (t369 == a0_3))=false:=by simpa using c5))
   (try (have c5b2:(t368 == a0_2 && (t369 == a0_3))=false:=by simpa using c5))
   (try (have c5b3:¬ (t368=a0_2 && (t369 == a0_3)):=by simpa using c5))
   clear c5;obtain rfl:=Option.some.inj H;go_enter Tryz.func86,Tryz.ntmps86
   try go_wp2_with (first | ((with_reducible refine gate_dst (N:=1) rfl ?_);refine bxf #[.int .i64 a0_0,.int .i64 a0_1,.int .i64 a0_2,.int .i64 a0_3] 35 HB fun gb365 w12 BK365 GW365 HB hg hb=>?_;have GE365:=GW365;clear hb hg))
   replace BK365:=am (blk_drew BK365.out);replace HB:=am (below_drew1 HB.out)
   refine st F22 [] (h4 BK365) fun hHeld=>?_;refine with_tabW bocageref03_Right.tab1 bocageref03_Right.bits1 (fun HT_ HW_=>?_)
   generalize w12.drew=w13 at BK365 HB hHeld ⊢;refine pw 0 3 HT_ ?_;refine pw 3 6 HT_ ?_;refine tw4 1 4 HT_ HW_ hHeld ?_;refine tw4 4 7 HT_ HW_ hHeld ?_
   refine ca 2 HT_ Tryz.func77 (bocageref02_Canon.calls _ _ _ _ _ _ A2.out) hHeld fun w14 hb hHeld=>?_
   replace BK365:=bkb BK365 hb;replace HB:=bst HB hb;clear hb;refine pw 5 8 HT_ ?_;refine pw 6 9 HT_ ?_;refine pw 7 10 HT_ ?_;refine pw 10 13 HT_ ?_;refine tw4 8 11 HT_ HW_ hHeld ?_;refine tw4 11 14 HT_ HW_ hHeld ?_
   refine ca 9 HT_ Tryz.func77 (bocageref02_Canon.calls _ _ _ _ _ _ A4.out) hHeld fun w15 hb hHeld=>?_
   replace BK365:=bkb BK365 hb;replace HB:=bst HB hb;clear hb;refine pw 12 15 HT_ ?_;refine pw 13 16 HT_ ?_;refine pw 14 17 HT_ ?_;refine px 15 18 HT_ ?_;refine px 16 19 HT_ ?_;refine px 17 20 HT_ ?_;refine px 18 21 HT_ ?_;refine px 19 22 HT_ ?_;refine pw 20 23 HT_ ?_;refine pw 21 2 HT_ ?_
   refine dt HT_ ?_
   try go_wp2
   go_ret;exact endB HB
 ·rw [if_neg c3] at H
  have c3b0:(t366 == a0_0 && (t367 == a0_1))=false:=by simpa using c3
  (try (have c3b1:decide (t366=a0_0 && (t367 == a0_1))=false:=by simpa using c3))
  (try (have c3b2:(t366 == a0_0 && (t367 == a0_1))=false:=by simpa using c3))
  (try (have c3b3:¬ (t366=a0_0 && (t367 == a0_1)):=by simpa using c3))
  clear c3;obtain rfl:=Option.some.inj H;go_enter Tryz.func86,Tryz.ntmps86
  try go_wp2_with (first | ((with_reducible refine gate_dst (N:=1) rfl ?_);refine bxf #[.int .i64 a0_0,.int .i64 a0_1,.int .i64 a0_2,.int .i64 a0_3] 35 HB fun gb365 w16 BK365 GW365 HB hg hb=>?_;have GE365:=GW365;clear hb hg))
  replace BK365:=am (blk_drew BK365.out);replace HB:=am (below_drew1 HB.out)
  refine st F22 [] (h4 BK365) fun hHeld=>?_;refine with_tabW bocageref03_Right.tab1 bocageref03_Right.bits1 (fun HT_ HW_=>?_)
  generalize w16.drew=w17 at BK365 HB hHeld ⊢;refine pw 0 3 HT_ ?_;refine pw 3 6 HT_ ?_;refine tw4 1 4 HT_ HW_ hHeld ?_;refine tw4 4 7 HT_ HW_ hHeld ?_
  refine ca 2 HT_ Tryz.func77 (bocageref02_Canon.calls _ _ _ _ _ _ A2.out) hHeld fun w18 hb hHeld=>?_
  replace BK365:=bkb BK365 hb;replace HB:=bst HB hb;clear hb;refine pw 5 8 HT_ ?_;refine pw 6 9 HT_ ?_;refine px 7 10 HT_ ?_;refine px 8 11 HT_ ?_;refine px 9 12 HT_ ?_;refine px 10 13 HT_ ?_;refine px 11 14 HT_ ?_;refine px 12 15 HT_ ?_;refine pw 13 16 HT_ ?_;refine pw 14 17 HT_ ?_;refine px 15 18 HT_ ?_;refine px 16 19 HT_ ?_;refine px 17 20 HT_ ?_;refine px 18 21 HT_ ?_;refine px 19 22 HT_ ?_;refine pw 20 23 HT_ ?_;refine pw 21 2 HT_ ?_
  refine dt HT_ ?_
  try go_wp2
  go_ret;exact endB HB
end Go.Proofs.YtbcpnejdbookkaaGreat.Print
namespace Go.Proofs.YtbcpnejdbookkaaGreat.Print
open Go.RowKit Go.Proofs.YtbcpnejdbookkaaGreatW.PrintWords Go.Proofs.YtbcpnejdbookkaaGreatW.PrintLast Go.Proofs.YtbcpnejdbookkaaGreatW.PrintMore
attribute [local go_sem] max2_int min2_int max_two min_two max_three min_three max_four min_four   -- for this text's walks alone
mutual
def bocageref02_Sort.l0:Nat→List (S33)→List (S33)→Option ((List (S33)))
 | 0,_,_=>none
 | k+1,x0,x3=>bocageref02_Sort.l1 k x0 x3 false 0 0 0
def bocageref02_Sort.l1:Nat→List (S33)→List (S33)→Bool→Int→Int→Int→Option ((List (S33)))
 | 0,_,_,_,_,_,_=>none
 | k+1,x0,x3,x4,x6,x422000,x422001=>if x6 < (x0.length:Int) then (if (x3.length:Int)=0 then (bocageref02_Sort.j2 k x0 x3 x4 x6 true x422000 x422001) else (if 0≤(wrap64 ((x3.length:Int) - 1)) then (if (wrap64 ((x3.length:Int) - 1)) < (x3.length:Int) then (if 0≤x6 then ((bocageref02_Less.f k ((rd_T33 x3 (wrap64 ((x3.length:Int) - 1))).f0) ((rd_T33 x3 (wrap64 ((x3.length:Int) - 1))).f1) ((rd_T33 x0 x6).f0) ((rd_T33 x0 x6).f1)).bind fun t427=>(bocageref02_Sort.j2 k x0 x3 x4 x6 t427 x422000 x422001)) else (none)) else (none)) else (none))) else (if x4=true then (if x3.length < 8796093022208 then (bocageref02_Sort.l0 k x0 (x3 ++ [(⟨x422000,x422001⟩:S33)])) else (none)) else (some x3))
def bocageref02_Sort.j2:Nat→List (S33)→List (S33)→Bool→Int→Bool→Int→Int→Option ((List (S33)))
 | 0,_,_,_,_,_,_,_=>none
 | k+1,x0,x3,x4,x6,x7,x422000,x422001=>if x7=true then (if x4=true then (if 0≤x6 then (if x6 < (x0.length:Int) then ((bocageref02_Less.f k ((rd_T33 x0 x6).f0) ((rd_T33 x0 x6).f1) x422000 x422001).bind fun t429=>(if t429=true then ((bocageref02_Canon.f k ((rd_T33 x0 x6).f0) ((rd_T33 x0 x6).f1)).bind fun bt431=>(bocageref02_Sort.l1 k x0 x3 true (wrap64 (x6+1)) bt431.1 bt431.2)) else (bocageref02_Sort.l1 k x0 x3 x4 (wrap64 (x6+1)) x422000 x422001))) else (none)) else (none)) else (if 0≤x6 then (if x6 < (x0.length:Int) then ((bocageref02_Canon.f k ((rd_T33 x0 x6).f0) ((rd_T33 x0 x6).f1)).bind fun bt434=>(bocageref02_Sort.l1 k x0 x3 true (wrap64 (x6+1)) bt434.1 bt434.2)) else (none)) else (none))) else (bocageref02_Sort.l1 k x0 x3 x4 (wrap64 (x6+1)) x422000 x422001)
end
def bocageref02_Sort.f (k:Nat) (l0:List (S33)):Option ((List (S33))):=bocageref02_Sort.l0 k l0 ([]:List (S33))
def bocageref02_Sort.T7:Bool×List (List Nat×List Nat):=(true,[([],[]),([0],[0]),([1],[1]),([2],[2]),([3],[3]),([3],[3]),([5,3],[3,5]),([6,3],[3,6]),([4,7,3],[3,4,7]),([8,3],[3,8]),([3],[3]),([3],[3]),([10,11,3],[3,10,11]),([12,3],[3,12]),([9,13,3,3],[3,9,13]),([3,14],[3,14]),([15,14,0,1,2,3,4,5,6,7,8,9,10,11,12,13,14,15],[15])])
def bocageref02_Sort.B7:List Nat:=[0,1,3,7,15,15,47,111,255,511,15,15,3087,7183,16383,32767,65535]
theorem bocageref02_Sort.tab7:rtab .any (opsOf Tryz.f99 7)=bocageref02_Sort.T7:=by kernel_rfl
theorem bocageref02_Sort.bits7:waitsOk bocageref02_Sort.T7.2 bocageref02_Sort.B7=true:=by kernel_rfl
def bocageref02_Sort.T8:Bool×List (List Nat×List Nat):=(true,[([],[]),([0],[0]),([1],[1]),([2,1],[1,2]),([3,1,1],[1,3]),([4],[4]),([4],[4]),([5,6,4],[4,5,6]),([7,4],[4,7]),([4],[4]),([8,9,4,4],[4,8,9]),([4,10,1],[1,4,10]),([1,11],[1,11])])
def bocageref02_Sort.B8:List Nat:=[0,1,3,7,15,31,31,127,255,31,1023,2047,4095]
theorem bocageref02_Sort.tab8:rtab .any (opsOf Tryz.f99 8)=bocageref02_Sort.T8:=by kernel_rfl
theorem bocageref02_Sort.bits8:waitsOk bocageref02_Sort.T8.2 bocageref02_Sort.B8=true:=by kernel_rfl
theorem bocageref02_Sort.calls (k:Nat) (A0:Option Addr) (c0:Nat) (l0:List (S33)) (r:List (S33)) (w:World) (hr0:Kd.C k33 w A0 l0.length l0) (hc0:l0.length≤c0) (h:bocageref02_Sort.f k l0=some r) :
 Calls Tryz.prog 99 #[.slice A0 l0.length c0] w fun e w'=>∃ v0_:Value,e=.returned (v0_)∧Kd.R k33 33 w' w.heap.size (fun _=>True) v0_ r∧Below w.heap.size w w':=by
 have hu33:=Tryz.underlying33;have HR0:=am hr0;have HC0:=am hc0;clear hr0 hc0
 have HB:=am (Below.refl w.heap.size w)
 have H:(bocageref02_Sort.l0 k l0 ([]:List (S33)))=some r:=h
 clear h;have H':=am H;clear H;go_enter Tryz.func99,Tryz.ntmps99;go_wp2
 go_loopg [3] k (fun kq v3 w'=>∃ (x3_1:List (S33)),Aside0 (bocageref02_Sort.l0 kq l0 x3_1=some r)∧Aside0 (kq≤k)∧Aside0 (Kd.R k33 33 w' w.heap.size (fun _=>True) v3 x3_1)∧Aside0 (Below w.heap.size w w'))
 case atStart=>exact ⟨_,H',⟨Nat.le_refl _⟩,kn,⟨bl HB⟩⟩
 case round =>
  clear H'
  obtain ⟨x3_1,HA,HK1,HO_3,HB⟩:=hrel
  cases gk with
  | zero=>exact absurd HA.out (by simp [bocageref02_Sort.l0])
  | succ k1 =>
   have H:=HA.out;clear HA
   simp only [bocageref02_Sort.l0] at H
   have H':=am H;clear H
   go_wp2_with (first | ((with_reducible refine gate_dst (N:=5) rfl ?_);(try (refine gate_guard (by rfl) ?_;dsimp only));refine bxf #[.int .i64 0,.int .i64 0] 33 HB fun gb421 w2 BK421 GW421 HB hg hb=>?_;replace HO_3:=am (Kd.R_below (Kd.R_elderB (kr HO_3) gb421 (Nat.le_of_eq hg.symm)) hb);have GE421:=GW421;clear hb hg))
   go_loopg [4,6] k1 (fun kq v4 v6 w'=>∃ (x4_2:Bool) (x6_2:Int) (x422000_2:Int) (x422001_2:Int),v4=.bool x4_2∧v6=.int .i64 x6_2∧Aside0 (bocageref02_Sort.l1 kq l0 x3_1 x4_2 x6_2 x422000_2 x422001_2=some r)∧Aside0 (kq≤k1)∧Aside0 (Kd.R k33 33 w' w.heap.size (fun k_=>k_≠gb421) u3 x3_1)∧Aside0 (w'.heap[gb421]? = some (.cells #[.int .i64 x422000_2,.int .i64 x422001_2] 33 (0,0)))∧Aside0 (Below w.heap.size w w'))
   case atStart=>exact ⟨_,_,_,_,rs,rs,H',⟨Nat.le_refl _⟩,⟨by (with_reducible repeat (first | apply Kd.R_alloc | apply Kd.R_drewN | apply Kd.R_drew));exact Kd.R_mono HO_3.out (fun _ hk=>hk.2)⟩,⟨bk BK421⟩,⟨bl HB⟩⟩
   case round =>
    clear H'
    try clear p2
    obtain ⟨x4_2,x6_2,x422000_2,x422001_2,rfl,rfl,HA,HK2,HO_3,BK421,HB⟩:=hrel
    cases gk with
    | zero=>exact absurd HA.out (by simp [bocageref02_Sort.l1])
    | succ k2 =>
     have H:=HA.out;clear HA
     simp only [bocageref02_Sort.l1] at H
     revert H;refine itc (fun c3b0 H=>?_) fun c3b0 H=>?_
     ·have HC4:=am H;clear H
      go_upto_region 7 with (fail)
      go_cut [7] (fun v7 wc=>∃ (kq:Nat) (x7_3:Bool),v7=.bool x7_3∧Aside0 (bocageref02_Sort.j2 kq l0 x3_1 x4_2 x6_2 x7_3 x422000_2 x422001_2=some r)∧Aside0 (kq≤k2)∧Aside0 (Kd.R k33 33 wc w.heap.size (fun k_=>k_≠gb421) u3 x3_1)∧Aside0 (wc.heap[gb421]? = some (.cells #[.int .i64 x422000_2,.int .i64 x422001_2] 33 (0,0)))∧Aside0 (Below w.heap.size w wc))
      case first =>
       have H:=HC4.out;clear HC4
       by_cases c5:(x3_1.length:Int)=0
       ·rw [if_pos c5] at H
        have c5b0:((x3_1.length:Int) == 0)=true:=beq_iff_eq.mpr c5
        have c5b1:((x3_1.length:Int) != 0)=false:=bne_eq_false_iff_eq.mpr c5
        clear c5
        (first | rw [c5b0] | (simp only [i64_w,i32_w];rw [c5b0]) | skip)
        have H':=am H;clear H
        try go_wp2
        replace HO_3:=am (Kd.R_drew HO_3.out);replace BK421:=am (blk_drew BK421.out);replace HB:=am (below_drew1 HB.out)
        obtain ⟨Ao7,co7,eo7⟩:=Kd.R_slice HO_3.out
        (first | subst eo7 | (injection eo7 with f1_ f2_ f3_;have f4_:=f1_.symm;have f5_:=f3_.symm;clear f1_ f2_ f3_;subst f4_;subst f5_))
        refine st F17 [] h0 fun hHeld=>?_;refine with_tabW bocageref02_Sort.tab7 bocageref02_Sort.bits7 (fun HT_ HW_=>?_)
        generalize wr.drew=w6 at HO_3 BK421 HB hHeld ⊢;refine pw 0 14 HT_ ?_;refine pw 1 15 HT_ ?_;refine pw 2 16 HT_ ?_;refine pw 3 17 HT_ ?_;refine px 4 18 HT_ ?_;refine px 5 19 HT_ ?_;refine px 6 20 HT_ ?_;refine px 7 21 HT_ ?_;refine px 8 22 HT_ ?_;refine px 9 23 HT_ ?_;refine px 10 24 HT_ ?_;refine px 11 25 HT_ ?_;refine px 12 26 HT_ ?_;refine px 13 27 HT_ ?_;refine px 14 28 HT_ ?_;refine pw 15 29 HT_ ?_;refine pw 16 7 HT_ ?_
        refine dt HT_ ?_
        try go_wp2
        go_meet
        case rel=>exact ⟨_,(true),rs,H',⟨by have:=HK1.out;have:=HK2.out;first | omega | exact Nat.le_refl _⟩,⟨kr HO_3⟩,⟨bk BK421⟩,⟨bl HB⟩⟩
       ·rw [if_neg c5] at H
        have c5b0:((x3_1.length:Int) == 0)=false:=beq_eq_false_iff_ne.mpr c5
        have c5b1:((x3_1.length:Int) != 0)=true:=bne_iff_ne.mpr c5
        have c5b2:¬ (x3_1=[]):=fun h_=>c5 (by rw [h_];rfl)
        (first | rw [c5b0] | (simp only [i64_w,i32_w];rw [c5b0]) | skip)
        obtain ⟨ji8,hji8⟩:∃ j_:Int,(wrap64 ((x3_1.length:Int) - 1))=j_:=⟨_,rfl⟩
        (first | rw [hji8] at H | simp only [hji8] at H)
        have hji8w:(IntKind.i64.wrap ((x3_1.length:Int) - 1))=ji8:=(i64_w _).trans hji8
        revert H;refine its fun c9b0 H=>?_
        revert H;refine its fun c10b0 H=>?_
        revert H;refine its fun c11b0 H=>?_
        replace H:=Option.bind_eq_some_iff.mp H
        obtain ⟨t427,A120,H⟩:=H
        (try (set_option simprocs false in dsimp only at H))
        have A12:=am A120;clear A120;have H':=am H;clear H
        try go_wp2
        replace HO_3:=am (Kd.R_drew HO_3.out);replace BK421:=am (blk_drew BK421.out);replace HB:=am (below_drew1 HB.out)
        obtain ⟨Ao14,co14,eo14⟩:=Kd.R_slice HO_3.out
        (first | subst eo14 | (injection eo14 with f1_ f2_ f3_;have f4_:=f1_.symm;have f5_:=f3_.symm;clear f1_ f2_ f3_;subst f4_;subst f5_))
        obtain ⟨ad425,e425,hx425_0,hx425_1,p425,q425⟩:=ay33 (Kd.R_reads' HO_3.out).2.2 (ji8)
        cases e425;have p426:0≤(x6_2:Int):=pd;have q426:x6_2 < (l0.length:Int):=pd;obtain ⟨ad426,e426,hx426_0,hx426_1⟩:=at_T33 HR0.out x6_2 p426 q426
        have hw426_1:=hx426_1
        have hw426_0:=hx426_0
        cases e426;replace hx426_0:=cl HB hx426_0;replace hx426_1:=cl HB hx426_1;replace p426:=eq_true p426;replace q426:=eq_true q426
        refine st F17 [] (g1 hx425_0 (g1 hx425_1 (g1 (cl HB hw426_0) (h1 (cl HB hw426_1))))) fun hHeld=>?_;refine with_tabW bocageref02_Sort.tab7 bocageref02_Sort.bits7 (fun HT_ HW_=>?_)
        generalize wr.drew=w13 at HO_3 BK421 HB hx425_0 hx425_1 hx426_0 hx426_1 hHeld ⊢;refine pw 0 14 HT_ ?_;refine pw 1 15 HT_ ?_;refine pw 2 16 HT_ ?_;refine pw 3 17 HT_ ?_;refine pw 4 18 HT_ ?_;refine pw 5 19 HT_ ?_;refine pw 6 20 HT_ ?_;refine pw 7 21 HT_ ?_;refine pw 8 22 HT_ ?_;refine pw 10 24 HT_ ?_;refine pw 11 25 HT_ ?_;refine pw 12 26 HT_ ?_;refine tw4 9 23 HT_ HW_ hHeld ?_;refine tw4 13 27 HT_ HW_ hHeld ?_
        refine on 14 HT_ fun K hK=>?_
        refine goes_ Tryz.func87 (by kernel_rfl) rfl #[.agg #[.int .i64 ((rd_T33 x3_1 (ji8)).f0),.int .i64 ((rd_T33 x3_1 (ji8)).f1)],.agg #[.int .i64 ((rd_T33 l0 x6_2).f0),.int .i64 ((rd_T33 l0 x6_2).f1)]] (by rfl) rfl rfl (by (try simp only [List.map_toArray,List.map_cons,List.map_nil]);first | done | (simp only [hji8];rfl) | rfl | (simp only [List.length_drop,List.length_take];rfl)) ?_
        with_reducible refine (bocageref02_Less.calls _ _ _ _ _ _ _ A12.out).mono ?_
        rintro e w15 ⟨rfl,hb⟩
        have HS0_:=(hb.cell (World.block_lt_of_cell? _ _ (hHeld.1))).trans (hHeld.1)
        have HS1_:=(hb.cell (World.block_lt_of_cell? _ _ (hHeld.2.1))).trans (hHeld.2.1)
        refine ⟨_,rfl,?_⟩;replace HO_3:=krb HO_3 hb;replace BK421:=bkb BK421 hb;replace HB:=bst HB hb
        (try clear hb)
        (try clear hb2)
        (try clear hk)
        (try clear hi)
        refine hK.out _ _ ⟨HS0_,HS1_,(cl HB hw426_0),(cl HB hw426_1)⟩ (fun hHeld=>?_);clear hK K;refine nrp 28 ?_;refine pw 15 29 HT_ ?_;refine pw 16 7 HT_ ?_
        refine dt HT_ ?_
        try go_wp2
        go_meet
        case rel=>exact ⟨_,(t427),rs,H',⟨by have:=HK1.out;have:=HK2.out;first | omega | exact Nat.le_refl _⟩,⟨kr HO_3⟩,⟨bk BK421⟩,⟨bl HB⟩⟩
      case rest =>
       clear HC4
       try clear c1
       try clear p2
       try clear c3
       try clear c3b0
       try clear p4
       try clear q4
       try clear hx4
       try clear c5
       try clear c5b0
       try clear c5b1
       try clear c5b2
       try clear p6
       try clear c8
       try clear c9
       try clear c9b0
       try clear c10
       try clear c10b0
       try clear c11
       try clear c11b0
       try clear hx425_0
       try clear hx425_1
       try clear hx426_0
       try clear hx426_1
       try clear p2
       try clear p425
       try clear p426
       try clear q425
       try clear q426
       obtain ⟨kq,x7_3,rfl,HA,HJ3,HO_3,BK421,HB⟩:=hcut
       cases kq with
       | zero=>exact absurd HA.out (by simp [bocageref02_Sort.j2])
       | succ kj3 =>
        have H:=HA.out;clear HA
        simp only [bocageref02_Sort.j2] at H
        cases x7_3;rotate_left
        ·replace H:=itt H;cases x4_2;rotate_left
         ·replace H:=itt H;revert H;refine its fun c18b0 H=>?_
          revert H;refine its fun c19b0 H=>?_
          replace H:=Option.bind_eq_some_iff.mp H
          obtain ⟨t429,A200,H⟩:=H
          (try (set_option simprocs false in dsimp only at H))
          have A20:=am A200;clear A200;cases t429;rotate_left
          ·replace H:=itt H
           replace H:=Option.bind_eq_some_iff.mp H
           obtain ⟨⟨t431,t432⟩,A220,H⟩:=H
           (try (set_option simprocs false in dsimp only at H))
           have A22:=am A220;clear A220;have H':=am H;clear H
           try go_wp2
           replace HO_3:=am (Kd.R_drew HO_3.out);replace BK421:=am (blk_drew BK421.out);replace HB:=am (below_drew1 HB.out);have p428:0≤(x6_2:Int):=pd;have q428:x6_2 < (l0.length:Int):=pd;obtain ⟨ad428,e428,hx428_0,hx428_1⟩:=at_T33 HR0.out x6_2 p428 q428
           have hw428_1:=hx428_1
           have hw428_0:=hx428_0
           cases e428;replace hx428_0:=cl HB hx428_0;replace hx428_1:=cl HB hx428_1;replace p428:=eq_true p428;replace q428:=eq_true q428
           refine st F13 [] (g2 BK421 (g1 (cl HB hw428_0) (h1 (cl HB hw428_1)))) fun hHeld=>?_;refine with_tabW bocageref02_Sort.tab8 bocageref02_Sort.bits8 (fun HT_ HW_=>?_)
           generalize wc.drew=w23 at HO_3 BK421 HB hx428_0 hx428_1 hHeld ⊢;refine pw 0 30 HT_ ?_;refine pw 1 31 HT_ ?_;refine pw 2 32 HT_ ?_;refine pw 3 33 HT_ ?_;refine pw 4 34 HT_ ?_;refine pw 5 35 HT_ ?_;refine pw 6 36 HT_ ?_;refine pw 7 37 HT_ ?_;refine tw4 8 38 HT_ HW_ hHeld ?_;refine tw4 9 39 HT_ HW_ hHeld ?_
           refine ca 10 HT_ Tryz.func87 (bocageref02_Less.calls _ _ _ _ _ _ _ A20.out) hHeld fun w24 hb hHeld=>?_
           replace HO_3:=krb HO_3 hb;replace BK421:=bkb BK421 hb;replace HB:=bst HB hb;clear hb;refine pw 11 41 HT_ ?_;refine pw 12 42 HT_ ?_
           refine dt HT_ ?_
           obtain ⟨ad430,e430,hx430_0,hx430_1,p430,q430⟩:=ax33 HR0 HB x6_2
           obtain rfl:ad428=ad430:=(by injection e430)
           try go_wp2_with (first | ((with_reducible refine gate_callee (f:=77) rfl ?_);refine gob Tryz.func77 (bocageref02_Canon.calls _ _ _ _ _ _ A22.out) fun w25 hb=>?_;replace HO_3:=krb HO_3 hb;replace BK421:=bkb BK421 hb;replace HB:=bst HB hb;(try clear hb);(try clear hb2);(try clear hk);(try clear hi);obtain ⟨_,_,_,_⟩:=s2 BK421))
           go_roundg kj3
           case measure=>have:=HK1.out;have:=HK2.out;have:=HJ3.out;omega
           case rel=>exact ⟨_,_,_,_,rs,rs,H',⟨by have:=HK1.out;have:=HK2.out;have:=HJ3.out;omega⟩,⟨by (with_reducible repeat (first | apply Kd.R_alloc | apply Kd.R_drewN | apply Kd.R_drew));exact Kd.R_mono (Kd.R_far (p:=⟨gb421,1,none⟩) (Kd.R_far (p:=⟨gb421,0,none⟩) (Kd.R_mono HO_3.out (fun k_ hk=>(⟨hk,hk⟩:_∧k_≠gb421))) (fun _ hk=>hk.2) (.int .i64 t431)) (fun _ hk=>hk.2) (.int .i64 t432)) (fun _ hk=>hk.1)⟩,⟨by (with_reducible repeat (first | refine blk_drewN ?_ _ | refine blk_drew ?_ | refine blk_alloc ?_ _));refine blk_put (cs:=#[.int .i64 t431,.int .i64 x422001_2]) ?_ 1 _ rfl;(with_reducible repeat (first | refine blk_drewN ?_ _ | refine blk_drew ?_ | refine blk_alloc ?_ _));refine blk_put (cs:=#[.int .i64 x422000_2,.int .i64 x422001_2]) ?_ 0 _ rfl;(with_reducible repeat (first | refine blk_drewN ?_ _ | refine blk_drew ?_ | refine blk_alloc ?_ _));exact BK421.out⟩,⟨bl HB⟩⟩
          ·replace H:=itf H;have H':=am H;clear H
           try go_wp2
           replace HO_3:=am (Kd.R_drew HO_3.out);replace BK421:=am (blk_drew BK421.out);replace HB:=am (below_drew1 HB.out);have p428:0≤(x6_2:Int):=pd;have q428:x6_2 < (l0.length:Int):=pd;obtain ⟨ad428,e428,hx428_0,hx428_1⟩:=at_T33 HR0.out x6_2 p428 q428
           have hw428_1:=hx428_1
           have hw428_0:=hx428_0
           cases e428;replace hx428_0:=cl HB hx428_0;replace hx428_1:=cl HB hx428_1;replace p428:=eq_true p428;replace q428:=eq_true q428
           refine st F13 [] (g2 BK421 (g1 (cl HB hw428_0) (h1 (cl HB hw428_1)))) fun hHeld=>?_;refine with_tabW bocageref02_Sort.tab8 bocageref02_Sort.bits8 (fun HT_ HW_=>?_)
           generalize wc.drew=w27 at HO_3 BK421 HB hx428_0 hx428_1 hHeld ⊢;refine pw 0 30 HT_ ?_;refine pw 1 31 HT_ ?_;refine pw 2 32 HT_ ?_;refine pw 3 33 HT_ ?_;refine pw 4 34 HT_ ?_;refine pw 5 35 HT_ ?_;refine pw 6 36 HT_ ?_;refine pw 7 37 HT_ ?_;refine tw4 8 38 HT_ HW_ hHeld ?_;refine tw4 9 39 HT_ HW_ hHeld ?_
           refine ca 10 HT_ Tryz.func87 (bocageref02_Less.calls _ _ _ _ _ _ _ A20.out) hHeld fun w28 hb hHeld=>?_
           replace HO_3:=krb HO_3 hb;replace BK421:=bkb BK421 hb;replace HB:=bst HB hb;clear hb;refine pw 11 41 HT_ ?_;refine pw 12 42 HT_ ?_
           refine dt HT_ ?_
           try go_wp2
           go_roundg kj3
           case measure=>have:=HK1.out;have:=HK2.out;have:=HJ3.out;omega
           case rel=>exact ⟨_,_,_,_,rs,rs,H',⟨by have:=HK1.out;have:=HK2.out;have:=HJ3.out;omega⟩,⟨kr HO_3⟩,⟨bk BK421⟩,⟨bl HB⟩⟩
         ·replace H:=itf H;revert H;refine its fun c29b0 H=>?_
          revert H;refine its fun c30b0 H=>?_
          replace H:=Option.bind_eq_some_iff.mp H
          obtain ⟨⟨t434,t435⟩,A310,H⟩:=H
          (try (set_option simprocs false in dsimp only at H))
          have A31:=am A310;clear A310;have H':=am H;clear H
          try go_wp2
          replace HO_3:=am (Kd.R_drew HO_3.out);replace BK421:=am (blk_drew BK421.out);replace HB:=am (below_drew1 HB.out)
          refine st F13 [] h0 fun hHeld=>?_;refine with_tabW bocageref02_Sort.tab8 bocageref02_Sort.bits8 (fun HT_ HW_=>?_)
          generalize wc.drew=w32 at HO_3 BK421 HB hHeld ⊢;refine pw 0 30 HT_ ?_;refine pw 1 31 HT_ ?_;refine pw 2 32 HT_ ?_;refine pw 3 33 HT_ ?_;refine pw 4 34 HT_ ?_;refine px 5 35 HT_ ?_;refine px 6 36 HT_ ?_;refine px 7 37 HT_ ?_;refine px 8 38 HT_ ?_;refine px 9 39 HT_ ?_;refine px 10 40 HT_ ?_;refine pw 11 41 HT_ ?_;refine pw 12 42 HT_ ?_
          refine dt HT_ ?_
          obtain ⟨ad433,e433,hx433_0,hx433_1,p433,q433⟩:=ax33 HR0 HB x6_2
          cases e433
          try go_wp2_with (first | ((with_reducible refine gate_callee (f:=77) rfl ?_);refine gob Tryz.func77 (bocageref02_Canon.calls _ _ _ _ _ _ A31.out) fun w33 hb=>?_;replace HO_3:=krb HO_3 hb;replace BK421:=bkb BK421 hb;replace HB:=bst HB hb;(try clear hb);(try clear hb2);(try clear hk);(try clear hi);obtain ⟨_,_,_,_⟩:=s2 BK421))
          go_roundg kj3
          case measure=>have:=HK1.out;have:=HK2.out;have:=HJ3.out;omega
          case rel=>exact ⟨_,_,_,_,rs,rs,H',⟨by have:=HK1.out;have:=HK2.out;have:=HJ3.out;omega⟩,⟨by (with_reducible repeat (first | apply Kd.R_alloc | apply Kd.R_drewN | apply Kd.R_drew));exact Kd.R_mono (Kd.R_far (p:=⟨gb421,1,none⟩) (Kd.R_far (p:=⟨gb421,0,none⟩) (Kd.R_mono HO_3.out (fun k_ hk=>(⟨hk,hk⟩:_∧k_≠gb421))) (fun _ hk=>hk.2) (.int .i64 t434)) (fun _ hk=>hk.2) (.int .i64 t435)) (fun _ hk=>hk.1)⟩,⟨by (with_reducible repeat (first | refine blk_drewN ?_ _ | refine blk_drew ?_ | refine blk_alloc ?_ _));refine blk_put (cs:=#[.int .i64 t434,.int .i64 x422001_2]) ?_ 1 _ rfl;(with_reducible repeat (first | refine blk_drewN ?_ _ | refine blk_drew ?_ | refine blk_alloc ?_ _));refine blk_put (cs:=#[.int .i64 x422000_2,.int .i64 x422001_2]) ?_ 0 _ rfl;(with_reducible repeat (first | refine blk_drewN ?_ _ | refine blk_drew ?_ | refine blk_alloc ?_ _));exact BK421.out⟩,⟨bl HB⟩⟩
        ·replace H:=itf H;have H':=am H;clear H
         try go_wp2
         replace HO_3:=am (Kd.R_drew HO_3.out);replace BK421:=am (blk_drew BK421.out);replace HB:=am (below_drew1 HB.out)
         refine st F13 [] h0 fun hHeld=>?_;refine with_tabW bocageref02_Sort.tab8 bocageref02_Sort.bits8 (fun HT_ HW_=>?_)
         generalize wc.drew=w35 at HO_3 BK421 HB hHeld ⊢;refine pw 0 30 HT_ ?_;refine pw 1 31 HT_ ?_;refine px 2 32 HT_ ?_;refine px 3 33 HT_ ?_;refine px 4 34 HT_ ?_;refine px 5 35 HT_ ?_;refine px 6 36 HT_ ?_;refine px 7 37 HT_ ?_;refine px 8 38 HT_ ?_;refine px 9 39 HT_ ?_;refine px 10 40 HT_ ?_;refine px 11 41 HT_ ?_;refine pw 12 42 HT_ ?_
         refine dt HT_ ?_
         try go_wp2
         go_roundg kj3
         case measure=>have:=HK1.out;have:=HK2.out;have:=HJ3.out;omega
         case rel=>exact ⟨_,_,_,_,rs,rs,H',⟨by have:=HK1.out;have:=HK2.out;have:=HJ3.out;omega⟩,⟨kr HO_3⟩,⟨bk BK421⟩,⟨bl HB⟩⟩
     ·cases x4_2;rotate_left
      ·replace H:=itt H;revert H;refine itl fun LMc37 H=>?_
       generalize hy422:x3_1 ++ [(⟨x422000_2,x422001_2⟩:S33)]=y422 at H;have Ny422:=am hy422.symm;clear hy422;have H':=am H;clear H;obtain ⟨_,_,_,_⟩:=s2 BK421
       go_wp2_with (first | ((with_reducible refine gate_builtin (b:=.append) (xs:=#[.tmp 51,.tmp 53]) rfl ?_);(try (refine gate_guard (by rfl) ?_;dsimp only));at_builtin;refine Kd.R_append k33 (w0:=w) w.heap.size rfl (.tmp 51) (.tmp 53) 71 33 (.agg #[(.int .i64 0),(.int .i64 0)]) 16 rfl Tryz.underlying71 info33 rfl (by decide) (by omega) u3 x3_1 (⟨x422000_2,x422001_2⟩:S33) [.int .i64 x422000_2,.int .i64 x422001_2] (fun k_=>k_≠gb421) (fun _=>False) rfl rfl ?aP (fun _ hk=>hk.elim) ?aF ?aO ?aB ?aS ?aL ?_;(case aP=>exact k33_mkM _ _ _ (⟨x422000_2,x422001_2⟩:S33));(case aB=>exact (bl HB));(case aF=>exact (fun k_ hk=>Kd.freshB (bk BK421) k_ hk));(case aO=>exact (kr HO_3));(case aS=>exact (below_size (bl HB)));(case aL=>have:=LMc37.out;omega);intro v423 w39 ho hb hg hat;rw [← Ny422.out] at ho;replace BK421:=am (blk_grown (bk BK421) hg (Kd.R_away HO_3.out (fun _ hk=>hk)));replace HB:=am hb;have HO424:=am ho;clear HO_3;clear ho hb hg hat))
       go_roundg k2
       case measure=>have:=HK1.out;have:=HK2.out;omega
       case rel=>exact ⟨_,H',⟨by have:=HK1.out;have:=HK2.out;omega⟩,⟨by (with_reducible repeat (first | apply Kd.R_alloc | apply Kd.R_drewN | apply Kd.R_drew));exact Kd.R_mono HO424.out (fun _ hk=>trivial)⟩,⟨bl HB⟩⟩
      ·replace H:=itf H;obtain rfl:=Option.some.inj H;go_wp2;go_ret
       exact ⟨_,by first | rfl | (simp [errW_none,errW_some] <;> rfl) | (simp [*,errW_none,errW_some] <;> rfl),by (with_reducible repeat (first | apply Kd.R_alloc | apply Kd.R_drewN | apply Kd.R_drew));exact Kd.R_mono HO_3.out (fun _ hk=>trivial),by repeat (first | (with_reducible first | exact HB.out | apply below_alloc | apply pw_below_drewN | apply below_drew1 | refine below_set ?_ GE421.out) | exact HB.out)⟩
def bocageref03_Cuts.l0:Nat→List (S35)→List (S33)→Int→Option ((List (S33)))
 | 0,_,_,_=>none
 | k+1,x0,x3,x4=>if x4 < (x0.length:Int) then (if 0≤x4 then ((bocageref03_Right.f k ((rd_T35 x0 x4).f0.f0) ((rd_T35 x0 x4).f0.f1) ((rd_T35 x0 x4).f1.f0) ((rd_T35 x0 x4).f1.f1)).bind fun t437=>(if t437=true then ((some (([(⟨(rd_T35 x0 x4).f0.f0,(rd_T35 x0 x4).f0.f1⟩:S33),(⟨(rd_T35 x0 x4).f1.f0,(rd_T35 x0 x4).f1.f1⟩:S33)]:List (S33)):List (S33))).bind fun y440=>(if x3.length+y440.length < 8796093022208 then (bocageref03_Cuts.l0 k x0 (x3 ++ y440) (wrap64 (x4+1))) else (none))) else (bocageref03_Cuts.l0 k x0 x3 (wrap64 (x4+1))))) else (none)) else ((bocageref02_Sort.f k x3).bind fun t446=>(some t446))
def bocageref03_Cuts.f (k:Nat) (l0:List (S35)):Option ((List (S33))):=bocageref03_Cuts.l0 k l0 ([]:List (S33)) 0
def bocageref03_Cuts.T6:Bool×List (List Nat×List Nat):=(true,[([],[]),([],[]),([],[]),([1,2],[1,2]),([3],[3]),([4],[4]),([],[]),([],[]),([6,7],[6,7]),([8],[8]),([9],[9]),([5,10],[5,10]),([0,11],[0,11]),([12,12,0,1,2,3,4,5,6,7,8,9,10,11,12],[0,12])])
def bocageref03_Cuts.B6:List Nat:=[0,0,0,6,14,30,0,0,192,448,960,2046,4095,8191]
theorem bocageref03_Cuts.tab6:rtab .any (opsOf Tryz.f66 6)=bocageref03_Cuts.T6:=by kernel_rfl
theorem bocageref03_Cuts.bits6:waitsOk bocageref03_Cuts.T6.2 bocageref03_Cuts.B6=true:=by kernel_rfl
theorem bocageref03_Cuts.calls (k:Nat) (A0:Option Addr) (c0:Nat) (l0:List (S35)) (r:List (S33)) (w:World) (hr0:Kd.C k35 w A0 l0.length l0) (hc0:l0.length≤c0) (h:bocageref03_Cuts.f k l0=some r) :
 Calls Tryz.prog 66 #[.slice A0 l0.length c0] w fun e w'=>∃ v0_:Value,e=.returned (v0_)∧Kd.R k33 33 w' w.heap.size (fun _=>True) v0_ r∧Below w.heap.size w w':=by
 have hu35:=Tryz.underlying35;have hu33:=Tryz.underlying33;have HR0:=am hr0;have HC0:=am hc0;clear hr0 hc0
 have HB:=am (Below.refl w.heap.size w)
 have H:(bocageref03_Cuts.l0 k l0 ([]:List (S33)) 0)=some r:=h
 clear h;have H':=am H;clear H;go_enter Tryz.func66,Tryz.ntmps66;go_wp2
 go_loopg [3,4] k (fun kq v3 v4 w'=>∃ (x3_1:List (S33)) (x4_1:Int),v4=.int .i64 x4_1∧Aside0 (bocageref03_Cuts.l0 kq l0 x3_1 x4_1=some r)∧Aside0 (kq≤k)∧Aside0 (Kd.R k33 33 w' w.heap.size (fun _=>True) v3 x3_1)∧Aside0 (Below w.heap.size w w'))
 case atStart=>exact ⟨_,_,rs,H',⟨Nat.le_refl _⟩,kn,⟨bl HB⟩⟩
 case round =>
  clear H'
  obtain ⟨x3_1,x4_1,rfl,HA,HK1,HO_3,HB⟩:=hrel
  cases gk with
  | zero=>exact absurd HA.out (by simp [bocageref03_Cuts.l0])
  | succ k1 =>
   have H:=HA.out;clear HA
   simp only [bocageref03_Cuts.l0] at H
   revert H;refine itc (fun c2b0 H=>?_) fun c2b0 H=>?_
   ·revert H;refine its fun c3b0 H=>?_
    revert H;refine bnd fun t437 A4 H=>?_
    cases t437;rotate_left
    ·replace H:=itt H;generalize hy440:([(⟨(rd_T35 l0 x4_1).f0.f0,(rd_T35 l0 x4_1).f0.f1⟩:S33),(⟨(rd_T35 l0 x4_1).f1.f0,(rd_T35 l0 x4_1).f1.f1⟩:S33)]:List (S33))=y440 at H;have Ny440:=am hy440.symm;clear hy440;revert H;refine itl fun LMc6 H=>?_
     generalize hy443:x3_1 ++ y440=y443 at H;have Ny443:=am hy443.symm;clear hy443;have H':=am H;clear H
     obtain ⟨ad436,e436,hx436_0,hx436_1,hx436_2,hx436_3,p436,q436⟩:=ax35 HR0 HB x4_1
     cases e436
     try go_wp2_with (first | ((with_reducible refine gate_callee (f:=86) rfl ?_);refine gob Tryz.func86 (bocageref03_Right.calls _ _ _ _ _ _ _ A4.out) fun w7 hb=>?_;replace HO_3:=krb HO_3 hb;replace HB:=bst HB hb;(try clear hb);(try clear hb2);(try clear hk);(try clear hi)))
     replace HO_3:=am (Kd.R_drew HO_3.out);replace HB:=am (below_drew1 HB.out);have p438:0≤(x4_1:Int):=pd;have q438:x4_1 < (l0.length:Int):=pd;obtain ⟨ad438,e438,hx438_0,hx438_1,hx438_2,hx438_3⟩:=at_T35 HR0.out x4_1 p438 q438
     have hw438_3:=hx438_3
     have hw438_2:=hx438_2
     have hw438_1:=hx438_1
     have hw438_0:=hx438_0
     obtain rfl:ad436=ad438:=(by injection e438)
     replace hx438_0:=cl HB hx438_0;replace hx438_1:=cl HB hx438_1;replace hx438_2:=cl HB hx438_2;replace hx438_3:=cl HB hx438_3;replace p438:=eq_true p438;replace q438:=eq_true q438;have p439:0≤(x4_1:Int):=pd;have q439:x4_1 < (l0.length:Int):=pd;obtain ⟨ad439,e439,hx439_0,hx439_1,hx439_2,hx439_3⟩:=at_T35 HR0.out x4_1 p439 q439
     have hw439_3:=hx439_3
     have hw439_2:=hx439_2
     have hw439_1:=hx439_1
     have hw439_0:=hx439_0
     obtain rfl:ad436=ad439:=(by injection e439)
     replace hx439_0:=cl HB hx439_0;replace hx439_1:=cl HB hx439_1;replace hx439_2:=cl HB hx439_2;replace hx439_3:=cl HB hx439_3;replace p439:=eq_true p439;replace q439:=eq_true q439
     refine st F14 [] (g1 (cl HB hw438_0) (g1 (cl HB hw438_1) (g1 (cl HB hw438_2) (g1 (cl HB hw438_3) (g1 (cl HB hw439_0) (g1 (cl HB hw439_1) (g1 (cl HB hw439_2) (h1 (cl HB hw439_3))))))))) fun hHeld=>?_;refine with_tabW bocageref03_Cuts.tab6 bocageref03_Cuts.bits6 (fun HT_ HW_=>?_)
     generalize w7.drew=w8 at HO_3 HB hx438_0 hx438_1 hx438_2 hx438_3 hx439_0 hx439_1 hx439_2 hx439_3 hHeld ⊢;refine pw 0 16 HT_ ?_;refine pw 1 17 HT_ ?_;refine pw 2 18 HT_ ?_;refine pw 3 19 HT_ ?_;refine pw 4 20 HT_ ?_;refine pw 6 22 HT_ ?_;refine pw 7 23 HT_ ?_;refine pw 8 24 HT_ ?_;refine pw 9 25 HT_ ?_;refine tw8 5 21 HT_ HW_ hHeld ?_;refine tw8 10 26 HT_ HW_ hHeld ?_
     refine on 11 HT_ fun K hK=>?_
     refine Kd.R_lit_step k33 _ 33 ?hg (N:=27) ?hd (xs:=([(⟨(rd_T35 l0 x4_1).f0.f0,(rd_T35 l0 x4_1).f0.f1⟩:S33),(⟨(rd_T35 l0 x4_1).f1.f0,(rd_T35 l0 x4_1).f1.f1⟩:S33)]:List (S33))) (inner:=[.int .i64 ((rd_T35 l0 x4_1).f0.f0),.int .i64 ((rd_T35 l0 x4_1).f0.f1),.int .i64 ((rd_T35 l0 x4_1).f1.f0),.int .i64 ((rd_T35 l0 x4_1).f1.f1)]) (ok:=fun _=>True) (okp:=fun _=>True) ?hr ?hp (fun _ hk=>hk) trivial (Below.refl _ _) (Nat.le_refl _) (by simp) ?_;(case hd=>rfl);(case hg=>rfl);(case hr=>first | (go_simp;done) | (go_simp;rfl));(case hp=>exact (Reps.c2 (show Kd.M k33 _ _ _ (⟨(rd_T35 l0 x4_1).f0.f0,(rd_T35 l0 x4_1).f0.f1⟩:S33) [.int .i64 ((rd_T35 l0 x4_1).f0.f0),.int .i64 ((rd_T35 l0 x4_1).f0.f1)] from (k33_mkM _ _ _ (⟨(rd_T35 l0 x4_1).f0.f0,(rd_T35 l0 x4_1).f0.f1⟩:S33) )) (Reps.c2 (show Kd.M k33 _ _ _ (⟨(rd_T35 l0 x4_1).f1.f0,(rd_T35 l0 x4_1).f1.f1⟩:S33) [.int .i64 ((rd_T35 l0 x4_1).f1.f0),.int .i64 ((rd_T35 l0 x4_1).f1.f1)] from (k33_mkM _ _ _ (⟨(rd_T35 l0 x4_1).f1.f0,(rd_T35 l0 x4_1).f1.f1⟩:S33) )) (Reps.none _ _))))
     intro v441 w9 ho10 hb hg_ hnew_
     clear hg_ hnew_
     (first | rw [← Ny440.out] at ho10 | (simp only [Int.reduceToNat] at ho10;rw [← Ny440.out] at ho10))
     have HO442:=kw (kz ho10 HO_3) HB
     replace HO_3:=ke HO_3 ho10 hb
     replace HB:=bst HB hb;clear hb ho10
     obtain ⟨Ao12,co12,eo12⟩:=Kd.R_slice HO442.out
     (first | subst eo12 | (injection eo12 with f1_ f2_ f3_;have f4_:=f1_.symm;have f5_:=f3_.symm;clear f1_ f2_ f3_;subst f4_;subst f5_))
     refine hK.out _ _ ⟨(cl HB hw438_0),(cl HB hw438_1),(cl HB hw438_2),(cl HB hw438_3),(cl HB hw439_0),(cl HB hw439_1),(cl HB hw439_2),(cl HB hw439_3)⟩ (fun hHeld=>?_);clear hK K;refine nrp 27 ?_
     refine on 12 HT_ fun K hK=>?_
     refine Kd.R_append_rows_step k33 (w0:=w) w.heap.size (by rfl) (.tmp 16) (.tmp 27) 71 33 (.agg #[(.int .i64 0),(.int .i64 0)]) 16 rfl Tryz.underlying71 info33 rfl (by decide) (by omega) u3 x3_1 y440 _ _ _ (fun k_=>some k_≠(.slice Ao12 y440.length co12:Value).ownBlock) (fun _=>False) rfl rfl ?aO ?aR (fun _ _ h=>h) (fun _ h=>h.elim) ?aF ?aB ?aS ?aL ?_
     (case aR=>repeat (first | exact (Kd.R_reads' HO442.out).2.2 | (with_reducible refine Kd.C_alloc ?_ _) | (with_reducible refine Kd.C_drewN ?_ _) | (with_reducible refine Kd.C_drew ?_)))
     (case aB=>exact (bl HB))
     (case aF=>exact (fun k_ hk=>Kd.fresh' (Kd.R_lt (kr HO442)) k_ hk))
     (case aO=>exact (by (with_reducible repeat (first | apply Kd.R_alloc | apply Kd.R_drewN | apply Kd.R_drew));exact Kd.R_mono HO_3.out (fun _ hk=>hk.2)))
     (case aS=>exact (below_size (bl HB)))
     (case aL=>have:=LMc6.out;omega)
     intro v444 w11 ho hb hg hat
     rw [← Ny443.out] at ho
     replace HO442:=am (Kd.R_after (ok:=(fun _=>True)) (kr HO442) hg hat);replace HB:=am hb;have HO445:=am ho;clear HO_3;clear ho hb hg hat;refine hK.out _ _ ⟨(cl HB hw438_0),(cl HB hw438_1),(cl HB hw438_2),(cl HB hw438_3),(cl HB hw439_0),(cl HB hw439_1),(cl HB hw439_2),(cl HB hw439_3)⟩ (fun hHeld=>?_);clear hK K;refine nrp 28 ?_;refine pw 13 3 HT_ ?_
     refine dt HT_ ?_
     try go_wp2
     go_roundg k1
     case measure=>have:=HK1.out;omega
     case rel=>exact ⟨_,_,rs,H',kl HK1,⟨by (with_reducible repeat (first | apply Kd.R_alloc | apply Kd.R_drewN | apply Kd.R_drew));exact Kd.R_mono HO445.out (fun _ hk=>trivial)⟩,⟨bl HB⟩⟩
    ·replace H:=itf H;have H':=am H;clear H
     obtain ⟨ad436,e436,hx436_0,hx436_1,hx436_2,hx436_3,p436,q436⟩:=ax35 HR0 HB x4_1
     cases e436
     go_wp2_with (first | ((with_reducible refine gate_callee (f:=86) rfl ?_);refine gob Tryz.func86 (bocageref03_Right.calls _ _ _ _ _ _ _ A4.out) fun w13 hb=>?_;replace HO_3:=krb HO_3 hb;replace HB:=bst HB hb;(try clear hb);(try clear hb2);(try clear hk);(try clear hi)))
     go_roundg k1
     case measure=>have:=HK1.out;omega
     case rel=>exact ⟨_,_,rs,H',kl HK1,⟨kr HO_3⟩,⟨bl HB⟩⟩
   ·revert H;refine bnd fun t446 A14 H=>?_
    obtain rfl:=Option.some.inj H
    obtain ⟨Ao15,co15,eo15⟩:=Kd.R_slice HO_3.out
    subst eo15
    go_wp2_with (first | ((with_reducible refine gate_callee (f:=99) rfl ?_);refine gol (some 30) Tryz.func99 #[.slice Ao15 x3_1.length co15] ?_;(with_reducible refine (bocageref02_Sort.calls _ _ _ _ _ _ (cr HO_3) (cv HO_3) A14.out).mono ?_);rintro e w16 ⟨v447,rfl,ho0,hb⟩;refine ⟨_,rfl,?_⟩;have HO448:=kw (kz ho0 HO_3) HB;replace HO_3:=ke HO_3 ho0 hb;replace HB:=bst HB hb;clear hb ho0))
    go_ret
    exact ⟨_,by first | rfl | (simp [errW_none,errW_some] <;> rfl) | (simp [*,errW_none,errW_some] <;> rfl),by (with_reducible repeat (first | apply Kd.R_alloc | apply Kd.R_drewN | apply Kd.R_drew));exact Kd.R_mono HO448.out (fun _ hk=>trivial),by repeat (first | (with_reducible first | exact HB.out | apply below_alloc | apply pw_below_drewN | apply below_drew1) | exact HB.out)⟩
def bocageref02_Next.f (k:Nat) (a0_0:Int) (a0_1:Int):Option (Int×Bool):=(bocageref02_Canon.f k a0_0 a0_1).bind fun bt462=>(if bt462.1 > 0 then (some (0,false)) else (if bt462.1 < 0 then ((bocageref02_Least64.f).bind fun t464=>(some (t464,true))) else (some (bt462.2,true))))
theorem bocageref02_Next.mono:∀ a0 a1 k,LeO (bocageref02_Next.f k a0 a1) (bocageref02_Next.f (k+1) a0 a1):=by
 intro a0 a1 k
 unfold bocageref02_Next.f
 repeat' with_reducible first | apply bocageref02_Canon.mono | apply lr | apply ln | apply li | refine lb ?_ fun _=>?_
theorem bocageref02_Next.calls (k:Nat) (a0_0:Int) (a0_1:Int) (r1:Int) (r2:Bool) (w:World) (h:bocageref02_Next.f k a0_0 a0_1=some (r1,r2)) :
 Calls Tryz.prog 49 #[.agg #[.int .i64 a0_0,.int .i64 a0_1]] w fun e w'=>e=.returned (.tuple #[.int .i64 r1,.bool r2])∧Below w.heap.size w w':=by
 have hu33:=Tryz.underlying33
 have HB:=am (Below.refl w.heap.size w)
 unfold bocageref02_Next.f at h;have H:=h;clear h;revert H;refine bnd2 fun t462 t463 A2 H=>?_;dsimp only at H
 revert H;refine itc (fun (c3b0:decide (0 < t462)=true) H=>?_) fun (c3b0:decide (0 < t462)=false) H=>?_
 ·simp only [Option.some.injEq,Prod.mk.injEq] at H
  obtain ⟨rfl,rfl⟩:=H
  go_enter Tryz.func49,Tryz.ntmps49
  go_wp2_with (first | ((with_reducible refine gate_dst (N:=1) rfl ?_);refine bxf #[.int .i64 a0_0,.int .i64 a0_1] 33 HB fun gb461 w4 BK461 GW461 HB hg hb=>?_;have GE461:=GW461;clear hb hg;obtain ⟨_,_,_,_⟩:=s2 BK461) | ((with_reducible refine gate_callee (f:=77) rfl ?_);refine gob Tryz.func77 (bocageref02_Canon.calls _ _ _ _ _ _ A2.out) fun w6 hb=>?_;replace BK461:=bkb BK461 hb;replace HB:=bst HB hb;(try clear hb);(try clear hb2);(try clear hk);(try clear hi);obtain ⟨_,_,_,_⟩:=s2 BK461))
  go_ret2
  exact endB HB
 ·revert H;refine itc (fun c8b0 H=>?_) fun c8b0 H=>?_
  ·revert H;refine bnd fun t464 A9 H=>?_
   simp only [Option.some.injEq,Prod.mk.injEq] at H
   obtain ⟨rfl,rfl⟩:=H
   go_enter Tryz.func49,Tryz.ntmps49
   go_wp2_with (first | ((with_reducible refine gate_dst (N:=1) rfl ?_);refine bxf #[.int .i64 a0_0,.int .i64 a0_1] 33 HB fun gb461 w10 BK461 GW461 HB hg hb=>?_;have GE461:=GW461;clear hb hg;obtain ⟨_,_,_,_⟩:=s2 BK461) | ((with_reducible refine gate_callee (f:=77) rfl ?_);refine gob Tryz.func77 (bocageref02_Canon.calls _ _ _ _ _ _ A2.out) fun w12 hb=>?_;replace BK461:=bkb BK461 hb;replace HB:=bst HB hb;(try clear hb);(try clear hb2);(try clear hk);(try clear hi);obtain ⟨_,_,_,_⟩:=s2 BK461) | ((with_reducible refine gate_callee (f:=78) rfl ?_);refine god Tryz.func78 (bocageref02_Least64.calls _ _ A9.out) fun nd=>?_))
   go_ret2
   exact endB HB
  ·simp only [Option.some.injEq,Prod.mk.injEq] at H
   obtain ⟨rfl,rfl⟩:=H
   go_enter Tryz.func49,Tryz.ntmps49
   go_wp2_with (first | ((with_reducible refine gate_dst (N:=1) rfl ?_);refine bxf #[.int .i64 a0_0,.int .i64 a0_1] 33 HB fun gb461 w14 BK461 GW461 HB hg hb=>?_;have GE461:=GW461;clear hb hg;obtain ⟨_,_,_,_⟩:=s2 BK461) | ((with_reducible refine gate_callee (f:=77) rfl ?_);refine gob Tryz.func77 (bocageref02_Canon.calls _ _ _ _ _ _ A2.out) fun w16 hb=>?_;replace BK461:=bkb BK461 hb;replace HB:=bst HB hb;(try clear hb);(try clear hb2);(try clear hk);(try clear hi);obtain ⟨_,_,_,_⟩:=s2 BK461))
   go_ret2
   exact endB HB
def bocageref01_digit.f (l0:List Int) (a1:Int):Option (Int):=if a1 < (l0.length:Int) then (if 0≤a1 then (some (rd l0 a1)) else (none)) else (some 0)
theorem bocageref01_digit.calls (A0:Option Addr) (c0:Nat) (l0:List Int) (a1:Int) (r:Int) (w:World) (hr0:Kd.C (Kd.int .i64) w A0 l0.length l0) (hc0:l0.length≤c0) (h:bocageref01_digit.f l0 a1=some r) :
 Calls Tryz.prog 94 #[.slice A0 l0.length c0,.int .i64 a1] w fun e w'=>e=.returned (.int .i64 r)∧Drawn0 w w':=by
 have HR0:=am hr0;have HC0:=am hc0;clear hr0 hc0
 unfold bocageref01_digit.f at h;have H:=h;clear h;revert H;refine itc (fun c3b0 H=>?_) fun c3b0 H=>?_
 ·revert H;refine its fun c4b0 H=>?_
  obtain rfl:=Option.some.inj H;have p465:0≤(a1:Int):=pd;have q465:a1 < (l0.length:Int):=pd
  obtain ⟨ad465,e465,hx465_0⟩:=Kd.at_int HR0.out a1 p465 q465
  cases e465;replace p465:=eq_true p465;replace q465:=eq_true q465;go_enter Tryz.func94,Tryz.ntmps94;go_wp2;go_ret
  exact ⟨rs,dn⟩
 ·obtain rfl:=Option.some.inj H;go_enter Tryz.func94,Tryz.ntmps94;go_wp2;go_ret
  exact ⟨rs,dn⟩
def bocageref01_cut.l0:Nat→List Int→Option (List Int)
 | 0,_=>none
 | k+1,x0=>if (x0.length:Int) > 0 then (if 0≤(wrap64 ((x0.length:Int) - 1)) then (if (wrap64 ((x0.length:Int) - 1)) < (x0.length:Int) then (if (rd x0 (wrap64 ((x0.length:Int) - 1)))=0 then (if (wrap64 ((x0.length:Int) - 1))≤(x0.length:Int) then (bocageref01_cut.l0 k (x0.take ((wrap64 ((x0.length:Int) - 1)):Int).toNat)) else (none)) else (some x0)) else (none)) else (none)) else (some x0)
def bocageref01_cut.f (k:Nat) (l0:List Int):Option (List Int):=bocageref01_cut.l0 k l0
theorem bocageref01_cut.mono_l:∀ k,(∀ y0,LeO (bocageref01_cut.l0 k y0) (bocageref01_cut.l0 (k+1) y0))
 | 0=>fun _ r h=>by simp [bocageref01_cut.l0] at h
 | k+1=>by
  have ih0:=bocageref01_cut.mono_l k
  ·intro y0
   unfold bocageref01_cut.l0
   repeat' with_reducible first | apply ih0 | apply lr | apply ln | apply li | refine lb ?_ fun _=>?_
theorem bocageref01_cut.mono:∀ a0 k,LeO (bocageref01_cut.f k a0) (bocageref01_cut.f (k+1) a0):=by
 intro a0 k
 have ih0:=bocageref01_cut.mono_l k
 unfold bocageref01_cut.f
 repeat' with_reducible first | apply ih0 | apply lr | apply ln | apply li | refine lb ?_ fun _=>?_
theorem bocageref01_cut.calls (k:Nat) (P0_:Nat→Prop) (A0:Option Addr) (c0:Nat) (l0:List Int) (r:List Int) (w:World) (hs0:Kd.V (Kd.int .i64) 3 w w.heap.size (fun k_=>P0_ k_) (.slice A0 l0.length c0) l0) (h:bocageref01_cut.f k l0=some r) :
 Calls Tryz.prog 95 #[.slice A0 l0.length c0] w fun e w'=>∃ v0_:Value,e=.returned (v0_)∧Kd.V (Kd.int .i64) 3 w' w.heap.size (fun k_=>(P0_ k_∨w.heap.size≤k_)) v0_ r∧Below w.heap.size w w':=by
 have HO0:=am (show Kd.V (Kd.int .i64) 3 w w.heap.size (fun k_=>(P0_ k_∨w.heap.size≤k_)) (.slice A0 l0.length c0) l0 from Kd.V_mono hs0 (fun k_ hk=>.inl hk))
 have HB:=am (Below.refl w.heap.size w)
 have H:(bocageref01_cut.l0 k l0)=some r:=h
 clear h;have H':=am H;clear H;go_enter Tryz.func95,Tryz.ntmps95;go_wp2
 go_loopg [0] k (fun kq v0 w'=>∃ (x0_1:List Int),Aside0 (bocageref01_cut.l0 kq x0_1=some r)∧Aside0 (kq≤k)∧Aside0 (Kd.V (Kd.int .i64) 3 w' w.heap.size (fun k_=>(P0_ k_∨w.heap.size≤k_)) v0 x0_1)∧Aside0 (Below w.heap.size w w'))
 case atStart=>exact ⟨_,H',⟨Nat.le_refl _⟩,⟨by (with_reducible repeat (first | apply Kd.V_alloc | apply Kd.V_drewN | apply Kd.V_drew));exact HO0.out⟩,⟨bl HB⟩⟩
 case round =>
  clear H'
  obtain ⟨x0_1,HA,HK1,HO_0,HB⟩:=hrel
  cases gk with
  | zero=>exact absurd HA.out (by simp [bocageref01_cut.l0])
  | succ k1 =>
   have H:=HA.out;clear HA
   simp only [bocageref01_cut.l0] at H
   by_cases c2:(x0_1.length:Int) > 0
   ·rw [if_pos c2] at H
    have c2b0:decide (0 < (x0_1.length:Int))=true:=decide_eq_true c2
    have c2b1:decide (0 < x0_1.length)=true:=decide_eq_true (by omega)
    clear c2
    obtain ⟨ji3,hji3⟩:∃ j_:Int,(wrap64 ((x0_1.length:Int) - 1))=j_:=⟨_,rfl⟩
    (first | rw [hji3] at H | simp only [hji3] at H)
    have hji3w:(IntKind.i64.wrap ((x0_1.length:Int) - 1))=ji3:=(i64_w _).trans hji3
    revert H;refine its fun c4b0 H=>?_
    revert H;refine its fun c5b0 H=>?_
    by_cases c6:(rd x0_1 (ji3))=0
    ·rw [if_pos c6] at H
     have c6b0:((rd x0_1 (ji3)) == 0)=true:=beq_iff_eq.mpr c6
     have c6b1:((rd x0_1 (ji3)) != 0)=false:=bne_eq_false_iff_eq.mpr c6
     clear c6
     have c7b0:=eq_true (of_decide_eq_true (by first | (with_reducible assumption) | assumption):0≤(ji3))
     by_cases c8:(ji3)≤(x0_1.length:Int)
     ·rw [if_pos c8] at H
      have c8b0:=eq_true c8
      have c8b1:decide ((ji3)≤(x0_1.length:Int))=true:=decide_eq_true c8
      clear c8;generalize hy467:x0_1.take ((ji3):Int).toNat=y467 at H;have Ny467:=am hy467.symm;clear hy467;have H':=am H;clear H
      obtain ⟨Ao9,co9,eo9⟩:=Kd.V_slice HO_0.out
      subst eo9
      have p466:0≤((ji3):Int):=pd;have q466:(ji3) < (x0_1.length:Int):=pd
      obtain ⟨ad466,e466,hx466_0⟩:=Kd.at_int (Kd.V_reads' HO_0.out).2.2 (ji3) p466 q466
      cases e466;replace p466:=eq_true p466;replace q466:=eq_true q466;have q10:((ji3):Int)≤((x0_1.length:Int):Int):=pd
      obtain ⟨i010,hi010,_,hsz10,_⟩:=info_parts info3
      have hroom10:x0_1.length≤co9:=(Kd.V_reads' HO_0.out).2.1
      have hC10:Kd.F (Kd.int .i64) _ _ (some ad466) x0_1.length x0_1:=(Kd.V_at (base:=w.heap.size) HO_0.out).2.2
      have hcut10:=cut_to (P:=Tryz.prog) 42 3 .i64 Tryz.underlying42 hi010 (some ad466) x0_1.length co9 (ji3) pd q10 hroom10
      have hr10:=Kd.F_take (m:=((ji3):Int).toNat) hC10 (by omega)
      have hy10:y467.length=((ji3):Int).toNat:=(by rw [Ny467.out,List.length_take];omega)
      rw [← Ny467.out] at hr10
      rw [← hy10] at hcut10
      have HO471:=am (show Kd.V (Kd.int .i64) 3 _ w.heap.size _ (.slice (some ad466) y467.length co9) y467 from Kd.V_mk (by omega) hr10)
      have HC471:=am (show y467.length≤co9 from by omega)
      clear hr10 hC10 hroom10 hi010 hsz10;have KY10:=am hy10;clear hy10;replace q10:=eq_true q10;go_wp2
      go_roundg k1
      case measure=>have:=HK1.out;omega
      case rel=>exact ⟨_,H',kl HK1,⟨by (with_reducible repeat (first | apply Kd.V_alloc | apply Kd.V_drewN | apply Kd.V_drew));exact HO471.out⟩,⟨bl HB⟩⟩
     ·rw [if_neg c8] at H
      exact absurd H (by simp)
    ·rw [if_neg c6] at H
     have c6b0:((rd x0_1 (ji3)) == 0)=false:=beq_eq_false_iff_ne.mpr c6
     have c6b1:((rd x0_1 (ji3)) != 0)=true:=bne_iff_ne.mpr c6
     obtain rfl:=Option.some.inj H
     obtain ⟨Ao11,co11,eo11⟩:=Kd.V_slice HO_0.out
     subst eo11
     have p466:0≤((ji3):Int):=pd;have q466:(ji3) < (x0_1.length:Int):=pd
     obtain ⟨ad466,e466,hx466_0⟩:=Kd.at_int (Kd.V_reads' HO_0.out).2.2 (ji3) p466 q466
     cases e466;replace p466:=eq_true p466;replace q466:=eq_true q466;go_wp2;go_ret
     exact ⟨_,by first | rfl | (simp [errW_none,errW_some] <;> rfl) | (simp only [← hji3];first | rfl | (simp [errW_none,errW_some] <;> rfl)) | (simp [*,errW_none,errW_some] <;> rfl),by (with_reducible repeat (first | apply Kd.V_alloc | apply Kd.V_drewN | apply Kd.V_drew));exact HO_0.out,by repeat (first | (with_reducible first | exact HB.out | apply below_alloc | apply pw_below_drewN | apply below_drew1) | exact HB.out)⟩
   ·rw [if_neg c2] at H
    have c2b0:decide (0 < (x0_1.length:Int))=false:=decide_eq_false c2
    have c2b1:decide (0 < x0_1.length)=false:=decide_eq_false (by omega)
    clear c2;obtain rfl:=Option.some.inj H
    obtain ⟨Ao12,co12,eo12⟩:=Kd.V_slice HO_0.out
    subst eo12
    go_wp2;go_ret
    exact ⟨_,by first | rfl | (simp [errW_none,errW_some] <;> rfl) | (simp [*,errW_none,errW_some] <;> rfl),by (with_reducible repeat (first | apply Kd.V_alloc | apply Kd.V_drewN | apply Kd.V_drew));exact HO_0.out,by repeat (first | (with_reducible first | exact HB.out | apply below_alloc | apply pw_below_drewN | apply below_drew1) | exact HB.out)⟩
def bocageref01_more.l0:Nat→List Int→List Int→Int→Option (Bool)
 | 0,_,_,_=>none
 | k+1,x0,x1,x5=>if x5 ≥ 0 then ((bocageref01_digit.f x0 x5).bind fun t472=>((bocageref01_digit.f x1 x5).bind fun t473=>(if t472=t473 then (bocageref01_more.l0 k x0 x1 (wrap64 (x5 - 1))) else ((bocageref01_digit.f x0 x5).bind fun t474=>((bocageref01_digit.f x1 x5).bind fun t475=>(some (decide (t474 > t475)))))))) else (some false)
def bocageref01_more.f (k:Nat) (l0:List Int) (l1:List Int):Option (Bool):=bocageref01_more.l0 k l0 l1 (wrap64 ((l0.length:Int)+(l1.length:Int)))
theorem bocageref01_more.mono_l:∀ k,(∀ y0 y1 y2,LeO (bocageref01_more.l0 k y0 y1 y2) (bocageref01_more.l0 (k+1) y0 y1 y2))
 | 0=>fun _ _ _ r h=>by simp [bocageref01_more.l0] at h
 | k+1=>by
  have ih0:=bocageref01_more.mono_l k
  ·intro y0 y1 y2
   unfold bocageref01_more.l0
   repeat' with_reducible first | apply ih0 | apply lr | apply ln | apply li | refine lb ?_ fun _=>?_
theorem bocageref01_more.mono:∀ a0 a1 k,LeO (bocageref01_more.f k a0 a1) (bocageref01_more.f (k+1) a0 a1):=by
 intro a0 a1 k
 have ih0:=bocageref01_more.mono_l k
 unfold bocageref01_more.f
 repeat' with_reducible first | apply ih0 | apply lr | apply ln | apply li | refine lb ?_ fun _=>?_
theorem bocageref01_more.calls (k:Nat) (A0:Option Addr) (c0:Nat) (l0:List Int) (A1:Option Addr) (c1:Nat) (l1:List Int) (r:Bool) (w:World) (hr0:Kd.C (Kd.int .i64) w A0 l0.length l0) (hc0:l0.length≤c0) (hr1:Kd.C (Kd.int .i64) w A1 l1.length l1) (hc1:l1.length≤c1) (h:bocageref01_more.f k l0 l1=some r) :
 Calls Tryz.prog 96 #[.slice A0 l0.length c0,.slice A1 l1.length c1] w fun e w'=>e=.returned (.bool r)∧Drawn0 w w':=by
 have HR0:=am hr0;have HC0:=am hc0;clear hr0 hc0;have HR1:=am hr1;have HC1:=am hc1;clear hr1 hc1
 have H:(bocageref01_more.l0 k l0 l1 (wrap64 ((l0.length:Int)+(l1.length:Int))))=some r:=h
 clear h;have H':=am H;clear H;go_enter Tryz.func96,Tryz.ntmps96;go_wp2
 go_loopg [5] k (fun kq v5 w'=>∃ (x5_1:Int),v5=.int .i64 x5_1∧Aside0 (bocageref01_more.l0 kq l0 l1 x5_1=some r)∧Aside0 (kq≤k)∧Drawn0 w w')
 case atStart=>exact ⟨_,rs,H',⟨Nat.le_refl _⟩,dn⟩
 case round =>
  clear H'
  try clear c1
  try clear p2
  obtain ⟨x5_1,rfl,HA,HK1,⟨m1,rfl⟩⟩:=hrel
  cases gk with
  | zero=>exact absurd HA.out (by simp [bocageref01_more.l0])
  | succ k1 =>
   have H:=HA.out;clear HA
   simp only [bocageref01_more.l0] at H
   revert H;refine itc (fun (c3b0:decide (0≤x5_1)=true) H=>?_) fun (c3b0:decide (0≤x5_1)=false) H=>?_
   ·revert H;refine bnd fun t472 A4 H=>?_
    revert H;refine bnd fun t473 A5 H=>?_
    by_cases c6:t472=t473
    ·rw [if_pos c6] at H
     have c6b0:(t472 == t473)=true:=beq_iff_eq.mpr c6
     have c6b1:(t472 != t473)=false:=bne_eq_false_iff_eq.mpr c6
     clear c6;have H':=am H;clear H
     go_wp2_with (first | ((with_reducible refine gate_callee (f:=94) rfl ?_);refine gol (some 17) Tryz.func94 #[.slice A0 l0.length c0,.int .i64 x5_1] ?_;(with_reducible refine (bocageref01_digit.calls _ _ _ _ _ _ ?side1 ?side2 A4.out).mono ?_);(case side1=>repeat (first | exact HR0.out | (with_reducible refine Kd.C_alloc ?_ _) | (with_reducible refine Kd.C_drewN ?_ _) | (with_reducible refine Kd.C_drew ?_)));(case side2=>exact HC0.out);rintro e w' ⟨rfl,⟨nd,rfl⟩⟩;refine ⟨_,rfl,?_⟩) | ((with_reducible refine gate_callee (f:=94) rfl ?_);refine gol (some 20) Tryz.func94 #[.slice A1 l1.length c1,.int .i64 x5_1] ?_;(with_reducible refine (bocageref01_digit.calls _ _ _ _ _ _ ?side1 ?side2 A5.out).mono ?_);(case side1=>repeat (first | exact HR1.out | (with_reducible refine Kd.C_alloc ?_ _) | (with_reducible refine Kd.C_drewN ?_ _) | (with_reducible refine Kd.C_drew ?_)));(case side2=>exact HC1.out);rintro e w' ⟨rfl,⟨nd,rfl⟩⟩;refine ⟨_,rfl,?_⟩))
     go_roundg k1
     case measure=>have:=HK1.out;omega
     case rel=>exact ⟨_,rs,H',kl HK1,dn⟩
    ·rw [if_neg c6] at H
     have c6b0:(t472 == t473)=false:=beq_eq_false_iff_ne.mpr c6
     have c6b1:(t472 != t473)=true:=bne_iff_ne.mpr c6
     revert H;refine bnd fun t474 A7 H=>?_
     revert H;refine bnd fun t475 A8 H=>?_
     obtain rfl:=Option.some.inj H
     go_wp2_with (first | ((with_reducible refine gate_callee (f:=94) rfl ?_);refine gol (some 17) Tryz.func94 #[.slice A0 l0.length c0,.int .i64 x5_1] ?_;(with_reducible refine (bocageref01_digit.calls _ _ _ _ _ _ ?side1 ?side2 A4.out).mono ?_);(case side1=>repeat (first | exact HR0.out | (with_reducible refine Kd.C_alloc ?_ _) | (with_reducible refine Kd.C_drewN ?_ _) | (with_reducible refine Kd.C_drew ?_)));(case side2=>exact HC0.out);rintro e w' ⟨rfl,⟨nd,rfl⟩⟩;refine ⟨_,rfl,?_⟩) | ((with_reducible refine gate_callee (f:=94) rfl ?_);refine gol (some 20) Tryz.func94 #[.slice A1 l1.length c1,.int .i64 x5_1] ?_;(with_reducible refine (bocageref01_digit.calls _ _ _ _ _ _ ?side1 ?side2 A5.out).mono ?_);(case side1=>repeat (first | exact HR1.out | (with_reducible refine Kd.C_alloc ?_ _) | (with_reducible refine Kd.C_drewN ?_ _) | (with_reducible refine Kd.C_drew ?_)));(case side2=>exact HC1.out);rintro e w' ⟨rfl,⟨nd,rfl⟩⟩;refine ⟨_,rfl,?_⟩) | ((with_reducible refine gate_callee (f:=94) rfl ?_);refine gol (some 24) Tryz.func94 #[.slice A0 l0.length c0,.int .i64 x5_1] ?_;(with_reducible refine (bocageref01_digit.calls _ _ _ _ _ _ ?side1 ?side2 A7.out).mono ?_);(case side1=>repeat (first | exact HR0.out | (with_reducible refine Kd.C_alloc ?_ _) | (with_reducible refine Kd.C_drewN ?_ _) | (with_reducible refine Kd.C_drew ?_)));(case side2=>exact HC0.out);rintro e w' ⟨rfl,⟨nd,rfl⟩⟩;refine ⟨_,rfl,?_⟩) | ((with_reducible refine gate_callee (f:=94) rfl ?_);refine gol (some 27) Tryz.func94 #[.slice A1 l1.length c1,.int .i64 x5_1] ?_;(with_reducible refine (bocageref01_digit.calls _ _ _ _ _ _ ?side1 ?side2 A8.out).mono ?_);(case side1=>repeat (first | exact HR1.out | (with_reducible refine Kd.C_alloc ?_ _) | (with_reducible refine Kd.C_drewN ?_ _) | (with_reducible refine Kd.C_drew ?_)));(case side2=>exact HC1.out);rintro e w' ⟨rfl,⟨nd,rfl⟩⟩;refine ⟨_,rfl,?_⟩));go_ret
     exact ⟨rs,dn⟩
   ·obtain rfl:=Option.some.inj H;go_wp2;go_ret
    exact ⟨rs,dn⟩
def bocageref01_Plus.ok (l:List Int):Bool:=l.all (fun d=>decide (0≤d) && decide (d≤9)) && decide (l.length≤1000000)
def bocageref01_Plus.add:Nat→List Int→List Int→Int→Nat→List Int
 | 0,_,_,_,_=>[]
 | n+1,a,b,o,i=>(a.getD i 0+b.getD i 0+o) % 10 :: bocageref01_Plus.add n a b ((a.getD i 0+b.getD i 0+o) / 10) (i+1)
def bocageref01_Plus.sub:Nat→List Int→List Int→Int→Nat→List Int
 | 0,_,_,_,_=>[]
 | n+1,x,y,o,i=>if x.getD i 0 - y.getD i 0 - o < 0 then (x.getD i 0 - y.getD i 0 - o+10) :: bocageref01_Plus.sub n x y 1 (i+1) else (x.getD i 0 - y.getD i 0 - o) :: bocageref01_Plus.sub n x y 0 (i+1)
def bocageref01_Plus.less (k:Nat) (s:Int) (x y:List Int):Option (Int×List Int):=(bocageref01_cut.f k (bocageref01_Plus.sub x.length x y 0 0)).bind fun r=>some (if r.length=0 then 0 else s,r)
def bocageref01_Plus.f (k:Nat) (a0_0:Int) (l0_1:List Int) (a1_0:Int) (l1_1:List Int):Option (Int×List Int) :=
  if (bocageref01_Plus.ok l0_1 && bocageref01_Plus.ok l1_1)=true then
    (if a0_0=0 then some (a1_0,l1_1) else if a1_0=0 then some (a0_0,l0_1)
     else if a0_0=a1_0 then (bocageref01_cut.f k (bocageref01_Plus.add (l0_1.length+l1_1.length+1) l0_1 l1_1 0 0)).bind fun r=>some (a0_0,r)
     else (bocageref01_more.f k l1_1 l0_1).bind fun m=>if m=true then bocageref01_Plus.less k a1_0 l1_1 l0_1 else bocageref01_Plus.less k a0_0 l0_1 l1_1)
  else none
theorem bocageref01_Plus.less_mono (k:Nat) (s:Int) (x y:List Int):LeO (bocageref01_Plus.less k s x y) (bocageref01_Plus.less (k+1) s x y):=by
 intro r h
 unfold bocageref01_Plus.less at h ⊢
 obtain ⟨t,h1,h⟩:=Option.bind_eq_some_iff.1 h
 rw [bocageref01_cut.mono _ _ _ h1]
 exact h
theorem bocageref01_Plus.mono:∀ a0 a1 a2 a3 k,LeO (bocageref01_Plus.f k a0 a1 a2 a3) (bocageref01_Plus.f (k+1) a0 a1 a2 a3):=by
 intro a0 a1 a2 a3 k r h
 unfold bocageref01_Plus.f at h ⊢
 split
 ·rename_i h1
  rw [if_pos h1] at h
  split
  ·rename_i h2
   rw [if_pos h2] at h
   exact h
  ·rename_i h2
   rw [if_neg h2] at h
   split
   ·rename_i h3
    rw [if_pos h3] at h
    exact h
   ·rename_i h3
    rw [if_neg h3] at h
    split
    ·rename_i h4
     rw [if_pos h4] at h
     obtain ⟨t,h5,h⟩:=Option.bind_eq_some_iff.1 h
     rw [bocageref01_cut.mono _ _ _ h5]
     exact h
    ·rename_i h4
     rw [if_neg h4] at h
     obtain ⟨t,h5,h⟩:=Option.bind_eq_some_iff.1 h
     rw [bocageref01_more.mono _ _ _ _ h5]
     simp only [Option.bind_some]
     split
     ·rename_i h6
      rw [if_pos h6] at h
      exact bocageref01_Plus.less_mono _ _ _ _ r h
     ·rename_i h6
      rw [if_neg h6] at h
      exact bocageref01_Plus.less_mono _ _ _ _ r h
 ·rename_i h1
  rw [if_neg h1] at h
  exact h
theorem bocageref01_Plus.ok_at {l:List Int} (h:bocageref01_Plus.ok l=true) (i:Nat):0≤l.getD i 0∧l.getD i 0≤9:=by
 simp only [bocageref01_Plus.ok,Bool.and_eq_true,List.all_eq_true,decide_eq_true_eq] at h
 by_cases hi:i < l.length
 ·rw [List.getD_eq_getElem?_getD,List.getElem?_eq_getElem hi]
  exact h.1 _ (List.getElem_mem hi)
 ·rw [List.getD_eq_getElem?_getD,List.getElem?_eq_none (by omega)];simp
theorem bocageref01_Plus.ok_len {l:List Int} (h:bocageref01_Plus.ok l=true):l.length≤1000000:=by
 simp only [bocageref01_Plus.ok,Bool.and_eq_true,decide_eq_true_eq] at h
 exact h.2
theorem bocageref01_Plus.dig_some (l:List Int) (i:Nat) (h:l.length≤1000000):bocageref01_digit.f l (i:Int)=some (l.getD i 0):=by
 unfold bocageref01_digit.f
 by_cases hi:(i:Int) < (l.length:Int)
 ·rw [if_pos hi,if_pos (by omega)];simp [rd]
 ·rw [if_neg hi,List.getD_eq_getElem?_getD,List.getElem?_eq_none (by omega)];simp
theorem bocageref01_Plus.add_len:∀ n a b o i,(bocageref01_Plus.add n a b o i).length=n
 | 0,_,_,_,_=>rfl
 | n+1,a,b,o,i=>by simp [bocageref01_Plus.add,bocageref01_Plus.add_len n]
theorem bocageref01_Plus.sub_len:∀ n a b o i,(bocageref01_Plus.sub n a b o i).length=n
 | 0,_,_,_,_=>rfl
 | n+1,a,b,o,i=>by simp only [bocageref01_Plus.sub];split <;> simp [bocageref01_Plus.sub_len n]
structure bocageref01_Plus.Inv (w:World) (n:Nat) (s:Int) (va:Value) (t:Int) (vb:Value) (so:Int) (xs:List Int) (wr:World):Prop where
 ba:wr.heap[w.heap.size]? = some (.cells #[.int .i64 s,va] 89 (0,0))
 bb:wr.heap[w.heap.size+1]? = some (.cells #[.int .i64 t,vb] 89 (0,0))
 br:wr.heap[w.heap.size+2]? = some (.cells #[.int .i64 0,.slice none 0 0] 89 (0,0))
 bo:∃ v,wr.heap[w.heap.size+3]? = some (.cells #[.int .i64 so,v] 89 (0,0))∧wr.ownsRow (w.heap.size+n) 3 1 v xs.length (nums .i64 xs)
 bel:Below w.heap.size w wr
 sz:w.heap.size+n≤wr.heap.size
theorem bocageref01_Plus.start (w:World) (s:Int) (va:Value) (t:Int) (vb:Value):bocageref01_Plus.Inv w 4 s va t vb 0 [] ((((w.alloc (.cells #[.int .i64 s,va] 89)).alloc (.cells #[.int .i64 t,vb] 89)).alloc (.cells #[.int .i64 0,.slice none 0 0] 89)).alloc (.cells #[.int .i64 0,.slice none 0 0] 89)):=by
 refine ⟨?_,?_,?_,⟨.slice none 0 0,?_,World.ownsRow_nil _ _ _ _⟩,?_,by simp⟩
 ·exact blk_alloc (blk_alloc (blk_alloc (blk_new _ _) _) _) _
 ·have:=blk_new (w.alloc (.cells #[.int .i64 s,va] 89)) (.cells #[.int .i64 t,vb] 89)
  rw [show (w.alloc (.cells #[.int .i64 s,va] 89)).heap.size=w.heap.size+1 by simp] at this
  exact blk_alloc (blk_alloc this _) _
 ·have:=blk_new ((w.alloc (.cells #[.int .i64 s,va] 89)).alloc (.cells #[.int .i64 t,vb] 89)) (.cells #[.int .i64 0,.slice none 0 0] 89)
  rw [show ((w.alloc (.cells #[.int .i64 s,va] 89)).alloc (.cells #[.int .i64 t,vb] 89)).heap.size=w.heap.size+2 by simp] at this
  exact blk_alloc this _
 ·have:=blk_new (((w.alloc (.cells #[.int .i64 s,va] 89)).alloc (.cells #[.int .i64 t,vb] 89)).alloc (.cells #[.int .i64 0,.slice none 0 0] 89)) (.cells #[.int .i64 0,.slice none 0 0] 89)
  rw [show (((w.alloc (.cells #[.int .i64 s,va] 89)).alloc (.cells #[.int .i64 t,vb] 89)).alloc (.cells #[.int .i64 0,.slice none 0 0] 89)).heap.size=w.heap.size+3 by simp] at this
  exact this
 ·exact (((((Below.refl _ w).alloc (Nat.le_refl _) _).alloc (by simp) _).alloc (by simp;omega) _).alloc (by simp;omega) _)
theorem bocageref01_Plus.start6 (w:World) (s:Int) (va:Value) (t:Int) (vb:Value) (O:Obj) (O':Obj) {W:World} (h:bocageref01_Plus.Inv w 4 s va t vb 0 [] W) (hz:W.heap.size=w.heap.size+4) (h0:W.heap[w.heap.size+3]? = some (.cells #[.int .i64 0,.slice none 0 0] 89 (0,0))) :
 bocageref01_Plus.Inv w 6 s va t vb 0 [] ((W.alloc O).alloc O')∧((W.alloc O).alloc O').heap[w.heap.size+4]? = some O∧((W.alloc O).alloc O').heap[w.heap.size+5]? = some O':=by
 have e1:=blk_new W O
 have e2:=blk_new (W.alloc O) O'
 rw [show (W.alloc O).heap.size=w.heap.size+5 by simp [hz]] at e2
 rw [hz] at e1
 exact ⟨⟨blk_alloc (blk_alloc h.ba _) _,blk_alloc (blk_alloc h.bb _) _,blk_alloc (blk_alloc h.br _) _,⟨.slice none 0 0,blk_alloc (blk_alloc h0 _) _,World.ownsRow_nil _ _ _ _⟩,(h.bel.alloc (by omega) _).alloc (by simp;omega) _,by simp;omega⟩,blk_alloc e1 _,e2⟩
theorem bocageref01_Plus.Inv.far {w wr:World} {n:Nat} {s t so:Int} {va vb:Value} (h:bocageref01_Plus.Inv w n s va t vb so [] wr) (h0:wr.heap[w.heap.size+3]? = some (.cells #[.int .i64 so,.slice none 0 0] 89 (0,0))) (b j:Nat) (hb:w.heap.size+4≤b) (u:Value) :
 bocageref01_Plus.Inv w n s va t vb so [] (wr.setCell ⟨b,j,none⟩ u)∧(wr.setCell ⟨b,j,none⟩ u).heap[w.heap.size+3]? = some (.cells #[.int .i64 so,.slice none 0 0] 89 (0,0)):=by
 have e:=blk_far h0 (p:=⟨b,j,none⟩) (by show w.heap.size+3≠b;omega) u
 exact ⟨⟨blk_far h.ba (by show w.heap.size≠b;omega) _,blk_far h.bb (by show w.heap.size+1≠b;omega) _,blk_far h.br (by show w.heap.size+2≠b;omega) _,⟨_,e,World.ownsRow_nil _ _ _ _⟩,h.bel.setCell (by show w.heap.size≤b;omega) _,by simpa using h.sz⟩,e⟩
theorem bocageref01_Plus.Inv.drewN {w wr:World} {n:Nat} {s t so:Int} {va vb:Value} {xs:List Int} (h:bocageref01_Plus.Inv w n s va t vb so xs wr) (m:Nat):bocageref01_Plus.Inv w n s va t vb so xs (wr.drewN m):=by
 obtain ⟨h1,h2,h3,⟨v,h4,h5⟩,h6,h7⟩:=h
 exact ⟨h1,h2,h3,⟨v,h4,pw_own_below h5 (pw_below_drewN (Below.refl _ _) m)⟩,pw_below_drewN h6 m,h7⟩
theorem bocageref01_Plus.Inv.push {w wr w1:World} {n:Nat} {s t so:Int} {va vb v v':Value} {xs:List Int} {d:Int} {o:Obj} (h:bocageref01_Plus.Inv w n s va t vb so xs wr) (hn:4≤n)
 (hv:wr.heap[w.heap.size+3]? = some (.cells #[.int .i64 so,v] 89 (0,0))) (hown:wr.ownsRow (w.heap.size+n) 3 1 v xs.length (nums .i64 xs))
 (hown':w1.ownsRow (w.heap.size+n) 3 1 v' (xs.length+1) (nums .i64 xs ++ [Value.int .i64 d])) (hg:(wr.alloc o).grownBy w1 v.ownBlock) :
 bocageref01_Plus.Inv w n s va t vb so (xs ++ [d]) (w1.setCell ⟨w.heap.size+3,1,none⟩ v')∧w1.heap[w.heap.size+3]? = some (.cells #[.int .i64 so,v] 89 (0,0)):=by
 have hb:∀ (b:Nat) (cs:Array Value),b < w.heap.size+4→wr.heap[b]? = some (.cells cs 89 (0,0))→w1.heap[b]? = some (.cells cs 89 (0,0)):=by
  intro b cs hlt hb
  rw [hg.block b (by have:=blk_lt hb;simp;omega) (fun e=>by have:=(hown.lt b e.symm).1;omega),heap_alloc_old _ _ (blk_lt hb)]
  exact hb
 have h3:=hb _ _ (by omega) hv
 refine ⟨⟨?_,?_,?_,⟨v',?_,?_⟩,?_,?_⟩,h3⟩
 ·exact blk_far (hb _ _ (by omega) h.ba) (by simp) _
 ·exact blk_far (hb _ _ (by omega) h.bb) (by simp) _
 ·exact blk_far (hb _ _ (by omega) h.br) (by simp) _
 ·exact blk_put h3 1 _ rfl
 ·have e:nums .i64 (xs ++ [d])=nums .i64 xs ++ [Value.int .i64 d]:=by simp [nums]
  rw [e,List.length_append]
  exact ownsRow_setCell_other hown' (fun e=>by have:=(hown'.lt _ e).1;simp at this;omega) _
 ·exact ((h.bel.alloc (by have:=h.sz;omega) _).grown hg (by have:=h.sz;simp;omega) (fun j hj=>by have:=(hown.lt j hj).1;omega)).setCell (by simp) _
 ·have:=hg.size;have:=h.sz;simp at *;omega
theorem bocageref01_Plus.reads {w wr:World} {A:Option Addr} {c:Nat} {l:List Int} {P:Nat→Prop} (h:Kd.V (Kd.int .i64) 3 w w.heap.size P (.slice A l.length c) l) (hb:Below w.heap.size w wr) (m:Nat):Kd.C (Kd.int .i64) (wr.drewN m) A l.length l :=
 Kd.C_drewN (Kd.C_below (Kd.V_reads' h).2.2 hb) m
theorem bocageref01_Plus.quiet {f:FuncId} {args:Array Value} {w:World} {n:Nat} {v:Value} (h:Calls Tryz.prog f args (w.drewN n) fun e w'=>e=.returned v∧Drawn0 (w.drewN n) w'):Calls Tryz.prog f args (w.drewN n) fun e w''=>e=.returned v∧∃ m,w''=w.drewN m :=
 Calls.quiet_of (h.mono fun _ _ hh=>⟨hh.1,hh.2.out⟩)
theorem bocageref01_Plus.back {w w':World} {l:List Int} {v:Value} {P Q:Nat→Prop} (h:Kd.V (Kd.int .i64) 3 w w.heap.size P v l) (hb:Below w.heap.size w w') (hq:∀ k,P k→Q k):Kd.V (Kd.int .i64) 3 w' w.heap.size Q v l :=
 Kd.V_mono (Kd.V_step h (fun k _ hk=>hb.block k hk)) hq
theorem bocageref01_Plus.toV {wr:World} {base b2 g cap:Nat} {xs:List Int} (h:wr.ownsRow base 3 1 (.slice (some ⟨g,0,none⟩) xs.length cap) xs.length (nums .i64 xs)):Kd.V (Kd.int .i64) 3 wr b2 (fun k_=>(fun k=>base≤k) k_) (.slice (some ⟨g,0,none⟩) xs.length cap) xs :=
 Kd.R_V (Kd.R_of_own (enc:=Value.int .i64) (h1:=fun _=>rfl) (base:=base) (ok:=fun k=>base≤k) h (fun k hk=>(h.lt k hk).1))
theorem bocageref01_Plus.toV' {wr:World} {base b2:Nat} {v:Value} {xs:List Int} (h:wr.ownsRow base 3 1 v xs.length (nums .i64 xs)):Kd.V (Kd.int .i64) 3 wr b2 (fun k_=>(fun k=>base≤k) k_) v xs :=
 Kd.R_V (Kd.R_of_own (enc:=Value.int .i64) (h1:=fun _=>rfl) (base:=base) (ok:=fun k=>base≤k) h (fun k hk=>(h.lt k hk).1))
theorem bocageref01_Plus.fin {w W w2:World} {s so:Int} {v v0:Value} {P Q:Nat→Prop} {rr:List Int} (h3:W.heap[w.heap.size+3]? = some (.cells #[.int .i64 s,v] 89 (0,0))) (h2:W.heap[w.heap.size+2]? = some (.cells #[.int .i64 0,.slice none 0 0] 89 (0,0)))
 (hbel:Below w.heap.size w W) (hb2:Below W.heap.size W w2) (hV:Kd.V (Kd.int .i64) 3 w2 W.heap.size (fun k_=>((fun k=>w.heap.size+4≤k) k_∨W.heap.size≤k_)) v0 rr) (hso:so=s) :
 (((w2.setCell ⟨w.heap.size+1+1+1,1,none⟩ v0).setCell ⟨w.heap.size+1+1,0,none⟩ (.int .i64 so)).setCell ⟨w.heap.size+1+1,1,none⟩ v0).heap[w.heap.size+1+1]? = some (.cells #[.int .i64 s,v0] 89 (0,0)) ∧
 Kd.V (Kd.int .i64) 3 (((w2.setCell ⟨w.heap.size+1+1+1,1,none⟩ v0).setCell ⟨w.heap.size+1+1,0,none⟩ (.int .i64 so)).setCell ⟨w.heap.size+1+1,1,none⟩ v0) w.heap.size (fun k_=>((P k_∨Q k_)∨w.heap.size≤k_)) v0 rr ∧
 Below w.heap.size w (((w2.setCell ⟨w.heap.size+1+1+1,1,none⟩ v0).setCell ⟨w.heap.size+1+1,0,none⟩ (.int .i64 so)).setCell ⟨w.heap.size+1+1,1,none⟩ v0):=by
 subst hso
 have hlt3:=blk_lt h3
 have h4:=hbel.size
 have hV2:Kd.V (Kd.int .i64) 3 w2 w.heap.size (fun k=>w.heap.size+4≤k) v0 rr:=Kd.V_map hV (fun A hf=>(Kd.F_mono hf (fun k hk=>hk.elim id (fun h=>by show w.heap.size+4≤k;omega))))
 refine ⟨?_,?_,?_⟩
 ·exact blk_put (blk_put (blk_far (blk_below h2 hb2) (by simp) _) 0 _ rfl) 1 _ rfl
 ·refine Kd.V_mono (Kd.V_far (Kd.V_far (Kd.V_far hV2 (fun k hk=>?_) _) (fun k hk=>?_) _) (fun k hk=>?_) _) (fun k hk=>.inr (by omega))
  ·show k≠w.heap.size+1+1+1;omega
  ·show k≠w.heap.size+1+1;omega
  ·show k≠w.heap.size+1+1;omega
 ·exact (((hbel.trans (hb2.mono h4)).setCell (by show _≤w.heap.size+1+1+1;omega) _).setCell (by show _≤w.heap.size+1+1;omega) _).setCell (by show _≤w.heap.size+1+1;omega) _
theorem bocageref01_Plus.fin0 {w W w2:World} {v0:Value} {P Q:Nat→Prop} {rr:List Int} (h2:W.heap[w.heap.size+2]? = some (.cells #[.int .i64 0,.slice none 0 0] 89 (0,0)))
 (hbel:Below w.heap.size w W) (hb2:Below W.heap.size W w2) (hV:Kd.V (Kd.int .i64) 3 w2 W.heap.size (fun k_=>((fun k=>w.heap.size+4≤k) k_∨W.heap.size≤k_)) v0 rr) (hlt3:w.heap.size+3 < W.heap.size) :
 ((((w2.setCell ⟨w.heap.size+1+1+1,1,none⟩ v0).setCell ⟨w.heap.size+1+1+1,0,none⟩ (.int .i64 0)).setCell ⟨w.heap.size+1+1,0,none⟩ (.int .i64 0)).setCell ⟨w.heap.size+1+1,1,none⟩ v0).heap[w.heap.size+1+1]? = some (.cells #[.int .i64 0,v0] 89 (0,0)) ∧
 Kd.V (Kd.int .i64) 3 ((((w2.setCell ⟨w.heap.size+1+1+1,1,none⟩ v0).setCell ⟨w.heap.size+1+1+1,0,none⟩ (.int .i64 0)).setCell ⟨w.heap.size+1+1,0,none⟩ (.int .i64 0)).setCell ⟨w.heap.size+1+1,1,none⟩ v0) w.heap.size (fun k_=>((P k_∨Q k_)∨w.heap.size≤k_)) v0 rr ∧
 Below w.heap.size w ((((w2.setCell ⟨w.heap.size+1+1+1,1,none⟩ v0).setCell ⟨w.heap.size+1+1+1,0,none⟩ (.int .i64 0)).setCell ⟨w.heap.size+1+1,0,none⟩ (.int .i64 0)).setCell ⟨w.heap.size+1+1,1,none⟩ v0):=by
 have h4:=hbel.size
 have hV2:Kd.V (Kd.int .i64) 3 w2 w.heap.size (fun k=>w.heap.size+4≤k) v0 rr:=Kd.V_map hV (fun A hf=>(Kd.F_mono hf (fun k hk=>hk.elim id (fun h=>by show w.heap.size+4≤k;omega))))
 refine ⟨?_,?_,?_⟩
 ·exact blk_put (blk_put (blk_far (blk_far (blk_below h2 hb2) (by simp) _) (by simp) _) 0 _ rfl) 1 _ rfl
 ·refine Kd.V_mono (Kd.V_far (Kd.V_far (Kd.V_far (Kd.V_far hV2 (fun k hk=>?_) _) (fun k hk=>?_) _) (fun k hk=>?_) _) (fun k hk=>?_) _) (fun k hk=>.inr (by omega))
  ·show k≠w.heap.size+1+1+1;omega
  ·show k≠w.heap.size+1+1+1;omega
  ·show k≠w.heap.size+1+1;omega
  ·show k≠w.heap.size+1+1;omega
 ·exact ((((hbel.trans (hb2.mono h4)).setCell (by show _≤w.heap.size+1+1+1;omega) _).setCell (by show _≤w.heap.size+1+1+1;omega) _).setCell (by show _≤w.heap.size+1+1;omega) _).setCell (by show _≤w.heap.size+1+1;omega) _
theorem bocageref01_Plus.calls (k:Nat) (a0_0:Int) (P0_1_:Nat→Prop) (A0_1:Option Addr) (c0_1:Nat) (l0_1:List Int) (a1_0:Int) (P1_1_:Nat→Prop) (A1_1:Option Addr) (c1_1:Nat) (l1_1:List Int) (r1:Int) (r2:List Int) (w:World)
 (hs0_1:Kd.V (Kd.int .i64) 3 w w.heap.size (fun k_=>P0_1_ k_) (.slice A0_1 l0_1.length c0_1) l0_1) (hs1_1:Kd.V (Kd.int .i64) 3 w w.heap.size (fun k_=>P1_1_ k_) (.slice A1_1 l1_1.length c1_1) l1_1)
 (h:bocageref01_Plus.f k a0_0 l0_1 a1_0 l1_1=some (r1,r2)) :
 Calls Tryz.prog 62 #[.agg #[.int .i64 a0_0,.slice A0_1 l0_1.length c0_1],.agg #[.int .i64 a1_0,.slice A1_1 l1_1.length c1_1]] w fun e w'=>∃ v1_:Value,e=.returned (.agg #[.int .i64 r1,v1_])∧Kd.V (Kd.int .i64) 3 w' w.heap.size (fun k_=>((P0_1_ k_∨P1_1_ k_)∨w.heap.size≤k_)) v1_ r2∧Below w.heap.size w w':=by
 unfold bocageref01_Plus.f at h
 by_cases hok:(bocageref01_Plus.ok l0_1 && bocageref01_Plus.ok l1_1)=true
 ·rw [if_pos hok] at h
  rw [Bool.and_eq_true] at hok
  obtain ⟨hok0,hok1⟩:=hok
  have hln0:=bocageref01_Plus.ok_len hok0
  have hln1:=bocageref01_Plus.ok_len hok1
  have HS0:=am hs0_1;have HS1:=am hs1_1;have HK0:=am hok0;have HK1:=am hok1
  have hcc0:=am (Kd.V_at hs0_1).2.1
  have hcc1:=am (Kd.V_at hs1_1).2.1
  clear hs0_1 hs1_1 hok0 hok1
  by_cases hs:a0_0=0
  ·rw [if_pos hs] at h
   simp only [Option.some.injEq,Prod.mk.injEq] at h
   obtain ⟨rfl,rfl⟩:=h
   subst hs
   have hbel:Below w.heap.size w (((w.alloc (Obj.cells #[Value.int IntKind.i64 0,Value.slice A0_1 l0_1.length c0_1] 89)).alloc (Obj.cells #[Value.int IntKind.i64 a1_0,Value.slice A1_1 l1_1.length c1_1] 89)).alloc (Obj.cells #[Value.int IntKind.i64 a1_0,Value.slice A1_1 l1_1.length c1_1] 89)) :=
    ((((Below.refl _ w).alloc (Nat.le_refl _) _).alloc (by simp) _).alloc (by simp;omega) _)
   have HB:=am hbel;clear hbel;go_enter Tryz.func62,Tryz.ntmps62;go_wp2
   refine bodyPost_ret (results_cell_row rfl _ _ (w.heap.size+1+1) 89 #[.int .i64 a1_0,.slice A1_1 l1_1.length c1_1] (0,0) _ rfl ?_ Tryz.underlying89 rfl (by kernel_rfl)) rfl ?_
   ·have:=blk_new ((w.alloc (Obj.cells #[Value.int IntKind.i64 0,Value.slice A0_1 l0_1.length c0_1] 89)).alloc (Obj.cells #[Value.int IntKind.i64 a1_0,Value.slice A1_1 l1_1.length c1_1] 89)) (Obj.cells #[Value.int IntKind.i64 a1_0,Value.slice A1_1 l1_1.length c1_1] 89)
    simpa using this
   ·exact ⟨_,rfl,bocageref01_Plus.back HS1.out HB.out (fun _ hk=>.inl (.inr hk)),HB.out⟩
  ·rw [if_neg hs] at h
   have hs0:(a0_0 == 0)=false:=beq_eq_false_iff_ne.mpr hs
   have hs1:(a0_0 != 0)=true:=bne_iff_ne.mpr hs
   by_cases ht:a1_0=0
   ·rw [if_pos ht] at h
    simp only [Option.some.injEq,Prod.mk.injEq] at h
    obtain ⟨rfl,rfl⟩:=h
    subst ht
    have hbel:Below w.heap.size w (((w.alloc (Obj.cells #[Value.int IntKind.i64 a0_0,Value.slice A0_1 l0_1.length c0_1] 89)).alloc (Obj.cells #[Value.int IntKind.i64 0,Value.slice A1_1 l1_1.length c1_1] 89)).alloc (Obj.cells #[Value.int IntKind.i64 a0_0,Value.slice A0_1 l0_1.length c0_1] 89)) :=
     ((((Below.refl _ w).alloc (Nat.le_refl _) _).alloc (by simp) _).alloc (by simp;omega) _)
    have HB:=am hbel;clear hbel;go_enter Tryz.func62,Tryz.ntmps62;go_wp2
    refine bodyPost_ret (results_cell_row rfl _ _ (w.heap.size+1+1) 89 #[.int .i64 a0_0,.slice A0_1 l0_1.length c0_1] (0,0) _ rfl ?_ Tryz.underlying89 rfl (by kernel_rfl)) rfl ?_
    ·have:=blk_new ((w.alloc (Obj.cells #[Value.int IntKind.i64 a0_0,Value.slice A0_1 l0_1.length c0_1] 89)).alloc (Obj.cells #[Value.int IntKind.i64 0,Value.slice A1_1 l1_1.length c1_1] 89)) (Obj.cells #[Value.int IntKind.i64 a0_0,Value.slice A0_1 l0_1.length c0_1] 89)
     simpa using this
    ·exact ⟨_,rfl,bocageref01_Plus.back HS0.out HB.out (fun _ hk=>.inl (.inl hk)),HB.out⟩
   ·rw [if_neg ht] at h
    have ht0:(a1_0 == 0)=false:=beq_eq_false_iff_ne.mpr ht
    have ht1:(a1_0 != 0)=true:=bne_iff_ne.mpr ht
    have hst:=am (bocageref01_Plus.start w a0_0 (.slice A0_1 l0_1.length c0_1) a1_0 (.slice A1_1 l1_1.length c1_1))
    by_cases hst':a0_0=a1_0
    ·rw [if_pos hst'] at h
     subst hst'
     obtain ⟨rr,hcut,hrr⟩:=Option.bind_eq_some_iff.1 h
     simp only [Option.some.injEq,Prod.mk.injEq] at hrr
     obtain ⟨rfl,rfl⟩:=hrr
     have HCUT:=am hcut
     obtain ⟨T,hT⟩:∃ T,T=bocageref01_Plus.add (l0_1.length+l1_1.length+1) l0_1 l1_1 0 0:=⟨_,rfl⟩
     have HT:=am hT;clear h hcut hT ht hs ht0 ht1
     obtain ⟨i0,hi,hz0,hz1,hz2⟩:=info_parts info3
     have HI:=am hi;go_enter Tryz.func62,Tryz.ntmps62
     go_upto_block 0 with (fail)
     go_cut [6] (fun v6 wc=>Aside0 (bocageref01_Plus.Inv w 4 a0_0 (.slice A0_1 l0_1.length c0_1) a0_0 (.slice A1_1 l1_1.length c1_1) 0 T wc))
     case first =>
      go_wp2
      go_loopg [6,7] (l0_1.length+l1_1.length+2) (fun g v6 v7 wr=>∃ (i:Nat) (o:Int) (xs:List Int),v6=.int .i64 o∧v7=.int .i64 i∧i≤l0_1.length+l1_1.length+1∧0≤o∧o≤1∧Aside0 (g+i=l0_1.length+l1_1.length+2)∧Aside0 (xs ++ bocageref01_Plus.add (l0_1.length+l1_1.length+1 - i) l0_1 l1_1 o i=T)∧Aside0 (xs.length=i)∧Aside0 (bocageref01_Plus.Inv w 4 a0_0 (.slice A0_1 l0_1.length c0_1) a0_0 (.slice A1_1 l1_1.length c1_1) 0 xs wr))
      case atStart=>exact ⟨0,0,[],rfl,rfl,by omega,by omega,by omega,⟨rfl⟩,⟨HT.out.symm⟩,⟨rfl⟩,hst⟩
      case round =>
       obtain ⟨i,o,xs,rfl,rfl,hile,ho0,ho1,hgi,hsum,hxl,hinv⟩:=hrel
       have hi0:=hinv.out
       have hxl':=hxl.out
       obtain ⟨v,hbo,hown⟩:=hi0.bo
       have cA:=(blk_cell hi0.ba 1).trans rfl
       have cB:=(blk_cell hi0.bb 1).trans rfl
       have cO:∀ m,(wr.drewN m).cell? ⟨w.heap.size+1+1+1,1,none⟩=some v:=fun m=>(blk_cell (blk_drewN hbo m) 1).trans rfl
       have fO:∀ m,(wr.drewN m).frozen? ⟨w.heap.size+1+1+1,1,none⟩=false:=fun m=>blk_frozen (blk_drewN hbo m) 1
       have hCa:=am (bocageref01_Plus.reads HS0.out hi0.bel)
       have hCb:=am (bocageref01_Plus.reads HS1.out hi0.bel)
       by_cases hlt:i≤l0_1.length+l1_1.length
       ·have hd1:=am (bocageref01_Plus.dig_some l0_1 i hln0)
        have hd2:=am (bocageref01_Plus.dig_some l1_1 i hln1)
        have hb1:=bocageref01_Plus.ok_at HK0.out i
        have hb2:=bocageref01_Plus.ok_at HK1.out i
        have hstep:=am (show bocageref01_Plus.add (l0_1.length+l1_1.length+1 - i) l0_1 l1_1 o i=(l0_1.getD i 0+l1_1.getD i 0+o) % 10 :: bocageref01_Plus.add (l0_1.length+l1_1.length+1 - (i+1)) l0_1 l1_1 ((l0_1.getD i 0+l1_1.getD i 0+o) / 10) (i+1) by
         rw [show l0_1.length+l1_1.length+1 - i=(l0_1.length+l1_1.length+1 - (i+1))+1 by omega];rfl)
        generalize l0_1.getD i 0=d1 at hd1 hb1 hstep;generalize l1_1.getD i 0=d2 at hd2 hb2 hstep
        obtain ⟨hb10,hb11⟩:=hb1
        obtain ⟨hb20,hb21⟩:=hb2
        have HOWN:=am hown;have HBO:=am hbo
        clear hown hbo hi0 hxl'
        have HCO:=am cO;have HFO:=am fO;clear cO fO;go_wp2;clear cA cB
        have cA:wr.cell? ⟨w.heap.size,1,none⟩=some (.slice A0_1 l0_1.length c0_1):=(blk_cell hinv.out.ba 1).trans rfl
        have cB:wr.cell? ⟨w.heap.size+1,1,none⟩=some (.slice A1_1 l1_1.length c1_1):=(blk_cell hinv.out.bb 1).trans rfl
        go_quiet (first
         | (go_at_call 94;with_reducible exact bocageref01_Plus.quiet (bocageref01_digit.calls _ _ l0_1 (i:Int) d1 _ (hCa.out _) hcc0.out hd1.out))
         | (go_at_call 94;with_reducible exact bocageref01_Plus.quiet (bocageref01_digit.calls _ _ l1_1 (i:Int) d2 _ (hCb.out _) hcc1.out hd2.out)))
        have cO:=HCO.out nq
        have fO:=HFO.out nq
        go_wp2_with (at_builtin;refine wpList_append_own _ rfl _ _ 42 rfl (w.heap.size+4) 3 i0 (.int .i64 0) 1 8 Tryz.underlying42 HI.out hz0 hz1 hz2 rfl (by decide) _ _ _ rfl ((pw_own_below HOWN.out (pw_below_drewN (Below.refl _ _) nq)).alloc _) ⟨wr.heap.size,0,none⟩ 1 1 [.int .i64 ((d1+d2+o) % 10)] rfl rfl ?c1 ?c2 ?c3 ?c4 ?c5 ?_)
        case c1 =>
         intro j u hj
         match j,hj with
         | 0,hj =>
          simp at hj;subst hj
          exact (blk_cell (blk_new (wr.drewN nq) _) 0).trans rfl
        case c2=>intro u hu;simp at hu;subst hu;rfl
        case c3=>have:=hxl.out;unfold maxLen;omega
        case c4=>have:=hxl.out;omega
        case c5=>have:=hinv.out.sz;simp;omega
        intro v' w1 hown' hgrow _
        obtain ⟨hinv',hv1⟩:=(hinv.out.drewN nq).push (by omega) HBO.out (pw_own_below HOWN.out (pw_below_drewN (Below.refl _ _) nq)) hown' hgrow
        obtain ⟨g,cap,rfl,hgb,hgl⟩:=hown'.form (by omega)
        have HI':=am hinv'
        have cO1:w1.cell? ⟨w.heap.size+1+1+1,1,none⟩=some v:=(blk_cell hv1 1).trans rfl
        have fO1:w1.frozen? ⟨w.heap.size+1+1+1,1,none⟩=false:=blk_frozen hv1 1
        clear hown' hgrow hinv' hv1 cO fO
        go_wp2
        go_roundg (l0_1.length+l1_1.length+2 - (i+1))
        case measure=>have:=hgi.out;omega
        case rel=>exact ⟨i+1,(d1+d2+o) / 10,xs ++ [(d1+d2+o) % 10],rfl,by go_num,by omega,by omega,by omega,⟨by have:=hgi.out;omega⟩,⟨by have:=hsum.out;rw [hstep.out] at this;rw [← this];simp⟩,⟨by have:=hxl.out;simp;omega⟩,HI'⟩
       ·obtain rfl:i=l0_1.length+l1_1.length+1:=by omega
        go_wp2
        go_meet
        case rel=>exact ⟨by have:=hsum.out;rw [Nat.sub_self] at this;simp only [bocageref01_Plus.add,List.append_nil] at this;rw [← this];exact hinv.out⟩
     case rest =>
      have hi0:=hcut.out
      obtain ⟨v,hbo,hown⟩:=hi0.bo
      obtain ⟨g,cap,rfl,hgb,hgl⟩:=hown.form (by rw [HT.out,bocageref01_Plus.add_len];omega)
      have hV:=bocageref01_Plus.toV (b2:=(wc.setCell ⟨w.heap.size+1+1+1,0,none⟩ (.int .i64 a0_0)).heap.size) (ownsRow_setCell_other (a:=⟨w.heap.size+1+1+1,0,none⟩) hown (by simp [Value.ownBlock];omega) (.int .i64 a0_0))
      have HV:=am hV
      have cA:=(blk_cell hi0.ba 0).trans rfl
      have cO:=(blk_cell hbo 1).trans rfl
      have fO:=blk_frozen hbo 0
      have cO:wc.cell? ⟨w.heap.size+1+1+1,1,none⟩=some (.slice (some ⟨g,0,none⟩) T.length cap):=(blk_cell hbo 1).trans rfl
      have cO0:wc.cell? ⟨w.heap.size+1+1+1,0,none⟩=some (.int .i64 0):=(blk_cell hbo 0).trans rfl
      have fO:wc.frozen? ⟨w.heap.size+1+1+1,0,none⟩=false:=blk_frozen hbo 0
      have cA:wc.cell? ⟨w.heap.size,0,none⟩=some (.int .i64 a0_0):=(blk_cell hi0.ba 0).trans rfl
      have HC2:=am (show bocageref01_cut.f k T=some rr by rw [HT.out];exact HCUT.out)
      have HBO:=am hbo;clear hV hown hbo hi0
      have h3':(wc.setCell ⟨w.heap.size+1+1+1,0,none⟩ (.int .i64 a0_0)).heap[w.heap.size+3]? = some (.cells #[.int .i64 a0_0,.slice (some ⟨g,0,none⟩) T.length cap] 89 (0,0)):=blk_put HBO.out 0 _ rfl
      have h2':(wc.setCell ⟨w.heap.size+1+1+1,0,none⟩ (.int .i64 a0_0)).heap[w.heap.size+2]? = some (.cells #[.int .i64 0,.slice none 0 0] 89 (0,0)):=blk_far hcut.out.br (by simp) _
      have hbel':Below w.heap.size w (wc.setCell ⟨w.heap.size+1+1+1,0,none⟩ (.int .i64 a0_0)):=hcut.out.bel.setCell (by show _≤w.heap.size+1+1+1;omega) _
      have H3:=am h3'
      have H2:=am h2'
      have HBEL:=am hbel'
      clear h3' h2' hbel' hst
      go_wp2_with (go_at_call 95;(with_reducible refine (bocageref01_cut.calls k _ _ _ T rr _ HV.out HC2.out).mono ?_);rintro e w2 ⟨v0,rfl,hV2,hb2⟩;obtain ⟨Ar,cr,rfl⟩:=Kd.V_slice hV2;have HV2:=am hV2;have HB2:=am hb2;have q30:=(blk_cell (blk_below H3.out hb2) 0).trans rfl;have q3f:=blk_frozen (blk_below H3.out hb2) 1;have q31:=(blk_cell (blk_below H3.out hb2) 1).trans rfl;have q20:=(blk_cell (blk_below H2.out hb2) 0).trans rfl;have q21:=(blk_cell (blk_below H2.out hb2) 1).trans rfl;have q2f:=blk_frozen (blk_below H2.out hb2) 0;have q2g:=blk_frozen (blk_below H2.out hb2) 1;clear hV2 hb2)
      obtain ⟨k1,k2,k3⟩:=bocageref01_Plus.fin (P:=P0_1_) (Q:=P1_1_) H3.out H2.out HBEL.out HB2.out HV2.out rfl
      refine bodyPost_ret (results_cell_row rfl _ _ (w.heap.size+1+1) 89 #[.int .i64 a0_0,.slice Ar rr.length cr] (0,0) _ rfl k1 Tryz.underlying89 rfl (by kernel_rfl)) rfl ?_
      exact ⟨_,rfl,k2,k3⟩
    ·rw [if_neg hst'] at h
     have hne0:(a0_0 == a1_0)=false:=beq_eq_false_iff_ne.mpr hst'
     have hne1:(a0_0 != a1_0)=true:=bne_iff_ne.mpr hst'
     obtain ⟨m,hm,h⟩:=Option.bind_eq_some_iff.1 h
     have HM:=am hm;clear hm
     have h6:=bocageref01_Plus.start6 w a0_0 (.slice A0_1 l0_1.length c0_1) a1_0 (.slice A1_1 l1_1.length c1_1) (.cells #[.int .i64 a0_0,.slice A0_1 l0_1.length c0_1] 89) (.cells #[.int .i64 a1_0,.slice A1_1 l1_1.length c1_1] 89) hst.out (by simp) (by
      have:=blk_new (((w.alloc (.cells #[.int .i64 a0_0,.slice A0_1 l0_1.length c0_1] 89)).alloc (.cells #[.int .i64 a1_0,.slice A1_1 l1_1.length c1_1] 89)).alloc (.cells #[.int .i64 0,.slice none 0 0] 89)) (.cells #[.int .i64 0,.slice none 0 0] 89)
      rw [show (((w.alloc (.cells #[.int .i64 a0_0,.slice A0_1 l0_1.length c0_1] 89)).alloc (.cells #[.int .i64 a1_0,.slice A1_1 l1_1.length c1_1] 89)).alloc (.cells #[.int .i64 0,.slice none 0 0] 89)).heap.size=w.heap.size+3 by simp] at this
      exact this)
     have h63:=am (blk_alloc (blk_alloc (show ((((w.alloc (.cells #[.int .i64 a0_0,.slice A0_1 l0_1.length c0_1] 89)).alloc (.cells #[.int .i64 a1_0,.slice A1_1 l1_1.length c1_1] 89)).alloc (.cells #[.int .i64 0,.slice none 0 0] 89)).alloc (.cells #[.int .i64 0,.slice none 0 0] 89)).heap[w.heap.size+3]? = some (.cells #[.int .i64 0,.slice none 0 0] 89 (0,0)) by
      have:=blk_new (((w.alloc (.cells #[.int .i64 a0_0,.slice A0_1 l0_1.length c0_1] 89)).alloc (.cells #[.int .i64 a1_0,.slice A1_1 l1_1.length c1_1] 89)).alloc (.cells #[.int .i64 0,.slice none 0 0] 89)) (.cells #[.int .i64 0,.slice none 0 0] 89)
      rw [show (((w.alloc (.cells #[.int .i64 a0_0,.slice A0_1 l0_1.length c0_1] 89)).alloc (.cells #[.int .i64 a1_0,.slice A1_1 l1_1.length c1_1] 89)).alloc (.cells #[.int .i64 0,.slice none 0 0] 89)).heap.size=w.heap.size+3 by simp] at this
      exact this) (.cells #[.int .i64 a0_0,.slice A0_1 l0_1.length c0_1] 89)) (.cells #[.int .i64 a1_0,.slice A1_1 l1_1.length c1_1] 89))
     have H6:=am h6
     clear h6 hst hs ht hst'
     obtain ⟨i0,hi,hz0,hz1,hz2⟩:=info_parts info3
     have HI:=am hi
     have HRa:=am (Kd.C_below (Kd.V_reads' HS0.out).2.2 H6.out.1.bel)
     have HRb:=am (Kd.C_below (Kd.V_reads' HS1.out).2.2 H6.out.1.bel)
     cases m with
     | true =>
      have h':=am (show bocageref01_Plus.less k a1_0 l1_1 l0_1=some (r1,r2) by simpa using h)
      clear h;have h:=h'.out
      clear h'
      obtain ⟨rr,hcut,hrr⟩:=Option.bind_eq_some_iff.1 h
      clear h
      simp only [Option.some.injEq,Prod.mk.injEq] at hrr
      obtain ⟨hr1,rfl⟩:=hrr
      have HR1:=am hr1;clear hr1
      obtain ⟨T,hT⟩:∃ T,T=bocageref01_Plus.sub l1_1.length l1_1 l0_1 0 0:=⟨_,rfl⟩
      rw [← hT] at hcut
      have HT:=am hT;have HCUT:=am hcut;clear hT hcut;go_enter Tryz.func62,Tryz.ntmps62
      go_upto_if 72 with (go_at_call 96;(with_reducible refine (bocageref01_more.calls k _ _ l1_1 _ _ l0_1 true _ HRb.out hcc1.out HRa.out hcc0.out HM.out).mono ?_);rintro e w' ⟨rfl,⟨nd,rfl⟩⟩)
      go_cut [] (fun wc=>Aside0 (bocageref01_Plus.Inv w 6 a0_0 (.slice A0_1 l0_1.length c0_1) a1_0 (.slice A1_1 l1_1.length c1_1) 0 [] wc)∧Aside0 (wc.heap[w.heap.size+3]? = some (.cells #[.int .i64 0,.slice none 0 0] 89 (0,0)))∧Aside0 (wc.heap[w.heap.size+4]? = some (.cells #[.int .i64 a1_0,.slice A1_1 l1_1.length c1_1] 89 (0,0)))∧Aside0 (wc.heap[w.heap.size+5]? = some (.cells #[.int .i64 a0_0,.slice A0_1 l0_1.length c0_1] 89 (0,0))))
      case first =>
       go_wp2
       go_meet
       case rel =>
        obtain ⟨e1,e2,e3⟩:=H6.out
        obtain ⟨f1,g1⟩:=(e1.drewN nd).far (blk_drewN h63.out nd) (w.heap.size+1+1+1+1) 0 (by omega) (.int .i64 a1_0)
        obtain ⟨f2,g2⟩:=f1.far g1 (w.heap.size+1+1+1+1) 1 (by omega) (.slice A1_1 l1_1.length c1_1)
        obtain ⟨f3,g3⟩:=f2.far g2 (w.heap.size+1+1+1+1+1) 0 (by omega) (.int .i64 a0_0)
        obtain ⟨f4,g4⟩:=f3.far g3 (w.heap.size+1+1+1+1+1) 1 (by omega) (.slice A0_1 l0_1.length c0_1)
        refine ⟨⟨f4⟩,⟨g4⟩,⟨?_⟩,⟨?_⟩⟩
        ·exact blk_far (blk_far (blk_put (blk_put (blk_drewN e2 nd) 0 _ rfl) 1 _ rfl) (by show w.heap.size+4≠w.heap.size+1+1+1+1+1;omega) _) (by show w.heap.size+4≠w.heap.size+1+1+1+1+1;omega) _
        ·exact blk_put (blk_put (blk_far (blk_far (blk_drewN e3 nd) (by show w.heap.size+5≠w.heap.size+1+1+1+1;omega) _) (by show w.heap.size+5≠w.heap.size+1+1+1+1;omega) _) 0 _ rfl) 1 _ rfl
      case rest =>
       obtain ⟨hinv6,hb63,hb64,hb65⟩:=hcut
       clear H6 h63 HRa HRb HM
       obtain ⟨W6,hW6⟩:∃ W6,W6=wc:=⟨_,rfl⟩
       go_upto_block 2 with (fail)
       go_cut [] (fun wc=>Aside0 (bocageref01_Plus.Inv w 6 a0_0 (.slice A0_1 l0_1.length c0_1) a1_0 (.slice A1_1 l1_1.length c1_1) 0 T wc)∧Aside0 (wc.heap[w.heap.size+4]? = some (.cells #[.int .i64 a1_0,.slice A1_1 l1_1.length c1_1] 89 (0,0)))∧Aside0 (wc.heap[w.heap.size+5]? = some (.cells #[.int .i64 a0_0,.slice A0_1 l0_1.length c0_1] 89 (0,0))))
       case first =>
        go_wp2
        go_loopg [11,12] (l1_1.length+1) (fun g v11 v12 wr=>∃ (i:Nat) (o:Int) (xs:List Int),v11=.int .i64 o∧v12=.int .i64 i∧i≤l1_1.length∧0≤o∧o≤1∧Aside0 (g+i=l1_1.length+1)∧Aside0 (xs ++ bocageref01_Plus.sub (l1_1.length - i) l1_1 l0_1 o i=T)∧Aside0 (xs.length=i)∧Aside0 (bocageref01_Plus.Inv w 6 a0_0 (.slice A0_1 l0_1.length c0_1) a1_0 (.slice A1_1 l1_1.length c1_1) 0 xs wr)∧Aside0 (wr.heap[w.heap.size+4]? = some (.cells #[.int .i64 a1_0,.slice A1_1 l1_1.length c1_1] 89 (0,0)))∧Aside0 (wr.heap[w.heap.size+5]? = some (.cells #[.int .i64 a0_0,.slice A0_1 l0_1.length c0_1] 89 (0,0))))
        case atStart=>exact ⟨0,0,[],rfl,rfl,by omega,by omega,by omega,⟨by omega⟩,⟨HT.out.symm⟩,⟨rfl⟩,hinv6,hb64,hb65⟩
        case round =>
         obtain ⟨i,o,xs,rfl,rfl,hile,ho0,ho1,hgi,hsum,hxl,hinv,hx4,hx5⟩:=hrel
         have hi0:=hinv.out
         obtain ⟨v,hbo,hown⟩:=hi0.bo
         have cX:wr.cell? ⟨w.heap.size+1+1+1+1,1,none⟩=some (.slice A1_1 l1_1.length c1_1):=(blk_cell hx4.out 1).trans rfl
         have cY:wr.cell? ⟨w.heap.size+1+1+1+1+1,1,none⟩=some (.slice A0_1 l0_1.length c0_1):=(blk_cell hx5.out 1).trans rfl
         have HCO:Aside0 (∀ m,(wr.drewN m).cell? ⟨w.heap.size+1+1+1,1,none⟩=some v):=⟨fun m=>(blk_cell (blk_drewN hbo m) 1).trans rfl⟩
         have HFO:Aside0 (∀ m,(wr.drewN m).frozen? ⟨w.heap.size+1+1+1,1,none⟩=false):=⟨fun m=>blk_frozen (blk_drewN hbo m) 1⟩
         have hCx:=am (bocageref01_Plus.reads HS1.out hi0.bel)
         have hCy:=am (bocageref01_Plus.reads HS0.out hi0.bel)
         have HOWN:=am hown;have HBO:=am hbo;clear hown hbo hi0
         by_cases hlt:i < l1_1.length
         ·obtain ⟨ad,hA,hcx⟩:=Kd.at_int (hCx.out 0) (i:Int) (by omega) (by omega)
          subst hA
          have hix:((i:Int)).toNat=i:=by omega
          rw [hix] at hcx
          have hrd:rd l1_1 (i:Int)=l1_1.getD i 0:=by simp [rd]
          rw [hrd] at hcx
          replace hcx:wr.cell? (ad.add i)=some (.int .i64 (l1_1.getD i 0)):=hcx
          have hd2:=am (bocageref01_Plus.dig_some l0_1 i hln0)
          have hb1:=bocageref01_Plus.ok_at HK1.out i
          have hb2:=bocageref01_Plus.ok_at HK0.out i
          have hstep:=am (show bocageref01_Plus.sub (l1_1.length - i) l1_1 l0_1 o i=(if l1_1.getD i 0 - l0_1.getD i 0 - o < 0 then (l1_1.getD i 0 - l0_1.getD i 0 - o+10) :: bocageref01_Plus.sub (l1_1.length - (i+1)) l1_1 l0_1 1 (i+1) else (l1_1.getD i 0 - l0_1.getD i 0 - o) :: bocageref01_Plus.sub (l1_1.length - (i+1)) l1_1 l0_1 0 (i+1)) by
           rw [show l1_1.length - i=(l1_1.length - (i+1))+1 by omega];rfl)
          clear hix hrd;generalize l1_1.getD i 0=d1 at hcx hb1 hstep;generalize l0_1.getD i 0=d2 at hd2 hb2 hstep
          obtain ⟨hb10,hb11⟩:=hb1
          obtain ⟨hb20,hb21⟩:=hb2
          have hix0:0≤(i:Int):=by omega
          have hix1:(i:Int) < (l1_1.length:Int):=by omega
          by_cases hneg:d1 - d2 - o < 0
          ·have hneg':decide (d1 - d2 - o < 0)=true:=decide_eq_true hneg
           go_wp2
           go_quiet ((go_at_call 94;with_reducible exact bocageref01_Plus.quiet (bocageref01_digit.calls _ _ l0_1 (i:Int) d2 _ (hCy.out _) hcc0.out hd2.out)))
           have cO:=HCO.out nq
           have fO:=HFO.out nq
           go_wp2_with (at_builtin;refine wpList_append_own _ rfl _ _ 42 rfl (w.heap.size+6) 3 i0 (.int .i64 0) 1 8 Tryz.underlying42 HI.out hz0 hz1 hz2 rfl (by decide) _ _ _ rfl ((pw_own_below HOWN.out (pw_below_drewN (Below.refl _ _) nq)).alloc _) ⟨wr.heap.size,0,none⟩ 1 1 [.int .i64 (d1 - d2 - o+10)] rfl rfl ?c1 ?c2 ?c3 ?c4 ?c5 ?_)
           case c1 =>
            intro j u hj
            match j,hj with
            | 0,hj =>
             simp at hj;subst hj
             exact (blk_cell (blk_new (wr.drewN nq) _) 0).trans rfl
           case c2=>intro u hu;simp at hu;subst hu;rfl
           case c3=>have:=hxl.out;unfold maxLen;omega
           case c4=>have:=hxl.out;omega
           case c5=>have:=hinv.out.sz;simp;omega
           intro v' w1 hown' hgrow _
           have hown0:=pw_own_below HOWN.out (pw_below_drewN (Below.refl _ _) nq)
           obtain ⟨hinv',hv1⟩:=(hinv.out.drewN nq).push (by omega) HBO.out hown0 hown' hgrow
           obtain ⟨g,cap,rfl,hgb,hgl⟩:=hown'.form (by omega)
           have hx4':w1.heap[w.heap.size+4]? = wr.heap[w.heap.size+4]? := by
            rw [hgrow.block _ (by have:=blk_lt hx4.out;simp;omega) (fun e=>by have:=(hown0.lt _ e.symm).1;omega),heap_alloc_old _ _ (blk_lt (blk_drewN hx4.out nq))]
            rfl
           have hx5':w1.heap[w.heap.size+5]? = wr.heap[w.heap.size+5]? := by
            rw [hgrow.block _ (by have:=blk_lt hx5.out;simp;omega) (fun e=>by have:=(hown0.lt _ e.symm).1;omega),heap_alloc_old _ _ (blk_lt (blk_drewN hx5.out nq))]
            rfl
           have HI':=am hinv'
           have HX4:=am (blk_far (hx4'.trans hx4.out) (p:=⟨w.heap.size+3,1,none⟩) (by simp) (.slice (some ⟨g,0,none⟩) (xs.length+1) cap))
           have HX5:=am (blk_far (hx5'.trans hx5.out) (p:=⟨w.heap.size+3,1,none⟩) (by simp) (.slice (some ⟨g,0,none⟩) (xs.length+1) cap))
           have cO1:w1.cell? ⟨w.heap.size+1+1+1,1,none⟩=some v:=(blk_cell hv1 1).trans rfl
           have fO1:w1.frozen? ⟨w.heap.size+1+1+1,1,none⟩=false:=blk_frozen hv1 1
           clear hown' hgrow hinv' hv1 cO fO hown0 hx4' hx5'
           go_wp2
           go_roundg (l1_1.length+1 - (i+1))
           case measure=>have:=hgi.out;omega
           case rel=>exact ⟨i+1,1,xs ++ [d1 - d2 - o+10],rfl,by go_num,by omega,by omega,by omega,⟨by have:=hgi.out;omega⟩,⟨by have:=hsum.out;rw [hstep.out,if_pos hneg] at this;rw [← this];simp⟩,⟨by have:=hxl.out;simp;omega⟩,HI',HX4,HX5⟩
          ·have hneg':decide (d1 - d2 - o < 0)=false:=decide_eq_false hneg
           go_wp2
           go_quiet ((go_at_call 94;with_reducible exact bocageref01_Plus.quiet (bocageref01_digit.calls _ _ l0_1 (i:Int) d2 _ (hCy.out _) hcc0.out hd2.out)))
           have cO:=HCO.out nq
           have fO:=HFO.out nq
           go_wp2_with (at_builtin;refine wpList_append_own _ rfl _ _ 42 rfl (w.heap.size+6) 3 i0 (.int .i64 0) 1 8 Tryz.underlying42 HI.out hz0 hz1 hz2 rfl (by decide) _ _ _ rfl ((pw_own_below HOWN.out (pw_below_drewN (Below.refl _ _) nq)).alloc _) ⟨wr.heap.size,0,none⟩ 1 1 [.int .i64 (d1 - d2 - o)] rfl rfl ?c1 ?c2 ?c3 ?c4 ?c5 ?_)
           case c1 =>
            intro j u hj
            match j,hj with
            | 0,hj =>
             simp at hj;subst hj
             exact (blk_cell (blk_new (wr.drewN nq) _) 0).trans rfl
           case c2=>intro u hu;simp at hu;subst hu;rfl
           case c3=>have:=hxl.out;unfold maxLen;omega
           case c4=>have:=hxl.out;omega
           case c5=>have:=hinv.out.sz;simp;omega
           intro v' w1 hown' hgrow _
           have hown0:=pw_own_below HOWN.out (pw_below_drewN (Below.refl _ _) nq)
           obtain ⟨hinv',hv1⟩:=(hinv.out.drewN nq).push (by omega) HBO.out hown0 hown' hgrow
           obtain ⟨g,cap,rfl,hgb,hgl⟩:=hown'.form (by omega)
           have hx4':w1.heap[w.heap.size+4]? = wr.heap[w.heap.size+4]? := by
            rw [hgrow.block _ (by have:=blk_lt hx4.out;simp;omega) (fun e=>by have:=(hown0.lt _ e.symm).1;omega),heap_alloc_old _ _ (blk_lt (blk_drewN hx4.out nq))]
            rfl
           have hx5':w1.heap[w.heap.size+5]? = wr.heap[w.heap.size+5]? := by
            rw [hgrow.block _ (by have:=blk_lt hx5.out;simp;omega) (fun e=>by have:=(hown0.lt _ e.symm).1;omega),heap_alloc_old _ _ (blk_lt (blk_drewN hx5.out nq))]
            rfl
           have HI':=am hinv'
           have HX4:=am (blk_far (hx4'.trans hx4.out) (p:=⟨w.heap.size+3,1,none⟩) (by simp) (.slice (some ⟨g,0,none⟩) (xs.length+1) cap))
           have HX5:=am (blk_far (hx5'.trans hx5.out) (p:=⟨w.heap.size+3,1,none⟩) (by simp) (.slice (some ⟨g,0,none⟩) (xs.length+1) cap))
           have cO1:w1.cell? ⟨w.heap.size+1+1+1,1,none⟩=some v:=(blk_cell hv1 1).trans rfl
           have fO1:w1.frozen? ⟨w.heap.size+1+1+1,1,none⟩=false:=blk_frozen hv1 1
           clear hown' hgrow hinv' hv1 cO fO hown0 hx4' hx5'
           go_wp2
           go_roundg (l1_1.length+1 - (i+1))
           case measure=>have:=hgi.out;omega
           case rel=>exact ⟨i+1,0,xs ++ [d1 - d2 - o],rfl,by go_num,by omega,by omega,by omega,⟨by have:=hgi.out;omega⟩,⟨by have:=hsum.out;rw [hstep.out,if_neg (by omega)] at this;rw [← this];simp⟩,⟨by have:=hxl.out;simp;omega⟩,HI',HX4,HX5⟩
         ·obtain rfl:i=l1_1.length:=by omega
          go_wp2
          go_meet
          case rel=>exact ⟨⟨by have:=hsum.out;rw [Nat.sub_self] at this;simp only [bocageref01_Plus.sub,List.append_nil] at this;rw [← this];exact hinv.out⟩,hx4,hx5⟩
       case rest =>
        obtain ⟨hcT,hx4,hx5⟩:=hcut
        clear hinv6 hb63 hb64 hb65 hW6;have hi0:=hcT.out
        obtain ⟨v,hbo,hown⟩:=hi0.bo
        have hTn:Aside0 (T.length=l1_1.length):=⟨by rw [HT.out,bocageref01_Plus.sub_len]⟩
        obtain ⟨Ao,co,hvo⟩:=own_slice hown
        subst hvo
        have hV:Kd.V (Kd.int .i64) 3 (wc.setCell ⟨w.heap.size+1+1+1,0,none⟩ (.int .i64 a1_0)) (wc.setCell ⟨w.heap.size+1+1+1,0,none⟩ (.int .i64 a1_0)).heap.size (fun k_=>(fun k=>w.heap.size+6≤k) k_) (.slice Ao T.length co) T :=
         bocageref01_Plus.toV' (ownsRow_setCell_other (a:=⟨w.heap.size+1+1+1,0,none⟩) hown (fun e=>by have:=(hown.lt _ e).1;simp at this;omega) (.int .i64 a1_0))
        have HV:=am hV
        have cO0:wc.cell? ⟨w.heap.size+1+1+1,0,none⟩=some (.int .i64 0):=(blk_cell hbo 0).trans rfl
        have cO:wc.cell? ⟨w.heap.size+1+1+1,1,none⟩=some (.slice Ao T.length co):=(blk_cell hbo 1).trans rfl
        have fO:wc.frozen? ⟨w.heap.size+1+1+1,0,none⟩=false:=blk_frozen hbo 0
        have cX:wc.cell? ⟨w.heap.size+1+1+1+1,0,none⟩=some (.int .i64 a1_0):=(blk_cell hx4.out 0).trans rfl
        have H3:Aside0 ((wc.setCell ⟨w.heap.size+1+1+1,0,none⟩ (.int .i64 a1_0)).heap[w.heap.size+3]? = some (.cells #[.int .i64 a1_0,.slice Ao T.length co] 89 (0,0))):=⟨blk_put hbo 0 _ rfl⟩
        have H2:Aside0 ((wc.setCell ⟨w.heap.size+1+1+1,0,none⟩ (.int .i64 a1_0)).heap[w.heap.size+2]? = some (.cells #[.int .i64 0,.slice none 0 0] 89 (0,0))):=⟨blk_far hcT.out.br (by simp) _⟩
        have HBEL:Aside0 (Below w.heap.size w (wc.setCell ⟨w.heap.size+1+1+1,0,none⟩ (.int .i64 a1_0))):=⟨hcT.out.bel.setCell (by show _≤w.heap.size+1+1+1;omega) _⟩
        clear hV hown hbo hi0
        by_cases hr0:rr.length=0
        ·have hr0':((rr.length:Int) == 0)=true:=by simp [hr0]
         have HR0:=am hr0;clear hr0
         go_wp2_with (go_at_call 95;(with_reducible refine (bocageref01_cut.calls k _ _ _ T rr _ HV.out HCUT.out).mono ?_);rintro e w2 ⟨v0,rfl,hV2,hb2⟩;obtain ⟨Ar,cr,rfl⟩:=Kd.V_slice hV2;have HV2:=am hV2;have HB2:=am hb2;have q30:=(blk_cell (blk_below H3.out hb2) 0).trans rfl;have q3f:=blk_frozen (blk_below H3.out hb2) 1;have q3g:=blk_frozen (blk_below H3.out hb2) 0;have q31:=(blk_cell (blk_below H3.out hb2) 1).trans rfl;have q20:=(blk_cell (blk_below H2.out hb2) 0).trans rfl;have q21:=(blk_cell (blk_below H2.out hb2) 1).trans rfl;have q2f:=blk_frozen (blk_below H2.out hb2) 0;have q2g:=blk_frozen (blk_below H2.out hb2) 1;clear hV2 hb2)
         have hr1:=HR1.out
         rw [if_pos HR0.out] at hr1
         subst hr1
         obtain ⟨k1,k2,k3⟩:=bocageref01_Plus.fin0 (P:=P0_1_) (Q:=P1_1_) H2.out HBEL.out HB2.out (Kd.V_mono HV2.out (fun k hk=>hk.imp (fun h=>by show w.heap.size+4≤k;have:w.heap.size+6≤k:=h;omega) id)) (blk_lt H3.out)
         refine bodyPost_ret (results_cell_row rfl _ _ (w.heap.size+1+1) 89 #[.int .i64 0,.slice Ar rr.length cr] (0,0) _ rfl k1 Tryz.underlying89 rfl (by kernel_rfl)) rfl ?_
         exact ⟨_,rfl,k2,k3⟩
        ·have hr0':((rr.length:Int) == 0)=false:=beq_eq_false_iff_ne.mpr (by omega)
         have HR0:=am hr0;clear hr0
         go_wp2_with (go_at_call 95;(with_reducible refine (bocageref01_cut.calls k _ _ _ T rr _ HV.out HCUT.out).mono ?_);rintro e w2 ⟨v0,rfl,hV2,hb2⟩;obtain ⟨Ar,cr,rfl⟩:=Kd.V_slice hV2;have HV2:=am hV2;have HB2:=am hb2;have q30:=(blk_cell (blk_below H3.out hb2) 0).trans rfl;have q3f:=blk_frozen (blk_below H3.out hb2) 1;have q31:=(blk_cell (blk_below H3.out hb2) 1).trans rfl;have q20:=(blk_cell (blk_below H2.out hb2) 0).trans rfl;have q21:=(blk_cell (blk_below H2.out hb2) 1).trans rfl;have q2f:=blk_frozen (blk_below H2.out hb2) 0;have q2g:=blk_frozen (blk_below H2.out hb2) 1;clear hV2 hb2)
         obtain ⟨k1,k2,k3⟩:=bocageref01_Plus.fin (P:=P0_1_) (Q:=P1_1_) H3.out H2.out HBEL.out HB2.out (Kd.V_mono HV2.out (fun k hk=>hk.imp (fun h=>by show w.heap.size+4≤k;have:w.heap.size+6≤k:=h;omega) id)) rfl
         have hr1:=HR1.out
         rw [if_neg HR0.out] at hr1
         subst hr1
         refine bodyPost_ret (results_cell_row rfl _ _ (w.heap.size+1+1) 89 #[.int .i64 a1_0,.slice Ar rr.length cr] (0,0) _ rfl k1 Tryz.underlying89 rfl (by kernel_rfl)) rfl ?_
         exact ⟨_,rfl,k2,k3⟩
     | false =>
      have h':=am (show bocageref01_Plus.less k a0_0 l0_1 l1_1=some (r1,r2) by simpa using h)
      clear h;have h:=h'.out
      clear h'
      obtain ⟨rr,hcut,hrr⟩:=Option.bind_eq_some_iff.1 h
      clear h
      simp only [Option.some.injEq,Prod.mk.injEq] at hrr
      obtain ⟨hr1,rfl⟩:=hrr
      have HR1:=am hr1;clear hr1
      obtain ⟨T,hT⟩:∃ T,T=bocageref01_Plus.sub l0_1.length l0_1 l1_1 0 0:=⟨_,rfl⟩
      rw [← hT] at hcut
      have HT:=am hT;have HCUT:=am hcut;clear hT hcut;go_enter Tryz.func62,Tryz.ntmps62
      go_upto_if 72 with (go_at_call 96;(with_reducible refine (bocageref01_more.calls k _ _ l1_1 _ _ l0_1 false _ HRb.out hcc1.out HRa.out hcc0.out HM.out).mono ?_);rintro e w' ⟨rfl,⟨nd,rfl⟩⟩)
      go_cut [] (fun wc=>Aside0 (bocageref01_Plus.Inv w 6 a0_0 (.slice A0_1 l0_1.length c0_1) a1_0 (.slice A1_1 l1_1.length c1_1) 0 [] wc)∧Aside0 (wc.heap[w.heap.size+3]? = some (.cells #[.int .i64 0,.slice none 0 0] 89 (0,0)))∧Aside0 (wc.heap[w.heap.size+4]? = some (.cells #[.int .i64 a0_0,.slice A0_1 l0_1.length c0_1] 89 (0,0)))∧Aside0 (wc.heap[w.heap.size+5]? = some (.cells #[.int .i64 a1_0,.slice A1_1 l1_1.length c1_1] 89 (0,0))))
      case first =>
       go_wp2
       go_meet
       case rel=>exact ⟨⟨H6.out.1.drewN nd⟩,⟨blk_drewN h63.out nd⟩,⟨blk_drewN H6.out.2.1 nd⟩,⟨blk_drewN H6.out.2.2 nd⟩⟩
      case rest =>
       obtain ⟨hinv6,hb63,hb64,hb65⟩:=hcut
       clear H6 h63 HRa HRb HM
       obtain ⟨W6,hW6⟩:∃ W6,W6=wc:=⟨_,rfl⟩
       go_upto_block 2 with (fail)
       go_cut [] (fun wc=>Aside0 (bocageref01_Plus.Inv w 6 a0_0 (.slice A0_1 l0_1.length c0_1) a1_0 (.slice A1_1 l1_1.length c1_1) 0 T wc)∧Aside0 (wc.heap[w.heap.size+4]? = some (.cells #[.int .i64 a0_0,.slice A0_1 l0_1.length c0_1] 89 (0,0)))∧Aside0 (wc.heap[w.heap.size+5]? = some (.cells #[.int .i64 a1_0,.slice A1_1 l1_1.length c1_1] 89 (0,0))))
       case first =>
        go_wp2
        go_loopg [11,12] (l0_1.length+1) (fun g v11 v12 wr=>∃ (i:Nat) (o:Int) (xs:List Int),v11=.int .i64 o∧v12=.int .i64 i∧i≤l0_1.length∧0≤o∧o≤1∧Aside0 (g+i=l0_1.length+1)∧Aside0 (xs ++ bocageref01_Plus.sub (l0_1.length - i) l0_1 l1_1 o i=T)∧Aside0 (xs.length=i)∧Aside0 (bocageref01_Plus.Inv w 6 a0_0 (.slice A0_1 l0_1.length c0_1) a1_0 (.slice A1_1 l1_1.length c1_1) 0 xs wr)∧Aside0 (wr.heap[w.heap.size+4]? = some (.cells #[.int .i64 a0_0,.slice A0_1 l0_1.length c0_1] 89 (0,0)))∧Aside0 (wr.heap[w.heap.size+5]? = some (.cells #[.int .i64 a1_0,.slice A1_1 l1_1.length c1_1] 89 (0,0))))
        case atStart=>exact ⟨0,0,[],rfl,rfl,by omega,by omega,by omega,⟨by omega⟩,⟨HT.out.symm⟩,⟨rfl⟩,hinv6,hb64,hb65⟩
        case round =>
         obtain ⟨i,o,xs,rfl,rfl,hile,ho0,ho1,hgi,hsum,hxl,hinv,hx4,hx5⟩:=hrel
         have hi0:=hinv.out
         obtain ⟨v,hbo,hown⟩:=hi0.bo
         have cX:wr.cell? ⟨w.heap.size+1+1+1+1,1,none⟩=some (.slice A0_1 l0_1.length c0_1):=(blk_cell hx4.out 1).trans rfl
         have cY:wr.cell? ⟨w.heap.size+1+1+1+1+1,1,none⟩=some (.slice A1_1 l1_1.length c1_1):=(blk_cell hx5.out 1).trans rfl
         have HCO:Aside0 (∀ m,(wr.drewN m).cell? ⟨w.heap.size+1+1+1,1,none⟩=some v):=⟨fun m=>(blk_cell (blk_drewN hbo m) 1).trans rfl⟩
         have HFO:Aside0 (∀ m,(wr.drewN m).frozen? ⟨w.heap.size+1+1+1,1,none⟩=false):=⟨fun m=>blk_frozen (blk_drewN hbo m) 1⟩
         have hCx:=am (bocageref01_Plus.reads HS0.out hi0.bel)
         have hCy:=am (bocageref01_Plus.reads HS1.out hi0.bel)
         have HOWN:=am hown;have HBO:=am hbo;clear hown hbo hi0
         by_cases hlt:i < l0_1.length
         ·obtain ⟨ad,hA,hcx⟩:=Kd.at_int (hCx.out 0) (i:Int) (by omega) (by omega)
          subst hA
          have hix:((i:Int)).toNat=i:=by omega
          rw [hix] at hcx
          have hrd:rd l0_1 (i:Int)=l0_1.getD i 0:=by simp [rd]
          rw [hrd] at hcx
          replace hcx:wr.cell? (ad.add i)=some (.int .i64 (l0_1.getD i 0)):=hcx
          have hd2:=am (bocageref01_Plus.dig_some l1_1 i hln1)
          have hb1:=bocageref01_Plus.ok_at HK0.out i
          have hb2:=bocageref01_Plus.ok_at HK1.out i
          have hstep:=am (show bocageref01_Plus.sub (l0_1.length - i) l0_1 l1_1 o i=(if l0_1.getD i 0 - l1_1.getD i 0 - o < 0 then (l0_1.getD i 0 - l1_1.getD i 0 - o+10) :: bocageref01_Plus.sub (l0_1.length - (i+1)) l0_1 l1_1 1 (i+1) else (l0_1.getD i 0 - l1_1.getD i 0 - o) :: bocageref01_Plus.sub (l0_1.length - (i+1)) l0_1 l1_1 0 (i+1)) by
           rw [show l0_1.length - i=(l0_1.length - (i+1))+1 by omega];rfl)
          clear hix hrd;generalize l0_1.getD i 0=d1 at hcx hb1 hstep;generalize l1_1.getD i 0=d2 at hd2 hb2 hstep
          obtain ⟨hb10,hb11⟩:=hb1
          obtain ⟨hb20,hb21⟩:=hb2
          have hix0:0≤(i:Int):=by omega
          have hix1:(i:Int) < (l0_1.length:Int):=by omega
          by_cases hneg:d1 - d2 - o < 0
          ·have hneg':decide (d1 - d2 - o < 0)=true:=decide_eq_true hneg
           go_wp2
           go_quiet ((go_at_call 94;with_reducible exact bocageref01_Plus.quiet (bocageref01_digit.calls _ _ l1_1 (i:Int) d2 _ (hCy.out _) hcc1.out hd2.out)))
           have cO:=HCO.out nq
           have fO:=HFO.out nq
           go_wp2_with (at_builtin;refine wpList_append_own _ rfl _ _ 42 rfl (w.heap.size+6) 3 i0 (.int .i64 0) 1 8 Tryz.underlying42 HI.out hz0 hz1 hz2 rfl (by decide) _ _ _ rfl ((pw_own_below HOWN.out (pw_below_drewN (Below.refl _ _) nq)).alloc _) ⟨wr.heap.size,0,none⟩ 1 1 [.int .i64 (d1 - d2 - o+10)] rfl rfl ?c1 ?c2 ?c3 ?c4 ?c5 ?_)
           case c1 =>
            intro j u hj
            match j,hj with
            | 0,hj =>
             simp at hj;subst hj
             exact (blk_cell (blk_new (wr.drewN nq) _) 0).trans rfl
           case c2=>intro u hu;simp at hu;subst hu;rfl
           case c3=>have:=hxl.out;unfold maxLen;omega
           case c4=>have:=hxl.out;omega
           case c5=>have:=hinv.out.sz;simp;omega
           intro v' w1 hown' hgrow _
           have hown0:=pw_own_below HOWN.out (pw_below_drewN (Below.refl _ _) nq)
           obtain ⟨hinv',hv1⟩:=(hinv.out.drewN nq).push (by omega) HBO.out hown0 hown' hgrow
           obtain ⟨g,cap,rfl,hgb,hgl⟩:=hown'.form (by omega)
           have hx4':w1.heap[w.heap.size+4]? = wr.heap[w.heap.size+4]? := by
            rw [hgrow.block _ (by have:=blk_lt hx4.out;simp;omega) (fun e=>by have:=(hown0.lt _ e.symm).1;omega),heap_alloc_old _ _ (blk_lt (blk_drewN hx4.out nq))]
            rfl
           have hx5':w1.heap[w.heap.size+5]? = wr.heap[w.heap.size+5]? := by
            rw [hgrow.block _ (by have:=blk_lt hx5.out;simp;omega) (fun e=>by have:=(hown0.lt _ e.symm).1;omega),heap_alloc_old _ _ (blk_lt (blk_drewN hx5.out nq))]
            rfl
           have HI':=am hinv'
           have HX4:=am (blk_far (hx4'.trans hx4.out) (p:=⟨w.heap.size+3,1,none⟩) (by simp) (.slice (some ⟨g,0,none⟩) (xs.length+1) cap))
           have HX5:=am (blk_far (hx5'.trans hx5.out) (p:=⟨w.heap.size+3,1,none⟩) (by simp) (.slice (some ⟨g,0,none⟩) (xs.length+1) cap))
           have cO1:w1.cell? ⟨w.heap.size+1+1+1,1,none⟩=some v:=(blk_cell hv1 1).trans rfl
           have fO1:w1.frozen? ⟨w.heap.size+1+1+1,1,none⟩=false:=blk_frozen hv1 1
           clear hown' hgrow hinv' hv1 cO fO hown0 hx4' hx5'
           go_wp2
           go_roundg (l0_1.length+1 - (i+1))
           case measure=>have:=hgi.out;omega
           case rel=>exact ⟨i+1,1,xs ++ [d1 - d2 - o+10],rfl,by go_num,by omega,by omega,by omega,⟨by have:=hgi.out;omega⟩,⟨by have:=hsum.out;rw [hstep.out,if_pos hneg] at this;rw [← this];simp⟩,⟨by have:=hxl.out;simp;omega⟩,HI',HX4,HX5⟩
          ·have hneg':decide (d1 - d2 - o < 0)=false:=decide_eq_false hneg
           go_wp2
           go_quiet ((go_at_call 94;with_reducible exact bocageref01_Plus.quiet (bocageref01_digit.calls _ _ l1_1 (i:Int) d2 _ (hCy.out _) hcc1.out hd2.out)))
           have cO:=HCO.out nq
           have fO:=HFO.out nq
           go_wp2_with (at_builtin;refine wpList_append_own _ rfl _ _ 42 rfl (w.heap.size+6) 3 i0 (.int .i64 0) 1 8 Tryz.underlying42 HI.out hz0 hz1 hz2 rfl (by decide) _ _ _ rfl ((pw_own_below HOWN.out (pw_below_drewN (Below.refl _ _) nq)).alloc _) ⟨wr.heap.size,0,none⟩ 1 1 [.int .i64 (d1 - d2 - o)] rfl rfl ?c1 ?c2 ?c3 ?c4 ?c5 ?_)
           case c1 =>
            intro j u hj
            match j,hj with
            | 0,hj =>
             simp at hj;subst hj
             exact (blk_cell (blk_new (wr.drewN nq) _) 0).trans rfl
           case c2=>intro u hu;simp at hu;subst hu;rfl
           case c3=>have:=hxl.out;unfold maxLen;omega
           case c4=>have:=hxl.out;omega
           case c5=>have:=hinv.out.sz;simp;omega
           intro v' w1 hown' hgrow _
           have hown0:=pw_own_below HOWN.out (pw_below_drewN (Below.refl _ _) nq)
           obtain ⟨hinv',hv1⟩:=(hinv.out.drewN nq).push (by omega) HBO.out hown0 hown' hgrow
           obtain ⟨g,cap,rfl,hgb,hgl⟩:=hown'.form (by omega)
           have hx4':w1.heap[w.heap.size+4]? = wr.heap[w.heap.size+4]? := by
            rw [hgrow.block _ (by have:=blk_lt hx4.out;simp;omega) (fun e=>by have:=(hown0.lt _ e.symm).1;omega),heap_alloc_old _ _ (blk_lt (blk_drewN hx4.out nq))]
            rfl
           have hx5':w1.heap[w.heap.size+5]? = wr.heap[w.heap.size+5]? := by
            rw [hgrow.block _ (by have:=blk_lt hx5.out;simp;omega) (fun e=>by have:=(hown0.lt _ e.symm).1;omega),heap_alloc_old _ _ (blk_lt (blk_drewN hx5.out nq))]
            rfl
           have HI':=am hinv'
           have HX4:=am (blk_far (hx4'.trans hx4.out) (p:=⟨w.heap.size+3,1,none⟩) (by simp) (.slice (some ⟨g,0,none⟩) (xs.length+1) cap))
           have HX5:=am (blk_far (hx5'.trans hx5.out) (p:=⟨w.heap.size+3,1,none⟩) (by simp) (.slice (some ⟨g,0,none⟩) (xs.length+1) cap))
           have cO1:w1.cell? ⟨w.heap.size+1+1+1,1,none⟩=some v:=(blk_cell hv1 1).trans rfl
           have fO1:w1.frozen? ⟨w.heap.size+1+1+1,1,none⟩=false:=blk_frozen hv1 1
           clear hown' hgrow hinv' hv1 cO fO hown0 hx4' hx5'
           go_wp2
           go_roundg (l0_1.length+1 - (i+1))
           case measure=>have:=hgi.out;omega
           case rel=>exact ⟨i+1,0,xs ++ [d1 - d2 - o],rfl,by go_num,by omega,by omega,by omega,⟨by have:=hgi.out;omega⟩,⟨by have:=hsum.out;rw [hstep.out,if_neg (by omega)] at this;rw [← this];simp⟩,⟨by have:=hxl.out;simp;omega⟩,HI',HX4,HX5⟩
         ·obtain rfl:i=l0_1.length:=by omega
          go_wp2
          go_meet
          case rel=>exact ⟨⟨by have:=hsum.out;rw [Nat.sub_self] at this;simp only [bocageref01_Plus.sub,List.append_nil] at this;rw [← this];exact hinv.out⟩,hx4,hx5⟩
       case rest =>
        obtain ⟨hcT,hx4,hx5⟩:=hcut
        clear hinv6 hb63 hb64 hb65 hW6;have hi0:=hcT.out
        obtain ⟨v,hbo,hown⟩:=hi0.bo
        have hTn:Aside0 (T.length=l0_1.length):=⟨by rw [HT.out,bocageref01_Plus.sub_len]⟩
        obtain ⟨Ao,co,hvo⟩:=own_slice hown
        subst hvo
        have hV:Kd.V (Kd.int .i64) 3 (wc.setCell ⟨w.heap.size+1+1+1,0,none⟩ (.int .i64 a0_0)) (wc.setCell ⟨w.heap.size+1+1+1,0,none⟩ (.int .i64 a0_0)).heap.size (fun k_=>(fun k=>w.heap.size+6≤k) k_) (.slice Ao T.length co) T :=
         bocageref01_Plus.toV' (ownsRow_setCell_other (a:=⟨w.heap.size+1+1+1,0,none⟩) hown (fun e=>by have:=(hown.lt _ e).1;simp at this;omega) (.int .i64 a0_0))
        have HV:=am hV
        have cO0:wc.cell? ⟨w.heap.size+1+1+1,0,none⟩=some (.int .i64 0):=(blk_cell hbo 0).trans rfl
        have cO:wc.cell? ⟨w.heap.size+1+1+1,1,none⟩=some (.slice Ao T.length co):=(blk_cell hbo 1).trans rfl
        have fO:wc.frozen? ⟨w.heap.size+1+1+1,0,none⟩=false:=blk_frozen hbo 0
        have cX:wc.cell? ⟨w.heap.size+1+1+1+1,0,none⟩=some (.int .i64 a0_0):=(blk_cell hx4.out 0).trans rfl
        have H3:Aside0 ((wc.setCell ⟨w.heap.size+1+1+1,0,none⟩ (.int .i64 a0_0)).heap[w.heap.size+3]? = some (.cells #[.int .i64 a0_0,.slice Ao T.length co] 89 (0,0))):=⟨blk_put hbo 0 _ rfl⟩
        have H2:Aside0 ((wc.setCell ⟨w.heap.size+1+1+1,0,none⟩ (.int .i64 a0_0)).heap[w.heap.size+2]? = some (.cells #[.int .i64 0,.slice none 0 0] 89 (0,0))):=⟨blk_far hcT.out.br (by simp) _⟩
        have HBEL:Aside0 (Below w.heap.size w (wc.setCell ⟨w.heap.size+1+1+1,0,none⟩ (.int .i64 a0_0))):=⟨hcT.out.bel.setCell (by show _≤w.heap.size+1+1+1;omega) _⟩
        clear hV hown hbo hi0
        by_cases hr0:rr.length=0
        ·have hr0':((rr.length:Int) == 0)=true:=by simp [hr0]
         have HR0:=am hr0;clear hr0
         go_wp2_with (go_at_call 95;(with_reducible refine (bocageref01_cut.calls k _ _ _ T rr _ HV.out HCUT.out).mono ?_);rintro e w2 ⟨v0,rfl,hV2,hb2⟩;obtain ⟨Ar,cr,rfl⟩:=Kd.V_slice hV2;have HV2:=am hV2;have HB2:=am hb2;have q30:=(blk_cell (blk_below H3.out hb2) 0).trans rfl;have q3f:=blk_frozen (blk_below H3.out hb2) 1;have q3g:=blk_frozen (blk_below H3.out hb2) 0;have q31:=(blk_cell (blk_below H3.out hb2) 1).trans rfl;have q20:=(blk_cell (blk_below H2.out hb2) 0).trans rfl;have q21:=(blk_cell (blk_below H2.out hb2) 1).trans rfl;have q2f:=blk_frozen (blk_below H2.out hb2) 0;have q2g:=blk_frozen (blk_below H2.out hb2) 1;clear hV2 hb2)
         have hr1:=HR1.out
         rw [if_pos HR0.out] at hr1
         subst hr1
         obtain ⟨k1,k2,k3⟩:=bocageref01_Plus.fin0 (P:=P0_1_) (Q:=P1_1_) H2.out HBEL.out HB2.out (Kd.V_mono HV2.out (fun k hk=>hk.imp (fun h=>by show w.heap.size+4≤k;have:w.heap.size+6≤k:=h;omega) id)) (blk_lt H3.out)
         refine bodyPost_ret (results_cell_row rfl _ _ (w.heap.size+1+1) 89 #[.int .i64 0,.slice Ar rr.length cr] (0,0) _ rfl k1 Tryz.underlying89 rfl (by kernel_rfl)) rfl ?_
         exact ⟨_,rfl,k2,k3⟩
        ·have hr0':((rr.length:Int) == 0)=false:=beq_eq_false_iff_ne.mpr (by omega)
         have HR0:=am hr0;clear hr0
         go_wp2_with (go_at_call 95;(with_reducible refine (bocageref01_cut.calls k _ _ _ T rr _ HV.out HCUT.out).mono ?_);rintro e w2 ⟨v0,rfl,hV2,hb2⟩;obtain ⟨Ar,cr,rfl⟩:=Kd.V_slice hV2;have HV2:=am hV2;have HB2:=am hb2;have q30:=(blk_cell (blk_below H3.out hb2) 0).trans rfl;have q3f:=blk_frozen (blk_below H3.out hb2) 1;have q31:=(blk_cell (blk_below H3.out hb2) 1).trans rfl;have q20:=(blk_cell (blk_below H2.out hb2) 0).trans rfl;have q21:=(blk_cell (blk_below H2.out hb2) 1).trans rfl;have q2f:=blk_frozen (blk_below H2.out hb2) 0;have q2g:=blk_frozen (blk_below H2.out hb2) 1;clear hV2 hb2)
         obtain ⟨k1,k2,k3⟩:=bocageref01_Plus.fin (P:=P0_1_) (Q:=P1_1_) H3.out H2.out HBEL.out HB2.out (Kd.V_mono HV2.out (fun k hk=>hk.imp (fun h=>by show w.heap.size+4≤k;have:w.heap.size+6≤k:=h;omega) id)) rfl
         have hr1:=HR1.out
         rw [if_neg HR0.out] at hr1
         subst hr1
         refine bodyPost_ret (results_cell_row rfl _ _ (w.heap.size+1+1) 89 #[.int .i64 a0_0,.slice Ar rr.length cr] (0,0) _ rfl k1 Tryz.underlying89 rfl (by kernel_rfl)) rfl ?_
         exact ⟨_,rfl,k2,k3⟩
 ·rw [if_neg hok] at h
  cases h
mutual
def bocageref01_Of.j0:Nat→Int→Int→Option (Int×List Int)
 | 0,_,_=>none
 | k+1,x0,x478000=>bocageref01_Of.l0 k x0 x478000 ([]:List Int)
def bocageref01_Of.l0:Nat→Int→Int→List Int→Option (Int×List Int)
 | 0,_,_,_=>none
 | k+1,x0,x478000,x478001=>if x0=0 then (if (x478001.length:Int)=0 then (some (0,x478001)) else (some (x478000,x478001))) else (if (Int.tmod x0 10) < 0 then (if x478001.length < 17592186044416 then (bocageref01_Of.l0 k (wrap64 (Int.tdiv x0 10)) x478000 (x478001 ++ [wrap64 (-(Int.tmod x0 10))])) else (none)) else (if x478001.length < 17592186044416 then (bocageref01_Of.l0 k (wrap64 (Int.tdiv x0 10)) x478000 (x478001 ++ [Int.tmod x0 10])) else (none)))
end
def bocageref01_Of.f (k:Nat) (a0:Int):Option (Int×List Int):=if a0 < 0 then (bocageref01_Of.j0 k a0 (-1)) else (bocageref01_Of.j0 k a0 1)
theorem bocageref01_Of.mono_l:∀ k,(∀ y0 y1,LeO (bocageref01_Of.j0 k y0 y1) (bocageref01_Of.j0 (k+1) y0 y1))∧(∀ y0 y1 y2,LeO (bocageref01_Of.l0 k y0 y1 y2) (bocageref01_Of.l0 (k+1) y0 y1 y2))
 | 0=>⟨fun _ _ r h=>by simp [bocageref01_Of.j0] at h,fun _ _ _ r h=>by simp [bocageref01_Of.l0] at h⟩
 | k+1=>by
  obtain ⟨ih0,ih1⟩:=bocageref01_Of.mono_l k
  refine ⟨?_,?_⟩
  ·intro y0 y1
   unfold bocageref01_Of.j0
   repeat' with_reducible first | apply ih0 | apply ih1 | apply lr | apply ln | apply li | refine lb ?_ fun _=>?_
  ·intro y0 y1 y2
   unfold bocageref01_Of.l0
   repeat' with_reducible first | apply ih0 | apply ih1 | apply lr | apply ln | apply li | refine lb ?_ fun _=>?_
theorem bocageref01_Of.mono:∀ a0 k,LeO (bocageref01_Of.f k a0) (bocageref01_Of.f (k+1) a0):=by
 intro a0 k
 obtain ⟨ih0,ih1⟩:=bocageref01_Of.mono_l k
 unfold bocageref01_Of.f
 repeat' with_reducible first | apply ih0 | apply ih1 | apply lr | apply ln | apply li | refine lb ?_ fun _=>?_
theorem bocageref01_Of.calls (k:Nat) (a0:Int) (r1:Int) (r2:List Int) (w:World) (h:bocageref01_Of.f k a0=some (r1,r2)) :
 Calls Tryz.prog 64 #[.int .i64 a0] w fun e w'=>∃ v1_:Value,e=.returned (.agg #[.int .i64 r1,v1_])∧Kd.R (Kd.int .i64) 3 w' w.heap.size (fun _=>True) v1_ r2∧Below w.heap.size w w':=by
 have hu89:=Tryz.underlying89
 have HB:=am (Below.refl w.heap.size w)
 unfold bocageref01_Of.f at h;have H:=h;clear h;have HC2:=am H;clear H;go_enter Tryz.func64,Tryz.ntmps64
 go_upto_if 7 with (first | ((with_reducible refine gate_dst (N:=2) rfl ?_);refine bxf #[.int .i64 0,.slice none 0 0] 89 HB fun gb476 w3 BK476 GW476 HB hg hb=>?_;have GE476:=GW476;clear hb hg) | ((with_reducible refine gate_dst (N:=3) rfl ?_);refine bxf #[.int .i64 0,.slice none 0 0] 89 HB fun gb477 w4 BK477 GW477 HB hg hb=>?_;have GE477:=GW477;have NB476_477:=nlt hg BK476;have NB477_476:=ngt hg BK476;replace BK476:=bkb BK476 hb;clear hb hg;have hnb5:=NB477_476.out;have hnc5:=NB476_477.out;obtain ⟨hcz6_0,hcz6_1⟩:=e2 BK477;obtain ⟨hfz6_0,hfz6_1⟩:=f2 BK477))
 (try simp only [Act.put,List.setIfInBounds_toArray,List.set_cons_zero,List.set_cons_succ])
 go_cut [] (fun wc=>∃ (kq:Nat) (x478000_1:Int),Aside0 (bocageref01_Of.j0 kq a0 x478000_1=some (r1,r2))∧Aside0 (kq≤k)∧Aside0 (wc.heap[gb476]? = some (.cells #[.int .i64 0,(.slice none 0 0)] 89 (0,0)))∧Aside0 (wc.heap[gb477]? = some (.cells #[.int .i64 x478000_1,(.slice none 0 0)] 89 (0,0)))∧Aside0 (Below w.heap.size w wc))
 case first =>
  have H:=HC2.out;clear HC2;revert H;refine itc (fun c7b0 H=>?_) fun c7b0 H=>?_
  ·(first | rw [c7b0] | (simp only [i64_w,i32_w];rw [c7b0]) | skip)
   have H':=am H;clear H;have hnb8:=NB477_476.out;have hnc8:=NB476_477.out;obtain ⟨hcz9_0,hcz9_1,hfz9_0,hfz9_1⟩:=s2 BK477;go_wp2
   go_meet
   case rel=>exact ⟨_,((-1)),H',⟨by first | omega | exact Nat.le_refl _⟩,⟨by (with_reducible repeat (first | refine blk_drewN ?_ _ | refine blk_drew ?_ | refine blk_alloc ?_ _));refine blk_far ?_ NB476_477.out _;(with_reducible repeat (first | refine blk_drewN ?_ _ | refine blk_drew ?_ | refine blk_alloc ?_ _));refine blk_far ?_ NB476_477.out _;(with_reducible repeat (first | refine blk_drewN ?_ _ | refine blk_drew ?_ | refine blk_alloc ?_ _));exact BK476.out⟩,⟨by (with_reducible repeat (first | refine blk_drewN ?_ _ | refine blk_drew ?_ | refine blk_alloc ?_ _));refine blk_put (cs:=#[.int .i64 1,.slice none 0 0]) ?_ 0 _ rfl;(with_reducible repeat (first | refine blk_drewN ?_ _ | refine blk_drew ?_ | refine blk_alloc ?_ _));refine blk_put (cs:=#[.int .i64 0,.slice none 0 0]) ?_ 0 _ rfl;(with_reducible repeat (first | refine blk_drewN ?_ _ | refine blk_drew ?_ | refine blk_alloc ?_ _));exact BK477.out⟩,⟨bl HB⟩⟩
  ·(first | rw [c7b0] | (simp only [i64_w,i32_w];rw [c7b0]) | skip)
   have H':=am H;clear H;go_wp2
   go_meet
   case rel=>exact ⟨_,(1),H',⟨by first | omega | exact Nat.le_refl _⟩,⟨by (with_reducible repeat (first | refine blk_drewN ?_ _ | refine blk_drew ?_ | refine blk_alloc ?_ _));refine blk_far ?_ NB476_477.out _;(with_reducible repeat (first | refine blk_drewN ?_ _ | refine blk_drew ?_ | refine blk_alloc ?_ _));exact BK476.out⟩,⟨by (with_reducible repeat (first | refine blk_drewN ?_ _ | refine blk_drew ?_ | refine blk_alloc ?_ _));refine blk_put (cs:=#[.int .i64 0,.slice none 0 0]) ?_ 0 _ rfl;(with_reducible repeat (first | refine blk_drewN ?_ _ | refine blk_drew ?_ | refine blk_alloc ?_ _));exact BK477.out⟩,⟨bl HB⟩⟩
 case rest =>
  clear HC2
  try clear p2
  try clear c5
  try clear c6
  try clear c7
  try clear c7b0
  try clear c8
  try clear hcz6_0
  try clear hcz6_1
  try clear hcz9_0
  try clear hcz9_1
  try clear hfz6_0
  try clear hfz6_1
  try clear hfz9_0
  try clear hfz9_1
  obtain ⟨kq,x478000_1,HA,HJ1,BK476,BK477,HB⟩:=hcut
  cases kq with
  | zero=>exact absurd HA.out (by simp [bocageref01_Of.j0])
  | succ kj1 =>
   have H:=HA.out;clear HA
   simp only [bocageref01_Of.j0] at H
   have H':=am H;clear H;go_wp2
   go_loopg [0] kj1 (fun kq v0 w'=>∃ (x0_2:Int) (x478001_2:List Int) (u478001:Value),v0=.int .i64 x0_2∧Aside0 (bocageref01_Of.l0 kq x0_2 x478000_1 x478001_2=some (r1,r2))∧Aside0 (kq≤kj1)∧Aside0 (Kd.R (Kd.int .i64) 3 w' w.heap.size (fun _=>True) u478001 x478001_2)∧Aside0 (w'.heap[gb476]? = some (.cells #[.int .i64 0,(.slice none 0 0)] 89 (0,0)))∧Aside0 (w'.heap[gb477]? = some (.cells #[.int .i64 x478000_1,u478001] 89 (0,0)))∧Aside0 (Below w.heap.size w w'))
   case atStart=>exact ⟨_,_,_,rs,H',⟨Nat.le_refl _⟩,kn,⟨bk BK476⟩,⟨bk BK477⟩,⟨bl HB⟩⟩
   case round =>
    clear H'
    try clear p2
    try clear c5
    try clear c6
    try clear c7
    try clear c7b0
    try clear c8
    try clear hcz6_0
    try clear hcz6_1
    try clear hcz9_0
    try clear hcz9_1
    try clear hfz6_0
    try clear hfz6_1
    try clear hfz9_0
    try clear hfz9_1
    try clear p2
    obtain ⟨x0_2,x478001_2,u478001,rfl,HA,HK2,HO_478001,BK476,BK477,HB⟩:=hrel
    cases gk with
    | zero=>exact absurd HA.out (by simp [bocageref01_Of.l0])
    | succ k2 =>
     have H:=HA.out;clear HA
     simp only [bocageref01_Of.l0] at H
     by_cases c10:x0_2=0
     ·rw [if_pos c10] at H
      have c10b0:(x0_2 == 0)=true:=beq_iff_eq.mpr c10
      have c10b1:(x0_2 != 0)=false:=bne_eq_false_iff_eq.mpr c10
      clear c10
      by_cases c11:(x478001_2.length:Int)=0
      ·rw [if_pos c11] at H
       have c11b0:((x478001_2.length:Int) == 0)=true:=beq_iff_eq.mpr c11
       have c11b1:((x478001_2.length:Int) != 0)=false:=bne_eq_false_iff_eq.mpr c11
       clear c11
       simp only [Option.some.injEq,Prod.mk.injEq] at H
       obtain ⟨rfl,rfl⟩:=H
       have hnb12:=NB477_476.out;have hnc12:=NB476_477.out;obtain ⟨_,_,_,_⟩:=s2 BK477
       obtain ⟨Ao14,co14,eo14⟩:=Kd.R_slice HO_478001.out
       subst eo14
       obtain ⟨_,_,_,_⟩:=s2 BK476;go_wp2
       refine bodyPost_ret (results_cell_row rfl _ _ gb476 89 #[.int .i64 0,.slice Ao14 x478001_2.length co14] (0,0) _ rfl (by (with_reducible repeat (first | refine blk_drewN ?_ _ | refine blk_drew ?_ | refine blk_alloc ?_ _));refine blk_put (cs:=#[.int .i64 0,.slice none 0 0]) ?_ 1 _ rfl;(with_reducible repeat (first | refine blk_drewN ?_ _ | refine blk_drew ?_ | refine blk_alloc ?_ _));refine blk_put (cs:=#[.int .i64 0,.slice none 0 0]) ?_ 0 _ rfl;(with_reducible repeat (first | refine blk_drewN ?_ _ | refine blk_drew ?_ | refine blk_alloc ?_ _));refine blk_far ?_ NB476_477.out _;(with_reducible repeat (first | refine blk_drewN ?_ _ | refine blk_drew ?_ | refine blk_alloc ?_ _));exact BK476.out) Tryz.underlying89 rfl (by kernel_rfl)) rfl ?_
       exact ⟨_,by first | rfl | (simp [errW_none,errW_some] <;> rfl) | (simp [*,errW_none,errW_some] <;> rfl),by (with_reducible repeat (first | apply Kd.R_alloc | apply Kd.R_drewN | apply Kd.R_drew));exact Kd.R_mono (Kd.R_far (p:=⟨gb476,1,none⟩) (Kd.R_far (p:=⟨gb476,0,none⟩) (Kd.R_far (p:=⟨gb477,0,none⟩) (Kd.R_types (Kd.R_types HO_478001.out BK477.out (by decide)) BK476.out (by decide)) (fun _ hk=>hk.1.2) (.int .i64 0)) (fun _ hk=>hk.2) (.int .i64 0)) (fun _ hk=>hk.2) (.slice Ao14 x478001_2.length co14)) (fun _ hk=>trivial),by repeat (first | (with_reducible first | exact HB.out | apply below_alloc | apply pw_below_drewN | apply below_drew1 | refine below_set ?_ GE476.out | refine below_set ?_ GE477.out) | exact HB.out)⟩
      ·rw [if_neg c11] at H
       have c11b0:((x478001_2.length:Int) == 0)=false:=beq_eq_false_iff_ne.mpr c11
       have c11b1:((x478001_2.length:Int) != 0)=true:=bne_iff_ne.mpr c11
       have c11b2:¬ (x478001_2=[]):=fun h_=>c11 (by rw [h_];rfl)
       simp only [Option.some.injEq,Prod.mk.injEq] at H
       obtain ⟨rfl,rfl⟩:=H
       have hnb16:=NB477_476.out;have hnc16:=NB476_477.out;obtain ⟨_,_,_,_⟩:=s2 BK477
       obtain ⟨Ao18,co18,eo18⟩:=Kd.R_slice HO_478001.out
       subst eo18
       obtain ⟨_,_,_,_⟩:=s2 BK476;go_wp2
       refine bodyPost_ret (results_cell_row rfl _ _ gb476 89 #[.int .i64 x478000_1,.slice Ao18 x478001_2.length co18] (0,0) _ rfl (bkp BK476) Tryz.underlying89 rfl (by kernel_rfl)) rfl ?_
       exact ⟨_,by first | rfl | (simp [errW_none,errW_some] <;> rfl) | (simp [*,errW_none,errW_some] <;> rfl),by (with_reducible repeat (first | apply Kd.R_alloc | apply Kd.R_drewN | apply Kd.R_drew));exact Kd.R_mono (Kd.R_far (p:=⟨gb476,1,none⟩) (Kd.R_far (p:=⟨gb476,0,none⟩) (Kd.R_types HO_478001.out BK476.out (by decide)) (fun _ hk=>hk.2) (.int .i64 x478000_1)) (fun _ hk=>hk.2) (.slice Ao18 x478001_2.length co18)) (fun _ hk=>trivial),by repeat (first | (with_reducible first | exact HB.out | apply below_alloc | apply pw_below_drewN | apply below_drew1 | refine below_set ?_ GE476.out | refine below_set ?_ GE477.out) | exact HB.out)⟩
     ·rw [if_neg c10] at H
      have c10b0:(x0_2 == 0)=false:=beq_eq_false_iff_ne.mpr c10
      have c10b1:(x0_2 != 0)=true:=bne_iff_ne.mpr c10
      revert H;refine itc (fun c20b0 H=>?_) fun c20b0 H=>?_
      ·revert H;refine itl fun LMc21 H=>?_
       generalize hy478:x478001_2 ++ [wrap64 (-(Int.tmod x0_2 10))]=y478 at H;have Ny478:=am hy478.symm;clear hy478;have H':=am H;clear H;have hnb22:=NB477_476.out;have hnc22:=NB476_477.out;obtain ⟨_,_,_,_⟩:=s2 BK477
       go_wp2_with (first | ((with_reducible refine gate_builtin (b:=.append) (xs:=#[.tmp 18,.tmp 20]) rfl ?_);at_builtin;refine Kd.R_append (Kd.int .i64) (w0:=w) w.heap.size rfl (.tmp 18) (.tmp 20) 42 3 (.int .i64 0) 8 rfl Tryz.underlying42 info3 rfl (by decide) (by omega) u478001 x478001_2 (wrap64 (-(Int.tmod x0_2 10))) [.int .i64 (wrap64 (-(Int.tmod x0_2 10)))] (fun _=>True) (fun _=>False) rfl rfl ?aP (fun _ hk=>hk.elim) ?aF ?aO ?aB ?aS ?aL ?_;(case aP=>exact rfl);(case aB=>exact (bl HB));(case aF=>exact (fun _ _=>trivial));(case aO=>exact (kr HO_478001));(case aS=>exact (below_size (bl HB)));(case aL=>have:=LMc21.out;omega);intro v479 w24 ho hb hg hat;rw [← Ny478.out] at ho;replace BK476:=am (blk_grown (bk BK476) hg (Kd.R_ne HO_478001.out BK476.out (by decide)));replace BK477:=am (blk_grown (bk BK477) hg (Kd.R_ne HO_478001.out BK477.out (by decide)));replace HB:=am hb;have HO480:=am ho;clear HO_478001;clear ho hb hg hat;obtain ⟨Ao25,co25,rfl⟩:=Kd.R_slice HO480.out;obtain ⟨_,_,_,_⟩:=s2 BK477))
       go_roundg k2
       case measure=>have:=HJ1.out;have:=HK2.out;omega
       case rel=>exact ⟨_,_,_,rs,H',⟨by have:=HJ1.out;have:=HK2.out;omega⟩,⟨by (with_reducible repeat (first | apply Kd.R_alloc | apply Kd.R_drewN | apply Kd.R_drew));exact Kd.R_mono (Kd.R_far (p:=⟨gb477,1,none⟩) (Kd.R_types HO480.out BK477.out (by decide)) (fun _ hk=>hk.2) (.slice Ao25 y478.length co25)) (fun _ hk=>trivial)⟩,⟨by (with_reducible repeat (first | refine blk_drewN ?_ _ | refine blk_drew ?_ | refine blk_alloc ?_ _));refine blk_far ?_ NB476_477.out _;(with_reducible repeat (first | refine blk_drewN ?_ _ | refine blk_drew ?_ | refine blk_alloc ?_ _));exact BK476.out⟩,⟨by (with_reducible repeat (first | refine blk_drewN ?_ _ | refine blk_drew ?_ | refine blk_alloc ?_ _));refine blk_put (cs:=#[.int .i64 x478000_1,u478001]) ?_ 1 _ rfl;(with_reducible repeat (first | refine blk_drewN ?_ _ | refine blk_drew ?_ | refine blk_alloc ?_ _));exact BK477.out⟩,⟨bl HB⟩⟩
      ·revert H;refine itl fun LMc27 H=>?_
       generalize hy481:x478001_2 ++ [Int.tmod x0_2 10]=y481 at H;have Ny481:=am hy481.symm;clear hy481;have H':=am H;clear H;have hnb28:=NB477_476.out;have hnc28:=NB476_477.out;obtain ⟨_,_,_,_⟩:=s2 BK477
       go_wp2_with (first | ((with_reducible refine gate_builtin (b:=.append) (xs:=#[.tmp 18,.tmp 20]) rfl ?_);at_builtin;refine Kd.R_append (Kd.int .i64) (w0:=w) w.heap.size rfl (.tmp 18) (.tmp 20) 42 3 (.int .i64 0) 8 rfl Tryz.underlying42 info3 rfl (by decide) (by omega) u478001 x478001_2 (Int.tmod x0_2 10) [.int .i64 (Int.tmod x0_2 10)] (fun _=>True) (fun _=>False) rfl rfl ?aP (fun _ hk=>hk.elim) ?aF ?aO ?aB ?aS ?aL ?_;(case aP=>exact rfl);(case aB=>exact (bl HB));(case aF=>exact (fun _ _=>trivial));(case aO=>exact (kr HO_478001));(case aS=>exact (below_size (bl HB)));(case aL=>have:=LMc27.out;omega);intro v482 w30 ho hb hg hat;rw [← Ny481.out] at ho;replace BK476:=am (blk_grown (bk BK476) hg (Kd.R_ne HO_478001.out BK476.out (by decide)));replace BK477:=am (blk_grown (bk BK477) hg (Kd.R_ne HO_478001.out BK477.out (by decide)));replace HB:=am hb;have HO483:=am ho;clear HO_478001;clear ho hb hg hat;obtain ⟨Ao31,co31,rfl⟩:=Kd.R_slice HO483.out;obtain ⟨_,_,_,_⟩:=s2 BK477))
       go_roundg k2
       case measure=>have:=HJ1.out;have:=HK2.out;omega
       case rel=>exact ⟨_,_,_,rs,H',⟨by have:=HJ1.out;have:=HK2.out;omega⟩,⟨by (with_reducible repeat (first | apply Kd.R_alloc | apply Kd.R_drewN | apply Kd.R_drew));exact Kd.R_mono (Kd.R_far (p:=⟨gb477,1,none⟩) (Kd.R_types HO483.out BK477.out (by decide)) (fun _ hk=>hk.2) (.slice Ao31 y481.length co31)) (fun _ hk=>trivial)⟩,⟨by (with_reducible repeat (first | refine blk_drewN ?_ _ | refine blk_drew ?_ | refine blk_alloc ?_ _));refine blk_far ?_ NB476_477.out _;(with_reducible repeat (first | refine blk_drewN ?_ _ | refine blk_drew ?_ | refine blk_alloc ?_ _));exact BK476.out⟩,⟨by (with_reducible repeat (first | refine blk_drewN ?_ _ | refine blk_drew ?_ | refine blk_alloc ?_ _));refine blk_put (cs:=#[.int .i64 x478000_1,u478001]) ?_ 1 _ rfl;(with_reducible repeat (first | refine blk_drewN ?_ _ | refine blk_drew ?_ | refine blk_alloc ?_ _));exact BK477.out⟩,⟨bl HB⟩⟩
end Go.Proofs.YtbcpnejdbookkaaGreat.Print
namespace Go.Proofs.YtbcpnejdbookkaaGreat.Print
open Go.RowKit Go.Proofs.YtbcpnejdbookkaaGreatW.PrintWords Go.Proofs.YtbcpnejdbookkaaGreatW.PrintLast Go.Proofs.YtbcpnejdbookkaaGreatW.PrintMore
attribute [local go_sem] max2_int min2_int max_two min_two max_three min_three max_four min_four
def times16.l2 (k:Nat) (ps:Int) (pd:List Int):Nat→Int→List Int→Option (Int×List Int)
 | 0,s,d=>some (s,d)
 | m+1,s,d=>(bocageref01_Plus.f k s d ps pd).bind fun t=>times16.l2 k ps pd m t.1 t.2
def times16.l0 (k:Nat):Nat→Int→Int→List Int→Int→List Int→Option (Int×List Int)
 | 0,_,_,_,_,_=>none
 | f+1,n,s,d,ps,pd=>if 0 < n then (if pd.length < 1000000 then (times16.l2 k ps pd (n % 10).toNat s d).bind fun t=>times16.l0 k f (n / 10) t.1 t.2 ps (if ps≠0 then 0 :: pd else pd) else none) else some (s,d)
theorem F9:Array.replicate 9 false=#[false,false,false,false,false,false,false,false,false]:=rfl
def times16.T8:Bool×List (List Nat×List Nat):=(true,[([],[]),([0],[0]),([],[]),([],[]),([3],[3]),([2,4],[2,4]),([1,5],[1,5]),([],[]),([7,6,5,0,1,2,3,4,5,6,7],[6,7])])
def times16.B8:List Nat:=[0,1,0,0,8,28,63,0,255]
theorem times16.tab8:rtab .any (opsOf Tryz.f63 8)=times16.T8:=by kernel_rfl
theorem times16.bits8:waitsOk times16.T8.2 times16.B8=true:=by kernel_rfl
theorem wrap_u64_small (n:Int) (h0:0≤n) (h1:n < 18446744073709551616):IntKind.u64.wrap n=n:=by
 rw [IntKind.wrap_u64];omega
def bocageref16_times.f (k:Nat) (v n:Int):Option (Int×List Int):=(bocageref01_Of.f k v).bind fun p=>times16.l0 k 30 n 0 [] p.1 p.2
theorem bocageref16_times.calls (k:Nat) (v n r1:Int) (r2:List Int) (w:World) (hn0:0≤n) (hn1:n < 18446744073709551616) (h:bocageref16_times.f k v n=some (r1,r2)) :
    Calls Tryz.prog 63 #[.int .i64 v,.int .u64 n] w fun e w'=>∃ v1_:Value,e=.returned (.agg #[.int .i64 r1,v1_])∧Kd.V (Kd.int .i64) 3 w' w.heap.size (fun q=>w.heap.size≤q) v1_ r2∧Below w.heap.size w w':=by
  have hu89:=Tryz.underlying89
  obtain ⟨⟨p1,p2⟩,e1,h⟩:=Option.bind_eq_some_iff.1 h
  have E1:=Aside0.mk e1
  have E2:=Aside0.mk h
  have HN:=Aside0.mk (And.intro hn0 hn1)
  clear e1 h hn0 hn1
  go_enter Tryz.func63,Tryz.ntmps63
  go_upto_region 2 with (first | ((with_reducible refine gate_dst (N:=4) rfl ?_);refine box_event ?hg (N:=4) ?hd (cs:=#[.int .i64 0,.slice none 0 0]) (t:=89) ?hr ?_;(case hd=>rfl);(case hg=>rfl);(case hr=>first | (go_simp;done) | (go_simp;rfl));intro g4 hgb w1 hbox hb;have B4:=Aside0.mk hbox;have G4:=Aside0.mk (show w.heap.size≤g4 by rw [hgb];exact Nat.le_refl _);have HB:=Aside0.mk hb;clear hbox hb hgb) | ((with_reducible refine gate_dst (N:=5) rfl ?_);refine box_event ?hg (N:=5) ?hd (cs:=#[.int .i64 0,.slice none 0 0]) (t:=89) ?hr ?_;(case hd=>rfl);(case hg=>rfl);(case hr=>first | (go_simp;done) | (go_simp;rfl));intro g5 hgb w2 hbox hb;have B5:=Aside0.mk hbox;have N45:=Aside0.mk (show g4≠g5 by rw [hgb];exact Nat.ne_of_lt (blk_lt B4.out));have G5:=Aside0.mk (show w.heap.size≤g5 by rw [hgb];exact below_size HB.out);replace B4:=Aside0.mk (blk_below B4.out hb);replace HB:=Aside0.mk (below_step HB.out hb);clear hbox hb hgb))
  go_upto_region 3 with (first | (go_at_call 64;(with_reducible refine (bocageref01_Of.calls k v p1 p2 w2 E1.out).mono ?_);rintro e w3 ⟨v1,rfl,ho,hb⟩;obtain ⟨Ap,cp,rfl⟩:=Kd.R_slice ho;have HP:=Aside0.mk ho;have L5:=Aside0.mk (blk_lt B5.out);have L4:=Aside0.mk (blk_lt B4.out);have LW:=Aside0.mk (below_size HB.out);replace B4:=Aside0.mk (blk_below B4.out hb);replace B5:=Aside0.mk (blk_below B5.out hb);replace HB:=Aside0.mk (below_step HB.out hb);clear ho hb) | ((with_reducible refine gate_dst (N:=6) rfl ?_);refine box_event ?hg (N:=6) ?hd (cs:=#[.int .i64 0,.slice none 0 0]) (t:=89) ?hr ?_;(case hd=>rfl);(case hg=>rfl);(case hr=>first | (go_simp;done) | (go_simp;rfl));intro g6 hgb w4 hbox hb;have B6:=Aside0.mk hbox;have N46:=Aside0.mk (show g4≠g6 by rw [hgb];exact Nat.ne_of_lt (blk_lt B4.out));have N56:=Aside0.mk (show g5≠g6 by rw [hgb];exact Nat.ne_of_lt (blk_lt B5.out));have E6:=Aside0.mk hgb;have G6:=Aside0.mk (show w.heap.size≤g6 by rw [hgb];exact below_size HB.out);have z0:=(blk_cell hbox 0).trans rfl;have z1:=(blk_cell hbox 1).trans rfl;have f0:=blk_frozen hbox 0;have f1:=blk_frozen hbox 1;have HQ:=Aside0.mk hb;replace B4:=Aside0.mk (blk_below B4.out hb);replace B5:=Aside0.mk (blk_below B5.out hb);replace HB:=Aside0.mk (below_step HB.out hb);clear hbox hb hgb))
  clear z0 z1 f0 f1
  obtain ⟨SS,hSS⟩:∃ SS:Nat→Prop,SS=fun q=>w.heap.size≤q∧q≠g4∧q≠g5∧q≠g6:=⟨_,rfl⟩
  have SI:Aside0 (∀ q,w.heap.size≤q→q≠g4→q≠g5→q≠g6→SS q):=⟨fun q h1 h2 h3 h4=>by rw [hSS];exact ⟨h1,h2,h3,h4⟩⟩
  have SE:Aside0 (∀ q,SS q→w.heap.size≤q∧q≠g4∧q≠g5∧q≠g6):=⟨fun q h=>by rw [hSS] at h;exact h⟩
  clear hSS
  have VP:Aside0 (Kd.V (Kd.int .i64) 3 w4 w.heap.size SS (.slice Ap p2.length cp) p2):=⟨Kd.V_below (Kd.V_mono (Kd.R_V (Kd.R_bound HP.out)) (fun q hq=>by
    have h1:=hq.2.1
    have h2:=hq.2.2.1
    have h4:=L4.out
    have h5:=L5.out
    have h6:=E6.out
    have h7:=LW.out
    exact SI.out q (by omega) (by omega) (by omega) (by omega))) HQ.out⟩
  clear HP HQ L4 L5 LW
  replace B6:=Aside0.mk (blk_put (blk_put B6.out 0 (.int .i64 p1) rfl) 1 (.slice Ap p2.length cp) rfl)
  replace B4:=Aside0.mk (blk_far (blk_far B4.out (p:=⟨g6,0,none⟩) N46.out (.int .i64 p1)) (p:=⟨g6,1,none⟩) N46.out (.slice Ap p2.length cp))
  replace B5:=Aside0.mk (blk_far (blk_far B5.out (p:=⟨g6,0,none⟩) N56.out (.int .i64 p1)) (p:=⟨g6,1,none⟩) N56.out (.slice Ap p2.length cp))
  replace HB:=Aside0.mk (show Below w.heap.size w ((w4.setCell ⟨g6,0,none⟩ (.int .i64 p1)).setCell ⟨g6,1,none⟩ (.slice Ap p2.length cp)) from below_set (below_set HB.out G6.out) G6.out)
  replace VP:=Aside0.mk (Kd.V_far (Kd.V_far VP.out (p:=⟨g6,0,none⟩) (fun q hq=>(SE.out q hq).2.2.2) (.int .i64 p1)) (p:=⟨g6,1,none⟩) (fun q hq=>(SE.out q hq).2.2.2) (.slice Ap p2.length cp))
  clear E6
  generalize ((w4.setCell ⟨g6,0,none⟩ (.int .i64 p1)).setCell ⟨g6,1,none⟩ (.slice Ap p2.length cp))=w5 at *
  go_loopg [1] 30 (fun kq v1 w'=>∃ (m so sp:Int) (dO dP:List Int) (Ao Aq:Option Addr) (co cq:Nat),v1=.int .u64 m∧Aside0 (0≤m∧m < 18446744073709551616)∧Aside0 (times16.l0 k kq m so dO sp dP=some (r1,r2))∧Aside0 (w'.heap[g4]? = some (.cells #[.int .i64 0,.slice none 0 0] 89 (0,0)))∧Aside0 (w'.heap[g5]? = some (.cells #[.int .i64 so,.slice Ao dO.length co] 89 (0,0)))∧Aside0 (w'.heap[g6]? = some (.cells #[.int .i64 sp,.slice Aq dP.length cq] 89 (0,0)))∧Aside0 (Kd.V (Kd.int .i64) 3 w' w.heap.size SS (.slice Ao dO.length co) dO)∧Aside0 (Kd.V (Kd.int .i64) 3 w' w.heap.size SS (.slice Aq dP.length cq) dP)∧Aside0 (Below w.heap.size w w'))
  case atStart=>exact ⟨n,0,p1,[],p2,none,Ap,0,cp,rfl,HN,E2,B4,B5,B6,⟨Kd.V_nil _ _ _ _ _⟩,VP,HB⟩
  case round =>
    clear B4 B5 B6 VP HB HN E2
    obtain ⟨m,so,sp,dO,dP,Ao,Aq,co,cq,rfl,HM,HA,B4,B5,B6,VO,VP,HB⟩:=hrel
    cases gk with
    | zero=>exact absurd HA.out (by simp [times16.l0])
    | succ k1 =>
      by_cases hm:0 < m
      · have bm : decide (0 < m)=true:=decide_eq_true hm
        have h1:=HA.out
        rw [times16.l0,if_pos hm] at h1
        by_cases hl:dP.length < 1000000
        case neg=>rw [if_neg hl] at h1;cases h1
        rw [if_pos hl] at h1
        obtain ⟨⟨s2,d2⟩,e2,h1⟩:=Option.bind_eq_some_iff.1 h1
        obtain ⟨g,hg⟩:∃ g:Nat,(m % 10).toNat=g:=⟨_,rfl⟩
        rw [hg] at e2
        have HG:=Aside0.mk (show (g:Int)=m % 10 by omega)
        have H1:=Aside0.mk h1
        have H2:=Aside0.mk e2
        have HL:=Aside0.mk hl
        clear HA h1 e2 hg hl
        go_upto_region 5 with (fail)
        go_loopg [7] (g+1) (fun kq v7 w'=>∃ (i:Int) (j:Nat) (s:Int) (d:List Int) (A:Option Addr) (c:Nat),v7=.int .u64 i∧Aside0 (i=(j:Int))∧Aside0 (kq+j=g+1)∧Aside0 (j≤g)∧Aside0 (times16.l2 k sp dP (g - j) s d=some (s2,d2))∧Aside0 (w'.heap[g4]? = some (.cells #[.int .i64 0,.slice none 0 0] 89 (0,0)))∧Aside0 (w'.heap[g5]? = some (.cells #[.int .i64 s,.slice A d.length c] 89 (0,0)))∧Aside0 (w'.heap[g6]? = some (.cells #[.int .i64 sp,.slice Aq dP.length cq] 89 (0,0)))∧Aside0 (Kd.V (Kd.int .i64) 3 w' w.heap.size SS (.slice A d.length c) d)∧Aside0 (Kd.V (Kd.int .i64) 3 w' w.heap.size SS (.slice Aq dP.length cq) dP)∧Aside0 (Below w.heap.size w w'))
        case atStart=>exact ⟨0,0,so,dO,Ao,co,rfl,⟨rfl⟩,⟨rfl⟩,⟨Nat.zero_le _⟩,H2,B4,B5,B6,VO,VP,HB⟩
        case round =>
          clear B4 B5 B6 VO VP HB H2
          obtain ⟨i,j,s,d,A,c,rfl,HI,HQ,HJ,HA2,B4,B5,B6,VO,VP,HB⟩:=hrel
          by_cases hj:j < g
          · have bi:decide (i < m % 10)=true:=decide_eq_true (by have:=HG.out;have:=HI.out;omega)
            have h2:=HA2.out
            rw [show g - j=(g - (j+1))+1 by omega,times16.l2] at h2
            obtain ⟨⟨s3,d3⟩,e3,h2⟩:=Option.bind_eq_some_iff.1 h2
            have E3:=Aside0.mk e3
            have HA3:=Aside0.mk h2
            clear HA2 h2 e3
            have c0:=(blk_cell B5.out 0).trans rfl
            have c1:=(blk_cell B5.out 1).trans rfl
            have d0:=(blk_cell B6.out 0).trans rfl
            have d1:=(blk_cell B6.out 1).trans rfl
            have VO1:Aside0 (Kd.V (Kd.int .i64) 3 wr wr.heap.size (fun q=>SS q) (.slice A d.length c) d):=⟨VO.out⟩
            have VP1:Aside0 (Kd.V (Kd.int .i64) 3 wr wr.heap.size (fun q=>SS q) (.slice Aq dP.length cq) dP):=⟨VP.out⟩
            go_wp2_with (first | (go_at_call 62;(with_reducible refine (bocageref01_Plus.calls k s SS A c d sp SS Aq cq dP s3 d3 wr VO1.out VP1.out E3.out).mono ?_);rintro e w6 ⟨v3,rfl,ho,hb⟩;obtain ⟨A3,c3,rfl⟩:=Kd.V_slice ho;have L4:=blk_lt B4.out;have L5:=blk_lt B5.out;have L6:=blk_lt B6.out;have LW:=below_size HB.out;have VN:Aside0 (Kd.V (Kd.int .i64) 3 w6 w.heap.size SS (.slice A3 d3.length c3) d3):=⟨Kd.V_mono ho (fun q hq=>hq.elim (fun h=>h.elim id id) (fun h=>SI.out q (by omega) (by omega) (by omega) (by omega)))⟩;replace VP:=Aside0.mk (Kd.V_below VP.out hb);replace B4:=Aside0.mk (blk_below B4.out hb);replace B5:=Aside0.mk (blk_below B5.out hb);replace B6:=Aside0.mk (blk_below B6.out hb);replace HB:=Aside0.mk (below_step HB.out hb);have x0:=(blk_cell B5.out 0).trans rfl;have x1:=(blk_cell B5.out 1).trans rfl;have y0:=blk_frozen B5.out 0;have y1:=blk_frozen B5.out 1;clear ho hb L4 L5 L6 LW VO1 VP1))
            obtain ⟨k2,rfl⟩:∃ k2,gk=k2+1:=⟨gk - 1,by have:=HQ.out;omega⟩
            have hwi:IntKind.u64.wrap (i+1)=((j+1:Nat):Int):=by
              have:=HI.out;have:=HG.out;have:=HM.out
              rw [wrap_u64_small (i+1) (by omega) (by omega)];omega
            go_roundg k2
            case measure=>omega
            case rel=>exact ⟨_,j+1,s3,d3,A3,c3,rfl,⟨hwi⟩,⟨by have:=HQ.out;omega⟩,⟨by omega⟩,HA3,⟨blk_far (blk_far B4.out (p:=⟨g5,0,none⟩) N45.out _) (p:=⟨g5,1,none⟩) N45.out _⟩,⟨blk_put (blk_put B5.out 0 _ rfl) 1 _ rfl⟩,⟨blk_far (blk_far B6.out (p:=⟨g5,0,none⟩) (Ne.symm N56.out) _) (p:=⟨g5,1,none⟩) (Ne.symm N56.out) _⟩,⟨Kd.V_far (Kd.V_far VN.out (p:=⟨g5,0,none⟩) (fun q hq=>(SE.out q hq).2.2.1) _) (p:=⟨g5,1,none⟩) (fun q hq=>(SE.out q hq).2.2.1) _⟩,⟨Kd.V_far (Kd.V_far VP.out (p:=⟨g5,0,none⟩) (fun q hq=>(SE.out q hq).2.2.1) _) (p:=⟨g5,1,none⟩) (fun q hq=>(SE.out q hq).2.2.1) _⟩,⟨below_set (below_set HB.out G5.out) G5.out⟩⟩
          · have bi:decide (i < m % 10)=false:=decide_eq_false (by have:=HG.out;have:=HI.out;omega)
            go_upto_region 8 with (fail)
            have HL9:=HL
            have c0:=(blk_cell B6.out 0).trans rfl
            have c1:=(blk_cell B6.out 1).trans rfl
            have KS8:Aside0 (∀ w':World,Below wr.heap.size wr w'→w'.cell? ⟨g6,0,none⟩=some (.int .i64 sp)∧w'.cell? ⟨g6,1,none⟩=some (.slice Aq dP.length cq)):=⟨fun w' hW=>⟨(hW.cell (World.block_lt_of_cell? _ _ c0)).trans c0,(hW.cell (World.block_lt_of_cell? _ _ c1)).trans c1⟩⟩
            clear c0 c1
            have HR:=Aside0.mk (below_drew1 (Below.refl wr.heap.size wr))
            refine st F9 [] (show Hd (fun w'=>w'.cell? ⟨g6,0,none⟩=some (.int .i64 sp)∧w'.cell? ⟨g6,1,none⟩=some (.slice Aq dP.length cq)) wr.drew from KS8.out _ HR.out) fun hHeld=>?_
            refine with_tabW times16.tab8 times16.bits8 (fun HT_ HW_=>?_)
            generalize wr.drew=wa at HR hHeld ⊢
            refine pw 0 22 HT_ ?_;refine pw 3 25 HT_ ?_;refine tw2 1 23 HT_ HW_ hHeld ?_;refine tw2 4 26 HT_ HW_ hHeld ?_
            refine two_ (i:=2) (j:=7) (Ni:=some 24) (Nj:=some 8) #[true,true,true,true,true,false,false,false,false] #[true,true,false,true,true,false,false,true,false] rfl rfl rfl rfl (two_of HT_.out (by kernel_rfl)) (by decide) (by decide) (fun K hK=>?_) (fun K hK=>?_)
            · refine Kd.R_lit_step (Kd.int .i64) (w0:=wr) wr.heap.size 3 (by rfl) (N:=24) rfl (xs:=([0]:List Int)) (inner:=[.int .i64 0]) (ok:=fun _=>True) (okp:=fun _=>True) ?hr ?hp (fun _ h=>h) trivial HR.out (below_size HR.out) (by simp) ?_
              case hr=>first | (go_simp;done) | (go_simp;rfl)
              case hp=>exact Reps.one (show Kd.M (Kd.int .i64) _ _ _ 0 [.int .i64 0] from rfl) (Reps.none _ _)
              intro v24 wb ho hb hgr hown
              replace HR:=Aside0.mk hb
              have HL:=Aside0.mk ho
              clear ho hb hgr hown
              refine hK.out _ _ (KS8.out _ HR.out) (fun hHeld=>?_)
              clear hK K
              refine nrp 24 ?_
              refine two_ (i:=5) (j:=7) (Ni:=some 27) (Nj:=some 8) #[true,true,true,true,true,true,false,false,false] #[true,true,true,true,true,false,false,true,false] rfl rfl rfl rfl (two_of HT_.out (by kernel_rfl)) (by decide) (by decide) (fun K hK=>?_) (fun K hK=>?_)
              · obtain ⟨A24,c24,rfl⟩:=Kd.R_slice HL.out
                refine Kd.R_append_rows_step (Kd.int .i64) (w0:=wr) wr.heap.size (by rfl) (.tmp 24) (.tmp 26) 42 3 (.int .i64 0) 8 rfl Tryz.underlying42 info3 rfl (by decide) (by omega) (.slice A24 ([0]:List Int).length c24) [0] dP Aq dP.length cq (fun _=>True) (fun _=>False) rfl rfl HL.out ?aR (fun _ _ h=>h) (fun _ h=>h.elim) (fun _ _=>trivial) HR.out (below_size HR.out) ?aL ?_
                case aR=>exact (Kd.V_reads' (Kd.V_below VP.out HR.out)).2.2
                case aL=>have:=HL9.out;show (1+dP.length) * 8≤_;omega
                intro v27 wc ho hb hgr hat
                replace HL:=Aside0.mk ho
                replace HR:=Aside0.mk hb
                obtain ⟨A27,c27,rfl⟩:=Kd.R_slice HL.out
                clear ho hb hgr hat
                refine hK.out _ _ (KS8.out _ HR.out) (fun hHeld=>?_)
                clear hK K
                refine nrp 27 ?_
                refine pw 6 28 HT_ ?_
                refine on 7 HT_ fun K hK=>?_
                refine box_step ?hg (N:=8) ?hd (cs:=#[.int .i64 0,.slice none 0 0]) (t:=89) ?hr ?_;(case hd=>rfl);(case hg=>rfl);(case hr=>first | (go_simp;done) | (go_simp;rfl))
                intro g8 hg8 wd hbox hb
                have B8:=Aside0.mk hbox
                have G8:=Aside0.mk (show wr.heap.size≤g8 by rw [hg8];exact below_size HR.out)
                replace HL:=Aside0.mk (Kd.R_below HL.out hb)
                replace HR:=Aside0.mk (below_step HR.out hb)
                clear hbox hb hg8
                refine hK.out _ _ (KS8.out _ HR.out) (fun hHeld=>?_)
                clear hK K
                refine nrp 8 ?_
                refine on 8 HT_ fun K hK=>?_
                obtain ⟨_,_,_,_⟩:=_root_.Go.Proofs.YtbcpnejdbookkaaGreat.Print.s2 B8
                refine skip_ (w1:=?_) (by rfl) rfl ?_ ?_
                rotate_left
                · go_simp
                  rfl
                refine hK.out _ _ (KS8.out _ (below_set (below_set HR.out G8.out) G8.out)) (fun hHeld=>?_)
                clear hK K
                refine dt HT_ ?_
                have HL':Aside0 (Kd.R (Kd.int .i64) 3 wd wr.heap.size (fun _=>True) (.slice A27 (dP.length+1) c27) (0 :: dP)):=⟨HL.out⟩
                have L4:=blk_lt B4.out
                have L5:=blk_lt B5.out
                have L6:=blk_lt B6.out
                have LW:=below_size HB.out
                have VT:Aside0 (Kd.V (Kd.int .i64) 3 ((wd.setCell ⟨g8,0,none⟩ (.int .i64 sp)).setCell ⟨g8,1,none⟩ (.slice A27 (dP.length+1) c27)) w.heap.size SS (.slice A27 (dP.length+1) c27) (0 :: dP)):=⟨Kd.V_mono (Kd.V_far (Kd.V_far (Kd.R_V (Kd.R_bound (Kd.R_types HL'.out B8.out (by decide)))) (p:=⟨g8,0,none⟩) (fun q hq=>hq.1.2) _) (p:=⟨g8,1,none⟩) (fun q hq=>hq.1.2) _) (fun q hq=>by
                  have h2:=hq.2.1
                  exact SI.out q (by omega) (by omega) (by omega) (by omega))⟩
                have B8':=Aside0.mk (blk_put (blk_put B8.out 0 (.int .i64 sp) rfl) 1 (.slice A27 (dP.length+1) c27) rfl)
                replace HR:=Aside0.mk (show Below wr.heap.size wr ((wd.setCell ⟨g8,0,none⟩ (.int .i64 sp)).setCell ⟨g8,1,none⟩ (.slice A27 (dP.length+1) c27)) from below_set (below_set HR.out G8.out) G8.out)
                clear L4 L5 L6 LW B8 HL HL' hHeld HT_ HW_
                generalize ((wd.setCell ⟨g8,0,none⟩ (.int .i64 sp)).setCell ⟨g8,1,none⟩ (.slice A27 (dP.length+1) c27))=wz at *
                have B4z:=Aside0.mk (blk_below B4.out HR.out)
                have B5z:=Aside0.mk (blk_below B5.out HR.out)
                have B6z:=Aside0.mk (blk_below B6.out HR.out)
                have VOz:=Aside0.mk (Kd.V_below VO.out HR.out)
                have VPz:=Aside0.mk (Kd.V_below VP.out HR.out)
                have HBz:=Aside0.mk (below_step HB.out HR.out)
                clear B4 B5 B6 VO VP HB HR KS8
                have h2:=HA2.out
                rw [show g - j=0 by have:=HJ.out;omega,times16.l2] at h2
                simp only [Option.some.injEq,Prod.mk.injEq] at h2
                obtain ⟨rfl,rfl⟩:=h2
                have h1:=H1.out
                have y0:=(blk_cell B6z.out 0).trans rfl
                have y1:=(blk_cell B6z.out 1).trans rfl
                have y2:=blk_frozen B6z.out 0
                have y3:=blk_frozen B6z.out 1
                have x0:=(blk_cell B8'.out 0).trans rfl
                have x1:=(blk_cell B8'.out 1).trans rfl
                have hwm:IntKind.u64.wrap (m.tdiv 10)=m / 10:=by
                  have:=HM.out
                  rw [Int.tdiv_eq_ediv_of_nonneg (by omega),wrap_u64_small _ (by omega) (by omega)]
                have HM':=Aside0.mk (show 0≤IntKind.u64.wrap (m.tdiv 10)∧IntKind.u64.wrap (m.tdiv 10) < 18446744073709551616 by rw [hwm];have:=HM.out;omega)
                rw [← hwm] at h1
                clear hwm
                by_cases hs:sp=0
                · have bs:(sp != 0)=false:=bne_eq_false_iff_eq.2 hs
                  rw [if_neg (by simpa using hs)] at h1
                  have H1':=Aside0.mk h1
                  clear h1 H1
                  go_wp2
                  go_roundg k1
                  case measure=>omega
                  case rel=>exact ⟨_,_,_,_,_,_,_,_,_,rfl,HM',H1',B4z,B5z,B6z,VOz,VPz,HBz⟩
                · have bs:(sp != 0)=true:=bne_iff_ne.2 hs
                  rw [if_pos hs] at h1
                  have H1':=Aside0.mk h1
                  clear h1 H1
                  go_wp2
                  go_roundg k1
                  case measure=>omega
                  case rel=>exact ⟨_,_,_,_,0 :: dP,_,_,_,_,rfl,HM',H1',⟨blk_far (blk_far B4z.out (p:=⟨g6,0,none⟩) N46.out _) (p:=⟨g6,1,none⟩) N46.out _⟩,⟨blk_far (blk_far B5z.out (p:=⟨g6,0,none⟩) N56.out _) (p:=⟨g6,1,none⟩) N56.out _⟩,⟨blk_put (blk_put B6z.out 0 _ rfl) 1 _ rfl⟩,⟨Kd.V_far (Kd.V_far VOz.out (p:=⟨g6,0,none⟩) (fun q hq=>(SE.out q hq).2.2.2) _) (p:=⟨g6,1,none⟩) (fun q hq=>(SE.out q hq).2.2.2) _⟩,⟨Kd.V_far (Kd.V_far VT.out (p:=⟨g6,0,none⟩) (fun q hq=>(SE.out q hq).2.2.2) _) (p:=⟨g6,1,none⟩) (fun q hq=>(SE.out q hq).2.2.2) _⟩,⟨below_set (below_set HBz.out G6.out) G6.out⟩⟩
              · refine box_step ?hg (N:=8) ?hd (cs:=#[.int .i64 0,.slice none 0 0]) (t:=89) ?hr ?_;(case hd=>rfl);(case hg=>rfl);(case hr=>first | (go_simp;done) | (go_simp;rfl))
                intro g8 hg8 wc hbox hb
                have B8:=Aside0.mk hbox
                have G8:=Aside0.mk (show wr.heap.size≤g8 by rw [hg8];exact below_size HR.out)
                have F8:=Aside0.mk (show ∀ q,v24.ownBlock=some q→q < g8 from fun q hq=>by rw [hg8];exact Kd.R_lt HL.out q hq)
                replace HL:=Aside0.mk (Kd.R_below HL.out hb)
                replace HR:=Aside0.mk (below_step HR.out hb)
                clear hbox hb hg8
                refine hK.out _ _ (KS8.out _ HR.out) (fun hHeld=>?_)
                clear hK K
                refine nrp 8 ?_
                refine on 5 HT_ fun K hK=>?_
                obtain ⟨A24,c24,rfl⟩:=Kd.R_slice HL.out
                have NB:=Aside0.mk (show some g8≠(Value.slice A24 ([0]:List Int).length c24).ownBlock from fun e=>absurd (F8.out g8 e.symm) (Nat.lt_irrefl _))
                refine Kd.R_append_rows_step (Kd.int .i64) (w0:=wr) wr.heap.size (by rfl) (.tmp 24) (.tmp 26) 42 3 (.int .i64 0) 8 rfl Tryz.underlying42 info3 rfl (by decide) (by omega) (.slice A24 ([0]:List Int).length c24) [0] dP Aq dP.length cq (fun _=>True) (fun _=>False) rfl rfl HL.out ?aR (fun _ _ h=>h) (fun _ h=>h.elim) (fun _ _=>trivial) HR.out (below_size HR.out) ?aL ?_
                case aR=>exact (Kd.V_reads' (Kd.V_below VP.out HR.out)).2.2
                case aL=>have:=HL9.out;show (1+dP.length) * 8≤_;omega
                intro v27 wd ho hb hgr hat
                replace HL:=Aside0.mk ho
                replace HR:=Aside0.mk hb
                obtain ⟨A27,c27,rfl⟩:=Kd.R_slice HL.out
                replace B8:=Aside0.mk (blk_grown B8.out hgr NB.out)
                clear ho hb hgr hat NB F8
                refine hK.out _ _ (KS8.out _ HR.out) (fun hHeld=>?_)
                clear hK K
                refine nrp 27 ?_
                refine pw 6 28 HT_ ?_
                refine on 8 HT_ fun K hK=>?_
                obtain ⟨_,_,_,_⟩:=_root_.Go.Proofs.YtbcpnejdbookkaaGreat.Print.s2 B8
                refine skip_ (w1:=?_) (by rfl) rfl ?_ ?_
                rotate_left
                · go_simp
                  rfl
                refine hK.out _ _ (KS8.out _ (below_set (below_set HR.out G8.out) G8.out)) (fun hHeld=>?_)
                clear hK K
                refine dt HT_ ?_
                have HL':Aside0 (Kd.R (Kd.int .i64) 3 wd wr.heap.size (fun _=>True) (.slice A27 (dP.length+1) c27) (0 :: dP)):=⟨HL.out⟩
                have L4:=blk_lt B4.out
                have L5:=blk_lt B5.out
                have L6:=blk_lt B6.out
                have LW:=below_size HB.out
                have VT:Aside0 (Kd.V (Kd.int .i64) 3 ((wd.setCell ⟨g8,0,none⟩ (.int .i64 sp)).setCell ⟨g8,1,none⟩ (.slice A27 (dP.length+1) c27)) w.heap.size SS (.slice A27 (dP.length+1) c27) (0 :: dP)):=⟨Kd.V_mono (Kd.V_far (Kd.V_far (Kd.R_V (Kd.R_bound (Kd.R_types HL'.out B8.out (by decide)))) (p:=⟨g8,0,none⟩) (fun q hq=>hq.1.2) _) (p:=⟨g8,1,none⟩) (fun q hq=>hq.1.2) _) (fun q hq=>by
                  have h2:=hq.2.1
                  exact SI.out q (by omega) (by omega) (by omega) (by omega))⟩
                have B8':=Aside0.mk (blk_put (blk_put B8.out 0 (.int .i64 sp) rfl) 1 (.slice A27 (dP.length+1) c27) rfl)
                replace HR:=Aside0.mk (show Below wr.heap.size wr ((wd.setCell ⟨g8,0,none⟩ (.int .i64 sp)).setCell ⟨g8,1,none⟩ (.slice A27 (dP.length+1) c27)) from below_set (below_set HR.out G8.out) G8.out)
                clear L4 L5 L6 LW B8 HL HL' hHeld HT_ HW_
                generalize ((wd.setCell ⟨g8,0,none⟩ (.int .i64 sp)).setCell ⟨g8,1,none⟩ (.slice A27 (dP.length+1) c27))=wz at *
                have B4z:=Aside0.mk (blk_below B4.out HR.out)
                have B5z:=Aside0.mk (blk_below B5.out HR.out)
                have B6z:=Aside0.mk (blk_below B6.out HR.out)
                have VOz:=Aside0.mk (Kd.V_below VO.out HR.out)
                have VPz:=Aside0.mk (Kd.V_below VP.out HR.out)
                have HBz:=Aside0.mk (below_step HB.out HR.out)
                clear B4 B5 B6 VO VP HB HR KS8
                have h2:=HA2.out
                rw [show g - j=0 by have:=HJ.out;omega,times16.l2] at h2
                simp only [Option.some.injEq,Prod.mk.injEq] at h2
                obtain ⟨rfl,rfl⟩:=h2
                have h1:=H1.out
                have y0:=(blk_cell B6z.out 0).trans rfl
                have y1:=(blk_cell B6z.out 1).trans rfl
                have y2:=blk_frozen B6z.out 0
                have y3:=blk_frozen B6z.out 1
                have x0:=(blk_cell B8'.out 0).trans rfl
                have x1:=(blk_cell B8'.out 1).trans rfl
                have hwm:IntKind.u64.wrap (m.tdiv 10)=m / 10:=by
                  have:=HM.out
                  rw [Int.tdiv_eq_ediv_of_nonneg (by omega),wrap_u64_small _ (by omega) (by omega)]
                have HM':=Aside0.mk (show 0≤IntKind.u64.wrap (m.tdiv 10)∧IntKind.u64.wrap (m.tdiv 10) < 18446744073709551616 by rw [hwm];have:=HM.out;omega)
                rw [← hwm] at h1
                clear hwm
                by_cases hs:sp=0
                · have bs:(sp != 0)=false:=bne_eq_false_iff_eq.2 hs
                  rw [if_neg (by simpa using hs)] at h1
                  have H1':=Aside0.mk h1
                  clear h1 H1
                  go_wp2
                  go_roundg k1
                  case measure=>omega
                  case rel=>exact ⟨_,_,_,_,_,_,_,_,_,rfl,HM',H1',B4z,B5z,B6z,VOz,VPz,HBz⟩
                · have bs:(sp != 0)=true:=bne_iff_ne.2 hs
                  rw [if_pos hs] at h1
                  have H1':=Aside0.mk h1
                  clear h1 H1
                  go_wp2
                  go_roundg k1
                  case measure=>omega
                  case rel=>exact ⟨_,_,_,_,0 :: dP,_,_,_,_,rfl,HM',H1',⟨blk_far (blk_far B4z.out (p:=⟨g6,0,none⟩) N46.out _) (p:=⟨g6,1,none⟩) N46.out _⟩,⟨blk_far (blk_far B5z.out (p:=⟨g6,0,none⟩) N56.out _) (p:=⟨g6,1,none⟩) N56.out _⟩,⟨blk_put (blk_put B6z.out 0 _ rfl) 1 _ rfl⟩,⟨Kd.V_far (Kd.V_far VOz.out (p:=⟨g6,0,none⟩) (fun q hq=>(SE.out q hq).2.2.2) _) (p:=⟨g6,1,none⟩) (fun q hq=>(SE.out q hq).2.2.2) _⟩,⟨Kd.V_far (Kd.V_far VT.out (p:=⟨g6,0,none⟩) (fun q hq=>(SE.out q hq).2.2.2) _) (p:=⟨g6,1,none⟩) (fun q hq=>(SE.out q hq).2.2.2) _⟩,⟨below_set (below_set HBz.out G6.out) G6.out⟩⟩
            · refine box_step ?hg (N:=8) ?hd (cs:=#[.int .i64 0,.slice none 0 0]) (t:=89) ?hr ?_;(case hd=>rfl);(case hg=>rfl);(case hr=>first | (go_simp;done) | (go_simp;rfl))
              intro g8 hg8 wb hbox hb
              have B8:=Aside0.mk hbox
              have G8:=Aside0.mk (show wr.heap.size≤g8 by rw [hg8];exact below_size HR.out)
              replace HR:=Aside0.mk (below_step HR.out hb)
              clear hbox hb hg8
              refine hK.out _ _ (KS8.out _ HR.out) (fun hHeld=>?_)
              clear hK K
              refine nrp 8 ?_
              refine on 2 HT_ fun K hK=>?_
              have S8:=Aside0.mk (blk_lt B8.out)
              refine Kd.R_lit_step (Kd.int .i64) (w0:=wr) wr.heap.size 3 (by rfl) (N:=24) rfl (xs:=([0]:List Int)) (inner:=[.int .i64 0]) (ok:=fun _=>True) (okp:=fun _=>True) ?hr ?hp (fun _ h=>h) trivial HR.out (below_size HR.out) (by simp) ?_
              case hr=>first | (go_simp;done) | (go_simp;rfl)
              case hp=>exact Reps.one (show Kd.M (Kd.int .i64) _ _ _ 0 [.int .i64 0] from rfl) (Reps.none _ _)
              intro v24 wc ho hb hgr hown
              replace HR:=Aside0.mk hb
              have HL:=Aside0.mk ho
              have F8:=Aside0.mk (show ∀ q,v24.ownBlock=some q→g8 < q from fun q hq=>by obtain ⟨b,hb1,hb2⟩:=hown;rw [hb1] at hq;injection hq with hq;have:=S8.out;omega)
              replace B8:=Aside0.mk (blk_grown B8.out hgr (by simp))
              clear ho hb hgr hown
              refine hK.out _ _ (KS8.out _ HR.out) (fun hHeld=>?_)
              clear hK K
              refine nrp 24 ?_
              refine on 5 HT_ fun K hK=>?_
              obtain ⟨A24,c24,rfl⟩:=Kd.R_slice HL.out
              have NB:=Aside0.mk (show some g8≠(Value.slice A24 ([0]:List Int).length c24).ownBlock from fun e=>absurd (F8.out g8 e.symm) (Nat.lt_irrefl _))
              refine Kd.R_append_rows_step (Kd.int .i64) (w0:=wr) wr.heap.size (by rfl) (.tmp 24) (.tmp 26) 42 3 (.int .i64 0) 8 rfl Tryz.underlying42 info3 rfl (by decide) (by omega) (.slice A24 ([0]:List Int).length c24) [0] dP Aq dP.length cq (fun _=>True) (fun _=>False) rfl rfl HL.out ?aR (fun _ _ h=>h) (fun _ h=>h.elim) (fun _ _=>trivial) HR.out (below_size HR.out) ?aL ?_
              case aR=>exact (Kd.V_reads' (Kd.V_below VP.out HR.out)).2.2
              case aL=>have:=HL9.out;show (1+dP.length) * 8≤_;omega
              intro v27 wd ho hb hgr hat
              replace HL:=Aside0.mk ho
              replace HR:=Aside0.mk hb
              obtain ⟨A27,c27,rfl⟩:=Kd.R_slice HL.out
              replace B8:=Aside0.mk (blk_grown B8.out hgr NB.out)
              clear ho hb hgr hat NB F8
              refine hK.out _ _ (KS8.out _ HR.out) (fun hHeld=>?_)
              clear hK K
              refine nrp 27 ?_
              refine pw 6 28 HT_ ?_
              refine on 8 HT_ fun K hK=>?_
              obtain ⟨_,_,_,_⟩:=_root_.Go.Proofs.YtbcpnejdbookkaaGreat.Print.s2 B8
              refine skip_ (w1:=?_) (by rfl) rfl ?_ ?_
              rotate_left
              · go_simp
                rfl
              refine hK.out _ _ (KS8.out _ (below_set (below_set HR.out G8.out) G8.out)) (fun hHeld=>?_)
              clear hK K
              refine dt HT_ ?_
              have HL':Aside0 (Kd.R (Kd.int .i64) 3 wd wr.heap.size (fun _=>True) (.slice A27 (dP.length+1) c27) (0 :: dP)):=⟨HL.out⟩
              have L4:=blk_lt B4.out
              have L5:=blk_lt B5.out
              have L6:=blk_lt B6.out
              have LW:=below_size HB.out
              have VT:Aside0 (Kd.V (Kd.int .i64) 3 ((wd.setCell ⟨g8,0,none⟩ (.int .i64 sp)).setCell ⟨g8,1,none⟩ (.slice A27 (dP.length+1) c27)) w.heap.size SS (.slice A27 (dP.length+1) c27) (0 :: dP)):=⟨Kd.V_mono (Kd.V_far (Kd.V_far (Kd.R_V (Kd.R_bound (Kd.R_types HL'.out B8.out (by decide)))) (p:=⟨g8,0,none⟩) (fun q hq=>hq.1.2) _) (p:=⟨g8,1,none⟩) (fun q hq=>hq.1.2) _) (fun q hq=>by
                have h2:=hq.2.1
                exact SI.out q (by omega) (by omega) (by omega) (by omega))⟩
              have B8':=Aside0.mk (blk_put (blk_put B8.out 0 (.int .i64 sp) rfl) 1 (.slice A27 (dP.length+1) c27) rfl)
              replace HR:=Aside0.mk (show Below wr.heap.size wr ((wd.setCell ⟨g8,0,none⟩ (.int .i64 sp)).setCell ⟨g8,1,none⟩ (.slice A27 (dP.length+1) c27)) from below_set (below_set HR.out G8.out) G8.out)
              clear L4 L5 L6 LW B8 HL HL' hHeld HT_ HW_
              generalize ((wd.setCell ⟨g8,0,none⟩ (.int .i64 sp)).setCell ⟨g8,1,none⟩ (.slice A27 (dP.length+1) c27))=wz at *
              have B4z:=Aside0.mk (blk_below B4.out HR.out)
              have B5z:=Aside0.mk (blk_below B5.out HR.out)
              have B6z:=Aside0.mk (blk_below B6.out HR.out)
              have VOz:=Aside0.mk (Kd.V_below VO.out HR.out)
              have VPz:=Aside0.mk (Kd.V_below VP.out HR.out)
              have HBz:=Aside0.mk (below_step HB.out HR.out)
              clear B4 B5 B6 VO VP HB HR KS8
              have h2:=HA2.out
              rw [show g - j=0 by have:=HJ.out;omega,times16.l2] at h2
              simp only [Option.some.injEq,Prod.mk.injEq] at h2
              obtain ⟨rfl,rfl⟩:=h2
              have h1:=H1.out
              have y0:=(blk_cell B6z.out 0).trans rfl
              have y1:=(blk_cell B6z.out 1).trans rfl
              have y2:=blk_frozen B6z.out 0
              have y3:=blk_frozen B6z.out 1
              have x0:=(blk_cell B8'.out 0).trans rfl
              have x1:=(blk_cell B8'.out 1).trans rfl
              have hwm:IntKind.u64.wrap (m.tdiv 10)=m / 10:=by
                have:=HM.out
                rw [Int.tdiv_eq_ediv_of_nonneg (by omega),wrap_u64_small _ (by omega) (by omega)]
              have HM':=Aside0.mk (show 0≤IntKind.u64.wrap (m.tdiv 10)∧IntKind.u64.wrap (m.tdiv 10) < 18446744073709551616 by rw [hwm];have:=HM.out;omega)
              rw [← hwm] at h1
              clear hwm
              by_cases hs:sp=0
              · have bs:(sp != 0)=false:=bne_eq_false_iff_eq.2 hs
                rw [if_neg (by simpa using hs)] at h1
                have H1':=Aside0.mk h1
                clear h1 H1
                go_wp2
                go_roundg k1
                case measure=>omega
                case rel=>exact ⟨_,_,_,_,_,_,_,_,_,rfl,HM',H1',B4z,B5z,B6z,VOz,VPz,HBz⟩
              · have bs:(sp != 0)=true:=bne_iff_ne.2 hs
                rw [if_pos hs] at h1
                have H1':=Aside0.mk h1
                clear h1 H1
                go_wp2
                go_roundg k1
                case measure=>omega
                case rel=>exact ⟨_,_,_,_,0 :: dP,_,_,_,_,rfl,HM',H1',⟨blk_far (blk_far B4z.out (p:=⟨g6,0,none⟩) N46.out _) (p:=⟨g6,1,none⟩) N46.out _⟩,⟨blk_far (blk_far B5z.out (p:=⟨g6,0,none⟩) N56.out _) (p:=⟨g6,1,none⟩) N56.out _⟩,⟨blk_put (blk_put B6z.out 0 _ rfl) 1 _ rfl⟩,⟨Kd.V_far (Kd.V_far VOz.out (p:=⟨g6,0,none⟩) (fun q hq=>(SE.out q hq).2.2.2) _) (p:=⟨g6,1,none⟩) (fun q hq=>(SE.out q hq).2.2.2) _⟩,⟨Kd.V_far (Kd.V_far VT.out (p:=⟨g6,0,none⟩) (fun q hq=>(SE.out q hq).2.2.2) _) (p:=⟨g6,1,none⟩) (fun q hq=>(SE.out q hq).2.2.2) _⟩,⟨below_set (below_set HBz.out G6.out) G6.out⟩⟩
      · have bm:decide (0 < m)=false:=decide_eq_false hm
        have h1:=HA.out
        rw [times16.l0,if_neg hm] at h1
        simp only [Option.some.injEq,Prod.mk.injEq] at h1
        obtain ⟨rfl,rfl⟩:=h1
        have c0:=(blk_cell B5.out 0).trans rfl
        have c1:=(blk_cell B5.out 1).trans rfl
        have d0:=(blk_cell B4.out 0).trans rfl
        have d1:=(blk_cell B4.out 1).trans rfl
        have q0:=blk_frozen B4.out 0
        have q1:=blk_frozen B4.out 1
        go_wp2
        refine bodyPost_ret (results_cell_row rfl _ _ g4 89 #[.int .i64 so,.slice Ao dO.length co] (0,0) _ rfl (blk_put (blk_put B4.out 0 _ rfl) 1 _ rfl) Tryz.underlying89 rfl (by kernel_rfl)) rfl ?_
        exact ⟨_,rfl,Kd.V_mono (Kd.V_far (Kd.V_far VO.out (p:=⟨g4,0,none⟩) (fun q hq=>(SE.out q hq).2.1) _) (p:=⟨g4,1,none⟩) (fun q hq=>(SE.out q hq).2.1) _) (fun q hq=>(SE.out q hq).1),below_set (below_set HB.out G4.out) G4.out⟩
end Go.Proofs.YtbcpnejdbookkaaGreat.Print
namespace Go.Proofs.YtbcpnejdbookkaaGreat.Print
theorem F4:Array.replicate 4 false=#[false,false,false,false]:=rfl
theorem F8:Array.replicate 8 false=#[false,false,false,false,false,false,false,false]:=rfl
end Go.Proofs.YtbcpnejdbookkaaGreat.Print
namespace Go.Proofs.YtbcpnejdbookkaaGreat.Print
open Go.RowKit Go.Proofs.YtbcpnejdbookkaaGreatW.PrintWords Go.Proofs.YtbcpnejdbookkaaGreatW.PrintLast Go.Proofs.YtbcpnejdbookkaaGreatW.PrintMore
attribute [local go_sem] max2_int min2_int max_two min_two max_three min_three max_four min_four   -- for this text's walks alone
def bocageref01_ends.f (a0:Int):Option (List Int):=(some (([7,0,8,5,7,7,4,5,8,6,3,0,2,7,3,3,2,2,9]:List Int):List Int)).bind fun y484=>(if a0 < 0 then (if 0 < (y484.length:Int) then (some (y484.set (0:Int).toNat 8)) else (none)) else (some y484))
theorem bocageref01_ends.calls (a0:Int) (r:List Int) (w:World) (h:bocageref01_ends.f a0=some r) :
 Calls Tryz.prog 98 #[.int .i64 a0] w fun e w'=>∃ v0_:Value,e=.returned (v0_)∧Kd.R (Kd.int .i64) 3 w' w.heap.size (fun _=>True) v0_ r∧Below w.heap.size w w':=by
 have HB:=am (Below.refl w.heap.size w)
 unfold bocageref01_ends.f at h;have H:=h;clear h;revert H;refine bns fun y484 Ny484 H=>?_
 revert H;refine itc (fun c2b0 H=>?_) fun c2b0 H=>?_
 ·by_cases c3:0 < (y484.length:Int)
  ·rw [if_pos c3] at H
   have c3b0:decide (0 < (y484.length:Int))=true:=decide_eq_true c3
   have c3b1:decide (0 < y484.length)=true:=decide_eq_true (by omega)
   clear c3;generalize hy487:y484.set (0:Int).toNat 8=y487 at H;have Ny487:=am hy487.symm;clear hy487;obtain rfl:=Option.some.inj H;go_enter Tryz.func98,Tryz.ntmps98
   go_wp2_with (first | ((with_reducible refine gate_dst (N:=4) rfl ?_);refine Kd.R_lit (Kd.int .i64) _ 3 ?hg (N:=4) ?hd (xs:=([7,0,8,5,7,7,4,5,8,6,3,0,2,7,3,3,2,2,9]:List Int)) (inner:=[.int .i64 7,.int .i64 0,.int .i64 8,.int .i64 5,.int .i64 7,.int .i64 7,.int .i64 4,.int .i64 5,.int .i64 8,.int .i64 6,.int .i64 3,.int .i64 0,.int .i64 2,.int .i64 7,.int .i64 3,.int .i64 3,.int .i64 2,.int .i64 2,.int .i64 9]) (ok:=fun _=>True) (okp:=fun _=>True) ?hr ?hp (fun _ hk=>hk) trivial (Below.refl _ _) (Nat.le_refl _) (by simp) ?_;(case hd=>rfl);(case hg=>rfl);(case hr=>first | (go_simp;done) | (go_simp;rfl));(case hp=>exact (Reps.one (show Kd.M (Kd.int .i64) _ _ _ 7 [.int .i64 7] from rfl) (Reps.one (show Kd.M (Kd.int .i64) _ _ _ 0 [.int .i64 0] from rfl) (Reps.one (show Kd.M (Kd.int .i64) _ _ _ 8 [.int .i64 8] from rfl) (Reps.one (show Kd.M (Kd.int .i64) _ _ _ 5 [.int .i64 5] from rfl) (Reps.one (show Kd.M (Kd.int .i64) _ _ _ 7 [.int .i64 7] from rfl) (Reps.one (show Kd.M (Kd.int .i64) _ _ _ 7 [.int .i64 7] from rfl) (Reps.one (show Kd.M (Kd.int .i64) _ _ _ 4 [.int .i64 4] from rfl) (Reps.one (show Kd.M (Kd.int .i64) _ _ _ 5 [.int .i64 5] from rfl) (Reps.one (show Kd.M (Kd.int .i64) _ _ _ 8 [.int .i64 8] from rfl) (Reps.one (show Kd.M (Kd.int .i64) _ _ _ 6 [.int .i64 6] from rfl) (Reps.one (show Kd.M (Kd.int .i64) _ _ _ 3 [.int .i64 3] from rfl) (Reps.one (show Kd.M (Kd.int .i64) _ _ _ 0 [.int .i64 0] from rfl) (Reps.one (show Kd.M (Kd.int .i64) _ _ _ 2 [.int .i64 2] from rfl) (Reps.one (show Kd.M (Kd.int .i64) _ _ _ 7 [.int .i64 7] from rfl) (Reps.one (show Kd.M (Kd.int .i64) _ _ _ 3 [.int .i64 3] from rfl) (Reps.one (show Kd.M (Kd.int .i64) _ _ _ 3 [.int .i64 3] from rfl) (Reps.one (show Kd.M (Kd.int .i64) _ _ _ 2 [.int .i64 2] from rfl) (Reps.one (show Kd.M (Kd.int .i64) _ _ _ 2 [.int .i64 2] from rfl) (Reps.one (show Kd.M (Kd.int .i64) _ _ _ 9 [.int .i64 9] from rfl) (Reps.none _ _)))))))))))))))))))));intro v485 w5 ho6 hb hg_ hnew_;clear hg_ hnew_;(first | rw [← Ny484.out] at ho6 | (simp only [Int.reduceToNat] at ho6;rw [← Ny484.out] at ho6));have HO486:=kw ho6 HB;replace HB:=bst HB hb;clear hb ho6;have p4:0≤(0:Int):=(by omega);have q4:(0:Int) < ((y484.length:Int):Int):=pd;have qi4:(0 < y484.length)=True:=eq_true (by omega);obtain ⟨go4,co4,eo4,gb4,gl4,cl4,HG4⟩:=Kd.R_form HO486.out (by omega);(first | cases eo4 | (injection eo4 with ea_ en_ ec_;(first | subst ea_ | (injection ea_ with ea_;subst ea_));subst ec_;clear en_));have GB4:=am gb4;have GG4:=am HG4;clear gb4 gl4 HG4;obtain ⟨hx4_0,hf4_0⟩:=Kd.R_celln 0 HO486.out (0:Int) p4 q4;(try rw [show ((0:Int)).toNat=0 from rfl] at hx4_0);(try simp only [Nat.reduceMul,Nat.zero_mul,Nat.zero_add,Nat.reduceAdd] at hx4_0);(try rw [show ((0:Int)).toNat=0 from rfl] at hf4_0);(try simp only [Nat.reduceMul,Nat.zero_mul,Nat.zero_add,Nat.reduceAdd] at hf4_0);replace p4:=eq_true p4;replace q4:=eq_true q4;obtain ⟨hy7_,hz7_⟩:=Kd.R_celln 0 HO486.out (0:Int) (by omega) pd;(try simp only [Int.reduceToNat,Int.toNat_zero,Int.toNat_ofNat,Nat.reduceMul,Nat.zero_mul,Nat.zero_add] at hy7_ hz7_);(try rw [show ((0:Int)).toNat=0 from rfl] at hy7_);(try rw [show ((0:Int)).toNat=0 from rfl] at hz7_);have HP7:=Kd.R_putg HO486.out (0:Int) 8) | ((with_reducible refine gate_store (t:=3) (p:=8) rfl ?_);refine store_event (t:=3) (p:=8) (v:=?vo_w8) (w1:=(w5.setCell ⟨go4,(0:Int).toNat,none⟩ (.int .i64 8))) ?hg ?ho ?hn ?hr ?_;(case ho=>rfl);(case hg=>rfl);(case hn=>rfl);(case hr=>first | (go_simp;done) | (go_simp;rfl));intro w8 hw;have hg:w5.grownBy w8 (some go4):=(by rw [hw];exact HP7.2);have hp_:Kd.R (Kd.int .i64) 3 w8 w.heap.size (fun _=>True) (.slice (some ⟨go4,0,none⟩) y484.length co4) y487:=(by rw [hw,Ny487.out];exact HP7.1);clear HP7;replace HO486:=am hp_;replace HB:=am ((by rw [hw];exact below_set (HB.out) GB4.out:Below w.heap.size w w8));clear hg hw hp_))
   go_ret;exact endK HO486 HB
  ·rw [if_neg c3] at H
   exact absurd H (by simp)
 ·obtain rfl:=Option.some.inj H;go_enter Tryz.func98,Tryz.ntmps98
  go_wp2_with (first | ((with_reducible refine gate_dst (N:=4) rfl ?_);refine Kd.R_lit (Kd.int .i64) _ 3 ?hg (N:=4) ?hd (xs:=([7,0,8,5,7,7,4,5,8,6,3,0,2,7,3,3,2,2,9]:List Int)) (inner:=[.int .i64 7,.int .i64 0,.int .i64 8,.int .i64 5,.int .i64 7,.int .i64 7,.int .i64 4,.int .i64 5,.int .i64 8,.int .i64 6,.int .i64 3,.int .i64 0,.int .i64 2,.int .i64 7,.int .i64 3,.int .i64 3,.int .i64 2,.int .i64 2,.int .i64 9]) (ok:=fun _=>True) (okp:=fun _=>True) ?hr ?hp (fun _ hk=>hk) trivial (Below.refl _ _) (Nat.le_refl _) (by simp) ?_;(case hd=>rfl);(case hg=>rfl);(case hr=>first | (go_simp;done) | (go_simp;rfl));(case hp=>exact (Reps.one (show Kd.M (Kd.int .i64) _ _ _ 7 [.int .i64 7] from rfl) (Reps.one (show Kd.M (Kd.int .i64) _ _ _ 0 [.int .i64 0] from rfl) (Reps.one (show Kd.M (Kd.int .i64) _ _ _ 8 [.int .i64 8] from rfl) (Reps.one (show Kd.M (Kd.int .i64) _ _ _ 5 [.int .i64 5] from rfl) (Reps.one (show Kd.M (Kd.int .i64) _ _ _ 7 [.int .i64 7] from rfl) (Reps.one (show Kd.M (Kd.int .i64) _ _ _ 7 [.int .i64 7] from rfl) (Reps.one (show Kd.M (Kd.int .i64) _ _ _ 4 [.int .i64 4] from rfl) (Reps.one (show Kd.M (Kd.int .i64) _ _ _ 5 [.int .i64 5] from rfl) (Reps.one (show Kd.M (Kd.int .i64) _ _ _ 8 [.int .i64 8] from rfl) (Reps.one (show Kd.M (Kd.int .i64) _ _ _ 6 [.int .i64 6] from rfl) (Reps.one (show Kd.M (Kd.int .i64) _ _ _ 3 [.int .i64 3] from rfl) (Reps.one (show Kd.M (Kd.int .i64) _ _ _ 0 [.int .i64 0] from rfl) (Reps.one (show Kd.M (Kd.int .i64) _ _ _ 2 [.int .i64 2] from rfl) (Reps.one (show Kd.M (Kd.int .i64) _ _ _ 7 [.int .i64 7] from rfl) (Reps.one (show Kd.M (Kd.int .i64) _ _ _ 3 [.int .i64 3] from rfl) (Reps.one (show Kd.M (Kd.int .i64) _ _ _ 3 [.int .i64 3] from rfl) (Reps.one (show Kd.M (Kd.int .i64) _ _ _ 2 [.int .i64 2] from rfl) (Reps.one (show Kd.M (Kd.int .i64) _ _ _ 2 [.int .i64 2] from rfl) (Reps.one (show Kd.M (Kd.int .i64) _ _ _ 9 [.int .i64 9] from rfl) (Reps.none _ _)))))))))))))))))))));intro v485 w9 ho10 hb hg_ hnew_;clear hg_ hnew_;(first | rw [← Ny484.out] at ho10 | (simp only [Int.reduceToNat] at ho10;rw [← Ny484.out] at ho10));have HO486:=kw ho10 HB;replace HB:=bst HB hb;clear hb ho10))
  go_ret;exact endK HO486 HB
def bocageref01_Is.f (k:Nat) (a0_0:Int) (l0_1:List Int):Option (Bool):=(bocageref01_ends.f a0_0).bind fun t489=>((bocageref01_more.f k l0_1 t489).bind fun t492=>(some (!t492)))
def bocageref01_Is.T1:Bool×List (List Nat×List Nat):=(true,[([],[]),([0],[0]),([],[]),([2],[2]),([3],[3]),([1,4,4],[1,4]),([5],[5]),([6,5,0,1,2,3,4,5,6],[6])])
def bocageref01_Is.B1:List Nat:=[0,1,0,4,12,31,63,127]
theorem bocageref01_Is.tab1:rtab .any (opsOf Tryz.f97 1)=bocageref01_Is.T1:=by kernel_rfl
theorem bocageref01_Is.bits1:waitsOk bocageref01_Is.T1.2 bocageref01_Is.B1=true:=by kernel_rfl
theorem bocageref01_Is.calls (k:Nat) (a0_0:Int) (A0_1:Option Addr) (c0_1:Nat) (l0_1:List Int) (r:Bool) (w:World) (hr0_1:Kd.C (Kd.int .i64) w A0_1 l0_1.length l0_1) (hc0_1:l0_1.length≤c0_1) (h:bocageref01_Is.f k a0_0 l0_1=some r) :
 Calls Tryz.prog 97 #[.agg #[.int .i64 a0_0,.slice A0_1 l0_1.length c0_1]] w fun e w'=>e=.returned (.bool r)∧Below w.heap.size w w':=by
 have hu89:=Tryz.underlying89;have HR0_1:=am hr0_1;have HC0_1:=am hc0_1;clear hr0_1 hc0_1
 have HB:=am (Below.refl w.heap.size w)
 unfold bocageref01_Is.f at h;have H:=h;clear h;revert H;refine bnd fun t489 A2 H=>?_
 revert H;refine bnd fun t492 A3 H=>?_
 obtain rfl:=Option.some.inj H;go_enter Tryz.func97,Tryz.ntmps97
 try go_wp2_with (first | ((with_reducible refine gate_dst (N:=1) rfl ?_);refine bxf #[.int .i64 a0_0,.slice A0_1 l0_1.length c0_1] 89 HB fun gb488 w4 BK488 GW488 HB hg hb=>?_;clear hb hg))
 replace BK488:=am (blk_drew BK488.out);replace HB:=am (below_drew1 HB.out)
 refine st F8 [] (h2 BK488) fun hHeld=>?_;refine with_tabW bocageref01_Is.tab1 bocageref01_Is.bits1 (fun HT_ HW_=>?_)
 generalize w4.drew=w5 at BK488 HB hHeld ⊢;refine pw 0 3 HT_ ?_;refine pw 2 5 HT_ ?_;refine tw2 1 4 HT_ HW_ hHeld ?_;refine tw2 3 6 HT_ HW_ hHeld ?_
 refine on 4 HT_ fun K hK=>?_
 refine gs Tryz.func98 #[.int .i64 a0_0] ?_
 with_reducible refine (bocageref01_ends.calls _ _ _ A2.out).mono ?_
 rintro e w6 ⟨v490,rfl,ho0,hb⟩;refine ⟨_,rfl,?_⟩
 have HO491:=kw ho0 HB
 replace BK488:=bkb BK488 hb;replace HB:=bst HB hb
 (try clear hb)
 (try clear hb2)
 (try clear hk)
 (try clear hi)
 (try clear ho0)
 obtain ⟨Ao7,co7,eo7⟩:=Kd.R_slice HO491.out
 (first | subst eo7 | (injection eo7 with f1_ f2_ f3_;have f4_:=f1_.symm;have f5_:=f3_.symm;clear f1_ f2_ f3_;subst f4_;subst f5_))
 refine hK.out _ _ (e2 BK488) (fun hHeld=>?_);clear hK K;refine nrp 7 ?_
 refine on 5 HT_ fun K hK=>?_
 refine gs Tryz.func96 #[.slice A0_1 l0_1.length c0_1,.slice Ao7 t489.length co7] ?_
 with_reducible refine (bocageref01_more.calls _ _ _ _ _ _ _ _ _ ?side1 ?side2 ?side3 ?side4 A3.out).mono ?_
 (case side1=>repeat (first | exact (Kd.C_below HR0_1.out HB.out) | (with_reducible refine Kd.C_alloc ?_ _) | (with_reducible refine Kd.C_drewN ?_ _) | (with_reducible refine Kd.C_drew ?_)))
 (case side2=>exact HC0_1.out)
 (case side3=>repeat (first | exact (Kd.R_reads' HO491.out).2.2 | (with_reducible refine Kd.C_alloc ?_ _) | (with_reducible refine Kd.C_drewN ?_ _) | (with_reducible refine Kd.C_drew ?_)))
 (case side4=>exact (Kd.R_reads' HO491.out).2.1)
 rintro e w' ⟨rfl,⟨nd,rfl⟩⟩;refine ⟨_,rfl,?_⟩;refine hK.out _ _ (e2 BK488) (fun hHeld=>?_);clear hK K;refine nrp 8 ?_;refine pw 6 9 HT_ ?_;refine pw 7 2 HT_ ?_
 refine dt HT_ ?_
 try go_wp2
 go_ret;exact endB HB
def bocageref01_End.l0:Nat→Int→List Int→Int→Int→Option Int
 | 0,_,_,_,_=>none
 | k+1,s,d,i,n=>if i ≥ 0 then (if i < (d.length:Int) then bocageref01_End.l0 k s d (wrap64 (i - 1)) (wrap64 (wrap64 (n * 10)+wrap64 (s * rd d i))) else none) else some n
def bocageref01_End.f (k:Nat) (a0_0:Int) (l0_1:List Int):Option Int :=
 (bocageref01_Is.f k a0_0 l0_1).bind fun t=>if t=true then bocageref01_End.l0 k a0_0 l0_1 (wrap64 ((l0_1.length:Int) - 1)) 0 else (bocageref01_ends.f a0_0).bind fun y=>bocageref01_End.l0 k a0_0 y (wrap64 ((y.length:Int) - 1)) 0
theorem bocageref01_End.calls (k:Nat) (a0_0:Int) (A0_1:Option Addr) (c0_1:Nat) (l0_1:List Int) (r:Int) (w:World) (hr0_1:Kd.C (Kd.int .i64) w A0_1 l0_1.length l0_1) (hc0_1:l0_1.length≤c0_1) (h:bocageref01_End.f k a0_0 l0_1=some r) :
 Calls Tryz.prog 65 #[.agg #[.int .i64 a0_0,.slice A0_1 l0_1.length c0_1]] w fun e w'=>e=.returned (.int .i64 r)∧Below w.heap.size w w':=by
 unfold bocageref01_End.f at h
 obtain ⟨t,hIs,h1⟩:=Option.bind_eq_some_iff.1 h
 clear h;have AIs:=am hIs;have AH:=am h1;have HR:=am hr0_1;have HC:=am hc0_1;clear h1 hIs hr0_1 hc0_1
 have hB0:=Below.refl w.heap.size w
 obtain ⟨O,hO⟩:∃ O:Obj,O=.cells #[.int .i64 a0_0,.slice A0_1 l0_1.length c0_1] 89:=⟨_,rfl⟩
 have HO:=am hO
 have hbx:Below w.heap.size w (w.alloc O):=(Below.refl w.heap.size w).alloc (Nat.le_refl _) _
 have hbk:=heap_alloc_new w O
 have hbs:(w.alloc O).heap.size=w.heap.size+1:=by simp
 have HS:=am hbs
 rw [hO] at hbx hbk
 clear hO hbs;have HBK:=am hbk;clear hbk;go_enter Tryz.func65,Tryz.ntmps65
 go_upto_if 10 with (go_at_call 97;refine (bocageref01_Is.calls k a0_0 A0_1 c0_1 l0_1 t _ (Kd.C_below HR.out hbx) HC.out AIs.out).mono ?_;rintro e w1 ⟨rfl,hb1⟩)
 have hk1:w1.heap[w.heap.size]? = some (.cells #[.int .i64 a0_0,.slice A0_1 l0_1.length c0_1] 89 (0,0)):=by
  rw [hb1.block _ (by simp)];exact HBK.out
 have hbel1:Below w.heap.size w w1:=hbx.trans (hb1.mono (by simp))
 go_cut [3] (fun v3 wc=>∃ (A:Option Addr) (c:Nat) (l:List Int),v3=.slice A l.length c∧Aside0 (Kd.C (Kd.int .i64) wc A l.length l)∧Aside0 (bocageref01_End.l0 k a0_0 l (wrap64 ((l.length:Int) - 1)) 0=some r)∧Below w.heap.size w wc∧wc.heap[w.heap.size]? = some (.cells #[.int .i64 a0_0,.slice A0_1 l0_1.length c0_1] 89 (0,0)))
 case first =>
  have hc0:w1.cell? ⟨w.heap.size,0,none⟩=some (.int .i64 a0_0):=by simp [World.cell?,hk1]
  cases t with
  | true =>
   go_wp2
   go_meet
   case rel=>exact ⟨A0_1,c0_1,l0_1,rfl,⟨Kd.C_below HR.out hbel1⟩,⟨by simpa using AH.out⟩,hbel1,hk1⟩
  | false =>
   obtain ⟨y,hy,hl⟩:∃ y,Aside0 (bocageref01_ends.f a0_0=some y)∧Aside0 (bocageref01_End.l0 k a0_0 y (wrap64 ((y.length:Int) - 1)) 0=some r):=by
    have:=AH.out
    simp only [Bool.false_eq_true,if_false] at this
    obtain ⟨y,h1,h2⟩:=Option.bind_eq_some_iff.1 this
    exact ⟨y,⟨h1⟩,⟨h2⟩⟩
   go_wp2_with (go_at_call 98;refine (bocageref01_ends.calls a0_0 y _ hy.out).mono ?_;rintro e w2 ⟨v,rfl,hR,hb2⟩)
   obtain ⟨A,c,rfl,hCl,hC⟩:=Kd.R_reads hR
   go_meet
   case rel=>exact ⟨A,c,y,rfl,⟨hC⟩,hl,hbel1.trans (hb2.mono (by have:=hbel1.size;omega)),(hb2.block _ (lt_of_block hk1)).trans hk1⟩
 case rest =>
  obtain ⟨A,c,l,rfl,hC,hl0,hbel,hk⟩:=hcut
  clear hk1 hbel1 hb1 AH AIs HR HC HBK HS hbx HO
  go_wp2_with fail
  go_loopg [4,5] k (fun kq v4 v5 w'=>∃ (n i:Int),v4=.int .i64 n∧v5=.int .i64 i∧Aside0 (bocageref01_End.l0 kq a0_0 l i n=some r)∧Drawn0 wc w')
  case atStart=>exact ⟨0,wrap64 ((l.length:Int) - 1),rfl,rs,hl0,Drawn0.refl _⟩
  case round =>
   clear hl0
   obtain ⟨n,i,rfl,rfl,HA,⟨m,rfl⟩⟩:=hrel
   cases gk with
   | zero=>exact absurd HA.out (by simp [bocageref01_End.l0])
   | succ k1 =>
    have H:=HA.out;clear HA
    simp only [bocageref01_End.l0] at H
    by_cases c3:i ≥ 0
    ·rw [if_pos c3] at H
     have c3b0:decide (0≤i)=true:=decide_eq_true c3
     by_cases c4:i < (l.length:Int)
     ·rw [if_pos c4] at H
      have H':=am H;clear H
      obtain ⟨ad,rfl,hx⟩:=Kd.at_int hC.out i c3 c4
      have hs0:wc.cell? ⟨w.heap.size,0,none⟩=some (.int .i64 a0_0):=by simp [World.cell?,hk]
      clear hC
      have c3':=eq_true c3
      have c4':=eq_true c4
      go_wp2
      go_quiet (fail)
      go_wp2
      go_roundg k1
      case rel=>exact ⟨_,_,rfl,rfl,H',⟨_,rfl⟩⟩
      case measure=>omega
     ·rw [if_neg c4] at H
      cases H
    ·rw [if_neg c3] at H
     have c3b0:decide (0≤i)=false:=decide_eq_false c3
     obtain rfl:=Option.some.inj H;go_wp2;go_ret
     exact ⟨rfl,hbel.trans ⟨rfl,rfl,rfl,by simp,fun _ _=>rfl⟩⟩
def bocageref01_Minus.f (a0_0:Int) (l0_1:List Int):Option (Int×List Int):=some (wrap64 (-a0_0),l0_1)
theorem bocageref01_Minus.calls (a0_0:Int) (P0_1_:Nat→Prop) (A0_1:Option Addr) (c0_1:Nat) (l0_1:List Int) (r1:Int) (r2:List Int) (w:World)
 (hs0_1:Kd.V (Kd.int .i64) 3 w w.heap.size (fun k_=>P0_1_ k_) (.slice A0_1 l0_1.length c0_1) l0_1) (h:bocageref01_Minus.f a0_0 l0_1=some (r1,r2)) :
 Calls Tryz.prog 79 #[.agg #[.int .i64 a0_0,.slice A0_1 l0_1.length c0_1]] w fun e w'=>∃ v1_:Value,e=.returned (.agg #[.int .i64 r1,v1_])∧Kd.V (Kd.int .i64) 3 w' w.heap.size (fun k_=>(P0_1_ k_∨w.heap.size≤k_)) v1_ r2∧Below w.heap.size w w':=by
 unfold bocageref01_Minus.f at h
 simp only [Option.some.injEq,Prod.mk.injEq] at h
 obtain ⟨rfl,rfl⟩:=h
 have HS:=am hs0_1;clear hs0_1;go_enter Tryz.func79,Tryz.ntmps79;go_wp2
 have hbel:Below w.heap.size w ((w.alloc (Obj.cells #[Value.int IntKind.i64 (wrap64 (-a0_0)),Value.slice A0_1 l0_1.length c0_1] 89)).alloc (Obj.cells #[Value.int IntKind.i64 (wrap64 (-a0_0)),Value.slice A0_1 l0_1.length c0_1] 89)) :=
  ((Below.refl _ w).alloc (Nat.le_refl _) _).alloc (by simp) _
 refine bodyPost_ret (results_cell_row rfl _ _ (w.heap.size+1) 89 #[.int .i64 (wrap64 (-a0_0)),.slice A0_1 l0_1.length c0_1] (0,0) _ rfl ?_ Tryz.underlying89 rfl (by kernel_rfl)) rfl ?_
 ·have:=blk_new (w.alloc (Obj.cells #[Value.int IntKind.i64 (wrap64 (-a0_0)),Value.slice A0_1 l0_1.length c0_1] 89)) (Obj.cells #[Value.int IntKind.i64 (wrap64 (-a0_0)),Value.slice A0_1 l0_1.length c0_1] 89)
  simpa using this
 ·exact ⟨_,rfl,Kd.V_mono (Kd.V_step HS.out (fun k _ hk=>hbel.block k hk)) (fun _ hk=>.inl hk),hbel⟩
def bocageref03_One.f (a0_0:Int) (a0_1:Int) (a0_2:Int) (a0_3:Int):Option ((List (S35))):=some (([(⟨(⟨a0_0,a0_1⟩:S33),(⟨a0_2,a0_3⟩:S33)⟩:S35)]:List (S35)))
theorem bocageref03_One.calls (a0_0:Int) (a0_1:Int) (a0_2:Int) (a0_3:Int) (r:List (S35)) (w:World) (h:bocageref03_One.f a0_0 a0_1 a0_2 a0_3=some r) :
 Calls Tryz.prog 60 #[.agg #[.int .i64 a0_0,.int .i64 a0_1,.int .i64 a0_2,.int .i64 a0_3]] w fun e w'=>∃ v0_:Value,e=.returned (v0_)∧Kd.R k35 35 w' w.heap.size (fun _=>True) v0_ r∧Below w.heap.size w w':=by
 have hu35:=Tryz.underlying35
 have HB:=am (Below.refl w.heap.size w)
 unfold bocageref03_One.f at h;have H:=h;clear h;generalize hy662:([(⟨(⟨a0_0,a0_1⟩:S33),(⟨a0_2,a0_3⟩:S33)⟩:S35)]:List (S35))=y662 at H;have Ny662:=am hy662.symm;clear hy662;obtain rfl:=Option.some.inj H;go_enter Tryz.func60,Tryz.ntmps60
 go_wp2_with (first | ((with_reducible refine gate_dst (N:=1) rfl ?_);refine bxf #[.int .i64 a0_0,.int .i64 a0_1,.int .i64 a0_2,.int .i64 a0_3] 35 HB fun gb661 w2 BK661 GW661 HB hg hb=>?_;have GE661:=GW661;clear hb hg;obtain ⟨_,_,_,_,_,_,_,_⟩:=s4 BK661) | ((with_reducible refine gate_dst (N:=4) rfl ?_);refine Kd.R_lit k35 _ 35 ?hg (N:=4) ?hd (xs:=([(⟨(⟨a0_0,a0_1⟩:S33),(⟨a0_2,a0_3⟩:S33)⟩:S35)]:List (S35))) (inner:=[.int .i64 a0_0,.int .i64 a0_1,.int .i64 a0_2,.int .i64 a0_3]) (ok:=fun _=>True) (okp:=fun _=>True) ?hr ?hp (fun _ hk=>hk) trivial (Below.refl _ _) (Nat.le_refl _) (by simp) ?_;(case hd=>rfl);(case hg=>rfl);(case hr=>first | (go_simp;done) | (go_simp;rfl));(case hp=>exact (Reps.c4 (show Kd.M k35 _ _ _ (⟨(⟨a0_0,a0_1⟩:S33),(⟨a0_2,a0_3⟩:S33)⟩:S35) [.int .i64 a0_0,.int .i64 a0_1,.int .i64 a0_2,.int .i64 a0_3] from (k35_mkM _ _ _ (⟨(⟨a0_0,a0_1⟩:S33),(⟨a0_2,a0_3⟩:S33)⟩:S35) )) (Reps.none _ _)));intro v663 w4 ho5 hb hg_ hnew_;clear hg_ hnew_;(first | rw [← Ny662.out] at ho5 | (simp only [Int.reduceToNat] at ho5;rw [← Ny662.out] at ho5));have HO664:=am (Kd.R_lower (Kd.R_newB ho5 (bk BK661)) (below_size (bl HB)));replace BK661:=bkb BK661 hb;replace HB:=bst HB hb;clear hb ho5))
 go_ret
 exact ⟨_,by first | rfl | (simp [errW_none,errW_some] <;> rfl) | (simp [*,errW_none,errW_some] <;> rfl),by (with_reducible repeat (first | apply Kd.R_alloc | apply Kd.R_drewN | apply Kd.R_drew));exact Kd.R_mono HO664.out (fun _ hk=>trivial),by repeat (first | (with_reducible first | exact HB.out | apply below_alloc | apply pw_below_drewN | apply below_drew1 | refine below_set ?_ GE661.out) | exact HB.out)⟩
def bocageref03_Sorted.l0:Nat→List (S35)→Int→Option (Bool)
 | 0,_,_=>none
 | k+1,x0,x3=>if x3 < (x0.length:Int) then (if 0≤x3 then ((bocageref03_Right.f k ((rd_T35 x0 x3).f0.f0) ((rd_T35 x0 x3).f0.f1) ((rd_T35 x0 x3).f1.f0) ((rd_T35 x0 x3).f1.f1)).bind fun t372=>(if t372=true then (if x3 > 0 then (if 0≤(wrap64 (x3 - 1)) then (if (wrap64 (x3 - 1)) < (x0.length:Int) then ((bocageref02_Less.f k ((rd_T35 x0 x3).f0.f0) ((rd_T35 x0 x3).f0.f1) ((rd_T35 x0 (wrap64 (x3 - 1))).f1.f0) ((rd_T35 x0 (wrap64 (x3 - 1))).f1.f1)).bind fun t375=>(if t375=true then (some false) else (bocageref03_Sorted.l0 k x0 (wrap64 (x3+1))))) else (none)) else (none)) else (bocageref03_Sorted.l0 k x0 (wrap64 (x3+1)))) else (some false))) else (none)) else (some true)
def bocageref03_Sorted.f (k:Nat) (l0:List (S35)):Option (Bool):=bocageref03_Sorted.l0 k l0 0
def bocageref03_Sorted.T4:Bool×List (List Nat×List Nat):=(true,[([],[]),([],[]),([0,1],[0,1]),([2],[2]),([3],[3]),([4],[4]),([5,4],[5]),([6],[6]),([7,6],[6,7]),([8,6,6],[6,8]),([9],[9]),([9],[9]),([10,11,9],[9,10,11]),([12,9],[9,12]),([13,9],[9,13]),([9],[9]),([9],[9]),([16,9],[9,16]),([15,17,9],[9,15,17]),([18,9],[9,18]),([19,9],[9,19]),([14,20,9,9],[9,14,20]),([9,21,6],[6,9,21]),([6,22],[6,22])])
def bocageref03_Sorted.B4:List Nat:=[0,0,3,7,15,31,63,127,255,511,1023,1023,4095,8191,16383,1023,1023,66559,230399,492543,1016831,2097151,4194303,8388607]
theorem bocageref03_Sorted.tab4:rtab .any (opsOf Tryz.f117 4)=bocageref03_Sorted.T4:=by kernel_rfl
theorem bocageref03_Sorted.bits4:waitsOk bocageref03_Sorted.T4.2 bocageref03_Sorted.B4=true:=by kernel_rfl
theorem bocageref03_Sorted.calls (k:Nat) (A0:Option Addr) (c0:Nat) (l0:List (S35)) (r:Bool) (w:World) (hr0:Kd.C k35 w A0 l0.length l0) (hc0:l0.length≤c0) (h:bocageref03_Sorted.f k l0=some r) :
 Calls Tryz.prog 117 #[.slice A0 l0.length c0] w fun e w'=>e=.returned (.bool r)∧Below w.heap.size w w':=by
 have hu35:=Tryz.underlying35;have hu33:=Tryz.underlying33;have HR0:=am hr0;have HC0:=am hc0;clear hr0 hc0
 have HB:=am (Below.refl w.heap.size w)
 have H:(bocageref03_Sorted.l0 k l0 0)=some r:=h
 clear h;have H':=am H;clear H;go_enter Tryz.func117,Tryz.ntmps117;go_wp2
 go_loopg [3] k (fun kq v3 w'=>∃ (x3_1:Int),v3=.int .i64 x3_1∧Aside0 (bocageref03_Sorted.l0 kq l0 x3_1=some r)∧Aside0 (kq≤k)∧Aside0 (Below w.heap.size w w'))
 case atStart=>exact ⟨_,rs,H',⟨Nat.le_refl _⟩,⟨bl HB⟩⟩
 case round =>
  clear H'
  try clear c1
  obtain ⟨x3_1,rfl,HA,HK1,HB⟩:=hrel
  cases gk with
  | zero=>exact absurd HA.out (by simp [bocageref03_Sorted.l0])
  | succ k1 =>
   have H:=HA.out;clear HA
   simp only [bocageref03_Sorted.l0] at H
   revert H;refine itc (fun c2b0 H=>?_) fun c2b0 H=>?_
   ·revert H;refine its fun c3b0 H=>?_
    revert H;refine bnd fun t372 A4 H=>?_
    cases t372;rotate_left
    ·replace H:=itt H;revert H;refine itc (fun (c6b0:decide (0 < x3_1)=true) H=>?_) fun (c6b0:decide (0 < x3_1)=false) H=>?_
     ·obtain ⟨ji7,hji7⟩:∃ j_:Int,(wrap64 (x3_1 - 1))=j_:=⟨_,rfl⟩
      (first | rw [hji7] at H | simp only [hji7] at H)
      (try rw [hji7] at A4)
      have hji7w:(IntKind.i64.wrap (x3_1 - 1))=ji7:=(i64_w _).trans hji7
      revert H;refine its fun c8b0 H=>?_
      revert H;refine its fun c9b0 H=>?_
      revert H;refine bnd fun t375 A10 H=>?_
      cases t375;rotate_left
      ·replace H:=itt H;obtain rfl:=Option.some.inj H
       try go_wp2
       replace HB:=am (below_drew1 HB.out);have p371:0≤(x3_1:Int):=pd;have q371:x3_1 < (l0.length:Int):=pd;obtain ⟨ad371,e371,hx371_0,hx371_1,hx371_2,hx371_3⟩:=at_T35 HR0.out x3_1 p371 q371
       have hw371_3:=hx371_3
       have hw371_2:=hx371_2
       have hw371_1:=hx371_1
       have hw371_0:=hx371_0
       cases e371;replace hx371_0:=cl HB hx371_0;replace hx371_1:=cl HB hx371_1;replace hx371_2:=cl HB hx371_2;replace hx371_3:=cl HB hx371_3;replace p371:=eq_true p371;replace q371:=eq_true q371;have p373:0≤(x3_1:Int):=pd;have q373:x3_1 < (l0.length:Int):=pd;obtain ⟨ad373,e373,hx373_0,hx373_1,hx373_2,hx373_3⟩:=at_T35 HR0.out x3_1 p373 q373
       have hw373_3:=hx373_3
       have hw373_2:=hx373_2
       have hw373_1:=hx373_1
       have hw373_0:=hx373_0
       obtain rfl:ad371=ad373:=(by injection e373)
       replace hx373_0:=cl HB hx373_0;replace hx373_1:=cl HB hx373_1;replace hx373_2:=cl HB hx373_2;replace hx373_3:=cl HB hx373_3;replace p373:=eq_true p373;replace q373:=eq_true q373;have p374:0≤((ji7):Int):=pd;have q374:(ji7) < (l0.length:Int):=pd;obtain ⟨ad374,e374,hx374_0,hx374_1,hx374_2,hx374_3⟩:=at_T35 HR0.out (ji7) p374 q374
       have hw374_3:=hx374_3
       have hw374_2:=hx374_2
       have hw374_1:=hx374_1
       have hw374_0:=hx374_0
       obtain rfl:ad371=ad374:=(by injection e374)
       replace hx374_0:=cl HB hx374_0;replace hx374_1:=cl HB hx374_1;replace hx374_2:=cl HB hx374_2;replace hx374_3:=cl HB hx374_3;replace p374:=eq_true p374;replace q374:=eq_true q374
       refine st F24 [] (g1 (cl HB hw371_0) (g1 (cl HB hw371_1) (g1 (cl HB hw371_2) (g1 (cl HB hw371_3) (g1 (cl HB hw373_0) (g1 (cl HB hw373_1) (g1 (cl HB hw373_2) (g1 (cl HB hw373_3) (g1 (cl HB hw374_0) (g1 (cl HB hw374_1) (g1 (cl HB hw374_2) (h1 (cl HB hw374_3))))))))))))) fun hHeld=>?_;refine with_tabW bocageref03_Sorted.tab4 bocageref03_Sorted.bits4 (fun HT_ HW_=>?_)
       generalize wr.drew=w12 at HB hx371_0 hx371_1 hx371_2 hx371_3 hx373_0 hx373_1 hx373_2 hx373_3 hx374_0 hx374_1 hx374_2 hx374_3 hHeld ⊢;refine pw 0 10 HT_ ?_;refine pw 1 11 HT_ ?_;refine pw 2 12 HT_ ?_;refine tw12 3 13 HT_ HW_ hHeld ?_
       refine ca 4 HT_ Tryz.func86 (bocageref03_Right.calls _ _ _ _ _ _ _ A4.out) hHeld fun w13 hb hHeld=>?_
       replace HB:=bst HB hb;clear hb;refine pw 5 15 HT_ ?_;refine pw 6 16 HT_ ?_;refine pw 7 17 HT_ ?_;refine pw 8 18 HT_ ?_;refine pw 9 19 HT_ ?_;refine pw 10 20 HT_ ?_;refine pw 11 21 HT_ ?_;refine pw 12 22 HT_ ?_;refine pw 13 23 HT_ ?_;refine pw 15 25 HT_ ?_;refine pw 16 26 HT_ ?_;refine pw 17 27 HT_ ?_;refine pw 18 28 HT_ ?_;refine pw 19 29 HT_ ?_;refine tw12 14 24 HT_ HW_ hHeld ?_;refine tw12 20 30 HT_ HW_ hHeld ?_
       refine ca 21 HT_ Tryz.func87 (bocageref02_Less.calls _ _ _ _ _ _ _ A10.out) hHeld fun w14 hb hHeld=>?_
       replace HB:=bst HB hb;clear hb;refine pw 22 32 HT_ ?_;refine pw 23 33 HT_ ?_
       refine dt HT_ ?_
       try go_wp2
       go_ret
       exact ⟨by first | rfl | (simp [errW_none,errW_some] <;> rfl) | (simp only [← hji7];first | rfl | (simp [errW_none,errW_some] <;> rfl)) | (simp [*,errW_none,errW_some] <;> rfl),by repeat (first | (with_reducible first | exact HB.out | apply below_alloc | apply pw_below_drewN | apply below_drew1) | exact HB.out)⟩
      ·replace H:=itf H;have H':=am H;clear H
       try go_wp2
       replace HB:=am (below_drew1 HB.out);have p371:0≤(x3_1:Int):=pd;have q371:x3_1 < (l0.length:Int):=pd;obtain ⟨ad371,e371,hx371_0,hx371_1,hx371_2,hx371_3⟩:=at_T35 HR0.out x3_1 p371 q371
       have hw371_3:=hx371_3
       have hw371_2:=hx371_2
       have hw371_1:=hx371_1
       have hw371_0:=hx371_0
       cases e371;replace hx371_0:=cl HB hx371_0;replace hx371_1:=cl HB hx371_1;replace hx371_2:=cl HB hx371_2;replace hx371_3:=cl HB hx371_3;replace p371:=eq_true p371;replace q371:=eq_true q371;have p373:0≤(x3_1:Int):=pd;have q373:x3_1 < (l0.length:Int):=pd;obtain ⟨ad373,e373,hx373_0,hx373_1,hx373_2,hx373_3⟩:=at_T35 HR0.out x3_1 p373 q373
       have hw373_3:=hx373_3
       have hw373_2:=hx373_2
       have hw373_1:=hx373_1
       have hw373_0:=hx373_0
       obtain rfl:ad371=ad373:=(by injection e373)
       replace hx373_0:=cl HB hx373_0;replace hx373_1:=cl HB hx373_1;replace hx373_2:=cl HB hx373_2;replace hx373_3:=cl HB hx373_3;replace p373:=eq_true p373;replace q373:=eq_true q373;have p374:0≤((ji7):Int):=pd;have q374:(ji7) < (l0.length:Int):=pd;obtain ⟨ad374,e374,hx374_0,hx374_1,hx374_2,hx374_3⟩:=at_T35 HR0.out (ji7) p374 q374
       have hw374_3:=hx374_3
       have hw374_2:=hx374_2
       have hw374_1:=hx374_1
       have hw374_0:=hx374_0
       obtain rfl:ad371=ad374:=(by injection e374)
       replace hx374_0:=cl HB hx374_0;replace hx374_1:=cl HB hx374_1;replace hx374_2:=cl HB hx374_2;replace hx374_3:=cl HB hx374_3;replace p374:=eq_true p374;replace q374:=eq_true q374
       refine st F24 [] (g1 (cl HB hw371_0) (g1 (cl HB hw371_1) (g1 (cl HB hw371_2) (g1 (cl HB hw371_3) (g1 (cl HB hw373_0) (g1 (cl HB hw373_1) (g1 (cl HB hw373_2) (g1 (cl HB hw373_3) (g1 (cl HB hw374_0) (g1 (cl HB hw374_1) (g1 (cl HB hw374_2) (h1 (cl HB hw374_3))))))))))))) fun hHeld=>?_;refine with_tabW bocageref03_Sorted.tab4 bocageref03_Sorted.bits4 (fun HT_ HW_=>?_)
       generalize wr.drew=w15 at HB hx371_0 hx371_1 hx371_2 hx371_3 hx373_0 hx373_1 hx373_2 hx373_3 hx374_0 hx374_1 hx374_2 hx374_3 hHeld ⊢;refine pw 0 10 HT_ ?_;refine pw 1 11 HT_ ?_;refine pw 2 12 HT_ ?_;refine tw12 3 13 HT_ HW_ hHeld ?_
       refine ca 4 HT_ Tryz.func86 (bocageref03_Right.calls _ _ _ _ _ _ _ A4.out) hHeld fun w16 hb hHeld=>?_
       replace HB:=bst HB hb;clear hb;refine pw 5 15 HT_ ?_;refine pw 6 16 HT_ ?_;refine pw 7 17 HT_ ?_;refine pw 8 18 HT_ ?_;refine pw 9 19 HT_ ?_;refine pw 10 20 HT_ ?_;refine pw 11 21 HT_ ?_;refine pw 12 22 HT_ ?_;refine pw 13 23 HT_ ?_;refine pw 15 25 HT_ ?_;refine pw 16 26 HT_ ?_;refine pw 17 27 HT_ ?_;refine pw 18 28 HT_ ?_;refine pw 19 29 HT_ ?_;refine tw12 14 24 HT_ HW_ hHeld ?_;refine tw12 20 30 HT_ HW_ hHeld ?_
       refine ca 21 HT_ Tryz.func87 (bocageref02_Less.calls _ _ _ _ _ _ _ A10.out) hHeld fun w17 hb hHeld=>?_
       replace HB:=bst HB hb;clear hb;refine pw 22 32 HT_ ?_;refine pw 23 33 HT_ ?_
       refine dt HT_ ?_
       try go_wp2
       go_roundg k1
       case measure=>have:=HK1.out;omega
       case rel=>exact ⟨_,rs,H',kl HK1,⟨bl HB⟩⟩
     ·have H':=am H;clear H
      try go_wp2
      replace HB:=am (below_drew1 HB.out);have p371:0≤(x3_1:Int):=pd;have q371:x3_1 < (l0.length:Int):=pd;obtain ⟨ad371,e371,hx371_0,hx371_1,hx371_2,hx371_3⟩:=at_T35 HR0.out x3_1 p371 q371
      have hw371_3:=hx371_3
      have hw371_2:=hx371_2
      have hw371_1:=hx371_1
      have hw371_0:=hx371_0
      cases e371;replace hx371_0:=cl HB hx371_0;replace hx371_1:=cl HB hx371_1;replace hx371_2:=cl HB hx371_2;replace hx371_3:=cl HB hx371_3;replace p371:=eq_true p371;replace q371:=eq_true q371
      refine st F24 [] (g1 (cl HB hw371_0) (g1 (cl HB hw371_1) (g1 (cl HB hw371_2) (h1 (cl HB hw371_3))))) fun hHeld=>?_;refine with_tabW bocageref03_Sorted.tab4 bocageref03_Sorted.bits4 (fun HT_ HW_=>?_)
      generalize wr.drew=w18 at HB hx371_0 hx371_1 hx371_2 hx371_3 hHeld ⊢;refine pw 0 10 HT_ ?_;refine pw 1 11 HT_ ?_;refine pw 2 12 HT_ ?_;refine tw4 3 13 HT_ HW_ hHeld ?_
      refine ca 4 HT_ Tryz.func86 (bocageref03_Right.calls _ _ _ _ _ _ _ A4.out) hHeld fun w19 hb hHeld=>?_
      replace HB:=bst HB hb;clear hb;refine pw 5 15 HT_ ?_;refine pw 6 16 HT_ ?_;refine pw 7 17 HT_ ?_;refine pw 8 18 HT_ ?_;refine pw 9 19 HT_ ?_;refine px 10 20 HT_ ?_;refine px 11 21 HT_ ?_;refine px 12 22 HT_ ?_;refine px 13 23 HT_ ?_;refine px 14 24 HT_ ?_;refine px 15 25 HT_ ?_;refine px 16 26 HT_ ?_;refine px 17 27 HT_ ?_;refine px 18 28 HT_ ?_;refine px 19 29 HT_ ?_;refine px 20 30 HT_ ?_;refine px 21 31 HT_ ?_;refine pw 22 32 HT_ ?_;refine pw 23 33 HT_ ?_
      refine dt HT_ ?_
      try go_wp2
      go_roundg k1
      case measure=>have:=HK1.out;omega
      case rel=>exact ⟨_,rs,H',kl HK1,⟨bl HB⟩⟩
    ·replace H:=itf H;obtain rfl:=Option.some.inj H
     try go_wp2
     replace HB:=am (below_drew1 HB.out);have p371:0≤(x3_1:Int):=pd;have q371:x3_1 < (l0.length:Int):=pd;obtain ⟨ad371,e371,hx371_0,hx371_1,hx371_2,hx371_3⟩:=at_T35 HR0.out x3_1 p371 q371
     have hw371_3:=hx371_3
     have hw371_2:=hx371_2
     have hw371_1:=hx371_1
     have hw371_0:=hx371_0
     cases e371;replace hx371_0:=cl HB hx371_0;replace hx371_1:=cl HB hx371_1;replace hx371_2:=cl HB hx371_2;replace hx371_3:=cl HB hx371_3;replace p371:=eq_true p371;replace q371:=eq_true q371
     refine st F24 [] (g1 (cl HB hw371_0) (g1 (cl HB hw371_1) (g1 (cl HB hw371_2) (h1 (cl HB hw371_3))))) fun hHeld=>?_;refine with_tabW bocageref03_Sorted.tab4 bocageref03_Sorted.bits4 (fun HT_ HW_=>?_)
     generalize wr.drew=w20 at HB hx371_0 hx371_1 hx371_2 hx371_3 hHeld ⊢;refine pw 0 10 HT_ ?_;refine pw 1 11 HT_ ?_;refine pw 2 12 HT_ ?_;refine tw4 3 13 HT_ HW_ hHeld ?_
     refine ca 4 HT_ Tryz.func86 (bocageref03_Right.calls _ _ _ _ _ _ _ A4.out) hHeld fun w21 hb hHeld=>?_
     replace HB:=bst HB hb;clear hb;refine pw 5 15 HT_ ?_;refine pw 6 16 HT_ ?_;refine px 7 17 HT_ ?_;refine px 8 18 HT_ ?_;refine px 9 19 HT_ ?_;refine px 10 20 HT_ ?_;refine px 11 21 HT_ ?_;refine px 12 22 HT_ ?_;refine px 13 23 HT_ ?_;refine px 14 24 HT_ ?_;refine px 15 25 HT_ ?_;refine px 16 26 HT_ ?_;refine px 17 27 HT_ ?_;refine px 18 28 HT_ ?_;refine px 19 29 HT_ ?_;refine px 20 30 HT_ ?_;refine px 21 31 HT_ ?_;refine px 22 32 HT_ ?_;refine pw 23 33 HT_ ?_
     refine dt HT_ ?_
     try go_wp2
     go_ret;exact endB HB
   ·obtain rfl:=Option.some.inj H;go_wp2;go_ret;exact endB HB
def bocageref09_Sound.f (k:Nat) (l0:List (S37)):Option (Bool):=(bocageref09_Spans.f k l0).bind fun t376=>((bocageref03_Sorted.f k t376).bind fun t379=>(some t379))
theorem bocageref09_Sound.calls (k:Nat) (A0:Option Addr) (c0:Nat) (l0:List (S37)) (r:Bool) (w:World) (hr0:Kd.C k37 w A0 l0.length l0) (hc0:l0.length≤c0) (h:bocageref09_Sound.f k l0=some r) :
 Calls Tryz.prog 84 #[.slice A0 l0.length c0] w fun e w'=>e=.returned (.bool r)∧Below w.heap.size w w':=by
 have HR0:=am hr0;have HC0:=am hc0;clear hr0 hc0
 have HB:=am (Below.refl w.heap.size w)
 unfold bocageref09_Sound.f at h;have H:=h;clear h;revert H;refine bnd fun t376 A2 H=>?_
 revert H;refine bnd fun t379 A3 H=>?_
 obtain rfl:=Option.some.inj H;go_enter Tryz.func84,Tryz.ntmps84
 go_wp2_with (first | ((with_reducible refine gate_callee (f:=26) rfl ?_);refine gol (some 4) Tryz.func26 #[.slice A0 l0.length c0] ?_;(with_reducible refine (bocageref09_Spans.calls _ _ _ _ _ _ ?side1 ?side2 A2.out).mono ?_);(case side1=>repeat (first | exact HR0.out | (with_reducible refine Kd.C_alloc ?_ _) | (with_reducible refine Kd.C_drewN ?_ _) | (with_reducible refine Kd.C_drew ?_)));(case side2=>exact HC0.out);rintro e w4 ⟨v377,rfl,ho0,hb⟩;refine ⟨_,rfl,?_⟩;have HO378:=kw ho0 HB;replace HB:=bst HB hb;clear hb ho0;obtain ⟨Ao5,co5,rfl⟩:=Kd.R_slice HO378.out) | ((with_reducible refine gate_callee (f:=117) rfl ?_);refine gol (some 5) Tryz.func117 #[.slice Ao5 t376.length co5] ?_;(with_reducible refine (bocageref03_Sorted.calls _ _ _ _ _ _ (cr HO378) (cv HO378) A3.out).mono ?_);rintro e w6 ⟨rfl,hb⟩;refine ⟨_,rfl,?_⟩;replace HO378:=krb HO378 hb;replace HB:=bst HB hb;clear hb))
 go_ret;exact endB HB
end Go.Proofs.YtbcpnejdbookkaaGreat.Print
