/- Own texts of this claim, part 5: short, merged. -/
import Derived.Test.YthaobmpdjcoheaaGreatZ1
set_option maxRecDepth 100000
set_option maxHeartbeats 40000000
set_option linter.defProp false
set_option linter.unusedVariables false
set_option linter.unusedSimpArgs false
namespace Go.Proofs.YthaobmpdjcoheaaGreat
namespace bj
def Df(bf:aN)(ix:Int)(b_:Int)(eJ:World)(j:Unit→World→Prop):Prop:=M Pg 77 [.pointer (bf),.int .i64 (ix),eW.enc ((⟨(4:Int),(⟨b_,(0:Int),(0:Int),false⟩:iO),false,(0:Int)⟩:iE))] eh eJ fun cI eK=>j () eK
def De(bf:aN)(ix:Int)(a9:Addr)(b_:Int)(cj:Addr)(jn:Bool)(pw:Bool)(ev:World)(j:Unit→World→Prop):Prop:=if pw=true then (j () ev) else (ex (fun x=>(!jn)=true→(L bo (a9.add 5) ev) x) fun mZ=>if ((!jn)&&mZ)=true then (dw ev fun fX=>ex (L aE (cj.add 3) fX) fun eE=>ex (L (B .i64) (a9.add 6) fX) fun gi=>M Pg 63 [.pointer (eE),.int .i64 (gi)] (B .i64) fX fun ec gp=>Df bf ix b_ gp j) else (Df bf ix b_ ev j))
def Dd(bf:aN)(ix:Int)(a9:Addr)(b_:Int)(cj:Addr)(e1:Addr)(jn:Bool)(db:World)(j:Unit→World→Prop):Prop:=dw db fun hX=>if (!jn)=true then (ex (L aE (cj.add 4) hX) fun mC=>ex (L fY e1 hX) fun kg=>M Pg 62 [.pointer (mC),fY.enc (kg)] (B .i64) hX fun qA jy=>De bf ix a9 b_ cj jn (qA != (0:Int)) jy j) else (De bf ix a9 b_ cj jn false hX j)
def NU(bf:aN)(ix:Int)(w8:iE)(w:World)(j:Unit→World→Prop):Prop:=bQ 62 eW w8 w fun a9 bc=>ex (L (B .i64) ((a9.add 1).add 0) bc) fun b_=>ex (bM bf) fun cj=>ex (L aE (cj.add 4) bc) fun cH=>M Pg 30 [.pointer (cH)] aE bc fun a6 b6=>M Pg 10 [.pointer (a6),.int .i64 (b_)] (bB (B .i64) (B .i64)) b6 fun bs cV=>bQ 142 fY Dz cV fun e1 df=>bi fY e1 (⟨(4:Int),(0:Int),b_,(0:Int),(0:Int),false⟩:j3) df fun dU=>ex (L bo (a9.add 5) dU) fun zw=>if zw=true then (ex (L (B .i64) (a9.add 6) dU) fun TH=>bi fY e1 (⟨(3:Int),TH,b_,(0:Int),(0:Int),false⟩:j3) dU fun rN=>ex (fun x=>(bs.1==(2:Int))=true→(L (B .i64) (a9.add 6) rN) x) fun nv=>Dd bf ix a9 b_ cj e1 ((bs.1==(2:Int))&&(bs.2==nv)) rN j) else (Dd bf ix a9 b_ cj e1 (bs.1==(3:Int)) dU j)
theorem ajC{bf:aN}{ix:Int}{w8:iE}{w:World}{j:Unit→World→Prop}(h:NU bf ix w8 w j):M Pg 85 [.pointer (bf),.int .i64 (ix),eW.enc (w8)] eh w j:=by
 unfold NU at h
 refine oH 72 Tryz.func85 rfl rfl (Nat.le_of_ble_eq_true rfl)<|wp_seq<|a4 _ rfl ?_
 obtain⟨a9,bc,GV,Hm,h⟩:=oQ h
 refine aP 5 rfl rfl rfl (sq (u:=w8) rfl EN rfl GV Hm)<|aU<|wp_seq<|a4 _ rfl<|gk _ _ _ Tryz.underlying62 EM rfl rfl rfl<|gk _ _ _ Tryz.underlying60 cU rfl rfl rfl<|gQ cU h rfl rfl fun b_ _ h=>o rfl<|aU<|wp_seq<|a4 _ rfl<|o rfl ?_
 refine JM h rfl rfl fun cj Kb h=>gk _ _ _ Tryz.underlying101 EQ rfl rfl rfl<|gQ EQ h rfl rfl fun cH _ h=>ew anB rfl rfl h fun a6 b6 h=>o rfl<|ew O0 rfl rfl h fun bs cV h=>o rfl<|fb _ _ rfl rfl rfl<|fb _ _ rfl rfl rfl<|o rfl<|o rfl<|aU ?_
 refine wp_seq<|a4 _ rfl<|o rfl<|aP 25 rfl rfl rfl (R7 (bh:=(4:Int)) (ei:=b_) rfl rfl rfl)<|oJ sh wX h rfl fun e1 df h=>jp sh h rfl rfl rfl fun dU h=>aU<|wp_seq<|a4 _ rfl<|o rfl<|aP _ rfl rfl rfl (gn rfl rfl rfl)<|o rfl ?_
 refine aU<|vQ (bC:=Bool) (eM:=fun (s:Bool) w=>Dd bf ix a9 b_ cj e1 s w j) (dp:=fun g (s:Bool)=>ae (ae (ae (ae (ae (ae (g) 0 (.pointer (bf))) 1 (.int .i64 (ix))) 5 (.pointer (some a9))) 6 (.int .i64 (b_))) 9 (.pointer (some e1))) 10 (.bool (s))) ?_ ?_
 ·rintro jn g db h
  unfold Dd at h
  refine wp_seq<|vQ (bC:=Bool) (eM:=fun (s:Bool) w=>De bf ix a9 b_ cj jn s w j) (dp:=fun g (s:Bool)=>ae (ae (ae (ae (ae (ae (g) 0 (.pointer (bf))) 1 (.int .i64 (ix))) 5 (.pointer (some a9))) 6 (.int .i64 (b_))) 10 (.bool (jn))) 52 (.bool (s))) ?_ ?_
  ·rintro pw g ev h
   unfold De at h
   refine eb h rfl (fun _ h=>?_) fun _ h=>?_
   ·refine wp_ret ?_
    exact om rfl .nil ⟨(),rfl,h⟩
   ·refine wp_skip<|vQ (bC:=Unit) (eM:=fun (s:Unit) w=>Df bf ix b_ w j) (dp:=fun g (s:Unit)=>ae (ae (ae (g) 0 (.pointer (bf))) 1 (.int .i64 (ix))) 6 (.int .i64 (b_))) ?_ ?_
    ·rintro⟨⟩ g eJ h
     unfold Df at h
     refine a4 _ rfl<|o rfl<|o rfl<|o rfl<|aP 69 rfl rfl rfl (Se (bh:=b_) rfl rfl)<|aP 70 rfl rfl rfl (Sf (bh:=(4:Int)) (bY:=(⟨b_,(0:Int),(0:Int),false⟩:iO)) rfl rfl rfl)<|ew anP rfl rfl h fun cI eK h=>aU ?_
     exact YR rfl .nil ⟨(),rfl,h⟩
    ·refine wp_seq<|a4 _ rfl<|o rfl<|aP _ rfl rfl rfl (nj rfl rfl)<|o rfl<|bn (g:=(!jn)) (d:=(some 56)) rfl (.b7 2 55 true (!jn) rfl rfl rfl rfl) rfl (fun O=>iI (a:=a9) (off:=5) rfl Tryz.underlying62 rfl rfl oR (by decide) rfl) ?_
     obtain⟨mZ,Qz,h⟩:=h
     refine bn (g:=(!jn)) (d:=(some 57)) rfl (.b7 2 55 true (!jn) rfl rfl rfl rfl) rfl (fun O=>hM (T:=bo) (u:=mZ) (a:=(a9.add 5)) rfl oR (cc O) (Qz O))<|aP 58 rfl rfl rfl (lH (a:=(!jn)) (e:=mZ) rfl rfl rfl rfl)<|aU<|eb h rfl (fun _ h=>?_) fun _ h=>?_
     ·obtain⟨fX,arT,h⟩:=n9 h
      refine o2 7 mixed rfl (by kernel_rfl) (by intro c a d v w h; cases d<;>exact h) arT (fun ai=>?_)
      refine gj 0 59 (.pointer (bf)) ai rfl rfl<|ow 1 60 Kb ai rfl rfl<|g_ 2 61 cj 3 Tryz.underlying101 Ll ai rfl rfl rfl<|g_ 4 63 a9 6 Tryz.underlying62 cS ai rfl rfl rfl ?_
      obtain⟨eE,QA,h⟩:=h
      refine hy 3 62 QA Ll ai rfl rfl ?_
      obtain⟨gi,Hq,h⟩:=h
      refine hy 5 64 Hq cS ai rfl rfl<|fq (i:=6) (by kernel_rfl)<|hC rfl (.free rfl) (gx (d:=(some 65)) rfl (fD (k:=63) (m:=[.pointer (eE),.int .i64 (gi)]) rfl anK rfl) h ?_)
      intro ec gp h
      refine⟨(hA (by kernel_rfl) (hA (by kernel_rfl) h9)),?_⟩
      refine kM (by kernel_rfl) ?_
      exact⟨(),_,aX (aC (aC (aC rfl rfl) rfl) rfl),h⟩
     ·refine wp_skip ?_
      exact⟨(),_,aX (aC (aC (aC rfl rfl) rfl) rfl),h⟩
  ·obtain⟨hX,Qu,h⟩:=n9 h
   refine o2 11 mixed rfl (by kernel_rfl) (by intro c a d v w h; cases d<;>exact h) Qu (fun ai=>?_)
   refine gj 0 42 (.bool (jn)) ai rfl rfl<|fl 1 43 ai rfl rfl rfl (fun _=>nj (e:=jn) rfl rfl)<|gj 2 44 (.bool ((!jn))) ai rfl rfl<|iJ (e:=(!jn)) h (fun pS h=>?_) (fun pS h=>?_)
   ·refine e5 (i:=3) (d:=(some 45)) ai (by kernel_rfl) (by kernel_rfl) rfl (.av 2 true 44 (!jn) rfl rfl rfl pS) rfl (fun _=>cs (v:=.pointer (bf)) rfl rfl)<|e5 (i:=4) (d:=(some 46)) ai (by kernel_rfl) (by kernel_rfl) rfl (.av 2 true 44 (!jn) rfl rfl rfl pS) rfl (fun _=>lo (a:=cj) rfl (congrArg Value.pointer Kb))<|e5 (i:=5) (d:=(some 47)) ai (by kernel_rfl) (by kernel_rfl) rfl (.av 2 true 44 (!jn) rfl rfl rfl pS) rfl (fun _=>iI (a:=cj) (off:=4) rfl Tryz.underlying101 rfl rfl EQ (by decide) rfl) ?_
    obtain⟨mC,Hr,h⟩:=h
    refine tq (i:=6) (d:=(some 48)) (fun A=>(L aE (cj.add 4) A) mC) ai (by kernel_rfl) (by kernel_rfl) rfl (.av 2 true 44 (!jn) rfl rfl rfl pS) rfl (fun A aa=>hM (T:=aE) (u:=mC) (a:=(cj.add 4)) rfl EQ rfl aa) Hr ?_
    obtain⟨kg,B8,h⟩:=h
    refine tq (i:=7) (d:=(some 49)) (fun A=>(L fY e1 A) kg) ai (by kernel_rfl) (by kernel_rfl) rfl (.av 2 true 44 (!jn) rfl rfl rfl pS) rfl (fun A aa=>hM (T:=fY) (u:=kg) (a:=e1) rfl sh rfl aa) B8<|fq (i:=8) (by kernel_rfl)<|hC rfl (.av 2 true 44 (!jn) rfl rfl rfl pS) (gx (d:=(some 50)) rfl (fD (k:=62) (m:=[.pointer (mC),fY.enc (kg)]) rfl anJ rfl) h ?_)
    intro qA jy h
    refine⟨(hA (by kernel_rfl) (hA (by kernel_rfl) h9)),?_⟩
    refine e5 (i:=9) (d:=(some 51)) ai (by kernel_rfl) (by kernel_rfl) rfl (.av 2 true 44 (!jn) rfl rfl rfl pS) rfl (fun _=>g1 (a:=qA) (e:=(0:Int)) rfl rfl rfl)<|fl 10 52 ai rfl rfl rfl (fun _=>hD (v:=.bool ((qA != (0:Int)))) (e:=(!jn)) rfl rfl pS rfl)<|kM (by kernel_rfl) ?_
    exact⟨((qA != (0:Int))),_,aX (aC (aC (aC (aC (aC (aC rfl rfl) rfl) rfl) rfl) rfl) rfl),h⟩
   ·refine dY 3 45 ai rfl (.av 2 true 44 (!jn) rfl rfl rfl pS) rfl<|dY 4 46 ai rfl (.av 2 true 44 (!jn) rfl rfl rfl pS) rfl<|dY 5 47 ai rfl (.av 2 true 44 (!jn) rfl rfl rfl pS) rfl<|dY 6 48 ai rfl (.av 2 true 44 (!jn) rfl rfl rfl pS) rfl<|dY 7 49 ai rfl (.av 2 true 44 (!jn) rfl rfl rfl pS) rfl<|fq (i:=8) (by kernel_rfl)<|me (d:=(some 50)) rfl (.av 2 true 44 (!jn) rfl rfl rfl pS) rfl ⟨fun _ _ _ h=>h,?_⟩
    refine dY 9 51 ai rfl (.av 2 true 44 (!jn) rfl rfl rfl pS) rfl<|fl 10 52 ai rfl rfl rfl (fun _=>iB (v:=.bool (false)) (e:=(!jn)) rfl rfl pS rfl)<|kM (by kernel_rfl) ?_
    exact⟨(false),_,aX (aC (aC (aC (aC (aC (aC rfl rfl) rfl) rfl) rfl) rfl) rfl),h⟩
 ·refine wp_seq<|a4 _ rfl<|gk _ _ _ Tryz.underlying62 oR rfl rfl rfl<|gQ oR h rfl rfl fun zw _ h=>aU<|eb h rfl (fun _ h=>?_) fun _ h=>?_
  ·refine wp_seq<|a4 _ rfl<|gk _ _ _ Tryz.underlying62 cS rfl rfl rfl<|gQ cS h rfl rfl fun TH _ h=>o rfl<|aP 33 rfl rfl rfl (R5 (bh:=(3:Int)) (bY:=TH) (ei:=b_) rfl rfl rfl rfl)<|jp sh h rfl rfl rfl fun rN h=>aU<|a4 _ rfl<|o rfl<|aP _ rfl rfl rfl (gn rfl rfl rfl)<|o rfl ?_
   refine bn (g:=(bs.1==(2:Int))) (d:=(some 37)) rfl (.b7 2 36 true (bs.1==(2:Int)) rfl rfl rfl rfl) rfl (fun O=>cs (v:=.int .i64 (bs.2)) rfl rfl)<|bn (g:=(bs.1==(2:Int))) (d:=(some 38)) rfl (.b7 2 36 true (bs.1==(2:Int)) rfl rfl rfl rfl) rfl (fun O=>iI (a:=a9) (off:=6) rfl Tryz.underlying62 rfl rfl cS (by decide) rfl) ?_
   obtain⟨nv,QE,h⟩:=h
   refine bn (g:=(bs.1==(2:Int))) (d:=(some 39)) rfl (.b7 2 36 true (bs.1==(2:Int)) rfl rfl rfl rfl) rfl (fun O=>hM (T:=(B .i64)) (u:=nv) (a:=(a9.add 6)) rfl cS (cc O) (QE O))<|bn (g:=(bs.1==(2:Int))) (d:=(some 40)) rfl (.b7 2 36 true (bs.1==(2:Int)) rfl rfl rfl rfl) rfl (fun O=>gn (k:=.i64) (a:=bs.2) (e:=nv) rfl (cc O) (cc O))<|aP 41 rfl rfl rfl (lH (a:=(bs.1==(2:Int))) (e:=(bs.2==nv)) rfl rfl rfl rfl)<|o rfl<|aU ?_
   exact⟨(((bs.1==(2:Int))&&(bs.2==nv))),_,aX (aC (aC (aC (aC (aC (aC rfl rfl) rfl) rfl) rfl) rfl) rfl),h⟩
  ·refine wp_skip ?_
   exact⟨((bs.1==(3:Int))),_,aX (aC (aC (aC (aC (aC (aC rfl rfl) rfl) rfl) rfl) rfl) rfl),h⟩
def WY(ds:aN)(kb:Bool)(w:World)(j:Int→World→Prop):Prop:=ex (bM ds) fun aA=>ex (L (B .i64) (aA.add 12) w) fun dk=>if (dk==(0:Int))=true then (j (176:Int) w) else (dw w fun bc=>M Pg 136 [.bool (kb)] (B .i64) bc fun bU b3=>ex (oA (aA.add 10) 2 1 bU) fun cZ=>bi bo cZ true b3 fun b6=>j (0:Int) b6)
theorem ajD{ds kb w j}(h:WY ds kb w j):M Pg 86 [.pointer ds,.bool kb] (B .i64) w j:=by
 have gC:=eI 4 (dJ [0,1,3,4,2,5,6] .l)
 exact bu 16 Tryz.func86 rfl rfl bw
def NV(e7:Nat)(w:World)(j:Int→World→Prop):Prop:=if (ga .neq e7 e7)=true then (j (0:Int) w) else (if ((e7:Int)==(0:Int))=true then (j (4:Int) w) else (if ((e7:Int)==(9223372036854775808:Int))=true then (j (3:Int) w) else (M Pg 138 [.float .f64 (e7),.int .i64 ((-1:Int))] bo w fun gv cG=>if gv=true then (j (1:Int) cG) else (M Pg 138 [.float .f64 (e7),.int .i64 ((1:Int))] bo cG fun bm aY=>if bm=true then (j (6:Int) aY) else (if (ga .lss e7 (0:Nat))=true then (j (2:Int) aY) else (j (5:Int) aY))))))
theorem WZ{e7 w j}(h:NV e7 w j):M Pg 87 [.float .f64 e7] (B .i64) w j:=
 bu 25 Tryz.func87 rfl rfl bw
def W0(jS:Nat)(h4:Nat)(w:World)(j:Int→World→Prop):Prop:=M Pg 139 [.float .f64 (jS)] (B .u64) w fun bq bl=>M Pg 139 [.float .f64 (h4)] (B .u64) bl fun aI bc=>if (decide (bq<aI))=true then (j (-1:Int) bc) else (if (decide (bq>aI))=true then (j (1:Int) bc) else (j (0:Int) bc))
theorem ajE{jS h4 w j}(h:W0 jS h4 w j):M Pg 88 [.float .f64 jS,.float .f64 h4] (B .i64) w j:=
 bu 19 Tryz.func88 rfl rfl bw
def W1(bf:Int)(w:World)(j:Bool→World→Prop):Prop:=j ((decide (bf≥(0:Int)))&&(decide (bf≤(1125899906842624:Int)))) w
theorem ajF{bf w j}(h:W1 bf w j):M Pg 89 [.int .i64 bf] bo w j:=
 bu 9 Tryz.func89 rfl rfl bw
def NX(bU:(aN×af×Int))(e0:Addr)(p9:Int)(cA:World)(m2:Int→World→Prop)(j:(aN×Int)→World→Prop):Prop:=if (decide (p9<(bU.2.1.len:Int)))=true then (ex (cT bU.2.1 1 p9) fun gJ=>ex (L X gJ cA) fun bL=>M Pg 141 [X.enc (bL)] (bB fY bo) cA fun ea db=>bQ 142 fY Dz db fun je eJ=>bi fY je ea.1 eJ fun eK=>if (!ea.2)=true then (j ((none:Option Addr),(191:Int)) eK) else (ex (L fY je eK) fun gW=>M Pg 115 [.pointer ((some e0)),fY.enc (gW)] (B .i64) eK fun xi eD=>m2 ((IntKind.i64.wrap (p9+(1:Int)))) eD)) else (j ((some e0),(0:Int)) cA)
def W2(dm:aN)(nN:Int)(ux:Nat)(w:World)(j:(aN×Int)→World→Prop):Prop:=M Pg 38 [.float .f64 (ux)] (B .i64) w fun bm aY=>if (bm != (0:Int))=true then (j ((none:Option Addr),(190:Int)) aY) else (M Pg 91 [.pointer (dm),.int .i64 (nN)] (mz aE X (B .i64)) aY fun bU b3=>if (bU.2.2 != (0:Int))=true then (j ((none:Option Addr),bU.2.2) b3) else (M Pg 140 [.float .f64 (ux)] (bB aE (B .i64)) b3 fun dB bJ=>bQ 150 Bk (⟨bU.1,dB.1⟩:xJ) bJ fun e0 cV=>fh (fun (s:Int) w ab=>NX bU e0 s w ab j) ((0:Int)) cV))
theorem ajH{dm nN ux w j}(h:W2 dm nN ux w j):M Pg 90 [.pointer dm,.int .i64 nN,.float .f64 ux] (bB aE (B .i64)) w j:=by
 have ju:=fun {bU:(aN×af×Int)} {e0}=>hJ (bC:=Int) 10 (fun s w ab=>NX bU e0 s w ab j) (fun g s=>ae (ae (ae (ae g 13 (.pointer ((some e0)))) 40 (X.enc (bU.2.1))) 41 (.int .i64 ((bU.2.1.len:Int)))) 42 (.int .i64 s))
 exact bu 58 Tryz.func90 rfl rfl bw
def Ba(dm:aN)(nN:Int)(aI:(af×Int))(GB:Int)(bJ:World)(j:(aN×af×Int)→World→Prop):Prop:=if (GB != (0:Int))=true then (j ((none:Option Addr),(⟨none,0,0⟩:af),GB) bJ) else (bQ 238 Bp (⟨(⟨(aI.1.len:Int),(aI.1.len:Int)⟩:sP),dm,nN,false⟩:tK) bJ fun dE cu=>j ((some dE),aI.1,(0:Int)) cu)
def NY(dm:aN)(nN:Int)(w:World)(j:(aN×af×Int)→World→Prop):Prop:=if dm.isNone=true then (j ((none:Option Addr),(⟨none,0,0⟩:af),(80:Int)) w) else (M Pg 142 [.pointer (dm),.int .i64 (nN)] (bB X (B .i64)) w fun bq bl=>if (bq.2 != (0:Int))=true then (j ((none:Option Addr),(⟨none,0,0⟩:af),bq.2) bl) else (M Pg 143 [X.enc (bq.1)] (bB X (B .i64)) bl fun aI bc=>if (decide (aI.2<(bq.1.len:Int)))=true then (ex (Sub bq.1 1 0 aI.2 aI.2) fun SJ=>M Pg 144 [.pointer (dm),.int .i64 (nN),X.enc (SJ)] (B .i64) bc fun dt cA=>Ba dm nN aI dt cA j) else (M Pg 145 [.pointer (dm),.int .i64 (nN)] (B .i64) bc fun mf dU=>if (decide (mf<aI.2))=true then (M Pg 129 [.pointer (dm),.int .i64 (nN)] (B .i64) dU fun ea db=>Ba dm nN aI ea db j) else (Ba dm nN aI bq.2 dU j))))
theorem ajI{dm:aN}{nN:Int}{w:World}{j:(aN×af×Int)→World→Prop}(h:NY dm nN w j):M Pg 91 [.pointer (dm),.int .i64 (nN)] (mz aE X (B .i64)) w j:=by
 unfold NY at h
 refine oH 61 Tryz.func91 rfl rfl (Nat.le_of_ble_eq_true rfl)<|wp_seq<|a4 _ rfl<|o rfl<|o rfl<|o rfl<|aU<|wp_seq<|wp_seq<|a4 _ rfl<|o rfl<|aP 12 rfl rfl rfl (p3 (a:=dm) rfl Tryz.underlying93 rfl rfl) ?_
 refine aU<|eb h rfl (fun _ h=>?_) fun _ h=>?_
 ·refine wp_seq<|a4 _ rfl<|o rfl<|o rfl<|o rfl<|aU<|wp_ret ?_
  exact IR h rfl rfl
 ·refine wp_skip<|wp_seq<|a4 _ rfl<|o rfl<|o rfl<|ew am5 rfl rfl h fun bq bl h=>o rfl<|fb _ _ rfl rfl rfl<|fb _ _ rfl rfl rfl<|o rfl<|o rfl<|aU ?_
  refine wp_seq<|wp_seq<|a4 _ rfl<|o rfl<|aP _ rfl rfl rfl (g1 rfl rfl rfl)<|aU<|eb h rfl (fun _ h=>?_) fun _ h=>?_
  ·refine wp_seq<|a4 _ rfl<|o rfl<|o rfl<|o rfl<|o rfl<|aU<|wp_ret ?_
   exact IR h rfl rfl
  ·refine wp_skip<|wp_seq<|a4 _ rfl<|o rfl<|ew am6 rfl rfl h fun aI bc h=>o rfl<|fb _ _ rfl rfl rfl<|fb _ _ rfl rfl rfl<|o rfl<|o rfl<|aU<|vQ (bC:=Int) (eM:=fun (s:Int) w=>Ba dm nN aI s w j) (dp:=fun g (s:Int)=>ae (ae (ae (ae (g) 0 (.pointer (dm))) 1 (.int .i64 (nN))) 9 (X.enc (aI.1))) 8 (.int .i64 (s))) ?_ ?_
   ·rintro GB g bJ h
    unfold Ba at h
    refine wp_seq<|wp_seq<|a4 _ rfl<|o rfl<|aP _ rfl rfl rfl (g1 rfl rfl rfl)<|aU<|eb h rfl (fun _ h=>?_) fun _ h=>?_
    ·refine wp_seq<|a4 _ rfl<|o rfl<|o rfl<|o rfl<|o rfl<|aU<|wp_ret ?_
     exact IR h rfl rfl
    ·refine wp_skip<|wp_seq<|a4 _ rfl<|o rfl<|aP _ rfl rfl rfl (jZ rfl Tryz.underlying185 rfl)<|o rfl<|aP _ rfl rfl rfl (jZ rfl Tryz.underlying185 rfl)<|aP 55 rfl rfl rfl (R9 (bh:=(aI.1.len:Int)) (bY:=(aI.1.len:Int)) rfl rfl rfl)<|o rfl<|o rfl<|aP 58 rfl rfl rfl (R_ (bh:=(⟨(aI.1.len:Int),(aI.1.len:Int)⟩:sP)) (bY:=dm) (ei:=nN) rfl rfl rfl rfl) ?_
     obtain⟨dE,cu,rk,Qp,h⟩:=oQ h
     refine aP 59 rfl rfl rfl (sq (u:=(⟨(⟨(aI.1.len:Int),(aI.1.len:Int)⟩:sP),dm,nN,false⟩:tK)) rfl ack rfl rk Qp)<|o rfl<|o rfl<|o rfl<|o rfl<|aU<|wp_ret ?_
     exact IR h rfl rfl
   ·refine wp_block<|wp_seq<|a4 _ rfl<|o rfl<|o rfl<|aP _ rfl rfl rfl (jZ rfl Tryz.underlying189 rfl)<|aP _ rfl rfl rfl (jw rfl rfl rfl)<|o rfl<|aU<|eb h rfl (fun _ h=>?_) fun _ h=>?_
    ·refine a4 _ rfl<|o rfl<|o rfl<|o rfl<|o rfl<|o rfl ?_
     obtain⟨SJ,arz,h⟩:=h
     refine aP 37 rfl rfl rfl (Sq (s:=bq.1) (h:=aI.2) (o:=aI.2) rfl Tryz.underlying189 HX rfl rfl rfl arz)<|ew am7 rfl rfl h fun dt cA h=>o rfl<|aU ?_
     exact⟨(dt),_,aX (aC (aC (aC (aC rfl rfl) rfl) rfl) rfl),h⟩
    ·refine wp_seq<|a4 _ rfl<|o rfl<|o rfl<|ew am8 rfl rfl h fun mf dU h=>o rfl<|aP _ rfl rfl rfl (jw rfl rfl rfl)<|o rfl<|aU<|eb h rfl (fun _ h=>?_) fun _ h=>?_
     ·refine a4 _ rfl<|o rfl<|o rfl<|ew am4 rfl rfl h fun ea db h=>o rfl<|aU ?_
      exact⟨(ea),_,aX (aC (aC (aC (aC rfl rfl) rfl) rfl) rfl),h⟩
     ·refine wp_skip ?_
      exact⟨(bq.2),_,aX (aC (aC (aC (aC rfl rfl) rfl) rfl) rfl),h⟩
def W3(w:World)(j:aN→World→Prop):Prop:=bQ 223 Du (⟨(0:Int)⟩:xM) w fun lY cG=>j (some lY) cG
theorem ajJ{w j}(h:W3 w j):M Pg 92 [] aE w j:=
 bu 3 Tryz.func92 rfl rfl bw
def Bb(e0:Addr)(a1:Addr)(a9:Addr)(b2:Addr)(j:(af×Int×Int)→World→Prop)(v:eF)(w:World):Prop:=yS Pg 146 [.pointer (some e0),.pointer (some a1),.pointer (some a9),.pointer (some b2)] (.panicking (AA v)) w fun uI=>ex (L X a1 uI) fun hO=>ex (L (B .i64) a9 uI) fun g9=>ex (L (B .i64) b2 uI) fun mD=>j (hO,g9,mD) uI
def N0(e2:af)(a1:Addr)(a9:Addr)(b2:Addr)(cZ:Addr)(e0:Addr)(cA:World)(m2:Unit→World→Prop)(j:(af×Int×Int)→World→Prop):Prop:=ex (L (B .i64) (cZ.add 1) cA) fun ep=>if (decide (ep<(e2.len:Int)))=true then (ex (L (B .i64) (cZ.add 1) cA) fun bL=>bi (B .i64) e0 bL cA fun db=>ex (L X a1 db) fun cY=>if ((cY.len:Int)==(1000:Int))=true then ((Bb e0 a1 a9 b2 j) (eF.mk 259 (j4.enc ((⟨(20:Int)⟩:kj)))) db) else (dw db fun ev=>ex (L X a1 ev) fun gq=>n3 Pg 147 [.pointer ((some cZ))] gy ev (Bb e0 a1 a9 b2 j) fun cI eK=>bG ((L X a1 eK) gq)<|mn 197 gy 5 48 gq [cI] eK fun fk fe=>bi X a1 fk fe fun gh=>m2 () gh)) else (ex (L X a1 cA) fun kw=>bi X a1 kw cA fun hX=>bi (B .i64) a9 (0:Int) hX fun g6=>bi (B .i64) b2 (0:Int) g6 fun iL=>yS Pg 146 [.pointer (some e0),.pointer (some a1),.pointer (some a9),.pointer (some b2)] .returning iL fun uI=>ex (L X a1 uI) fun hO=>ex (L (B .i64) a9 uI) fun g9=>ex (L (B .i64) b2 uI) fun mD=>j (hO,g9,mD) uI)
def NZ(e2:af)(w:World)(j:(af×Int×Int)→World→Prop):Prop:=bQ 190 X (⟨none,0,0⟩:af) w fun a1 bl=>bQ 3 (B .i64) (0:Int) bl fun a9 bc=>bQ 43 (B .i64) (0:Int) bc fun b2 bZ=>bQ 257 Dv (⟨e2,(0:Int)⟩:wo) bZ fun cZ b6=>bQ 3 (B .i64) (0:Int) b6 fun e0 cV=>bi (B .i64) e0 (0:Int) cV fun cC=>fh (fun (s:Unit) w ab=>N0 e2 a1 a9 b2 cZ e0 w ab j) () cC
theorem ajK{e2:af}{w:World}{j:(af×Int×Int)→World→Prop}(h:NZ e2 w j):M Pg 93 [X.enc (e2)] (mz X (B .i64) (B .i64)) w j:=by
 unfold NZ at h
 refine alj (pu:=[2,3,4]) 33 Tryz.func93 rfl rfl (Nat.le_of_ble_eq_true rfl)<|wp_seq<|a4 _ rfl<|oJ vC QT h rfl fun a1 bl h=>oJ cU KF h rfl fun a9 bc h=>oJ xe QV h rfl fun b2 bZ h=>aU<|wp_seq<|a4 _ rfl<|o rfl<|aP 8 rfl rfl rfl (Sb (bh:=e2) rfl rfl) ?_
 obtain⟨cZ,b6,PI,Qx,h⟩:=oQ h
 refine aP 9 rfl rfl rfl (sq (u:=(⟨e2,(0:Int)⟩:wo)) rfl acl rfl PI Qx)<|o rfl<|aU<|wp_seq<|a4 _ rfl<|oJ cU KF h rfl fun e0 cV h=>jp cU h rfl rfl rfl fun cC h=>aU<|wp_seq<|a4 _ rfl<|aP 10 rfl rfl rfl (Sk (fn:=.func 146) (Tf:=[]) (Th:=[.pointer (some e0),.pointer (some a1),.pointer (some a9),.pointer (some b2)]) rfl rfl rfl)<|ey rfl (.free rfl) (aJh (k:=146) (bd:=[.pointer (some e0),.pointer (some a1),.pointer (some a9),.pointer (some b2)]) (d:=none) rfl rfl rfl ?_)
 refine aU<|wp_seq<|wp_block<|rE (bC:=Unit) (dp:=fun g (s:Unit)=>ae (ae (ae (ae (ae (ae (g) 0 (X.enc (e2))) 2 (.pointer (some a1))) 3 (.pointer (some a9))) 4 (.pointer (some b2))) 5 (.pointer ((some cZ)))) 6 (.pointer (some e0))) (lI:=()) (aC (aC (aC (aC (aC (aC rfl rfl) rfl) rfl) rfl) rfl) rfl) h ?_
 rintro⟨⟩ g cA m2 h
 unfold N0 at h
 refine wp_seq<|wp_seq<|a4 _ rfl<|o rfl<|aP 12 rfl rfl rfl (lo (a:=cZ) rfl rfl)<|gk _ _ _ Tryz.underlying257 cU rfl rfl rfl<|gQ cU h rfl rfl fun ep _ h=>o rfl<|aP _ rfl rfl rfl (jZ rfl Tryz.underlying189 rfl)<|aP _ rfl rfl rfl (jw rfl rfl rfl)<|aU<|eb h rfl (fun _ h=>?_) fun _ h=>?_
 ·refine wp_skip<|wp_block<|wp_seq<|a4 _ rfl<|o rfl<|aP 19 rfl rfl rfl (lo (a:=cZ) rfl rfl)<|gk _ _ _ Tryz.underlying257 cU rfl rfl rfl<|gQ cU h rfl rfl fun bL _ h=>jp cU h rfl rfl rfl fun db h=>aU<|wp_seq<|wp_seq ?_
  refine a4 _ rfl<|gQ vC h rfl rfl fun cY _ h=>aP _ rfl rfl rfl (jZ rfl Tryz.underlying190 rfl)<|aP _ rfl rfl rfl (gn rfl rfl rfl)<|aU<|eb h rfl (fun _ h=>?_) fun _ h=>?_
  ·refine a4 _ rfl<|aP 25 rfl rfl rfl (za (bh:=(20:Int)) rfl rfl)<|aP 26 rfl rfl rfl (zb (v:=j4.enc ((⟨(20:Int)⟩:kj))) rfl Tryz.underlying259 rfl rfl)<|ey rfl (.free rfl) (C0 (v:=(eF.mk 259 (j4.enc ((⟨(20:Int)⟩:kj))))) rfl rfl ⟨_,_,rfl⟩ ?_)
   unfold Bb at h
   refine acR (an:=[.cell 2 190,.cell 3 3,.cell 4 43]) rfl O1 (Rh h fun uI h=>?_)
   obtain⟨hO,B9,h⟩:=h
   obtain⟨g9,B_,h⟩:=h
   obtain⟨mD,Ca,h⟩:=h
   exact⟨_,(.cons (.cell (T:=X) (u:=hO) (a:=a1) vC rfl B9) (.cons (.cell (T:=(B .i64)) (u:=g9) (a:=a9) cU rfl B_) (.cons (.cell (T:=(B .i64)) (u:=mD) (a:=b2) xe rfl Ca) .nil))),⟨(hO,g9,mD),rfl,h⟩⟩
  ·refine wp_skip ?_
   obtain⟨ev,arQ,h⟩:=n9 h
   refine aJi 6 mixed rfl (by kernel_rfl) (fun c a d v w ag h=>aEH (pu:=[2,3,4]) (amL (by kernel_rfl) ag) h) arQ (fun ai=>?_)
   refine gj 1 28 (.pointer ((some cZ))) ai rfl rfl ?_
   obtain⟨gq,Hp,h⟩:=h
   refine hy 0 27 Hp vC ai rfl rfl<|fq (i:=2) (by kernel_rfl)<|hC rfl (.free rfl) (zt (d:=(some 29)) rfl (fD (k:=147) (m:=[.pointer ((some cZ))]) rfl am9 rfl) h ?_ ?_)
   ·intro _ _ h
    unfold Bb at h
    refine acR (an:=[.cell 2 190,.cell 3 3,.cell 4 43]) rfl O1 (Rh h fun uI h=>?_)
    obtain⟨hO,B9,h⟩:=h
    obtain⟨g9,B_,h⟩:=h
    obtain⟨mD,Ca,h⟩:=h
    exact⟨_,(.cons (.cell (T:=X) (u:=hO) (a:=a1) vC rfl B9) (.cons (.cell (T:=(B .i64)) (u:=g9) (a:=a9) cU rfl B_) (.cons (.cell (T:=(B .i64)) (u:=mD) (a:=b2) xe rfl Ca) .nil))),⟨(hO,g9,mD),rfl,h⟩⟩
   intro cI eK h
   obtain⟨aqt,h⟩:=h
   refine⟨(fc (fun _=>aqt) h9),?_⟩
   refine fq (i:=3) (by kernel_rfl) ?_
   obtain⟨pI,iK,PB,aaM,h⟩:=Gk h
   refine y_ (d:=(some 30)) rfl (.free rfl) rfl (AF (T:=gy) (xs:=[cI]) rfl Tryz.underlying190 ma wY rfl (by decide) (by decide) rfl PB aaM) ⟨(fc (fun h=>yM aaM h) h9),?_⟩
   refine fq (i:=4) (by kernel_rfl)<|hC rfl (.free rfl) (IK (d:=(some 31)) (T:=gy) rfl rfl Tryz.underlying190 ⟨_,Tryz.underlying190⟩ ma wY rfl rfl (Nat.lt_of_lt_of_le Nat.zero_lt_one (Nat.le_of_ble_eq_true rfl)) rfl rfl h ?_)
   intro fk fe h
   refine⟨(hA (by kernel_rfl) h9),?_⟩
   refine fq (i:=5) (by kernel_rfl) ?_
   obtain⟨gh,arV,arr,h⟩:=sD h
   refine uu (d:=none) rfl (.free rfl) rfl (st (T:=X) (u:=fk) (a:=a1) rfl vC rfl rfl arr arV) ⟨(hA (by kernel_rfl) h9),?_⟩
   refine kM (by kernel_rfl) ?_
   exact⟨(),_,aX (aC (aC (aC (aC (aC (aC rfl rfl) rfl) rfl) rfl) rfl) rfl),h⟩
 ·refine wp_exit<|wp_seq<|a4 _ rfl<|gQ vC h rfl rfl fun kw _ h=>jp vC h rfl rfl rfl fun hX h=>jp cU h rfl rfl rfl fun g6 h=>jp xe h rfl rfl rfl fun iL h=>aU<|wp_ret<|aGU (an:=[.cell 2 190,.cell 3 3,.cell 4 43]) rfl O1 (Rh h fun uI h=>?_)
  obtain⟨hO,B9,h⟩:=h
  obtain⟨g9,B_,h⟩:=h
  obtain⟨mD,Ca,h⟩:=h
  exact⟨_,(.cons (.cell (T:=X) (u:=hO) (a:=a1) vC rfl B9) (.cons (.cell (T:=(B .i64)) (u:=g9) (a:=a9) cU rfl B_) (.cons (.cell (T:=(B .i64)) (u:=mD) (a:=b2) xe rfl Ca) .nil))),⟨(hO,g9,mD),rfl,h⟩⟩
def W4(bf:aN)(HE:Int)(xz:mK)(fi:Int)(w:World)(j:Unit→World→Prop):Prop:=bQ 31 gz xz w fun b1 b3=>if (HE==(1:Int))=true then (dw b3 fun bZ=>ex (bM bf) fun cZ=>ex (L eC (cZ.add 6) bZ) fun cJ=>ex (L (B .i64) (b1.add 0) bZ) fun dD=>ex (L gz b1 bZ) fun cQ=>M Pg 97 [gz.enc (cQ)] (bB aE (B .i64)) bZ fun eB cC=>bG ((L eC (cZ.add 6) cC) cJ)<|bG ((L (B .i64) (b1.add 0) cC) dD)<|qt aE .i64 cJ dD eB.1 cC fun dV=>j () dV) else (dw b3 fun db=>ex (bM bf) fun rV=>ex (L eC (rV.add 6) db) fun hY=>ex (L (B .i64) (b1.add 0) db) fun gq=>ex (iD aE .i64 hY gq db) fun KY=>dw db fun fa=>ex (L eC (rV.add 7) fa) fun mZ=>ex (L (B .i64) (b1.add 0) fa) fun mi=>qt fF .i64 mZ mi (⟨⟩:o8) fa fun iK=>if (HE==(3:Int))=true then (M Pg 148 [.pointer ((KY.getD (none:Option Addr)))] (B .i64) iK fun fk fe=>j () fe) else (M Pg 134 [.pointer ((KY.getD (none:Option Addr))),.bool (true),.bool (true),.int .i64 (fi)] (B .i64) iK fun dX gh=>M Pg 134 [.pointer ((KY.getD (none:Option Addr))),.bool (false),.bool (true),.int .i64 (fi)] (B .i64) gh fun jk gV=>M Pg 149 [.pointer ((KY.getD (none:Option Addr))),.int .i64 (fi)] (B .i64) gV fun sw g6=>ex (L aE (rV.add 3) g6) fun kg=>M Pg 63 [.pointer (kg),.int .i64 (fi)] (B .i64) g6 fun qA jy=>j () jy))
theorem ajL{bf HE xz fi w j}(h:W4 bf HE xz fi w j):M Pg 94 [.pointer bf,.int .i64 HE,gz.enc xz,.int .i64 fi] eh w j:=by
 have gC:=eI 3 (dJ [0,1,2,4,3,5,6,7,8,9,10,11] .l)
 have r0:=eI 4 (dJ [0,1,2,4,3,5,6,7] .l)
 have DR:=eI 5 (dJ [0,1,2,4,6,3,5,7] .l)
 exact bu 55 Tryz.func94 rfl rfl bw
def I8(bf:Int)(dB:(Nat×Int))(d12:Int)(ea:(Int×Int))(afj:Bool)(eJ:World)(j:(Int×Int)→World→Prop):Prop:=if afj=true then (j ((0:Int),(11:Int)) eJ) else (ex (jd (IntKind.u64.wrap (IntKind.i64.wrap (dB.2-(53:Int)))) (IntKind.u64.wrap (ea.2*2^(min ((IntKind.u64.wrap (IntKind.i64.wrap (dB.2-(53:Int))))).toNat IntKind.u64.bits)))) fun d21=>M Pg 155 [.bool ((!((decide (bf<(0:Int)))==(decide (d12<(0:Int)))))),.int .u64 (d21)] (bB (B .i64) (B .i64)) eJ fun mS fa=>j (mS.1,mS.2) fa)
def Bc(bf:Int)(d12:Int)(adf:Int)(hX:World)(j:(Int×Int)→World→Prop):Prop:=M Pg 155 [.bool ((!((decide (bf<(0:Int)))==(decide (d12<(0:Int)))))),.int .u64 (adf)] (bB (B .i64) (B .i64)) hX fun sw g6=>j (sw.1,sw.2) g6
def Dg(bf:Int)(jD:Nat)(lL:Bool)(b3:World)(j:(Int×Int)→World→Prop):Prop:=if lL=true then (if (bf==(0:Int))=true then (j ((0:Int),(10:Int)) b3) else (j ((0:Int),(11:Int)) b3)) else (M Pg 150 [.float .f64 (jD)] (bB g4 (B .i64)) b3 fun dB bJ=>M Pg 151 [.float .f64 (dB.1),.int .i64 ((53:Int))] g4 bJ fun g8 cu=>ex (zC .i64 g8) fun d12=>M Pg 153 [.int .i64 (bf)] (B .u64) cu fun dt cA=>M Pg 153 [.int .i64 (d12)] (B .u64) cA fun mf dU=>M Pg 152 [.int .u64 (dt),.int .u64 (mf)] (bB (B .u64) (B .u64)) dU fun ea db=>if ((ea.1==(0:Int))&&(ea.2==(0:Int)))=true then (j ((0:Int),(0:Int)) db) else (if (decide ((IntKind.i64.wrap (dB.2-(53:Int)))≥(0:Int)))=true then (if ((ea.1 != (0:Int))||(decide ((IntKind.i64.wrap (dB.2-(53:Int)))≥(64:Int))))=true then (I8 bf dB d12 ea true db j) else (M Pg 154 [.int .u64 (ea.2)] (B .i64) db fun fk fe=>I8 bf dB d12 ea (decide ((IntKind.i64.wrap (fk+(IntKind.i64.wrap (dB.2-(53:Int)))))>(64:Int))) fe j)) else (M Pg 156 [.int .u64 (ea.1),.int .u64 (ea.2),.int .u64 ((IntKind.u64.wrap (IntKind.i64.wrap (0-(IntKind.i64.wrap (dB.2-(53:Int)))))))] (mz (B .u64) bo bo) db fun dX gh=>if ((!dX.2.2)||(((!((decide (bf<(0:Int)))==(decide (d12<(0:Int)))))&&dX.2.1)&&(decide (dX.1≥(9223372036854775808:Int)))))=true then (j ((0:Int),(11:Int)) gh) else (if ((!((decide (bf<(0:Int)))==(decide (d12<(0:Int)))))&&dX.2.1)=true then (Bc bf d12 (IntKind.u64.wrap (dX.1+(1:Int))) gh j) else (Bc bf d12 dX.1 gh j)))))
def I7(bf:Int)(jD:Nat)(w:World)(j:(Int×Int)→World→Prop):Prop:=M Pg 87 [.float .f64 (jD)] (B .i64) w fun bq bl=>if (bq==(0:Int))=true then (j ((0:Int),(10:Int)) bl) else (if (bq==(1:Int))=true then (Dg bf jD (bq==(1:Int)) bl j) else (Dg bf jD (bq==(6:Int)) bl j))
theorem W5{bf:Int}{jD:Nat}{w:World}{j:(Int×Int)→World→Prop}(h:I7 bf jD w j):M Pg 95 [.int .i64 (bf),.float .f64 (jD)] (bB (B .i64) (B .i64)) w j:=by
 unfold I7 at h
 refine oH 110 Tryz.func95 rfl rfl (Nat.le_of_ble_eq_true rfl)<|wp_seq<|a4 _ rfl<|o rfl<|o rfl<|aU<|wp_seq<|wp_seq<|a4 _ rfl<|o rfl<|ew anQ rfl rfl h fun bq bl h=>aU ?_
 refine wp_block<|wp_seq<|a4 _ rfl<|aP _ rfl rfl rfl (gn rfl rfl rfl)<|o rfl<|aU<|eb h rfl (fun _ h=>?_) fun _ h=>?_
 ·refine wp_seq<|a4 _ rfl<|o rfl<|o rfl<|aU<|wp_ret ?_
  exact v9 h rfl rfl
 ·refine vQ (bC:=Bool) (eM:=fun (s:Bool) w=>Dg bf jD s w j) (dp:=fun g (s:Bool)=>ae (ae (ae (g) 0 (.int .i64 (bf))) 1 (.float .f64 (jD))) 20 (.bool (s))) ?_ ?_
  ·rintro lL g b3 h
   unfold Dg at h
   refine eb h rfl (fun _ h=>?_) fun _ h=>?_
   ·refine wp_seq<|wp_seq<|a4 _ rfl<|o rfl<|aP _ rfl rfl rfl (gn rfl rfl rfl)<|aU<|eb h rfl (fun _ h=>?_) fun _ h=>?_
    ·refine wp_seq<|a4 _ rfl<|o rfl<|o rfl<|aU<|wp_ret ?_
     exact v9 h rfl rfl
    ·refine wp_skip<|wp_seq<|a4 _ rfl<|o rfl<|o rfl<|aU<|wp_ret ?_
     exact v9 h rfl rfl
   ·refine wp_skip<|wp_seq<|a4 _ rfl<|o rfl<|ew ana rfl rfl h fun dB bJ h=>o rfl<|fb _ _ rfl rfl rfl<|fb _ _ rfl rfl rfl<|o rfl<|o rfl<|aU<|wp_seq ?_
    refine a4 _ rfl<|o rfl<|ew anb rfl rfl h fun g8 cu h=>?_
    obtain⟨d12,apB,h⟩:=h
    refine aP 32 rfl rfl rfl (Sg (e:=g8) (o:=d12) rfl Tryz.underlying22 Tryz.underlying2 rfl apB)<|o rfl<|aP _ rfl rfl rfl (vM rfl rfl rfl)<|o rfl<|o rfl<|aU<|wp_seq<|a4 _ rfl<|o rfl<|aP _ rfl rfl rfl (jw rfl rfl rfl)<|o rfl<|aP _ rfl rfl rfl (jw rfl rfl rfl) ?_
    refine aP 39 rfl rfl rfl (LD (a:=(decide (bf<(0:Int)))) (e:=(decide (d12<(0:Int)))) rfl Tryz.underlying4 rfl rfl)<|o rfl<|aU<|wp_seq<|a4 _ rfl<|o rfl<|ew YW rfl rfl h fun dt cA h=>o rfl<|ew YW rfl rfl h fun mf dU h=>ew anc rfl rfl h fun ea db h=>o rfl<|fb _ _ rfl rfl rfl ?_
    refine fb _ _ rfl rfl rfl<|o rfl<|o rfl<|aU<|wp_seq<|wp_seq<|a4 _ rfl<|o rfl<|aP _ rfl rfl rfl (gn rfl rfl rfl)<|o rfl<|bn (g:=(ea.1==(0:Int))) (d:=(some 51)) rfl (.b7 2 50 true (ea.1==(0:Int)) rfl rfl rfl rfl) rfl (fun O=>cs (v:=.int .u64 (ea.2)) rfl rfl)<|bn (g:=(ea.1==(0:Int))) (d:=(some 52)) rfl (.b7 2 50 true (ea.1==(0:Int)) rfl rfl rfl rfl) rfl (fun O=>gn (k:=.u64) (a:=ea.2) (e:=(0:Int)) rfl (cc O) rfl) ?_
    refine aP 53 rfl rfl rfl (lH (a:=(ea.1==(0:Int))) (e:=(ea.2==(0:Int))) rfl rfl rfl rfl)<|aU<|eb h rfl (fun _ h=>?_) fun _ h=>?_
    ·refine wp_seq<|a4 _ rfl<|o rfl<|o rfl<|aU<|wp_ret ?_
     exact v9 h rfl rfl
    ·refine wp_skip<|wp_seq<|wp_seq<|a4 _ rfl<|o rfl<|aP _ rfl rfl rfl (AE rfl rfl rfl)<|aU<|eb h rfl (fun _ h=>?_) fun _ h=>?_
     ·refine wp_seq<|wp_seq<|a4 _ rfl<|o rfl<|aP _ rfl rfl rfl (g1 rfl rfl rfl)<|o rfl<|bn (g:=(!(ea.1 != (0:Int)))) (d:=(some 59)) rfl (.no 2 58 true (ea.1 != (0:Int)) rfl rfl rfl rfl) rfl (fun O=>cs (v:=.int .i64 ((IntKind.i64.wrap (dB.2-(53:Int))))) rfl rfl)<|bn (g:=(!(ea.1 != (0:Int)))) (d:=(some 60)) rfl (.no 2 58 true (ea.1 != (0:Int)) rfl rfl rfl rfl) rfl (fun O=>AE (k:=.i64) (a:=(IntKind.i64.wrap (dB.2-(53:Int)))) (e:=(64:Int)) rfl (cc O) rfl)<|aP 61 rfl rfl rfl (i_ (a:=(ea.1 != (0:Int))) (c:=(decide ((IntKind.i64.wrap (dB.2-(53:Int)))≥(64:Int)))) rfl rfl rfl rfl)<|o rfl<|mT (bC:=Bool) (eM:=fun (s:Bool) w=>I8 bf dB d12 ea s w j) (dp:=fun g (s:Bool)=>ae (ae (ae (ae (g) 9 (.int .i64 ((IntKind.i64.wrap (dB.2-(53:Int)))))) 10 (.bool ((!((decide (bf<(0:Int)))==(decide (d12<(0:Int)))))))) 12 (.int .u64 (ea.2))) 68 (.bool (s))) [7,8,9,10,11,12] [] ?_ ?_
      ·rintro afj g eJ h
       unfold I8 at h
       refine aU<|eb h rfl (fun _ h=>?_) fun _ h=>?_
       ·refine wp_seq<|a4 _ rfl<|o rfl<|o rfl<|aU<|wp_ret ?_
        exact v9 h rfl rfl
       ·refine wp_skip<|wp_seq<|a4 _ rfl<|o rfl<|o rfl<|o rfl<|aP 72 rfl rfl rfl (sr (a:=(IntKind.i64.wrap (dB.2-(53:Int)))) rfl Tryz.underlying3 Tryz.underlying270 rfl) ?_
        obtain⟨d21,apD,h⟩:=h
        refine aP 73 rfl rfl rfl (H_ (a:=ea.2) (e:=(IntKind.u64.wrap (IntKind.i64.wrap (dB.2-(53:Int))))) (r:=d21) rfl rfl rfl apD)<|ew YX rfl rfl h fun mS fa h=>fb _ _ rfl rfl rfl<|fb _ _ rfl rfl rfl<|o rfl<|o rfl<|aU<|wp_ret ?_
        exact v9 h rfl rfl
      ·refine iJ (e:=((ea.1 != (0:Int))||(decide ((IntKind.i64.wrap (dB.2-(53:Int)))≥(64:Int))))) h (fun lk h=>?_) (fun lk h=>?_)
       ·refine da (d:=(some 63)) rfl (.av 6 false 62 ((ea.1 != (0:Int))||(decide ((IntKind.i64.wrap (dB.2-(53:Int)))≥(64:Int)))) rfl rfl rfl lk) rfl<|da (d:=(some 64)) rfl (.av 6 false 62 ((ea.1 != (0:Int))||(decide ((IntKind.i64.wrap (dB.2-(53:Int)))≥(64:Int)))) rfl rfl rfl lk) rfl<|da (d:=(some 65)) rfl (.av 6 false 62 ((ea.1 != (0:Int))||(decide ((IntKind.i64.wrap (dB.2-(53:Int)))≥(64:Int)))) rfl rfl rfl lk) rfl<|da (d:=(some 66)) rfl (.av 6 false 62 ((ea.1 != (0:Int))||(decide ((IntKind.i64.wrap (dB.2-(53:Int)))≥(64:Int)))) rfl rfl rfl lk) rfl<|da (d:=(some 67)) rfl (.av 6 false 62 ((ea.1 != (0:Int))||(decide ((IntKind.i64.wrap (dB.2-(53:Int)))≥(64:Int)))) rfl rfl rfl lk) rfl<|aP 68 rfl rfl rfl (hD (v:=.bool (true)) (e:=((ea.1 != (0:Int))||(decide ((IntKind.i64.wrap (dB.2-(53:Int)))≥(64:Int))))) rfl rfl lk rfl)<|aU ?_
        exact⟨(true),_,aX (aC (aC (aC (aC rfl rfl) rfl) rfl) rfl),h⟩
       ·refine eg (d:=(some 63)) rfl (.av 6 false 62 ((ea.1 != (0:Int))||(decide ((IntKind.i64.wrap (dB.2-(53:Int)))≥(64:Int)))) rfl rfl rfl lk) rfl (cs (v:=.int .u64 (ea.2)) rfl rfl)<|ey rfl (.av 6 false 62 ((ea.1 != (0:Int))||(decide ((IntKind.i64.wrap (dB.2-(53:Int)))≥(64:Int)))) rfl rfl rfl lk) (gx (d:=(some 64)) rfl (fD (k:=154) (m:=[.int .u64 (ea.2)]) rfl ane rfl) h ?_)
        intro fk fe h
        refine eg (d:=(some 65)) rfl (.av 6 false 62 ((ea.1 != (0:Int))||(decide ((IntKind.i64.wrap (dB.2-(53:Int)))≥(64:Int)))) rfl rfl rfl lk) rfl (cs (v:=.int .i64 ((IntKind.i64.wrap (dB.2-(53:Int))))) rfl rfl)<|eg (d:=(some 66)) rfl (.av 6 false 62 ((ea.1 != (0:Int))||(decide ((IntKind.i64.wrap (dB.2-(53:Int)))≥(64:Int)))) rfl rfl rfl lk) rfl (ni (a:=fk) (e:=(IntKind.i64.wrap (dB.2-(53:Int)))) rfl rfl rfl)<|eg (d:=(some 67)) rfl (.av 6 false 62 ((ea.1 != (0:Int))||(decide ((IntKind.i64.wrap (dB.2-(53:Int)))≥(64:Int)))) rfl rfl rfl lk) rfl (ss (a:=(IntKind.i64.wrap (fk+(IntKind.i64.wrap (dB.2-(53:Int)))))) (e:=(64:Int)) rfl rfl rfl)<|aP 68 rfl rfl rfl (iB (v:=.bool ((decide ((IntKind.i64.wrap (fk+(IntKind.i64.wrap (dB.2-(53:Int)))))>(64:Int))))) (e:=((ea.1 != (0:Int))||(decide ((IntKind.i64.wrap (dB.2-(53:Int)))≥(64:Int))))) rfl rfl lk rfl)<|aU ?_
        exact⟨((decide ((IntKind.i64.wrap (fk+(IntKind.i64.wrap (dB.2-(53:Int)))))>(64:Int)))),_,aX (aC (aC (aC (aC rfl rfl) rfl) rfl) rfl),h⟩
     ·refine wp_skip<|wp_seq<|a4 _ rfl<|o rfl<|o rfl<|o rfl<|aP 81 rfl rfl rfl (LG (a:=(IntKind.i64.wrap (dB.2-(53:Int)))) rfl rfl)<|aP 82 rfl rfl rfl (sr (a:=(IntKind.i64.wrap (0-(IntKind.i64.wrap (dB.2-(53:Int)))))) rfl Tryz.underlying3 Tryz.underlying270 rfl)<|ew anf rfl rfl h fun dX gh h=>o rfl<|fb _ _ rfl rfl rfl<|fb _ _ rfl rfl rfl ?_
      refine fb _ _ rfl rfl rfl<|o rfl<|o rfl<|o rfl<|aU<|wp_seq<|wp_seq<|a4 _ rfl<|o rfl<|aP _ rfl rfl rfl (nj rfl rfl)<|o rfl<|bn (g:=(!(!dX.2.2))) (d:=(some 90)) rfl (.no 2 89 true (!dX.2.2) rfl rfl rfl rfl) rfl (fun O=>cs (v:=.bool ((!((decide (bf<(0:Int)))==(decide (d12<(0:Int))))))) rfl rfl) ?_
      refine bn (g:=(!(!dX.2.2))) (d:=(some 91)) rfl (.no 2 89 true (!dX.2.2) rfl rfl rfl rfl) rfl (fun O=>cs (v:=.bool ((!((decide (bf<(0:Int)))==(decide (d12<(0:Int))))))) rfl (cc O))<|bn (g:=((!(!dX.2.2))&&(!((decide (bf<(0:Int)))==(decide (d12<(0:Int))))))) (d:=(some 92)) rfl (.b7 4 91 (!(!dX.2.2)) (!((decide (bf<(0:Int)))==(decide (d12<(0:Int))))) rfl rfl rfl rfl) rfl (fun O=>cs (v:=.bool (dX.2.1)) rfl rfl)<|bn (g:=(!(!dX.2.2))) (d:=(some 93)) rfl (.no 2 89 true (!dX.2.2) rfl rfl rfl rfl) rfl (fun O=>vL (cX:=(!(!dX.2.2))) (a:=(!((decide (bf<(0:Int)))==(decide (d12<(0:Int)))))) (e:=dX.2.1) O rfl rfl rfl rfl)<|bn (g:=(!(!dX.2.2))) (d:=(some 94)) rfl (.no 2 89 true (!dX.2.2) rfl rfl rfl rfl) rfl (fun O=>cs (v:=.bool (((!((decide (bf<(0:Int)))==(decide (d12<(0:Int)))))&&dX.2.1))) rfl (cc O))<|bn (g:=((!(!dX.2.2))&&((!((decide (bf<(0:Int)))==(decide (d12<(0:Int)))))&&dX.2.1))) (d:=(some 95)) rfl (.b7 7 94 (!(!dX.2.2)) ((!((decide (bf<(0:Int)))==(decide (d12<(0:Int)))))&&dX.2.1) rfl rfl rfl rfl) rfl (fun O=>cs (v:=.int .u64 (dX.1)) rfl rfl)<|bn (g:=((!(!dX.2.2))&&((!((decide (bf<(0:Int)))==(decide (d12<(0:Int)))))&&dX.2.1))) (d:=(some 96)) rfl (.b7 7 94 (!(!dX.2.2)) ((!((decide (bf<(0:Int)))==(decide (d12<(0:Int)))))&&dX.2.1) rfl rfl rfl rfl) rfl (fun O=>AE (k:=.u64) (a:=dX.1) (e:=(9223372036854775808:Int)) rfl (cc O) rfl)<|bn (g:=(!(!dX.2.2))) (d:=(some 97)) rfl (.no 2 89 true (!dX.2.2) rfl rfl rfl rfl) rfl (fun O=>vL (cX:=(!(!dX.2.2))) (a:=((!((decide (bf<(0:Int)))==(decide (d12<(0:Int)))))&&dX.2.1)) (e:=(decide (dX.1≥(9223372036854775808:Int)))) O rfl rfl rfl rfl)<|aP 98 rfl rfl rfl (i_ (a:=(!dX.2.2)) (c:=(((!((decide (bf<(0:Int)))==(decide (d12<(0:Int)))))&&dX.2.1)&&(decide (dX.1≥(9223372036854775808:Int))))) rfl rfl rfl rfl)<|aU<|eb h rfl (fun _ h=>?_) fun _ h=>?_
      ·refine wp_seq<|a4 _ rfl<|o rfl<|o rfl<|aU<|wp_ret ?_
       exact v9 h rfl rfl
      ·refine wp_skip<|vQ (bC:=Int) (eM:=fun (s:Int) w=>Bc bf d12 s w j) (dp:=fun g (s:Int)=>ae (ae (g) 10 (.bool ((!((decide (bf<(0:Int)))==(decide (d12<(0:Int)))))))) 13 (.int .u64 (s))) ?_ ?_
       ·rintro adf g hX h
        unfold Bc at h
        refine wp_seq<|a4 _ rfl<|o rfl<|o rfl<|ew YX rfl rfl h fun sw g6 h=>fb _ _ rfl rfl rfl<|fb _ _ rfl rfl rfl<|o rfl<|o rfl<|aU<|wp_ret ?_
        exact v9 h rfl rfl
       ·refine wp_seq<|a4 _ rfl<|o rfl<|o rfl<|bn (g:=(!((decide (bf<(0:Int)))==(decide (d12<(0:Int)))))) (d:=(some 101)) rfl (.b7 1 100 true (!((decide (bf<(0:Int)))==(decide (d12<(0:Int))))) rfl rfl rfl rfl) rfl (fun O=>cs (v:=.bool (dX.2.1)) rfl rfl)<|aP 102 rfl rfl rfl (lH (a:=(!((decide (bf<(0:Int)))==(decide (d12<(0:Int)))))) (e:=dX.2.1) rfl rfl rfl rfl)<|aU<|eb h rfl (fun _ h=>?_) fun _ h=>?_
        ·refine a4 _ rfl<|o rfl<|aP _ rfl rfl rfl (ni rfl rfl rfl)<|o rfl<|aU ?_
         exact⟨((IntKind.u64.wrap (dX.1+(1:Int)))),_,aX (aC (aC rfl rfl) rfl),h⟩
        ·refine wp_skip ?_
         exact⟨(dX.1),_,aX (aC (aC rfl rfl) rfl),h⟩
  ·refine wp_seq<|a4 _ rfl<|aP _ rfl rfl rfl (gn rfl rfl rfl)<|o rfl<|aU<|eb h rfl (fun _ h=>?_) fun _ h=>?_
   ·refine wp_skip ?_
    exact⟨((bq==(1:Int))),_,aX (aC (aC (aC rfl rfl) rfl) rfl),h⟩
   ·refine a4 _ rfl<|aP _ rfl rfl rfl (gn rfl rfl rfl)<|o rfl<|aU ?_
    exact⟨((bq==(6:Int))),_,aX (aC (aC (aC rfl rfl) rfl) rfl),h⟩
end bj
end Go.Proofs.YthaobmpdjcoheaaGreat
