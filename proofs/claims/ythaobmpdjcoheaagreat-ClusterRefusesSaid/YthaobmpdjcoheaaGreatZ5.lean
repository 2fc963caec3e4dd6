/- Own texts of this claim, part 5: short, merged. -/
import Derived.Test.YthaobmpdjcoheaaGreatZ1
set_option maxRecDepth 100000
set_option maxHeartbeats 40000000
set_option linter.defProp false
set_option linter.unusedVariables false
set_option linter.unusedSimpArgs false
namespace Go.Proofs.YthaobmpdjcoheaaGreat
namespace bb
def CZ(bd:aL)(ic:Int)(cB:Int)(ez:World)(j:Unit→World→Prop):Prop:=M Pg 77 [.pointer (bd),.int .i64 (ic),eE.enc ((⟨(4:Int),(⟨cB,(0:Int),(0:Int),false⟩:iv),false,(0:Int)⟩:ij))] dU ez fun fI eo=>j () eo
def CY(bd:aL)(ic:Int)(a3:Addr)(cB:Int)(b7:Addr)(kn:Bool)(pj:Bool)(ed:World)(j:Unit→World→Prop):Prop:=if pj=true then (j () ed) else (ex (fun x=>(!kn)=true→(L bf (a3.add 5) ed) x) fun nL=>if ((!kn)&&nL)=true then (de ed fun fK=>ex (L aE (b7.add 3) fK) fun hg=>ex (L (B .i64) (a3.add 6) fK) fun kP=>M Pg 63 [.pointer (hg),.int .i64 (kP)] (B .i64) fK fun dP fW=>CZ bd ic cB fW j) else (CZ bd ic cB ed j))
def CX(bd:aL)(ic:Int)(a3:Addr)(cB:Int)(b7:Addr)(eK:Addr)(kn:Bool)(cS:World)(j:Unit→World→Prop):Prop:=de cS fun h3=>if (!kn)=true then (ex (L aE (b7.add 4) h3) fun mn=>ex (L fL eK h3) fun kv=>M Pg 62 [.pointer (mn),fL.enc (kv)] (B .i64) h3 fun qo jd=>CY bd ic a3 cB b7 kn (qo != (0:Int)) jd j) else (CY bd ic a3 cB b7 kn false h3 j)
def Nt(bd:aL)(ic:Int)(wP:ij)(w:World)(j:Unit→World→Prop):Prop:=bG 62 eE wP w fun a3 a7=>ex (L (B .i64) ((a3.add 1).add 0) a7) fun cB=>ex (bC bd) fun b7=>ex (L aE (b7.add 4) a7) fun cM=>M Pg 30 [.pointer (cM)] aE a7 fun ca bU=>M Pg 10 [.pointer (ca),.int .i64 (cB)] (bo (B .i64) (B .i64)) bU fun cE cF=>bG 142 fL Di cF fun eK c1=>ba fL eK (⟨(4:Int),(0:Int),cB,(0:Int),(0:Int),false⟩:jI) c1 fun dJ=>ex (L bf (a3.add 5) dJ) fun zf=>if zf=true then (ex (L (B .i64) (a3.add 6) dJ) fun Tl=>ba fL eK (⟨(3:Int),Tl,cB,(0:Int),(0:Int),false⟩:jI) dJ fun rD=>ex (fun x=>(cE.1==(2:Int))=true→(L (B .i64) (a3.add 6) rD) x) fun nM=>CX bd ic a3 cB b7 eK ((cE.1==(2:Int))&&(cE.2==nM)) rD j) else (CX bd ic a3 cB b7 eK (cE.1==(3:Int)) dJ j)
theorem ajf{bd:aL}{ic:Int}{wP:ij}{w:World}{j:Unit→World→Prop}(h:Nt bd ic wP w j):M Pg 85 [.pointer (bd),.int .i64 (ic),eE.enc (wP)] dU w j:=by
 unfold Nt at h
 refine q0 72 Tryz.func85 rfl rfl (Nat.le_of_ble_eq_true rfl)<|wp_seq<|bq _ rfl ?_
 obtain⟨a3,a7,GI,Ha,h⟩:=pR h
 refine a2 5 rfl rfl rfl (ue (u:=wP) rfl Ey rfl GI Ha)<|bc<|wp_seq<|bq _ rfl<|ho _ _ _ Tryz.underlying62 Ex rfl rfl rfl<|ho _ _ _ Tryz.underlying60 dj rfl rfl rfl<|hR dj h rfl rfl fun cB _ h=>y rfl<|bc<|wp_seq<|bq _ rfl<|y rfl ?_
 refine Ox h rfl rfl fun b7 ZC h=>ho _ _ _ Tryz.underlying101 EB rfl rfl rfl<|hR EB h rfl rfl fun cM _ h=>ft am7 rfl rfl h fun ca bU h=>y rfl<|ft amA rfl rfl h fun cE cF h=>y rfl<|gT _ _ rfl rfl rfl<|gT _ _ rfl rfl rfl<|y rfl<|y rfl<|bc ?_
 refine wp_seq<|bq _ rfl<|y rfl<|a2 25 rfl rfl rfl (RI (a_:=(4:Int)) (dV:=cB) rfl rfl rfl)<|oZ r6 wE h rfl fun eK c1 h=>jN r6 h rfl rfl rfl fun dJ h=>bc<|wp_seq<|bq _ rfl<|y rfl<|a2 _ rfl rfl rfl (iH rfl rfl rfl)<|y rfl ?_
 refine bc<|Ar (bp:=Bool) (eV:=fun (s:Bool) w=>CX bd ic a3 cB b7 eK s w j) (dp:=fun g (s:Bool)=>ae (ae (ae (ae (ae (ae (g) 0 (.pointer (bd))) 1 (.int .i64 (ic))) 5 (.pointer (some a3))) 6 (.int .i64 (cB))) 9 (.pointer (some eK))) 10 (.bool (s))) ?_ ?_
 ·rintro kn g cS h
  unfold CX at h
  refine wp_seq<|Ar (bp:=Bool) (eV:=fun (s:Bool) w=>CY bd ic a3 cB b7 kn s w j) (dp:=fun g (s:Bool)=>ae (ae (ae (ae (ae (ae (g) 0 (.pointer (bd))) 1 (.int .i64 (ic))) 5 (.pointer (some a3))) 6 (.int .i64 (cB))) 10 (.bool (kn))) 52 (.bool (s))) ?_ ?_
  ·rintro pj g ed h
   unfold CY at h
   refine fB h rfl (fun _ h=>?_) fun _ h=>?_
   ·refine wp_ret ?_
    exact n4 rfl .nil ⟨(),rfl,h⟩
   ·refine wp_skip<|Ar (bp:=Unit) (eV:=fun (s:Unit) w=>CZ bd ic cB w j) (dp:=fun g (s:Unit)=>ae (ae (ae (g) 0 (.pointer (bd))) 1 (.int .i64 (ic))) 6 (.int .i64 (cB))) ?_ ?_
    ·rintro⟨⟩ g ez h
     unfold CZ at h
     refine bq _ rfl<|y rfl<|y rfl<|y rfl<|a2 69 rfl rfl rfl (RQ (a_:=cB) rfl rfl)<|a2 70 rfl rfl rfl (RR (a_:=(4:Int)) (bM:=(⟨cB,(0:Int),(0:Int),false⟩:iv)) rfl rfl rfl)<|ft anm rfl rfl h fun fI eo h=>bc ?_
     exact Yz rfl .nil ⟨(),rfl,h⟩
    ·refine wp_seq<|bq _ rfl<|y rfl<|a2 _ rfl rfl rfl (ru rfl rfl)<|y rfl<|fo 56 2 55 rfl rfl rfl rfl rfl (fun R=>lU (a:=a3) (off:=5) rfl Tryz.underlying62 rfl rfl oB (by decide) rfl) ?_
     obtain⟨nL,P9,h⟩:=h
     refine fo 57 2 55 rfl rfl rfl rfl rfl (fun R=>j9 (T:=bf) (u:=nL) (a:=(a3.add 5)) rfl oB (da R) (P9 R))<|a2 58 rfl rfl rfl (m3 rfl rfl rfl rfl)<|bc<|fB h rfl (fun _ h=>?_) fun _ h=>?_
     ·obtain⟨fK,ari,h⟩:=ou h
      refine po 7 mixed rfl (by kernel_rfl) (by intro c a d v w h; cases d<;>exact h) ari (fun ak=>?_)
      refine gf 0 59 (.pointer (bd)) ak rfl rfl<|od 1 60 ZC ak rfl rfl<|hn 2 61 b7 3 Tryz.underlying101 K0 ak rfl rfl rfl<|hn 4 63 a3 6 Tryz.underlying62 cU ak rfl rfl rfl ?_
      obtain⟨hg,P_,h⟩:=h
      refine h7 3 62 P_ K0 ak rfl rfl ?_
      obtain⟨kP,Qa,h⟩:=h
      refine h7 5 64 Qa cU ak rfl rfl<|fk (i:=6) (by kernel_rfl)<|hG rfl (.free rfl) (gR (d:=(some 65)) rfl (fR (k:=63) (m:=[.pointer (hg),.int .i64 (kP)]) rfl anh rfl) h ?_)
      intro dP fW h
      refine⟨(hi (by kernel_rfl) (hi (by kernel_rfl) im)),?_⟩
      refine kH (by kernel_rfl) ?_
      exact⟨(),_,arr (aP (aP (aP rfl rfl) rfl) rfl),h⟩
     ·refine wp_skip ?_
      exact⟨(),_,arr (aP (aP (aP rfl rfl) rfl) rfl),h⟩
  ·obtain⟨h3,P2,h⟩:=ou h
   refine po 11 mixed rfl (by kernel_rfl) (by intro c a d v w h; cases d<;>exact h) P2 (fun ak=>?_)
   refine gf 0 42 (.bool (kn)) ak rfl rfl<|fc 1 43 ak rfl rfl rfl (fun _=>ru (l:=kn) rfl rfl)<|gf 2 44 (.bool ((!kn))) ak rfl rfl<|jb (l:=(!kn)) h (fun pH h=>?_) (fun pH h=>?_)
   ·refine eO (i:=3) (d:=(some 45)) ak (by kernel_rfl) (by kernel_rfl) rfl (.az 2 true 44 (!kn) rfl rfl rfl pH) rfl (fun _=>cQ (v:=.pointer (bd)) rfl rfl)<|eO (i:=4) (d:=(some 46)) ak (by kernel_rfl) (by kernel_rfl) rfl (.az 2 true 44 (!kn) rfl rfl rfl pH) rfl (fun _=>mb (a:=b7) rfl (congrArg Value.pointer ZC))<|eO (i:=5) (d:=(some 47)) ak (by kernel_rfl) (by kernel_rfl) rfl (.az 2 true 44 (!kn) rfl rfl rfl pH) rfl (fun _=>lU (a:=b7) (off:=4) rfl Tryz.underlying101 rfl rfl EB (by decide) rfl) ?_
    obtain⟨mn,Hc,h⟩:=h
    refine tb (i:=6) (d:=(some 48)) (fun A=>(L aE (b7.add 4) A) mn) ak (by kernel_rfl) (by kernel_rfl) rfl (.az 2 true 44 (!kn) rfl rfl rfl pH) rfl (fun A ab=>j9 (T:=aE) (u:=mn) (a:=(b7.add 4)) rfl EB rfl ab) Hc ?_
    obtain⟨kv,Hd,h⟩:=h
    refine tb (i:=7) (d:=(some 49)) (fun A=>(L fL eK A) kv) ak (by kernel_rfl) (by kernel_rfl) rfl (.az 2 true 44 (!kn) rfl rfl rfl pH) rfl (fun A ab=>j9 (T:=fL) (u:=kv) (a:=eK) rfl r6 rfl ab) Hd<|fk (i:=8) (by kernel_rfl)<|hG rfl (.az 2 true 44 (!kn) rfl rfl rfl pH) (gR (d:=(some 50)) rfl (fR (k:=62) (m:=[.pointer (mn),fL.enc (kv)]) rfl ang rfl) h ?_)
    intro qo jd h
    refine⟨(hi (by kernel_rfl) (hi (by kernel_rfl) im)),?_⟩
    refine eO (i:=9) (d:=(some 51)) ak (by kernel_rfl) (by kernel_rfl) rfl (.az 2 true 44 (!kn) rfl rfl rfl pH) rfl (fun _=>hc (a:=qo) (l:=(0:Int)) rfl rfl rfl)<|fc 10 52 ak rfl rfl rfl (fun _=>hX (v:=.bool ((qo != (0:Int)))) (l:=(!kn)) rfl rfl pH rfl)<|kH (by kernel_rfl) ?_
    exact⟨((qo != (0:Int))),_,arr (aP (aP (aP (aP (aP (aP rfl rfl) rfl) rfl) rfl) rfl) rfl),h⟩
   ·refine dM 3 45 ak rfl (.az 2 true 44 (!kn) rfl rfl rfl pH) rfl<|dM 4 46 ak rfl (.az 2 true 44 (!kn) rfl rfl rfl pH) rfl<|dM 5 47 ak rfl (.az 2 true 44 (!kn) rfl rfl rfl pH) rfl<|dM 6 48 ak rfl (.az 2 true 44 (!kn) rfl rfl rfl pH) rfl<|dM 7 49 ak rfl (.az 2 true 44 (!kn) rfl rfl rfl pH) rfl<|fk (i:=8) (by kernel_rfl)<|lT (d:=(some 50)) rfl (.az 2 true 44 (!kn) rfl rfl rfl pH) rfl ⟨fun _ _ _ h=>h,?_⟩
    refine dM 9 51 ak rfl (.az 2 true 44 (!kn) rfl rfl rfl pH) rfl<|fc 10 52 ak rfl rfl rfl (fun _=>iS (v:=.bool (false)) (l:=(!kn)) rfl rfl pH rfl)<|kH (by kernel_rfl) ?_
    exact⟨(false),_,arr (aP (aP (aP (aP (aP (aP rfl rfl) rfl) rfl) rfl) rfl) rfl),h⟩
 ·refine wp_seq<|bq _ rfl<|ho _ _ _ Tryz.underlying62 oB rfl rfl rfl<|hR oB h rfl rfl fun zf _ h=>bc<|fB h rfl (fun _ h=>?_) fun _ h=>?_
  ·refine wp_seq<|bq _ rfl<|ho _ _ _ Tryz.underlying62 cU rfl rfl rfl<|hR cU h rfl rfl fun Tl _ h=>y rfl<|a2 33 rfl rfl rfl (RG (a_:=(3:Int)) (bM:=Tl) (dV:=cB) rfl rfl rfl rfl)<|jN r6 h rfl rfl rfl fun rD h=>bc<|bq _ rfl<|y rfl<|a2 _ rfl rfl rfl (iH rfl rfl rfl)<|y rfl ?_
   refine fo 37 2 36 rfl rfl rfl rfl rfl (fun R=>cQ (v:=.int .i64 (cE.2)) rfl rfl)<|fo 38 2 36 rfl rfl rfl rfl rfl (fun R=>lU (a:=a3) (off:=6) rfl Tryz.underlying62 rfl rfl cU (by decide) rfl) ?_
   obtain⟨nM,Qb,h⟩:=h
   refine fo 39 2 36 rfl rfl rfl rfl rfl (fun R=>j9 (T:=(B .i64)) (u:=nM) (a:=(a3.add 6)) rfl cU (da R) (Qb R))<|fo 40 2 36 rfl rfl rfl rfl rfl (fun R=>iH (k:=.i64) (a:=cE.2) (l:=nM) rfl (da R) (da R))<|a2 41 rfl rfl rfl (m3 rfl rfl rfl rfl)<|y rfl<|bc ?_
   exact⟨(((cE.1==(2:Int))&&(cE.2==nM))),_,arr (aP (aP (aP (aP (aP (aP rfl rfl) rfl) rfl) rfl) rfl) rfl),h⟩
  ·refine wp_skip ?_
   exact⟨((cE.1==(3:Int))),_,arr (aP (aP (aP (aP (aP (aP rfl rfl) rfl) rfl) rfl) rfl) rfl),h⟩
def WG(dk:aL)(jT:Bool)(w:World)(j:Int→World→Prop):Prop:=ex (bC dk) fun aA=>ex (L (B .i64) (aA.add 12) w) fun c6=>if (c6==(0:Int))=true then (j (176:Int) w) else (de w fun a7=>M Pg 136 [.bool (jT)] (B .i64) a7 fun b0 bT=>ex (oh (aA.add 10) 2 1 b0) fun cH=>ba bf cH true bT fun bU=>j (0:Int) bU)
theorem ajg{dk jT w j}(h:WG dk jT w j):M Pg 86 [.pointer dk,.bool jT] (B .i64) w j:=by
 have fY:=eg 4 (du [0,1,3,4,2,5,6] .e)
 exact bj 16 Tryz.func86 rfl rfl bk
def Nu(eR:Nat)(w:World)(j:Int→World→Prop):Prop:=if (fO .neq eR eR)=true then (j (0:Int) w) else (if ((eR:Int)==(0:Int))=true then (j (4:Int) w) else (if ((eR:Int)==(9223372036854775808:Int))=true then (j (3:Int) w) else (M Pg 138 [.float .f64 (eR),.int .i64 ((-1:Int))] bf w fun ga cm=>if ga=true then (j (1:Int) cm) else (M Pg 138 [.float .f64 (eR),.int .i64 ((1:Int))] bf cm fun cu aU=>if cu=true then (j (6:Int) aU) else (if (fO .lss eR (0:Nat))=true then (j (2:Int) aU) else (j (5:Int) aU))))))
theorem WH{eR w j}(h:Nu eR w j):M Pg 87 [.float .f64 eR] (B .i64) w j:=
 bj 25 Tryz.func87 rfl rfl bk
def WI(jx:Nat)(hO:Nat)(w:World)(j:Int→World→Prop):Prop:=M Pg 139 [.float .f64 (jx)] (B .u64) w fun cA bh=>M Pg 139 [.float .f64 (hO)] (B .u64) bh fun bJ a7=>if (decide (cA<bJ))=true then (j (-1:Int) a7) else (if (decide (cA>bJ))=true then (j (1:Int) a7) else (j (0:Int) a7))
theorem ajh{jx hO w j}(h:WI jx hO w j):M Pg 88 [.float .f64 jx,.float .f64 hO] (B .i64) w j:=
 bj 19 Tryz.func88 rfl rfl bk
def WJ(bd:Int)(w:World)(j:Bool→World→Prop):Prop:=j ((decide (bd≥(0:Int)))&&(decide (bd≤(1125899906842624:Int)))) w
theorem aji{bd w j}(h:WJ bd w j):M Pg 89 [.int .i64 bd] bf w j:=
 bj 9 Tryz.func89 rfl rfl bk
def Nw(b0:(aL×af×Int))(eJ:Addr)(pY:Int)(cg:World)(l1:Int→World→Prop)(j:(aL×Int)→World→Prop):Prop:=if (decide (pY<(b0.2.1.len:Int)))=true then (ex (cD b0.2.1 1 pY) fun gr=>ex (L X gr cg) fun dm=>M Pg 141 [X.enc (dm)] (bo fL bf) cg fun gv cS=>bG 142 fL Di cS fun iV ez=>ba fL iV gv.1 ez fun eo=>if (!gv.2)=true then (j ((none:Option Addr),(191:Int)) eo) else (ex (L fL iV eo) fun iu=>M Pg 115 [.pointer ((some eJ)),fL.enc (iu)] (B .i64) eo fun w0 eh=>l1 ((IntKind.i64.wrap (pY+(1:Int)))) eh)) else (j ((some eJ),(0:Int)) cg)
def WK(c5:aL)(ny:Int)(ui:Nat)(w:World)(j:(aL×Int)→World→Prop):Prop:=M Pg 38 [.float .f64 (ui)] (B .i64) w fun cu aU=>if (cu != (0:Int))=true then (j ((none:Option Addr),(190:Int)) aU) else (M Pg 91 [.pointer (c5),.int .i64 (ny)] (mj aE X (B .i64)) aU fun b0 bT=>if (b0.2.2 != (0:Int))=true then (j ((none:Option Addr),b0.2.2) bT) else (M Pg 140 [.float .f64 (ui)] (bo aE (B .i64)) bT fun fj bA=>bG 150 A2 (⟨b0.1,fj.1⟩:xq) bA fun eJ cF=>eZ (fun (s:Int) w aa=>Nw b0 eJ s w aa j) ((0:Int)) cF))
theorem ajk{c5 ny ui w j}(h:WK c5 ny ui w j):M Pg 90 [.pointer c5,.int .i64 ny,.float .f64 ui] (bo aE (B .i64)) w j:=by
 have iQ:=fun {b0:(aL×af×Int)} {eJ}=>hb (bp:=Int) 10 (fun s w aa=>Nw b0 eJ s w aa j) (fun g s=>ae (ae (ae (ae g 13 (.pointer ((some eJ)))) 40 (X.enc (b0.2.1))) 41 (.int .i64 ((b0.2.1.len:Int)))) 42 (.int .i64 s))
 exact bj 58 Tryz.func90 rfl rfl bk
def AT(c5:aL)(ny:Int)(bJ:(af×Int))(Gq:Int)(bA:World)(j:(aL×af×Int)→World→Prop):Prop:=if (Gq != (0:Int))=true then (j ((none:Option Addr),(⟨none,0,0⟩:af),Gq) bA) else (bG 238 A7 (⟨(⟨(bJ.1.len:Int),(bJ.1.len:Int)⟩:sy),c5,ny,false⟩:tv) bA fun dy cd=>j ((some dy),bJ.1,(0:Int)) cd)
def Nx(c5:aL)(ny:Int)(w:World)(j:(aL×af×Int)→World→Prop):Prop:=if c5.isNone=true then (j ((none:Option Addr),(⟨none,0,0⟩:af),(80:Int)) w) else (M Pg 142 [.pointer (c5),.int .i64 (ny)] (bo X (B .i64)) w fun cA bh=>if (cA.2 != (0:Int))=true then (j ((none:Option Addr),(⟨none,0,0⟩:af),cA.2) bh) else (M Pg 143 [X.enc (cA.1)] (bo X (B .i64)) bh fun bJ a7=>if (decide (bJ.2<(cA.1.len:Int)))=true then (ex (Sub cA.1 1 0 bJ.2 bJ.2) fun Sn=>M Pg 144 [.pointer (c5),.int .i64 (ny),X.enc (Sn)] (B .i64) a7 fun dw cg=>AT c5 ny bJ dw cg j) else (M Pg 145 [.pointer (c5),.int .i64 (ny)] (B .i64) a7 fun mc dJ=>if (decide (mc<bJ.2))=true then (M Pg 129 [.pointer (c5),.int .i64 (ny)] (B .i64) dJ fun gv cS=>AT c5 ny bJ gv cS j) else (AT c5 ny bJ cA.2 dJ j))))
theorem ajl{c5:aL}{ny:Int}{w:World}{j:(aL×af×Int)→World→Prop}(h:Nx c5 ny w j):M Pg 91 [.pointer (c5),.int .i64 (ny)] (mj aE X (B .i64)) w j:=by
 unfold Nx at h
 refine q0 61 Tryz.func91 rfl rfl (Nat.le_of_ble_eq_true rfl)<|wp_seq<|bq _ rfl<|y rfl<|y rfl<|y rfl<|bc<|wp_seq<|wp_seq<|bq _ rfl<|y rfl<|a2 12 rfl rfl rfl (sd (a:=c5) rfl Tryz.underlying93 rfl rfl) ?_
 refine bc<|fB h rfl (fun _ h=>?_) fun _ h=>?_
 ·refine wp_seq<|bq _ rfl<|y rfl<|y rfl<|y rfl<|bc<|wp_ret ?_
  exact Iz h rfl rfl
 ·refine wp_skip<|wp_seq<|bq _ rfl<|y rfl<|y rfl<|ft amK rfl rfl h fun cA bh h=>y rfl<|gT _ _ rfl rfl rfl<|gT _ _ rfl rfl rfl<|y rfl<|y rfl<|bc ?_
  refine wp_seq<|wp_seq<|bq _ rfl<|y rfl<|a2 _ rfl rfl rfl (hc rfl rfl rfl)<|bc<|fB h rfl (fun _ h=>?_) fun _ h=>?_
  ·refine wp_seq<|bq _ rfl<|y rfl<|y rfl<|y rfl<|y rfl<|bc<|wp_ret ?_
   exact Iz h rfl rfl
  ·refine wp_skip<|wp_seq<|bq _ rfl<|y rfl<|ft amL rfl rfl h fun bJ a7 h=>y rfl<|gT _ _ rfl rfl rfl<|gT _ _ rfl rfl rfl<|y rfl<|y rfl<|bc<|Ar (bp:=Int) (eV:=fun (s:Int) w=>AT c5 ny bJ s w j) (dp:=fun g (s:Int)=>ae (ae (ae (ae (g) 0 (.pointer (c5))) 1 (.int .i64 (ny))) 9 (X.enc (bJ.1))) 8 (.int .i64 (s))) ?_ ?_
   ·rintro Gq g bA h
    unfold AT at h
    refine wp_seq<|wp_seq<|bq _ rfl<|y rfl<|a2 _ rfl rfl rfl (hc rfl rfl rfl)<|bc<|fB h rfl (fun _ h=>?_) fun _ h=>?_
    ·refine wp_seq<|bq _ rfl<|y rfl<|y rfl<|y rfl<|y rfl<|bc<|wp_ret ?_
     exact Iz h rfl rfl
    ·refine wp_skip<|wp_seq<|bq _ rfl<|y rfl<|a2 _ rfl rfl rfl (jV rfl Tryz.underlying185 rfl)<|y rfl<|a2 _ rfl rfl rfl (jV rfl Tryz.underlying185 rfl)<|a2 55 rfl rfl rfl (RK (a_:=(bJ.1.len:Int)) (bM:=(bJ.1.len:Int)) rfl rfl rfl)<|y rfl<|y rfl<|a2 58 rfl rfl rfl (RL (a_:=(⟨(bJ.1.len:Int),(bJ.1.len:Int)⟩:sy)) (bM:=c5) (dV:=ny) rfl rfl rfl rfl) ?_
     obtain⟨dy,cd,sL,PZ,h⟩:=pR h
     refine a2 59 rfl rfl rfl (ue (u:=(⟨(⟨(bJ.1.len:Int),(bJ.1.len:Int)⟩:sy),c5,ny,false⟩:tv)) rfl abY rfl sL PZ)<|y rfl<|y rfl<|y rfl<|y rfl<|bc<|wp_ret ?_
     exact Iz h rfl rfl
   ·refine wp_block<|wp_seq<|bq _ rfl<|y rfl<|y rfl<|a2 _ rfl rfl rfl (jV rfl Tryz.underlying189 rfl)<|a2 _ rfl rfl rfl (ma rfl rfl rfl)<|y rfl<|bc<|fB h rfl (fun _ h=>?_) fun _ h=>?_
    ·refine bq _ rfl<|y rfl<|y rfl<|y rfl<|y rfl<|y rfl ?_
     obtain⟨Sn,aqX,h⟩:=h
     refine a2 37 rfl rfl rfl (R5 (s:=cA.1) (h:=bJ.2) (y:=bJ.2) rfl Tryz.underlying189 HH rfl rfl rfl aqX)<|ft amM rfl rfl h fun dw cg h=>y rfl<|bc ?_
     exact⟨(dw),_,arr (aP (aP (aP (aP rfl rfl) rfl) rfl) rfl),h⟩
    ·refine wp_seq<|bq _ rfl<|y rfl<|y rfl<|ft amN rfl rfl h fun mc dJ h=>y rfl<|a2 _ rfl rfl rfl (ma rfl rfl rfl)<|y rfl<|bc<|fB h rfl (fun _ h=>?_) fun _ h=>?_
     ·refine bq _ rfl<|y rfl<|y rfl<|ft amJ rfl rfl h fun gv cS h=>y rfl<|bc ?_
      exact⟨(gv),_,arr (aP (aP (aP (aP rfl rfl) rfl) rfl) rfl),h⟩
     ·refine wp_skip ?_
      exact⟨(cA.2),_,arr (aP (aP (aP (aP rfl rfl) rfl) rfl) rfl),h⟩
def WL(w:World)(j:aL→World→Prop):Prop:=bG 223 Dd (⟨(0:Int)⟩:xu) w fun lD cm=>j (some lD) cm
theorem ajm{w j}(h:WL w j):M Pg 92 [] aE w j:=
 bj 3 Tryz.func92 rfl rfl bk
def AU(eJ:Addr)(aX:Addr)(a3:Addr)(bP:Addr)(j:(af×Int×Int)→World→Prop)(v:ei)(w:World):Prop:=yB Pg 146 [.pointer (some eJ),.pointer (some aX),.pointer (some a3),.pointer (some bP)] (.panicking (Ah v)) w fun uu=>ex (L X aX uu) fun hy=>ex (L (B .i64) a3 uu) fun gS=>ex (L (B .i64) bP uu) fun mo=>j (hy,gS,mo) uu
def Nz(eL:af)(aX:Addr)(a3:Addr)(bP:Addr)(cH:Addr)(eJ:Addr)(cg:World)(l1:Unit→World→Prop)(j:(af×Int×Int)→World→Prop):Prop:=ex (L (B .i64) (cH.add 1) cg) fun fs=>if (decide (fs<(eL.len:Int)))=true then (ex (L (B .i64) (cH.add 1) cg) fun dm=>ba (B .i64) eJ dm cg fun cS=>ex (L X aX cS) fun dL=>if ((dL.len:Int)==(1000:Int))=true then ((AU eJ aX a3 bP j) (ei.mk 259 (jJ.enc ((⟨(20:Int)⟩:j0)))) cS) else (de cS fun ed=>ex (L X aX ed) fun gd=>nR Pg 147 [.pointer ((some cH))] gg ed (AU eJ aX a3 bP j) fun fI eo=>bw ((L X aX eo) gd)<|l3 197 gg 5 48 gd [fI] eo fun fJ e2=>ba X aX fJ e2 fun fX=>l1 () fX)) else (ex (L X aX cg) fun kd=>ba X aX kd cg fun h3=>ba (B .i64) a3 (0:Int) h3 fun gQ=>ba (B .i64) bP (0:Int) gQ fun is=>yB Pg 146 [.pointer (some eJ),.pointer (some aX),.pointer (some a3),.pointer (some bP)] .returning is fun uu=>ex (L X aX uu) fun hy=>ex (L (B .i64) a3 uu) fun gS=>ex (L (B .i64) bP uu) fun mo=>j (hy,gS,mo) uu)
def Ny(eL:af)(w:World)(j:(af×Int×Int)→World→Prop):Prop:=bG 190 X (⟨none,0,0⟩:af) w fun aX bh=>bG 3 (B .i64) (0:Int) bh fun a3 a7=>bG 43 (B .i64) (0:Int) a7 fun bP bN=>bG 257 De (⟨eL,(0:Int)⟩:v2) bN fun cH bU=>bG 3 (B .i64) (0:Int) bU fun eJ cF=>ba (B .i64) eJ (0:Int) cF fun cl=>eZ (fun (s:Unit) w aa=>Nz eL aX a3 bP cH eJ w aa j) () cl
theorem ajn{eL:af}{w:World}{j:(af×Int×Int)→World→Prop}(h:Ny eL w j):M Pg 93 [X.enc (eL)] (mj X (B .i64) (B .i64)) w j:=by
 unfold Ny at h
 refine akW (ph:=[2,3,4]) 33 Tryz.func93 rfl rfl (Nat.le_of_ble_eq_true rfl)<|wp_seq<|bq _ rfl<|oZ vo Qs h rfl fun aX bh h=>oZ dj Kj h rfl fun a3 a7 h=>oZ wW Qv h rfl fun bP bN h=>bc<|wp_seq<|bq _ rfl<|y rfl<|a2 8 rfl rfl rfl (RN (a_:=eL) rfl rfl) ?_
 obtain⟨cH,bU,Ph,P4,h⟩:=pR h
 refine a2 9 rfl rfl rfl (ue (u:=(⟨eL,(0:Int)⟩:v2)) rfl abZ rfl Ph P4)<|y rfl<|bc<|wp_seq<|bq _ rfl<|oZ dj Kj h rfl fun eJ cF h=>jN dj h rfl rfl rfl fun cl h=>bc<|wp_seq<|bq _ rfl<|a2 10 rfl rfl rfl (RV (fn:=.func 146) (SU:=[]) (SW:=[.pointer (some eJ),.pointer (some aX),.pointer (some a3),.pointer (some bP)]) rfl rfl rfl)<|en rfl (.free rfl) (aIR (k:=146) (a8:=[.pointer (some eJ),.pointer (some aX),.pointer (some a3),.pointer (some bP)]) (d:=none) rfl rfl rfl ?_)
 refine bc<|wp_seq<|wp_block<|s0 (bp:=Unit) (dp:=fun g (s:Unit)=>ae (ae (ae (ae (ae (ae (g) 0 (X.enc (eL))) 2 (.pointer (some aX))) 3 (.pointer (some a3))) 4 (.pointer (some bP))) 5 (.pointer ((some cH)))) 6 (.pointer (some eJ))) (mi:=()) (aP (aP (aP (aP (aP (aP rfl rfl) rfl) rfl) rfl) rfl) rfl) h ?_
 rintro⟨⟩ g cg l1 h
 unfold Nz at h
 refine wp_seq<|wp_seq<|bq _ rfl<|y rfl<|a2 12 rfl rfl rfl (mb (a:=cH) rfl rfl)<|ho _ _ _ Tryz.underlying257 dj rfl rfl rfl<|hR dj h rfl rfl fun fs _ h=>y rfl<|a2 _ rfl rfl rfl (jV rfl Tryz.underlying189 rfl)<|a2 _ rfl rfl rfl (ma rfl rfl rfl)<|bc<|fB h rfl (fun _ h=>?_) fun _ h=>?_
 ·refine wp_skip<|wp_block<|wp_seq<|bq _ rfl<|y rfl<|a2 19 rfl rfl rfl (mb (a:=cH) rfl rfl)<|ho _ _ _ Tryz.underlying257 dj rfl rfl rfl<|hR dj h rfl rfl fun dm _ h=>jN dj h rfl rfl rfl fun cS h=>bc<|wp_seq<|wp_seq ?_
  refine bq _ rfl<|hR vo h rfl rfl fun dL _ h=>a2 _ rfl rfl rfl (jV rfl Tryz.underlying190 rfl)<|a2 _ rfl rfl rfl (iH rfl rfl rfl)<|bc<|fB h rfl (fun _ h=>?_) fun _ h=>?_
  ·refine bq _ rfl<|a2 25 rfl rfl rfl (yU (a_:=(20:Int)) rfl rfl)<|a2 26 rfl rfl rfl (yV (v:=jJ.enc ((⟨(20:Int)⟩:j0))) rfl Tryz.underlying259 rfl rfl)<|en rfl (.free rfl) (CI (v:=(ei.mk 259 (jJ.enc ((⟨(20:Int)⟩:j0))))) rfl rfl ⟨_,_,rfl⟩ ?_)
   unfold AU at h
   refine acv (an:=[.cell 2 190,.cell 3 3,.cell 4 43]) rfl OC (QS h fun uu h=>?_)
   obtain⟨hy,BP,h⟩:=h
   obtain⟨gS,BQ,h⟩:=h
   obtain⟨mo,BR,h⟩:=h
   exact⟨_,(.cons (.cell (T:=X) (u:=hy) (a:=aX) vo rfl BP) (.cons (.cell (T:=(B .i64)) (u:=gS) (a:=a3) dj rfl BQ) (.cons (.cell (T:=(B .i64)) (u:=mo) (a:=bP) wW rfl BR) .nil))),⟨(hy,gS,mo),rfl,h⟩⟩
  ·refine wp_skip ?_
   obtain⟨ed,are,h⟩:=ou h
   refine aIS 6 mixed rfl (by kernel_rfl) (fun c a d v w ag h=>aEd (ph:=[2,3,4]) (amo (by kernel_rfl) ag) h) are (fun ak=>?_)
   refine gf 1 28 (.pointer ((some cH))) ak rfl rfl ?_
   obtain⟨gd,Hb,h⟩:=h
   refine h7 0 27 Hb vo ak rfl rfl<|fk (i:=2) (by kernel_rfl)<|hG rfl (.free rfl) (zc (d:=(some 29)) rfl (fR (k:=147) (m:=[.pointer ((some cH))]) rfl amO rfl) h ?_ ?_)
   ·intro _ _ h
    unfold AU at h
    refine acv (an:=[.cell 2 190,.cell 3 3,.cell 4 43]) rfl OC (QS h fun uu h=>?_)
    obtain⟨hy,BP,h⟩:=h
    obtain⟨gS,BQ,h⟩:=h
    obtain⟨mo,BR,h⟩:=h
    exact⟨_,(.cons (.cell (T:=X) (u:=hy) (a:=aX) vo rfl BP) (.cons (.cell (T:=(B .i64)) (u:=gS) (a:=a3) dj rfl BQ) (.cons (.cell (T:=(B .i64)) (u:=mo) (a:=bP) wW rfl BR) .nil))),⟨(hy,gS,mo),rfl,h⟩⟩
   intro fI eo h
   obtain⟨apY,h⟩:=h
   refine⟨(fH (fun _=>apY) im),?_⟩
   refine fk (i:=3) (by kernel_rfl) ?_
   obtain⟨p8,ir,aoI,aar,h⟩:=F_ h
   refine yT (d:=(some 30)) rfl (.free rfl) rfl (Ak (T:=gg) (xs:=[fI]) rfl Tryz.underlying190 lQ wF rfl (by decide) (by decide) rfl aoI aar) ⟨(fH (fun h=>yv aar h) im),?_⟩
   refine fk (i:=4) (by kernel_rfl)<|hG rfl (.free rfl) (Is (d:=(some 31)) (T:=gg) rfl rfl Tryz.underlying190 ⟨_,Tryz.underlying190⟩ lQ wF rfl rfl (Nat.lt_of_lt_of_le Nat.zero_lt_one (Nat.le_of_ble_eq_true rfl)) rfl rfl h ?_)
   intro fJ e2 h
   refine⟨(hi (by kernel_rfl) im),?_⟩
   refine fk (i:=5) (by kernel_rfl) ?_
   obtain⟨fX,ark,aqP,h⟩:=sm h
   refine ud (d:=none) rfl (.free rfl) rfl (se (T:=X) (u:=fJ) (a:=aX) rfl vo rfl rfl aqP ark) ⟨(hi (by kernel_rfl) im),?_⟩
   refine kH (by kernel_rfl) ?_
   exact⟨(),_,arr (aP (aP (aP (aP (aP (aP rfl rfl) rfl) rfl) rfl) rfl) rfl),h⟩
 ·refine wp_exit<|wp_seq<|bq _ rfl<|hR vo h rfl rfl fun kd _ h=>jN vo h rfl rfl rfl fun h3 h=>jN dj h rfl rfl rfl fun gQ h=>jN wW h rfl rfl rfl fun is h=>bc<|wp_ret<|aGs (an:=[.cell 2 190,.cell 3 3,.cell 4 43]) rfl OC (QS h fun uu h=>?_)
  obtain⟨hy,BP,h⟩:=h
  obtain⟨gS,BQ,h⟩:=h
  obtain⟨mo,BR,h⟩:=h
  exact⟨_,(.cons (.cell (T:=X) (u:=hy) (a:=aX) vo rfl BP) (.cons (.cell (T:=(B .i64)) (u:=gS) (a:=a3) dj rfl BQ) (.cons (.cell (T:=(B .i64)) (u:=mo) (a:=bP) wW rfl BR) .nil))),⟨(hy,gS,mo),rfl,h⟩⟩
def WM(bd:aL)(Hp:Int)(xg:mx)(e0:Int)(w:World)(j:Unit→World→Prop):Prop:=bG 31 gh xg w fun bS bT=>if (Hp==(1:Int))=true then (de bT fun bN=>ex (bC bd) fun cH=>ex (L ef (cH.add 6) bN) fun c3=>ex (L (B .i64) (bS.add 0) bN) fun dG=>ex (L gh bS bN) fun c2=>M Pg 97 [gh.enc (c2)] (bo aE (B .i64)) bN fun et cl=>bw ((L ef (cH.add 6) cl) c3)<|bw ((L (B .i64) (bS.add 0) cl) dG)<|qh aE .i64 c3 dG et.1 cl fun dK=>j () dK) else (de bT fun cS=>ex (bC bd) fun rL=>ex (L ef (rL.add 6) cS) fun hH=>ex (L (B .i64) (bS.add 0) cS) fun gd=>ex (ih aE .i64 hH gd cS) fun KB=>de cS fun e1=>ex (L ef (rL.add 7) e1) fun nL=>ex (L (B .i64) (bS.add 0) e1) fun lY=>qh fm .i64 nL lY (⟨⟩:oU) e1 fun ir=>if (Hp==(3:Int))=true then (M Pg 148 [.pointer ((KB.getD (none:Option Addr)))] (B .i64) ir fun fJ e2=>j () e2) else (M Pg 134 [.pointer ((KB.getD (none:Option Addr))),.bool (true),.bool (true),.int .i64 (e0)] (B .i64) ir fun jW fX=>M Pg 134 [.pointer ((KB.getD (none:Option Addr))),.bool (false),.bool (true),.int .i64 (e0)] (B .i64) fX fun me gN=>M Pg 149 [.pointer ((KB.getD (none:Option Addr))),.int .i64 (e0)] (B .i64) gN fun ta gQ=>ex (L aE (rL.add 3) gQ) fun kv=>M Pg 63 [.pointer (kv),.int .i64 (e0)] (B .i64) gQ fun qo jd=>j () jd))
theorem ajo{bd Hp xg e0 w j}(h:WM bd Hp xg e0 w j):M Pg 94 [.pointer bd,.int .i64 Hp,gh.enc xg,.int .i64 e0] dU w j:=by
 have fY:=eg 3 (du [0,1,2,4,3,5,6,7,8,9,10,11] .e)
 have rQ:=eg 4 (du [0,1,2,4,3,5,6,7] .e)
 have DA:=eg 5 (du [0,1,2,4,6,3,5,7] .e)
 exact bj 55 Tryz.func94 rfl rfl bk
def NB(bd:Int)(fj:(Nat×Int))(d12:Int)(gv:(Int×Int))(aHS:Bool)(ez:World)(j:(Int×Int)→World→Prop):Prop:=if aHS=true then (j ((0:Int),(11:Int)) ez) else (ex (iL (IntKind.u64.wrap (IntKind.i64.wrap (fj.2-(53:Int)))) (IntKind.u64.wrap (gv.2*2^(min ((IntKind.u64.wrap (IntKind.i64.wrap (fj.2-(53:Int))))).toNat IntKind.u64.bits)))) fun d21=>M Pg 155 [.bool ((!((decide (bd<(0:Int)))==(decide (d12<(0:Int)))))),.int .u64 (d21)] (bo (B .i64) (B .i64)) ez fun m6 e1=>j (m6.1,m6.2) e1)
def C0(bd:Int)(d12:Int)(aE0:Int)(h3:World)(j:(Int×Int)→World→Prop):Prop:=M Pg 155 [.bool ((!((decide (bd<(0:Int)))==(decide (d12<(0:Int)))))),.int .u64 (aE0)] (bo (B .i64) (B .i64)) h3 fun ta gQ=>j (ta.1,ta.2) gQ
def FT(bd:Int)(jg:Nat)(lW:Bool)(bT:World)(j:(Int×Int)→World→Prop):Prop:=if lW=true then (if (bd==(0:Int))=true then (j ((0:Int),(10:Int)) bT) else (j ((0:Int),(11:Int)) bT)) else (M Pg 150 [.float .f64 (jg)] (bo gK (B .i64)) bT fun fj bA=>M Pg 151 [.float .f64 (fj.1),.int .i64 ((53:Int))] gK bA fun hd cd=>ex (zl .i64 hd) fun d12=>M Pg 153 [.int .i64 (bd)] (B .u64) cd fun dw cg=>M Pg 153 [.int .i64 (d12)] (B .u64) cg fun mc dJ=>M Pg 152 [.int .u64 (dw),.int .u64 (mc)] (bo (B .u64) (B .u64)) dJ fun gv cS=>if ((gv.1==(0:Int))&&(gv.2==(0:Int)))=true then (j ((0:Int),(0:Int)) cS) else (if (decide ((IntKind.i64.wrap (fj.2-(53:Int)))≥(0:Int)))=true then (if ((gv.1 != (0:Int))||(decide ((IntKind.i64.wrap (fj.2-(53:Int)))≥(64:Int))))=true then (NB bd fj d12 gv true cS j) else (M Pg 154 [.int .u64 (gv.2)] (B .i64) cS fun fJ e2=>NB bd fj d12 gv (decide ((IntKind.i64.wrap (fJ+(IntKind.i64.wrap (fj.2-(53:Int)))))>(64:Int))) e2 j)) else (M Pg 156 [.int .u64 (gv.1),.int .u64 (gv.2),.int .u64 ((IntKind.u64.wrap (IntKind.i64.wrap (0-(IntKind.i64.wrap (fj.2-(53:Int)))))))] (mj (B .u64) bf bf) cS fun jW fX=>if ((!jW.2.2)||(((!((decide (bd<(0:Int)))==(decide (d12<(0:Int)))))&&jW.2.1)&&(decide (jW.1≥(9223372036854775808:Int)))))=true then (j ((0:Int),(11:Int)) fX) else (if ((!((decide (bd<(0:Int)))==(decide (d12<(0:Int)))))&&jW.2.1)=true then (C0 bd d12 (IntKind.u64.wrap (jW.1+(1:Int))) fX j) else (C0 bd d12 jW.1 fX j)))))
def NA(bd:Int)(jg:Nat)(w:World)(j:(Int×Int)→World→Prop):Prop:=M Pg 87 [.float .f64 (jg)] (B .i64) w fun cA bh=>if (cA==(0:Int))=true then (j ((0:Int),(10:Int)) bh) else (if (cA==(1:Int))=true then (FT bd jg (cA==(1:Int)) bh j) else (FT bd jg (cA==(6:Int)) bh j))
theorem WN{bd jg w j}(h:NA bd jg w j):M Pg 95 [.int .i64 bd,.float .f64 jg] (bo (B .i64) (B .i64)) w j:=by
 have o8:=fun {fj:(Nat×Int)} {d12} {gv:(Int×Int)}=>pN (bp:=Bool) [7,8,9,10,11,12] [] (fun s w=>NB bd fj d12 gv s w j) (fun g s=>ae (ae (ae (ae g 9 (.int .i64 ((IntKind.i64.wrap (fj.2-(53:Int)))))) 10 (.bool ((!((decide (bd<(0:Int)))==(decide (d12<(0:Int)))))))) 12 (.int .u64 (gv.2))) 68 (.bool s))
 have iE:=fun {d12}=>hs (bp:=Int) 25 (fun s w=>C0 bd d12 s w j) (fun g s=>ae (ae g 10 (.bool ((!((decide (bd<(0:Int)))==(decide (d12<(0:Int)))))))) 13 (.int .u64 s))
 have Hm:=hs (bp:=Bool) 7 (fun s w=>FT bd jg s w j) (fun g s=>ae (ae (ae g 0 (.int .i64 bd)) 1 (.float .f64 jg)) 20 (.bool s))
 exact bj 110 Tryz.func95 rfl rfl bk
end bb
end Go.Proofs.YthaobmpdjcoheaaGreat
