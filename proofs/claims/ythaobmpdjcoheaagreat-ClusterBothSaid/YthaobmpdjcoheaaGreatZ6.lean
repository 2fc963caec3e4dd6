/- Own texts of this claim, part 6: short, merged. -/
import Derived.Test.YthaobmpdjcoheaaGreatZ1
set_option maxRecDepth 100000
set_option maxHeartbeats 40000000
set_option linter.defProp false
set_option linter.unusedVariables false
set_option linter.unusedSimpArgs false
namespace Go.Proofs.YthaobmpdjcoheaaGreat
namespace bf
def FR(bi:aM)(xE:af)(aGI:Addr)(o1:Int)(a_:World)(e:(Int×Int)→World→Prop):Prop:=if (o1 != (0:Int))=true then (e ((0:Int),o1) a_) else (dl a_ fun b2=>ex (bK bi) fun cg=>ex (L aD (cg.add 3) b2) fun cT=>ex (L cO aGI b2) fun cH=>M Pg 157 [.pointer (cT),cO.enc (cH),X.enc (xE)] (bw (B .i64) (B .i64)) b2 fun hh cn=>e (hh.1,hh.2) cn)
def WL(bi:aM)(xE:af)(w:World)(e:(Int×Int)→World→Prop):Prop:=dl w fun cu=>ex (bK bi) fun hQ=>ex (L aD (hQ.add 0) cu) fun fu=>ex (L (B .i64) (hQ.add 1) cu) fun bJ=>sH (M Pg 61 [.pointer (fu),.int .i64 (bJ)] (bw cO (B .i64)) cu fun gy c2=>bO 137 cO jB c2 fun i_ eE=>bd cO i_ gy.1 eE fun ew=>FR bi xE i_ gy.2 ew e) (bO 137 cO jB cu fun rP ep=>M Pg 61 [.pointer (fu),.int .i64 (bJ)] (bw cO (B .i64)) ep fun gO fM=>bd cO rP gO.1 fM fun e5=>FR bi xE rP gO.2 e5 e)
theorem ajm{bi xE w e}(h:WL bi xE w e):M Pg 96 [.pointer bi,X.enc xE] (bw (B .i64) (B .i64)) w e:=by
 have ga:=en 5 (dB [0,1,2,5,3,4,6,7,8,9,10] .j)
 have rT:=en 2 (dB [0,1,2,4,5,6,3,7] (.l 8 12 (dB [9,10,11,12,13,14] .j) (dB [8,9,10,11,13,14] .j)))
 have iI:=hy (bx:=Addr×Int) 3 (fun s w=>FR bi xE s.1 s.2 w e) (fun g s=>ae (ae (ae (ae g 0 (.pointer bi)) 1 (X.enc xE)) 6 (.pointer (some s.1))) 7 (.int .i64 (s.2)))
 exact bq 32 Tryz.func96 rfl rfl br
def C0(aY:Addr)(g5:Bool)(cn:World)(e:(aM×Int)→World→Prop):Prop:=if g5=true then (e ((none:Option Addr),(171:Int)) cn) else (ex (L (B .i64) (aY.add 1) cn) fun cK=>ex (L (B .i64) (aY.add 2) cn) fun e7=>if (cK==e7)=true then (e ((none:Option Addr),(172:Int)) cn) else (ex (L (B .i64) (aY.add 3) cn) fun dU=>ex (fun x=>(!(decide (dU<(1:Int))))=true→(L (B .i64) (aY.add 3) cn) x) fun eA=>if ((decide (dU<(1:Int)))||(decide (eA>(1000000000000000:Int))))=true then (e ((none:Option Addr),(173:Int)) cn) else (ex (L gk aY cn) fun fu=>bO 214 Db (⟨fu,(Vector.replicate 2 qX),(Vector.replicate 2 false),(0:Int),(0:Int)⟩:sC) cn fun jC c2=>e ((some jC),(0:Int)) c2)))
def WM(h_:mz)(w:World)(e:(aM×Int)→World→Prop):Prop:=bO 31 gk h_ w fun aY bm=>ex (L (B .i64) (aY.add 0) bm) fun de=>ex (fun x=>(!(decide (de<(1:Int))))=true→(L (B .i64) (aY.add 0) bm) x) fun dN=>if ((decide (de<(1:Int)))||(decide (dN>(1000000:Int))))=true then (e ((none:Option Addr),(170:Int)) bm) else (ex (L (B .i64) (aY.add 1) bm) fun cJ=>M Pg 158 [.int .i64 (cJ)] bk bm fun a3 bV=>if (!a3)=true then (C0 aY true bV e) else (ex (L (B .i64) (aY.add 2) bV) fun gI=>M Pg 158 [.int .i64 (gI)] bk bV fun w4 ep=>C0 aY (!w4) ep e))
theorem ajn{h_ w e}(h:WM h_ w e):M Pg 97 [gk.enc h_] (bw aD (B .i64)) w e:=by
 have o9:=fun {aY}=>pQ (bx:=Bool) [5,6,7,8,9] [10] (fun s w=>C0 aY s w e) (fun g s=>ae (ae g 1 (.pointer (some aY))) 23 (.bool s))
 exact bq 42 Tryz.func97 rfl rfl br
def IM(Gn:Int)(bH:World)(e:Int→World→Prop):Prop:=e Gn bH
def WN(qJ:aM)(yC:af)(w:World)(e:Int→World→Prop):Prop:=ex (bK qJ) fun aA=>ex (L bk (aA.add 4) w) fun de=>if de=true then (e (81:Int) w) else (M Pg 159 [X.enc (yC)] (bw X (B .i64)) w fun aI a_=>if (aI.2 != (0:Int))=true then (e aI.2 a_) else (dl a_ fun b3=>ex (L aD (aA.add 2) b3) fun dM=>ex (L (B .i64) (aA.add 3) b3) fun cK=>M Pg 160 [.pointer (dM),.int .i64 (cK),X.enc (aI.1)] (B .i64) b3 fun eo cA=>M Pg 128 [.pointer (qJ),.int .i64 (eo)] (B .i64) cA fun fU db=>bE ((L aD (aA.add 2) db) dM)<|bE ((L (B .i64) (aA.add 3) db) cK)<|if (fU==(0:Int))=true then (ex (L (B .i64) ((aA.add 0).add 0) db) fun cW=>bd (B .i64) ((aA.add 0).add 0) (IntKind.i64.wrap (cW+(1:Int))) db fun ei=>IM fU ei e) else (IM fU db e)))
theorem ajo{qJ yC w e}(h:WN qJ yC w e):M Pg 98 [.pointer qJ,X.enc yC] (B .i64) w e:=by
 have ga:=en 7 (dB [0,1,2,3,5,6,7,9,4,8,10,11,12] .j)
 have iI:=hy (bx:=Int) 10 (fun s w=>IM s w e) (fun g s=>ae g 6 (.int .i64 s))
 exact bq 43 Tryz.func98 rfl rfl br
def Nz(eN:Addr)(abi:af)(SA:Int)(db:World)(ajs:af×Int→World→Prop)(e:af→World→Prop):Prop:=if (decide (SA<((⟨some eN,6,6⟩:af).len:Int)))=true then (ex (cM (⟨some eN,6,6⟩:af) 1 SA) fun jC=>ex (L (B .i64) jC db) fun jM=>l6 197 gj 5 48 abi [(⟨(2:Int),(0:Int),jM,(0:Nat),([]:List UInt8)⟩:mT)] db fun pi eE=>ajs (pi,(IntKind.i64.wrap (SA+(1:Int)))) eE) else (M Pg 161 [X.enc (abi)] (bw X (B .i64)) db fun m9 e4=>e m9.1 e4)
def WO(Kn:Int)(kz:mz)(b0:Int)(w:World)(e:af→World→Prop):Prop:=bO 31 gk kz w fun a6 a_=>ex (L (B .i64) (a6.add 0) a_) fun cJ=>ex (L (B .i64) (a6.add 1) a_) fun bQ=>ex (L (B .i64) (a6.add 2) a_) fun cT=>ex (L (B .i64) (a6.add 3) a_) fun cH=>ta 2 (B .i64) [Kn,cJ,bQ,cT,cH,b0] a_ fun eN cN=>e2 (fun (s:af×Int) w aa=>Nz eN s.1 s.2 w aa e) ((⟨none,0,0⟩:af),(0:Int)) cN
theorem ajp{Kn kz b0 w e}(h:WO Kn kz b0 w e):M Pg 99 [.int .i64 Kn,gk.enc kz,.int .i64 b0] X w e:=by
 have iU:=fun {eN}=>hf (bx:=af×Int) 4 (fun s w aa=>Nz eN s.1 s.2 w aa e) (fun g s=>ae (ae (ae (ae g 22 (X.enc ((⟨some eN,6,6⟩:af)))) 23 (.int .i64 (((⟨some eN,6,6⟩:af).len:Int)))) 7 (X.enc (s.1))) 24 (.int .i64 (s.2)))
 exact bq 40 Tryz.func99 rfl rfl br
def Tt(bi:aM)(b8:Int)(w:World)(e:Int→World→Prop):Prop:=M Pg 131 [.pointer (bi),.int .i64 (b8)] (bw eC (B .i64)) w fun bp bm=>bO 64 eC lb bm fun b1 b2=>bd eC b1 bp.1 b2 fun bV=>if (bp.2 != (0:Int))=true then (e bp.2 bV) else (ex (L eC b1 bV) fun cT=>M Pg 130 [.pointer (bi),eC.enc (cT)] (B .i64) bV fun a2 b3=>e a2 b3)
theorem afX{bi b8 w e}(h:Tt bi b8 w e):M Pg 100 [.pointer bi,.int .i64 b8] (B .i64) w e:=
 bq 19 Tryz.func100 rfl rfl br
def E5(bp:(gZ×Int))(bH:World)(e:Int→World→Prop):Prop:=e bp.2 bH
def Tu(bi:aM)(b8:Int)(w:World)(e:Int→World→Prop):Prop:=M Pg 131 [.pointer (bi),.int .i64 (b8)] (bw eC (B .i64)) w fun bp bm=>bO 64 eC lb bm fun b1 b2=>bd eC b1 bp.1 b2 fun bV=>if (bp.2==(0:Int))=true then (ex (bK bi) fun dE=>ex (L X (dE.add 2) bV) fun dM=>M Pg 133 [X.enc (dM),.int .i64 (b8),.int .i64 ((IntKind.i64.wrap (b8+(1:Int))))] X bV fun bo cN=>bd X (dE.add 2) bo cN fun cu=>E5 bp cu e) else (E5 bp bV e)
theorem afY{bi b8 w e}(h:Tu bi b8 w e):M Pg 101 [.pointer bi,.int .i64 b8] (B .i64) w e:=by
 have iI:=fun {bp:(gZ×Int)}=>hy (bx:=Unit) 5 (fun s w=>E5 bp w e) (fun g s=>ae g 6 (.int .i64 (bp.2)))
 exact bq 27 Tryz.func101 rfl rfl br
def Tv(bi:aM)(bB:Addr)(w:World)(e:Unit→World→Prop):Prop:=dl w fun bm=>ex (bK bi) fun a6=>ex (L aD (a6.add 2) bm) fun dN=>ex (L X bB bm) fun cJ=>M Pg 103 [.pointer (dN),X.enc (cJ)] dZ bm fun a3 bV=>e () bV
theorem afZ{bi bB w e}(h:Tv bi bB w e):M Pg 102 [.pointer bi,.pointer (some bB)] dZ w e:=by
 have ga:=en 1 (dB [0,1,2,3,4,5] .j)
 exact bq 9 Tryz.func102 rfl rfl br
def E6(j0:Int)(fO:Addr)(QW:Int)(dP:World)(mQ:Int→World→Prop)(e:Unit→World→Prop):Prop:=ex (L X (fO.add 0) dP) fun bJ=>ex (Sub bJ 1 0 QW QW) fun Lx=>bd X (fO.add 0) Lx dP fun fW=>bd (B .i64) (fO.add 1) QW fW fun ei=>mQ ((IntKind.i64.wrap (j0+(1:Int)))) ei
def Me(wL:af)(aA:Addr)(bQ:af)(j0:Int)(b3:World)(mQ:Int→World→Prop)(e:Unit→World→Prop):Prop:=if (decide (j0<(bQ.len:Int)))=true then (ex (L X (aA.add 0) b3) fun cK=>ex (cM cK 2 j0) fun fO=>ex (L (B .i64) (fO.add 1) b3) fun dU=>if (decide (j0<(wL.len:Int)))=true then (dl b3 fun eE=>ex (cM wL 1 j0) fun ja=>ex (L (B .i64) ja eE) fun gI=>ex (L X (fO.add 0) eE) fun mN=>ex (L (B .i64) (fO.add 1) eE) fun l1=>E6 j0 fO (IntKind.i64.wrap (dU+(min (max gI (0:Int)) (IntKind.i64.wrap ((mN.len:Int)-l1))))) eE mQ e) else (E6 j0 fO dU b3 mQ e)) else (e () b3)
def Md(dd:aM)(wL:af)(w:World)(e:Unit→World→Prop):Prop:=ex (bK dd) fun aA=>ex (L bk (aA.add 2) w) fun de=>if de=true then (e () w) else (bd bk (aA.add 2) true w fun a_=>bd (B .i64) (aA.add 3) (0:Int) a_ fun b2=>ex (L X (aA.add 0) b2) fun bQ=>e2 (fun (s:Int) w aa=>Me wL aA bQ s w aa e) ((0:Int)) b2)
theorem Tw{dd wL w e}(h:Md dd wL w e):M Pg 103 [.pointer dd,X.enc wL] dZ w e:=by
 have ga:=en 9 (dB [0,1,2,3,6,7,8,11,12,13,4,5,9,10,14,15,16,17,18] .j)
 have iI:=fun {j0} {fO} {mQ} {bQ:af}=>hy (bx:=Int) 10 (fun s w=>E6 j0 fO s w mQ e) (fun g s=>ae (ae (ae (ae (ae (ae g 0 (.pointer dd)) 1 (X.enc wL)) 5 (.pointer ((some fO)))) 21 (.int .i64 ((bQ.len:Int)))) 22 (.int .i64 j0)) 6 (.int .i64 s))
 have iU:=fun {aA} {bQ:af}=>hf (bx:=Int) 4 (fun s w aa=>Me wL aA bQ s w aa e) (fun g s=>ae (ae (ae (ae g 0 (.pointer dd)) 1 (X.enc wL)) 21 (.int .i64 ((bQ.len:Int)))) 22 (.int .i64 s))
 exact bq 72 Tryz.func103 rfl rfl br
def E7(m4:Int)(e3:Addr)(aI:(Int×Int))(ew:World)(e:Unit→World→Prop):Prop:=ex (L aD e3 ew) fun gI=>ex (bK gI) fun zz=>ex (L ek (zz.add 7) ew) fun l1=>qk fq .i64 l1 m4 (⟨⟩:oV) ew fun ix=>dl ix fun e5=>ex (L aD e3 e5) fun oO=>ex (L aD e3 e5) fun mO=>ex (bK mO) fun wb=>ex (L X (wb.add 8) e5) fun kg=>l6 53 kl 3 24 kg [(⟨m4,aI.1,aI.2⟩:bg)] e5 fun Am iy=>bE ((L aD e3 iy) oO)<|bE ((L aD e3 iy) mO)<|ex (bK oO) fun F3=>bd X (F3.add 8) Am iy fun mn=>e () mn
def Tx(m4:Int)(sd:aM)(b0:Addr)(e3:Addr)(w:World)(e:Unit→World→Prop):Prop:=M Pg 55 [.pointer (sd)] (bw (B .i64) (B .i64)) w fun aI a_=>ex (L aD b0 a_) fun bQ=>ex (bK bQ) fun cP=>ex (L ek (cP.add 7) a_) fun cH=>ex (iq fq .i64 cH m4 a_) fun Ek=>bO 164 fq qW a_ fun fG cA=>bd fq fG (((Ek.getD qW,Ek.isSome)).1) cA fun cu=>ex (L aD e3 cu) fun eA=>ex (bK eA) fun gw=>ex (L ek (gw.add 7) cu) fun bJ=>ex (iq fq .i64 bJ m4 cu) fun uc=>bO 164 fq qW cu fun rO ei=>bd fq rO (((uc.getD qW,uc.isSome)).1) ei fun eE=>if (((uc.getD qW,uc.isSome)).2||(!(((Ek.getD qW,Ek.isSome)).2)))=true then (e () eE) else (if (aI.1==(2:Int))=true then (dl eE fun rG=>ex (L aD b0 rG) fun ni=>ex (bK ni) fun uN=>ex (L aD (uN.add 0) rG) fun tm=>ex (L aD b0 rG) fun tn=>ex (bK tn) fun Bd=>ex (L (B .i64) (Bd.add 1) rG) fun rH=>M Pg 105 [.pointer (tm),.int .i64 (aI.2),.int .i64 (rH)] (bw bk (B .i64)) rG fun ul nN=>bE ((L aD b0 nN) ni)<|bE ((L aD b0 nN) tn)<|if (!ul.1)=true then (e () nN) else (E7 m4 e3 aI nN e)) else (E7 m4 e3 aI eE e))
theorem af0{m4 sd b0 e3 w e}(h:Tx m4 sd b0 e3 w e):M Pg 104 [.int .i64 m4,.pointer sd,.pointer (some b0),.pointer (some e3)] dZ w e:=by
 have ga:=en 9 (dB [5,6,7,8,0,1,2,3,4,9,10,11,12,13] .j)
 have rT:=en 6 (dB [4,0,1,2,3,5,6,7,8,9,10,11,12,13,14] .j)
 have iI:=fun {aI:(Int×Int)}=>hy (bx:=Unit) 8 (fun s w=>E7 m4 e3 aI w e) (fun g s=>ae (ae (ae (ae g 0 (.int .i64 m4)) 3 (.pointer (some e3))) 6 (.int .i64 (aI.1))) 7 (.int .i64 (aI.2)))
 exact bq 78 Tryz.func104 rfl rfl br
def Ty(aN:aM)(bB:Int)(JM:Int)(w:World)(e:(Bool×Int)→World→Prop):Prop:=M Pg 61 [.pointer (aN),.int .i64 (JM)] (bw cO (B .i64)) w fun bj aV=>bO 137 cO jB aV fun bY bV=>bd cO bY bj.1 bV fun bH=>ex (fun x=>(bj.2==(0:Int))=true→(L (B .i64) (bY.add 0) bH) x) fun cH=>e (((bj.2==(0:Int))&&(decide (bB<cH))),bj.2) bH
theorem af1{aN bB JM w e}(h:Ty aN bB JM w e):M Pg 105 [.pointer aN,.int .i64 bB,.int .i64 JM] (bw bk (B .i64)) w e:=
 bq 25 Tryz.func105 rfl rfl br
def E8(aN:aM)(bW:aM)(jg:aM)(c2:World)(e:Int→World→Prop):Prop:=M Pg 76 [.pointer (aN),.pointer (bW),.pointer (jg)] dZ c2 fun w3 fW=>e (0:Int) fW
def Tz(aN:aM)(bW:aM)(jg:aM)(Ho:Int)(lZ:Int)(w:World)(e:Int→World→Prop):Prop:=dl w fun b2=>ex (bK bW) fun cg=>ex (L aD (cg.add 5) b2) fun cT=>M Pg 162 [.pointer (jg)] gk b2 fun a2 b3=>bE ((L aD (cg.add 5) b3) cT)<|M Pg 99 [.int .i64 (Ho),gk.enc (a2),.int .i64 (lZ)] X b3 fun eo cA=>bE ((L aD (cg.add 5) cA) cT)<|M Pg 98 [.pointer (cT),X.enc (eo)] (B .i64) cA fun mg dP=>if (mg != (0:Int))=true then (e mg dP) else (if (Ho==(2:Int))=true then (M Pg 149 [.pointer (jg),.int .i64 (lZ)] (B .i64) dP fun pi eE=>E8 aN bW jg eE e) else (M Pg 148 [.pointer (jg)] (B .i64) dP fun m9 e4=>E8 aN bW jg e4 e))
theorem af2{aN bW jg Ho lZ w e}(h:Tz aN bW jg Ho lZ w e):M Pg 106 [.pointer aN,.pointer bW,.pointer jg,.int .i64 Ho,.int .i64 lZ] (B .i64) w e:=by
 have ga:=en 2 (dB [0,1,2,4,5,7,3,6,8,9,10] .j)
 have iI:=hy (bx:=Unit) 8 (fun s w=>E8 aN bW jg w e) (fun g s=>ae (ae (ae g 0 (.pointer aN)) 1 (.pointer bW)) 2 (.pointer jg))
 exact bq 36 Tryz.func106 rfl rfl br
def TA(bS:af)(w:World)(e:af→World→Prop):Prop:=if bS.a.isNone=true then (e (⟨none,0,0⟩:af) w) else (ta 64 eC ([]:List gZ) w fun aY bm=>tE 64 eC 10 80 (⟨some aY,0,0⟩:af) bS bm fun bj aV=>e bj aV)
theorem af3{bS w e}(h:TA bS w e):M Pg 107 [X.enc bS] X w e:=
 bq 8 Tryz.func107 rfl rfl br
def TC(fC:Int)(uS:Int)(w:World)(e:(jz×Int)→World→Prop):Prop:=bO 137 cO jB w fun aA aV=>M Pg 166 [cO.enc ((⟨fC,fC⟩:jz)),.int .i64 (uS)] (bw cO (B .i64)) aV fun aI a_=>bd cO aA aI.1 a_ fun bV=>ex (L cO aA bV) fun cT=>e (cT,aI.2) bV
theorem af5{fC uS w e}(h:TC fC uS w e):M Pg 111 [.int .i64 fC,.int .i64 uS] (bw cO (B .i64)) w e:=
 bq 13 Tryz.func111 rfl rfl br
def TD(bS:jz)(Gr:Int)(un:Nat)(w:World)(e:(jz×Int)→World→Prop):Prop:=bO 137 cO bS w fun a6 a_=>bO 137 cO jB a_ fun bY bV=>ex (L cO a6 bV) fun cT=>M Pg 167 [cO.enc (cT)] (B .i64) bV fun a2 b3=>if (a2 != (0:Int))=true then (bd cO bY (⟨(0:Int),(0:Int)⟩:jz) b3 fun cN=>ex (L cO bY cN) fun e7=>e (e7,(50:Int)) cN) else (M Pg 168 [.int .i64 (Gr)] bk b3 fun dm cu=>if (!dm)=true then (bd cO bY (⟨(0:Int),(0:Int)⟩:jz) cu fun dP=>ex (L cO bY dP) fun bJ=>e (bJ,(52:Int)) dP) else (M Pg 87 [.float .f64 (un)] (B .i64) cu fun gy c2=>if ((decide (gy<(3:Int)))||(fQ .gtr un (4607182418800017408:Nat)))=true then (bd cO bY (⟨(0:Int),(0:Int)⟩:jz) c2 fun ei=>ex (L cO bY ei) fun gh=>e (gh,(51:Int)) ei) else (M Pg 95 [.int .i64 ((IntKind.i64.wrap (0-Gr))),.float .f64 (un)] (bw (B .i64) (B .i64)) c2 fun cC ew=>if (cC.2 != (0:Int))=true then (bd cO bY (⟨(0:Int),(0:Int)⟩:jz) ew fun ep=>ex (L cO bY ep) fun l1=>e (l1,(51:Int)) ep) else (ex (L cO a6 ew) fun hj=>M Pg 166 [cO.enc (hj),.int .i64 ((IntKind.i64.wrap (0-cC.1)))] (bw cO (B .i64)) ew fun fA e5=>bd cO bY fA.1 e5 fun f_=>ex (L cO bY f_) fun oP=>e (oP,fA.2) f_))))
theorem af6{bS Gr un w e}(h:TD bS Gr un w e):M Pg 112 [cO.enc bS,.int .i64 Gr,.float .f64 un] (bw cO (B .i64)) w e:=
 bq 45 Tryz.func112 rfl rfl br
def TE(s5:Int)(w:World)(e:Bool→World→Prop):Prop:=e ((decide (s5≥(1:Int)))&&(decide (s5≤(6:Int)))) w
theorem af7{s5 w e}(h:TE s5 w e):M Pg 113 [.int .i64 s5] bk w e:=
 bq 9 Tryz.func113 rfl rfl br
def Mf(EC:Int)(eO:Addr)(Kq:af)(lY:Int)(c2:World)(l5:af×Int→World→Prop)(e:af→World→Prop):Prop:=if (decide (lY<((⟨some eO,4,4⟩:af).len:Int)))=true then (ex (cM (⟨some eO,4,4⟩:af) 1 lY) fun i_=>ex (L (B .i64) i_ c2) fun gh=>l6 197 gj 5 48 Kq [(⟨(2:Int),(0:Int),gh,(0:Nat),([]:List UInt8)⟩:mT)] c2 fun w4 ep=>l5 (w4,(IntKind.i64.wrap (lY+(1:Int)))) ep) else (l6 197 gj 5 48 Kq [(⟨(1:Int),EC,(0:Int),(0:Nat),([]:List UInt8)⟩:mT)] c2 fun dV fZ=>M Pg 161 [X.enc (dV)] (bw X (B .i64)) fZ fun sj ls=>e sj.1 ls)
def E9(aY:Addr)(EC:Int)(a_:World)(e:af→World→Prop):Prop:=ex (L (B .i64) (aY.add 0) a_) fun cJ=>ta 197 gj [(⟨(1:Int),(IntKind.u64.wrap cJ),(0:Int),(0:Nat),([]:List UInt8)⟩:mT)] a_ fun cg bH=>ex (L (B .i64) (aY.add 1) bH) fun cH=>ex (L (B .i64) (aY.add 2) bH) fun dM=>ex (L (B .i64) (aY.add 3) bH) fun cK=>ex (L (B .i64) (aY.add 4) bH) fun e7=>ta 2 (B .i64) [cH,dM,cK,e7] bH fun eO db=>e2 (fun (s:af×Int) w aa=>Mf EC eO s.1 s.2 w aa e) ((⟨some cg,1,1⟩:af),(0:Int)) db
def TF(h_:jN)(w:World)(e:af→World→Prop):Prop:=bO 142 fN h_ w fun aY bm=>ex (L bk (aY.add 5) bm) fun k6=>if k6=true then (E9 aY (1:Int) bm e) else (E9 aY (0:Int) bm e)
theorem af8{h_ w e}(h:TF h_ w e):M Pg 114 [fN.enc h_] X w e:=by
 have iU:=fun {EC} {eO}=>hf (bx:=af×Int) 7 (fun s w aa=>Mf EC eO s.1 s.2 w aa e) (fun g s=>ae (ae (ae (ae (ae g 3 (.int .u64 EC)) 24 (X.enc ((⟨some eO,4,4⟩:af)))) 25 (.int .i64 (((⟨some eO,4,4⟩:af).len:Int)))) 4 (X.enc (s.1))) 26 (.int .i64 (s.2)))
 have iI:=fun {aY}=>hy (bx:=Int) 5 (fun s w=>E9 aY s w e) (fun g s=>ae (ae g 1 (.pointer (some aY))) 3 (.int .u64 s))
 exact bq 46 Tryz.func114 rfl rfl br
def TG(bS:aM)(kz:jN)(w:World)(e:Int→World→Prop):Prop:=bO 142 fN kz w fun aA aV=>ex (L (B .i64) (aA.add 0) aV) fun dN=>if (dN==(1:Int))=true then (dl aV fun b2=>ex (bK bS) fun cg=>ex (L aD (cg.add 1) b2) fun cT=>ex (L (B .i64) (aA.add 1) b2) fun cH=>ex (L (B .i64) (aA.add 3) b2) fun dM=>ex (L (B .i64) (aA.add 4) b2) fun cK=>M Pg 169 [.pointer (cT),.int .i64 (cH),.int .i64 (dM),.int .i64 (cK)] (B .i64) b2 fun eo cA=>e eo cA) else (if (dN==(2:Int))=true then (dl aV fun db=>ex (bK bS) fun gw=>ex (L aD (gw.add 1) db) fun bJ=>ex (L (B .i64) (aA.add 1) db) fun jM=>ex (L (B .i64) (aA.add 2) db) fun cW=>ex (L (B .i64) (aA.add 3) db) fun hL=>ex (L (B .i64) (aA.add 4) db) fun gh=>ex (L bk (aA.add 5) db) fun kS=>M Pg 170 [.pointer (bJ),.int .i64 (jM),g0.enc ((⟨cW,hL,gh,kS⟩:iz))] (B .i64) db fun m9 e4=>bE ((L (B .i64) (aA.add 2) e4) cW)<|bE ((L (B .i64) (aA.add 3) e4) hL)<|bE ((L (B .i64) (aA.add 4) e4) gh)<|bE ((L bk (aA.add 5) e4) kS)<|e m9 e4) else (dl aV fun f_=>ex (L (B .i64) (aA.add 0) f_) fun oP=>ex (L (B .i64) (aA.add 1) f_) fun kg=>ex (L (B .i64) (aA.add 2) f_) fun lx=>M Pg 171 [.pointer (bS),.int .i64 (oP)] gg f_ fun tf gT=>bE ((L (B .i64) (aA.add 1) gT) kg)<|bE ((L (B .i64) (aA.add 2) gT) lx)<|sJ Pg tf [.int .i64 (kg),.int .i64 (lx)] (B .i64) gT fun ed lu=>bE ((L (B .i64) (aA.add 0) lu) oP)<|e ed lu))
theorem af9{bS kz w e}(h:TG bS kz w e):M Pg 115 [.pointer bS,fN.enc kz] (B .i64) w e:=by
 have ga:=en 4 (dB [0,1,2,4,6,8,3,5,7,9,10,11] .j)
 have rT:=en 6 (dB [0,1,2,4,6,8,10,12,3,5,7,9,11,13,14,15,16] .j)
 have Dz:=en 7 (dB [0,1,4,6,2,5,7,3,8,9] .j)
 exact bq 47 Tryz.func115 rfl rfl br
def TH(fC:Int)(w:World)(e:Bool→World→Prop):Prop:=e ((decide (fC≥(1:Int)))&&(decide (fC≤(1125899906842624:Int)))) w
theorem aga{fC w e}(h:TH fC w e):M Pg 116 [.int .i64 fC] bk w e:=
 bq 9 Tryz.func116 rfl rfl br
def E_(p1:Int)(Kq:af)(dQ:World)(l4:af×Int→World→Prop)(e:(af×Int)→World→Prop):Prop:=l4 (Kq,(IntKind.i64.wrap (p1+(1:Int)))) dQ
def Mg(g1:Int)(b1:Addr)(a2:af)(QI:af)(p1:Int)(cu:World)(l4:af×Int→World→Prop)(e:(af×Int)→World→Prop):Prop:=if (decide (p1<(a2.len:Int)))=true then (ex (cM a2 1 p1) fun lc=>ex (L (B .i64) lc cu) fun cW=>ex (L ek (b1.add 0) cu) fun hL=>ex (iq aD .i64 hL cW cu) fun QQ=>M Pg 174 [.pointer ((QQ.getD (none:Option Addr))),.int .i64 (g1)] (bw dJ (B .i64)) cu fun cC ew=>bO 292 dJ kn ew fun zz fM=>bd dJ zz cC.1 fM fun ix=>if (cC.2==(0:Int))=true then (ex (L (B .i64) (zz.add 1) ix) fun kT=>l6 87 hP 2 16 QI [(⟨cW,kT⟩:fw)] ix fun sj ls=>E_ p1 sj ls l4 e) else (E_ p1 QI ix l4 e)) else (e (QI,(0:Int)) cu)
def TI(bS:aM)(g1:Int)(w:World)(e:(af×Int)→World→Prop):Prop:=M Pg 172 [.pointer (bS),.int .i64 (g1)] (B .i64) w fun bp bm=>if (bp != (0:Int))=true then (e ((⟨none,0,0⟩:af),bp) bm) else (ex (bK bS) fun b1=>ex (L ek (b1.add 0) bm) fun cJ=>M Pg 173 [.map (cJ)] gg bm fun a3 bV=>M Pg 59 [(a3).enc] X bV fun a2 b3=>e2 (fun (s:af×Int) w aa=>Mg g1 b1 a2 s.1 s.2 w aa e) ((⟨none,0,0⟩:af),(0:Int)) b3)
theorem agb{bS g1 w e}(h:TI bS g1 w e):M Pg 117 [.pointer bS,.int .i64 g1] (bw X (B .i64)) w e:=by
 have iI:=fun {p1} {l4} {a2:af}=>hy (bx:=af) 12 (fun s w=>E_ p1 s w l4 e) (fun g s=>ae (ae (ae (ae (ae (ae g 0 (.pointer bS)) 1 (.int .i64 g1)) 23 (X.enc a2)) 24 (.int .i64 ((a2.len:Int)))) 25 (.int .i64 p1)) 7 (X.enc s))
 have iU:=fun {b1} {a2:af}=>hf (bx:=af×Int) 7 (fun s w aa=>Mg g1 b1 a2 s.1 s.2 w aa e) (fun g s=>ae (ae (ae (ae (ae (ae g 0 (.pointer bS)) 1 (.int .i64 g1)) 23 (X.enc a2)) 24 (.int .i64 ((a2.len:Int)))) 7 (X.enc (s.1))) 25 (.int .i64 (s.2)))
 exact bq 51 Tryz.func117 rfl rfl br
def TJ(zG:Int)(w:World)(e:Int→World→Prop):Prop:=if (zG==(120:Int))=true then (e (151:Int) w) else (if (zG==(128:Int))=true then (e (164:Int) w) else (if (zG==(126:Int))=true then (e (165:Int) w) else (if (zG==(127:Int))=true then (e (159:Int) w) else (e zG w))))
theorem agc{zG w e}(h:TJ zG w e):M Pg 118 [.int .i64 zG] (B .i64) w e:=
 bq 13 Tryz.func118 rfl rfl br
def TK(bS:af)(jm:cm)(w:World)(e:Bool→World→Prop):Prop:=M Pg 175 [X.enc (bS),(jm).enc] (B .i64) w fun bp bm=>e (decide (bp≥(0:Int))) bm
theorem agd{bS jm w e}(h:TK bS jm w e):M Pg 119 [X.enc bS,jm.enc] bk w e:=
 bq 9 Tryz.func119 rfl rfl br
def TL(ft:mA)(bB:Addr)(w:World)(e:Bool→World→Prop):Prop:=bO 85 p_ ft w fun aA aV=>ex (L (B .i64) (aA.add 0) aV) fun dN=>ex (L (B .i64) bB aV) fun cJ=>e (dN != cJ) aV
theorem agf{ft bB w e}(h:TL ft bB w e):M Pg 120 [p_.enc ft,.pointer (some bB)] bk w e:=
 bq 8 Tryz.func120 rfl rfl br
def IC(uv:cm)(b0:Int)(cK:af)(p1:Int)(cu:World)(gB:Int→World→Prop)(l4:Int→World→Prop)(e:Int→World→Prop):Prop:=if (decide (p1<(cK.len:Int)))=true then (ex (cM cK 2 p1) fun gw=>ex (L hP gw cu) fun bJ=>bO 87 hP Di cu fun lc fW=>bd hP lc bJ fW fun ei=>ex (L hP lc ei) fun gh=>tK Pg uv [hP.enc (gh)] (B .i64) ei fun cC ew=>if (cC != (0:Int))=true then (e cC ew) else (l4 ((IntKind.i64.wrap (p1+(1:Int)))) ew)) else (gB ((IntKind.i64.wrap (b0+(1:Int)))) cu)
def Mm(fY:af)(uv:cm)(b0:Int)(aV:World)(gB:Int→World→Prop)(e:Int→World→Prop):Prop:=if (decide (b0<(fY.len:Int)))=true then (ex (cM fY 2 b0) fun bY=>ex (L p_ bY aV) fun bQ=>bO 85 p_ W_ aV fun cP b3=>bd p_ cP bQ b3 fun cn=>ex (L X (cP.add 1) cn) fun cK=>e2 (fun (s:Int) w aa=>IC uv b0 cK s w gB aa e) ((0:Int)) cn) else (e (0:Int) aV)
def TM(fY:af)(uv:cm)(w:World)(e:Int→World→Prop):Prop:=e2 (fun (s:Int) w aa=>Mm fY uv s w aa e) ((0:Int)) w
theorem agh{fY uv w e}(h:TM fY uv w e):M Pg 121 [X.enc fY,uv.enc] (B .i64) w e:=by
 have iU:=fun {b0} {cK:af} {gB}=>hf (bx:=Int) 6 (fun s w aa=>IC uv b0 cK s w gB aa e) (fun g s=>ae (ae (ae (ae (ae (ae (ae g 1 (uv.enc)) 10 (X.enc fY)) 11 (.int .i64 ((fY.len:Int)))) 12 (.int .i64 b0)) 17 (X.enc cK)) 18 (.int .i64 ((cK.len:Int)))) 19 (.int .i64 s))
 have Eg:=hf (bx:=Int) 3 (fun s w aa=>Mm fY uv s w aa e) (fun g s=>ae (ae (ae (ae g 1 (uv.enc)) 10 (X.enc fY)) 11 (.int .i64 ((fY.len:Int)))) 12 (.int .i64 s))
 exact bq 31 Tryz.func121 rfl rfl br
def Fa(bB:Addr)(b0:Addr)(a6:Addr)(aHO:Bool)(cA:World)(e:Int→World→Prop):Prop:=if aHO=true then (e (183:Int) cA) else (ex (L (B .i64) (a6.add 1) cA) fun dU=>ex (L (B .i64) b0 cA) fun eA=>if (decide (dU>(IntKind.i64.wrap ((4611686018427387904:Int)-eA))))=true then (e (184:Int) cA) else (dl cA fun dP=>ex (L ek bB dP) fun bJ=>ex (L (B .i64) (a6.add 0) dP) fun jM=>ex (L (B .i64) (a6.add 1) dP) fun cW=>ex (L (B .i64) b0 dP) fun hL=>ex (L (B .i64) (a6.add 1) dP) fun gh=>qk (B .i64) .i64 bJ jM cW dP fun ew=>bE ((L (B .i64) b0 ew) hL)<|bE ((L (B .i64) (a6.add 1) ew) gh)<|bd (B .i64) b0 (IntKind.i64.wrap (hL+gh)) ew fun fM=>e (0:Int) fM))
def TN(h_:fw)(bB:Addr)(b0:Addr)(w:World)(e:Int→World→Prop):Prop:=bO 87 hP h_ w fun a6 a_=>ex (L ek bB a_) fun cJ=>ex (L (B .i64) (a6.add 0) a_) fun bQ=>ex (iq (B .i64) .i64 cJ bQ a_) fun abB=>ex (L (B .i64) (a6.add 0) a_) fun cH=>ex (fun x=>(!(decide (cH<(0:Int))))=true→(L (B .i64) (a6.add 0) a_) x) fun dM=>if ((decide (cH<(0:Int)))||(decide (dM≥(8192:Int))))=true then (e (181:Int) a_) else (if ((abB.getD (0:Int),abB.isSome)).2=true then (e (182:Int) a_) else (dl a_ fun fZ=>ex (L (B .i64) (a6.add 1) fZ) fun mO=>if (decide (mO<(0:Int)))=true then (Fa bB b0 a6 true fZ e) else (ex (L (B .i64) (a6.add 1) fZ) fun kg=>ex (L (B .i64) (a6.add 0) fZ) fun lx=>M Pg 123 [.int .i64 (lx)] (B .i64) fZ fun tf gT=>bE ((L (B .i64) (a6.add 1) gT) mO)<|bE ((L (B .i64) (a6.add 1) gT) kg)<|Fa bB b0 a6 (decide (kg>tf)) gT e)))
theorem agi{h_ bB b0 w e}(h:TN h_ bB b0 w e):M Pg 122 [hP.enc h_,.pointer (some bB),.pointer (some b0)] (B .i64) w e:=by
 have ga:=en 11 (dB [1,3,6,0,2,4,5,7,8,9,10] .j)
 have rT:=en 7 (dB [0,1,2,3,4,6,5,7,8,9,10,11] .j)
 have iI:=fun {a6}=>hy (bx:=Bool) 8 (fun s w=>Fa bB b0 a6 s w e) (fun g s=>ae (ae (ae (ae g 1 (.pointer (some bB))) 2 (.pointer (some b0))) 3 (.pointer (some a6))) 25 (.bool s))
 exact bq 52 Tryz.func122 rfl rfl br
def TO(wM:Int)(w:World)(e:Int→World→Prop):Prop:=if (decide (wM<(4096:Int)))=true then (e (1000000000000000:Int) w) else (e (4611686018427387904:Int) w)
theorem agj{wM w e}(h:TO wM w e):M Pg 123 [.int .i64 wM] (B .i64) w e:=
 bq 5 Tryz.func123 rfl rfl br
end bf
end Go.Proofs.YthaobmpdjcoheaaGreat
