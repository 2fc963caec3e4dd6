/- Own texts of this claim, part 5: short, merged. -/
import Derived.Test.YthaobmpdjcoheaaGreatZ1
set_option maxRecDepth 100000
set_option maxHeartbeats 40000000
set_option linter.defProp false
set_option linter.unusedVariables false
set_option linter.unusedSimpArgs false
namespace Go.Proofs.YthaobmpdjcoheaaGreat
namespace bf
def CY(bi:aM)(ij:Int)(cJ:Int)(eE:World)(e:Unit→World→Prop):Prop:=M Pg 77 [.pointer (bi),.int .i64 (ij),eJ.enc ((⟨(4:Int),(⟨cJ,(0:Int),(0:Int),false⟩:iz),false,(0:Int)⟩:ir))] dZ eE fun cC ew=>e () ew
def CX(bi:aM)(ij:Int)(a6:Addr)(cJ:Int)(cg:Addr)(jb:Bool)(pm:Bool)(ei:World)(e:Unit→World→Prop):Prop:=if pm=true then (e () ei) else (ex (fun x=>(!jb)=true→(L bk (a6.add 5) ei) x) fun mN=>if ((!jb)&&mN)=true then (dl ei fun fM=>ex (L aD (cg.add 3) fM) fun hj=>ex (L (B .i64) (a6.add 6) fM) fun kT=>M Pg 63 [.pointer (hj),.int .i64 (kT)] (B .i64) fM fun dV fZ=>CY bi ij cJ fZ e) else (CY bi ij cJ ei e))
def CW(bi:aM)(ij:Int)(a6:Addr)(cJ:Int)(cg:Addr)(eO:Addr)(jb:Bool)(c2:World)(e:Unit→World→Prop):Prop:=dl c2 fun h7=>if (!jb)=true then (ex (L aD (cg.add 4) h7) fun mq=>ex (L fN eO h7) fun ky=>M Pg 62 [.pointer (mq),fN.enc (ky)] (B .i64) h7 fun qs jj=>CX bi ij a6 cJ cg jb (qs != (0:Int)) jj e) else (CX bi ij a6 cJ cg jb false h7 e)
def Nq(bi:aM)(ij:Int)(wT:ir)(w:World)(e:Unit→World→Prop):Prop:=bO 62 eJ wT w fun a6 a_=>ex (L (B .i64) ((a6.add 1).add 0) a_) fun cJ=>ex (bK bi) fun cg=>ex (L aD (cg.add 4) a_) fun cT=>M Pg 30 [.pointer (cT)] aD a_ fun a2 b3=>M Pg 10 [.pointer (a2),.int .i64 (cJ)] (bw (B .i64) (B .i64)) b3 fun bo cN=>bO 142 fN Dh cN fun eO db=>bd fN eO (⟨(4:Int),(0:Int),cJ,(0:Int),(0:Int),false⟩:jN) db fun dP=>ex (L bk (a6.add 5) dP) fun zg=>if zg=true then (ex (L (B .i64) (a6.add 6) dP) fun Ti=>bd fN eO (⟨(3:Int),Ti,cJ,(0:Int),(0:Int),false⟩:jN) dP fun rG=>ex (fun x=>(bo.1==(2:Int))=true→(L (B .i64) (a6.add 6) rG) x) fun ni=>CW bi ij a6 cJ cg eO ((bo.1==(2:Int))&&(bo.2==ni)) rG e) else (CW bi ij a6 cJ cg eO (bo.1==(3:Int)) dP e)
theorem ajc{bi:aM}{ij:Int}{wT:ir}{w:World}{e:Unit→World→Prop}(h:Nq bi ij wT w e):M Pg 85 [.pointer (bi),.int .i64 (ij),eJ.enc (wT)] dZ w e:=by
 unfold Nq at h
 refine q3 72 Tryz.func85 rfl rfl (Nat.le_of_ble_eq_true rfl)<|wp_seq<|bz _ rfl ?_
 obtain⟨a6,a_,GG,G9,h⟩:=pU h
 refine a5 5 rfl rfl rfl (uj (u:=wT) rfl Ex rfl GG G9)<|bh<|wp_seq<|bz _ rfl<|hs _ _ _ Tryz.underlying62 Ew rfl rfl rfl<|hs _ _ _ Tryz.underlying60 ds rfl rfl rfl<|hV ds h rfl rfl fun cJ _ h=>y rfl<|bh<|wp_seq<|bz _ rfl<|y rfl ?_
 refine Ou h rfl rfl fun cg Zz h=>hs _ _ _ Tryz.underlying101 EA rfl rfl rfl<|hV EA h rfl rfl fun cT _ h=>fv am4 rfl rfl h fun a2 b3 h=>y rfl<|fv amx rfl rfl h fun bo cN h=>y rfl<|gW _ _ rfl rfl rfl<|gW _ _ rfl rfl rfl<|y rfl<|y rfl<|bh ?_
 refine wp_seq<|bz _ rfl<|y rfl<|a5 25 rfl rfl rfl (RF (bc:=(4:Int)) (d_:=cJ) rfl rfl rfl)<|o0 r_ wI h rfl fun eO db h=>jS r_ h rfl rfl rfl fun dP h=>bh<|wp_seq<|bz _ rfl<|y rfl<|a5 _ rfl rfl rfl (iL rfl rfl rfl)<|y rfl ?_
 refine bh<|Ar (bx:=Bool) (eZ:=fun (s:Bool) w=>CW bi ij a6 cJ cg eO s w e) (dw:=fun g (s:Bool)=>ae (ae (ae (ae (ae (ae (g) 0 (.pointer (bi))) 1 (.int .i64 (ij))) 5 (.pointer (some a6))) 6 (.int .i64 (cJ))) 9 (.pointer (some eO))) 10 (.bool (s))) ?_ ?_
 ·rintro jb g c2 h
  unfold CW at h
  refine wp_seq<|Ar (bx:=Bool) (eZ:=fun (s:Bool) w=>CX bi ij a6 cJ cg jb s w e) (dw:=fun g (s:Bool)=>ae (ae (ae (ae (ae (ae (g) 0 (.pointer (bi))) 1 (.int .i64 (ij))) 5 (.pointer (some a6))) 6 (.int .i64 (cJ))) 10 (.bool (jb))) 52 (.bool (s))) ?_ ?_
  ·rintro pm g ei h
   unfold CX at h
   refine fE h rfl (fun _ h=>?_) fun _ h=>?_
   ·refine wp_ret ?_
    exact n8 rfl .nil ⟨(),rfl,h⟩
   ·refine wp_skip<|Ar (bx:=Unit) (eZ:=fun (s:Unit) w=>CY bi ij cJ w e) (dw:=fun g (s:Unit)=>ae (ae (ae (g) 0 (.pointer (bi))) 1 (.int .i64 (ij))) 6 (.int .i64 (cJ))) ?_ ?_
    ·rintro⟨⟩ g eE h
     unfold CY at h
     refine bz _ rfl<|y rfl<|y rfl<|y rfl<|a5 69 rfl rfl rfl (RN (bc:=cJ) rfl rfl)<|a5 70 rfl rfl rfl (RO (bc:=(4:Int)) (bU:=(⟨cJ,(0:Int),(0:Int),false⟩:iz)) rfl rfl rfl)<|fv anj rfl rfl h fun cC ew h=>bh ?_
     exact Yw rfl .nil ⟨(),rfl,h⟩
    ·refine wp_seq<|bz _ rfl<|y rfl<|a5 _ rfl rfl rfl (rz rfl rfl)<|y rfl<|b9 (g:=(!jb)) (d:=(some 56)) rfl (.cq 2 55 true (!jb) rfl rfl rfl rfl) rfl (fun R=>lX (a:=a6) (off:=5) rfl Tryz.underlying62 rfl rfl oC (by decide) rfl) ?_
     obtain⟨mN,P6,h⟩:=h
     refine b9 (g:=(!jb)) (d:=(some 57)) rfl (.cq 2 55 true (!jb) rfl rfl rfl rfl) rfl (fun R=>kb (T:=bk) (u:=mN) (a:=(a6.add 5)) rfl oC (dg R) (P6 R))<|a5 58 rfl rfl rfl (m6 (a:=(!jb)) (l:=mN) rfl rfl rfl rfl)<|bh<|fE h rfl (fun _ h=>?_) fun _ h=>?_
     ·obtain⟨fM,are,h⟩:=ov h
      refine pq 7 mixed rfl (by kernel_rfl) (by intro c a d v w h; cases d<;>exact h) are (fun ak=>?_)
      refine gi 0 59 (.pointer (bi)) ak rfl rfl<|oe 1 60 Zz ak rfl rfl<|hr 2 61 cg 3 Tryz.underlying101 KX ak rfl rfl rfl<|hr 4 63 a6 6 Tryz.underlying62 c4 ak rfl rfl rfl ?_
      obtain⟨hj,P7,h⟩:=h
      refine ia 3 62 P7 KX ak rfl rfl ?_
      obtain⟨kT,P8,h⟩:=h
      refine ia 5 64 P8 c4 ak rfl rfl<|fo (i:=6) (by kernel_rfl)<|hK rfl (.free rfl) (gU (d:=(some 65)) rfl (fT (k:=63) (m:=[.pointer (hj),.int .i64 (kT)]) rfl ane rfl) h ?_)
      intro dV fZ h
      refine⟨(hl (by kernel_rfl) (hl (by kernel_rfl) iv)),?_⟩
      refine kL (by kernel_rfl) ?_
      exact⟨(),_,arr (aQ (aQ (aQ rfl rfl) rfl) rfl),h⟩
     ·refine wp_skip ?_
      exact⟨(),_,arr (aQ (aQ (aQ rfl rfl) rfl) rfl),h⟩
  ·obtain⟨h7,PZ,h⟩:=ov h
   refine pq 11 mixed rfl (by kernel_rfl) (by intro c a d v w h; cases d<;>exact h) PZ (fun ak=>?_)
   refine gi 0 42 (.bool (jb)) ak rfl rfl<|fg 1 43 ak rfl rfl rfl (fun _=>rz (l:=jb) rfl rfl)<|gi 2 44 (.bool ((!jb))) ak rfl rfl<|jh (l:=(!jb)) h (fun pJ h=>?_) (fun pJ h=>?_)
   ·refine eS (i:=3) (d:=(some 45)) ak (by kernel_rfl) (by kernel_rfl) rfl (.az 2 true 44 (!jb) rfl rfl rfl pJ) rfl (fun _=>c0 (v:=.pointer (bi)) rfl rfl)<|eS (i:=4) (d:=(some 46)) ak (by kernel_rfl) (by kernel_rfl) rfl (.az 2 true 44 (!jb) rfl rfl rfl pJ) rfl (fun _=>mf (a:=cg) rfl (congrArg Value.pointer Zz))<|eS (i:=5) (d:=(some 47)) ak (by kernel_rfl) (by kernel_rfl) rfl (.az 2 true 44 (!jb) rfl rfl rfl pJ) rfl (fun _=>lX (a:=cg) (off:=4) rfl Tryz.underlying101 rfl rfl EA (by decide) rfl) ?_
    obtain⟨mq,Ha,h⟩:=h
    refine tg (i:=6) (d:=(some 48)) (fun A=>(L aD (cg.add 4) A) mq) ak (by kernel_rfl) (by kernel_rfl) rfl (.az 2 true 44 (!jb) rfl rfl rfl pJ) rfl (fun A ab=>kb (T:=aD) (u:=mq) (a:=(cg.add 4)) rfl EA rfl ab) Ha ?_
    obtain⟨ky,Hb,h⟩:=h
    refine tg (i:=7) (d:=(some 49)) (fun A=>(L fN eO A) ky) ak (by kernel_rfl) (by kernel_rfl) rfl (.az 2 true 44 (!jb) rfl rfl rfl pJ) rfl (fun A ab=>kb (T:=fN) (u:=ky) (a:=eO) rfl r_ rfl ab) Hb<|fo (i:=8) (by kernel_rfl)<|hK rfl (.az 2 true 44 (!jb) rfl rfl rfl pJ) (gU (d:=(some 50)) rfl (fT (k:=62) (m:=[.pointer (mq),fN.enc (ky)]) rfl anc rfl) h ?_)
    intro qs jj h
    refine⟨(hl (by kernel_rfl) (hl (by kernel_rfl) iv)),?_⟩
    refine eS (i:=9) (d:=(some 51)) ak (by kernel_rfl) (by kernel_rfl) rfl (.az 2 true 44 (!jb) rfl rfl rfl pJ) rfl (fun _=>hg (a:=qs) (l:=(0:Int)) rfl rfl rfl)<|fg 10 52 ak rfl rfl rfl (fun _=>h1 (v:=.bool ((qs != (0:Int)))) (l:=(!jb)) rfl rfl pJ rfl)<|kL (by kernel_rfl) ?_
    exact⟨((qs != (0:Int))),_,arr (aQ (aQ (aQ (aQ (aQ (aQ rfl rfl) rfl) rfl) rfl) rfl) rfl),h⟩
   ·refine dR 3 45 ak rfl (.az 2 true 44 (!jb) rfl rfl rfl pJ) rfl<|dR 4 46 ak rfl (.az 2 true 44 (!jb) rfl rfl rfl pJ) rfl<|dR 5 47 ak rfl (.az 2 true 44 (!jb) rfl rfl rfl pJ) rfl<|dR 6 48 ak rfl (.az 2 true 44 (!jb) rfl rfl rfl pJ) rfl<|dR 7 49 ak rfl (.az 2 true 44 (!jb) rfl rfl rfl pJ) rfl<|fo (i:=8) (by kernel_rfl)<|lW (d:=(some 50)) rfl (.az 2 true 44 (!jb) rfl rfl rfl pJ) rfl ⟨fun _ _ _ h=>h,?_⟩
    refine dR 9 51 ak rfl (.az 2 true 44 (!jb) rfl rfl rfl pJ) rfl<|fg 10 52 ak rfl rfl rfl (fun _=>iW (v:=.bool (false)) (l:=(!jb)) rfl rfl pJ rfl)<|kL (by kernel_rfl) ?_
    exact⟨(false),_,arr (aQ (aQ (aQ (aQ (aQ (aQ rfl rfl) rfl) rfl) rfl) rfl) rfl),h⟩
 ·refine wp_seq<|bz _ rfl<|hs _ _ _ Tryz.underlying62 oC rfl rfl rfl<|hV oC h rfl rfl fun zg _ h=>bh<|fE h rfl (fun _ h=>?_) fun _ h=>?_
  ·refine wp_seq<|bz _ rfl<|hs _ _ _ Tryz.underlying62 c4 rfl rfl rfl<|hV c4 h rfl rfl fun Ti _ h=>y rfl<|a5 33 rfl rfl rfl (RD (bc:=(3:Int)) (bU:=Ti) (d_:=cJ) rfl rfl rfl rfl)<|jS r_ h rfl rfl rfl fun rG h=>bh<|bz _ rfl<|y rfl<|a5 _ rfl rfl rfl (iL rfl rfl rfl)<|y rfl ?_
   refine b9 (g:=(bo.1==(2:Int))) (d:=(some 37)) rfl (.cq 2 36 true (bo.1==(2:Int)) rfl rfl rfl rfl) rfl (fun R=>c0 (v:=.int .i64 (bo.2)) rfl rfl)<|b9 (g:=(bo.1==(2:Int))) (d:=(some 38)) rfl (.cq 2 36 true (bo.1==(2:Int)) rfl rfl rfl rfl) rfl (fun R=>lX (a:=a6) (off:=6) rfl Tryz.underlying62 rfl rfl c4 (by decide) rfl) ?_
   obtain⟨ni,P9,h⟩:=h
   refine b9 (g:=(bo.1==(2:Int))) (d:=(some 39)) rfl (.cq 2 36 true (bo.1==(2:Int)) rfl rfl rfl rfl) rfl (fun R=>kb (T:=(B .i64)) (u:=ni) (a:=(a6.add 6)) rfl c4 (dg R) (P9 R))<|b9 (g:=(bo.1==(2:Int))) (d:=(some 40)) rfl (.cq 2 36 true (bo.1==(2:Int)) rfl rfl rfl rfl) rfl (fun R=>iL (k:=.i64) (a:=bo.2) (l:=ni) rfl (dg R) (dg R))<|a5 41 rfl rfl rfl (m6 (a:=(bo.1==(2:Int))) (l:=(bo.2==ni)) rfl rfl rfl rfl)<|y rfl<|bh ?_
   exact⟨(((bo.1==(2:Int))&&(bo.2==ni))),_,arr (aQ (aQ (aQ (aQ (aQ (aQ rfl rfl) rfl) rfl) rfl) rfl) rfl),h⟩
  ·refine wp_skip ?_
   exact⟨((bo.1==(3:Int))),_,arr (aQ (aQ (aQ (aQ (aQ (aQ rfl rfl) rfl) rfl) rfl) rfl) rfl),h⟩
def WC(dt:aM)(jX:Bool)(w:World)(e:Int→World→Prop):Prop:=ex (bK dt) fun aA=>ex (L (B .i64) (aA.add 12) w) fun de=>if (de==(0:Int))=true then (e (176:Int) w) else (dl w fun a_=>M Pg 136 [.bool (jX)] (B .i64) a_ fun bX b2=>ex (oi (aA.add 10) 2 1 bX) fun cP=>bd bk cP true b2 fun b3=>e (0:Int) b3)
theorem ajd{dt jX w e}(h:WC dt jX w e):M Pg 86 [.pointer dt,.bool jX] (B .i64) w e:=by
 have ga:=en 4 (dB [0,1,3,4,2,5,6] .j)
 exact bq 16 Tryz.func86 rfl rfl br
def Nr(eV:Nat)(w:World)(e:Int→World→Prop):Prop:=if (fQ .neq eV eV)=true then (e (0:Int) w) else (if ((eV:Int)==(0:Int))=true then (e (4:Int) w) else (if ((eV:Int)==(9223372036854775808:Int))=true then (e (3:Int) w) else (M Pg 138 [.float .f64 (eV),.int .i64 ((-1:Int))] bk w fun gf cB=>if gf=true then (e (1:Int) cB) else (M Pg 138 [.float .f64 (eV),.int .i64 ((1:Int))] bk cB fun bj aV=>if bj=true then (e (6:Int) aV) else (if (fQ .lss eV (0:Nat))=true then (e (2:Int) aV) else (e (5:Int) aV))))))
theorem WD{eV w e}(h:Nr eV w e):M Pg 87 [.float .f64 eV] (B .i64) w e:=
 bq 25 Tryz.func87 rfl rfl br
def WE(jD:Nat)(hS:Nat)(w:World)(e:Int→World→Prop):Prop:=M Pg 139 [.float .f64 (jD)] (B .u64) w fun bp bm=>M Pg 139 [.float .f64 (hS)] (B .u64) bm fun aI a_=>if (decide (bp<aI))=true then (e (-1:Int) a_) else (if (decide (bp>aI))=true then (e (1:Int) a_) else (e (0:Int) a_))
theorem aje{jD hS w e}(h:WE jD hS w e):M Pg 88 [.float .f64 jD,.float .f64 hS] (B .i64) w e:=
 bq 19 Tryz.func88 rfl rfl br
def WG(bi:Int)(w:World)(e:Bool→World→Prop):Prop:=e ((decide (bi≥(0:Int)))&&(decide (bi≤(1125899906842624:Int)))) w
theorem ajf{bi w e}(h:WG bi w e):M Pg 89 [.int .i64 bi] bk w e:=
 bq 9 Tryz.func89 rfl rfl br
def Nt(bX:(aM×af×Int))(eN:Addr)(p1:Int)(cu:World)(l4:Int→World→Prop)(e:(aM×Int)→World→Prop):Prop:=if (decide (p1<(bX.2.1.len:Int)))=true then (ex (cM bX.2.1 1 p1) fun gw=>ex (L X gw cu) fun bJ=>M Pg 141 [X.enc (bJ)] (bw fN bk) cu fun gy c2=>bO 142 fN Dh c2 fun i_ eE=>bd fN i_ gy.1 eE fun ew=>if (!gy.2)=true then (e ((none:Option Addr),(191:Int)) ew) else (ex (L fN i_ ew) fun gI=>M Pg 115 [.pointer ((some eN)),fN.enc (gI)] (B .i64) ew fun w4 ep=>l4 ((IntKind.i64.wrap (p1+(1:Int)))) ep)) else (e ((some eN),(0:Int)) cu)
def WH(dd:aM)(nC:Int)(un:Nat)(w:World)(e:(aM×Int)→World→Prop):Prop:=M Pg 38 [.float .f64 (un)] (B .i64) w fun bj aV=>if (bj != (0:Int))=true then (e ((none:Option Addr),(190:Int)) aV) else (M Pg 91 [.pointer (dd),.int .i64 (nC)] (mm aD X (B .i64)) aV fun bX b2=>if (bX.2.2 != (0:Int))=true then (e ((none:Option Addr),bX.2.2) b2) else (M Pg 140 [.float .f64 (un)] (bw aD (B .i64)) b2 fun fm bH=>bO 150 A2 (⟨bX.1,fm.1⟩:xu) bH fun eN cN=>e2 (fun (s:Int) w aa=>Nt bX eN s w aa e) ((0:Int)) cN))
theorem ajh{dd nC un w e}(h:WH dd nC un w e):M Pg 90 [.pointer dd,.int .i64 nC,.float .f64 un] (bw aD (B .i64)) w e:=by
 have iU:=fun {bX:(aM×af×Int)} {eN}=>hf (bx:=Int) 10 (fun s w aa=>Nt bX eN s w aa e) (fun g s=>ae (ae (ae (ae g 13 (.pointer ((some eN)))) 40 (X.enc (bX.2.1))) 41 (.int .i64 ((bX.2.1.len:Int)))) 42 (.int .i64 s))
 exact bq 58 Tryz.func90 rfl rfl br
def AT(dd:aM)(nC:Int)(aI:(af×Int))(Gn:Int)(bH:World)(e:(aM×af×Int)→World→Prop):Prop:=if (Gn != (0:Int))=true then (e ((none:Option Addr),(⟨none,0,0⟩:af),Gn) bH) else (bO 238 A7 (⟨(⟨(aI.1.len:Int),(aI.1.len:Int)⟩:sD),dd,nC,false⟩:tA) bH fun dE cn=>e ((some dE),aI.1,(0:Int)) cn)
def Nu(dd:aM)(nC:Int)(w:World)(e:(aM×af×Int)→World→Prop):Prop:=if dd.isNone=true then (e ((none:Option Addr),(⟨none,0,0⟩:af),(80:Int)) w) else (M Pg 142 [.pointer (dd),.int .i64 (nC)] (bw X (B .i64)) w fun bp bm=>if (bp.2 != (0:Int))=true then (e ((none:Option Addr),(⟨none,0,0⟩:af),bp.2) bm) else (M Pg 143 [X.enc (bp.1)] (bw X (B .i64)) bm fun aI a_=>if (decide (aI.2<(bp.1.len:Int)))=true then (ex (Sub bp.1 1 0 aI.2 aI.2) fun Sk=>M Pg 144 [.pointer (dd),.int .i64 (nC),X.enc (Sk)] (B .i64) a_ fun dm cu=>AT dd nC aI dm cu e) else (M Pg 145 [.pointer (dd),.int .i64 (nC)] (B .i64) a_ fun mg dP=>if (decide (mg<aI.2))=true then (M Pg 129 [.pointer (dd),.int .i64 (nC)] (B .i64) dP fun gy c2=>AT dd nC aI gy c2 e) else (AT dd nC aI bp.2 dP e))))
theorem aji{dd:aM}{nC:Int}{w:World}{e:(aM×af×Int)→World→Prop}(h:Nu dd nC w e):M Pg 91 [.pointer (dd),.int .i64 (nC)] (mm aD X (B .i64)) w e:=by
 unfold Nu at h
 refine q3 61 Tryz.func91 rfl rfl (Nat.le_of_ble_eq_true rfl)<|wp_seq<|bz _ rfl<|y rfl<|y rfl<|y rfl<|bh<|wp_seq<|wp_seq<|bz _ rfl<|y rfl<|a5 12 rfl rfl rfl (sh (a:=dd) rfl Tryz.underlying93 rfl rfl) ?_
 refine bh<|fE h rfl (fun _ h=>?_) fun _ h=>?_
 ·refine wp_seq<|bz _ rfl<|y rfl<|y rfl<|y rfl<|bh<|wp_ret ?_
  exact Iw h rfl rfl
 ·refine wp_skip<|wp_seq<|bz _ rfl<|y rfl<|y rfl<|fv amH rfl rfl h fun bp bm h=>y rfl<|gW _ _ rfl rfl rfl<|gW _ _ rfl rfl rfl<|y rfl<|y rfl<|bh ?_
  refine wp_seq<|wp_seq<|bz _ rfl<|y rfl<|a5 _ rfl rfl rfl (hg rfl rfl rfl)<|bh<|fE h rfl (fun _ h=>?_) fun _ h=>?_
  ·refine wp_seq<|bz _ rfl<|y rfl<|y rfl<|y rfl<|y rfl<|bh<|wp_ret ?_
   exact Iw h rfl rfl
  ·refine wp_skip<|wp_seq<|bz _ rfl<|y rfl<|fv amI rfl rfl h fun aI a_ h=>y rfl<|gW _ _ rfl rfl rfl<|gW _ _ rfl rfl rfl<|y rfl<|y rfl<|bh<|Ar (bx:=Int) (eZ:=fun (s:Int) w=>AT dd nC aI s w e) (dw:=fun g (s:Int)=>ae (ae (ae (ae (g) 0 (.pointer (dd))) 1 (.int .i64 (nC))) 9 (X.enc (aI.1))) 8 (.int .i64 (s))) ?_ ?_
   ·rintro Gn g bH h
    unfold AT at h
    refine wp_seq<|wp_seq<|bz _ rfl<|y rfl<|a5 _ rfl rfl rfl (hg rfl rfl rfl)<|bh<|fE h rfl (fun _ h=>?_) fun _ h=>?_
    ·refine wp_seq<|bz _ rfl<|y rfl<|y rfl<|y rfl<|y rfl<|bh<|wp_ret ?_
     exact Iw h rfl rfl
    ·refine wp_skip<|wp_seq<|bz _ rfl<|y rfl<|a5 _ rfl rfl rfl (jZ rfl Tryz.underlying185 rfl)<|y rfl<|a5 _ rfl rfl rfl (jZ rfl Tryz.underlying185 rfl)<|a5 55 rfl rfl rfl (RH (bc:=(aI.1.len:Int)) (bU:=(aI.1.len:Int)) rfl rfl rfl)<|y rfl<|y rfl<|a5 58 rfl rfl rfl (RI (bc:=(⟨(aI.1.len:Int),(aI.1.len:Int)⟩:sD)) (bU:=dd) (d_:=nC) rfl rfl rfl rfl) ?_
     obtain⟨dE,cn,sQ,PW,h⟩:=pU h
     refine a5 59 rfl rfl rfl (uj (u:=(⟨(⟨(aI.1.len:Int),(aI.1.len:Int)⟩:sD),dd,nC,false⟩:tA)) rfl abV rfl sQ PW)<|y rfl<|y rfl<|y rfl<|y rfl<|bh<|wp_ret ?_
     exact Iw h rfl rfl
   ·refine wp_block<|wp_seq<|bz _ rfl<|y rfl<|y rfl<|a5 _ rfl rfl rfl (jZ rfl Tryz.underlying189 rfl)<|a5 _ rfl rfl rfl (me rfl rfl rfl)<|y rfl<|bh<|fE h rfl (fun _ h=>?_) fun _ h=>?_
    ·refine bz _ rfl<|y rfl<|y rfl<|y rfl<|y rfl<|y rfl ?_
     obtain⟨Sk,aqU,h⟩:=h
     refine a5 37 rfl rfl rfl (R2 (s:=bp.1) (h:=aI.2) (y:=aI.2) rfl Tryz.underlying189 HF rfl rfl rfl aqU)<|fv amJ rfl rfl h fun dm cu h=>y rfl<|bh ?_
     exact⟨(dm),_,arr (aQ (aQ (aQ (aQ rfl rfl) rfl) rfl) rfl),h⟩
    ·refine wp_seq<|bz _ rfl<|y rfl<|y rfl<|fv amK rfl rfl h fun mg dP h=>y rfl<|a5 _ rfl rfl rfl (me rfl rfl rfl)<|y rfl<|bh<|fE h rfl (fun _ h=>?_) fun _ h=>?_
     ·refine bz _ rfl<|y rfl<|y rfl<|fv amG rfl rfl h fun gy c2 h=>y rfl<|bh ?_
      exact⟨(gy),_,arr (aQ (aQ (aQ (aQ rfl rfl) rfl) rfl) rfl),h⟩
     ·refine wp_skip ?_
      exact⟨(bp.2),_,arr (aQ (aQ (aQ (aQ rfl rfl) rfl) rfl) rfl),h⟩
def WI(w:World)(e:aM→World→Prop):Prop:=bO 223 Dc (⟨(0:Int)⟩:xx) w fun lG cB=>e (some lG) cB
theorem ajj{w e}(h:WI w e):M Pg 92 [] aD w e:=
 bq 3 Tryz.func92 rfl rfl br
def AU(eN:Addr)(aY:Addr)(a6:Addr)(bY:Addr)(e:(af×Int×Int)→World→Prop)(v:er)(w:World):Prop:=yD Pg 146 [.pointer (some eN),.pointer (some aY),.pointer (some a6),.pointer (some bY)] (.panicking (Ai v)) w fun uz=>ex (L X aY uz) fun hC=>ex (L (B .i64) a6 uz) fun gV=>ex (L (B .i64) bY uz) fun mr=>e (hC,gV,mr) uz
def Nw(eP:af)(aY:Addr)(a6:Addr)(bY:Addr)(cP:Addr)(eN:Addr)(cu:World)(l4:Unit→World→Prop)(e:(af×Int×Int)→World→Prop):Prop:=ex (L (B .i64) (cP.add 1) cu) fun fu=>if (decide (fu<(eP.len:Int)))=true then (ex (L (B .i64) (cP.add 1) cu) fun bJ=>bd (B .i64) eN bJ cu fun c2=>ex (L X aY c2) fun cW=>if ((cW.len:Int)==(1000:Int))=true then ((AU eN aY a6 bY e) (er.mk 259 (jO.enc ((⟨(20:Int)⟩:j3)))) c2) else (dl c2 fun ei=>ex (L X aY ei) fun gh=>nS Pg 147 [.pointer ((some cP))] gj ei (AU eN aY a6 bY e) fun cC ew=>bE ((L X aY ew) gh)<|l6 197 gj 5 48 gh [cC] ew fun fA e5=>bd X aY fA e5 fun f_=>l4 () f_)) else (ex (L X aY cu) fun kg=>bd X aY kg cu fun h7=>bd (B .i64) a6 (0:Int) h7 fun gT=>bd (B .i64) bY (0:Int) gT fun iy=>yD Pg 146 [.pointer (some eN),.pointer (some aY),.pointer (some a6),.pointer (some bY)] .returning iy fun uz=>ex (L X aY uz) fun hC=>ex (L (B .i64) a6 uz) fun gV=>ex (L (B .i64) bY uz) fun mr=>e (hC,gV,mr) uz)
def Nv(eP:af)(w:World)(e:(af×Int×Int)→World→Prop):Prop:=bO 190 X (⟨none,0,0⟩:af) w fun aY bm=>bO 3 (B .i64) (0:Int) bm fun a6 a_=>bO 43 (B .i64) (0:Int) a_ fun bY bV=>bO 257 Dd (⟨eP,(0:Int)⟩:v6) bV fun cP b3=>bO 3 (B .i64) (0:Int) b3 fun eN cN=>bd (B .i64) eN (0:Int) cN fun cA=>e2 (fun (s:Unit) w aa=>Nw eP aY a6 bY cP eN w aa e) () cA
theorem ajk{eP:af}{w:World}{e:(af×Int×Int)→World→Prop}(h:Nv eP w e):M Pg 93 [X.enc (eP)] (mm X (B .i64) (B .i64)) w e:=by
 unfold Nv at h
 refine akT (pj:=[2,3,4]) 33 Tryz.func93 rfl rfl (Nat.le_of_ble_eq_true rfl)<|wp_seq<|bz _ rfl<|o0 vs Qp h rfl fun aY bm h=>o0 ds Kg h rfl fun a6 a_ h=>o0 w0 Qs h rfl fun bY bV h=>bh<|wp_seq<|bz _ rfl<|y rfl<|a5 8 rfl rfl rfl (RK (bc:=eP) rfl rfl) ?_
 obtain⟨cP,b3,Pd,P1,h⟩:=pU h
 refine a5 9 rfl rfl rfl (uj (u:=(⟨eP,(0:Int)⟩:v6)) rfl abW rfl Pd P1)<|y rfl<|bh<|wp_seq<|bz _ rfl<|o0 ds Kg h rfl fun eN cN h=>jS ds h rfl rfl rfl fun cA h=>bh<|wp_seq<|bz _ rfl<|a5 10 rfl rfl rfl (RS (fn:=.func 146) (SQ:=[]) (SS:=[.pointer (some eN),.pointer (some aY),.pointer (some a6),.pointer (some bY)]) rfl rfl rfl)<|ev rfl (.free rfl) (aIO (k:=146) (ba:=[.pointer (some eN),.pointer (some aY),.pointer (some a6),.pointer (some bY)]) (d:=none) rfl rfl rfl ?_)
 refine bh<|wp_seq<|wp_block<|s7 (bx:=Unit) (dw:=fun g (s:Unit)=>ae (ae (ae (ae (ae (ae (g) 0 (X.enc (eP))) 2 (.pointer (some aY))) 3 (.pointer (some a6))) 4 (.pointer (some bY))) 5 (.pointer ((some cP)))) 6 (.pointer (some eN))) (ml:=()) (aQ (aQ (aQ (aQ (aQ (aQ rfl rfl) rfl) rfl) rfl) rfl) rfl) h ?_
 rintro⟨⟩ g cu l4 h
 unfold Nw at h
 refine wp_seq<|wp_seq<|bz _ rfl<|y rfl<|a5 12 rfl rfl rfl (mf (a:=cP) rfl rfl)<|hs _ _ _ Tryz.underlying257 ds rfl rfl rfl<|hV ds h rfl rfl fun fu _ h=>y rfl<|a5 _ rfl rfl rfl (jZ rfl Tryz.underlying189 rfl)<|a5 _ rfl rfl rfl (me rfl rfl rfl)<|bh<|fE h rfl (fun _ h=>?_) fun _ h=>?_
 ·refine wp_skip<|wp_block<|wp_seq<|bz _ rfl<|y rfl<|a5 19 rfl rfl rfl (mf (a:=cP) rfl rfl)<|hs _ _ _ Tryz.underlying257 ds rfl rfl rfl<|hV ds h rfl rfl fun bJ _ h=>jS ds h rfl rfl rfl fun c2 h=>bh<|wp_seq<|wp_seq ?_
  refine bz _ rfl<|hV vs h rfl rfl fun cW _ h=>a5 _ rfl rfl rfl (jZ rfl Tryz.underlying190 rfl)<|a5 _ rfl rfl rfl (iL rfl rfl rfl)<|bh<|fE h rfl (fun _ h=>?_) fun _ h=>?_
  ·refine bz _ rfl<|a5 25 rfl rfl rfl (yV (bc:=(20:Int)) rfl rfl)<|a5 26 rfl rfl rfl (yW (v:=jO.enc ((⟨(20:Int)⟩:j3))) rfl Tryz.underlying259 rfl rfl)<|ev rfl (.free rfl) (CH (v:=(er.mk 259 (jO.enc ((⟨(20:Int)⟩:j3))))) rfl rfl ⟨_,_,rfl⟩ ?_)
   unfold AU at h
   refine acr (an:=[.cell 2 190,.cell 3 3,.cell 4 43]) rfl Oz (QP h fun uz h=>?_)
   obtain⟨hC,BP,h⟩:=h
   obtain⟨gV,BQ,h⟩:=h
   obtain⟨mr,BR,h⟩:=h
   exact⟨_,(.cons (.cell (T:=X) (u:=hC) (a:=aY) vs rfl BP) (.cons (.cell (T:=(B .i64)) (u:=gV) (a:=a6) ds rfl BQ) (.cons (.cell (T:=(B .i64)) (u:=mr) (a:=bY) w0 rfl BR) .nil))),⟨(hC,gV,mr),rfl,h⟩⟩
  ·refine wp_skip ?_
   obtain⟨ei,arb,h⟩:=ov h
   refine aIP 6 mixed rfl (by kernel_rfl) (fun c a d v w ag h=>aEa (pj:=[2,3,4]) (aml (by kernel_rfl) ag) h) arb (fun ak=>?_)
   refine gi 1 28 (.pointer ((some cP))) ak rfl rfl ?_
   obtain⟨gh,G_,h⟩:=h
   refine ia 0 27 G_ vs ak rfl rfl<|fo (i:=2) (by kernel_rfl)<|hK rfl (.free rfl) (zd (d:=(some 29)) rfl (fT (k:=147) (m:=[.pointer ((some cP))]) rfl amL rfl) h ?_ ?_)
   ·intro _ _ h
    unfold AU at h
    refine acr (an:=[.cell 2 190,.cell 3 3,.cell 4 43]) rfl Oz (QP h fun uz h=>?_)
    obtain⟨hC,BP,h⟩:=h
    obtain⟨gV,BQ,h⟩:=h
    obtain⟨mr,BR,h⟩:=h
    exact⟨_,(.cons (.cell (T:=X) (u:=hC) (a:=aY) vs rfl BP) (.cons (.cell (T:=(B .i64)) (u:=gV) (a:=a6) ds rfl BQ) (.cons (.cell (T:=(B .i64)) (u:=mr) (a:=bY) w0 rfl BR) .nil))),⟨(hC,gV,mr),rfl,h⟩⟩
   intro cC ew h
   obtain⟨apV,h⟩:=h
   refine⟨(fL (fun _=>apV) iv),?_⟩
   refine fo (i:=3) (by kernel_rfl) ?_
   obtain⟨qa,ix,aoF,aao,h⟩:=F8 h
   refine yU (d:=(some 30)) rfl (.free rfl) rfl (Al (T:=gj) (xs:=[cC]) rfl Tryz.underlying190 lT wJ rfl (by decide) (by decide) rfl aoF aao) ⟨(fL (fun h=>yx aao h) iv),?_⟩
   refine fo (i:=4) (by kernel_rfl)<|hK rfl (.free rfl) (Ip (d:=(some 31)) (T:=gj) rfl rfl Tryz.underlying190 ⟨_,Tryz.underlying190⟩ lT wJ rfl rfl (Nat.lt_of_lt_of_le Nat.zero_lt_one (Nat.le_of_ble_eq_true rfl)) rfl rfl h ?_)
   intro fA e5 h
   refine⟨(hl (by kernel_rfl) iv),?_⟩
   refine fo (i:=5) (by kernel_rfl) ?_
   obtain⟨f_,arh,aqM,h⟩:=sr h
   refine ui (d:=none) rfl (.free rfl) rfl (si (T:=X) (u:=fA) (a:=aY) rfl vs rfl rfl aqM arh) ⟨(hl (by kernel_rfl) iv),?_⟩
   refine kL (by kernel_rfl) ?_
   exact⟨(),_,arr (aQ (aQ (aQ (aQ (aQ (aQ rfl rfl) rfl) rfl) rfl) rfl) rfl),h⟩
 ·refine wp_exit<|wp_seq<|bz _ rfl<|hV vs h rfl rfl fun kg _ h=>jS vs h rfl rfl rfl fun h7 h=>jS ds h rfl rfl rfl fun gT h=>jS w0 h rfl rfl rfl fun iy h=>bh<|wp_ret<|aGp (an:=[.cell 2 190,.cell 3 3,.cell 4 43]) rfl Oz (QP h fun uz h=>?_)
  obtain⟨hC,BP,h⟩:=h
  obtain⟨gV,BQ,h⟩:=h
  obtain⟨mr,BR,h⟩:=h
  exact⟨_,(.cons (.cell (T:=X) (u:=hC) (a:=aY) vs rfl BP) (.cons (.cell (T:=(B .i64)) (u:=gV) (a:=a6) ds rfl BQ) (.cons (.cell (T:=(B .i64)) (u:=mr) (a:=bY) w0 rfl BR) .nil))),⟨(hC,gV,mr),rfl,h⟩⟩
def WJ(bi:aM)(Hn:Int)(xj:mz)(e3:Int)(w:World)(e:Unit→World→Prop):Prop:=bO 31 gk xj w fun b1 b2=>if (Hn==(1:Int))=true then (dl b2 fun bV=>ex (bK bi) fun cP=>ex (L ek (cP.add 6) bV) fun cH=>ex (L (B .i64) (b1.add 0) bV) fun dM=>ex (L gk b1 bV) fun cK=>M Pg 97 [gk.enc (cK)] (bw aD (B .i64)) bV fun eo cA=>bE ((L ek (cP.add 6) cA) cH)<|bE ((L (B .i64) (b1.add 0) cA) dM)<|qk aD .i64 cH dM eo.1 cA fun dQ=>e () dQ) else (dl b2 fun c2=>ex (bK bi) fun rO=>ex (L ek (rO.add 6) c2) fun hL=>ex (L (B .i64) (b1.add 0) c2) fun gh=>ex (iq aD .i64 hL gh c2) fun Ky=>dl c2 fun e4=>ex (L ek (rO.add 7) e4) fun mN=>ex (L (B .i64) (b1.add 0) e4) fun l1=>qk fq .i64 mN l1 (⟨⟩:oV) e4 fun ix=>if (Hn==(3:Int))=true then (M Pg 148 [.pointer ((Ky.getD (none:Option Addr)))] (B .i64) ix fun fA e5=>e () e5) else (M Pg 134 [.pointer ((Ky.getD (none:Option Addr))),.bool (true),.bool (true),.int .i64 (e3)] (B .i64) ix fun ho f_=>M Pg 134 [.pointer ((Ky.getD (none:Option Addr))),.bool (false),.bool (true),.int .i64 (e3)] (B .i64) f_ fun iX gR=>M Pg 149 [.pointer ((Ky.getD (none:Option Addr))),.int .i64 (e3)] (B .i64) gR fun tf gT=>ex (L aD (rO.add 3) gT) fun ky=>M Pg 63 [.pointer (ky),.int .i64 (e3)] (B .i64) gT fun qs jj=>e () jj))
theorem ajl{bi Hn xj e3 w e}(h:WJ bi Hn xj e3 w e):M Pg 94 [.pointer bi,.int .i64 Hn,gk.enc xj,.int .i64 e3] dZ w e:=by
 have ga:=en 3 (dB [0,1,2,4,3,5,6,7,8,9,10,11] .j)
 have rT:=en 4 (dB [0,1,2,4,3,5,6,7] .j)
 have Dz:=en 5 (dB [0,1,2,4,6,3,5,7] .j)
 exact bq 55 Tryz.func94 rfl rfl br
def Ny(bi:Int)(fm:(Nat×Int))(d12:Int)(gy:(Int×Int))(aHP:Bool)(eE:World)(e:(Int×Int)→World→Prop):Prop:=if aHP=true then (e ((0:Int),(11:Int)) eE) else (ex (iP (IntKind.u64.wrap (IntKind.i64.wrap (fm.2-(53:Int)))) (IntKind.u64.wrap (gy.2*2^(min ((IntKind.u64.wrap (IntKind.i64.wrap (fm.2-(53:Int))))).toNat IntKind.u64.bits)))) fun d21=>M Pg 155 [.bool ((!((decide (bi<(0:Int)))==(decide (d12<(0:Int)))))),.int .u64 (d21)] (bw (B .i64) (B .i64)) eE fun m9 e4=>e (m9.1,m9.2) e4)
def CZ(bi:Int)(d12:Int)(aEX:Int)(h7:World)(e:(Int×Int)→World→Prop):Prop:=M Pg 155 [.bool ((!((decide (bi<(0:Int)))==(decide (d12<(0:Int)))))),.int .u64 (aEX)] (bw (B .i64) (B .i64)) h7 fun tf gT=>e (tf.1,tf.2) gT
def FQ(bi:Int)(jm:Nat)(lZ:Bool)(b2:World)(e:(Int×Int)→World→Prop):Prop:=if lZ=true then (if (bi==(0:Int))=true then (e ((0:Int),(10:Int)) b2) else (e ((0:Int),(11:Int)) b2)) else (M Pg 150 [.float .f64 (jm)] (bw gP (B .i64)) b2 fun fm bH=>M Pg 151 [.float .f64 (fm.1),.int .i64 ((53:Int))] gP bH fun hh cn=>ex (zm .i64 hh) fun d12=>M Pg 153 [.int .i64 (bi)] (B .u64) cn fun dm cu=>M Pg 153 [.int .i64 (d12)] (B .u64) cu fun mg dP=>M Pg 152 [.int .u64 (dm),.int .u64 (mg)] (bw (B .u64) (B .u64)) dP fun gy c2=>if ((gy.1==(0:Int))&&(gy.2==(0:Int)))=true then (e ((0:Int),(0:Int)) c2) else (if (decide ((IntKind.i64.wrap (fm.2-(53:Int)))≥(0:Int)))=true then (if ((gy.1 != (0:Int))||(decide ((IntKind.i64.wrap (fm.2-(53:Int)))≥(64:Int))))=true then (Ny bi fm d12 gy true c2 e) else (M Pg 154 [.int .u64 (gy.2)] (B .i64) c2 fun fA e5=>Ny bi fm d12 gy (decide ((IntKind.i64.wrap (fA+(IntKind.i64.wrap (fm.2-(53:Int)))))>(64:Int))) e5 e)) else (M Pg 156 [.int .u64 (gy.1),.int .u64 (gy.2),.int .u64 ((IntKind.u64.wrap (IntKind.i64.wrap (0-(IntKind.i64.wrap (fm.2-(53:Int)))))))] (mm (B .u64) bk bk) c2 fun ho f_=>if ((!ho.2.2)||(((!((decide (bi<(0:Int)))==(decide (d12<(0:Int)))))&&ho.2.1)&&(decide (ho.1≥(9223372036854775808:Int)))))=true then (e ((0:Int),(11:Int)) f_) else (if ((!((decide (bi<(0:Int)))==(decide (d12<(0:Int)))))&&ho.2.1)=true then (CZ bi d12 (IntKind.u64.wrap (ho.1+(1:Int))) f_ e) else (CZ bi d12 ho.1 f_ e)))))
def Nx(bi:Int)(jm:Nat)(w:World)(e:(Int×Int)→World→Prop):Prop:=M Pg 87 [.float .f64 (jm)] (B .i64) w fun bp bm=>if (bp==(0:Int))=true then (e ((0:Int),(10:Int)) bm) else (if (bp==(1:Int))=true then (FQ bi jm (bp==(1:Int)) bm e) else (FQ bi jm (bp==(6:Int)) bm e))
theorem WK{bi jm w e}(h:Nx bi jm w e):M Pg 95 [.int .i64 bi,.float .f64 jm] (bw (B .i64) (B .i64)) w e:=by
 have o9:=fun {fm:(Nat×Int)} {d12} {gy:(Int×Int)}=>pQ (bx:=Bool) [7,8,9,10,11,12] [] (fun s w=>Ny bi fm d12 gy s w e) (fun g s=>ae (ae (ae (ae g 9 (.int .i64 ((IntKind.i64.wrap (fm.2-(53:Int)))))) 10 (.bool ((!((decide (bi<(0:Int)))==(decide (d12<(0:Int)))))))) 12 (.int .u64 (gy.2))) 68 (.bool s))
 have iI:=fun {d12}=>hy (bx:=Int) 25 (fun s w=>CZ bi d12 s w e) (fun g s=>ae (ae g 10 (.bool ((!((decide (bi<(0:Int)))==(decide (d12<(0:Int)))))))) 13 (.int .u64 s))
 have Hk:=hy (bx:=Bool) 7 (fun s w=>FQ bi jm s w e) (fun g s=>ae (ae (ae g 0 (.int .i64 bi)) 1 (.float .f64 jm)) 20 (.bool s))
 exact bq 110 Tryz.func95 rfl rfl br
end bf
end Go.Proofs.YthaobmpdjcoheaaGreat
