/- Own texts of this claim, part 2: short, merged. -/
import Derived.Test.YthaobmpdjcoheaaGreatZ1
set_option maxRecDepth 100000
set_option maxHeartbeats 40000000
set_option linter.defProp false
set_option linter.unusedVariables false
set_option linter.unusedSimpArgs false
namespace Go.Proofs.YthaobmpdjcoheaaGreat
namespace bb
def AS(r0:Int)(aHD:Int)(aHG:Bool)(dJ:World)(vX:Int×Bool×Int→World→Prop)(j:(aL×Int×Bool)→World→Prop):Prop:=vX (aHD,aHG,(IntKind.i64.wrap (r0+(1:Int)))) dJ
def Nr(cY:af)(b0:(aL×Int))(If:Int)(LJ:Bool)(r0:Int)(cF:World)(vX:Int×Bool×Int→World→Prop)(j:(aL×Int×Bool)→World→Prop):Prop:=if ((decide (r0<(cY.len:Int)))&&(decide (r0<(60:Int))))=true then (ex (cD cY 10 r0) fun jw=>ex (L hK jw cF) fun jH=>M Pg 13 [hK.enc (jH)] hK cF fun wZ fT=>M Pg 14 [.pointer (b0.1),hK.enc (wZ)] (B .i64) fT fun pg ez=>ex (cD cY 10 r0) fun rM=>ex (L (B .i64) (rM.add 0) ez) fun nL=>if (nL != (1:Int))=true then (AS r0 If LJ ez vX j) else (if (pg==(0:Int))=true then (ex (cD cY 10 r0) fun p8=>ex (L (B .i64) (p8.add 3) ez) fun hg=>AS r0 (IntKind.i64.wrap (If+hg)) LJ ez vX j) else (if ((decide (pg≥(70:Int)))&&(decide (pg≤(81:Int))))=true then (AS r0 If false ez vX j) else (AS r0 If LJ ez vX j)))) else (j (b0.1,If,LJ) cF)
def Wp(ld:kV)(cY:af)(w:World)(j:(aL×Int×Bool)→World→Prop):Prop:=bG 24 g8 ld w fun aA aU=>ex (L g8 aA aU) fun dH=>M Pg 12 [g8.enc (dH)] (bo aE (B .i64)) aU fun b0 bT=>if ((b0.2 != (0:Int))||b0.1.isNone)=true then (j ((none:Option Addr),(0:Int),true) bT) else (eZ (fun (s:Int×Bool×Int) w aa=>Nr cY b0 s.1 s.2.1 s.2.2 w aa j) ((0:Int),true,(0:Int)) bT)
theorem ai9{ld cY w j}(h:Wp ld cY w j):M Pg 7 [g8.enc ld,X.enc cY] (mj aE (B .i64) bf) w j:=by
 have iE:=fun {r0} {vX} {b0:(aL×Int)}=>hs (bp:=Int×Bool) 8 (fun s w=>AS r0 s.1 s.2 w vX j) (fun g s=>ae (ae (ae (ae (ae g 1 (X.enc cY)) 7 (.pointer (b0.1))) 11 (.int .i64 r0)) 9 (.int .i64 (s.1))) 10 (.bool (s.2)))
 have iQ:=fun {b0:(aL×Int)}=>hb (bp:=Int×Bool×Int) 7 (fun s w aa=>Nr cY b0 s.1 s.2.1 s.2.2 w aa j) (fun g s=>ae (ae (ae (ae (ae g 1 (X.enc cY)) 7 (.pointer (b0.1))) 9 (.int .i64 (s.1))) 10 (.bool (s.2.1))) 11 (.int .i64 (s.2.2)))
 exact bj 65 Tryz.func7 rfl rfl bk
def FR(aeZ:Bool)(gQ:World)(j:Bool→World→Prop):Prop:=j aeZ gQ
def FQ(bs:aL)(qC:Bool)(gN:World)(j:Bool→World→Prop):Prop:=if qC=true then (M Pg 18 [.pointer (bs)] X gN fun mf ku=>FR ((mf.len:Int)==(0:Int)) ku j) else (FR false gN j)
def FP(bs:aL)(td:Bool)(fX:World)(j:Bool→World→Prop):Prop:=if td=true then (M Pg 9 [.pointer (bs),.int .i64 ((2:Int))] aE fX fun Am lr=>FQ bs Am.isNone lr j) else (FQ bs false fX j)
def FO(bs:aL)(vG:Bool)(e2:World)(j:Bool→World→Prop):Prop:=if vG=true then (M Pg 28 [.pointer (bs),.int .i64 ((2:Int))] bf e2 fun nD kL=>FP bs (!nD) kL j) else (FP bs false e2 j)
def FN(bs:aL)(sn:Bool)(fK:World)(j:Bool→World→Prop):Prop:=if sn=true then (M Pg 28 [.pointer (bs),.int .i64 ((1:Int))] bf fK fun An kM=>FO bs An kM j) else (FO bs false fK j)
def Ns(w:World)(j:Bool→World→Prop):Prop:=M Pg 24 [] aE w fun bs dz=>if bs.isNone=true then (j false dz) else (M Pg 15 [.pointer (bs)] X dz fun cA bh=>M Pg 16 [.pointer (bs),.int .i64 ((1:Int))] (bo (B .i64) (B .i64)) bh fun bJ a7=>M Pg 25 [.pointer (bs),.int .i64 ((0:Int))] (bo (B .i64) (B .i64)) a7 fun cp bN=>M Pg 25 [.pointer (bs),.int .i64 ((1:Int))] (bo (B .i64) (B .i64)) bN fun ca bU=>M Pg 26 [.pointer (bs),.int .i64 ((1010:Int))] (bo X (B .i64)) bU fun cE cF=>M Pg 27 [.int .i64 ((1010:Int)),X.enc (cE.1)] (bo (B .i64) (B .i64)) cF fun dw cg=>ex (fun x=>((cA.len:Int)==(1:Int))=true→(cD cA 3 (0:Int)) x) fun gr=>ex (fun x=>((cA.len:Int)==(1:Int))=true→(L kh gr cg) x) fun dm=>ex (fun x=>(((((((((((cA.len:Int)==(1:Int))&&(eW.gZ dm (⟨(1:Int),(2:Int),(1008:Int)⟩:eW)))&&(bJ.1==(2:Int)))&&(bJ.2==(1008:Int)))&&(cp.2==(0:Int)))&&(cp.1==(1015:Int)))&&(ca.2==(0:Int)))&&(ca.1==(1015:Int)))&&(cE.2==(0:Int)))&&((cE.1.len:Int)==(2:Int)))=true→(cD cE.1 2 (0:Int)) x) fun k_=>ex (fun x=>(((((((((((cA.len:Int)==(1:Int))&&(eW.gZ dm (⟨(1:Int),(2:Int),(1008:Int)⟩:eW)))&&(bJ.1==(2:Int)))&&(bJ.2==(1008:Int)))&&(cp.2==(0:Int)))&&(cp.1==(1015:Int)))&&(ca.2==(0:Int)))&&(ca.1==(1015:Int)))&&(cE.2==(0:Int)))&&((cE.1.len:Int)==(2:Int)))=true→(L X (k_.add 1) cg) x) fun dL=>ex (fun x=>((((((((((((cA.len:Int)==(1:Int))&&(eW.gZ dm (⟨(1:Int),(2:Int),(1008:Int)⟩:eW)))&&(bJ.1==(2:Int)))&&(bJ.2==(1008:Int)))&&(cp.2==(0:Int)))&&(cp.1==(1015:Int)))&&(ca.2==(0:Int)))&&(ca.1==(1015:Int)))&&(cE.2==(0:Int)))&&((cE.1.len:Int)==(2:Int)))&&((dL.len:Int)==(1:Int)))=true→(cD cE.1 2 (0:Int)) x) fun iV=>ex (fun x=>((((((((((((cA.len:Int)==(1:Int))&&(eW.gZ dm (⟨(1:Int),(2:Int),(1008:Int)⟩:eW)))&&(bJ.1==(2:Int)))&&(bJ.2==(1008:Int)))&&(cp.2==(0:Int)))&&(cp.1==(1015:Int)))&&(ca.2==(0:Int)))&&(ca.1==(1015:Int)))&&(cE.2==(0:Int)))&&((cE.1.len:Int)==(2:Int)))&&((dL.len:Int)==(1:Int)))=true→(L X (iV.add 1) cg) x) fun gd=>ex (fun x=>((((((((((((cA.len:Int)==(1:Int))&&(eW.gZ dm (⟨(1:Int),(2:Int),(1008:Int)⟩:eW)))&&(bJ.1==(2:Int)))&&(bJ.2==(1008:Int)))&&(cp.2==(0:Int)))&&(cp.1==(1015:Int)))&&(ca.2==(0:Int)))&&(ca.1==(1015:Int)))&&(cE.2==(0:Int)))&&((cE.1.len:Int)==(2:Int)))&&((dL.len:Int)==(1:Int)))=true→(cD gd 2 (0:Int)) x) fun iW=>ex (fun x=>((((((((((((cA.len:Int)==(1:Int))&&(eW.gZ dm (⟨(1:Int),(2:Int),(1008:Int)⟩:eW)))&&(bJ.1==(2:Int)))&&(bJ.2==(1008:Int)))&&(cp.2==(0:Int)))&&(cp.1==(1015:Int)))&&(ca.2==(0:Int)))&&(ca.1==(1015:Int)))&&(cE.2==(0:Int)))&&((cE.1.len:Int)==(2:Int)))&&((dL.len:Int)==(1:Int)))=true→(L (B .i64) (iW.add 1) cg) x) fun iu=>if (((((((((((((((cA.len:Int)==(1:Int))&&(eW.gZ dm (⟨(1:Int),(2:Int),(1008:Int)⟩:eW)))&&(bJ.1==(2:Int)))&&(bJ.2==(1008:Int)))&&(cp.2==(0:Int)))&&(cp.1==(1015:Int)))&&(ca.2==(0:Int)))&&(ca.1==(1015:Int)))&&(cE.2==(0:Int)))&&((cE.1.len:Int)==(2:Int)))&&((dL.len:Int)==(1:Int)))&&(iu==(60:Int)))&&(dw.2==(0:Int)))&&(dw.1==(100:Int)))=true then (M Pg 19 [.pointer (bs)] (B .i64) cg fun ug nK=>FN bs (ug==(1020:Int)) nK j) else (FN bs false cg j))
theorem ajj{w:World}{j:Bool→World→Prop}(h:Ns w j):M Pg 8 [] bf w j:=by
 unfold Ns at h
 refine q0 137 Tryz.func8 rfl rfl (Nat.le_of_ble_eq_true rfl)<|wp_seq<|bq _ rfl<|y rfl<|bc<|wp_seq<|bq _ rfl<|ft am3 rfl rfl h fun bs dz h=>y rfl<|bc<|wp_seq<|wp_seq ?_
 refine bq _ rfl<|y rfl<|a2 15 rfl rfl rfl (sd (a:=bs) rfl Tryz.underlying26 rfl rfl)<|bc<|fB h rfl (fun _ h=>?_) fun _ h=>?_
 ·refine wp_seq<|bq _ rfl<|y rfl<|bc<|wp_ret ?_
  exact lZ h rfl rfl
 ·refine wp_skip<|wp_seq<|bq _ rfl<|y rfl<|ft DH rfl rfl h fun cA bh h=>y rfl<|bc<|wp_seq<|bq _ rfl<|y rfl<|ft Jv rfl rfl h fun bJ a7 h=>y rfl ?_
  refine gT _ _ rfl rfl rfl<|gT _ _ rfl rfl rfl<|y rfl<|y rfl<|bc<|wp_seq<|bq _ rfl<|y rfl<|ft YG rfl rfl h fun cp bN h=>y rfl<|gT _ _ rfl rfl rfl<|gT _ _ rfl rfl rfl ?_
  refine y rfl<|y rfl<|bc<|wp_seq<|bq _ rfl<|y rfl<|ft YG rfl rfl h fun ca bU h=>y rfl<|gT _ _ rfl rfl rfl<|gT _ _ rfl rfl rfl<|y rfl<|y rfl ?_
  refine bc<|wp_seq<|bq _ rfl<|y rfl<|ft am5 rfl rfl h fun cE cF h=>y rfl<|gT _ _ rfl rfl rfl<|gT _ _ rfl rfl rfl<|y rfl<|y rfl<|bc<|wp_seq ?_
  refine bq _ rfl<|y rfl<|ft am6 rfl rfl h fun dw cg h=>y rfl<|gT _ _ rfl rfl rfl<|gT _ _ rfl rfl rfl<|y rfl<|y rfl<|bc<|wp_seq<|bq _ rfl<|y rfl ?_
  refine a2 _ rfl rfl rfl (jV rfl Tryz.underlying50 rfl)<|a2 _ rfl rfl rfl (iH rfl rfl rfl)<|y rfl<|fo 47 3 46 rfl rfl rfl rfl rfl (fun R=>cQ (v:=X.enc (cA)) rfl rfl) ?_
  obtain⟨gr,JQ,h⟩:=h
  refine fo 48 3 46 rfl rfl rfl rfl rfl (fun R=>ks (s:=cA) (k:=.i64) (i:=(0:Int)) rfl Tryz.underlying50 yL (da R) rfl (JQ R)) ?_
  obtain⟨dm,arH,h⟩:=h
  refine fo 49 3 46 rfl rfl rfl rfl rfl (fun R=>j9 (T:=kh) (u:=dm) (a:=gr) rfl yL (da R) (arH R))<|fo 50 3 46 rfl rfl rfl rfl rfl (fun R=>RP (a_:=(1:Int)) (bM:=(2:Int)) (dV:=(1008:Int)) rfl rfl rfl rfl)<|fo 51 3 46 rfl rfl rfl rfl rfl (fun R=>Cj (r:=(eW.gZ dm (⟨(1:Int),(2:Int),(1008:Int)⟩:eW))) rfl (Gu dm (⟨(1:Int),(2:Int),(1008:Int)⟩:eW)) (da R) (da R))<|a2 52 rfl rfl rfl (m3 rfl rfl rfl rfl)<|y rfl<|fo 54 10 53 rfl rfl rfl rfl rfl (fun R=>cQ (v:=.int .i64 (bJ.1)) rfl rfl)<|fo 55 10 53 rfl rfl rfl rfl rfl (fun R=>iH (k:=.i64) (a:=bJ.1) (l:=(2:Int)) rfl (da R) rfl)<|a2 56 rfl rfl rfl (m3 rfl rfl rfl rfl)<|y rfl<|fo 58 14 57 rfl rfl rfl rfl rfl (fun R=>cQ (v:=.int .i64 (bJ.2)) rfl rfl)<|fo 59 14 57 rfl rfl rfl rfl rfl (fun R=>iH (k:=.i64) (a:=bJ.2) (l:=(1008:Int)) rfl (da R) rfl)<|a2 60 rfl rfl rfl (m3 rfl rfl rfl rfl) ?_
  refine y rfl<|fo 62 18 61 rfl rfl rfl rfl rfl (fun R=>cQ (v:=.int .i64 (cp.2)) rfl rfl)<|fo 63 18 61 rfl rfl rfl rfl rfl (fun R=>iH (k:=.i64) (a:=cp.2) (l:=(0:Int)) rfl (da R) rfl)<|a2 64 rfl rfl rfl (m3 rfl rfl rfl rfl)<|y rfl<|fo 66 22 65 rfl rfl rfl rfl rfl (fun R=>cQ (v:=.int .i64 (cp.1)) rfl rfl)<|fo 67 22 65 rfl rfl rfl rfl rfl (fun R=>iH (k:=.i64) (a:=cp.1) (l:=(1015:Int)) rfl (da R) rfl)<|a2 68 rfl rfl rfl (m3 rfl rfl rfl rfl)<|y rfl<|fo 70 26 69 rfl rfl rfl rfl rfl (fun R=>cQ (v:=.int .i64 (ca.2)) rfl rfl)<|fo 71 26 69 rfl rfl rfl rfl rfl (fun R=>iH (k:=.i64) (a:=ca.2) (l:=(0:Int)) rfl (da R) rfl)<|a2 72 rfl rfl rfl (m3 rfl rfl rfl rfl) ?_
  refine y rfl<|fo 74 30 73 rfl rfl rfl rfl rfl (fun R=>cQ (v:=.int .i64 (ca.1)) rfl rfl)<|fo 75 30 73 rfl rfl rfl rfl rfl (fun R=>iH (k:=.i64) (a:=ca.1) (l:=(1015:Int)) rfl (da R) rfl)<|a2 76 rfl rfl rfl (m3 rfl rfl rfl rfl)<|y rfl<|fo 78 34 77 rfl rfl rfl rfl rfl (fun R=>cQ (v:=.int .i64 (cE.2)) rfl rfl)<|fo 79 34 77 rfl rfl rfl rfl rfl (fun R=>iH (k:=.i64) (a:=cE.2) (l:=(0:Int)) rfl (da R) rfl)<|a2 80 rfl rfl rfl (m3 rfl rfl rfl rfl)<|y rfl<|fo 82 38 81 rfl rfl rfl rfl rfl (fun R=>cQ (v:=X.enc (cE.1)) rfl rfl)<|fo 83 38 81 rfl rfl rfl rfl rfl (fun R=>jV (s:=cE.1) rfl Tryz.underlying79 (da R))<|fo 84 38 81 rfl rfl rfl rfl rfl (fun R=>iH (k:=.i64) (a:=(cE.1.len:Int)) (l:=(2:Int)) rfl (da R) rfl) ?_
  refine a2 85 rfl rfl rfl (m3 rfl rfl rfl rfl)<|y rfl<|fo 87 43 86 rfl rfl rfl rfl rfl (fun R=>cQ (v:=X.enc (cE.1)) rfl rfl) ?_
  obtain⟨k_,DU,h⟩:=h
  refine fo 88 43 86 rfl rfl rfl rfl rfl (fun R=>ks (s:=cE.1) (k:=.i64) (i:=(0:Int)) rfl Tryz.underlying79 Rh (da R) rfl (DU R))<|fo 89 43 86 rfl rfl rfl rfl rfl (fun R=>lU (a:=k_) (off:=1) rfl Tryz.underlying85 rfl rfl Ez (by decide) (da R)) ?_
  obtain⟨dL,P8,h⟩:=h
  refine fo 90 43 86 rfl rfl rfl rfl rfl (fun R=>j9 (T:=X) (u:=dL) (a:=(k_.add 1)) rfl Ez (da R) (P8 R))<|fo 91 43 86 rfl rfl rfl rfl rfl (fun R=>jV (s:=dL) rfl Tryz.underlying83 (da R))<|fo 92 43 86 rfl rfl rfl rfl rfl (fun R=>iH (k:=.i64) (a:=(dL.len:Int)) (l:=(1:Int)) rfl (da R) rfl)<|a2 93 rfl rfl rfl (m3 rfl rfl rfl rfl)<|y rfl<|fo 95 51 94 rfl rfl rfl rfl rfl (fun R=>cQ (v:=X.enc (cE.1)) rfl rfl) ?_
  obtain⟨iV,aoG,h⟩:=h
  refine fo 96 51 94 rfl rfl rfl rfl rfl (fun R=>ks (s:=cE.1) (k:=.i64) (i:=(0:Int)) rfl Tryz.underlying79 Rh (da R) rfl (aoG R))<|fo 97 51 94 rfl rfl rfl rfl rfl (fun R=>lU (a:=iV) (off:=1) rfl Tryz.underlying85 rfl rfl Ez (by decide) (da R)) ?_
  obtain⟨gd,Hb,h⟩:=h
  refine fo 98 51 94 rfl rfl rfl rfl rfl (fun R=>j9 (T:=X) (u:=gd) (a:=(iV.add 1)) rfl Ez (da R) (Hb R)) ?_
  obtain⟨iW,JR,h⟩:=h
  refine fo 99 51 94 rfl rfl rfl rfl rfl (fun R=>ks (s:=gd) (k:=.i64) (i:=(0:Int)) rfl Tryz.underlying83 ab9 (da R) rfl (JR R))<|fo 100 51 94 rfl rfl rfl rfl rfl (fun R=>lU (a:=iW) (off:=1) rfl Tryz.underlying87 rfl rfl cU (by decide) (da R)) ?_
  obtain⟨iu,arJ,h⟩:=h
  refine fo 101 51 94 rfl rfl rfl rfl rfl (fun R=>j9 (T:=(B .i64)) (u:=iu) (a:=(iW.add 1)) rfl cU (da R) (arJ R))<|fo 102 51 94 rfl rfl rfl rfl rfl (fun R=>iH (k:=.i64) (a:=iu) (l:=(60:Int)) rfl (da R) rfl)<|a2 103 rfl rfl rfl (m3 rfl rfl rfl rfl)<|y rfl<|fo 105 61 104 rfl rfl rfl rfl rfl (fun R=>cQ (v:=.int .i64 (dw.2)) rfl rfl)<|fo 106 61 104 rfl rfl rfl rfl rfl (fun R=>iH (k:=.i64) (a:=dw.2) (l:=(0:Int)) rfl (da R) rfl)<|a2 107 rfl rfl rfl (m3 rfl rfl rfl rfl)<|y rfl<|fo 109 65 108 rfl rfl rfl rfl rfl (fun R=>cQ (v:=.int .i64 (dw.1)) rfl rfl)<|fo 110 65 108 rfl rfl rfl rfl rfl (fun R=>iH (k:=.i64) (a:=dw.1) (l:=(100:Int)) rfl (da R) rfl)<|a2 111 rfl rfl rfl (m3 rfl rfl rfl rfl)<|y rfl ?_
  refine n8 (bp:=Bool) (eV:=fun (s:Bool) w=>FN bs s w j) (dp:=fun g (s:Bool)=>ae (ae (g) 1 (.pointer (bs))) 116 (.bool (s))) [70,71,72,73] [74,75,76,77,78,79,80,81,82,83,84,85,86,87,88,89,90,91,92,93,94] ?_ ?_
  ·rintro sn g fK h
   unfold FN at h
   refine y rfl<|n8 (bp:=Bool) (eV:=fun (s:Bool) w=>FO bs s w j) (dp:=fun g (s:Bool)=>ae (ae (g) 1 (.pointer (bs))) 120 (.bool (s))) [75,76,77] [78,79,80,81,82,83,84,85,86,87,88,89,90,91,92,93,94] ?_ ?_
   ·rintro vG g e2 h
    unfold FO at h
    refine y rfl<|n8 (bp:=Bool) (eV:=fun (s:Bool) w=>FP bs s w j) (dp:=fun g (s:Bool)=>ae (ae (g) 1 (.pointer (bs))) 125 (.bool (s))) [79,80,81,82] [83,84,85,86,87,88,89,90,91,92,93,94] ?_ ?_
    ·rintro td g fX h
     unfold FP at h
     refine y rfl<|n8 (bp:=Bool) (eV:=fun (s:Bool) w=>FQ bs s w j) (dp:=fun g (s:Bool)=>ae (ae (g) 1 (.pointer (bs))) 130 (.bool (s))) [84,85,86,87] [88,89,90,91,92,93,94] ?_ ?_
     ·rintro qC g gN h
      unfold FQ at h
      refine y rfl<|n8 (bp:=Bool) (eV:=fun (s:Bool) w=>FR s w j) (dp:=fun g (s:Bool)=>ae (g) 136 (.bool (s))) [89,90,91,92,93] [94] ?_ ?_
      ·rintro aeZ g gQ h
       unfold FR at h
       refine y rfl<|bc<|wp_ret ?_
       exact lZ h rfl rfl
      ·refine jb (l:=qC) h (fun lJ h=>?_) (fun lJ h=>?_)
       ·refine eP (d:=(some 132)) rfl (.az 88 true 131 qC rfl rfl rfl lJ) rfl (cQ (v:=.pointer (bs)) rfl rfl)<|en rfl (.az 88 true 131 qC rfl rfl rfl lJ) (gR (d:=(some 133)) rfl (fR (k:=18) (m:=[.pointer (bs)]) rfl OD rfl) h ?_)
        intro mf ku h
        refine eP (d:=(some 134)) rfl (.az 88 true 131 qC rfl rfl rfl lJ) rfl (jV (s:=mf) rfl Tryz.underlying56 rfl)<|eP (d:=(some 135)) rfl (.az 88 true 131 qC rfl rfl rfl lJ) rfl (iH (a:=(mf.len:Int)) (l:=(0:Int)) rfl rfl rfl)<|a2 136 rfl rfl rfl (hX (v:=.bool (((mf.len:Int)==(0:Int)))) (l:=qC) rfl rfl lJ rfl)<|bc ?_
        exact⟨(((mf.len:Int)==(0:Int))),_,arr (aP rfl rfl),h⟩
       ·refine dl (d:=(some 132)) rfl (.az 88 true 131 qC rfl rfl rfl lJ) rfl<|dl (d:=(some 133)) rfl (.az 88 true 131 qC rfl rfl rfl lJ) rfl<|dl (d:=(some 134)) rfl (.az 88 true 131 qC rfl rfl rfl lJ) rfl<|dl (d:=(some 135)) rfl (.az 88 true 131 qC rfl rfl rfl lJ) rfl<|a2 136 rfl rfl rfl (iS (v:=.bool (false)) (l:=qC) rfl rfl lJ rfl)<|bc ?_
        exact⟨(false),_,arr (aP rfl rfl),h⟩
     ·refine jb (l:=td) h (fun x1 h=>?_) (fun x1 h=>?_)
      ·refine eP (d:=(some 127)) rfl (.az 83 true 126 td rfl rfl rfl x1) rfl (cQ (v:=.pointer (bs)) rfl rfl)<|en rfl (.az 83 true 126 td rfl rfl rfl x1) (gR (d:=(some 128)) rfl (fR (k:=9) (m:=[.pointer (bs),.int .i64 ((2:Int))]) rfl OI rfl) h ?_)
       intro Am lr h
       refine eP (d:=(some 129)) rfl (.az 83 true 126 td rfl rfl rfl x1) rfl (sd (a:=Am) rfl Tryz.underlying36 rfl rfl)<|a2 130 rfl rfl rfl (hX (v:=.bool (Am.isNone)) (l:=td) rfl rfl x1 rfl)<|bc ?_
       exact⟨(Am.isNone),_,arr (aP (aP rfl rfl) rfl),h⟩
      ·refine dl (d:=(some 127)) rfl (.az 83 true 126 td rfl rfl rfl x1) rfl<|dl (d:=(some 128)) rfl (.az 83 true 126 td rfl rfl rfl x1) rfl<|dl (d:=(some 129)) rfl (.az 83 true 126 td rfl rfl rfl x1) rfl<|a2 130 rfl rfl rfl (iS (v:=.bool (false)) (l:=td) rfl rfl x1 rfl)<|bc ?_
       exact⟨(false),_,arr (aP (aP rfl rfl) rfl),h⟩
    ·refine jb (l:=vG) h (fun x3 h=>?_) (fun x3 h=>?_)
     ·refine eP (d:=(some 122)) rfl (.az 78 true 121 vG rfl rfl rfl x3) rfl (cQ (v:=.pointer (bs)) rfl rfl)<|en rfl (.az 78 true 121 vG rfl rfl rfl x3) (gR (d:=(some 123)) rfl (fR (k:=28) (m:=[.pointer (bs),.int .i64 ((2:Int))]) rfl YH rfl) h ?_)
      intro nD kL h
      refine eP (d:=(some 124)) rfl (.az 78 true 121 vG rfl rfl rfl x3) rfl (ru (l:=nD) rfl rfl)<|a2 125 rfl rfl rfl (hX (v:=.bool ((!nD))) (l:=vG) rfl rfl x3 rfl)<|bc ?_
      exact⟨((!nD)),_,arr (aP (aP rfl rfl) rfl),h⟩
     ·refine dl (d:=(some 122)) rfl (.az 78 true 121 vG rfl rfl rfl x3) rfl<|dl (d:=(some 123)) rfl (.az 78 true 121 vG rfl rfl rfl x3) rfl<|dl (d:=(some 124)) rfl (.az 78 true 121 vG rfl rfl rfl x3) rfl<|a2 125 rfl rfl rfl (iS (v:=.bool (false)) (l:=vG) rfl rfl x3 rfl)<|bc ?_
      exact⟨(false),_,arr (aP (aP rfl rfl) rfl),h⟩
   ·refine jb (l:=sn) h (fun By h=>?_) (fun By h=>?_)
    ·refine eP (d:=(some 118)) rfl (.az 74 true 117 sn rfl rfl rfl By) rfl (cQ (v:=.pointer (bs)) rfl rfl)<|en rfl (.az 74 true 117 sn rfl rfl rfl By) (gR (d:=(some 119)) rfl (fR (k:=28) (m:=[.pointer (bs),.int .i64 ((1:Int))]) rfl YH rfl) h ?_)
     intro An kM h
     refine a2 120 rfl rfl rfl (hX (v:=.bool (An)) (l:=sn) rfl rfl By rfl)<|bc ?_
     exact⟨(An),_,arr (aP (aP rfl rfl) rfl),h⟩
    ·refine dl (d:=(some 118)) rfl (.az 74 true 117 sn rfl rfl rfl By) rfl<|dl (d:=(some 119)) rfl (.az 74 true 117 sn rfl rfl rfl By) rfl<|a2 120 rfl rfl rfl (iS (v:=.bool (false)) (l:=sn) rfl rfl By rfl)<|bc ?_
     exact⟨(false),_,arr (aP (aP rfl rfl) rfl),h⟩
  ·refine jb (l:=(((((((((((((((cA.len:Int)==(1:Int))&&(eW.gZ dm (⟨(1:Int),(2:Int),(1008:Int)⟩:eW)))&&(bJ.1==(2:Int)))&&(bJ.2==(1008:Int)))&&(cp.2==(0:Int)))&&(cp.1==(1015:Int)))&&(ca.2==(0:Int)))&&(ca.1==(1015:Int)))&&(cE.2==(0:Int)))&&((cE.1.len:Int)==(2:Int)))&&((dL.len:Int)==(1:Int)))&&(iu==(60:Int)))&&(dw.2==(0:Int)))&&(dw.1==(100:Int)))) h (fun x4 h=>?_) (fun x4 h=>?_)
   ·refine eP (d:=(some 113)) rfl (.az 69 true 112 (((((((((((((((cA.len:Int)==(1:Int))&&(eW.gZ dm (⟨(1:Int),(2:Int),(1008:Int)⟩:eW)))&&(bJ.1==(2:Int)))&&(bJ.2==(1008:Int)))&&(cp.2==(0:Int)))&&(cp.1==(1015:Int)))&&(ca.2==(0:Int)))&&(ca.1==(1015:Int)))&&(cE.2==(0:Int)))&&((cE.1.len:Int)==(2:Int)))&&((dL.len:Int)==(1:Int)))&&(iu==(60:Int)))&&(dw.2==(0:Int)))&&(dw.1==(100:Int))) rfl rfl rfl x4) rfl (cQ (v:=.pointer (bs)) rfl rfl)<|en rfl (.az 69 true 112 (((((((((((((((cA.len:Int)==(1:Int))&&(eW.gZ dm (⟨(1:Int),(2:Int),(1008:Int)⟩:eW)))&&(bJ.1==(2:Int)))&&(bJ.2==(1008:Int)))&&(cp.2==(0:Int)))&&(cp.1==(1015:Int)))&&(ca.2==(0:Int)))&&(ca.1==(1015:Int)))&&(cE.2==(0:Int)))&&((cE.1.len:Int)==(2:Int)))&&((dL.len:Int)==(1:Int)))&&(iu==(60:Int)))&&(dw.2==(0:Int)))&&(dw.1==(100:Int))) rfl rfl rfl x4) (gR (d:=(some 114)) rfl (fR (k:=19) (m:=[.pointer (bs)]) rfl OG rfl) h ?_)
    intro ug nK h
    refine eP (d:=(some 115)) rfl (.az 69 true 112 (((((((((((((((cA.len:Int)==(1:Int))&&(eW.gZ dm (⟨(1:Int),(2:Int),(1008:Int)⟩:eW)))&&(bJ.1==(2:Int)))&&(bJ.2==(1008:Int)))&&(cp.2==(0:Int)))&&(cp.1==(1015:Int)))&&(ca.2==(0:Int)))&&(ca.1==(1015:Int)))&&(cE.2==(0:Int)))&&((cE.1.len:Int)==(2:Int)))&&((dL.len:Int)==(1:Int)))&&(iu==(60:Int)))&&(dw.2==(0:Int)))&&(dw.1==(100:Int))) rfl rfl rfl x4) rfl (iH (a:=ug) (l:=(1020:Int)) rfl rfl rfl)<|a2 116 rfl rfl rfl (hX (v:=.bool ((ug==(1020:Int)))) (l:=(((((((((((((((cA.len:Int)==(1:Int))&&(eW.gZ dm (⟨(1:Int),(2:Int),(1008:Int)⟩:eW)))&&(bJ.1==(2:Int)))&&(bJ.2==(1008:Int)))&&(cp.2==(0:Int)))&&(cp.1==(1015:Int)))&&(ca.2==(0:Int)))&&(ca.1==(1015:Int)))&&(cE.2==(0:Int)))&&((cE.1.len:Int)==(2:Int)))&&((dL.len:Int)==(1:Int)))&&(iu==(60:Int)))&&(dw.2==(0:Int)))&&(dw.1==(100:Int)))) rfl rfl x4 rfl)<|bc ?_
    exact⟨((ug==(1020:Int))),_,arr (aP (aP rfl rfl) rfl),h⟩
   ·refine dl (d:=(some 113)) rfl (.az 69 true 112 (((((((((((((((cA.len:Int)==(1:Int))&&(eW.gZ dm (⟨(1:Int),(2:Int),(1008:Int)⟩:eW)))&&(bJ.1==(2:Int)))&&(bJ.2==(1008:Int)))&&(cp.2==(0:Int)))&&(cp.1==(1015:Int)))&&(ca.2==(0:Int)))&&(ca.1==(1015:Int)))&&(cE.2==(0:Int)))&&((cE.1.len:Int)==(2:Int)))&&((dL.len:Int)==(1:Int)))&&(iu==(60:Int)))&&(dw.2==(0:Int)))&&(dw.1==(100:Int))) rfl rfl rfl x4) rfl<|dl (d:=(some 114)) rfl (.az 69 true 112 (((((((((((((((cA.len:Int)==(1:Int))&&(eW.gZ dm (⟨(1:Int),(2:Int),(1008:Int)⟩:eW)))&&(bJ.1==(2:Int)))&&(bJ.2==(1008:Int)))&&(cp.2==(0:Int)))&&(cp.1==(1015:Int)))&&(ca.2==(0:Int)))&&(ca.1==(1015:Int)))&&(cE.2==(0:Int)))&&((cE.1.len:Int)==(2:Int)))&&((dL.len:Int)==(1:Int)))&&(iu==(60:Int)))&&(dw.2==(0:Int)))&&(dw.1==(100:Int))) rfl rfl rfl x4) rfl<|dl (d:=(some 115)) rfl (.az 69 true 112 (((((((((((((((cA.len:Int)==(1:Int))&&(eW.gZ dm (⟨(1:Int),(2:Int),(1008:Int)⟩:eW)))&&(bJ.1==(2:Int)))&&(bJ.2==(1008:Int)))&&(cp.2==(0:Int)))&&(cp.1==(1015:Int)))&&(ca.2==(0:Int)))&&(ca.1==(1015:Int)))&&(cE.2==(0:Int)))&&((cE.1.len:Int)==(2:Int)))&&((dL.len:Int)==(1:Int)))&&(iu==(60:Int)))&&(dw.2==(0:Int)))&&(dw.1==(100:Int))) rfl rfl rfl x4) rfl<|a2 116 rfl rfl rfl (iS (v:=.bool (false)) (l:=(((((((((((((((cA.len:Int)==(1:Int))&&(eW.gZ dm (⟨(1:Int),(2:Int),(1008:Int)⟩:eW)))&&(bJ.1==(2:Int)))&&(bJ.2==(1008:Int)))&&(cp.2==(0:Int)))&&(cp.1==(1015:Int)))&&(ca.2==(0:Int)))&&(ca.1==(1015:Int)))&&(cE.2==(0:Int)))&&((cE.1.len:Int)==(2:Int)))&&((dL.len:Int)==(1:Int)))&&(iu==(60:Int)))&&(dw.2==(0:Int)))&&(dw.1==(100:Int)))) rfl rfl x4 rfl)<|bc ?_
    exact⟨(false),_,arr (aP (aP rfl rfl) rfl),h⟩
def Nv(aM:aL)(bZ:Int)(w:World)(j:aL→World→Prop):Prop:=M Pg 29 [.pointer (aM),.int .i64 (bZ)] (bo aE (B .i64)) w fun cA bh=>if (cA.2 != (0:Int))=true then (j (none:Option Addr) bh) else (ex (bC cA.1) fun bS=>ex (L aE (bS.add 4) bh) fun cB=>M Pg 30 [.pointer (cB)] aE bh fun cp bN=>j cp bN)
theorem WS{aM bZ w j}(h:Nv aM bZ w j):M Pg 9 [.pointer aM,.int .i64 bZ] aE w j:=
 bj 20 Tryz.func9 rfl rfl bk
def Tv(cR:aL)(iD:Int)(w:World)(j:(Int×Int)→World→Prop):Prop:=ex (bC cR) fun aA=>ex (L ef (aA.add 5) w) fun c6=>ex (ih lA .i64 c6 iD w) fun jl=>bG 104 lA nP w fun bP bN=>ba lA bP (jl.getD nP) bN fun bA=>de bA fun bU=>ex (L (B .i64) (bP.add 0) bU) fun dG=>ex (L (B .i64) (bP.add 1) bU) fun c2=>j (dG,c2) bU
theorem af7{cR iD w j}(h:Tv cR iD w j):M Pg 10 [.pointer cR,.int .i64 iD] (bo (B .i64) (B .i64)) w j:=by
 have fY:=eg 3 (du [0,2,1,4,3,5] .e)
 exact bj 17 Tryz.func10 rfl rfl bk
def ID(nv:Int)(LL:Bool)(cF:World)(gy:Int→World→Prop)(j:Bool→World→Prop):Prop:=if LL=true then (j false cF) else (gy ((IntKind.i64.wrap (nv+(1:Int)))) cF)
def IE(wC:Int)(aHT:Bool)(ir:World)(C4:Int→World→Prop)(j:Bool→World→Prop):Prop:=if aHT=true then (j false ir) else (C4 ((IntKind.i64.wrap (wC+(1:Int)))) ir)
def Mn(aM:aL)(si:Int)(gN:World)(l2:Int→World→Prop)(ajy:Unit→World→Prop)(j:Bool→World→Prop):Prop:=M Pg 18 [.pointer (aM)] X gN fun ta gQ=>if (decide ((ta.len:Int)>(0:Int)))=true then (M Pg 36 [.pointer (aM),.int .i64 ((0:Int))] (B .i64) gQ fun mf ku=>if (mf != (0:Int))=true then (j false ku) else (ajy () ku)) else (l2 ((IntKind.i64.wrap (si+(1:Int)))) gQ)
def Mm(aM:aL)(bO:Int)(si:Int)(wC:Int)(ez:World)(l2:Int→World→Prop)(C4:Int→World→Prop)(j:Bool→World→Prop):Prop:=if (decide (wC<bO))=true then (M Pg 34 [.pointer (aM),.int .i64 (wC)] (B .i64) ez fun m6 e1=>if (m6 != (0:Int))=true then (IE wC true e1 C4 j) else (M Pg 35 [.pointer (aM),.int .i64 (wC)] (B .i64) e1 fun jW fX=>IE wC (jW != (0:Int)) fX C4 j)) else (eZ (fun (s:Unit) w aa=>Mn aM si w l2 aa j) () ez)
def Ml(aM:aL)(bO:Int)(si:Int)(cS:World)(l2:Int→World→Prop)(j:Bool→World→Prop):Prop:=if (decide (si<(14:Int)))=true then (eZ (fun (s:Int) w aa=>Mm aM bO si s w l2 aa j) ((0:Int)) cS) else (j true cS)
def Mk(aM:aL)(bO:Int)(nv:Int)(aU:World)(gy:Int→World→Prop)(j:Bool→World→Prop):Prop:=if (decide (nv<bO))=true then (M Pg 31 [.pointer (aM),.int .i64 (nv),.bool (false)] (B .i64) aU fun b0 bT=>M Pg 32 [.pointer (aM),.int .i64 (nv),.int .i64 ((0:Int)),X.enc ((⟨none,0,0⟩:af))] (B .i64) bT fun fj bA=>if (fj != (0:Int))=true then (ID nv true bA gy j) else (M Pg 33 [.pointer (aM),.int .i64 (nv)] (B .i64) bA fun hf c1=>ID nv (hf != (0:Int)) c1 gy j)) else (eZ (fun (s:Int) w aa=>Ml aM bO s w aa j) ((0:Int)) aU)
def TE(aM:aL)(bO:Int)(w:World)(j:Bool→World→Prop):Prop:=eZ (fun (s:Int) w aa=>Mk aM bO s w aa j) ((0:Int)) w
theorem agi{aM bO w j}(h:TE aM bO w j):M Pg 11 [.pointer aM,.int .i64 bO] bf w j:=by
 have o8:=fun {nv} {gy}=>pN (bp:=Bool) [5,6,7,8,9] [] (fun s w=>ID nv s w gy j) (fun g s=>ae (ae (ae (ae g 0 (.pointer aM)) 1 (.int .i64 bO)) 5 (.int .i64 nv)) 25 (.bool s))
 have QB:=fun {wC} {C4} {si}=>pN (bp:=Bool) [5,6,7,8,9] [] (fun s w=>IE wC s w C4 j) (fun g s=>ae (ae (ae (ae (ae g 0 (.pointer aM)) 1 (.int .i64 bO)) 6 (.int .i64 si)) 7 (.int .i64 wC)) 44 (.bool s))
 have iQ:=fun {si} {l2}=>hb (bp:=Unit) 16 (fun s w aa=>Mn aM si w l2 aa j) (fun g s=>ae (ae (ae g 0 (.pointer aM)) 1 (.int .i64 bO)) 6 (.int .i64 si))
 have Eh:=fun {si} {l2}=>hb (bp:=Int) 12 (fun s w aa=>Mm aM bO si s w l2 aa j) (fun g s=>ae (ae (ae (ae g 0 (.pointer aM)) 1 (.int .i64 bO)) 6 (.int .i64 si)) 7 (.int .i64 s))
 have abz:=hb (bp:=Int) 9 (fun s w aa=>Ml aM bO s w aa j) (fun g s=>ae (ae (ae g 0 (.pointer aM)) 1 (.int .i64 bO)) 6 (.int .i64 s))
 have aCe:=hb (bp:=Int) 3 (fun s w aa=>Mk aM bO s w aa j) (fun g s=>ae (ae (ae g 0 (.pointer aM)) 1 (.int .i64 bO)) 5 (.int .i64 s))
 exact bj 52 Tryz.func11 rfl rfl bk
def Mr(aX:Addr)(jw:Addr)(iu:Int)(sn:Int)(fK:World)(WX:Int→World→Prop)(j:(aL×Int)→World→Prop):Prop:=if (decide (sn<iu))=true then (bG 101 A0 (⟨(none:Option Addr),(0:Int),(none:Option Addr),(none:Option Addr),(none:Option Addr),(none:Option Addr),(none:Option Nat),(none:Option Nat),(⟨none,0,0⟩:af)⟩:uD) fK fun j2 fW=>ex (L gK (aX.add 2) fW) fun mK=>M Pg 37 [.float .f64 (mK)] (bo aE (B .i64)) fW fun sf lp=>ba aE (j2.add 0) sf.1 lp fun h3=>de h3 fun gQ=>ex (L aE (j2.add 0) gQ) fun mn=>ex (L (B .i64) (jw.add 4) gQ) fun kv=>ex (L (B .i64) (aX.add 3) gQ) fun mL=>M Pg 40 [.pointer (mn),.int .i64 ((0:Int)),.int .i64 (kv),.int .i64 (mL)] (B .i64) gQ fun k2 lq=>M Pg 41 [.int .i64 ((2:Int))] (bo aE (B .i64)) lq fun qp ml=>ba aE (j2.add 2) qp.1 ml fun kL=>M Pg 42 [.pointer ((some jw)),.pointer ((some j2))] (B .i64) kL fun qq oM=>ex (L X (jw.add 5) oM) fun ti=>l3 89 aE 1 8 ti [(some j2)] oM fun ug nK=>ba X (jw.add 5) ug nK fun pZ=>WX ((IntKind.i64.wrap (sn+(1:Int)))) pZ) else (j ((some jw),(0:Int)) fK)
def CR(aX:Addr)(bJ:(aL×Int))(nH:Bool)(cd:World)(j:(aL×Int)→World→Prop):Prop:=ex (fun x=>(!((nH||(bJ.2 != (0:Int)))||bJ.1.isNone))=true→(L (B .i64) (aX.add 3) cd) x) fun c2=>ex (fun x=>(!(((nH||(bJ.2 != (0:Int)))||bJ.1.isNone)||(decide (c2<(0:Int)))))=true→(L (B .i64) (aX.add 3) cd) x) fun e7=>if ((((nH||(bJ.2 != (0:Int)))||bJ.1.isNone)||(decide (c2<(0:Int))))||(decide (e7>(1000:Int))))=true then (j ((none:Option Addr),(200:Int)) cd) else (ex (L g8 aX cd) fun dQ=>ua cd fun s3 c1=>bG 114 A1 (⟨dQ,(1000:Int),(⟨none,0,0⟩:af),(none:Option Addr),(some s3),(⟨none,0,0⟩:af)⟩:rI) c1 fun jw cS=>ex (L (B .i64) (aX.add 0) cS) fun dL=>M Pg 39 [.int .i64 (dL)] (bo aE (B .i64)) cS fun mE ed=>ba aE (jw.add 6) mE.1 ed fun eo=>ex (L (B .i64) (aX.add 0) eo) fun iu=>eZ (fun (s:Int) w aa=>Mr aX jw iu s w aa j) ((0:Int)) eo)
def Mo(aM:kV)(w:World)(j:(aL×Int)→World→Prop):Prop:=bG 24 g8 aM w fun aX bh=>ex (L gK (aX.add 2) bh) fun c6=>M Pg 37 [.float .f64 (c6)] (bo aE (B .i64)) bh fun bJ a7=>ex (L (B .i64) (aX.add 0) a7) fun cw=>ex (fun x=>(!(decide (cw<(1:Int))))=true→(L (B .i64) (aX.add 0) a7) x) fun cM=>if ((decide (cw<(1:Int)))||(decide (cM>(8:Int))))=true then (CR aX bJ true a7 j) else (ex (L gK (aX.add 1) a7) fun zg=>M Pg 38 [.float .f64 (zg)] (B .i64) a7 fun qs AD=>CR aX bJ (qs != (0:Int)) AD j)
theorem agt{aM:kV}{w:World}{j:(aL×Int)→World→Prop}(h:Mo aM w j):M Pg 12 [g8.enc (aM)] (bo aE (B .i64)) w j:=by
 unfold Mo at h
 refine q0 107 Tryz.func12 rfl rfl (Nat.le_of_ble_eq_true rfl)<|wp_seq<|bq _ rfl ?_
 obtain⟨aX,bh,pE,arl,h⟩:=pR h
 refine a2 1 rfl rfl rfl (ue (u:=aM) rfl yK rfl pE arl)<|y rfl<|y rfl<|bc<|wp_seq<|bq _ rfl<|ho _ _ _ Tryz.underlying24 qj rfl rfl rfl<|hR qj h rfl rfl fun c6 _ h=>ft YJ rfl rfl h fun bJ a7 h=>y rfl<|gT _ _ rfl rfl rfl<|gT _ _ rfl rfl rfl ?_
 refine y rfl<|y rfl<|bc<|wp_seq<|wp_seq<|bq _ rfl<|ho _ _ _ Tryz.underlying24 dj rfl rfl rfl<|hR dj h rfl rfl fun cw _ h=>a2 _ rfl rfl rfl (ma rfl rfl rfl)<|y rfl<|dY 18 3 17 rfl rfl rfl rfl rfl (fun R=>lU (a:=aX) (off:=0) rfl Tryz.underlying24 rfl rfl dj (by decide) rfl) ?_
 obtain⟨cM,Qh,h⟩:=h
 refine dY 19 3 17 rfl rfl rfl rfl rfl (fun R=>j9 (T:=(B .i64)) (u:=cM) (a:=(aX.add 0)) rfl dj (da R) (Qh R))<|dY 20 3 17 rfl rfl rfl rfl rfl (fun R=>vw (k:=.i64) (a:=cM) (l:=(8:Int)) rfl (da R) rfl)<|a2 21 rfl rfl rfl (mD rfl rfl rfl rfl)<|y rfl<|n8 (bp:=Bool) (eV:=fun (s:Bool) w=>CR aX bJ s w j) (dp:=fun g (s:Bool)=>ae (ae (ae (ae (g) 1 (.pointer (some aX))) 4 (.pointer (bJ.1))) 5 (.int .i64 (bJ.2))) 27 (.bool (s))) [9,10,11,12,13] [14,15,16,17,18,19,20,21,22,23,24,25,26,27,28,29,30,31] ?_ ?_
 ·rintro nH g cd h
  unfold CR at h
  refine y rfl<|dY 29 14 28 rfl rfl rfl rfl rfl (fun R=>cQ (v:=.int .i64 (bJ.2)) rfl rfl)<|dY 30 14 28 rfl rfl rfl rfl rfl (fun R=>hc (k:=.i64) (a:=bJ.2) (l:=(0:Int)) rfl (da R) rfl)<|a2 31 rfl rfl rfl (mD rfl rfl rfl rfl)<|y rfl<|dY 33 18 32 rfl rfl rfl rfl rfl (fun R=>cQ (v:=.pointer (bJ.1)) rfl rfl)<|dY 34 18 32 rfl rfl rfl rfl rfl (fun R=>sd (a:=bJ.1) rfl Tryz.underlying92 (da R) rfl)<|a2 35 rfl rfl rfl (mD rfl rfl rfl rfl)<|y rfl<|dY 37 22 36 rfl rfl rfl rfl rfl (fun R=>lU (a:=aX) (off:=3) rfl Tryz.underlying24 rfl rfl cU (by decide) rfl) ?_
  obtain⟨c2,BO,h⟩:=h
  refine dY 38 22 36 rfl rfl rfl rfl rfl (fun R=>j9 (T:=(B .i64)) (u:=c2) (a:=(aX.add 3)) rfl cU (da R) (BO R))<|dY 39 22 36 rfl rfl rfl rfl rfl (fun R=>ma (k:=.i64) (a:=c2) (l:=(0:Int)) rfl (da R) rfl)<|a2 40 rfl rfl rfl (mD rfl rfl rfl rfl)<|y rfl<|dY 42 27 41 rfl rfl rfl rfl rfl (fun R=>lU (a:=aX) (off:=3) rfl Tryz.underlying24 rfl rfl cU (by decide) rfl) ?_
  obtain⟨e7,yn,h⟩:=h
  refine dY 43 27 41 rfl rfl rfl rfl rfl (fun R=>j9 (T:=(B .i64)) (u:=e7) (a:=(aX.add 3)) rfl cU (da R) (yn R))<|dY 44 27 41 rfl rfl rfl rfl rfl (fun R=>vw (k:=.i64) (a:=e7) (l:=(1000:Int)) rfl (da R) rfl)<|a2 45 rfl rfl rfl (mD rfl rfl rfl rfl)<|bc<|fB h rfl (fun _ h=>?_) fun _ h=>?_
  ·refine wp_seq<|bq _ rfl<|y rfl<|y rfl<|bc<|wp_ret ?_
   exact Tt h rfl rfl
  ·refine wp_skip<|wp_seq<|bq _ rfl<|hR yK h rfl rfl fun dQ _ h=>?_
   obtain⟨s3,c1,aqr,P0,h⟩:=KU h
   refine a2 47 rfl rfl rfl (Le rfl aqr P0)<|a2 48 rfl rfl rfl (RF (a_:=dQ) (bM:=(1000:Int)) (lX:=(some s3)) rfl rfl rfl rfl) ?_
   obtain⟨jw,cS,aoE,ard,h⟩:=pR h
   refine a2 49 rfl rfl rfl (ue (u:=(⟨dQ,(1000:Int),(⟨none,0,0⟩:af),(none:Option Addr),(some s3),(⟨none,0,0⟩:af)⟩:rI)) rfl abU rfl aoE ard)<|y rfl<|bc<|wp_seq<|bq _ rfl<|y rfl<|ho _ _ _ Tryz.underlying24 dj rfl rfl rfl<|hR dj h rfl rfl fun dL _ h=>ft am9 rfl rfl h fun mE ed h=>y rfl<|gT _ _ rfl rfl rfl<|gT _ _ rfl rfl rfl ?_
   refine a2 57 rfl rfl rfl (mb (a:=jw) rfl rfl)<|ho _ _ _ Tryz.underlying114 KX rfl rfl rfl<|jN KX h rfl rfl rfl fun eo h=>bc<|wp_seq<|wp_seq<|bq _ rfl<|ho _ _ _ Tryz.underlying24 dj rfl rfl rfl<|hR dj h rfl rfl fun iu _ h=>y rfl<|bc<|wp_block ?_
   refine s0 (bp:=Int) (dp:=fun g (s:Int)=>ae (ae (ae (ae (g) 1 (.pointer (some aX))) 6 (.pointer ((some jw)))) 60 (.int .i64 (iu))) 61 (.int .i64 (s))) (mi:=((0:Int))) (aP (aP (aP (aP rfl rfl) rfl) rfl) rfl) h ?_
   rintro sn g fK WX h
   unfold Mr at h
   refine wp_seq<|bq _ rfl<|a2 _ rfl rfl rfl (ma rfl rfl rfl)<|bc<|wp_seq<|fB h rfl (fun _ h=>?_) fun _ h=>?_
   ·refine wp_skip<|wp_seq<|wp_block<|wp_seq<|bq _ rfl<|a2 63 rfl rfl rfl (RE  rfl) ?_
    obtain⟨j2,fW,aoJ,arj,h⟩:=pR h
    refine a2 64 rfl rfl rfl (ue (u:=(⟨(none:Option Addr),(0:Int),(none:Option Addr),(none:Option Addr),(none:Option Addr),(none:Option Addr),(none:Option Nat),(none:Option Nat),(⟨none,0,0⟩:af)⟩:uD)) rfl abT rfl aoJ arj)<|y rfl<|bc<|wp_seq<|bq _ rfl<|y rfl<|ho _ _ _ Tryz.underlying24 qj rfl rfl rfl<|hR qj h rfl rfl fun mK _ h=>ft YJ rfl rfl h fun sf lp h=>y rfl<|gT _ _ rfl rfl rfl<|gT _ _ rfl rfl rfl ?_
    refine a2 72 rfl rfl rfl (mb (a:=j2) rfl rfl)<|ho _ _ _ Tryz.underlying101 EA rfl rfl rfl<|jN EA h rfl rfl rfl fun h3 h=>bc<|wp_seq ?_
    obtain⟨gQ,arn,h⟩:=ou h
    refine po 11 mixed rfl (by kernel_rfl) (by intro c a d v w h; cases d<;>exact h) arn (fun ak=>?_)
    refine gf 0 74 (.pointer ((some j2))) ak rfl rfl<|fc 1 75 ak rfl rfl rfl (fun _=>mb (a:=j2) rfl rfl)<|hn 2 76 j2 0 Tryz.underlying101 EA ak rfl rfl rfl<|gf 4 78 (.pointer ((some jw))) ak rfl rfl<|fc 5 79 ak rfl rfl rfl (fun _=>mb (a:=jw) rfl rfl)<|hn 6 80 jw 4 Tryz.underlying114 cU ak rfl rfl rfl<|hn 8 82 aX 3 Tryz.underlying24 cU ak rfl rfl rfl ?_
    obtain⟨mn,Hc,h⟩:=h
    refine h7 3 77 Hc EA ak rfl rfl ?_
    obtain⟨kv,Hd,h⟩:=h
    refine h7 7 81 Hd cU ak rfl rfl ?_
    obtain⟨mL,arN,h⟩:=h
    refine h7 9 83 arN cU ak rfl rfl<|fk (i:=10) (by kernel_rfl)<|hG rfl (.free rfl) (gR (d:=(some 84)) rfl (fR (k:=40) (m:=[.pointer (mn),.int .i64 ((0:Int)),.int .i64 (kv),.int .i64 (mL)]) rfl ana rfl) h ?_)
    intro k2 lq h
    refine⟨(hi (by kernel_rfl) (hi (by kernel_rfl) (hi (by kernel_rfl) im))),?_⟩
    refine kH (by kernel_rfl)<|wp_seq<|bq _ rfl<|y rfl<|ft anb rfl rfl h fun qp ml h=>y rfl<|gT _ _ rfl rfl rfl<|gT _ _ rfl rfl rfl<|a2 90 rfl rfl rfl (mb (a:=j2) rfl rfl)<|ho _ _ _ Tryz.underlying101 HJ rfl rfl rfl<|jN HJ h rfl rfl rfl fun kL h=>bc ?_
    refine wp_seq<|bq _ rfl<|y rfl<|y rfl<|ft anc rfl rfl h fun qq oM h=>bc<|bq _ rfl<|y rfl<|y rfl<|a2 97 rfl rfl rfl (mb (a:=jw) rfl rfl)<|ho _ _ _ Tryz.underlying114 Ev rfl rfl rfl<|hR Ev h rfl rfl fun ti _ h=>?_
    refine y rfl ?_
    obtain⟨Bd,ob,aoP,P3,h⟩:=F_ h
    refine a2 101 rfl rfl rfl (Ak (T:=aE) (xs:=[(some j2)]) rfl Tryz.underlying111 Ri Km rfl (by decide) (by decide) rfl aoP P3)<|en rfl (.free rfl) (Is (d:=(some 102)) (T:=aE) rfl rfl Tryz.underlying111 ⟨_,Tryz.underlying111⟩ Ri Km rfl rfl (Nat.lt_of_lt_of_le Nat.zero_lt_one (Nat.le_of_ble_eq_true rfl)) rfl rfl h ?_)
    intro ug nK h
    refine a2 103 rfl rfl rfl (mb (a:=jw) rfl rfl)<|ho _ _ _ Tryz.underlying114 Ev rfl rfl rfl<|jN Ev h rfl rfl rfl fun pZ h=>bc<|bq _ rfl<|a2 _ rfl rfl rfl (pf rfl rfl rfl)<|y rfl<|bc ?_
    exact⟨((IntKind.i64.wrap (sn+(1:Int)))),_,arr (aP (aP (aP (aP rfl rfl) rfl) rfl) rfl),h⟩
   ·refine wp_exit<|wp_seq<|bq _ rfl<|y rfl<|y rfl<|y rfl<|bc<|wp_ret ?_
    exact Tt h rfl rfl
 ·refine jb (l:=((decide (cw<(1:Int)))||(decide (cM>(8:Int))))) h (fun uZ h=>?_) (fun uZ h=>?_)
  ·refine dl (d:=(some 23)) rfl (.az 8 false 22 ((decide (cw<(1:Int)))||(decide (cM>(8:Int)))) rfl rfl rfl uZ) rfl<|dl (d:=(some 24)) rfl (.az 8 false 22 ((decide (cw<(1:Int)))||(decide (cM>(8:Int)))) rfl rfl rfl uZ) rfl<|dl (d:=(some 25)) rfl (.az 8 false 22 ((decide (cw<(1:Int)))||(decide (cM>(8:Int)))) rfl rfl rfl uZ) rfl<|dl (d:=(some 26)) rfl (.az 8 false 22 ((decide (cw<(1:Int)))||(decide (cM>(8:Int)))) rfl rfl rfl uZ) rfl<|a2 27 rfl rfl rfl (hX (v:=.bool (true)) (l:=((decide (cw<(1:Int)))||(decide (cM>(8:Int))))) rfl rfl uZ rfl)<|bc ?_
   exact⟨(true),_,arr (aP (aP (aP (aP rfl rfl) rfl) rfl) rfl),h⟩
  ·refine eP (d:=(some 23)) rfl (.az 8 false 22 ((decide (cw<(1:Int)))||(decide (cM>(8:Int)))) rfl rfl rfl uZ) rfl (lU (a:=aX) (off:=1) rfl Tryz.underlying24 rfl rfl qj (by decide) rfl) ?_
   obtain⟨zg,arV,h⟩:=h
   refine eP (d:=(some 24)) rfl (.az 8 false 22 ((decide (cw<(1:Int)))||(decide (cM>(8:Int)))) rfl rfl rfl uZ) rfl (j9 (T:=gK) (u:=zg) (a:=(aX.add 1)) rfl qj rfl arV)<|en rfl (.az 8 false 22 ((decide (cw<(1:Int)))||(decide (cM>(8:Int)))) rfl rfl rfl uZ) (gR (d:=(some 25)) rfl (fR (k:=38) (m:=[.float .f64 (zg)]) rfl am8 rfl) h ?_)
   intro qs AD h
   refine eP (d:=(some 26)) rfl (.az 8 false 22 ((decide (cw<(1:Int)))||(decide (cM>(8:Int)))) rfl rfl rfl uZ) rfl (hc (a:=qs) (l:=(0:Int)) rfl rfl rfl)<|a2 27 rfl rfl rfl (iS (v:=.bool ((qs != (0:Int)))) (l:=((decide (cw<(1:Int)))||(decide (cM>(8:Int))))) rfl rfl uZ rfl)<|bc ?_
   exact⟨((qs != (0:Int))),_,arr (aP (aP (aP (aP rfl rfl) rfl) rfl) rfl),h⟩
def Fj(aX:Addr)(a3:Addr)(bN:World)(j:oi→World→Prop):Prop:=ex (L hK aX bN) fun cM=>ba hK a3 cM bN fun bU=>ex (L hK a3 bU) fun dG=>j dG bU
def Fi(aX:Addr)(a3:Addr)(bT:World)(j:oi→World→Prop):Prop:=ex (L X (aX.add 9) bT) fun c2=>if (decide ((c2.len:Int)>(4:Int)))=true then (ex (L X (aX.add 9) bT) fun e7=>ex (Sub e7 1 0 (4:Int) ((e7).cap:Int)) fun So=>ba X (aX.add 9) So bT fun c1=>Fj aX a3 c1 j) else (Fj aX a3 bT j)
def TY(h6:oi)(w:World)(j:oi→World→Prop):Prop:=bG 35 hK h6 w fun aX bh=>bG 35 hK Ba bh fun a3 a7=>ex (L X (aX.add 8) a7) fun dm=>if (decide ((dm.len:Int)>(10:Int)))=true then (ex (L X (aX.add 8) a7) fun jH=>ex (Sub jH 1 0 (10:Int) ((jH).cap:Int)) fun aGI=>ba X (aX.add 8) aGI a7 fun ed=>Fi aX a3 ed j) else (Fi aX a3 a7 j)
theorem agC{h6 w j}(h:TY h6 w j):M Pg 13 [hK.enc h6] hK w j:=by
 have iE:=fun {aX} {a3}=>hs (bp:=Unit) 6 (fun s w=>Fj aX a3 w j) (fun g s=>ae (ae g 1 (.pointer (some aX))) 2 (.pointer (some a3)))
 have Hm:=fun {aX} {a3}=>hs (bp:=Unit) 4 (fun s w=>Fi aX a3 w j) (fun g s=>ae (ae g 1 (.pointer (some aX))) 2 (.pointer (some a3)))
 exact bj 20 Tryz.func13 rfl rfl bk
def Mx(Jt:Int)(bT:World)(j:Int→World→Prop):Prop:=j Jt bT
def T8(aM:aL)(kw:oi)(w:World)(j:Int→World→Prop):Prop:=bG 35 hK kw w fun aA aU=>ex (L (B .i64) (aA.add 0) aU) fun cw=>if (cw==(0:Int))=true then (ex (L (B .i64) (aA.add 3) aU) fun cM=>ex (L X (aA.add 8) aU) fun c3=>M Pg 43 [.pointer (aM),.int .i64 (cM),X.enc (c3)] (B .i64) aU fun hd cd=>j hd cd) else (if (cw==(1:Int))=true then (ex (L (B .i64) (aA.add 1) aU) fun e7=>ex (L (B .i64) (aA.add 3) aU) fun dQ=>M Pg 44 [.pointer (aM),.int .i64 (e7),.int .i64 (dQ)] (B .i64) aU fun hf c1=>j hf c1) else (if (cw==(2:Int))=true then (ex (L gh (aA.add 4) aU) fun dm=>M Pg 45 [.pointer (aM),gh.enc (dm)] (B .i64) aU fun gv cS=>j gv cS) else (if (cw==(3:Int))=true then (ex (L (B .i64) (aA.add 1) aU) fun hH=>M Pg 35 [.pointer (aM),.int .i64 (hH)] (B .i64) aU fun pg ez=>j pg ez) else (if (cw==(4:Int))=true then (ex (L (B .i64) (aA.add 1) aU) fun iu=>M Pg 36 [.pointer (aM),.int .i64 (iu)] (B .i64) aU fun w0 eh=>j w0 eh) else (if (cw==(5:Int))=true then (ex (L (B .i64) (aA.add 1) aU) fun hg=>M Pg 46 [.pointer (aM),.int .i64 (hg)] (B .i64) aU fun fJ e2=>j fJ e2) else (if (cw==(6:Int))=true then (ex (L (B .i64) (aA.add 1) aU) fun mK=>M Pg 47 [.pointer (aM),.int .i64 (mK)] (B .i64) aU fun sf lp=>j sf lp) else (if (cw==(7:Int))=true then (ex (L (B .i64) (aA.add 1) aU) fun lu=>ex (L (B .i64) (aA.add 2) aU) fun k3=>M Pg 31 [.pointer (aM),.int .i64 (lu),.bool (((bits .and .i64 k3 (1:Int))==(1:Int)))] (B .i64) aU fun Al is=>j Al is) else (if (cw==(8:Int))=true then (ex (L (B .i64) (aA.add 1) aU) fun mL=>ex (L (B .i64) (aA.add 2) aU) fun ze=>ex (L X (aA.add 9) aU) fun zf=>M Pg 32 [.pointer (aM),.int .i64 (mL),.int .i64 (ze),X.enc (zf)] (B .i64) aU fun qp ml=>j qp ml) else (if (cw==(9:Int))=true then (ex (L (B .i64) (aA.add 1) aU) fun nM=>ex (L X (aA.add 9) aU) fun qI=>M Pg 48 [.pointer (aM),.int .i64 (nM),X.enc (qI)] (B .i64) aU fun aFO vP=>j aFO vP) else (if (cw==(10:Int))=true then (ex (L (B .i64) (aA.add 1) aU) fun AI=>M Pg 33 [.pointer (aM),.int .i64 (AI)] (B .i64) aU fun Ll ob=>j Ll ob) else (if (cw==(11:Int))=true then (ex (L (B .i64) (aA.add 1) aU) fun oP=>M Pg 34 [.pointer (aM),.int .i64 (oP)] (B .i64) aU fun Ao pZ=>j Ao pZ) else (if (cw==(12:Int))=true then (ex (L (B .i64) (aA.add 1) aU) fun Tm=>M Pg 49 [.pointer (aM),.int .i64 (Tm)] (B .i64) aU fun aFR aID=>j aFR aID) else (if (cw==(13:Int))=true then (ex (L (B .i64) (aA.add 1) aU) fun L8=>M Pg 25 [.pointer (aM),.int .i64 (L8)] (bo (B .i64) (B .i64)) aU fun aFS S3=>Mx aFS.2 S3 j) else (if (cw==(14:Int))=true then (ex (L (B .i64) (aA.add 1) aU) fun L_=>ex (L (B .i64) (aA.add 3) aU) fun Ma=>M Pg 50 [.pointer (aM),.int .i64 (L_),.int .i64 (Ma)] (B .i64) aU fun Lm tg=>j Lm tg) else (if (cw==(15:Int))=true then (ex (L (B .i64) (aA.add 1) aU) fun aIX=>ex (L (B .i64) (aA.add 3) aU) fun Tn=>M Pg 51 [.pointer (aM),.int .i64 (aIX),.int .i64 (Tn)] (B .i64) aU fun EL xb=>j EL xb) else (if (cw==(16:Int))=true then (ex (L (B .i64) (aA.add 1) aU) fun aIZ=>M Pg 52 [.pointer (aM),.int .i64 (aIZ)] (B .i64) aU fun Ln S4=>j Ln S4) else (Mx (0:Int) aU j)))))))))))))))))
theorem agM{aM kw w j}(h:T8 aM kw w j):M Pg 14 [.pointer aM,hK.enc kw] (B .i64) w j:=by
 have iE:=hs (bp:=Int) 38 (fun s w=>Mx s w j) (fun g s=>ae g 5 (.int .i64 s))
 exact bj 132 Tryz.func14 rfl rfl bk
def Ug(aM:aL)(w:World)(j:af→World→Prop):Prop:=ex (bC aM) fun aX=>ex (L X (aX.add 8) w) fun dW=>M Pg 53 [X.enc (dW)] X w fun cu aU=>j cu aU
theorem agT{aM w j}(h:Ug aM w j):M Pg 15 [.pointer aM] X w j:=
 bj 8 Tryz.func15 rfl rfl bk
def Uq(aM:aL)(iD:Int)(w:World)(j:(Int×Int)→World→Prop):Prop:=if (decide (iD<(1:Int)))=true then (j ((0:Int),(0:Int)) w) else (M Pg 54 [.pointer (aM),.int .i64 (iD)] (B .i64) w fun cA bh=>M Pg 29 [.pointer (aM),.int .i64 (cA)] (bo aE (B .i64)) bh fun bJ a7=>if (bJ.2 != (0:Int))=true then (j ((0:Int),(0:Int)) a7) else (ex (bC bJ.1) fun b7=>ex (L ef (b7.add 6) a7) fun cM=>ex (ih aE .i64 cM iD a7) fun lM=>if (!(((lM.getD (none:Option Addr),lM.isSome)).2))=true then (j ((0:Int),(0:Int)) a7) else (M Pg 55 [.pointer (((lM.getD (none:Option Addr),lM.isSome)).1)] (bo (B .i64) (B .i64)) a7 fun hd cd=>j (hd.1,hd.2) cd)))
theorem ag1{aM iD w j}(h:Uq aM iD w j):M Pg 16 [.pointer aM,.int .i64 iD] (bo (B .i64) (B .i64)) w j:=
 bj 37 Tryz.func16 rfl rfl bk
def ME(jx:af)(hO:af)(nv:Int)(aU:World)(gy:Int→World→Prop)(j:Bool→World→Prop):Prop:=if (decide (nv<(jx.len:Int)))=true then (de aU fun bT=>ex (cD jx 3 nv) fun b7=>ex (cD hO 3 nv) fun cH=>ex (L kh b7 bT) fun c3=>ex (L kh cH bT) fun dG=>if (!(eW.gZ c3 dG))=true then (j false bT) else (gy ((IntKind.i64.wrap (nv+(1:Int)))) bT)) else (j true aU)
def Uy(jx:af)(hO:af)(w:World)(j:Bool→World→Prop):Prop:=if ((jx.len:Int)!=(hO.len:Int))=true then (j false w) else (eZ (fun (s:Int) w aa=>ME jx hO s w aa j) ((0:Int)) w)
theorem ahb{jx hO w j}(h:Uy jx hO w j):M Pg 17 [X.enc jx,X.enc hO] bf w j:=by
 have fY:=eg 7 (du [0,1,2,4,5,6,3,7,8] .e)
 have iQ:=hb (bp:=Int) 5 (fun s w aa=>ME jx hO s w aa j) (fun g s=>ae (ae (ae g 0 (X.enc jx)) 1 (X.enc hO)) 5 (.int .i64 s))
 exact bj 26 Tryz.func17 rfl rfl bk
def UI(aM:aL)(w:World)(j:af→World→Prop):Prop:=ex (bC aM) fun aX=>ex (L aE (aX.add 6) w) fun dW=>M Pg 56 [.pointer (dW)] X w fun cu aU=>j cu aU
theorem ahl{aM w j}(h:UI aM w j):M Pg 18 [.pointer aM] X w j:=
 bj 8 Tryz.func18 rfl rfl bk
def UP(aM:aL)(w:World)(j:Int→World→Prop):Prop:=ex (bC aM) fun aX=>ex (L (B .i64) (aX.add 4) w) fun dW=>j dW w
theorem ahs{aM w j}(h:UP aM w j):M Pg 19 [.pointer aM] (B .i64) w j:=
 bj 7 Tryz.func19 rfl rfl bk
def UY(dk:mQ)(w:World)(j:Int→World→Prop):Prop:=bG 67 ds dk w fun aX bh=>ex (L aE (aX.add 0) bh) fun c6=>M Pg 57 [.pointer (c6)] (B .i64) bh fun bJ a7=>j bJ a7
theorem ahu{dk w j}(h:UY dk w j):M Pg 20 [ds.enc dk] (B .i64) w j:=
 bj 6 Tryz.func20 rfl rfl bk
def MP(cR:aL)(w:World)(j:Int→World→Prop):Prop:=ex (bC cR) fun aX=>ex (L (B .i64) (aX.add 2) w) fun dW=>j dW w
theorem U9{cR w j}(h:MP cR w j):M Pg 21 [.pointer cR] (B .i64) w j:=
 bj 7 Tryz.func21 rfl rfl bk
def U_(dk:mQ)(w:World)(j:Int→World→Prop):Prop:=bG 67 ds dk w fun aX bh=>ex (L aE (aX.add 0) bh) fun c6=>M Pg 58 [.pointer (c6)] (B .i64) bh fun bJ a7=>j bJ a7
theorem ahN{dk w j}(h:U_ dk w j):M Pg 22 [ds.enc dk] (B .i64) w j:=
 bj 6 Tryz.func22 rfl rfl bk
def MV(aX:Addr)(b0:af)(abn:af)(nH:Int)(cd:World)(NG:af×Int→World→Prop)(j:af→World→Prop):Prop:=if (decide (nH<(b0.len:Int)))=true then (ex (cD b0 1 nH) fun fM=>ex (L (B .i64) fM cd) fun dQ=>ex (L ef (aX.add 3) cd) fun eu=>ex (ih ix .i64 eu dQ cd) fun s3=>l3 135 ix 6 48 abn [(s3.getD qS)] cd fun wZ fT=>NG (wZ,(IntKind.i64.wrap (nH+(1:Int)))) fT) else (j abn cd)
def Vi(cR:aL)(w:World)(j:af→World→Prop):Prop:=ex (bC cR) fun aX=>ex (L ef (aX.add 3) w) fun dW=>M Pg 60 [.map (dW)] gb w fun cu aU=>M Pg 59 [(cu).enc] X aU fun b0 bT=>eZ (fun (s:af×Int) w aa=>MV aX b0 s.1 s.2 w aa j) ((⟨none,0,0⟩:af),(0:Int)) bT
theorem ahT{cR w j}(h:Vi cR w j):M Pg 23 [.pointer cR] X w j:=by
 have iQ:=fun {aX} {b0:af}=>hb (bp:=af×Int) 4 (fun s w aa=>MV aX b0 s.1 s.2 w aa j) (fun g s=>ae (ae (ae (ae (ae g 0 (.pointer cR)) 11 (X.enc b0)) 12 (.int .i64 ((b0.len:Int)))) 3 (X.enc (s.1))) 13 (.int .i64 (s.2)))
 exact bj 28 Tryz.func23 rfl rfl bk
def zk(eF:Int)(aeY:Bool)(eh:World)(ms:Int→World→Prop)(j:aL→World→Prop):Prop:=if aeY=true then (j (none:Option Addr) eh) else (ms ((IntKind.i64.wrap (eF+(1:Int)))) eh)
def zj(bs:(aL×Int))(eF:Int)(rz:Bool)(eo:World)(ms:Int→World→Prop)(j:aL→World→Prop):Prop:=if rz=true then (zk eF true eo ms j) else (if (eF==(1:Int))=true then (M Pg 35 [.pointer (bs.1),.int .i64 ((1:Int))] (B .i64) eo fun dP fW=>zk eF (dP != (0:Int)) fW ms j) else (zk eF false eo ms j))
def zi(bs:(aL×Int))(eF:Int)(pj:Bool)(ed:World)(ms:Int→World→Prop)(j:aL→World→Prop):Prop:=if pj=true then (zj bs eF true ed ms j) else (if (eF==(0:Int))=true then (M Pg 35 [.pointer (bs.1),.int .i64 ((1:Int))] (B .i64) ed fun sg h3=>zj bs eF (sg != (0:Int)) h3 ms j) else (zj bs eF false ed ms j))
def AR(bs:(aL×Int))(eF:Int)(lV:Bool)(cS:World)(ms:Int→World→Prop)(j:aL→World→Prop):Prop:=if lV=true then (zi bs eF true cS ms j) else (if (eF==(0:Int))=true then (M Pg 35 [.pointer (bs.1),.int .i64 ((0:Int))] (B .i64) cS fun qo jd=>zi bs eF (qo != (0:Int)) jd ms j) else (zi bs eF false cS ms j))
def Fv(bs:(aL×Int))(ae1:Bool)(w_:World)(j:aL→World→Prop):Prop:=if ae1=true then (j (none:Option Addr) w_) else (j bs.1 w_)
def Fu(bs:(aL×Int))(vI:Bool)(ob:World)(j:aL→World→Prop):Prop:=if vI=true then (Fv bs true ob j) else (M Pg 49 [.pointer (bs.1),.int .i64 ((1:Int))] (B .i64) ob fun mg qD=>Fv bs (mg != (0:Int)) qD j)
def Ft(bs:(aL×Int))(vH:Bool)(kM:World)(j:aL→World→Prop):Prop:=if vH=true then (Fu bs true kM j) else (M Pg 43 [.pointer (bs.1),.int .i64 ((20:Int)),X.enc ((⟨none,0,0⟩:af))] (B .i64) kM fun qs AD=>Fu bs (qs != (0:Int)) AD j)
def MY(bs:(aL×Int))(eF:Int)(cl:World)(ms:Int→World→Prop)(j:aL→World→Prop):Prop:=if (decide (eF<(3:Int)))=true then (M Pg 36 [.pointer (bs.1),.int .i64 ((0:Int))] (B .i64) cl fun hf c1=>if (hf != (0:Int))=true then (AR bs eF true c1 ms j) else (M Pg 36 [.pointer (bs.1),.int .i64 ((0:Int))] (B .i64) c1 fun qp ml=>AR bs eF (qp != (0:Int)) ml ms j)) else (M Pg 49 [.pointer (bs.1),.int .i64 ((1:Int))] (B .i64) cl fun nD kL=>if (nD != (0:Int))=true then (Ft bs true kL j) else (M Pg 15 [.pointer (bs.1)] X kL fun Cr qE=>Ft bs ((Cr.len:Int)!=(0:Int)) qE j))
def Fy(bs:(aL×Int))(nH:Bool)(cd:World)(j:aL→World→Prop):Prop:=if nH=true then (j (none:Option Addr) cd) else (eZ (fun (s:Int) w aa=>MY bs s w aa j) ((0:Int)) cd)
def Fx(bs:(aL×Int))(oJ:Bool)(bA:World)(j:aL→World→Prop):Prop:=if oJ=true then (Fy bs true bA j) else (M Pg 35 [.pointer (bs.1),.int .i64 ((1:Int))] (B .i64) bA fun dq AE=>Fy bs (dq != (0:Int)) AE j)
def Fw(bs:(aL×Int))(lW:Bool)(bT:World)(j:aL→World→Prop):Prop:=if lW=true then (Fx bs true bT j) else (M Pg 45 [.pointer (bs.1),gh.enc ((⟨(1:Int),(0:Int),(1:Int),(40:Int)⟩:mx))] (B .i64) bT fun HW xc=>Fx bs (HW != (0:Int)) xc j)
def Fs(bs:(aL×Int))(bR:Bool)(aU:World)(j:aL→World→Prop):Prop:=if bR=true then (Fw bs true aU j) else (M Pg 44 [.pointer (bs.1),.int .i64 ((1:Int)),.int .i64 ((0:Int))] (B .i64) aU fun HX AF=>Fw bs (HX != (0:Int)) AF j)
def MW(w:World)(j:aL→World→Prop):Prop:=M Pg 12 [g8.enc ((⟨(2:Int),(0:Nat),(0:Nat),(5:Int)⟩:kV))] (bo aE (B .i64)) w fun bs dz=>if ((bs.2 != (0:Int))||bs.1.isNone)=true then (Fs bs true dz j) else (M Pg 44 [.pointer (bs.1),.int .i64 ((0:Int)),.int .i64 ((100:Int))] (B .i64) dz fun HY Iq=>Fs bs (HY != (0:Int)) Iq j)
theorem ah1{w:World}{j:aL→World→Prop}(h:MW w j):M Pg 24 [] aE w j:=by
 unfold MW at h
 refine q0 95 Tryz.func24 rfl rfl (Nat.le_of_ble_eq_true rfl)<|wp_seq<|bq _ rfl<|y rfl<|bc<|wp_seq<|bq _ rfl<|a2 5 rfl rfl rfl (RM (a_:=(2:Int)) (fS:=(5:Int)) rfl rfl rfl)<|ft amG rfl rfl h fun bs dz h=>y rfl<|gT _ _ rfl rfl rfl<|gT _ _ rfl rfl rfl ?_
 refine y rfl<|y rfl<|bc<|wp_seq<|wp_seq<|bq _ rfl<|y rfl<|a2 _ rfl rfl rfl (hc rfl rfl rfl)<|y rfl<|dY 12 2 11 rfl rfl rfl rfl rfl (fun R=>cQ (v:=.pointer (bs.1)) rfl rfl)<|dY 13 2 11 rfl rfl rfl rfl rfl (fun R=>sd (a:=bs.1) rfl Tryz.underlying26 (da R) rfl)<|a2 14 rfl rfl rfl (mD rfl rfl rfl rfl) ?_
 refine y rfl<|n8 (bp:=Bool) (eV:=fun (s:Bool) w=>Fs bs s w j) (dp:=fun g (s:Bool)=>ae (ae (g) 1 (.pointer (bs.1))) 19 (.bool (s))) [7,8,9,10] [11,12,13,14,15,16,17,18,19,20,21,22,23,24,25,26] ?_ ?_
 ·rintro bR g aU h
  unfold Fs at h
  refine y rfl<|n8 (bp:=Bool) (eV:=fun (s:Bool) w=>Fw bs s w j) (dp:=fun g (s:Bool)=>ae (ae (g) 1 (.pointer (bs.1))) 24 (.bool (s))) [12,13,14,15] [16,17,18,19,20,21,22,23,24,25,26] ?_ ?_
  ·rintro lW g bT h
   unfold Fw at h
   refine y rfl<|n8 (bp:=Bool) (eV:=fun (s:Bool) w=>Fx bs s w j) (dp:=fun g (s:Bool)=>ae (ae (g) 1 (.pointer (bs.1))) 30 (.bool (s))) [17,18,19,20,21] [22,23,24,25,26] ?_ ?_
   ·rintro oJ g bA h
    unfold Fx at h
    refine y rfl<|n8 (bp:=Bool) (eV:=fun (s:Bool) w=>Fy bs s w j) (dp:=fun g (s:Bool)=>ae (ae (g) 1 (.pointer (bs.1))) 35 (.bool (s))) [23,24,25,26] [] ?_ ?_
    ·rintro nH g cd h
     unfold Fy at h
     refine bc<|fB h rfl (fun _ h=>?_) fun _ h=>?_
     ·refine wp_seq<|bq _ rfl<|y rfl<|bc<|wp_ret ?_
      exact lZ h rfl rfl
     ·refine wp_skip<|wp_seq<|wp_seq<|bq _ rfl<|y rfl<|bc<|wp_block<|s0 (bp:=Int) (dp:=fun g (s:Int)=>ae (ae (g) 1 (.pointer (bs.1))) 3 (.int .i64 (s))) (mi:=((0:Int))) (aP (aP rfl rfl) rfl) h ?_
      rintro eF g cl ms h
      unfold MY at h
      refine wp_seq<|wp_seq<|bq _ rfl<|y rfl<|a2 _ rfl rfl rfl (ma rfl rfl rfl)<|bc<|fB h rfl (fun _ h=>?_) fun _ h=>?_
      ·refine wp_skip<|wp_seq<|wp_block<|wp_seq<|bq _ rfl<|y rfl<|ft YI rfl rfl h fun hf c1 h=>a2 _ rfl rfl rfl (hc rfl rfl rfl)<|y rfl<|n8 (bp:=Bool) (eV:=fun (s:Bool) w=>AR bs eF s w ms j) (dp:=fun g (s:Bool)=>ae (ae (ae (g) 1 (.pointer (bs.1))) 3 (.int .i64 (eF))) 47 (.bool (s))) [4,5,6,7] [8,9,10,11,12,13,14,15,16,17,18,19,20,21,22,23,24,25,26,27,28,29,30,31,32,33,34] ?_ ?_
       ·rintro lV g cS h
        unfold AR at h
        refine y rfl<|n8 (bp:=Bool) (eV:=fun (s:Bool) w=>zi bs eF s w ms j) (dp:=fun g (s:Bool)=>ae (ae (ae (g) 1 (.pointer (bs.1))) 3 (.int .i64 (eF))) 56 (.bool (s))) [9,10,11,12,13,14,15,16] [17,18,19,20,21,22,23,24,25,26,27,28,29,30,31,32,33,34] ?_ ?_
        ·rintro pj g ed h
         unfold zi at h
         refine y rfl<|n8 (bp:=Bool) (eV:=fun (s:Bool) w=>zj bs eF s w ms j) (dp:=fun g (s:Bool)=>ae (ae (ae (g) 1 (.pointer (bs.1))) 3 (.int .i64 (eF))) 65 (.bool (s))) [18,19,20,21,22,23,24,25] [26,27,28,29,30,31,32,33,34] ?_ ?_
         ·rintro rz g eo h
          unfold zj at h
          refine y rfl<|n8 (bp:=Bool) (eV:=fun (s:Bool) w=>zk eF s w ms j) (dp:=fun g (s:Bool)=>ae (ae (ae (g) 1 (.pointer (bs.1))) 3 (.int .i64 (eF))) 74 (.bool (s))) [27,28,29,30,31,32,33,34] [] ?_ ?_
          ·rintro aeY g eh h
           unfold zk at h
           refine bc<|fB h rfl (fun _ h=>?_) fun _ h=>?_
           ·refine wp_seq<|bq _ rfl<|y rfl<|bc<|wp_ret ?_
            exact lZ h rfl rfl
           ·refine wp_skip<|bq _ rfl<|y rfl<|a2 _ rfl rfl rfl (pf rfl rfl rfl)<|y rfl<|bc ?_
            exact⟨((IntKind.i64.wrap (eF+(1:Int)))),_,arr (aP (aP rfl rfl) rfl),h⟩
          ·refine jb (l:=rz) h (fun sM h=>?_) (fun sM h=>?_)
           ·refine dl (d:=(some 67)) rfl (.az 26 false 66 rz rfl rfl rfl sM) rfl<|dl (d:=(some 68)) rfl (.az 26 false 66 rz rfl rfl rfl sM) rfl<|dl (d:=(some 69)) rfl (.az 26 false 66 rz rfl rfl rfl sM) rfl<|dl (d:=(some 70)) rfl (.undef 29 true 69 rfl rfl rfl) rfl<|dl (d:=(some 71)) rfl (.undef 29 true 69 rfl rfl rfl) rfl<|dl (d:=(some 72)) rfl (.undef 29 true 69 rfl rfl rfl) rfl<|dl (d:=(some 73)) rfl (.az 26 false 66 rz rfl rfl rfl sM) rfl<|a2 74 rfl rfl rfl (hX (v:=.bool (true)) (l:=rz) rfl rfl sM rfl)<|bc ?_
            exact⟨(true),_,arr (aP (aP (aP rfl rfl) rfl) rfl),h⟩
           ·refine eP (d:=(some 67)) rfl (.az 26 false 66 rz rfl rfl rfl sM) rfl (cQ (v:=.int .i64 (eF)) rfl rfl)<|eP (d:=(some 68)) rfl (.az 26 false 66 rz rfl rfl rfl sM) rfl (iH (a:=eF) (l:=(1:Int)) rfl rfl rfl)<|eP (d:=(some 69)) rfl (.az 26 false 66 rz rfl rfl rfl sM) rfl (cQ (v:=.bool ((eF==(1:Int)))) rfl rfl)<|jb (l:=(eF==(1:Int))) h (fun xY h=>?_) (fun xY h=>?_)
            ·refine eP (d:=(some 70)) rfl (.az 29 true 69 (eF==(1:Int)) rfl rfl rfl xY) rfl (cQ (v:=.pointer (bs.1)) rfl rfl)<|en rfl (.az 29 true 69 (eF==(1:Int)) rfl rfl rfl xY) (gR (d:=(some 71)) rfl (fR (k:=35) (m:=[.pointer (bs.1),.int .i64 ((1:Int))]) rfl Jx rfl) h ?_)
             intro dP fW h
             refine eP (d:=(some 72)) rfl (.az 29 true 69 (eF==(1:Int)) rfl rfl rfl xY) rfl (hc (a:=dP) (l:=(0:Int)) rfl rfl rfl)<|eP (d:=(some 73)) rfl (.az 26 false 66 rz rfl rfl rfl sM) rfl (hX (v:=.bool ((dP != (0:Int)))) (l:=(eF==(1:Int))) rfl rfl xY rfl)<|a2 74 rfl rfl rfl (iS (v:=.bool ((dP != (0:Int)))) (l:=rz) rfl rfl sM rfl)<|bc ?_
             exact⟨((dP != (0:Int))),_,arr (aP (aP (aP rfl rfl) rfl) rfl),h⟩
            ·refine dl (d:=(some 70)) rfl (.az 29 true 69 (eF==(1:Int)) rfl rfl rfl xY) rfl<|dl (d:=(some 71)) rfl (.az 29 true 69 (eF==(1:Int)) rfl rfl rfl xY) rfl<|dl (d:=(some 72)) rfl (.az 29 true 69 (eF==(1:Int)) rfl rfl rfl xY) rfl<|eP (d:=(some 73)) rfl (.az 26 false 66 rz rfl rfl rfl sM) rfl (iS (v:=.bool (false)) (l:=(eF==(1:Int))) rfl rfl xY rfl)<|a2 74 rfl rfl rfl (iS (v:=.bool (false)) (l:=rz) rfl rfl sM rfl)<|bc ?_
             exact⟨(false),_,arr (aP (aP (aP rfl rfl) rfl) rfl),h⟩
         ·refine jb (l:=pj) h (fun sN h=>?_) (fun sN h=>?_)
          ·refine dl (d:=(some 58)) rfl (.az 17 false 57 pj rfl rfl rfl sN) rfl<|dl (d:=(some 59)) rfl (.az 17 false 57 pj rfl rfl rfl sN) rfl<|dl (d:=(some 60)) rfl (.az 17 false 57 pj rfl rfl rfl sN) rfl<|dl (d:=(some 61)) rfl (.undef 20 true 60 rfl rfl rfl) rfl<|dl (d:=(some 62)) rfl (.undef 20 true 60 rfl rfl rfl) rfl<|dl (d:=(some 63)) rfl (.undef 20 true 60 rfl rfl rfl) rfl<|dl (d:=(some 64)) rfl (.az 17 false 57 pj rfl rfl rfl sN) rfl<|a2 65 rfl rfl rfl (hX (v:=.bool (true)) (l:=pj) rfl rfl sN rfl)<|bc ?_
           exact⟨(true),_,arr (aP (aP (aP rfl rfl) rfl) rfl),h⟩
          ·refine eP (d:=(some 58)) rfl (.az 17 false 57 pj rfl rfl rfl sN) rfl (cQ (v:=.int .i64 (eF)) rfl rfl)<|eP (d:=(some 59)) rfl (.az 17 false 57 pj rfl rfl rfl sN) rfl (iH (a:=eF) (l:=(0:Int)) rfl rfl rfl)<|eP (d:=(some 60)) rfl (.az 17 false 57 pj rfl rfl rfl sN) rfl (cQ (v:=.bool ((eF==(0:Int)))) rfl rfl)<|jb (l:=(eF==(0:Int))) h (fun xZ h=>?_) (fun xZ h=>?_)
           ·refine eP (d:=(some 61)) rfl (.az 20 true 60 (eF==(0:Int)) rfl rfl rfl xZ) rfl (cQ (v:=.pointer (bs.1)) rfl rfl)<|en rfl (.az 20 true 60 (eF==(0:Int)) rfl rfl rfl xZ) (gR (d:=(some 62)) rfl (fR (k:=35) (m:=[.pointer (bs.1),.int .i64 ((1:Int))]) rfl Jx rfl) h ?_)
            intro sg h3 h
            refine eP (d:=(some 63)) rfl (.az 20 true 60 (eF==(0:Int)) rfl rfl rfl xZ) rfl (hc (a:=sg) (l:=(0:Int)) rfl rfl rfl)<|eP (d:=(some 64)) rfl (.az 17 false 57 pj rfl rfl rfl sN) rfl (hX (v:=.bool ((sg != (0:Int)))) (l:=(eF==(0:Int))) rfl rfl xZ rfl)<|a2 65 rfl rfl rfl (iS (v:=.bool ((sg != (0:Int)))) (l:=pj) rfl rfl sN rfl)<|bc ?_
            exact⟨((sg != (0:Int))),_,arr (aP (aP (aP rfl rfl) rfl) rfl),h⟩
           ·refine dl (d:=(some 61)) rfl (.az 20 true 60 (eF==(0:Int)) rfl rfl rfl xZ) rfl<|dl (d:=(some 62)) rfl (.az 20 true 60 (eF==(0:Int)) rfl rfl rfl xZ) rfl<|dl (d:=(some 63)) rfl (.az 20 true 60 (eF==(0:Int)) rfl rfl rfl xZ) rfl<|eP (d:=(some 64)) rfl (.az 17 false 57 pj rfl rfl rfl sN) rfl (iS (v:=.bool (false)) (l:=(eF==(0:Int))) rfl rfl xZ rfl)<|a2 65 rfl rfl rfl (iS (v:=.bool (false)) (l:=pj) rfl rfl sN rfl)<|bc ?_
            exact⟨(false),_,arr (aP (aP (aP rfl rfl) rfl) rfl),h⟩
        ·refine jb (l:=lV) h (fun lJ h=>?_) (fun lJ h=>?_)
         ·refine dl (d:=(some 49)) rfl (.az 8 false 48 lV rfl rfl rfl lJ) rfl<|dl (d:=(some 50)) rfl (.az 8 false 48 lV rfl rfl rfl lJ) rfl<|dl (d:=(some 51)) rfl (.az 8 false 48 lV rfl rfl rfl lJ) rfl<|dl (d:=(some 52)) rfl (.undef 11 true 51 rfl rfl rfl) rfl<|dl (d:=(some 53)) rfl (.undef 11 true 51 rfl rfl rfl) rfl<|dl (d:=(some 54)) rfl (.undef 11 true 51 rfl rfl rfl) rfl<|dl (d:=(some 55)) rfl (.az 8 false 48 lV rfl rfl rfl lJ) rfl<|a2 56 rfl rfl rfl (hX (v:=.bool (true)) (l:=lV) rfl rfl lJ rfl)<|bc ?_
          exact⟨(true),_,arr (aP (aP (aP rfl rfl) rfl) rfl),h⟩
         ·refine eP (d:=(some 49)) rfl (.az 8 false 48 lV rfl rfl rfl lJ) rfl (cQ (v:=.int .i64 (eF)) rfl rfl)<|eP (d:=(some 50)) rfl (.az 8 false 48 lV rfl rfl rfl lJ) rfl (iH (a:=eF) (l:=(0:Int)) rfl rfl rfl)<|eP (d:=(some 51)) rfl (.az 8 false 48 lV rfl rfl rfl lJ) rfl (cQ (v:=.bool ((eF==(0:Int)))) rfl rfl)<|jb (l:=(eF==(0:Int))) h (fun x0 h=>?_) (fun x0 h=>?_)
          ·refine eP (d:=(some 52)) rfl (.az 11 true 51 (eF==(0:Int)) rfl rfl rfl x0) rfl (cQ (v:=.pointer (bs.1)) rfl rfl)<|en rfl (.az 11 true 51 (eF==(0:Int)) rfl rfl rfl x0) (gR (d:=(some 53)) rfl (fR (k:=35) (m:=[.pointer (bs.1),.int .i64 ((0:Int))]) rfl Jx rfl) h ?_)
           intro qo jd h
           refine eP (d:=(some 54)) rfl (.az 11 true 51 (eF==(0:Int)) rfl rfl rfl x0) rfl (hc (a:=qo) (l:=(0:Int)) rfl rfl rfl)<|eP (d:=(some 55)) rfl (.az 8 false 48 lV rfl rfl rfl lJ) rfl (hX (v:=.bool ((qo != (0:Int)))) (l:=(eF==(0:Int))) rfl rfl x0 rfl)<|a2 56 rfl rfl rfl (iS (v:=.bool ((qo != (0:Int)))) (l:=lV) rfl rfl lJ rfl)<|bc ?_
           exact⟨((qo != (0:Int))),_,arr (aP (aP (aP rfl rfl) rfl) rfl),h⟩
          ·refine dl (d:=(some 52)) rfl (.az 11 true 51 (eF==(0:Int)) rfl rfl rfl x0) rfl<|dl (d:=(some 53)) rfl (.az 11 true 51 (eF==(0:Int)) rfl rfl rfl x0) rfl<|dl (d:=(some 54)) rfl (.az 11 true 51 (eF==(0:Int)) rfl rfl rfl x0) rfl<|eP (d:=(some 55)) rfl (.az 8 false 48 lV rfl rfl rfl lJ) rfl (iS (v:=.bool (false)) (l:=(eF==(0:Int))) rfl rfl x0 rfl)<|a2 56 rfl rfl rfl (iS (v:=.bool (false)) (l:=lV) rfl rfl lJ rfl)<|bc ?_
           exact⟨(false),_,arr (aP (aP (aP rfl rfl) rfl) rfl),h⟩
       ·refine jb (l:=(hf != (0:Int))) h (fun x2 h=>?_) (fun x2 h=>?_)
        ·refine dl (d:=(some 44)) rfl (.az 3 false 43 (hf != (0:Int)) rfl rfl rfl x2) rfl<|dl (d:=(some 45)) rfl (.az 3 false 43 (hf != (0:Int)) rfl rfl rfl x2) rfl<|dl (d:=(some 46)) rfl (.az 3 false 43 (hf != (0:Int)) rfl rfl rfl x2) rfl<|a2 47 rfl rfl rfl (hX (v:=.bool (true)) (l:=(hf != (0:Int))) rfl rfl x2 rfl)<|bc ?_
         exact⟨(true),_,arr (aP (aP (aP rfl rfl) rfl) rfl),h⟩
        ·refine eP (d:=(some 44)) rfl (.az 3 false 43 (hf != (0:Int)) rfl rfl rfl x2) rfl (cQ (v:=.pointer (bs.1)) rfl rfl)<|en rfl (.az 3 false 43 (hf != (0:Int)) rfl rfl rfl x2) (gR (d:=(some 45)) rfl (fR (k:=36) (m:=[.pointer (bs.1),.int .i64 ((0:Int))]) rfl YI rfl) h ?_)
         intro qp ml h
         refine eP (d:=(some 46)) rfl (.az 3 false 43 (hf != (0:Int)) rfl rfl rfl x2) rfl (hc (a:=qp) (l:=(0:Int)) rfl rfl rfl)<|a2 47 rfl rfl rfl (iS (v:=.bool ((qp != (0:Int)))) (l:=(hf != (0:Int))) rfl rfl x2 rfl)<|bc ?_
         exact⟨((qp != (0:Int))),_,arr (aP (aP (aP rfl rfl) rfl) rfl),h⟩
      ·refine wp_exit<|wp_seq<|wp_seq<|bq _ rfl<|y rfl<|ft YL rfl rfl h fun nD kL h=>a2 _ rfl rfl rfl (hc rfl rfl rfl)<|y rfl<|n8 (bp:=Bool) (eV:=fun (s:Bool) w=>Ft bs s w j) (dp:=fun g (s:Bool)=>ae (ae (g) 1 (.pointer (bs.1))) 83 (.bool (s))) [4,5,6,7,8] [9,10,11,12,13,14,15,16,17,18] ?_ ?_
       ·rintro vH g kM h
        unfold Ft at h
        refine y rfl<|n8 (bp:=Bool) (eV:=fun (s:Bool) w=>Fu bs s w j) (dp:=fun g (s:Bool)=>ae (ae (g) 1 (.pointer (bs.1))) 88 (.bool (s))) [10,11,12,13] [14,15,16,17,18] ?_ ?_
        ·rintro vI g ob h
         unfold Fu at h
         refine y rfl<|n8 (bp:=Bool) (eV:=fun (s:Bool) w=>Fv bs s w j) (dp:=fun g (s:Bool)=>ae (ae (g) 1 (.pointer (bs.1))) 93 (.bool (s))) [15,16,17,18] [] ?_ ?_
         ·rintro ae1 g w_ h
          unfold Fv at h
          refine bc<|fB h rfl (fun _ h=>?_) fun _ h=>?_
          ·refine wp_seq<|bq _ rfl<|y rfl<|bc<|wp_ret ?_
           exact lZ h rfl rfl
          ·refine wp_skip<|wp_seq<|bq _ rfl<|y rfl<|y rfl<|bc<|wp_ret ?_
           exact lZ h rfl rfl
         ·refine jb (l:=vI) h (fun x5 h=>?_) (fun x5 h=>?_)
          ·refine dl (d:=(some 90)) rfl (.az 14 false 89 vI rfl rfl rfl x5) rfl<|dl (d:=(some 91)) rfl (.az 14 false 89 vI rfl rfl rfl x5) rfl<|dl (d:=(some 92)) rfl (.az 14 false 89 vI rfl rfl rfl x5) rfl<|a2 93 rfl rfl rfl (hX (v:=.bool (true)) (l:=vI) rfl rfl x5 rfl)<|bc ?_
           exact⟨(true),_,arr (aP (aP rfl rfl) rfl),h⟩
          ·refine eP (d:=(some 90)) rfl (.az 14 false 89 vI rfl rfl rfl x5) rfl (cQ (v:=.pointer (bs.1)) rfl rfl)<|en rfl (.az 14 false 89 vI rfl rfl rfl x5) (gR (d:=(some 91)) rfl (fR (k:=49) (m:=[.pointer (bs.1),.int .i64 ((1:Int))]) rfl YL rfl) h ?_)
           intro mg qD h
           refine eP (d:=(some 92)) rfl (.az 14 false 89 vI rfl rfl rfl x5) rfl (hc (a:=mg) (l:=(0:Int)) rfl rfl rfl)<|a2 93 rfl rfl rfl (iS (v:=.bool ((mg != (0:Int)))) (l:=vI) rfl rfl x5 rfl)<|bc ?_
           exact⟨((mg != (0:Int))),_,arr (aP (aP rfl rfl) rfl),h⟩
        ·refine jb (l:=vH) h (fun x6 h=>?_) (fun x6 h=>?_)
         ·refine dl (d:=(some 85)) rfl (.az 9 false 84 vH rfl rfl rfl x6) rfl<|dl (d:=(some 86)) rfl (.az 9 false 84 vH rfl rfl rfl x6) rfl<|dl (d:=(some 87)) rfl (.az 9 false 84 vH rfl rfl rfl x6) rfl<|a2 88 rfl rfl rfl (hX (v:=.bool (true)) (l:=vH) rfl rfl x6 rfl)<|bc ?_
          exact⟨(true),_,arr (aP (aP rfl rfl) rfl),h⟩
         ·refine eP (d:=(some 85)) rfl (.az 9 false 84 vH rfl rfl rfl x6) rfl (cQ (v:=.pointer (bs.1)) rfl rfl)<|en rfl (.az 9 false 84 vH rfl rfl rfl x6) (gR (d:=(some 86)) rfl (fR (k:=43) (m:=[.pointer (bs.1),.int .i64 ((20:Int)),X.enc ((⟨none,0,0⟩:af))]) rfl ane rfl) h ?_)
          intro qs AD h
          refine eP (d:=(some 87)) rfl (.az 9 false 84 vH rfl rfl rfl x6) rfl (hc (a:=qs) (l:=(0:Int)) rfl rfl rfl)<|a2 88 rfl rfl rfl (iS (v:=.bool ((qs != (0:Int)))) (l:=vH) rfl rfl x6 rfl)<|bc ?_
          exact⟨((qs != (0:Int))),_,arr (aP (aP rfl rfl) rfl),h⟩
       ·refine jb (l:=(nD != (0:Int))) h (fun ko h=>?_) (fun ko h=>?_)
        ·refine dl (d:=(some 79)) rfl (.az 3 false 78 (nD != (0:Int)) rfl rfl rfl ko) rfl<|dl (d:=(some 80)) rfl (.az 3 false 78 (nD != (0:Int)) rfl rfl rfl ko) rfl<|dl (d:=(some 81)) rfl (.az 3 false 78 (nD != (0:Int)) rfl rfl rfl ko) rfl<|dl (d:=(some 82)) rfl (.az 3 false 78 (nD != (0:Int)) rfl rfl rfl ko) rfl<|a2 83 rfl rfl rfl (hX (v:=.bool (true)) (l:=(nD != (0:Int))) rfl rfl ko rfl)<|bc ?_
         exact⟨(true),_,arr (aP (aP rfl rfl) rfl),h⟩
        ·refine eP (d:=(some 79)) rfl (.az 3 false 78 (nD != (0:Int)) rfl rfl rfl ko) rfl (cQ (v:=.pointer (bs.1)) rfl rfl)<|en rfl (.az 3 false 78 (nD != (0:Int)) rfl rfl rfl ko) (gR (d:=(some 80)) rfl (fR (k:=15) (m:=[.pointer (bs.1)]) rfl DH rfl) h ?_)
         intro Cr qE h
         refine eP (d:=(some 81)) rfl (.az 3 false 78 (nD != (0:Int)) rfl rfl rfl ko) rfl (jV (s:=Cr) rfl Tryz.underlying50 rfl)<|eP (d:=(some 82)) rfl (.az 3 false 78 (nD != (0:Int)) rfl rfl rfl ko) rfl (hc (a:=(Cr.len:Int)) (l:=(0:Int)) rfl rfl rfl)<|a2 83 rfl rfl rfl (iS (v:=.bool (((Cr.len:Int)!=(0:Int)))) (l:=(nD != (0:Int))) rfl rfl ko rfl)<|bc ?_
         exact⟨(((Cr.len:Int)!=(0:Int))),_,arr (aP (aP rfl rfl) rfl),h⟩
    ·refine jb (l:=oJ) h (fun x7 h=>?_) (fun x7 h=>?_)
     ·refine dl (d:=(some 32)) rfl (.az 22 false 31 oJ rfl rfl rfl x7) rfl<|dl (d:=(some 33)) rfl (.az 22 false 31 oJ rfl rfl rfl x7) rfl<|dl (d:=(some 34)) rfl (.az 22 false 31 oJ rfl rfl rfl x7) rfl<|a2 35 rfl rfl rfl (hX (v:=.bool (true)) (l:=oJ) rfl rfl x7 rfl)<|bc ?_
      exact⟨(true),_,arr (aP (aP rfl rfl) rfl),h⟩
     ·refine eP (d:=(some 32)) rfl (.az 22 false 31 oJ rfl rfl rfl x7) rfl (cQ (v:=.pointer (bs.1)) rfl rfl)<|en rfl (.az 22 false 31 oJ rfl rfl rfl x7) (gR (d:=(some 33)) rfl (fR (k:=35) (m:=[.pointer (bs.1),.int .i64 ((1:Int))]) rfl Jx rfl) h ?_)
      intro dq AE h
      refine eP (d:=(some 34)) rfl (.az 22 false 31 oJ rfl rfl rfl x7) rfl (hc (a:=dq) (l:=(0:Int)) rfl rfl rfl)<|a2 35 rfl rfl rfl (iS (v:=.bool ((dq != (0:Int)))) (l:=oJ) rfl rfl x7 rfl)<|bc ?_
      exact⟨((dq != (0:Int))),_,arr (aP (aP rfl rfl) rfl),h⟩
   ·refine jb (l:=lW) h (fun u0 h=>?_) (fun u0 h=>?_)
    ·refine dl (d:=(some 26)) rfl (.az 16 false 25 lW rfl rfl rfl u0) rfl<|dl (d:=(some 27)) rfl (.az 16 false 25 lW rfl rfl rfl u0) rfl<|dl (d:=(some 28)) rfl (.az 16 false 25 lW rfl rfl rfl u0) rfl<|dl (d:=(some 29)) rfl (.az 16 false 25 lW rfl rfl rfl u0) rfl<|a2 30 rfl rfl rfl (hX (v:=.bool (true)) (l:=lW) rfl rfl u0 rfl)<|bc ?_
     exact⟨(true),_,arr (aP (aP rfl rfl) rfl),h⟩
    ·refine eP (d:=(some 26)) rfl (.az 16 false 25 lW rfl rfl rfl u0) rfl (cQ (v:=.pointer (bs.1)) rfl rfl)<|eP (d:=(some 27)) rfl (.az 16 false 25 lW rfl rfl rfl u0) rfl (RO (a_:=(1:Int)) (bM:=(0:Int)) (dV:=(1:Int)) (fS:=(40:Int)) rfl rfl rfl rfl rfl)<|en rfl (.az 16 false 25 lW rfl rfl rfl u0) (gR (d:=(some 28)) rfl (fR (k:=45) (m:=[.pointer (bs.1),gh.enc ((⟨(1:Int),(0:Int),(1:Int),(40:Int)⟩:mx))]) rfl anf rfl) h ?_)
     intro HW xc h
     refine eP (d:=(some 29)) rfl (.az 16 false 25 lW rfl rfl rfl u0) rfl (hc (a:=HW) (l:=(0:Int)) rfl rfl rfl)<|a2 30 rfl rfl rfl (iS (v:=.bool ((HW != (0:Int)))) (l:=lW) rfl rfl u0 rfl)<|bc ?_
     exact⟨((HW != (0:Int))),_,arr (aP (aP rfl rfl) rfl),h⟩
  ·refine jb (l:=bR) h (fun x8 h=>?_) (fun x8 h=>?_)
   ·refine dl (d:=(some 21)) rfl (.az 11 false 20 bR rfl rfl rfl x8) rfl<|dl (d:=(some 22)) rfl (.az 11 false 20 bR rfl rfl rfl x8) rfl<|dl (d:=(some 23)) rfl (.az 11 false 20 bR rfl rfl rfl x8) rfl<|a2 24 rfl rfl rfl (hX (v:=.bool (true)) (l:=bR) rfl rfl x8 rfl)<|bc ?_
    exact⟨(true),_,arr (aP (aP rfl rfl) rfl),h⟩
   ·refine eP (d:=(some 21)) rfl (.az 11 false 20 bR rfl rfl rfl x8) rfl (cQ (v:=.pointer (bs.1)) rfl rfl)<|en rfl (.az 11 false 20 bR rfl rfl rfl x8) (gR (d:=(some 22)) rfl (fR (k:=44) (m:=[.pointer (bs.1),.int .i64 ((1:Int)),.int .i64 ((0:Int))]) rfl YK rfl) h ?_)
    intro HX AF h
    refine eP (d:=(some 23)) rfl (.az 11 false 20 bR rfl rfl rfl x8) rfl (hc (a:=HX) (l:=(0:Int)) rfl rfl rfl)<|a2 24 rfl rfl rfl (iS (v:=.bool ((HX != (0:Int)))) (l:=bR) rfl rfl x8 rfl)<|bc ?_
    exact⟨((HX != (0:Int))),_,arr (aP (aP rfl rfl) rfl),h⟩
 ·refine jb (l:=((bs.2 != (0:Int))||bs.1.isNone)) h (fun x9 h=>?_) (fun x9 h=>?_)
  ·refine dl (d:=(some 16)) rfl (.az 6 false 15 ((bs.2 != (0:Int))||bs.1.isNone) rfl rfl rfl x9) rfl<|dl (d:=(some 17)) rfl (.az 6 false 15 ((bs.2 != (0:Int))||bs.1.isNone) rfl rfl rfl x9) rfl<|dl (d:=(some 18)) rfl (.az 6 false 15 ((bs.2 != (0:Int))||bs.1.isNone) rfl rfl rfl x9) rfl<|a2 19 rfl rfl rfl (hX (v:=.bool (true)) (l:=((bs.2 != (0:Int))||bs.1.isNone)) rfl rfl x9 rfl)<|bc ?_
   exact⟨(true),_,arr (aP (aP rfl rfl) rfl),h⟩
  ·refine eP (d:=(some 16)) rfl (.az 6 false 15 ((bs.2 != (0:Int))||bs.1.isNone) rfl rfl rfl x9) rfl (cQ (v:=.pointer (bs.1)) rfl rfl)<|en rfl (.az 6 false 15 ((bs.2 != (0:Int))||bs.1.isNone) rfl rfl rfl x9) (gR (d:=(some 17)) rfl (fR (k:=44) (m:=[.pointer (bs.1),.int .i64 ((0:Int)),.int .i64 ((100:Int))]) rfl YK rfl) h ?_)
   intro HY Iq h
   refine eP (d:=(some 18)) rfl (.az 6 false 15 ((bs.2 != (0:Int))||bs.1.isNone) rfl rfl rfl x9) rfl (hc (a:=HY) (l:=(0:Int)) rfl rfl rfl)<|a2 19 rfl rfl rfl (iS (v:=.bool ((HY != (0:Int)))) (l:=((bs.2 != (0:Int))||bs.1.isNone)) rfl rfl x9 rfl)<|bc ?_
   exact⟨((HY != (0:Int))),_,arr (aP (aP rfl rfl) rfl),h⟩
end bb
end Go.Proofs.YthaobmpdjcoheaaGreat
