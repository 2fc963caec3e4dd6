/- Own texts of this claim, part 10: short, merged. -/
import Derived.Test.YthaobmpdjcoheaaGreatZ1
set_option maxRecDepth 100000
set_option maxHeartbeats 40000000
set_option linter.defProp false
set_option linter.unusedVariables false
set_option linter.unusedSimpArgs false
namespace Go.Proofs.YthaobmpdjcoheaaGreat
namespace bb
def tm(pM:Int)(ae2:Bool)(xc:World)(tq:Int→World→Prop)(j:Bool→World→Prop):Prop:=if ae2=true then (j false xc) else (tq ((IntKind.i64.wrap (pM+(1:Int)))) xc)
def No(a3:Addr)(ca:(aL×Int×Bool))(et:(aL×Int×Bool))(pM:Int)(qE:World)(tq:Int→World→Prop)(j:Bool→World→Prop):Prop:=ex (L (B .i64) (a3.add 0) qE) fun afP=>if (decide (pM<afP))=true then (M Pg 9 [.pointer (ca.1),.int .i64 (pM)] aE qE fun c0 xa=>M Pg 9 [.pointer (et.1),.int .i64 (pM)] aE xa fun dq AE=>if (!(c0.isNone==dq.isNone))=true then (j false AE) else (de AE fun CE=>if ((!c0.isNone)&&(!dq.isNone))=true then (ex (bC c0) fun iM=>ex (bC dq) fun iN=>ex (L ds (iM.add 0) CE) fun pp=>ex (L ds (iN.add 0) CE) fun pq=>M Pg 20 [ds.enc (pp)] (B .i64) CE fun pT Ir=>bw ((L ds (iN.add 0) Ir) pq)<|M Pg 20 [ds.enc (pq)] (B .i64) Ir fun pU CF=>bw ((L ds (iM.add 0) CF) pp)<|if (pT != pU)=true then (if true=true then (tm pM true CF tq j) else (ex (L ds (iM.add 0) CF) fun AJ=>ex (L ds (iN.add 0) CF) fun AK=>M Pg 22 [ds.enc (AJ)] (B .i64) CF fun m7 CG=>bw ((L ds (iM.add 0) CG) pp)<|bw ((L ds (iN.add 0) CG) pq)<|bw ((L ds (iN.add 0) CG) AK)<|M Pg 22 [ds.enc (AK)] (B .i64) CG fun m8 EZ=>bw ((L ds (iM.add 0) EZ) pp)<|bw ((L ds (iN.add 0) EZ) pq)<|bw ((L ds (iM.add 0) EZ) AJ)<|if (m7 != m8)=true then (tm pM true EZ tq j) else (M Pg 23 [.pointer (c0)] X EZ fun Cs E0=>bw ((L ds (iM.add 0) E0) pp)<|bw ((L ds (iN.add 0) E0) pq)<|bw ((L ds (iM.add 0) E0) AJ)<|bw ((L ds (iN.add 0) E0) AK)<|M Pg 23 [.pointer (dq)] X E0 fun Cl E1=>bw ((L ds (iM.add 0) E1) pp)<|bw ((L ds (iN.add 0) E1) pq)<|bw ((L ds (iM.add 0) E1) AJ)<|bw ((L ds (iN.add 0) E1) AK)<|tm pM ((Cs.len:Int)!=(Cl.len:Int)) E1 tq j))) else (M Pg 21 [.pointer (c0)] (B .i64) CF fun j_ LZ=>bw ((L ds (iM.add 0) LZ) pp)<|bw ((L ds (iN.add 0) LZ) pq)<|M Pg 21 [.pointer (dq)] (B .i64) LZ fun ka AB=>bw ((L ds (iM.add 0) AB) pp)<|bw ((L ds (iN.add 0) AB) pq)<|if (j_ != ka)=true then (if true=true then (tm pM true AB tq j) else (M Pg 23 [.pointer (c0)] X AB fun Cm L0=>bw ((L ds (iM.add 0) L0) pp)<|bw ((L ds (iN.add 0) L0) pq)<|M Pg 23 [.pointer (dq)] X L0 fun Cn L1=>bw ((L ds (iM.add 0) L1) pp)<|bw ((L ds (iN.add 0) L1) pq)<|tm pM ((Cm.len:Int)!=(Cn.len:Int)) L1 tq j)) else (ex (L ds (iM.add 0) AB) fun AG=>ex (L ds (iN.add 0) AB) fun AH=>M Pg 22 [ds.enc (AG)] (B .i64) AB fun m4 Ip=>bw ((L ds (iM.add 0) Ip) pp)<|bw ((L ds (iN.add 0) Ip) pq)<|bw ((L ds (iN.add 0) Ip) AH)<|M Pg 22 [ds.enc (AH)] (B .i64) Ip fun m5 EW=>bw ((L ds (iM.add 0) EW) pp)<|bw ((L ds (iN.add 0) EW) pq)<|bw ((L ds (iM.add 0) EW) AG)<|if (m4 != m5)=true then (tm pM true EW tq j) else (M Pg 23 [.pointer (c0)] X EW fun Co EX=>bw ((L ds (iM.add 0) EX) pp)<|bw ((L ds (iN.add 0) EX) pq)<|bw ((L ds (iM.add 0) EX) AG)<|bw ((L ds (iN.add 0) EX) AH)<|M Pg 23 [.pointer (dq)] X EX fun Cp EY=>bw ((L ds (iM.add 0) EY) pp)<|bw ((L ds (iN.add 0) EY) pq)<|bw ((L ds (iM.add 0) EY) AG)<|bw ((L ds (iN.add 0) EY) AH)<|tm pM ((Co.len:Int)!=(Cp.len:Int)) EY tq j)))) else (tm pM false CE tq j))) else (j true qE)
def Nn(cY:af)(a3:Addr)(ca:(aL×Int×Bool))(et:(aL×Int×Bool))(vd:Int)(ut:World)(W1:Int→World→Prop)(j:Bool→World→Prop):Prop:=if ((decide (vd<(cY.len:Int)))&&(decide (vd<(60:Int))))=true then (ex (cD cY 10 vd) fun v_=>ex (L (B .i64) ((v_.add 4).add 0) ut) fun oP=>M Pg 16 [.pointer (ca.1),.int .i64 (oP)] (bo (B .i64) (B .i64)) ut fun Ao pZ=>ex (cD cY 10 vd) fun Xh=>ex (L (B .i64) ((Xh.add 4).add 0) pZ) fun It=>M Pg 16 [.pointer (et.1),.int .i64 (It)] (bo (B .i64) (B .i64)) pZ fun EK vQ=>if ((Ao.1 != EK.1)||(Ao.2 != EK.2))=true then (j false vQ) else (W1 ((IntKind.i64.wrap (vd+(1:Int)))) vQ)) else (eZ (fun (s:Int) w aa=>No a3 ca et s w aa j) ((0:Int)) ut)
def Nm(cY:af)(a3:Addr)(ca:(aL×Int×Bool))(et:(aL×Int×Bool))(gP:af)(fJ:af)(wD:Int)(jd:World)(WZ:Int→World→Prop)(j:Bool→World→Prop):Prop:=if (decide (wD<(gP.len:Int)))=true then (de jd fun lr=>ex (cD gP 10 wD) fun xy=>ex (cD fJ 10 wD) fun oX=>ex (L ew xy lr) fun nM=>ex (L ew oX lr) fun qI=>if (!(gW.gZ nM qI))=true then (j false lr) else (WZ ((IntKind.i64.wrap (wD+(1:Int)))) lr)) else (eZ (fun (s:Int) w aa=>Nn cY a3 ca et s w aa j) ((0:Int)) jd)
def FJ(cY:af)(a3:Addr)(ca:(aL×Int×Bool))(et:(aL×Int×Bool))(gP:af)(fJ:af)(ae0:Bool)(is:World)(j:Bool→World→Prop):Prop:=if ae0=true then (j false is) else (eZ (fun (s:Int) w aa=>Nm cY a3 ca et gP fJ s w aa j) ((0:Int)) is)
def Nk(ld:kV)(cY:af)(xg:oi)(w:World)(j:Bool→World→Prop):Prop:=bG 24 g8 ld w fun a3 a7=>bG 35 hK xg a7 fun bP bN=>ex (L g8 a3 bN) fun cM=>M Pg 7 [g8.enc (cM),X.enc (cY)] (mj aE (B .i64) bf) bN fun ca bU=>ex (L g8 a3 bU) fun c2=>M Pg 7 [g8.enc (c2),X.enc (cY)] (mj aE (B .i64) bf) bU fun et cl=>M Pg 8 [] bf cl fun hf c1=>if (((!hf)||ca.1.isNone)||et.1.isNone)=true then (M Pg 8 [] bf c1 fun Cq dK=>j (Cq&&(ca.1.isNone==et.1.isNone)) dK) else (ex (L hK bP c1) fun dL=>M Pg 13 [hK.enc (dL)] hK c1 fun mE ed=>M Pg 14 [.pointer (ca.1),hK.enc (mE)] (B .i64) ed fun fI eo=>ex (fun x=>((!((fI==(0:Int))||((decide (fI≥(70:Int)))&&(decide (fI≤(81:Int))))))&&(fI==(203:Int)))=true→(L (B .i64) (bP.add 0) eo) x) fun nL=>if (((fI==(0:Int))||((decide (fI≥(70:Int)))&&(decide (fI≤(81:Int)))))||((fI==(203:Int))&&(nL==(4:Int))))=true then (j true eo) else (M Pg 18 [.pointer (ca.1)] X eo fun gP fK=>M Pg 18 [.pointer (et.1)] X fK fun fJ e2=>M Pg 19 [.pointer (ca.1)] (B .i64) e2 fun jW fX=>M Pg 19 [.pointer (et.1)] (B .i64) fX fun me gN=>if ((jW != me)||((gP.len:Int)!=(fJ.len:Int)))=true then (FJ cY a3 ca et gP fJ true gN j) else (M Pg 15 [.pointer (ca.1)] X gN fun R7 afD=>M Pg 15 [.pointer (et.1)] X afD fun R8 afE=>M Pg 17 [X.enc (R7),X.enc (R8)] bf afE fun HU afF=>FJ cY a3 ca et gP fJ (!HU) afF j)))
theorem aiY{ld:kV}{cY:af}{xg:oi}{w:World}{j:Bool→World→Prop}(h:Nk ld cY xg w j):M Pg 6 [g8.enc (ld),X.enc (cY),hK.enc (xg)] bf w j:=by
 unfold Nk at h
 refine q0 224 Tryz.func6 rfl rfl (Nat.le_of_ble_eq_true rfl)<|wp_seq<|bq _ rfl ?_
 obtain⟨a3,a7,GI,Ha,h⟩:=pR h
 refine a2 3 rfl rfl rfl (ue (u:=ld) rfl yK rfl GI Ha) ?_
 obtain⟨bP,bN,Pd,arB,h⟩:=pR h
 refine a2 5 rfl rfl rfl (ue (u:=xg) rfl Cb rfl Pd arB)<|y rfl<|bc<|wp_seq<|bq _ rfl<|hR yK h rfl rfl fun cM _ h=>y rfl<|ft OH rfl rfl h fun ca bU h=>y rfl<|gT _ _ rfl rfl rfl<|gT _ _ rfl rfl rfl<|gT _ _ rfl rfl rfl ?_
 refine y rfl<|y rfl<|y rfl<|bc<|wp_seq<|bq _ rfl<|hR yK h rfl rfl fun c2 _ h=>y rfl<|ft OH rfl rfl h fun et cl h=>y rfl<|gT _ _ rfl rfl rfl<|gT _ _ rfl rfl rfl ?_
 refine gT _ _ rfl rfl rfl<|y rfl<|y rfl<|y rfl<|bc<|wp_seq<|wp_seq<|bq _ rfl<|ft Jy rfl rfl h fun hf c1 h=>a2 _ rfl rfl rfl (ru rfl rfl)<|y rfl<|dY 42 2 41 rfl rfl rfl rfl rfl (fun R=>cQ (v:=.pointer (ca.1)) rfl rfl) ?_
 refine dY 43 2 41 rfl rfl rfl rfl rfl (fun R=>sd (a:=ca.1) rfl Tryz.underlying26 (da R) rfl)<|a2 44 rfl rfl rfl (mD rfl rfl rfl rfl)<|y rfl<|dY 46 6 45 rfl rfl rfl rfl rfl (fun R=>cQ (v:=.pointer (et.1)) rfl rfl)<|dY 47 6 45 rfl rfl rfl rfl rfl (fun R=>sd (a:=et.1) rfl Tryz.underlying26 (da R) rfl)<|a2 48 rfl rfl rfl (mD rfl rfl rfl rfl)<|bc<|fB h rfl (fun _ h=>?_) fun _ h=>?_
 ·refine wp_seq<|bq _ rfl<|ft Jy rfl rfl h fun Cq dK h=>y rfl<|fo 51 1 50 rfl rfl rfl rfl rfl (fun R=>cQ (v:=.pointer (ca.1)) rfl rfl)<|fo 52 1 50 rfl rfl rfl rfl rfl (fun R=>sd (a:=ca.1) rfl Tryz.underlying26 (da R) rfl)<|fo 53 1 50 rfl rfl rfl rfl rfl (fun R=>cQ (v:=.pointer (et.1)) rfl rfl)<|fo 54 1 50 rfl rfl rfl rfl rfl (fun R=>sd (a:=et.1) rfl Tryz.underlying26 (da R) rfl)<|fo 55 1 50 rfl rfl rfl rfl rfl (fun R=>RS (a:=ca.1.isNone) (l:=et.1.isNone) rfl Tryz.underlying4 (da R) (da R))<|a2 56 rfl rfl rfl (m3 rfl rfl rfl rfl)<|y rfl<|bc ?_
  refine wp_ret ?_
  exact lZ h rfl rfl
 ·refine wp_skip<|wp_seq<|bq _ rfl<|y rfl<|hR Cb h rfl rfl fun dL _ h=>ft YB rfl rfl h fun mE ed h=>ft YC rfl rfl h fun fI eo h=>y rfl<|bc<|wp_seq<|wp_seq<|bq _ rfl ?_
  refine y rfl<|a2 _ rfl rfl rfl (iH rfl rfl rfl)<|y rfl<|dY 64 2 63 rfl rfl rfl rfl rfl (fun R=>cQ (v:=.int .i64 (fI)) rfl rfl)<|dY 65 2 63 rfl rfl rfl rfl rfl (fun R=>HS (k:=.i64) (a:=fI) (l:=(70:Int)) rfl (da R) rfl)<|dY 66 2 63 rfl rfl rfl rfl rfl (fun R=>cQ (v:=.bool ((decide (fI≥(70:Int))))) rfl (da R))<|xU 67 5 66 rfl rfl rfl rfl rfl (fun R=>cQ (v:=.int .i64 (fI)) rfl rfl)<|xU 68 5 66 rfl rfl rfl rfl rfl (fun R=>Ld (k:=.i64) (a:=fI) (l:=(81:Int)) rfl (da R) rfl)<|dY 69 2 63 rfl rfl rfl rfl rfl (fun R=>HT (cO:=(!(fI==(0:Int)))) (a:=(decide (fI≥(70:Int)))) (l:=(decide (fI≤(81:Int)))) R rfl rfl rfl rfl)<|a2 70 rfl rfl rfl (mD rfl rfl rfl rfl)<|y rfl<|dY 72 10 71 rfl rfl rfl rfl rfl (fun R=>cQ (v:=.int .i64 (fI)) rfl rfl) ?_
  refine dY 73 10 71 rfl rfl rfl rfl rfl (fun R=>iH (k:=.i64) (a:=fI) (l:=(203:Int)) rfl (da R) rfl)<|dY 74 10 71 rfl rfl rfl rfl rfl (fun R=>cQ (v:=.bool ((fI==(203:Int)))) rfl (da R))<|xU 75 13 74 rfl rfl rfl rfl rfl (fun R=>lU (a:=bP) (off:=0) rfl Tryz.underlying35 rfl rfl dj (by decide) rfl) ?_
  obtain⟨nL,P9,h⟩:=h
  refine xU 76 13 74 rfl rfl rfl rfl rfl (fun R=>j9 (T:=(B .i64)) (u:=nL) (a:=(bP.add 0)) rfl dj (da R) (P9 R))<|xU 77 13 74 rfl rfl rfl rfl rfl (fun R=>iH (k:=.i64) (a:=nL) (l:=(4:Int)) rfl (da R) rfl)<|dY 78 10 71 rfl rfl rfl rfl rfl (fun R=>HT (cO:=(!((fI==(0:Int))||((decide (fI≥(70:Int)))&&(decide (fI≤(81:Int))))))) (a:=(fI==(203:Int))) (l:=(nL==(4:Int))) R rfl rfl rfl rfl)<|a2 79 rfl rfl rfl (mD rfl rfl rfl rfl)<|bc<|fB h rfl (fun _ h=>?_) fun _ h=>?_
  ·refine wp_seq<|bq _ rfl<|y rfl<|bc<|wp_ret ?_
   exact lZ h rfl rfl
  ·refine wp_skip<|wp_seq<|bq _ rfl<|y rfl<|ft OD rfl rfl h fun gP fK h=>y rfl<|ft OD rfl rfl h fun fJ e2 h=>y rfl<|y rfl<|bc<|wp_seq<|wp_seq ?_
   refine bq _ rfl<|y rfl<|ft OG rfl rfl h fun jW fX h=>y rfl<|ft OG rfl rfl h fun me gN h=>a2 _ rfl rfl rfl (hc rfl rfl rfl)<|y rfl<|dY 90 5 89 rfl rfl rfl rfl rfl (fun R=>cQ (v:=X.enc (gP)) rfl rfl)<|dY 91 5 89 rfl rfl rfl rfl rfl (fun R=>jV (s:=gP) rfl Tryz.underlying56 (da R))<|dY 92 5 89 rfl rfl rfl rfl rfl (fun R=>cQ (v:=X.enc (fJ)) rfl rfl)<|dY 93 5 89 rfl rfl rfl rfl rfl (fun R=>jV (s:=fJ) rfl Tryz.underlying56 (da R))<|dY 94 5 89 rfl rfl rfl rfl rfl (fun R=>hc (k:=.i64) (a:=(gP.len:Int)) (l:=(fJ.len:Int)) rfl (da R) (da R)) ?_
   refine a2 95 rfl rfl rfl (mD rfl rfl rfl rfl)<|y rfl<|n8 (bp:=Bool) (eV:=fun (s:Bool) w=>FJ cY a3 ca et gP fJ s w j) (dp:=fun g (s:Bool)=>ae (ae (ae (ae (ae (ae (ae (g) 1 (X.enc (cY))) 3 (.pointer (some a3))) 7 (.pointer (ca.1))) 10 (.pointer (et.1))) 14 (X.enc (gP))) 15 (X.enc (fJ))) 103 (.bool (s))) [13,14,15,16,17,18,19] [] ?_ ?_
   ·rintro ae0 g is h
    unfold FJ at h
    refine bc<|fB h rfl (fun _ h=>?_) fun _ h=>?_
    ·refine wp_seq<|bq _ rfl<|y rfl<|bc<|wp_ret ?_
     exact lZ h rfl rfl
    ·refine wp_skip<|wp_seq<|wp_seq<|bq _ rfl<|y rfl<|bc<|wp_block<|s0 (bp:=Int) (dp:=fun g (s:Int)=>ae (ae (ae (ae (ae (ae (ae (g) 1 (X.enc (cY))) 3 (.pointer (some a3))) 7 (.pointer (ca.1))) 10 (.pointer (et.1))) 14 (X.enc (gP))) 15 (X.enc (fJ))) 16 (.int .i64 (s))) (mi:=((0:Int))) (aP (aP (aP (aP (aP (aP (aP rfl rfl) rfl) rfl) rfl) rfl) rfl) rfl) h ?_
     rintro wD g jd WZ h
     unfold Nm at h
     refine wp_seq<|wp_seq<|bq _ rfl<|y rfl<|y rfl<|a2 _ rfl rfl rfl (jV rfl Tryz.underlying56 rfl)<|a2 _ rfl rfl rfl (ma rfl rfl rfl)<|bc<|fB h rfl (fun _ h=>?_) fun _ h=>?_
     ·refine wp_skip<|wp_seq<|wp_block<|wp_seq ?_
      obtain⟨lr,arq,h⟩:=ou h
      refine po 9 mixed rfl (by kernel_rfl) (by intro c a d v w h; cases d<;>exact h) arq (fun ak=>?_)
      refine gf 0 110 (X.enc (gP)) ak rfl rfl<|gf 1 111 (.int .i64 (wD)) ak rfl rfl ?_
      obtain⟨xy,GH,h⟩:=h
      refine fc 2 112 ak rfl rfl rfl (fun _=>ks (s:=gP) (k:=.i64) (i:=wD) rfl Tryz.underlying56 HI rfl rfl GH)<|gf 4 114 (X.enc (fJ)) ak rfl rfl<|gf 5 115 (.int .i64 (wD)) ak rfl rfl ?_
      obtain⟨oX,Pa,h⟩:=h
      refine fc 6 116 ak rfl rfl rfl (fun _=>ks (s:=fJ) (k:=.i64) (i:=wD) rfl Tryz.underlying56 HI rfl rfl Pa) ?_
      obtain⟨nM,Qb,h⟩:=h
      refine h7 3 113 Qb HI ak rfl rfl ?_
      obtain⟨qI,Qc,h⟩:=h
      refine h7 7 117 Qc HI ak rfl rfl<|fc 8 118 ak rfl rfl rfl (fun _=>Ck (r:=(gW.gZ nM qI)) rfl (Gv nM qI) rfl rfl)<|kH (by kernel_rfl)<|fB h rfl (fun _ h=>?_) fun _ h=>?_
      ·refine wp_seq<|bq _ rfl<|y rfl<|bc<|wp_ret ?_
       exact lZ h rfl rfl
      ·refine wp_skip<|bq _ rfl<|y rfl<|a2 _ rfl rfl rfl (pf rfl rfl rfl)<|y rfl<|bc ?_
       exact⟨((IntKind.i64.wrap (wD+(1:Int)))),_,arr (aP (aP (aP (aP (aP (aP (aP rfl rfl) rfl) rfl) rfl) rfl) rfl) rfl),h⟩
     ·refine wp_exit<|wp_seq<|wp_seq<|bq _ rfl<|y rfl<|bc<|wp_block<|s0 (bp:=Int) (dp:=fun g (s:Int)=>ae (ae (ae (ae (ae (g) 1 (X.enc (cY))) 3 (.pointer (some a3))) 7 (.pointer (ca.1))) 10 (.pointer (et.1))) 17 (.int .i64 (s))) (mi:=((0:Int))) (aP (aP (aP (aP (aP rfl rfl) rfl) rfl) rfl) rfl) h ?_
      rintro vd g ut W1 h
      unfold Nn at h
      refine wp_seq<|wp_seq<|bq _ rfl<|y rfl<|y rfl<|a2 _ rfl rfl rfl (jV rfl Tryz.underlying25 rfl)<|a2 _ rfl rfl rfl (ma rfl rfl rfl)<|y rfl<|fo 124 4 123 rfl rfl rfl rfl rfl (fun R=>cQ (v:=.int .i64 (vd)) rfl rfl)<|fo 125 4 123 rfl rfl rfl rfl rfl (fun R=>ma (k:=.i64) (a:=vd) (l:=(60:Int)) rfl (da R) rfl)<|a2 126 rfl rfl rfl (m3 rfl rfl rfl rfl)<|bc ?_
      refine fB h rfl (fun _ h=>?_) fun _ h=>?_
      ·refine wp_skip<|wp_seq<|wp_block<|wp_seq<|bq _ rfl<|y rfl<|y rfl<|y rfl ?_
       obtain⟨v_,Pc,h⟩:=h
       refine a2 133 rfl rfl rfl (ks (s:=cY) (k:=.i64) (i:=vd) rfl Tryz.underlying25 Cb rfl rfl Pc)<|ho _ _ _ Tryz.underlying35 HG rfl rfl rfl<|ho _ _ _ Tryz.underlying31 dj rfl rfl rfl<|hR dj h rfl rfl fun oP _ h=>ft Jv rfl rfl h fun Ao pZ h=>y rfl<|gT _ _ rfl rfl rfl<|gT _ _ rfl rfl rfl<|y rfl<|y rfl<|bc<|wp_seq ?_
       refine bq _ rfl<|y rfl<|y rfl<|y rfl ?_
       obtain⟨Xh,aoR,h⟩:=h
       refine a2 144 rfl rfl rfl (ks (s:=cY) (k:=.i64) (i:=vd) rfl Tryz.underlying25 Cb rfl rfl aoR)<|ho _ _ _ Tryz.underlying35 HG rfl rfl rfl<|ho _ _ _ Tryz.underlying31 dj rfl rfl rfl<|hR dj h rfl rfl fun It _ h=>ft Jv rfl rfl h fun EK vQ h=>y rfl<|gT _ _ rfl rfl rfl<|gT _ _ rfl rfl rfl<|y rfl<|y rfl<|bc<|wp_seq ?_
       refine bq _ rfl<|y rfl<|y rfl<|a2 _ rfl rfl rfl (hc rfl rfl rfl)<|y rfl<|dY 155 3 154 rfl rfl rfl rfl rfl (fun R=>cQ (v:=.int .i64 (Ao.2)) rfl rfl)<|dY 156 3 154 rfl rfl rfl rfl rfl (fun R=>cQ (v:=.int .i64 (EK.2)) rfl rfl)<|dY 157 3 154 rfl rfl rfl rfl rfl (fun R=>hc (k:=.i64) (a:=Ao.2) (l:=EK.2) rfl (da R) (da R))<|a2 158 rfl rfl rfl (mD rfl rfl rfl rfl)<|bc<|fB h rfl (fun _ h=>?_) fun _ h=>?_
       ·refine wp_seq<|bq _ rfl<|y rfl<|bc<|wp_ret ?_
        exact lZ h rfl rfl
       ·refine wp_skip<|bq _ rfl<|y rfl<|a2 _ rfl rfl rfl (pf rfl rfl rfl)<|y rfl<|bc ?_
        exact⟨((IntKind.i64.wrap (vd+(1:Int)))),_,arr (aP (aP (aP (aP (aP rfl rfl) rfl) rfl) rfl) rfl),h⟩
      ·refine wp_exit<|wp_seq<|wp_seq<|bq _ rfl<|y rfl<|bc<|wp_block<|s0 (bp:=Int) (dp:=fun g (s:Int)=>ae (ae (ae (ae (g) 3 (.pointer (some a3))) 7 (.pointer (ca.1))) 10 (.pointer (et.1))) 22 (.int .i64 (s))) (mi:=((0:Int))) (aP (aP (aP (aP rfl rfl) rfl) rfl) rfl) h ?_
       rintro pM g qE tq h
       unfold No at h
       refine wp_seq<|wp_seq<|bq _ rfl<|y rfl<|ho _ _ _ Tryz.underlying24 dj rfl rfl rfl<|hR dj h rfl rfl fun afP _ h=>a2 _ rfl rfl rfl (ma rfl rfl rfl)<|bc<|fB h rfl (fun _ h=>?_) fun _ h=>?_
       ·refine wp_skip<|wp_seq<|wp_block<|wp_seq<|bq _ rfl<|y rfl<|y rfl<|ft OI rfl rfl h fun c0 xa h=>y rfl<|y rfl<|ft OI rfl rfl h fun dq AE h=>y rfl ?_
        refine y rfl<|bc<|wp_seq<|wp_seq<|bq _ rfl<|y rfl<|a2 172 rfl rfl rfl (sd (a:=c0) rfl Tryz.underlying36 rfl rfl)<|y rfl<|a2 174 rfl rfl rfl (sd (a:=dq) rfl Tryz.underlying36 rfl rfl)<|a2 175 rfl rfl rfl (RX (a:=c0.isNone) (l:=dq.isNone) rfl Tryz.underlying4 rfl rfl)<|bc<|fB h rfl (fun _ h=>?_) fun _ h=>?_
        ·refine wp_seq<|bq _ rfl<|y rfl<|bc<|wp_ret ?_
         exact lZ h rfl rfl
        ·refine wp_skip<|Ar (bp:=Bool) (eV:=fun (s:Bool) w=>tm pM s w tq j) (dp:=fun g (s:Bool)=>ae (ae (ae (ae (ae (g) 3 (.pointer (some a3))) 7 (.pointer (ca.1))) 10 (.pointer (et.1))) 22 (.int .i64 (pM))) 223 (.bool (s))) ?_ ?_
         ·rintro ae2 g xc h
          unfold tm at h
          refine fB h rfl (fun _ h=>?_) fun _ h=>?_
          ·refine wp_seq<|bq _ rfl<|y rfl<|bc<|wp_ret ?_
           exact lZ h rfl rfl
          ·refine wp_skip<|bq _ rfl<|y rfl<|a2 _ rfl rfl rfl (pf rfl rfl rfl)<|y rfl<|bc ?_
           exact⟨((IntKind.i64.wrap (pM+(1:Int)))),_,arr (aP (aP (aP (aP rfl rfl) rfl) rfl) rfl),h⟩
         ·obtain⟨CE,arA,h⟩:=ou h
          refine po 48 mixed rfl (by kernel_rfl) (by intro c a d v w h; cases d<;>exact h) arA (fun ak=>?_)
          refine gf 0 176 (.pointer (c0)) ak rfl rfl<|fc 1 177 ak rfl rfl rfl (fun _=>Lg (a:=c0) rfl Tryz.underlying36 rfl rfl)<|gf 2 178 (.bool ((!c0.isNone))) ak rfl rfl<|Se (i:=3) (g:=(!c0.isNone)) (d:=(some 179)) ak (by kernel_rfl) (by kernel_rfl) rfl (.eI 2 178 true (!c0.isNone) rfl rfl rfl rfl) rfl (fun R _=>cQ (v:=.pointer (dq)) rfl rfl)<|Se (i:=4) (g:=(!c0.isNone)) (d:=(some 180)) ak (by kernel_rfl) (by kernel_rfl) rfl (.eI 2 178 true (!c0.isNone) rfl rfl rfl rfl) rfl (fun R _=>Lg (a:=dq) rfl Tryz.underlying36 (da R) rfl)<|fc 5 181 ak rfl rfl rfl (fun _=>m3 (a:=(!c0.isNone)) (l:=(!dq.isNone)) rfl rfl rfl rfl)<|gf 6 182 (.bool (((!c0.isNone)&&(!dq.isNone)))) ak rfl rfl<|jb (l:=((!c0.isNone)&&(!dq.isNone))) h (fun fq h=>?_) (fun fq h=>?_)
          ·refine eO (i:=7) (d:=(some 183)) ak (by kernel_rfl) (by kernel_rfl) rfl (.az 6 true 182 ((!c0.isNone)&&(!dq.isNone)) rfl rfl rfl fq) rfl (fun _=>cQ (v:=.pointer (c0)) rfl rfl) ?_
           obtain⟨iM,Pe,h⟩:=h
           refine eO (i:=8) (d:=(some 184)) ak (by kernel_rfl) (by kernel_rfl) rfl (.az 6 true 182 ((!c0.isNone)&&(!dq.isNone)) rfl rfl rfl fq) rfl (fun _=>mb (a:=iM) rfl (congrArg Value.pointer Pe))<|eO (i:=9) (d:=(some 185)) ak (by kernel_rfl) (by kernel_rfl) rfl (.az 6 true 182 ((!c0.isNone)&&(!dq.isNone)) rfl rfl rfl fq) rfl (fun _=>lU (a:=iM) (off:=0) rfl Tryz.underlying72 rfl rfl r8 (by decide) rfl)<|eO (i:=12) (d:=(some 188)) ak (by kernel_rfl) (by kernel_rfl) rfl (.az 6 true 182 ((!c0.isNone)&&(!dq.isNone)) rfl rfl rfl fq) rfl (fun _=>cQ (v:=.pointer (dq)) rfl rfl) ?_
           obtain⟨iN,Pf,h⟩:=h
           refine eO (i:=13) (d:=(some 189)) ak (by kernel_rfl) (by kernel_rfl) rfl (.az 6 true 182 ((!c0.isNone)&&(!dq.isNone)) rfl rfl rfl fq) rfl (fun _=>mb (a:=iN) rfl (congrArg Value.pointer Pf))<|eO (i:=14) (d:=(some 190)) ak (by kernel_rfl) (by kernel_rfl) rfl (.az 6 true 182 ((!c0.isNone)&&(!dq.isNone)) rfl rfl rfl fq) rfl (fun _=>lU (a:=iN) (off:=0) rfl Tryz.underlying72 rfl rfl r8 (by decide) rfl) ?_
           obtain⟨pp,arX,h⟩:=h
           refine tb (i:=10) (d:=(some 186)) (fun A=>(L ds (iM.add 0) A) pp) ak (by kernel_rfl) (by kernel_rfl) rfl (.az 6 true 182 ((!c0.isNone)&&(!dq.isNone)) rfl rfl rfl fq) rfl (fun A ab=>j9 (T:=ds) (u:=pp) (a:=(iM.add 0)) rfl r8 rfl ab) arX ?_
           obtain⟨pq,arY,h⟩:=h
           refine tb (i:=15) (d:=(some 191)) (fun A=>(L ds (iN.add 0) A) pq) ak (by kernel_rfl) (by kernel_rfl) rfl (.az 6 true 182 ((!c0.isNone)&&(!dq.isNone)) rfl rfl rfl fq) rfl (fun A ab=>j9 (T:=ds) (u:=pq) (a:=(iN.add 0)) rfl r8 rfl ab) arY<|fk (i:=11) (by kernel_rfl)<|hG rfl (.az 6 true 182 ((!c0.isNone)&&(!dq.isNone)) rfl rfl rfl fq) (gR (d:=(some 187)) rfl (fR (k:=20) (m:=[ds.enc (pp)]) rfl YE rfl) h ?_)
           intro pT Ir h
           obtain⟨ap4,h⟩:=h
           refine⟨(fH (fun _=>ap4) (hi (by kernel_rfl) im)),?_⟩
           refine fk (i:=16) (by kernel_rfl)<|hG rfl (.az 6 true 182 ((!c0.isNone)&&(!dq.isNone)) rfl rfl rfl fq) (gR (d:=(some 192)) rfl (fR (k:=20) (m:=[ds.enc (pq)]) rfl YE rfl) h ?_)
           intro pU CF h
           obtain⟨ap5,h⟩:=h
           refine⟨(hi (by kernel_rfl) (fH (fun _=>ap5) im)),?_⟩
           refine eO (i:=17) (d:=(some 193)) ak (by kernel_rfl) (by kernel_rfl) rfl (.az 6 true 182 ((!c0.isNone)&&(!dq.isNone)) rfl rfl rfl fq) rfl (fun _=>hc (a:=pT) (l:=pU) rfl rfl rfl)<|eO (i:=18) (d:=(some 194)) ak (by kernel_rfl) (by kernel_rfl) rfl (.az 6 true 182 ((!c0.isNone)&&(!dq.isNone)) rfl rfl rfl fq) rfl (fun _=>cQ (v:=.bool ((pT != pU))) rfl rfl)<|jb (l:=(pT != pU)) h (fun sO h=>?_) (fun sO h=>?_)
           ·refine dM 19 195 ak rfl (.az 18 false 194 (pT != pU) rfl rfl rfl sO) rfl<|dM 21 197 ak rfl (.az 18 false 194 (pT != pU) rfl rfl rfl sO) rfl<|fk (i:=20) (by kernel_rfl)<|lT (d:=(some 196)) rfl (.az 18 false 194 (pT != pU) rfl rfl rfl sO) rfl ⟨fun _ _ _ h=>h,?_⟩
            refine fk (i:=22) (by kernel_rfl)<|lT (d:=(some 198)) rfl (.az 18 false 194 (pT != pU) rfl rfl rfl sO) rfl ⟨fun _ _ _ h=>h,?_⟩
            refine dM 23 199 ak rfl (.az 18 false 194 (pT != pU) rfl rfl rfl sO) rfl<|eO (i:=24) (d:=(some 200)) ak (by kernel_rfl) (by kernel_rfl) rfl (.az 6 true 182 ((!c0.isNone)&&(!dq.isNone)) rfl rfl rfl fq) rfl (fun _=>hX (v:=.bool (true)) (l:=(pT != pU)) rfl rfl sO rfl)<|eO (i:=25) (d:=(some 201)) ak (by kernel_rfl) (by kernel_rfl) rfl (.az 6 true 182 ((!c0.isNone)&&(!dq.isNone)) rfl rfl rfl fq) rfl (fun _=>cQ (v:=.bool (true)) rfl rfl)<|jb (l:=true) h (fun ji h=>?_) (fun ji h=>?_)
            ·refine dM 26 202 ak rfl (.az 25 false 201 true rfl rfl rfl ji) rfl<|dM 27 203 ak rfl (.az 25 false 201 true rfl rfl rfl ji) rfl<|dM 28 204 ak rfl (.az 25 false 201 true rfl rfl rfl ji) rfl<|dM 31 207 ak rfl (.az 25 false 201 true rfl rfl rfl ji) rfl<|dM 32 208 ak rfl (.az 25 false 201 true rfl rfl rfl ji) rfl<|dM 33 209 ak rfl (.az 25 false 201 true rfl rfl rfl ji) rfl<|dM 29 205 ak rfl (.az 25 false 201 true rfl rfl rfl ji) rfl<|dM 34 210 ak rfl (.az 25 false 201 true rfl rfl rfl ji) rfl<|fk (i:=30) (by kernel_rfl)<|lT (d:=(some 206)) rfl (.az 25 false 201 true rfl rfl rfl ji) rfl ⟨fun _ _ _ h=>h,?_⟩
             refine fk (i:=35) (by kernel_rfl)<|lT (d:=(some 211)) rfl (.az 25 false 201 true rfl rfl rfl ji) rfl ⟨fun _ _ _ h=>h,?_⟩
             refine dM 36 212 ak rfl (.az 25 false 201 true rfl rfl rfl ji) rfl<|eO (i:=37) (d:=(some 213)) ak (by kernel_rfl) (by kernel_rfl) rfl (.az 6 true 182 ((!c0.isNone)&&(!dq.isNone)) rfl rfl rfl fq) rfl (fun _=>hX (v:=.bool (true)) (l:=true) rfl rfl ji rfl)<|eO (i:=38) (d:=(some 214)) ak (by kernel_rfl) (by kernel_rfl) rfl (.az 6 true 182 ((!c0.isNone)&&(!dq.isNone)) rfl rfl rfl fq) rfl (fun _=>cQ (v:=.bool (true)) rfl rfl)<|dM 39 215 ak rfl (.az 38 false 214 true rfl rfl rfl ji) rfl<|dM 42 218 ak rfl (.az 38 false 214 true rfl rfl rfl ji) rfl<|fk (i:=40) (by kernel_rfl)<|lT (d:=(some 216)) rfl (.az 38 false 214 true rfl rfl rfl ji) rfl ⟨fun _ _ _ h=>h,?_⟩
             refine dM 41 217 ak rfl (.az 38 false 214 true rfl rfl rfl ji) rfl<|fk (i:=43) (by kernel_rfl)<|lT (d:=(some 219)) rfl (.az 38 false 214 true rfl rfl rfl ji) rfl ⟨fun _ _ _ h=>h,?_⟩
             refine dM 44 220 ak rfl (.az 38 false 214 true rfl rfl rfl ji) rfl<|dM 45 221 ak rfl (.az 38 false 214 true rfl rfl rfl ji) rfl<|eO (i:=46) (d:=(some 222)) ak (by kernel_rfl) (by kernel_rfl) rfl (.az 6 true 182 ((!c0.isNone)&&(!dq.isNone)) rfl rfl rfl fq) rfl (fun _=>hX (v:=.bool (true)) (l:=true) rfl rfl ji rfl)<|fc 47 223 ak rfl rfl rfl (fun _=>hX (v:=.bool (true)) (l:=((!c0.isNone)&&(!dq.isNone))) rfl rfl fq rfl)<|kH (by kernel_rfl) ?_
             exact⟨(true),_,arr (aP (aP (aP (aP (aP rfl rfl) rfl) rfl) rfl) rfl),h⟩
            ·refine eO (i:=26) (d:=(some 202)) ak (by kernel_rfl) (by kernel_rfl) rfl (.az 25 false 201 true rfl rfl rfl ji) rfl (fun _=>cQ (v:=.pointer (c0)) rfl rfl)<|eO (i:=27) (d:=(some 203)) ak (by kernel_rfl) (by kernel_rfl) rfl (.az 25 false 201 true rfl rfl rfl ji) rfl (fun _=>mb (a:=iM) rfl (congrArg Value.pointer Pe))<|eO (i:=28) (d:=(some 204)) ak (by kernel_rfl) (by kernel_rfl) rfl (.az 25 false 201 true rfl rfl rfl ji) rfl (fun _=>lU (a:=iM) (off:=0) rfl Tryz.underlying72 rfl rfl r8 (by decide) rfl)<|eO (i:=31) (d:=(some 207)) ak (by kernel_rfl) (by kernel_rfl) rfl (.az 25 false 201 true rfl rfl rfl ji) rfl (fun _=>cQ (v:=.pointer (dq)) rfl rfl)<|eO (i:=32) (d:=(some 208)) ak (by kernel_rfl) (by kernel_rfl) rfl (.az 25 false 201 true rfl rfl rfl ji) rfl (fun _=>mb (a:=iN) rfl (congrArg Value.pointer Pf))<|eO (i:=33) (d:=(some 209)) ak (by kernel_rfl) (by kernel_rfl) rfl (.az 25 false 201 true rfl rfl rfl ji) rfl (fun _=>lU (a:=iN) (off:=0) rfl Tryz.underlying72 rfl rfl r8 (by decide) rfl) ?_
             obtain⟨AJ,arZ,h⟩:=h
             refine tb (i:=29) (d:=(some 205)) (fun A=>(L ds (iM.add 0) A) AJ) ak (by kernel_rfl) (by kernel_rfl) rfl (.az 25 false 201 true rfl rfl rfl ji) rfl (fun A ab=>j9 (T:=ds) (u:=AJ) (a:=(iM.add 0)) rfl r8 rfl ab) arZ ?_
             obtain⟨AK,ar0,h⟩:=h
             refine tb (i:=34) (d:=(some 210)) (fun A=>(L ds (iN.add 0) A) AK) ak (by kernel_rfl) (by kernel_rfl) rfl (.az 25 false 201 true rfl rfl rfl ji) rfl (fun A ab=>j9 (T:=ds) (u:=AK) (a:=(iN.add 0)) rfl r8 rfl ab) ar0<|fk (i:=30) (by kernel_rfl)<|hG rfl (.az 25 false 201 true rfl rfl rfl ji) (gR (d:=(some 206)) rfl (fR (k:=22) (m:=[ds.enc (AJ)]) rfl Jw rfl) h ?_)
             intro m7 CG h
             obtain⟨ap6,h⟩:=h
             obtain⟨ap7,h⟩:=h
             obtain⟨ap8,h⟩:=h
             refine⟨(fH (fun _=>ap8) (hi (by kernel_rfl) (fH (fun _=>ap7) (fH (fun _=>ap6) im)))),?_⟩
             refine fk (i:=35) (by kernel_rfl)<|hG rfl (.az 25 false 201 true rfl rfl rfl ji) (gR (d:=(some 211)) rfl (fR (k:=22) (m:=[ds.enc (AK)]) rfl Jw rfl) h ?_)
             intro m8 EZ h
             obtain⟨ap9,h⟩:=h
             obtain⟨aqa,h⟩:=h
             obtain⟨aqb,h⟩:=h
             refine⟨(hi (by kernel_rfl) (fH (fun _=>aqb) (fH (fun _=>aqa) (fH (fun _=>ap9) im)))),?_⟩
             refine eO (i:=36) (d:=(some 212)) ak (by kernel_rfl) (by kernel_rfl) rfl (.az 25 false 201 true rfl rfl rfl ji) rfl (fun _=>hc (a:=m7) (l:=m8) rfl rfl rfl)<|eO (i:=37) (d:=(some 213)) ak (by kernel_rfl) (by kernel_rfl) rfl (.az 6 true 182 ((!c0.isNone)&&(!dq.isNone)) rfl rfl rfl fq) rfl (fun _=>iS (v:=.bool ((m7 != m8))) (l:=true) rfl rfl ji rfl)<|eO (i:=38) (d:=(some 214)) ak (by kernel_rfl) (by kernel_rfl) rfl (.az 6 true 182 ((!c0.isNone)&&(!dq.isNone)) rfl rfl rfl fq) rfl (fun _=>cQ (v:=.bool ((m7 != m8))) rfl rfl)<|jb (l:=(m7 != m8)) h (fun pI h=>?_) (fun pI h=>?_)
             ·refine dM 39 215 ak rfl (.az 38 false 214 (m7 != m8) rfl rfl rfl pI) rfl<|dM 42 218 ak rfl (.az 38 false 214 (m7 != m8) rfl rfl rfl pI) rfl<|fk (i:=40) (by kernel_rfl)<|lT (d:=(some 216)) rfl (.az 38 false 214 (m7 != m8) rfl rfl rfl pI) rfl ⟨fun _ _ _ h=>h,?_⟩
              refine dM 41 217 ak rfl (.az 38 false 214 (m7 != m8) rfl rfl rfl pI) rfl<|fk (i:=43) (by kernel_rfl)<|lT (d:=(some 219)) rfl (.az 38 false 214 (m7 != m8) rfl rfl rfl pI) rfl ⟨fun _ _ _ h=>h,?_⟩
              refine dM 44 220 ak rfl (.az 38 false 214 (m7 != m8) rfl rfl rfl pI) rfl<|dM 45 221 ak rfl (.az 38 false 214 (m7 != m8) rfl rfl rfl pI) rfl<|eO (i:=46) (d:=(some 222)) ak (by kernel_rfl) (by kernel_rfl) rfl (.az 6 true 182 ((!c0.isNone)&&(!dq.isNone)) rfl rfl rfl fq) rfl (fun _=>hX (v:=.bool (true)) (l:=(m7 != m8)) rfl rfl pI rfl)<|fc 47 223 ak rfl rfl rfl (fun _=>hX (v:=.bool (true)) (l:=((!c0.isNone)&&(!dq.isNone))) rfl rfl fq rfl)<|kH (by kernel_rfl) ?_
              exact⟨(true),_,arr (aP (aP (aP (aP (aP rfl rfl) rfl) rfl) rfl) rfl),h⟩
             ·refine eO (i:=39) (d:=(some 215)) ak (by kernel_rfl) (by kernel_rfl) rfl (.az 38 false 214 (m7 != m8) rfl rfl rfl pI) rfl (fun _=>cQ (v:=.pointer (c0)) rfl rfl)<|eO (i:=42) (d:=(some 218)) ak (by kernel_rfl) (by kernel_rfl) rfl (.az 38 false 214 (m7 != m8) rfl rfl rfl pI) rfl (fun _=>cQ (v:=.pointer (dq)) rfl rfl)<|fk (i:=40) (by kernel_rfl)<|hG rfl (.az 38 false 214 (m7 != m8) rfl rfl rfl pI) (gR (d:=(some 216)) rfl (fR (k:=23) (m:=[.pointer (c0)]) rfl DI rfl) h ?_)
              intro Cs E0 h
              obtain⟨aqc,h⟩:=h
              obtain⟨aqd,h⟩:=h
              obtain⟨aqe,h⟩:=h
              obtain⟨aqf,h⟩:=h
              refine⟨(fH (fun _=>aqf) (fH (fun _=>aqe) (fH (fun _=>aqd) (fH (fun _=>aqc) im)))),?_⟩
              refine eO (i:=41) (d:=(some 217)) ak (by kernel_rfl) (by kernel_rfl) rfl (.az 38 false 214 (m7 != m8) rfl rfl rfl pI) rfl (fun _=>jV (s:=Cs) rfl Tryz.underlying73 rfl)<|fk (i:=43) (by kernel_rfl)<|hG rfl (.az 38 false 214 (m7 != m8) rfl rfl rfl pI) (gR (d:=(some 219)) rfl (fR (k:=23) (m:=[.pointer (dq)]) rfl DI rfl) h ?_)
              intro Cl E1 h
              obtain⟨apw,h⟩:=h
              obtain⟨apx,h⟩:=h
              obtain⟨apy,h⟩:=h
              obtain⟨apz,h⟩:=h
              refine⟨(fH (fun _=>apz) (fH (fun _=>apy) (fH (fun _=>apx) (fH (fun _=>apw) im)))),?_⟩
              refine eO (i:=44) (d:=(some 220)) ak (by kernel_rfl) (by kernel_rfl) rfl (.az 38 false 214 (m7 != m8) rfl rfl rfl pI) rfl (fun _=>jV (s:=Cl) rfl Tryz.underlying73 rfl)<|eO (i:=45) (d:=(some 221)) ak (by kernel_rfl) (by kernel_rfl) rfl (.az 38 false 214 (m7 != m8) rfl rfl rfl pI) rfl (fun _=>hc (a:=(Cs.len:Int)) (l:=(Cl.len:Int)) rfl rfl rfl)<|eO (i:=46) (d:=(some 222)) ak (by kernel_rfl) (by kernel_rfl) rfl (.az 6 true 182 ((!c0.isNone)&&(!dq.isNone)) rfl rfl rfl fq) rfl (fun _=>iS (v:=.bool (((Cs.len:Int)!=(Cl.len:Int)))) (l:=(m7 != m8)) rfl rfl pI rfl)<|fc 47 223 ak rfl rfl rfl (fun _=>hX (v:=.bool (((Cs.len:Int)!=(Cl.len:Int)))) (l:=((!c0.isNone)&&(!dq.isNone))) rfl rfl fq rfl)<|kH (by kernel_rfl) ?_
              exact⟨(((Cs.len:Int)!=(Cl.len:Int))),_,arr (aP (aP (aP (aP (aP rfl rfl) rfl) rfl) rfl) rfl),h⟩
           ·refine eO (i:=19) (d:=(some 195)) ak (by kernel_rfl) (by kernel_rfl) rfl (.az 18 false 194 (pT != pU) rfl rfl rfl sO) rfl (fun _=>cQ (v:=.pointer (c0)) rfl rfl)<|eO (i:=21) (d:=(some 197)) ak (by kernel_rfl) (by kernel_rfl) rfl (.az 18 false 194 (pT != pU) rfl rfl rfl sO) rfl (fun _=>cQ (v:=.pointer (dq)) rfl rfl)<|fk (i:=20) (by kernel_rfl)<|hG rfl (.az 18 false 194 (pT != pU) rfl rfl rfl sO) (gR (d:=(some 196)) rfl (fR (k:=21) (m:=[.pointer (c0)]) rfl YF rfl) h ?_)
            intro j_ LZ h
            obtain⟨apA,h⟩:=h
            obtain⟨apB,h⟩:=h
            refine⟨(fH (fun _=>apB) (fH (fun _=>apA) im)),?_⟩
            refine fk (i:=22) (by kernel_rfl)<|hG rfl (.az 18 false 194 (pT != pU) rfl rfl rfl sO) (gR (d:=(some 198)) rfl (fR (k:=21) (m:=[.pointer (dq)]) rfl YF rfl) h ?_)
            intro ka AB h
            obtain⟨apC,h⟩:=h
            obtain⟨apD,h⟩:=h
            refine⟨(fH (fun _=>apD) (fH (fun _=>apC) im)),?_⟩
            refine eO (i:=23) (d:=(some 199)) ak (by kernel_rfl) (by kernel_rfl) rfl (.az 18 false 194 (pT != pU) rfl rfl rfl sO) rfl (fun _=>hc (a:=j_) (l:=ka) rfl rfl rfl)<|eO (i:=24) (d:=(some 200)) ak (by kernel_rfl) (by kernel_rfl) rfl (.az 6 true 182 ((!c0.isNone)&&(!dq.isNone)) rfl rfl rfl fq) rfl (fun _=>iS (v:=.bool ((j_ != ka))) (l:=(pT != pU)) rfl rfl sO rfl)<|eO (i:=25) (d:=(some 201)) ak (by kernel_rfl) (by kernel_rfl) rfl (.az 6 true 182 ((!c0.isNone)&&(!dq.isNone)) rfl rfl rfl fq) rfl (fun _=>cQ (v:=.bool ((j_ != ka))) rfl rfl)<|jb (l:=(j_ != ka)) h (fun lI h=>?_) (fun lI h=>?_)
            ·refine dM 26 202 ak rfl (.az 25 false 201 (j_ != ka) rfl rfl rfl lI) rfl<|dM 27 203 ak rfl (.az 25 false 201 (j_ != ka) rfl rfl rfl lI) rfl<|dM 28 204 ak rfl (.az 25 false 201 (j_ != ka) rfl rfl rfl lI) rfl<|dM 31 207 ak rfl (.az 25 false 201 (j_ != ka) rfl rfl rfl lI) rfl<|dM 32 208 ak rfl (.az 25 false 201 (j_ != ka) rfl rfl rfl lI) rfl<|dM 33 209 ak rfl (.az 25 false 201 (j_ != ka) rfl rfl rfl lI) rfl<|dM 29 205 ak rfl (.az 25 false 201 (j_ != ka) rfl rfl rfl lI) rfl<|dM 34 210 ak rfl (.az 25 false 201 (j_ != ka) rfl rfl rfl lI) rfl<|fk (i:=30) (by kernel_rfl)<|lT (d:=(some 206)) rfl (.az 25 false 201 (j_ != ka) rfl rfl rfl lI) rfl ⟨fun _ _ _ h=>h,?_⟩
             refine fk (i:=35) (by kernel_rfl)<|lT (d:=(some 211)) rfl (.az 25 false 201 (j_ != ka) rfl rfl rfl lI) rfl ⟨fun _ _ _ h=>h,?_⟩
             refine dM 36 212 ak rfl (.az 25 false 201 (j_ != ka) rfl rfl rfl lI) rfl<|eO (i:=37) (d:=(some 213)) ak (by kernel_rfl) (by kernel_rfl) rfl (.az 6 true 182 ((!c0.isNone)&&(!dq.isNone)) rfl rfl rfl fq) rfl (fun _=>hX (v:=.bool (true)) (l:=(j_ != ka)) rfl rfl lI rfl)<|eO (i:=38) (d:=(some 214)) ak (by kernel_rfl) (by kernel_rfl) rfl (.az 6 true 182 ((!c0.isNone)&&(!dq.isNone)) rfl rfl rfl fq) rfl (fun _=>cQ (v:=.bool (true)) rfl rfl)<|jb (l:=true) h (fun pF h=>?_) (fun pF h=>?_)
             ·refine dM 39 215 ak rfl (.az 38 false 214 true rfl rfl rfl pF) rfl<|dM 42 218 ak rfl (.az 38 false 214 true rfl rfl rfl pF) rfl<|fk (i:=40) (by kernel_rfl)<|lT (d:=(some 216)) rfl (.az 38 false 214 true rfl rfl rfl pF) rfl ⟨fun _ _ _ h=>h,?_⟩
              refine dM 41 217 ak rfl (.az 38 false 214 true rfl rfl rfl pF) rfl<|fk (i:=43) (by kernel_rfl)<|lT (d:=(some 219)) rfl (.az 38 false 214 true rfl rfl rfl pF) rfl ⟨fun _ _ _ h=>h,?_⟩
              refine dM 44 220 ak rfl (.az 38 false 214 true rfl rfl rfl pF) rfl<|dM 45 221 ak rfl (.az 38 false 214 true rfl rfl rfl pF) rfl<|eO (i:=46) (d:=(some 222)) ak (by kernel_rfl) (by kernel_rfl) rfl (.az 6 true 182 ((!c0.isNone)&&(!dq.isNone)) rfl rfl rfl fq) rfl (fun _=>hX (v:=.bool (true)) (l:=true) rfl rfl pF rfl)<|fc 47 223 ak rfl rfl rfl (fun _=>hX (v:=.bool (true)) (l:=((!c0.isNone)&&(!dq.isNone))) rfl rfl fq rfl)<|kH (by kernel_rfl) ?_
              exact⟨(true),_,arr (aP (aP (aP (aP (aP rfl rfl) rfl) rfl) rfl) rfl),h⟩
             ·refine eO (i:=39) (d:=(some 215)) ak (by kernel_rfl) (by kernel_rfl) rfl (.az 38 false 214 true rfl rfl rfl pF) rfl (fun _=>cQ (v:=.pointer (c0)) rfl rfl)<|eO (i:=42) (d:=(some 218)) ak (by kernel_rfl) (by kernel_rfl) rfl (.az 38 false 214 true rfl rfl rfl pF) rfl (fun _=>cQ (v:=.pointer (dq)) rfl rfl)<|fk (i:=40) (by kernel_rfl)<|hG rfl (.az 38 false 214 true rfl rfl rfl pF) (gR (d:=(some 216)) rfl (fR (k:=23) (m:=[.pointer (c0)]) rfl DI rfl) h ?_)
              intro Cm L0 h
              obtain⟨apE,h⟩:=h
              obtain⟨apF,h⟩:=h
              refine⟨(fH (fun _=>apF) (fH (fun _=>apE) im)),?_⟩
              refine eO (i:=41) (d:=(some 217)) ak (by kernel_rfl) (by kernel_rfl) rfl (.az 38 false 214 true rfl rfl rfl pF) rfl (fun _=>jV (s:=Cm) rfl Tryz.underlying73 rfl)<|fk (i:=43) (by kernel_rfl)<|hG rfl (.az 38 false 214 true rfl rfl rfl pF) (gR (d:=(some 219)) rfl (fR (k:=23) (m:=[.pointer (dq)]) rfl DI rfl) h ?_)
              intro Cn L1 h
              obtain⟨apG,h⟩:=h
              obtain⟨apH,h⟩:=h
              refine⟨(fH (fun _=>apH) (fH (fun _=>apG) im)),?_⟩
              refine eO (i:=44) (d:=(some 220)) ak (by kernel_rfl) (by kernel_rfl) rfl (.az 38 false 214 true rfl rfl rfl pF) rfl (fun _=>jV (s:=Cn) rfl Tryz.underlying73 rfl)<|eO (i:=45) (d:=(some 221)) ak (by kernel_rfl) (by kernel_rfl) rfl (.az 38 false 214 true rfl rfl rfl pF) rfl (fun _=>hc (a:=(Cm.len:Int)) (l:=(Cn.len:Int)) rfl rfl rfl)<|eO (i:=46) (d:=(some 222)) ak (by kernel_rfl) (by kernel_rfl) rfl (.az 6 true 182 ((!c0.isNone)&&(!dq.isNone)) rfl rfl rfl fq) rfl (fun _=>iS (v:=.bool (((Cm.len:Int)!=(Cn.len:Int)))) (l:=true) rfl rfl pF rfl)<|fc 47 223 ak rfl rfl rfl (fun _=>hX (v:=.bool (((Cm.len:Int)!=(Cn.len:Int)))) (l:=((!c0.isNone)&&(!dq.isNone))) rfl rfl fq rfl)<|kH (by kernel_rfl) ?_
              exact⟨(((Cm.len:Int)!=(Cn.len:Int))),_,arr (aP (aP (aP (aP (aP rfl rfl) rfl) rfl) rfl) rfl),h⟩
            ·refine eO (i:=26) (d:=(some 202)) ak (by kernel_rfl) (by kernel_rfl) rfl (.az 25 false 201 (j_ != ka) rfl rfl rfl lI) rfl (fun _=>cQ (v:=.pointer (c0)) rfl rfl)<|eO (i:=27) (d:=(some 203)) ak (by kernel_rfl) (by kernel_rfl) rfl (.az 25 false 201 (j_ != ka) rfl rfl rfl lI) rfl (fun _=>mb (a:=iM) rfl (congrArg Value.pointer Pe))<|eO (i:=28) (d:=(some 204)) ak (by kernel_rfl) (by kernel_rfl) rfl (.az 25 false 201 (j_ != ka) rfl rfl rfl lI) rfl (fun _=>lU (a:=iM) (off:=0) rfl Tryz.underlying72 rfl rfl r8 (by decide) rfl)<|eO (i:=31) (d:=(some 207)) ak (by kernel_rfl) (by kernel_rfl) rfl (.az 25 false 201 (j_ != ka) rfl rfl rfl lI) rfl (fun _=>cQ (v:=.pointer (dq)) rfl rfl)<|eO (i:=32) (d:=(some 208)) ak (by kernel_rfl) (by kernel_rfl) rfl (.az 25 false 201 (j_ != ka) rfl rfl rfl lI) rfl (fun _=>mb (a:=iN) rfl (congrArg Value.pointer Pf))<|eO (i:=33) (d:=(some 209)) ak (by kernel_rfl) (by kernel_rfl) rfl (.az 25 false 201 (j_ != ka) rfl rfl rfl lI) rfl (fun _=>lU (a:=iN) (off:=0) rfl Tryz.underlying72 rfl rfl r8 (by decide) rfl) ?_
             obtain⟨AG,arF,h⟩:=h
             refine tb (i:=29) (d:=(some 205)) (fun A=>(L ds (iM.add 0) A) AG) ak (by kernel_rfl) (by kernel_rfl) rfl (.az 25 false 201 (j_ != ka) rfl rfl rfl lI) rfl (fun A ab=>j9 (T:=ds) (u:=AG) (a:=(iM.add 0)) rfl r8 rfl ab) arF ?_
             obtain⟨AH,arG,h⟩:=h
             refine tb (i:=34) (d:=(some 210)) (fun A=>(L ds (iN.add 0) A) AH) ak (by kernel_rfl) (by kernel_rfl) rfl (.az 25 false 201 (j_ != ka) rfl rfl rfl lI) rfl (fun A ab=>j9 (T:=ds) (u:=AH) (a:=(iN.add 0)) rfl r8 rfl ab) arG<|fk (i:=30) (by kernel_rfl)<|hG rfl (.az 25 false 201 (j_ != ka) rfl rfl rfl lI) (gR (d:=(some 206)) rfl (fR (k:=22) (m:=[ds.enc (AG)]) rfl Jw rfl) h ?_)
             intro m4 Ip h
             obtain⟨apI,h⟩:=h
             obtain⟨apJ,h⟩:=h
             obtain⟨apK,h⟩:=h
             refine⟨(fH (fun _=>apK) (hi (by kernel_rfl) (fH (fun _=>apJ) (fH (fun _=>apI) im)))),?_⟩
             refine fk (i:=35) (by kernel_rfl)<|hG rfl (.az 25 false 201 (j_ != ka) rfl rfl rfl lI) (gR (d:=(some 211)) rfl (fR (k:=22) (m:=[ds.enc (AH)]) rfl Jw rfl) h ?_)
             intro m5 EW h
             obtain⟨apM,h⟩:=h
             obtain⟨apN,h⟩:=h
             obtain⟨apO,h⟩:=h
             refine⟨(hi (by kernel_rfl) (fH (fun _=>apO) (fH (fun _=>apN) (fH (fun _=>apM) im)))),?_⟩
             refine eO (i:=36) (d:=(some 212)) ak (by kernel_rfl) (by kernel_rfl) rfl (.az 25 false 201 (j_ != ka) rfl rfl rfl lI) rfl (fun _=>hc (a:=m4) (l:=m5) rfl rfl rfl)<|eO (i:=37) (d:=(some 213)) ak (by kernel_rfl) (by kernel_rfl) rfl (.az 6 true 182 ((!c0.isNone)&&(!dq.isNone)) rfl rfl rfl fq) rfl (fun _=>iS (v:=.bool ((m4 != m5))) (l:=(j_ != ka)) rfl rfl lI rfl)<|eO (i:=38) (d:=(some 214)) ak (by kernel_rfl) (by kernel_rfl) rfl (.az 6 true 182 ((!c0.isNone)&&(!dq.isNone)) rfl rfl rfl fq) rfl (fun _=>cQ (v:=.bool ((m4 != m5))) rfl rfl)<|jb (l:=(m4 != m5)) h (fun pG h=>?_) (fun pG h=>?_)
             ·refine dM 39 215 ak rfl (.az 38 false 214 (m4 != m5) rfl rfl rfl pG) rfl<|dM 42 218 ak rfl (.az 38 false 214 (m4 != m5) rfl rfl rfl pG) rfl<|fk (i:=40) (by kernel_rfl)<|lT (d:=(some 216)) rfl (.az 38 false 214 (m4 != m5) rfl rfl rfl pG) rfl ⟨fun _ _ _ h=>h,?_⟩
              refine dM 41 217 ak rfl (.az 38 false 214 (m4 != m5) rfl rfl rfl pG) rfl<|fk (i:=43) (by kernel_rfl)<|lT (d:=(some 219)) rfl (.az 38 false 214 (m4 != m5) rfl rfl rfl pG) rfl ⟨fun _ _ _ h=>h,?_⟩
              refine dM 44 220 ak rfl (.az 38 false 214 (m4 != m5) rfl rfl rfl pG) rfl<|dM 45 221 ak rfl (.az 38 false 214 (m4 != m5) rfl rfl rfl pG) rfl<|eO (i:=46) (d:=(some 222)) ak (by kernel_rfl) (by kernel_rfl) rfl (.az 6 true 182 ((!c0.isNone)&&(!dq.isNone)) rfl rfl rfl fq) rfl (fun _=>hX (v:=.bool (true)) (l:=(m4 != m5)) rfl rfl pG rfl)<|fc 47 223 ak rfl rfl rfl (fun _=>hX (v:=.bool (true)) (l:=((!c0.isNone)&&(!dq.isNone))) rfl rfl fq rfl)<|kH (by kernel_rfl) ?_
              exact⟨(true),_,arr (aP (aP (aP (aP (aP rfl rfl) rfl) rfl) rfl) rfl),h⟩
             ·refine eO (i:=39) (d:=(some 215)) ak (by kernel_rfl) (by kernel_rfl) rfl (.az 38 false 214 (m4 != m5) rfl rfl rfl pG) rfl (fun _=>cQ (v:=.pointer (c0)) rfl rfl)<|eO (i:=42) (d:=(some 218)) ak (by kernel_rfl) (by kernel_rfl) rfl (.az 38 false 214 (m4 != m5) rfl rfl rfl pG) rfl (fun _=>cQ (v:=.pointer (dq)) rfl rfl)<|fk (i:=40) (by kernel_rfl)<|hG rfl (.az 38 false 214 (m4 != m5) rfl rfl rfl pG) (gR (d:=(some 216)) rfl (fR (k:=23) (m:=[.pointer (c0)]) rfl DI rfl) h ?_)
              intro Co EX h
              obtain⟨apP,h⟩:=h
              obtain⟨apQ,h⟩:=h
              obtain⟨apR,h⟩:=h
              obtain⟨apS,h⟩:=h
              refine⟨(fH (fun _=>apS) (fH (fun _=>apR) (fH (fun _=>apQ) (fH (fun _=>apP) im)))),?_⟩
              refine eO (i:=41) (d:=(some 217)) ak (by kernel_rfl) (by kernel_rfl) rfl (.az 38 false 214 (m4 != m5) rfl rfl rfl pG) rfl (fun _=>jV (s:=Co) rfl Tryz.underlying73 rfl)<|fk (i:=43) (by kernel_rfl)<|hG rfl (.az 38 false 214 (m4 != m5) rfl rfl rfl pG) (gR (d:=(some 219)) rfl (fR (k:=23) (m:=[.pointer (dq)]) rfl DI rfl) h ?_)
              intro Cp EY h
              obtain⟨apT,h⟩:=h
              obtain⟨apU,h⟩:=h
              obtain⟨apV,h⟩:=h
              obtain⟨apW,h⟩:=h
              refine⟨(fH (fun _=>apW) (fH (fun _=>apV) (fH (fun _=>apU) (fH (fun _=>apT) im)))),?_⟩
              refine eO (i:=44) (d:=(some 220)) ak (by kernel_rfl) (by kernel_rfl) rfl (.az 38 false 214 (m4 != m5) rfl rfl rfl pG) rfl (fun _=>jV (s:=Cp) rfl Tryz.underlying73 rfl)<|eO (i:=45) (d:=(some 221)) ak (by kernel_rfl) (by kernel_rfl) rfl (.az 38 false 214 (m4 != m5) rfl rfl rfl pG) rfl (fun _=>hc (a:=(Co.len:Int)) (l:=(Cp.len:Int)) rfl rfl rfl)<|eO (i:=46) (d:=(some 222)) ak (by kernel_rfl) (by kernel_rfl) rfl (.az 6 true 182 ((!c0.isNone)&&(!dq.isNone)) rfl rfl rfl fq) rfl (fun _=>iS (v:=.bool (((Co.len:Int)!=(Cp.len:Int)))) (l:=(m4 != m5)) rfl rfl pG rfl)<|fc 47 223 ak rfl rfl rfl (fun _=>hX (v:=.bool (((Co.len:Int)!=(Cp.len:Int)))) (l:=((!c0.isNone)&&(!dq.isNone))) rfl rfl fq rfl)<|kH (by kernel_rfl) ?_
              exact⟨(((Co.len:Int)!=(Cp.len:Int))),_,arr (aP (aP (aP (aP (aP rfl rfl) rfl) rfl) rfl) rfl),h⟩
          ·refine dM 7 183 ak rfl (.az 6 true 182 ((!c0.isNone)&&(!dq.isNone)) rfl rfl rfl fq) rfl<|dM 8 184 ak rfl (.az 6 true 182 ((!c0.isNone)&&(!dq.isNone)) rfl rfl rfl fq) rfl<|dM 9 185 ak rfl (.az 6 true 182 ((!c0.isNone)&&(!dq.isNone)) rfl rfl rfl fq) rfl<|dM 12 188 ak rfl (.az 6 true 182 ((!c0.isNone)&&(!dq.isNone)) rfl rfl rfl fq) rfl<|dM 13 189 ak rfl (.az 6 true 182 ((!c0.isNone)&&(!dq.isNone)) rfl rfl rfl fq) rfl<|dM 14 190 ak rfl (.az 6 true 182 ((!c0.isNone)&&(!dq.isNone)) rfl rfl rfl fq) rfl<|dM 10 186 ak rfl (.az 6 true 182 ((!c0.isNone)&&(!dq.isNone)) rfl rfl rfl fq) rfl<|dM 15 191 ak rfl (.az 6 true 182 ((!c0.isNone)&&(!dq.isNone)) rfl rfl rfl fq) rfl<|fk (i:=11) (by kernel_rfl)<|lT (d:=(some 187)) rfl (.az 6 true 182 ((!c0.isNone)&&(!dq.isNone)) rfl rfl rfl fq) rfl ⟨fun _ _ _ h=>h,?_⟩
           refine fk (i:=16) (by kernel_rfl)<|lT (d:=(some 192)) rfl (.az 6 true 182 ((!c0.isNone)&&(!dq.isNone)) rfl rfl rfl fq) rfl ⟨fun _ _ _ h=>h,?_⟩
           refine dM 17 193 ak rfl (.az 6 true 182 ((!c0.isNone)&&(!dq.isNone)) rfl rfl rfl fq) rfl<|dM 18 194 ak rfl (.az 6 true 182 ((!c0.isNone)&&(!dq.isNone)) rfl rfl rfl fq) rfl<|dM 19 195 ak rfl (.undef 18 false 194 rfl rfl rfl) rfl<|dM 21 197 ak rfl (.undef 18 false 194 rfl rfl rfl) rfl<|fk (i:=20) (by kernel_rfl)<|lT (d:=(some 196)) rfl (.undef 18 false 194 rfl rfl rfl) rfl ⟨fun _ _ _ h=>h,?_⟩
           refine fk (i:=22) (by kernel_rfl)<|lT (d:=(some 198)) rfl (.undef 18 false 194 rfl rfl rfl) rfl ⟨fun _ _ _ h=>h,?_⟩
           refine dM 23 199 ak rfl (.undef 18 false 194 rfl rfl rfl) rfl<|dM 24 200 ak rfl (.az 6 true 182 ((!c0.isNone)&&(!dq.isNone)) rfl rfl rfl fq) rfl<|dM 25 201 ak rfl (.az 6 true 182 ((!c0.isNone)&&(!dq.isNone)) rfl rfl rfl fq) rfl<|dM 26 202 ak rfl (.undef 25 false 201 rfl rfl rfl) rfl<|dM 27 203 ak rfl (.undef 25 false 201 rfl rfl rfl) rfl<|dM 28 204 ak rfl (.undef 25 false 201 rfl rfl rfl) rfl<|dM 31 207 ak rfl (.undef 25 false 201 rfl rfl rfl) rfl<|dM 32 208 ak rfl (.undef 25 false 201 rfl rfl rfl) rfl<|dM 33 209 ak rfl (.undef 25 false 201 rfl rfl rfl) rfl<|dM 29 205 ak rfl (.undef 25 false 201 rfl rfl rfl) rfl<|dM 34 210 ak rfl (.undef 25 false 201 rfl rfl rfl) rfl<|fk (i:=30) (by kernel_rfl) ?_
           refine lT (d:=(some 206)) rfl (.undef 25 false 201 rfl rfl rfl) rfl ⟨fun _ _ _ h=>h,?_⟩
           refine fk (i:=35) (by kernel_rfl)<|lT (d:=(some 211)) rfl (.undef 25 false 201 rfl rfl rfl) rfl ⟨fun _ _ _ h=>h,?_⟩
           refine dM 36 212 ak rfl (.undef 25 false 201 rfl rfl rfl) rfl<|dM 37 213 ak rfl (.az 6 true 182 ((!c0.isNone)&&(!dq.isNone)) rfl rfl rfl fq) rfl<|dM 38 214 ak rfl (.az 6 true 182 ((!c0.isNone)&&(!dq.isNone)) rfl rfl rfl fq) rfl<|dM 39 215 ak rfl (.undef 38 false 214 rfl rfl rfl) rfl<|dM 42 218 ak rfl (.undef 38 false 214 rfl rfl rfl) rfl<|fk (i:=40) (by kernel_rfl)<|lT (d:=(some 216)) rfl (.undef 38 false 214 rfl rfl rfl) rfl ⟨fun _ _ _ h=>h,?_⟩
           refine dM 41 217 ak rfl (.undef 38 false 214 rfl rfl rfl) rfl<|fk (i:=43) (by kernel_rfl)<|lT (d:=(some 219)) rfl (.undef 38 false 214 rfl rfl rfl) rfl ⟨fun _ _ _ h=>h,?_⟩
           refine dM 44 220 ak rfl (.undef 38 false 214 rfl rfl rfl) rfl<|dM 45 221 ak rfl (.undef 38 false 214 rfl rfl rfl) rfl<|dM 46 222 ak rfl (.az 6 true 182 ((!c0.isNone)&&(!dq.isNone)) rfl rfl rfl fq) rfl<|fc 47 223 ak rfl rfl rfl (fun _=>iS (v:=.bool (false)) (l:=((!c0.isNone)&&(!dq.isNone))) rfl rfl fq rfl)<|kH (by kernel_rfl) ?_
           exact⟨(false),_,arr (aP (aP (aP (aP (aP rfl rfl) rfl) rfl) rfl) rfl),h⟩
       ·refine wp_exit<|wp_seq<|bq _ rfl<|y rfl<|bc<|wp_ret ?_
        exact lZ h rfl rfl
   ·refine jb (l:=((jW != me)||((gP.len:Int)!=(fJ.len:Int)))) h (fun rb h=>?_) (fun rb h=>?_)
    ·refine dl (d:=(some 97)) rfl (.az 12 false 96 ((jW != me)||((gP.len:Int)!=(fJ.len:Int))) rfl rfl rfl rb) rfl<|dl (d:=(some 98)) rfl (.az 12 false 96 ((jW != me)||((gP.len:Int)!=(fJ.len:Int))) rfl rfl rfl rb) rfl<|dl (d:=(some 99)) rfl (.az 12 false 96 ((jW != me)||((gP.len:Int)!=(fJ.len:Int))) rfl rfl rfl rb) rfl<|dl (d:=(some 100)) rfl (.az 12 false 96 ((jW != me)||((gP.len:Int)!=(fJ.len:Int))) rfl rfl rfl rb) rfl<|dl (d:=(some 101)) rfl (.az 12 false 96 ((jW != me)||((gP.len:Int)!=(fJ.len:Int))) rfl rfl rfl rb) rfl<|dl (d:=(some 102)) rfl (.az 12 false 96 ((jW != me)||((gP.len:Int)!=(fJ.len:Int))) rfl rfl rfl rb) rfl<|a2 103 rfl rfl rfl (hX (v:=.bool (true)) (l:=((jW != me)||((gP.len:Int)!=(fJ.len:Int)))) rfl rfl rb rfl)<|bc ?_
     exact⟨(true),_,arr (aP (aP (aP (aP (aP (aP (aP rfl rfl) rfl) rfl) rfl) rfl) rfl) rfl),h⟩
    ·refine eP (d:=(some 97)) rfl (.az 12 false 96 ((jW != me)||((gP.len:Int)!=(fJ.len:Int))) rfl rfl rfl rb) rfl (cQ (v:=.pointer (ca.1)) rfl rfl)<|en rfl (.az 12 false 96 ((jW != me)||((gP.len:Int)!=(fJ.len:Int))) rfl rfl rfl rb) (gR (d:=(some 98)) rfl (fR (k:=15) (m:=[.pointer (ca.1)]) rfl DH rfl) h ?_)
     intro R7 afD h
     refine eP (d:=(some 99)) rfl (.az 12 false 96 ((jW != me)||((gP.len:Int)!=(fJ.len:Int))) rfl rfl rfl rb) rfl (cQ (v:=.pointer (et.1)) rfl rfl)<|en rfl (.az 12 false 96 ((jW != me)||((gP.len:Int)!=(fJ.len:Int))) rfl rfl rfl rb) (gR (d:=(some 100)) rfl (fR (k:=15) (m:=[.pointer (et.1)]) rfl DH rfl) h ?_)
     intro R8 afE h
     refine en rfl (.az 12 false 96 ((jW != me)||((gP.len:Int)!=(fJ.len:Int))) rfl rfl rfl rb) (gR (d:=(some 101)) rfl (fR (k:=17) (m:=[X.enc (R7),X.enc (R8)]) rfl YD rfl) h ?_)
     intro HU afF h
     refine eP (d:=(some 102)) rfl (.az 12 false 96 ((jW != me)||((gP.len:Int)!=(fJ.len:Int))) rfl rfl rfl rb) rfl (ru (l:=HU) rfl rfl)<|a2 103 rfl rfl rfl (iS (v:=.bool ((!HU))) (l:=((jW != me)||((gP.len:Int)!=(fJ.len:Int)))) rfl rfl rb rfl)<|bc ?_
     exact⟨((!HU)),_,arr (aP (aP (aP (aP (aP (aP (aP rfl rfl) rfl) rfl) rfl) rfl) rfl) rfl),h⟩
end bb
end Go.Proofs.YthaobmpdjcoheaaGreat
