/- Own texts of this claim, part 4: short, merged. -/
import Derived.Test.YthaobmpdjcoheaaGreatZ1
set_option maxRecDepth 100000
set_option maxHeartbeats 40000000
set_option linter.defProp false
set_option linter.unusedVariables false
set_option linter.unusedSimpArgs false
namespace Go.Proofs.YthaobmpdjcoheaaGreat
namespace bj
def Wu(ds:aN)(w:World)(j:(Int×Int)→World→Prop):Prop:=dw w fun cG=>ex (bM ds) fun aA=>ex (L (B .i64) (aA.add 12) cG) fun dk=>ex (L (B .i64) (aA.add 13) cG) fun dQ=>j (dk,dQ) cG
theorem ai6{ds w j}(h:Wu ds w j):M Pg 55 [.pointer ds] (bB (B .i64) (B .i64)) w j:=by
 have gC:=eI 2 (dJ [0,1,2,4,5,6,3,8,7,9] .l)
 exact bu 12 Tryz.func55 rfl rfl bw
def Wv(bf:aN)(w:World)(j:af→World→Prop):Prop:=ex (bM bf) fun a1=>ex (L X (a1.add 2) w) fun ej=>M Pg 107 [X.enc (ej)] X w fun bm aY=>j bm aY
theorem ai7{bf w j}(h:Wv bf w j):M Pg 56 [.pointer bf] X w j:=
 bu 8 Tryz.func56 rfl rfl bw
def Ww(bV:aN)(w:World)(j:Int→World→Prop):Prop:=ex (bM bV) fun a1=>ex (L (B .i64) (a1.add 1) w) fun ej=>j ej w
theorem ai8{bV w j}(h:Ww bV w j):M Pg 57 [.pointer bV] (B .i64) w j:=
 bu 7 Tryz.func57 rfl rfl bw
def Wx(bV:aN)(w:World)(j:Int→World→Prop):Prop:=ex (bM bV) fun a1=>ex (L (B .i64) (a1.add 2) w) fun ej=>j ej w
theorem ai9{bV w j}(h:Wx bV w j):M Pg 58 [.pointer bV] (B .i64) w j:=
 bu 7 Tryz.func58 rfl rfl bw
def Wy(sd:(Option Nat))(w:World)(j:cw→World→Prop):Prop:=bQ 68 eC sd w fun a1 bl=>j (cw.mk (.func 110) (List.toArray []) (List.toArray [.pointer (some a1)])) bl
theorem ajb{sd w j}(h:Wy sd w j):M Pg 60 [.map sd] gw w j:=
 bu 4 Tryz.func60 rfl rfl bw
def Dc(fB:Int)(aA:Addr)(dE:Addr)(qG:Addr)(fa:World)(j:(jB×Int)→World→Prop):Prop:=dw fa fun eD=>ex (L cW qG eD) fun mi=>ex (L (B .i64) ((dE.add 0).add 0) eD) fun eE=>ex (L g4 (dE.add 4) eD) fun gi=>M Pg 112 [cW.enc (mi),.int .i64 ((IntKind.i64.wrap (fB-eE))),.float .f64 (gi)] (bB cW (B .i64)) eD fun ec gp=>bG ((L (B .i64) ((dE.add 0).add 0) gp) eE)<|bi cW qG ec.1 gp fun gV=>dw gV fun hX=>ex (L (B .i64) (qG.add 0) hX) fun kQ=>ex (L (B .i64) (dE.add 6) hX) fun mC=>bi (B .i64) (qG.add 0) (max kQ mC) hX fun kO=>ex (L (B .i64) (qG.add 1) kO) fun mj=>ex (L (B .i64) (qG.add 0) kO) fun zv=>bi (B .i64) (qG.add 1) (max mj zv) kO fun lp=>dw lp fun mA=>ex (L (B .i64) (qG.add 0) mA) fun iC=>bi (B .i64) (dE.add 5) fB mA fun k6=>bG ((L (B .i64) (qG.add 0) k6) iC)<|bi (B .i64) (dE.add 6) iC k6 fun v6=>ex (L cW qG v6) fun tx=>bi cW aA tx v6 fun uH=>ex (L cW aA uH) fun rO=>j (rO,(0:Int)) uH
def NM(aO:aN)(fB:Int)(w:World)(j:(jB×Int)→World→Prop):Prop:=bQ 137 cW jR w fun aA aY=>M Pg 89 [.int .i64 (fB)] bo aY fun aI bc=>if (!aI)=true then (bi cW aA (⟨(0:Int),(0:Int)⟩:jB) bc fun bZ=>ex (L cW aA bZ) fun cH=>j (cH,(61:Int)) bZ) else (ex (bM aO) fun dE=>ex (L bo ((dE.add 0).add 3) bc) fun dD=>if (!dD)=true then (bi cW aA (⟨(0:Int),(0:Int)⟩:jB) bc fun cV=>ex (L cW aA cV) fun fm=>j (fm,(63:Int)) cV) else (ex (L (B .i64) (dE.add 5) bc) fun dP=>if (decide (fB<dP))=true then (bi cW aA (⟨(0:Int),(0:Int)⟩:jB) bc fun df=>ex (L cW aA df) fun ep=>j (ep,(62:Int)) df) else (dw bc fun dV=>ex (L (B .i64) ((dE.add 0).add 1) dV) fun j2=>ex (L (B .i64) ((dE.add 0).add 0) dV) fun cY=>if (decide ((IntKind.i64.wrap (j2+(IntKind.i64.wrap (fB-cY))))>(1125899906842624:Int)))=true then (bi cW aA (⟨(0:Int),(0:Int)⟩:jB) dV fun ev=>ex (L cW aA ev) fun gq=>j (gq,(64:Int)) ev) else (dw dV fun nY=>ex (L (B .i64) ((dE.add 0).add 1) nY) fun o3=>ex (L (B .i64) ((dE.add 0).add 0) nY) fun qc=>ex (L (B .i64) ((dE.add 0).add 2) nY) fun qd=>sT (M Pg 111 [.int .i64 ((IntKind.i64.wrap (o3+(IntKind.i64.wrap (fB-qc))))),.int .i64 (qd)] (bB cW (B .i64)) nY fun cL qa=>bG ((L (B .i64) ((dE.add 0).add 1) qa) o3)<|bG ((L (B .i64) ((dE.add 0).add 0) qa) qc)<|bQ 137 cW jR qa fun Gg sH=>bi cW Gg cL.1 sH fun qP=>Dc fB aA dE Gg qP j) (bQ 137 cW jR nY fun DC tv=>M Pg 111 [.int .i64 ((IntKind.i64.wrap (o3+(IntKind.i64.wrap (fB-qc))))),.int .i64 (qd)] (bB cW (B .i64)) tv fun di v8=>bG ((L (B .i64) ((dE.add 0).add 1) v8) o3)<|bG ((L (B .i64) ((dE.add 0).add 0) v8) qc)<|bi cW DC di.1 v8 fun IH=>Dc fB aA dE DC IH j)))))
theorem ajc{aO:aN}{fB:Int}{w:World}{j:(jB×Int)→World→Prop}(h:NM aO fB w j):M Pg 61 [.pointer (aO),.int .i64 (fB)] (bB cW (B .i64)) w j:=by
 unfold NM at h
 refine oH 107 Tryz.func61 rfl rfl (Nat.le_of_ble_eq_true rfl)<|wp_seq<|a4 _ rfl<|oJ oi Cc h rfl fun aA aY h=>o rfl<|aU<|wp_seq<|wp_block<|wp_seq<|a4 _ rfl<|o rfl<|ew anR rfl rfl h fun aI bc h=>?_
 refine aP _ rfl rfl rfl (nj rfl rfl)<|o rfl<|aU<|eb h rfl (fun _ h=>?_) fun _ h=>?_
 ·refine wp_seq<|a4 _ rfl<|aP 12 rfl rfl rfl (EY  rfl)<|jp oi h rfl rfl rfl fun bZ h=>o rfl<|aU<|wp_ret ?_
  obtain⟨cH,Ht,h⟩:=h
  exact om rfl (.cons (.cell (T:=cW) (u:=cH) (a:=aA) oi rfl Ht) (.cons (.tmp (v:=.int .i64 ((61:Int))) rfl) .nil)) ⟨(cH,(61:Int)),rfl,h⟩
 ·refine wp_seq<|a4 _ rfl<|o rfl<|JM h rfl rfl fun dE rk h=>gk _ _ _ Tryz.underlying175 yZ rfl rfl rfl<|gk _ _ _ Tryz.underlying173 oR rfl rfl rfl<|gQ oR h rfl rfl fun dD _ h=>aP _ rfl rfl rfl (nj rfl rfl)<|o rfl<|aU<|eb h rfl (fun _ h=>?_) fun _ h=>?_
  ·refine wp_seq<|a4 _ rfl<|aP 20 rfl rfl rfl (EY  rfl)<|jp oi h rfl rfl rfl fun cV h=>o rfl<|aU<|wp_ret ?_
   obtain⟨fm,yE,h⟩:=h
   exact om rfl (.cons (.cell (T:=cW) (u:=fm) (a:=aA) oi rfl yE) (.cons (.tmp (v:=.int .i64 ((63:Int))) rfl) .nil)) ⟨(fm,(63:Int)),rfl,h⟩
  ·refine wp_seq<|a4 _ rfl<|o rfl<|o rfl<|zx _ rk rfl rfl<|gk _ _ _ Tryz.underlying175 cS rfl rfl rfl<|gQ cS h rfl rfl fun dP _ h=>aP _ rfl rfl rfl (jw rfl rfl rfl)<|o rfl<|aU<|eb h rfl (fun _ h=>?_) fun _ h=>?_
   ·refine wp_seq<|a4 _ rfl<|aP 28 rfl rfl rfl (EY  rfl)<|jp oi h rfl rfl rfl fun df h=>o rfl<|aU<|wp_ret ?_
    obtain⟨ep,Qy,h⟩:=h
    exact om rfl (.cons (.cell (T:=cW) (u:=ep) (a:=aA) oi rfl Qy) (.cons (.tmp (v:=.int .i64 ((62:Int))) rfl) .nil)) ⟨(ep,(62:Int)),rfl,h⟩
   ·refine wp_seq ?_
    obtain⟨dV,Qr,h⟩:=n9 h
    refine o2 15 mixed rfl (by kernel_rfl) (by intro c a d v w h; cases d<;>exact h) Qr (fun ai=>?_)
    refine gj 0 30 (.pointer (aO)) ai rfl rfl<|ow 1 31 rk ai rfl rfl<|g_ 2 32 dE 0 Tryz.underlying175 yZ ai rfl rfl rfl<|g_ 3 33 (dE.add 0) 1 Tryz.underlying173 cS ai rfl rfl rfl<|gj 5 35 (.int .i64 (fB)) ai rfl rfl<|gj 6 36 (.pointer (aO)) ai rfl rfl<|ow 7 37 rk ai rfl rfl<|g_ 8 38 dE 0 Tryz.underlying175 yZ ai rfl rfl rfl<|g_ 9 39 (dE.add 0) 0 Tryz.underlying173 cS ai rfl rfl rfl ?_
    obtain⟨j2,asf,h⟩:=h
    refine hy 4 34 asf cS ai rfl rfl ?_
    obtain⟨cY,Ho,h⟩:=h
    refine hy 10 40 Ho cS ai rfl rfl<|fl 11 41 ai rfl rfl rfl (fun _=>vM (a:=fB) (e:=cY) rfl rfl rfl)<|fl 12 42 ai rfl rfl rfl (fun _=>ni (a:=j2) (e:=(IntKind.i64.wrap (fB-cY))) rfl rfl rfl)<|fl 13 43 ai rfl rfl rfl (fun _=>ss (a:=(IntKind.i64.wrap (j2+(IntKind.i64.wrap (fB-cY))))) (e:=(1125899906842624:Int)) rfl rfl rfl)<|A2 14 29 (.bool ((decide ((IntKind.i64.wrap (j2+(IntKind.i64.wrap (fB-cY))))>(1125899906842624:Int))))) ai rfl rfl<|kM (by kernel_rfl)<|eb h rfl (fun _ h=>?_) fun _ h=>?_
    ·refine wp_seq<|a4 _ rfl<|aP 44 rfl rfl rfl (EY  rfl)<|jp oi h rfl rfl rfl fun ev h=>o rfl<|aU<|wp_ret ?_
     obtain⟨gq,Hp,h⟩:=h
     exact om rfl (.cons (.cell (T:=cW) (u:=gq) (a:=aA) oi rfl Hp) (.cons (.tmp (v:=.int .i64 ((64:Int))) rfl) .nil)) ⟨(gq,(64:Int)),rfl,h⟩
    ·refine wp_skip<|vQ (bC:=Addr) (eM:=fun (s:Addr) w=>Dc fB aA dE s w j) (dp:=fun g (s:Addr)=>ae (ae (ae (ae (g) 0 (.pointer (aO))) 1 (.int .i64 (fB))) 4 (.pointer (some aA))) 6 (.pointer (some s))) ?_ ?_
     ·rintro qG g fa h
      unfold Dc at h
      refine wp_seq ?_
      obtain⟨eD,arS,h⟩:=n9 h
      refine o2 17 mixed rfl (by kernel_rfl) (by intro c a d v w h; cases d<;>exact h) arS (fun ai=>?_)
      refine gj 1 69 (.int .i64 (fB)) ai rfl rfl<|gj 2 70 (.pointer (aO)) ai rfl rfl<|ow 3 71 rk ai rfl rfl<|g_ 4 72 dE 0 Tryz.underlying175 yZ ai rfl rfl rfl<|g_ 5 73 (dE.add 0) 0 Tryz.underlying173 cS ai rfl rfl rfl<|gj 8 76 (.pointer (aO)) ai rfl rfl<|ow 9 77 rk ai rfl rfl<|g_ 10 78 dE 4 Tryz.underlying175 qv ai rfl rfl rfl ?_
      obtain⟨mi,ash,h⟩:=h
      refine hy 0 68 ash oi ai rfl rfl ?_
      obtain⟨eE,QA,h⟩:=h
      refine hy 6 74 QA cS ai rfl rfl<|fl 7 75 ai rfl rfl rfl (fun _=>vM (a:=fB) (e:=eE) rfl rfl rfl) ?_
      obtain⟨gi,Hq,h⟩:=h
      refine hy 11 79 Hq qv ai rfl rfl<|fq (i:=12) (by kernel_rfl)<|hC rfl (.free rfl) (gx (d:=(some 80)) rfl (fD (k:=112) (m:=[cW.enc (mi),.int .i64 ((IntKind.i64.wrap (fB-eE))),.float .f64 (gi)]) rfl amZ rfl) h ?_)
      intro ec gp h
      obtain⟨aqu,h⟩:=h
      refine⟨(hA (by kernel_rfl) (fc (fun _=>aqu) (hA (by kernel_rfl) h9))),?_⟩
      refine gj 13 67 ((bB cW (B .i64)).enc (ec)) ai rfl rfl<|fl 14 81 ai rfl rfl rfl (fun _=>xg (a0:=#[cW.enc (ec.1),.int .i64 (ec.2)]) (v:=cW.enc (ec.1)) rfl rfl rfl)<|fl 15 82 ai rfl rfl rfl (fun _=>xg (a0:=#[cW.enc (ec.1),.int .i64 (ec.2)]) (v:=.int .i64 (ec.2)) rfl rfl rfl)<|fq (i:=16) (by kernel_rfl) ?_
      obtain⟨gV,Qt,ars,h⟩:=sD h
      refine uu (d:=none) rfl (.free rfl) rfl (st (T:=cW) (u:=ec.1) (a:=qG) rfl oi rfl rfl ars Qt) ⟨(hA (by kernel_rfl) (hA (by kernel_rfl) (hA (by kernel_rfl) h9))),?_⟩
      refine kM (by kernel_rfl)<|wp_seq ?_
      obtain⟨hX,Qu,h⟩:=n9 h
      refine o2 9 mixed rfl (by kernel_rfl) (by intro c a d v w h; cases d<;>exact h) Qu (fun ai=>?_)
      refine g_ 0 83 qG 0 Tryz.underlying137 cS ai rfl rfl rfl<|gj 2 85 (.pointer (aO)) ai rfl rfl<|ow 3 86 rk ai rfl rfl<|g_ 4 87 dE 6 Tryz.underlying175 cS ai rfl rfl rfl ?_
      obtain⟨kQ,QC,h⟩:=h
      refine hy 1 84 QC cS ai rfl rfl ?_
      obtain⟨mC,Hr,h⟩:=h
      refine hy 5 88 Hr cS ai rfl rfl<|fl 6 89 ai rfl rfl rfl (fun _=>LC (a:=kQ) (e:=mC) rfl rfl rfl)<|g_ 7 90 qG 0 Tryz.underlying137 cS ai rfl rfl rfl<|fq (i:=8) (by kernel_rfl) ?_
      obtain⟨kO,arX,art,h⟩:=sD h
      refine uu (d:=none) rfl (.free rfl) rfl (st (T:=(B .i64)) (u:=(max kQ mC)) (a:=(qG.add 0)) rfl cS rfl rfl art arX) ⟨(hA (by kernel_rfl) (hA (by kernel_rfl) h9)),?_⟩
      refine kM (by kernel_rfl)<|wp_seq<|a4 _ rfl<|gk _ _ _ Tryz.underlying137 cS rfl rfl rfl<|gQ cS h rfl rfl fun mj _ h=>gk _ _ _ Tryz.underlying137 cS rfl rfl rfl<|gQ cS h rfl rfl fun zv _ h=>aP _ rfl rfl rfl (LC rfl rfl rfl)<|gk _ _ _ Tryz.underlying137 cS rfl rfl rfl<|jp cS h rfl rfl rfl fun lp h=>aU<|wp_seq ?_
      obtain⟨mA,ar0,h⟩:=n9 h
      refine o2 11 mixed rfl (by kernel_rfl) (by intro c a d v w h; cases d<;>exact h) ar0 (fun ai=>?_)
      refine gj 0 97 (.pointer (aO)) ai rfl rfl<|gj 1 98 (.pointer (aO)) ai rfl rfl<|gj 2 99 (.int .i64 (fB)) ai rfl rfl<|g_ 3 100 qG 0 Tryz.underlying137 cS ai rfl rfl rfl<|ow 5 102 rk ai rfl rfl<|g_ 6 103 dE 5 Tryz.underlying175 cS ai rfl rfl rfl ?_
      obtain⟨iC,asm,h⟩:=h
      refine hy 4 101 asm cS ai rfl rfl<|fq (i:=7) (by kernel_rfl) ?_
      obtain⟨k6,ar1,aru,h⟩:=sD h
      obtain⟨P0,h⟩:=h
      refine uu (d:=none) rfl (.free rfl) rfl (st (T:=(B .i64)) (u:=fB) (a:=(dE.add 5)) rfl cS rfl rfl aru ar1) ⟨(fc (fun _=>P0) h9),?_⟩
      refine ow 8 104 rk ai rfl rfl<|g_ 9 105 dE 6 Tryz.underlying175 cS ai rfl rfl rfl<|fq (i:=10) (by kernel_rfl) ?_
      obtain⟨v6,ar2,arv,h⟩:=sD h
      refine uu (d:=none) rfl (.free rfl) rfl (st (T:=(B .i64)) (u:=iC) (a:=(dE.add 6)) rfl cS rfl rfl arv ar2) ⟨(hA (by kernel_rfl) h9),?_⟩
      refine kM (by kernel_rfl)<|wp_seq<|a4 _ rfl<|gQ oi h rfl rfl fun tx _ h=>jp oi h rfl rfl rfl fun uH h=>o rfl<|aU<|wp_ret ?_
      obtain⟨rO,QG,h⟩:=h
      exact om rfl (.cons (.cell (T:=cW) (u:=rO) (a:=aA) oi rfl QG) (.cons (.tmp (v:=.int .i64 ((0:Int))) rfl) .nil)) ⟨(rO,(0:Int)),rfl,h⟩
     ·obtain⟨nY,ar3,h⟩:=n9 h
      refine o2 25 mixed rfl (by kernel_rfl) (by intro c a d v w h; cases d<;>exact h) ar3 (fun ai=>?_)
      refine gj 0 46 (.pointer (aO)) ai rfl rfl<|ow 1 47 rk ai rfl rfl<|g_ 2 48 dE 0 Tryz.underlying175 yZ ai rfl rfl rfl<|g_ 3 49 (dE.add 0) 1 Tryz.underlying173 cS ai rfl rfl rfl<|gj 5 51 (.int .i64 (fB)) ai rfl rfl<|gj 6 52 (.pointer (aO)) ai rfl rfl<|ow 7 53 rk ai rfl rfl<|g_ 8 54 dE 0 Tryz.underlying175 yZ ai rfl rfl rfl<|g_ 9 55 (dE.add 0) 0 Tryz.underlying173 cS ai rfl rfl rfl<|gj 13 59 (.pointer (aO)) ai rfl rfl<|ow 14 60 rk ai rfl rfl<|g_ 15 61 dE 0 Tryz.underlying175 yZ ai rfl rfl rfl ?_
      refine g_ 16 62 (dE.add 0) 2 Tryz.underlying173 cS ai rfl rfl rfl ?_
      obtain⟨o3,QH,h⟩:=h
      refine hy 4 50 QH cS ai rfl rfl ?_
      obtain⟨qc,QI,h⟩:=h
      refine hy 10 56 QI cS ai rfl rfl<|fl 11 57 ai rfl rfl rfl (fun _=>vM (a:=fB) (e:=qc) rfl rfl rfl)<|fl 12 58 ai rfl rfl rfl (fun _=>ni (a:=o3) (e:=(IntKind.i64.wrap (fB-qc))) rfl rfl rfl) ?_
      obtain⟨qd,Hs,h⟩:=h
      refine hy 17 63 Hs cS ai rfl rfl ?_
      obtain⟨h,fG⟩:=h
      refine aev (i:=18) (D:=22) (by kernel_rfl) ?_ ?_
      ·clear fG
       refine hC rfl (.free rfl) (gx (d:=(some 64)) rfl (fD (k:=111) (m:=[.int .i64 ((IntKind.i64.wrap (o3+(IntKind.i64.wrap (fB-qc))))),.int .i64 (qd)]) rfl YT rfl) h ?_)
       intro cL qa h
       obtain⟨Ej,h⟩:=h
       obtain⟨aqC,h⟩:=h
       refine⟨(hA (by kernel_rfl) (fc (fun _=>aqC) (fc (fun _=>Ej) h9))),?_⟩
       refine gj 19 45 ((bB cW (B .i64)).enc (cL)) ai rfl rfl<|fl 20 65 ai rfl rfl rfl (fun _=>xg (a0:=#[cW.enc (cL.1),.int .i64 (cL.2)]) (v:=cW.enc (cL.1)) rfl rfl rfl)<|fl 21 66 ai rfl rfl rfl (fun _=>xg (a0:=#[cW.enc (cL.1),.int .i64 (cL.2)]) (v:=.int .i64 (cL.2)) rfl rfl rfl)<|fq (i:=22) (by kernel_rfl) ?_
       obtain⟨Gg,sH,apj,Kx,h⟩:=oQ h
       refine y_ (d:=(some 6)) rfl (.free rfl) rfl (H6 (u:=jR) rfl oi Cc apj Kx) ⟨(fc (fun h=>yM Kx h) (fc (fun h=>yM Kx h) (fc (fun h=>yM Kx h) h9))),?_⟩
       refine fq (i:=23) (by kernel_rfl) ?_
       obtain⟨qP,ar5,arx,h⟩:=sD h
       refine uu (d:=none) rfl (.free rfl) rfl (st (T:=cW) (u:=cL.1) (a:=Gg) rfl oi rfl rfl arx ar5) ⟨(hA (by kernel_rfl) (hA (by kernel_rfl) (hA (by kernel_rfl) h9))),?_⟩
       refine A2 24 7 (.int .i64 (cL.2)) ai rfl rfl<|kM (by kernel_rfl) ?_
       exact⟨(Gg),_,aX (aC (aC (aC (aC rfl rfl) rfl) rfl) rfl),h⟩
      ·replace h:=fG; clear fG
       obtain⟨DC,tv,apk,Ky,h⟩:=oQ h
       refine y_ (d:=(some 6)) rfl (.free rfl) rfl (H6 (u:=jR) rfl oi Cc apk Ky) ⟨(fc (fun h=>yM Ky h) (fc (fun h=>yM Ky h) (fc (fun h=>yM Ky h) h9))),?_⟩
       refine fq (i:=18) (by kernel_rfl)<|hC rfl (.free rfl) (gx (d:=(some 64)) rfl (fD (k:=111) (m:=[.int .i64 ((IntKind.i64.wrap (o3+(IntKind.i64.wrap (fB-qc))))),.int .i64 (qd)]) rfl YT rfl) h ?_)
       intro di v8 h
       obtain⟨aqD,h⟩:=h
       obtain⟨aqE,h⟩:=h
       refine⟨(hA (by kernel_rfl) (fc (fun _=>aqE) (fc (fun _=>aqD) h9))),?_⟩
       refine gj 19 45 ((bB cW (B .i64)).enc (di)) ai rfl rfl<|fl 20 65 ai rfl rfl rfl (fun _=>xg (a0:=#[cW.enc (di.1),.int .i64 (di.2)]) (v:=cW.enc (di.1)) rfl rfl rfl)<|fl 21 66 ai rfl rfl rfl (fun _=>xg (a0:=#[cW.enc (di.1),.int .i64 (di.2)]) (v:=.int .i64 (di.2)) rfl rfl rfl)<|fq (i:=23) (by kernel_rfl) ?_
       obtain⟨IH,ar6,ary,h⟩:=sD h
       refine uu (d:=none) rfl (.free rfl) rfl (st (T:=cW) (u:=di.1) (a:=DC) rfl oi rfl rfl ary ar6) ⟨(hA (by kernel_rfl) (hA (by kernel_rfl) (hA (by kernel_rfl) h9))),?_⟩
       refine A2 24 7 (.int .i64 (di.2)) ai rfl rfl<|kM (by kernel_rfl) ?_
       exact⟨(DC),_,aX (aC (aC (aC (aC rfl rfl) rfl) rfl) rfl),h⟩
def Wz(bV:aN)(kR:j3)(w:World)(j:Int→World→Prop):Prop:=bQ 142 fY kR w fun aA aY=>ex (L (B .i64) (aA.add 0) aY) fun dQ=>M Pg 113 [.int .i64 (dQ)] bo aY fun bU b3=>if (!bU)=true then (j (192:Int) b3) else (dw b3 fun bJ=>ex (bM bV) fun dE=>ex (L aE (dE.add 0) bJ) fun dD=>ex (L fY aA bJ) fun cQ=>M Pg 114 [fY.enc (cQ)] X bJ fun eB cC=>bG ((L aE (dE.add 0) cC) dD)<|M Pg 98 [.pointer (dD),X.enc (eB)] (B .i64) cC fun mf dU=>bG ((L fY aA dU) cQ)<|if (mf != (0:Int))=true then (j mf dU) else (ex (L fY aA dU) fun cY=>M Pg 115 [.pointer (bV),fY.enc (cY)] (B .i64) dU fun mR ev=>j mR ev))
theorem ajd{bV kR w j}(h:Wz bV kR w j):M Pg 62 [.pointer bV,fY.enc kR] (B .i64) w j:=by
 have gC:=eI 4 (dJ [0,1,2,3,4,5,6,7] .l)
 exact bu 23 Tryz.func62 rfl rfl bw
def WA(bV:aN)(bt:Int)(w:World)(j:Int→World→Prop):Prop:=M Pg 116 [.int .i64 (bt)] bo w fun bq bl=>if (!bq)=true then (j (100:Int) bl) else (ex (bM bV) fun b1=>ex (L (B .i64) (b1.add 0) bl) fun b_=>bi (B .i64) (b1.add 0) (max b_ bt) bl fun bZ=>j (0:Int) bZ)
theorem aje{bV bt w j}(h:WA bV bt w j):M Pg 63 [.pointer bV,.int .i64 bt] (B .i64) w j:=
 bu 17 Tryz.func63 rfl rfl bw
def WB(dc:aN)(hg:Int)(w:World)(j:(af×Int)→World→Prop):Prop:=ex (bM dc) fun aA=>ex (L aE ((aA.add 0).add 0) w) fun dk=>M Pg 117 [.pointer (dk),.int .i64 (hg)] (bB X (B .i64)) w fun aI bc=>M Pg 118 [.int .i64 (aI.2)] (B .i64) bc fun a7 bZ=>j (aI.1,a7) bZ
theorem ajf{dc hg w j}(h:WB dc hg w j):M Pg 64 [.pointer dc,.int .i64 hg] (bB X (B .i64)) w j:=
 bu 21 Tryz.func64 rfl rfl bw
def FU(c2:af)(ke:Bool)(bJ:World)(j:((Option Nat)×Int×Int)→World→Prop):Prop:=if ke=true then (j ((none:Option Nat),(0:Int),(180:Int)) bJ) else (ur bJ fun EB b6=>bQ 146 eC (none:Option Nat) b6 fun fS cC=>bQ 2 (B .i64) (0:Int) cC fun e1 df=>bi eC fS (some EB) df fun dU=>bi (B .i64) e1 (0:Int) dU fun dV=>M Pg 121 [X.enc (c2),((cw.mk (.func 122) (List.toArray []) (List.toArray [.pointer (some fS),.pointer (some e1)]))).enc] (B .i64) dV fun ea db=>dw db fun ev=>ex (L eC fS ev) fun gq=>ex (L (B .i64) e1 ev) fun k8=>j (gq,k8,ea) ev)
def WC(xV:Int)(c2:af)(w:World)(j:((Option Nat)×Int×Int)→World→Prop):Prop:=bQ 2 (B .i64) xV w fun aA aY=>ex (L (B .i64) aA aY) fun dQ=>ex (fun x=>(!(decide (dQ<(0:Int))))=true→(L (B .i64) aA aY) x) fun b_=>if ((decide (dQ<(0:Int)))||(decide (b_>(1125899906842624:Int))))=true then (FU c2 true aY j) else (M Pg 119 [X.enc (c2),((cw.mk (.func 120) (List.toArray []) (List.toArray [.pointer (some aA)]))).enc] bo aY fun g3 fX=>FU c2 g3 fX j)
theorem ajg{xV c2 w j}(h:WC xV c2 w j):M Pg 65 [.int .i64 xV,X.enc c2] (mz eC (B .i64) (B .i64)) w j:=by
 have gC:=eI 6 (dJ [2,0,3,1,4,5] .l)
 have rv:=sb (bC:=Bool) [7,8,9,10] [] (fun s w=>FU c2 s w j) (fun g s=>ae (ae g 1 (X.enc c2)) 20 (.bool s))
 exact bu 28 Tryz.func65 rfl rfl bw
def WD(dm:aN)(w:World)(j:Bool→World→Prop):Prop:=ex (bM dm) fun a1=>ex (L bo (a1.add 2) w) fun ej=>j ej w
theorem ajh{dm w j}(h:WD dm w j):M Pg 66 [.pointer dm] bo w j:=
 bu 7 Tryz.func66 rfl rfl bw
def WE(aO:aN)(cd:Int)(JK:cw)(w:World)(j:Int→World→Prop):Prop:=ex (fun x=>(!(decide (cd<(0:Int))))=true→(bM aO) x) fun a9=>ex (fun x=>(!(decide (cd<(0:Int))))=true→(L X (a9.add 5) w) x) fun dQ=>if ((decide (cd<(0:Int)))||(decide (cd≥(dQ.len:Int))))=true then (j (202:Int) w) else (ex (bM aO) fun b2=>ex (L X (b2.add 5) w) fun bS=>ex (cT bS 1 cd) fun cZ=>ex (L aE cZ w) fun cJ=>sV Pg JK [.pointer (cJ)] eh w fun g8 cu=>j (0:Int) cu)
theorem aji{aO cd JK w j}(h:WE aO cd JK w j):M Pg 67 [.pointer aO,.int .i64 cd,JK.enc] (B .i64) w j:=
 bu 27 Tryz.func67 rfl rfl bw
def WG(fP:aN)(bt:Addr)(b5:Addr)(fi:Addr)(w:World)(j:Unit→World→Prop):Prop:=dw w fun bc=>ex (L aE bt bc) fun b_=>ex (bM b_) fun cj=>ex (L aE (cj.add 6) bc) fun cH=>ex (L (B .i64) b5 bc) fun cJ=>ex (L bo fi bc) fun dD=>M Pg 69 [.pointer (cH),.int .i64 (cJ),.bool (dD)] (B .i64) bc fun bs cV=>bG ((L aE bt cV) b_)<|j () cV
theorem ajj{fP bt b5 fi w j}(h:WG fP bt b5 fi w j):M Pg 68 [.pointer fP,.pointer (some bt),.pointer (some b5),.pointer (some fi)] eh w j:=by
 have gC:=eI 1 (dJ [0,1,2,3,4,5,6] .l)
 exact bu 12 Tryz.func68 rfl rfl bw
def FV(aY:World)(j:Int→World→Prop):Prop:=j (0:Int) aY
def WH(bf:aN)(oP:Int)(sg:Bool)(w:World)(j:Int→World→Prop):Prop:=M Pg 124 [.pointer (bf),.int .i64 (oP)] bo w fun aI bc=>if (!aI)=true then (j (90:Int) bc) else (if sg=true then (ex (bM bf) fun cj=>ex (L eC (cj.add 3) bc) fun cH=>qt fF .i64 cH oP (⟨⟩:o8) bc fun b6=>FV b6 j) else (ex (bM bf) fun e0=>ex (L eC (e0.add 3) bc) fun cQ=>HN fF .i64 cQ oP bc fun cC=>FV cC j))
theorem ajk{bf oP sg w j}(h:WH bf oP sg w j):M Pg 69 [.pointer bf,.int .i64 oP,.bool sg] (B .i64) w j:=by
 have jt:=iz (bC:=Unit) 7 (fun s w=>FV w j) (fun g s=>g)
 exact bu 25 Tryz.func69 rfl rfl bw
def WJ(bf:aN)(bt:Addr)(b5:Addr)(w:World)(j:Unit→World→Prop):Prop:=dw w fun aY=>ex (bM bf) fun b1=>ex (L aE (b1.add 2) aY) fun b_=>ex (L (B .i64) bt aY) fun bS=>ex (L X b5 aY) fun cH=>M Pg 71 [.pointer (b_),.int .i64 (bS),X.enc (cH)] eh aY fun a6 b6=>j () b6
theorem ajm{bf bt b5 w j}(h:WJ bf bt b5 w j):M Pg 70 [.pointer bf,.pointer (some bt),.pointer (some b5)] eh w j:=by
 have gC:=eI 1 (dJ [0,1,2,3,4,5,6] .l)
 exact bu 11 Tryz.func70 rfl rfl bw
def WK(dm:aN)(b0:Int)(yL:af)(w:World)(j:Unit→World→Prop):Prop:=ex (bM dm) fun a9=>bi (B .i64) (a9.add 3) (max b0 (0:Int)) w fun bc=>ex (L X (a9.add 4) bc) fun b_=>wG (B .i64) 1 (0:Int) b_ bc fun bZ=>ex (L X (a9.add 4) bZ) fun cH=>ex (Sub cH 1 0 (0:Int) (0:Int)) fun aeO=>tO 3 (B .i64) 1 8 aeO yL bZ fun g8 cu=>bi X (a9.add 4) g8 cu fun cC=>j () cC
theorem ajn{dm b0 yL w j}(h:WK dm b0 yL w j):M Pg 71 [.pointer dm,.int .i64 b0,X.enc yL] eh w j:=
 bu 25 Tryz.func71 rfl rfl bw
def WL(bf:aN)(bt:Addr)(b5:Addr)(w:World)(j:Unit→World→Prop):Prop:=ex (bM bf) fun a9=>ex (L aE (a9.add 2) w) fun dQ=>M Pg 66 [.pointer (dQ)] bo w fun bU b3=>if bU=true then (ex (L aE (a9.add 2) b3) fun cH=>M Pg 73 [.pointer (cH)] eh b3 fun a6 b6=>ex (L aE bt b6) fun cQ=>M Pg 42 [.pointer (cQ),.pointer (bf)] (B .i64) b6 fun eB cC=>bi (B .i64) b5 eB cC fun df=>j () df) else (j () b3)
theorem ajo{bf bt b5 w j}(h:WL bf bt b5 w j):M Pg 72 [.pointer bf,.pointer (some bt),.pointer (some b5)] eh w j:=
 bu 17 Tryz.func72 rfl rfl bw
def WM(dm:aN)(w:World)(j:Unit→World→Prop):Prop:=ex (bM dm) fun a1=>bi bo (a1.add 2) false w fun bl=>j () bl
theorem ajp{dm w j}(h:WM dm w j):M Pg 73 [.pointer dm] eh w j:=
 bu 5 Tryz.func73 rfl rfl bw
def NQ(zV:cw)(aA:Addr)(a7:af)(hk:Int)(cu:World)(N5:Int→World→Prop)(j:Unit→World→Prop):Prop:=if (decide (hk<(a7.len:Int)))=true then (ex (cT a7 1 hk) fun fZ=>ex (L (B .i64) fZ cu) fun dP=>ex (L eC (aA.add 6) cu) fun eO=>ex (iD aE .i64 eO dP cu) fun th=>sV Pg zV [.int .i64 (dP),.pointer ((th.getD (none:Option Addr)))] eh cu fun ps dV=>N5 ((IntKind.i64.wrap (hk+(1:Int)))) dV) else (j () cu)
def WN(bf:aN)(zV:cw)(w:World)(j:Unit→World→Prop):Prop:=ex (bM bf) fun aA=>ex (L eC (aA.add 6) w) fun dk=>M Pg 125 [.map (dk)] gw w fun aI bc=>M Pg 59 [(aI).enc] X bc fun a7 bZ=>fh (fun (s:Int) w ab=>NQ zV aA a7 s w ab j) ((0:Int)) bZ
theorem ajq{bf zV w j}(h:WN bf zV w j):M Pg 74 [.pointer bf,zV.enc] eh w j:=by
 have ju:=fun {aA} {a7:af}=>hJ (bC:=Int) 2 (fun s w ab=>NQ zV aA a7 s w ab j) (fun g s=>ae (ae (ae (ae (ae g 0 (.pointer bf)) 1 (zV.enc)) 11 (X.enc a7)) 12 (.int .i64 ((a7.len:Int)))) 13 (.int .i64 s))
 exact bu 27 Tryz.func74 rfl rfl bw
def WO(fP:Int)(sm:aN)(b5:Addr)(fi:Addr)(w:World)(j:Unit→World→Prop):Prop:=ex (L aE b5 w) fun dQ=>ex (L aE fi w) fun b_=>M Pg 76 [.pointer (dQ),.pointer (b_),.pointer (sm)] eh w fun a7 bZ=>j () bZ
theorem ajr{fP sm b5 fi w j}(h:WO fP sm b5 fi w j):M Pg 75 [.int .i64 fP,.pointer sm,.pointer (some b5),.pointer (some fi)] eh w j:=
 bu 10 Tryz.func75 rfl rfl bw
def FX(aO:aN)(b0:aN)(kf:Int)(gJ:Addr)(je:Addr)(fa:World)(m1:Int→World→Prop)(j:Unit→World→Prop):Prop:=dw fa fun eD=>ex (L (B .i64) (gJ.add 1) eD) fun mi=>ex (L eW je eD) fun eE=>M Pg 54 [.pointer (aO),.int .i64 (mi)] (B .i64) eD fun fk fe=>bG ((L eW je fe) eE)<|M Pg 77 [.pointer (b0),.int .i64 (fk),eW.enc (eE)] eh fe fun su lN=>bG ((L (B .i64) (gJ.add 1) lN) mi)<|m1 ((IntKind.i64.wrap (kf+(1:Int)))) lN
def NR(aO:aN)(b0:aN)(jv:aN)(bm:(Int×Int))(bU:af)(kf:Int)(b6:World)(m1:Int→World→Prop)(j:Unit→World→Prop):Prop:=if (decide (kf<(bU.len:Int)))=true then (ex (cT bU 1 kf) fun fS=>ex (L bo fS b6) fun fm=>M Pg 127 [.pointer (jv),.bool (fm)] hd b6 fun dt cA=>bQ 60 hd zO cA fun gJ dV=>bi hd gJ dt dV fun db=>ex (L hd gJ db) fun cY=>bQ 62 eW uU db fun je eJ=>bi eW je (⟨(1:Int),cY,false,(0:Int)⟩:iE) eJ fun eK=>if (bm.1 != (0:Int))=true then (ex (L (B .i64) (gJ.add 0) eK) fun kQ=>bi eW je (⟨(3:Int),(⟨kQ,(0:Int),(0:Int),false⟩:iO),(bm.1==(2:Int)),bm.2⟩:iE) eK fun iL=>FX aO b0 kf gJ je iL m1 j) else (FX aO b0 kf gJ je eK m1 j)) else (j () b6)
def WP(aO:aN)(b0:aN)(jv:aN)(w:World)(j:Unit→World→Prop):Prop:=M Pg 55 [.pointer (jv)] (bB (B .i64) (B .i64)) w fun bm aY=>M Pg 126 [.pointer (jv)] X aY fun bU b3=>fh (fun (s:Int) w ab=>NR aO b0 jv bm bU s w ab j) ((0:Int)) b3
theorem ajs{aO b0 jv w j}(h:WP aO b0 jv w j):M Pg 76 [.pointer aO,.pointer b0,.pointer jv] eh w j:=by
 have gC:=eI 9 (dJ [0,1,2,3,5,4,6] .l)
 have jt:=fun {kf} {gJ} {je} {m1} {bm:(Int×Int)} {bU:af}=>iz (bC:=Unit) 9 (fun s w=>FX aO b0 kf gJ je w m1 j) (fun g s=>ae (ae (ae (ae (ae (ae (ae (ae (ae (ae g 0 (.pointer aO)) 1 (.pointer b0)) 2 (.pointer jv)) 6 (.int .i64 (bm.1))) 7 (.int .i64 (bm.2))) 10 (.pointer (some gJ))) 11 (.pointer (some je))) 18 (X.enc bU)) 19 (.int .i64 ((bU.len:Int)))) 20 (.int .i64 kf))
 have ju:=fun {bm:(Int×Int)} {bU:af}=>hJ (bC:=Int) 3 (fun s w ab=>NR aO b0 jv bm bU s w ab j) (fun g s=>ae (ae (ae (ae (ae (ae (ae (ae g 0 (.pointer aO)) 1 (.pointer b0)) 2 (.pointer jv)) 6 (.int .i64 (bm.1))) 7 (.int .i64 (bm.2))) 18 (X.enc bU)) 19 (.int .i64 ((bU.len:Int)))) 20 (.int .i64 s))
 exact bu 46 Tryz.func76 rfl rfl bw
def WQ(bf:aN)(Mb:Int)(w8:iE)(w:World)(j:Unit→World→Prop):Prop:=bQ 62 eW w8 w fun a9 bc=>dw bc fun b3=>ex (bM bf) fun cj=>ex (L X (cj.add 8) b3) fun cH=>ex (L eW a9 b3) fun cJ=>mn 161 ws 8 64 cH [(⟨Mb,cJ⟩:tH)] b3 fun eB cC=>bG ((L eW a9 cC) cJ)<|bi X (cj.add 8) eB cC fun dU=>j () dU
theorem ajt{bf Mb w8 w j}(h:WQ bf Mb w8 w j):M Pg 77 [.pointer bf,.int .i64 Mb,eW.enc w8] eh w j:=by
 have gC:=eI 2 (dJ [0,1,2,3,5,4,6,7,8,9,10,11,12] .l)
 exact bu 18 Tryz.func77 rfl rfl bw
def WR(ng:Int)(w:World)(j:Int→World→Prop):Prop:=j (IntKind.i64.wrap (Int.tdiv (IntKind.i64.wrap (ng+(1:Int))) (2:Int))) w
theorem aju{ng w j}(h:WR ng w j):M Pg 78 [.int .i64 ng] (B .i64) w j:=
 bu 6 Tryz.func78 rfl rfl bw
def WS(ng:Int)(MA:Bool)(b5:Int)(w:World)(j:iE→World→Prop):Prop:=bQ 62 eW uU w fun a9 bc=>bi eW a9 (⟨(2:Int),(⟨ng,(0:Int),(0:Int),false⟩:iO),MA,b5⟩:iE) bc fun b3=>ex (L eW a9 b3) fun bS=>j bS b3
theorem ajv{ng MA b5 w j}(h:WS ng MA b5 w j):M Pg 79 [.int .i64 ng,.bool MA,.int .i64 b5] eW w j:=
 bu 12 Tryz.func79 rfl rfl bw
def I6(a6:Int)(cA:World)(j:Int→World→Prop):Prop:=j a6 cA
def WT(qQ:aN)(w:World)(j:Int→World→Prop):Prop:=ex (bM qQ) fun a1=>ex (L bo (a1.add 4) w) fun ej=>if ej=true then (j (81:Int) w) else (dw w fun aY=>ex (L aE (a1.add 2) aY) fun dQ=>ex (L (B .i64) (a1.add 3) aY) fun b_=>M Pg 129 [.pointer (dQ),.int .i64 (b_)] (B .i64) aY fun a7 bZ=>M Pg 128 [.pointer (qQ),.int .i64 (a7)] (B .i64) bZ fun a6 b6=>bG ((L aE (a1.add 2) b6) dQ)<|bG ((L (B .i64) (a1.add 3) b6) b_)<|if (a6==(0:Int))=true then (ex (L (B .i64) ((a1.add 0).add 0) b6) fun eO=>bi (B .i64) ((a1.add 0).add 1) eO b6 fun dU=>I6 a6 dU j) else (I6 a6 b6 j))
theorem ajx{qQ w j}(h:WT qQ w j):M Pg 80 [.pointer qQ] (B .i64) w j:=by
 have gC:=eI 4 (dJ [0,1,2,3,5,6,7,4,8,9,10,11] .l)
 have jt:=fun {a6}=>iz (bC:=Unit) 7 (fun s w=>I6 a6 w j) (fun g s=>ae g 3 (.int .i64 a6))
 exact bu 31 Tryz.func80 rfl rfl bw
def FY(bf:aN)(ix:Int)(xq:Int)(b1:Addr)(hk:Bool)(cu:World)(j:(Int×Int)→World→Prop):Prop:=if hk=true then (j ((0:Int),(90:Int)) cu) else (ex (bM bf) fun fS=>ex (L (B .i64) (fS.add 1) cu) fun fm=>ex (L eW b1 cu) fun dP=>M Pg 130 [.pointer (bf),eQ.enc ((⟨(IntKind.i64.wrap (fm+(1:Int))),ix,xq,dP⟩:hc))] (B .i64) cu fun fI df=>if (fI != (0:Int))=true then (j ((0:Int),fI) df) else (bi (B .i64) (fS.add 1) (IntKind.i64.wrap (fm+(1:Int))) df fun dV=>j ((IntKind.i64.wrap (fm+(1:Int))),(0:Int)) dV))
def WU(bf:aN)(ix:Int)(xq:Int)(yV:iE)(w:World)(j:(Int×Int)→World→Prop):Prop:=bQ 62 eW yV w fun b1 b3=>M Pg 124 [.pointer (bf),.int .i64 (ix)] bo b3 fun a7 bZ=>if (!a7)=true then (FY bf ix xq b1 true bZ j) else (M Pg 124 [.pointer (bf),.int .i64 (xq)] bo bZ fun pt eJ=>FY bf ix xq b1 (!pt) eJ j)
theorem ajy{bf ix xq yV w j}(h:WU bf ix xq yV w j):M Pg 81 [.pointer bf,.int .i64 ix,.int .i64 xq,eW.enc yV] (bB (B .i64) (B .i64)) w j:=by
 have rv:=fun {b1}=>sb (bC:=Bool) [5,6,7,8,9] [] (fun s w=>FY bf ix xq b1 s w j) (fun g s=>ae (ae (ae (ae (ae g 0 (.pointer bf)) 1 (.int .i64 ix)) 2 (.int .i64 xq)) 7 (.pointer (some b1))) 21 (.bool s))
 exact bu 42 Tryz.func81 rfl rfl bw
def FZ(bf:aN)(cd:Int)(aA:Addr)(cj:Addr)(mg:Bool)(db:World)(j:(hc×Int)→World→Prop):Prop:=if mg=true then (bi eQ aA (⟨(0:Int),(0:Int),(0:Int),uU⟩:hc) db fun gb=>ex (L eQ aA gb) fun hY=>j (hY,(93:Int)) gb) else (ex (bM bf) fun pH=>ex (L X (pH.add 2) db) fun k8=>M Pg 133 [X.enc (k8),.int .i64 (cd),.int .i64 ((IntKind.i64.wrap (cd+(1:Int))))] X db fun mS fa=>bi X (pH.add 2) mS fa fun fX=>ex (L eQ cj fX) fun eE=>bi eQ aA eE fX fun fe=>ex (L eQ aA fe) fun iM=>j (iM,(0:Int)) fe)
def WV(bf:aN)(cd:Int)(w:World)(j:(hc×Int)→World→Prop):Prop:=bQ 64 eQ lw w fun aA aY=>M Pg 131 [.pointer (bf),.int .i64 (cd)] (bB eQ (B .i64)) aY fun aI bc=>bQ 64 eQ lw bc fun cj bJ=>bi eQ cj aI.1 bJ fun b6=>if (aI.2 != (0:Int))=true then (ex (L eQ cj b6) fun dD=>bi eQ aA dD b6 fun cV=>ex (L eQ aA cV) fun fm=>j (fm,aI.2) cV) else (ex (L (B .i64) (cj.add 1) b6) fun dP=>M Pg 132 [.pointer (bf),.int .i64 (dP)] bo b6 fun fI df=>if fI=true then (FZ bf cd aA cj true df j) else (ex (L (B .i64) (cj.add 2) df) fun kw=>M Pg 132 [.pointer (bf),.int .i64 (kw)] bo df fun sv hX=>FZ bf cd aA cj sv hX j))
theorem ajz{bf cd w j}(h:WV bf cd w j):M Pg 82 [.pointer bf,.int .i64 cd] (bB eQ (B .i64)) w j:=by
 have rv:=fun {aA} {cj}=>sb (bC:=Bool) [5,6,7,8,9] [] (fun s w=>FZ bf cd aA cj s w j) (fun g s=>ae (ae (ae (ae (ae g 0 (.pointer bf)) 1 (.int .i64 cd)) 4 (.pointer (some aA))) 6 (.pointer (some cj))) 27 (.bool s))
 exact bu 41 Tryz.func82 rfl rfl bw
def WW(bf:aN)(ix:Int)(jv:iO)(w:World)(j:Unit→World→Prop):Prop:=bQ 60 hd jv w fun a9 bc=>dw bc fun b3=>ex (bM bf) fun cj=>ex (L aE (cj.add 4) b3) fun cH=>ex (L (B .i64) (a9.add 0) b3) fun cJ=>M Pg 30 [.pointer (cH)] aE b3 fun g8 cu=>bG ((L (B .i64) (a9.add 0) cu) cJ)<|M Pg 10 [.pointer (g8),.int .i64 (cJ)] (bB (B .i64) (B .i64)) cu fun dt cA=>bG ((L aE (cj.add 4) cA) cH)<|if (dt.1==(1:Int))=true then (ex (L (B .i64) (a9.add 0) cA) fun bL=>M Pg 79 [.int .i64 (bL),.bool (true),.int .i64 (dt.2)] eW cA fun ea db=>M Pg 77 [.pointer (bf),.int .i64 (ix),eW.enc (ea)] eh db fun mR ev=>j () ev) else (if (dt.1==(3:Int))=true then (ex (L (B .i64) (a9.add 0) cA) fun k8=>M Pg 79 [.int .i64 (k8),.bool (false),.int .i64 ((0:Int))] eW cA fun mS fa=>M Pg 77 [.pointer (bf),.int .i64 (ix),eW.enc (mS)] eh fa fun g3 fX=>j () fX) else (if (dt.1==(0:Int))=true then (M Pg 96 [.pointer (bf),X.enc ((⟨none,0,0⟩:af))] (bB (B .i64) (B .i64)) cA fun fk fe=>if (fk.2 != (0:Int))=true then (j () fe) else (dw fe fun gh=>ex (L aE (cj.add 4) gh) fun m0=>ex (L (B .i64) (a9.add 0) gh) fun kw=>ex (L (B .i64) (a9.add 1) gh) fun k9=>ex (L (B .i64) (a9.add 2) gh) fun kQ=>ex (L bo (a9.add 3) gh) fun mC=>M Pg 62 [.pointer (m0),fY.enc ((⟨(2:Int),fk.1,kw,k9,kQ,mC⟩:j3))] (B .i64) gh fun mx kO=>bG ((L (B .i64) (a9.add 0) kO) kw)<|bG ((L (B .i64) (a9.add 1) kO) k9)<|bG ((L (B .i64) (a9.add 2) kO) kQ)<|bG ((L bo (a9.add 3) kO) mC)<|if (mx==(0:Int))=true then (ex (L (B .i64) (a9.add 0) kO) fun nv=>M Pg 79 [.int .i64 (nv),.bool (true),.int .i64 (fk.1)] eW kO fun qD o1=>M Pg 77 [.pointer (bf),.int .i64 (ix),eW.enc (qD)] eh o1 fun tp kP=>j () kP) else (if ((decide (mx≥(150:Int)))&&(decide (mx≤(165:Int))))=true then (ex (L (B .i64) (a9.add 0) kO) fun rO=>M Pg 79 [.int .i64 (rO),.bool (false),.int .i64 ((0:Int))] eW kO fun uv nY=>M Pg 77 [.pointer (bf),.int .i64 (ix),eW.enc (uv)] eh nY fun qE p_=>j () p_) else (j () kO)))) else (j () cA)))
theorem ajA{bf ix jv w j}(h:WW bf ix jv w j):M Pg 83 [.pointer bf,.int .i64 ix,hd.enc jv] eh w j:=by
 have gC:=eI 2 (dJ [0,1,2,5,3,6,4,7,8,9,10,11,12] .l)
 have r0:=eI 11 (dJ [0,1,2,4,5,7,9,11,3,6,8,10,12,13,14,15] .l)
 exact bu 84 Tryz.func83 rfl rfl bw
def WX(aO:aN)(b0:aN)(J1:Int)(yV:iE)(w:World)(j:Unit→World→Prop):Prop:=bQ 62 eW yV w fun b1 b3=>dw b3 fun bZ=>ex (bM b0) fun cZ=>ex (L eC (cZ.add 6) bZ) fun cJ=>ex (L (B .i64) ((b1.add 1).add 0) bZ) fun dD=>M Pg 78 [.int .i64 (dD)] (B .i64) bZ fun bs cV=>bG ((L eC (cZ.add 6) cV) cJ)<|ex (iD aE .i64 cJ bs cV) fun qs=>if (!(((qs.getD (none:Option Addr),qs.isSome)).2))=true then (j () cV) else (M Pg 55 [.pointer (((qs.getD (none:Option Addr),qs.isSome)).1)] (bB (B .i64) (B .i64)) cV fun mf dU=>if (mf.1 != (0:Int))=true then (ex (L (B .i64) ((b1.add 1).add 0) dU) fun j2=>M Pg 77 [.pointer (b0),.int .i64 (J1),eW.enc ((⟨(3:Int),(⟨j2,(0:Int),(0:Int),false⟩:iO),(mf.1==(2:Int)),mf.2⟩:iE))] eh dU fun xh gb=>j () gb) else (ex (L (B .i64) ((b1.add 1).add 0) dU) fun gq=>ex (L bo (b1.add 5) dU) fun k8=>ex (L (B .i64) (b1.add 6) dU) fun gW=>M Pg 134 [.pointer (((qs.getD (none:Option Addr),qs.isSome)).1),.bool (((Int.tmod gq (2:Int))==(1:Int))),.bool (k8),.int .i64 (gW)] (B .i64) dU fun xi eD=>if (xi != (0:Int))=true then (j () eD) else (M Pg 55 [.pointer (((qs.getD (none:Option Addr),qs.isSome)).1)] (bB (B .i64) (B .i64)) eD fun zc iK=>if (zc.1==(3:Int))=true then (M Pg 106 [.pointer (aO),.pointer (b0),.pointer (((qs.getD (none:Option Addr),qs.isSome)).1),.int .i64 ((3:Int)),.int .i64 ((0:Int))] (B .i64) iK fun ec gp=>j () gp) else (M Pg 135 [.pointer (((qs.getD (none:Option Addr),qs.isSome)).1)] (bB (B .i64) bo) iK fun su lN=>if su.2=true then (tk 2 (B .i64) [su.1] lN fun Bu g6=>M Pg 96 [.pointer (b0),X.enc ((⟨some Bu,1,1⟩:af))] (bB (B .i64) (B .i64)) g6 fun AG iL=>if (AG.2==(0:Int))=true then (M Pg 106 [.pointer (aO),.pointer (b0),.pointer (((qs.getD (none:Option Addr),qs.isSome)).1),.int .i64 ((2:Int)),.int .i64 (AG.1)] (B .i64) iL fun qA jy=>j () jy) else (j () iL)) else (j () lN)))))
theorem ajB{aO b0 J1 yV w j}(h:WX aO b0 J1 yV w j):M Pg 84 [.pointer aO,.pointer b0,.int .i64 J1,eW.enc yV] eh w j:=by
 have gC:=eI 2 (dJ [0,1,2,4,5,3,6,7,8,9,10,11,12,13] .l)
 exact bu 93 Tryz.func84 rfl rfl bw
end bj
end Go.Proofs.YthaobmpdjcoheaaGreat
