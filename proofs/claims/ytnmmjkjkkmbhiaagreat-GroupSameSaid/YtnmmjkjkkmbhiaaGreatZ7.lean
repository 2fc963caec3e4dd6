/- Own texts of this claim, part 7: short, merged. -/
import Derived.Test.YtnmmjkjkkmbhiaaGreatZ1
set_option maxRecDepth 100000
set_option maxHeartbeats 40000000
set_option linter.defProp false
set_option linter.unusedVariables false
set_option linter.unusedSimpArgs false
namespace Go.Proofs.YtnmmjkjkkmbhiaaGreat
namespace ba
def Pr(cv:aU)(mI:jB)(w:World)(j:Unit→World→Prop):Prop:=ch 38 ft mI w fun aI aV=>ex (M (D .i64) (aI.add 0) aV) fun dn=>if (dn==(1:Int))=true then (ds aV fun bK=>ex (bI cv) fun cw=>ex (M aM (cw.add 4) bK) fun cl=>ex (M (D .i64) (aI.add 1) bK) fun cy=>ex (M (D .i64) (aI.add 3) bK) fun dg=>ex (M (D .i64) (aI.add 4) bK) fun dc=>L Pg 174 [.pointer (cl),.int .i64 (cy),.int .i64 (dg),.int .i64 (dc)] (D .i64) bK fun dZ cO=>j () cO) else (if (dn==(2:Int))=true then (ds aV fun cQ=>ex (bI cv) fun hg=>ex (M aM (hg.add 4) cQ) fun hL=>ex (M (D .i64) (aI.add 1) cQ) fun fM=>ex (M (D .i64) (aI.add 2) cQ) fun gx=>ex (M (D .i64) (aI.add 3) cQ) fun kU=>ex (M (D .i64) (aI.add 4) cQ) fun fy=>ex (M bi (aI.add 5) cQ) fun j0=>L Pg 175 [.pointer (hL),.int .i64 (fM),kn.enc ((⟨gx,kU,fy,j0⟩:hd))] (D .i64) cQ fun ru fU=>bk ((M (D .i64) (aI.add 2) fU) gx)<|bk ((M (D .i64) (aI.add 3) fU) kU)<|bk ((M (D .i64) (aI.add 4) fU) fy)<|bk ((M bi (aI.add 5) fU) j0)<|j () fU) else (if (dn==(3:Int))=true then (ds aV fun h9=>ex (bI cv) fun fD=>ex (M aM (fD.add 4) h9) fun eE=>ex (M (D .i64) (aI.add 1) h9) fun oM=>ex (M (D .i64) (aI.add 2) h9) fun nR=>L Pg 176 [.pointer (eE),.int .i64 (oM),.int .i64 (nR)] (D .i64) h9 fun GK jM=>j () jM) else (if (dn==(4:Int))=true then (ds aV fun l9=>ex (bI cv) fun v5=>ex (M aM (v5.add 4) l9) fun p2=>ex (M (D .i64) (aI.add 2) l9) fun mH=>L Pg 177 [.pointer (p2),.int .i64 (mH)] (D .i64) l9 fun kA pZ=>j () pZ) else (if (dn==(5:Int))=true then (ds aV fun D7=>ex (bI cv) fun adM=>ex (M aM (adM.add 4) D7) fun A7=>ex (M (D .i64) (aI.add 1) D7) fun xc=>L Pg 178 [.pointer (A7),.int .i64 (xc)] (D .i64) D7 fun X5 Of=>j () Of) else (if (dn==(6:Int))=true then (ds aV fun Og=>ex (bI cv) fun zG=>ex (M aM (zG.add 4) Og) fun sZ=>ex (M (D .i64) (aI.add 1) Og) fun azY=>L Pg 179 [.pointer (sZ),.int .i64 (azY)] (D .i64) Og fun aBQ azH=>j () azH) else (j () aV))))))
theorem aaN{cv mI w j}(h:Pr cv mI w j):L Pg 147 [.pointer cv,ft.enc mI] cJ w j:=by
 have gH:=eT 4 (da [0,1,2,4,6,8,3,5,7,9,10] .e)
 have r3:=eT 6 (da [0,1,2,4,6,8,10,12,3,5,7,9,11,13,14,15] .e)
 have Jt:=eT 8 (da [0,1,2,4,6,3,5,7,8] .e)
 have afx:=eT 10 (da [0,1,2,4,3,5,6] .e)
 have afy:=eT 12 (da [0,1,2,4,3,5,6] .e)
 have afz:=eT 14 (da [0,1,2,4,3,5,6] .e)
 exact aX 75 Tryz.func147 rfl rfl bf
def Ps(l7:Int)(w:World)(j:Bool→World→Prop):Prop:=j ((decide (l7≥(0:Int)))&&(decide (l7≤(1125899906842624:Int)))) w
theorem aaO{l7 w j}(h:Ps l7 w j):L Pg 149 [.int .i64 l7] bi w j:=
 aX 9 Tryz.func149 rfl rfl bf
def Pu(g6:aU)(fu:Int)(w:World)(j:Int→World→Prop):Prop:=ch 206 aM g6 w fun aI aV=>ch 2 (D .i64) fu aV fun aR bK=>ex (M aM aI bK) fun cZ=>ex (bI cZ) fun eH=>ex (M O (eH.add 0) bK) fun cy=>L Pg 180 [.int .i64 ((cy.len:Int)),((dz.mk (.func 181) (List.toArray []) (List.toArray [.pointer (some aI),.pointer (some aR)]))).enc] (D .i64) bK fun dt b3=>j dt b3
theorem aaQ{g6 fu w j}(h:Pu g6 fu w j):L Pg 151 [.pointer g6,.int .i64 fu] (D .i64) w j:=
 aX 12 Tryz.func151 rfl rfl bf
def Pv(cN:aU)(bW:Int)(w:World)(j:Bool→World→Prop):Prop:=ex (fun x=>(decide (bW≥(0:Int)))=true→(bI cN) x) fun aI=>ex (fun x=>(decide (bW≥(0:Int)))=true→(M O (aI.add 0) w) x) fun dr=>j ((decide (bW≥(0:Int)))&&(decide (bW<(dr.len:Int)))) w
theorem aaR{cN bW w j}(h:Pv cN bW w j):L Pg 153 [.pointer cN,.int .i64 bW] bi w j:=
 aX 16 Tryz.func153 rfl rfl bf
def Pw(dN:X)(w:World)(j:(X×Int×Int)→World→Prop):Prop:=if (decide ((dN.len:Int)<(8:Int)))=true then (j ((⟨none,0,0⟩:X),(0:Int),(31:Int)) w) else (L Pg 182 [O.enc (dN)] (D .u32) w fun fT cK=>if (decide ((IntKind.i64.wrap fT)>(65536:Int)))=true then (j ((⟨none,0,0⟩:X),(0:Int),(30:Int)) cK) else (if (decide ((IntKind.i64.wrap fT)>(IntKind.i64.wrap ((dN.len:Int)-(8:Int)))))=true then (j ((⟨none,0,0⟩:X),(0:Int),(31:Int)) cK) else (ds cK fun aV=>ex (Sub dN 1 0 (4:Int) ((dN).cap:Int)) fun YC=>ex (Sub dN 1 (8:Int) (IntKind.i64.wrap ((8:Int)+(IntKind.i64.wrap fT))) ((dN).cap:Int)) fun tG=>ex (Sub dN 1 (4:Int) ((dN).len:Int) ((dN).cap:Int)) fun DC=>L Pg 183 [O.enc (YC),O.enc (tG)] (D .u32) aV fun gh bQ=>L Pg 182 [O.enc (DC)] (D .u32) bQ fun dt b3=>if (gh != dt)=true then (j ((⟨none,0,0⟩:X),(0:Int),(32:Int)) b3) else (pI 5 (D .u8) ([]:List Int) b3 fun e4 cM=>ex (Sub dN 1 (8:Int) (IntKind.i64.wrap ((8:Int)+(IntKind.i64.wrap fT))) ((dN).cap:Int)) fun y6=>q1 5 (D .u8) 1 1 (⟨some e4,0,0⟩:X) y6 cM fun fS fm=>ex (Sub fS 1 0 (IntKind.i64.wrap fT) (IntKind.i64.wrap fT)) fun GW=>j (GW,(IntKind.i64.wrap ((8:Int)+(IntKind.i64.wrap fT))),(0:Int)) fm))))
theorem aaS{dN w j}(h:Pw dN w j):L Pg 154 [O.enc dN] (qO O (D .i64) (D .i64)) w j:=by
 have gH:=eT 9 (da [0,1,2,3,4,5,7,8,6,9,10,11] .e)
 exact aX 46 Tryz.func154 rfl rfl bf
def Px(e6:aU)(bl:Addr)(w:World)(j:Unit→World→Prop):Prop:=ex (M O bl w) fun ez=>vn 5 (D .u8) 1 (0:Int) (ez.len:Int) (ez.len:Int) w fun ck aV=>ex (bI e6) fun bU=>br O (bU.add 0) ck aV fun bH=>ds bH fun bQ=>ex (M O (bU.add 0) bQ) fun cy=>ex (M O bl bQ) fun dg=>zP (D .u8) 1 cy dg bQ fun hz cU=>br (D .i64) (bU.add 1) (hz:Int) cU fun cM=>j () cM
theorem aaT{e6 bl w j}(h:Px e6 bl w j):L Pg 155 [.pointer e6,.pointer (some bl)] cJ w j:=by
 have gH:=eT 2 (da [0,1,2,3,4,5,6,7,8,9] .e)
 exact aX 18 Tryz.func155 rfl rfl bf
def Ey(l7:Addr)(bl:Addr)(dm:Addr)(fA:Addr)(vz:dP)(w:World)(j:World→Prop):Prop:=if (!(dP.isNil vz))=true then (ex (OL 247 iw BF vz) fun Gq=>ch 247 iw BF w fun bU bH=>br iw bU Gq.1 bH fun bQ=>if (!Gq.2)=true then (False) else (ds bQ fun bX=>ex (M (D .i64) l7 bX) fun dg=>ex (M (D .i64) (bU.add 0) bX) fun dc=>br O bl (⟨none,0,0⟩:X) bX fun cO=>bk ((M (D .i64) (bU.add 0) cO) dc)<|br (D .i64) dm dg cO fun cQ=>bk ((M (D .i64) (bU.add 0) cQ) dc)<|br (D .i64) fA dc cQ fun du=>j du)) else (j w)
theorem Py{l7:Addr}{bl:Addr}{dm:Addr}{fA:Addr}{vz:dP}{u np:FrameMode}{w:World}{j:World→Prop}(FC:EN u vz np)(h:Ey l7 bl dm fA vz w j):CallsD Pg 156 (List.toArray [.pointer (some l7),.pointer (some bl),.pointer (some dm),.pointer (some fA)]) u w fun e DT I=>(∃ v,e=.returned v)∧DT=np∧j I:=by
 unfold Ey at h
 refine aeM 21 Tryz.func156 rfl rfl (Nat.le_of_ble_eq_true rfl) fun mh a4 hu=>wpS_seq<|azT [0,1] rfl<|axP (v:=vz) (d:=(some 7)) rfl rfl rfl rfl hu FC<|axQ (d:=(some 4)) rfl rfl rfl (yI (v:=(vz).enc) rfl rfl)<|axO (wpS_of_wp ?_)
 refine wp_seq<|bv _ rfl<|m rfl<|bo 9 rfl rfl rfl (Ni (v:=vz) rfl Tryz.underlying20 rfl)<|bp<|fq h rfl (fun _ h=>?_) fun _ h=>?_
 ·refine wp_seq<|bv _ rfl<|m rfl ?_
  obtain⟨Gq,ajZ,h⟩:=h
  refine bo 12 rfl rfl rfl (MY (T:=iw) (aL:=BF) (v:=vz) (p:=Gq) rfl ⟨_,Tryz.underlying247,rfl⟩ CN rfl ajZ)<|m rfl<|im _ _ rfl rfl rfl<|im _ _ rfl rfl rfl<|q6 Mu CN h rfl fun bU bH h=>lQ Mu h rfl rfl rfl fun bQ h=>m rfl<|bp<|wp_seq<|wp_seq<|bv _ rfl<|m rfl ?_
  refine bo _ rfl rfl rfl (lx rfl rfl)<|bp<|fq h rfl (fun _ h=>?_) fun _ h=>?_
  ·refine bv _ rfl<|m rfl ?_
   exact h.elim
  ·refine wp_skip ?_
   obtain⟨bX,Ld,h⟩:=nx h
   refine oJ 6 mixed rfl (by kernel_rfl) (by intro o a d v w h; cases d<;>exact h) Ld (fun G=>?_)
   refine hZ 1 19 bU 0 Tryz.underlying247 tz G rfl rfl rfl ?_
   obtain⟨dg,Le,h⟩:=h
   refine hN 0 18 Le ea G rfl rfl ?_
   obtain⟨dc,yd,h⟩:=h
   refine hN 2 20 yd tz G rfl rfl<|bA (i:=3) (by kernel_rfl) ?_
   obtain⟨cO,CI,CB,h⟩:=qM h
   obtain⟨aiP,h⟩:=h
   refine sL (d:=none) rfl (.free rfl) rfl (qH (T:=O) (u:=(⟨none,0,0⟩:X)) (a:=bl) rfl sF rfl rfl CB CI) ⟨(cg (fun _=>aiP) (g8 (by kernel_rfl) c_)),?_⟩
   refine bA (i:=4) (by kernel_rfl) ?_
   obtain⟨cQ,akz,aka,h⟩:=qM h
   obtain⟨ai0,h⟩:=h
   refine sL (d:=none) rfl (.free rfl) rfl (qH (T:=(D .i64)) (u:=dg) (a:=dm) rfl ea rfl rfl aka akz) ⟨(cg (fun _=>ai0) (g8 (by kernel_rfl) c_)),?_⟩
   refine bA (i:=5) (by kernel_rfl) ?_
   obtain⟨du,K6,akb,h⟩:=qM h
   refine sL (d:=none) rfl (.free rfl) rfl (qH (T:=(D .i64)) (u:=dc) (a:=fA) rfl tz rfl rfl akb K6) ⟨(g8 (by kernel_rfl) (g8 (by kernel_rfl) c_)),?_⟩
   refine ef (by kernel_rfl) ?_
   exact SO rfl h
 ·refine wp_skip ?_
  exact SO rfl h
def vU(aY:Addr)(bU:Addr)(bX:World)(j:ib→World→Prop)(dQ:dP→World→Prop):Prop:=ex (M fh bU bX) fun dg=>br fh aY dg bX fun cU=>ex (M fh aY cU) fun eU=>j eU cU
def H0(ff:aU)(w:World)(j:ib→World→Prop)(dQ:dP→World→Prop):Prop:=ch 133 fh q0 w fun aY a6=>lM Pg 184 [.pointer (ff)] (D .u8) a6 dQ fun ck aV=>ch 133 fh q0 aV fun bU bH=>br fh bU (⟨(IntKind.i64.wrap ck),(0:Int),(0:Int),(0:Nat),([]:List UInt8)⟩:ib) bH fun bQ=>ex (M (D .i64) (bU.add 0) bQ) fun cV=>if (cV==(1:Int))=true then (lM Pg 185 [.pointer (ff)] (D .u64) bQ dQ fun ga cQ=>br (D .u64) (bU.add 1) ga cQ fun du=>vU aY bU du j dQ) else (if (cV==(2:Int))=true then (lM Pg 185 [.pointer (ff)] (D .u64) bQ dQ fun hI eG=>ex (hB (1:Int) (Int.fdiv hI (2^(min ((1:Int)).toNat IntKind.u64.bits)))) fun d19=>br (D .i64) (bU.add 2) (bits .xor .i64 (IntKind.i64.wrap d19) (IntKind.i64.wrap (0-(IntKind.i64.wrap (bits .and .u64 hI (1:Int)))))) eG fun fc=>vU aY bU fc j dQ) else (if (cV==(3:Int))=true then (lM Pg 186 [.pointer (ff)] g2 bQ dQ fun dJ jj=>br g2 (bU.add 3) dJ jj fun gw=>vU aY bU gw j dQ) else (if (cV==(4:Int))=true then (lM Pg 187 [.pointer (ff)] dT bQ dQ fun wW hq=>br dT (bU.add 4) wW hq fun gQ=>vU aY bU gQ j dQ) else (dQ (dP.mk 247 (iw.enc ((⟨(21:Int)⟩:iJ)))) bQ))))
theorem aaU{ff:aU}{w:World}{j:ib→World→Prop}{dQ:dP→World→Prop}(h:H0 ff w j dQ):lM Pg 157 [.pointer (ff)] fh w dQ j:=by
 unfold H0 at h
 refine pw 42 Tryz.func157 rfl rfl (Nat.le_of_ble_eq_true rfl)<|wp_seq<|bv _ rfl<|q6 g9 rj h rfl fun aY a6 h=>bp<|wp_seq<|bv _ rfl<|m rfl<|e3 rfl (.free rfl) (vQ (d:=(some 6)) rfl (c3 (k:=184) (c:=[.pointer (ff)]) rfl JC rfl) h ?_ ?_)
 ·exact fun _ _ h=>pL (P:=Pg) (fn:=Tryz.f157) h
 intro ck aV h
 refine bo 7 rfl rfl rfl (rs (a:=ck) rfl Tryz.underlying5 Tryz.underlying131 rfl)<|bo 8 rfl rfl rfl (MZ (a9:=(IntKind.i64.wrap ck)) rfl rfl)<|q6 g9 rj h rfl fun bU bH h=>lQ g9 h rfl rfl rfl fun bQ h=>bp<|wZ (bE:=Unit) (eV:=fun (s:Unit) w=>vU aY bU w j dQ) (bT:=fun g (s:Unit)=>av (av (g) 2 (.pointer (some aY))) 3 (.pointer (some bU))) ?_ ?_
 ·rintro⟨⟩ g bX h
  unfold vU at h
  refine wp_seq<|bv _ rfl<|ks g9 h rfl rfl fun dg _ h=>lQ g9 h rfl rfl rfl fun cU h=>bp<|wp_ret ?_
  obtain⟨eU,ye,h⟩:=h
  exact ph rfl (.cons (.cell (T:=fh) (u:=eU) (a:=aY) g9 rfl ye) .nil) ⟨eU,rfl,h⟩
 ·refine wp_seq<|bv _ rfl<|km _ _ _ Tryz.underlying133 ng rfl rfl rfl<|ks ng h rfl rfl fun cV _ h=>bp<|wp_block<|wp_seq<|bv _ rfl<|bo _ rfl rfl rfl (ey rfl rfl rfl)<|m rfl<|bp<|fq h rfl (fun _ h=>?_) fun _ h=>?_
  ·refine bv _ rfl<|m rfl<|e3 rfl (.free rfl) (vQ (d:=(some 16)) rfl (c3 (k:=185) (c:=[.pointer (ff)]) rfl JD rfl) h ?_ ?_)
   ·exact fun _ _ h=>pL (P:=Pg) (fn:=Tryz.f157) h
   intro ga cQ h
   refine km _ _ _ Tryz.underlying133 nf rfl rfl rfl<|lQ nf h rfl rfl rfl fun du h=>bp ?_
   exact⟨(),_,arr (aW (aW rfl rfl) rfl),h⟩
  ·refine wp_seq<|bv _ rfl<|bo _ rfl rfl rfl (ey rfl rfl rfl)<|m rfl<|bp<|fq h rfl (fun _ h=>?_) fun _ h=>?_
   ·refine wp_seq<|bv _ rfl<|m rfl<|e3 rfl (.free rfl) (vQ (d:=(some 21)) rfl (c3 (k:=185) (c:=[.pointer (ff)]) rfl JD rfl) h ?_ ?_)
    ·exact fun _ _ h=>pL (P:=Pg) (fn:=Tryz.f157) h
    intro hI eG h
    refine m rfl<|bp<|bv _ rfl<|m rfl ?_
    obtain⟨d19,aid,h⟩:=h
    refine bo 23 rfl rfl rfl (No (a:=hI) (b:=(1:Int)) (r:=d19) rfl rfl rfl aid)<|bo 24 rfl rfl rfl (rs (a:=d19) rfl Tryz.underlying130 Tryz.underlying2 rfl)<|m rfl<|bo 26 rfl rfl rfl (GB (a:=hI) (b:=(1:Int)) rfl rfl rfl)<|bo 27 rfl rfl rfl (rs (a:=(bits .and .u64 hI (1:Int))) rfl Tryz.underlying130 Tryz.underlying2 rfl)<|bo 28 rfl rfl rfl (Nk (a:=(IntKind.i64.wrap (bits .and .u64 hI (1:Int)))) rfl rfl)<|bo 29 rfl rfl rfl (Nq (a:=(IntKind.i64.wrap d19)) (b:=(IntKind.i64.wrap (0-(IntKind.i64.wrap (bits .and .u64 hI (1:Int)))))) rfl rfl rfl)<|km _ _ _ Tryz.underlying133 ew rfl rfl rfl<|lQ ew h rfl rfl rfl fun fc h=>bp ?_
    exact⟨(),_,arr (aW (aW rfl rfl) rfl),h⟩
   ·refine wp_seq<|bv _ rfl<|bo _ rfl rfl rfl (ey rfl rfl rfl)<|m rfl<|bp<|fq h rfl (fun _ h=>?_) fun _ h=>?_
    ·refine bv _ rfl<|m rfl<|e3 rfl (.free rfl) (vQ (d:=(some 34)) rfl (c3 (k:=186) (c:=[.pointer (ff)]) rfl af8 rfl) h ?_ ?_)
     ·exact fun _ _ h=>pL (P:=Pg) (fn:=Tryz.f157) h
     intro dJ jj h
     refine km _ _ _ Tryz.underlying133 wN rfl rfl rfl<|lQ wN h rfl rfl rfl fun gw h=>bp ?_
     exact⟨(),_,arr (aW (aW rfl rfl) rfl),h⟩
    ·refine wp_seq<|bv _ rfl<|bo _ rfl rfl rfl (ey rfl rfl rfl)<|m rfl<|bp<|fq h rfl (fun _ h=>?_) fun _ h=>?_
     ·refine bv _ rfl<|m rfl<|e3 rfl (.free rfl) (vQ (d:=(some 39)) rfl (c3 (k:=187) (c:=[.pointer (ff)]) rfl af9 rfl) h ?_ ?_)
      ·exact fun _ _ h=>pL (P:=Pg) (fn:=Tryz.f157) h
      intro wW hq h
      refine km _ _ _ Tryz.underlying133 pg rfl rfl rfl<|lQ pg h rfl rfl rfl fun gQ h=>bp ?_
      exact⟨(),_,arr (aW (aW rfl rfl) rfl),h⟩
     ·refine bv _ rfl<|bo 11 rfl rfl rfl (vt (a9:=(21:Int)) rfl rfl)<|bo 12 rfl rfl rfl (vv (v:=iw.enc ((⟨(21:Int)⟩:iJ))) rfl Tryz.underlying247 rfl rfl)<|e3 rfl (.free rfl) (zi (v:=(dP.mk 247 (iw.enc ((⟨(21:Int)⟩:iJ))))) rfl rfl ⟨_,_,rfl⟩ ?_)
      exact pL (P:=Pg) (fn:=Tryz.f157) h
def Pz(wG:X)(w:World)(j:(X×Int)→World→Prop):Prop:=if (decide ((wG.len:Int)>(65536:Int)))=true then (j ((⟨none,0,0⟩:X),(30:Int)) w) else (vn 5 (D .u8) 1 (0:Int) (0:Int) (IntKind.i64.wrap ((8:Int)+(wG.len:Int))) w fun fT cK=>L Pg 188 [O.enc (fT),.int .u32 ((IntKind.u32.wrap (wG.len:Int)))] O cK fun ck aV=>L Pg 183 [O.enc (ck),O.enc (wG)] (D .u32) aV fun fK bK=>L Pg 188 [O.enc (ck),.int .u32 (fK)] O bK fun gh bQ=>q1 5 (D .u8) 1 1 gh wG bQ fun dt b3=>j (dt,(0:Int)) b3)
theorem aaV{wG w j}(h:Pz wG w j):L Pg 158 [O.enc wG] (bJ O (D .i64)) w j:=
 aX 24 Tryz.func158 rfl rfl bf
def Be(cN:aU)(bW:Int)(bh:Addr)(ayx:Int)(bQ:World)(j:Int→World→Prop):Prop:=L Pg 144 [.pointer (cN),.int .i64 (bW),.int .i64 (ayx),((dz.mk (.func 189) (List.toArray []) (List.toArray [.pointer (some bh)]))).enc] (D .i64) bQ fun dq bX=>j dq bX
def PA(cN:aU)(bW:Int)(q2:X)(w:World)(j:Int→World→Prop):Prop:=ch 79 O q2 w fun bh bb=>ex (M O bh bb) fun cr=>L Pg 153 [.pointer (cN),.int .i64 (bW)] bi bb fun hz cU=>if hz=true then (ex (bI cN) fun hC=>ex (M O (hC.add 0) cU) fun fo=>ex (cz fo 2 bW) fun hg=>ex (M O (hg.add 0) cU) fun hL=>Be cN bW bh (IntKind.i64.wrap ((cr.len:Int)+(hL.len:Int))) cU j) else (Be cN bW bh (cr.len:Int) cU j)
theorem aaW{cN bW q2 w j}(h:PA cN bW q2 w j):L Pg 159 [.pointer cN,.int .i64 bW,O.enc q2] (D .i64) w j:=by
 have kJ:=fun {bh}=>kv (bE:=Int) 5 (fun s w=>Be cN bW bh s w j) (fun g s=>av (av (av (av g 0 (.pointer cN)) 1 (.int .i64 bW)) 5 (.pointer (some bh))) 7 (.int .i64 s))
 exact aX 29 Tryz.func159 rfl rfl bf
def PC(cv:(Option Nat))(w:World)(j:dz→World→Prop):Prop:=ch 143 dK cv w fun aY a6=>j (dz.mk (.func 190) (List.toArray []) (List.toArray [.pointer (some aY)])) a6
theorem aaY{cv w j}(h:PC cv w j):L Pg 160 [.map cv] qN w j:=
 aX 4 Tryz.func160 rfl rfl bf
def H1(c1:Int)(a6:World)(j:(Nat×Bool)→World→Prop):Prop:=if (gS .neq (Int.toNat c1) (Int.toNat c1))=true then (j ((0:Nat),false) a6) else (j ((Int.toNat c1),true) a6)
def PE(jt:Int)(w:World)(j:(Nat×Bool)→World→Prop):Prop:=if (jt==(0:Int))=true then (j ((Int.toNat (9221120237041090561:Int)),true) w) else (ex (hB (63:Int) (Int.fdiv jt (2^(min ((63:Int)).toNat IntKind.u64.bits)))) fun d5=>if (d5==(1:Int))=true then (H1 (bits .andNot .u64 jt (9223372036854775808:Int)) w j) else (H1 (bits .xor .u64 IntKind.u64.max jt) w j))
theorem aa0{jt w j}(h:PE jt w j):L Pg 172 [.int .u64 jt] (bJ g2 bi) w j:=by
 have kJ:=kv (bE:=Int) 7 (fun s w=>H1 s w j) (fun g s=>av g 4 (.int .u64 s))
 exact aX 22 Tryz.func172 rfl rfl bf
def PF(jt:Int)(w:World)(j:Bool→World→Prop):Prop:=j ((decide (jt≥(1:Int)))&&(decide (jt≤(6:Int)))) w
theorem aa1{jt w j}(h:PF jt w j):L Pg 173 [.int .i64 jt] bi w j:=
 aX 9 Tryz.func173 rfl rfl bf
def PG(cG:aU)(bl:Int)(zI:Int)(tw:Int)(w:World)(j:Int→World→Prop):Prop:=L Pg 197 [.pointer (cG),.int .i64 (bl)] (D .i64) w fun cT bb=>if (cT != (0:Int))=true then (j cT bb) else (ex (bI cG) fun cw=>ex (M aM ((cw.add 0).add 0) bb) fun cl=>L Pg 198 [.pointer (cl),.int .i64 (zI)] (bJ cX bi) bb fun dq bX=>ch 210 cX iy bX fun gm cO=>br cX gm dq.1 cO fun cM=>L Pg 199 [.int .i64 (zI)] bi cM fun ga cQ=>if (!ga)=true then (j (153:Int) cQ) else (if dq.2=true then (j (154:Int) cQ) else (L Pg 200 [.int .i64 (tw)] (D .i64) cQ fun vw du=>if (vw != (0:Int))=true then (j (155:Int) du) else (ex (M aM ((cw.add 0).add 0) du) fun gx=>pI 174 jC [(⟨zI,tw⟩:h0)] du fun kZ fc=>L Pg 201 [.pointer (gx),.int .i64 (bl),O.enc ((⟨some kZ,1,1⟩:X))] (D .i64) fc fun dJ jj=>L Pg 202 [.pointer (cG),.int .i64 (bl)] cJ jj fun a3 gw=>j (0:Int) gw))))
theorem aa2{cG bl zI tw w j}(h:PG cG bl zI tw w j):L Pg 174 [.pointer cG,.int .i64 bl,.int .i64 zI,.int .i64 tw] (D .i64) w j:=
 aX 52 Tryz.func174 rfl rfl bf
def PH(cG:aU)(bl:Int)(Gr:hd)(w:World)(j:Int→World→Prop):Prop:=ch 169 kn Gr w fun bh bb=>L Pg 197 [.pointer (cG),.int .i64 (bl)] (D .i64) bb fun fK bK=>if (fK != (0:Int))=true then (j fK bK) else (ex (M kn bh bK) fun cl=>L Pg 203 [.pointer (cG),kn.enc (cl)] (bJ (D .i64) (D .i64)) bK fun dq bX=>if (dq.2 != (0:Int))=true then (j dq.2 bX) else (ds bX fun cU=>ex (bI cG) fun e4=>ex (M dK (e4.add 3) cU) fun cV=>ex (M (D .i64) (bh.add 0) cU) fun fo=>ex (M kn bh cU) fun hr=>nb ic .i64 cV fo (⟨hr,bl,dq.1⟩:oR) cU fun du=>ds du fun eG=>ex (M dK (e4.add 4) eG) fun gx=>ex (M (D .i64) (bh.add 1) eG) fun kU=>ex (M (D .i64) (bh.add 0) eG) fun fy=>nb (D .i64) .i64 gx kU fy eG fun jj=>ds jj fun fU=>ex (M dK (e4.add 5) fU) fun mG=>ex (M (D .i64) (bh.add 0) fU) fun qP=>nb jo .i64 mG qP (⟨(1:Int),bl⟩:pr) fU fun ik=>L Pg 202 [.pointer (cG),.int .i64 (bl)] cJ ik fun cB gQ=>j (0:Int) gQ))
theorem aa3{cG bl Gr w j}(h:PH cG bl Gr w j):L Pg 175 [.pointer cG,.int .i64 bl,kn.enc Gr] (D .i64) w j:=by
 have gH:=eT 8 (da [0,1,2,4,7,8,3,5,6,9,10] .e)
 have r3:=eT 9 (da [0,1,2,4,6,3,5,7,8] .e)
 have Jt:=eT 10 (da [0,1,2,4,6,7,3,5,8] .e)
 exact aX 54 Tryz.func175 rfl rfl bf
def PI(cG:aU)(bl:Int)(Ad:Int)(w:World)(j:Int→World→Prop):Prop:=if ((decide (bl<(1:Int)))||(decide (bl>(1125899906842624:Int))))=true then (j (151:Int) w) else (ex (bI cG) fun bh=>ex (M dK (bh.add 5) w) fun dn=>ex (fO jo .i64 dn Ad w) fun vl=>ch 288 jo jp w fun cw bQ=>br jo cw (vl.getD jp) bQ fun bX=>ex (M (D .i64) (cw.add 0) bX) fun dg=>if (dg==(2:Int))=true then (ex (M (D .i64) (cw.add 1) bX) fun dc=>if (dc != bl)=true then (j (157:Int) bX) else (j (0:Int) bX)) else (if (dg==(1:Int))=true then (ex (M dK (bh.add 3) bX) fun cV=>ex (fO ic .i64 cV Ad bX) fun As=>ch 171 ic rQ bX fun hg du=>br ic hg (As.getD rQ) du fun eG=>ex (M (D .i64) (hg.add 4) eG) fun gx=>if (decide (bl<gx))=true then (j (152:Int) eG) else (ds eG fun e9=>ex (M aM ((bh.add 0).add 0) e9) fun fy=>ex (M ic hg e9) fun j0=>L Pg 204 [.pointer (cG),ic.enc (j0)] O e9 fun ru fU=>bk ((M aM ((bh.add 0).add 0) fU) fy)<|L Pg 201 [.pointer (fy),.int .i64 (bl),O.enc (ru)] (D .i64) fU fun AI ik=>bk ((M ic hg ik) j0)<|ex (M ic hg ik) fun qQ=>L Pg 205 [.pointer (cG),ic.enc (qQ)] cJ ik fun AJ rF=>ex (M dK (bh.add 5) rF) fun oM=>nb jo .i64 oM Ad (⟨(2:Int),bl⟩:pr) rF fun lD=>L Pg 202 [.pointer (cG),.int .i64 (bl)] cJ lD fun GK jM=>j (0:Int) jM)) else (j (163:Int) bX)))
theorem aa4{cG bl Ad w j}(h:PI cG bl Ad w j):L Pg 176 [.pointer cG,.int .i64 bl,.int .i64 Ad] (D .i64) w j:=by
 have gH:=eT 15 (da [0,1,2,3,5,6,4,7,8,9] .e)
 exact aX 64 Tryz.func176 rfl rfl bf
def Bf(ri:Int)(aI:Addr)(cM:World)(j:Int→World→Prop):Prop:=ex (M dK (aI.add 5) cM) fun fo=>nb jo .i64 fo ri (⟨(3:Int),(0:Int)⟩:pr) cM fun fm=>j (0:Int) fm
def PJ(cG:aU)(ri:Int)(w:World)(j:Int→World→Prop):Prop:=ex (bI cG) fun aI=>ex (M dK (aI.add 5) w) fun dr=>ex (fO jo .i64 dr ri w) fun jd=>ch 288 jo jp w fun bU bH=>br jo bU (((jd.getD jp,jd.isSome)).1) bH fun bQ=>if (decide (ri<(1:Int)))=true then (j (156:Int) bQ) else (ex (M (D .i64) (bU.add 0) bQ) fun cy=>if (cy==(2:Int))=true then (j (157:Int) bQ) else (ex (fun x=>(!(((jd.getD jp,jd.isSome)).2))=true→(bI cG) x) fun cs=>ex (fun x=>(!(((jd.getD jp,jd.isSome)).2))=true→(M dK (cs.add 5) bQ) x) fun dc=>ex (fun x=>(!(((jd.getD jp,jd.isSome)).2))=true→(nu dc bQ) x) fun FR=>if ((!(((jd.getD jp,jd.isSome)).2))&&(decide ((FR:Int)≥(5000:Int))))=true then (j (158:Int) bQ) else (ex (M dK (aI.add 3) bQ) fun hL=>ex (fO ic .i64 hL ri bQ) fun F4=>ch 171 ic rQ bQ fun ul e9=>br ic ul (((F4.getD rQ,F4.isSome)).1) e9 fun fc=>if ((F4.getD rQ,F4.isSome)).2=true then (ex (M ic ul fc) fun j0=>L Pg 205 [.pointer (cG),ic.enc (j0)] cJ fc fun ru fU=>Bf ri aI fU j) else (Bf ri aI fc j))))
theorem aa5{cG ri w j}(h:PJ cG ri w j):L Pg 177 [.pointer cG,.int .i64 ri] (D .i64) w j:=by
 have kJ:=fun {aI}=>kv (bE:=Unit) 12 (fun s w=>Bf ri aI w j) (fun g s=>av (av g 0 (.pointer cG)) 1 (.int .i64 ri))
 exact aX 55 Tryz.func177 rfl rfl bf
def H2(cG:aU)(bl:Int)(aR:Addr)(eH:Addr)(bX:World)(mL:Unit→World→Prop)(j:Int→World→Prop):Prop:=Ge eH bX fun awJ cU=>if (Option.isSome awJ)=true then (ex (mJ ic .i64 eH cU) fun afE=>ch 171 ic rQ cU fun oU fm=>br ic oU afE.2 fm fun du=>ex (M (D .i64) (oU.add 4) du) fun fM=>if (decide (fM≤bl))=true then (j (160:Int) du) else (mL () du)) else (ex (M aM ((aR.add 0).add 0) cU) fun kU=>L Pg 207 [.pointer (kU),.int .i64 (bl)] (D .i64) cU fun ca fc=>L Pg 202 [.pointer (cG),.int .i64 (bl)] cJ fc fun ru fU=>j (0:Int) fU)
def PK(cG:aU)(bl:Int)(w:World)(j:Int→World→Prop):Prop:=L Pg 206 [.int .i64 (bl)] bi w fun aP a6=>if (!aP)=true then (j (151:Int) a6) else (ex (bI cG) fun aR=>ex (M dK (aR.add 3) a6) fun cr=>GQ cr a6 fun eH bH=>e7 (fun (s:Unit) w aa=>H2 cG bl aR eH w aa j) () bH)
theorem aa6{cG bl w j}(h:PK cG bl w j):L Pg 178 [.pointer cG,.int .i64 bl] (D .i64) w j:=by
 have hT:=fun {aR} {eH}=>gK (bE:=Unit) 5 (fun s w aa=>H2 cG bl aR eH w aa j) (fun g s=>av (av (av g 0 (.pointer cG)) 1 (.int .i64 bl)) 14 (.pointer (some eH)))
 exact aX 33 Tryz.func178 rfl rfl bf
def PL(cG:aU)(m8:Int)(w:World)(j:Int→World→Prop):Prop:=ex (bI cG) fun aI=>ex (M aM ((aI.add 0).add 0) w) fun dr=>L Pg 208 [.pointer (dr),.int .i64 (m8)] (D .i64) w fun cT bb=>L Pg 89 [.int .i64 (cT)] (D .i64) bb fun cF bH=>j cF bH
theorem aa7{cG m8 w j}(h:PL cG m8 w j):L Pg 179 [.pointer cG,.int .i64 m8] (D .i64) w j:=
 aX 13 Tryz.func179 rfl rfl bf
def H7(mi:dz)(hx:Int)(LB:Int)(bb:World)(ja:Int×Int→World→Prop)(j:Int→World→Prop):Prop:=if (decide (hx<LB))=true then (ex (hB (1:Int) (Int.fdiv (IntKind.u64.wrap (IntKind.i64.wrap (hx+LB))) (2^(min ((1:Int)).toNat IntKind.u64.bits)))) fun d7=>xO Pg mi [.int .i64 ((IntKind.i64.wrap d7))] bi bb fun gh bQ=>if (!gh)=true then (ja ((IntKind.i64.wrap ((IntKind.i64.wrap d7)+(1:Int))),LB) bQ) else (ja (hx,(IntKind.i64.wrap d7)) bQ)) else (j hx bb)
def PN(bq:Int)(mi:dz)(w:World)(j:Int→World→Prop):Prop:=e7 (fun (s:Int×Int) w aa=>H7 mi s.1 s.2 w aa j) ((0:Int),bq) w
theorem aa9{bq mi w j}(h:PN bq mi w j):L Pg 180 [.int .i64 bq,mi.enc] (D .i64) w j:=by
 have hT:=gK (bE:=Int×Int) 3 (fun s w aa=>H7 mi s.1 s.2 w aa j) (fun g s=>av (av (av g 1 (mi.enc)) 5 (.int .i64 (s.1))) 6 (.int .i64 (s.2)))
 exact aX 26 Tryz.func180 rfl rfl bf
def PO(FH:Int)(bl:Addr)(dm:Addr)(w:World)(j:Bool→World→Prop):Prop:=ds w fun aV=>ex (M aM bl aV) fun dn=>ex (bI dn) fun bU=>ex (M O (bU.add 0) aV) fun cZ=>ex (cz cZ 2 FH) fun eH=>ex (M (D .i64) (eH.add 0) aV) fun cy=>ex (M (D .i64) dm aV) fun dg=>j (decide (cy>dg)) aV
theorem aba{FH bl dm w j}(h:PO FH bl dm w j):L Pg 181 [.int .i64 FH,.pointer (some bl),.pointer (some dm)] bi w j:=by
 have gH:=eT 2 (da [4,0,1,2,3,5,6,7,8,9,10] .e)
 exact aX 15 Tryz.func181 rfl rfl bf
def PP(dN:X)(w:World)(j:Int→World→Prop):Prop:=ds w fun cK=>ex (cz dN 1 (0:Int)) fun aI=>ex (cz dN 1 (1:Int)) fun bh=>ex (cz dN 1 (2:Int)) fun aR=>ex (cz dN 1 (3:Int)) fun bU=>ex (M (D .u8) aI cK) fun cZ=>ex (hB (24:Int) (IntKind.u32.wrap ((IntKind.u32.wrap cZ)*2^(min ((24:Int)).toNat IntKind.u32.bits)))) fun d8=>ex (M (D .u8) bh cK) fun cy=>ex (hB (16:Int) (IntKind.u32.wrap ((IntKind.u32.wrap cy)*2^(min ((16:Int)).toNat IntKind.u32.bits)))) fun d10=>ex (M (D .u8) aR cK) fun dc=>ex (hB (8:Int) (IntKind.u32.wrap ((IntKind.u32.wrap dc)*2^(min ((8:Int)).toNat IntKind.u32.bits)))) fun d12=>ex (M (D .u8) bU cK) fun cV=>j (bits .or .u32 (bits .or .u32 (bits .or .u32 d8 d10) d12) (IntKind.u32.wrap cV)) cK
theorem abb{dN w j}(h:PP dN w j):L Pg 182 [O.enc dN] (D .u32) w j:=by
 have gH:=eT 2 (da [0,1,5,6,11,12,17,18,2,3,4,7,8,9,10,13,14,15,16,19,20,21,22] .e)
 exact aX 25 Tryz.func182 rfl rfl bf
def PQ(FX:X)(pH:X)(w:World)(j:Int→World→Prop):Prop:=L Pg 209 [.int .u32 ((4294967295:Int)),O.enc (FX)] (D .u32) w fun aP a6=>L Pg 209 [.int .u32 (aP),O.enc (pH)] (D .u32) a6 fun cT bb=>j (bits .xor .u32 IntKind.u32.max cT) bb
theorem abc{FX pH w j}(h:PQ FX pH w j):L Pg 183 [O.enc FX,O.enc pH] (D .u32) w j:=
 aX 10 Tryz.func183 rfl rfl bf
def H8(ff:aU)(w:World)(j:Int→World→Prop)(dQ:dP→World→Prop):Prop:=ds w fun cK=>ex (bI ff) fun aI=>ex (M (D .i64) (aI.add 1) cK) fun dr=>ex (M O (aI.add 0) cK) fun dn=>if (decide (dr≥(dn.len:Int)))=true then (dQ (dP.mk 247 (iw.enc ((⟨(22:Int)⟩:iJ)))) cK) else (ex (M (D .i64) (aI.add 1) cK) fun cr=>br (D .i64) (aI.add 1) (IntKind.i64.wrap (cr+(1:Int))) cK fun bH=>ds bH fun bQ=>ex (M O (aI.add 0) bQ) fun cy=>ex (M (D .i64) (aI.add 1) bQ) fun dg=>ex (cz cy 1 (IntKind.i64.wrap (dg-(1:Int)))) fun gm=>ex (M (D .u8) gm bQ) fun eU=>j eU bQ)
theorem abd{ff:aU}{w:World}{j:Int→World→Prop}{dQ:dP→World→Prop}(h:H8 ff w j dQ):lM Pg 184 [.pointer (ff)] (D .u8) w dQ j:=by
 unfold H8 at h
 refine pw 33 Tryz.func184 rfl rfl (Nat.le_of_ble_eq_true rfl)<|wp_seq<|bv _ rfl<|m rfl<|bp<|wp_seq<|wp_seq ?_
 obtain⟨cK,akB,h⟩:=nx h
 refine oJ 10 mixed rfl (by kernel_rfl) (by intro o a d v w h; cases d<;>exact h) akB (fun G=>?_)
 refine bY 0 3 (.pointer (ff)) G rfl rfl ?_
 obtain⟨aI,wk,h⟩:=h
 refine nt 1 4 wk G rfl rfl<|hZ 2 5 aI 1 Tryz.underlying245 ea G rfl rfl rfl<|bY 4 7 (.pointer (ff)) G rfl rfl<|nt 5 8 wk G rfl rfl<|hZ 6 9 aI 0 Tryz.underlying245 sI G rfl rfl rfl ?_
 obtain⟨dr,akZ,h⟩:=h
 refine hN 3 6 akZ ea G rfl rfl ?_
 obtain⟨dn,ak6,h⟩:=h
 refine hN 7 10 ak6 sI G rfl rfl<|bd 8 11 G rfl rfl rfl (fun _=>h6 (s:=dn) rfl Tryz.underlying79 rfl)<|bd 9 12 G rfl rfl rfl (fun _=>Di (a:=dr) (b:=(dn.len:Int)) rfl rfl rfl)<|ef (by kernel_rfl)<|fq h rfl (fun _ h=>?_) fun _ h=>?_
 ·refine bv _ rfl<|bo 13 rfl rfl rfl (vt (a9:=(22:Int)) rfl rfl)<|bo 14 rfl rfl rfl (vv (v:=iw.enc ((⟨(22:Int)⟩:iJ))) rfl Tryz.underlying247 rfl rfl)<|e3 rfl (.free rfl) (zi (v:=(dP.mk 247 (iw.enc ((⟨(22:Int)⟩:iJ))))) rfl rfl ⟨_,_,rfl⟩ ?_)
  exact pL (P:=Pg) (fn:=Tryz.f184) h
 ·refine wp_skip<|wp_seq<|bv _ rfl<|m rfl<|Ep _ wk rfl rfl<|km _ _ _ Tryz.underlying245 ea rfl rfl rfl<|ks ea h rfl rfl fun cr _ h=>bo _ rfl rfl rfl (sO rfl rfl rfl)<|Ep _ wk rfl rfl<|km _ _ _ Tryz.underlying245 ea rfl rfl rfl<|lQ ea h rfl rfl rfl fun bH h=>bp ?_
  refine wp_seq ?_
  obtain⟨bQ,akI,h⟩:=nx h
  refine oJ 12 mixed rfl (by kernel_rfl) (by intro o a d v w h; cases d<;>exact h) akI (fun G=>?_)
  refine bY 0 22 (.pointer (ff)) G rfl rfl<|nt 1 23 wk G rfl rfl<|hZ 2 24 aI 0 Tryz.underlying245 sI G rfl rfl rfl<|bY 4 26 (.pointer (ff)) G rfl rfl<|nt 5 27 wk G rfl rfl<|hZ 6 28 aI 1 Tryz.underlying245 ea G rfl rfl rfl ?_
  obtain⟨cy,Ll,h⟩:=h
  refine hN 3 25 Ll sI G rfl rfl ?_
  obtain⟨dg,Le,h⟩:=h
  refine hN 7 29 Le ea G rfl rfl<|bd 8 30 G rfl rfl rfl (fun _=>AH (a:=dg) (b:=(1:Int)) rfl rfl rfl) ?_
  obtain⟨gm,JY,h⟩:=h
  refine bd 9 31 G rfl rfl rfl (fun _=>jv (s:=cy) (k:=.i64) (i:=(IntKind.i64.wrap (dg-(1:Int)))) rfl Tryz.underlying79 Dc rfl rfl JY) ?_
  obtain⟨eU,ye,h⟩:=h
  refine hN 10 32 ye Dc G rfl rfl<|fC 11 2 (.int .u8 (eU)) G rfl rfl<|ef (by kernel_rfl)<|wp_ret ?_
  exact lc h rfl rfl
end ba
end Go.Proofs.YtnmmjkjkkmbhiaaGreat
