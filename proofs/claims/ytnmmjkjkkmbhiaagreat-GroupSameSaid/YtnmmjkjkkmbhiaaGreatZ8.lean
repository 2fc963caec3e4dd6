/- Own texts of this claim, part 8: short, merged. -/
import Derived.Test.YtnmmjkjkkmbhiaaGreatZ1
set_option maxRecDepth 100000
set_option maxHeartbeats 40000000
set_option linter.defProp false
set_option linter.unusedVariables false
set_option linter.unusedSimpArgs false
namespace Go.Proofs.YtnmmjkjkkmbhiaaGreat
namespace ba
def H_(ff:aU)(bW:Int)(ie:Int)(aV:World)(j3:Int×Int→World→Prop)(j:Int→World→Prop)(dQ:dP→World→Prop):Prop:=lM Pg 184 [.pointer (ff)] (D .u8) aV dQ fun fK bK=>if (((ie==(63:Int))&&(decide (fK>(1:Int))))||((decide (ie>(0:Int)))&&(fK==(0:Int))))=true then (dQ (dP.mk 247 (iw.enc ((⟨(23:Int)⟩:iJ)))) bK) else (ex (hB ie (IntKind.u64.wrap ((IntKind.u64.wrap (bits .and .u8 fK (127:Int)))*2^(min (ie).toNat IntKind.u64.bits)))) fun d8=>if (decide (fK<(128:Int)))=true then (j (bits .or .u64 bW d8) bK) else (j3 ((bits .or .u64 bW d8),(IntKind.u64.wrap (ie+(7:Int)))) bK))
def H9(ff:aU)(w:World)(j:Int→World→Prop)(dQ:dP→World→Prop):Prop:=e7 (fun (s:Int×Int) w aa=>H_ ff s.1 s.2 w aa j dQ) ((0:Int),(0:Int)) w
theorem abe{ff:aU}{w:World}{j:Int→World→Prop}{dQ:dP→World→Prop}(h:H9 ff w j dQ):lM Pg 185 [.pointer (ff)] (D .u64) w dQ j:=by
 unfold H9 at h
 refine pw 36 Tryz.func185 rfl rfl (Nat.le_of_ble_eq_true rfl)<|wp_seq<|bv _ rfl<|m rfl<|bp<|wp_seq<|bv _ rfl<|m rfl<|bp<|wp_seq<|bv _ rfl<|m rfl ?_
 refine bp<|wp_block<|ys (bE:=Int×Int) (bT:=fun g (s:Int×Int)=>av (av (av (g) 0 (.pointer (ff))) 3 (.int .u64 (s.1))) 4 (.int .u64 (s.2))) (eJ:=((0:Int),(0:Int))) (aW (aW (aW rfl rfl) rfl) rfl) h ?_
 rintro⟨bW,ie⟩ g aV j3 h
 unfold H_ at h
 refine wp_seq<|wp_block<|wp_seq<|bv _ rfl<|m rfl<|e3 rfl (.free rfl) (vQ (d:=(some 9)) rfl (c3 (k:=184) (c:=[.pointer (ff)]) rfl JC rfl) h ?_ ?_)
 ·exact fun _ _ h=>pL (P:=Pg) (fn:=Tryz.f185) h
 intro fK bK h
 refine m rfl<|bp<|wp_seq<|wp_seq<|bv _ rfl<|m rfl<|bo _ rfl rfl rfl (ey rfl rfl rfl)<|m rfl<|hP 13 2 12 rfl rfl rfl rfl rfl (fun ae=>bZ (v:=.int .u8 (fK)) rfl rfl)<|hP 14 2 12 rfl rfl rfl rfl rfl (fun ae=>vu (k:=.u8) (a:=fK) (b:=(1:Int)) rfl (c2 ae) rfl)<|bo 15 rfl rfl rfl (ky rfl rfl rfl rfl)<|m rfl ?_
 refine e5 17 6 16 rfl rfl rfl rfl rfl (fun ae=>bZ (v:=.int .u64 (ie)) rfl rfl)<|e5 18 6 16 rfl rfl rfl rfl rfl (fun ae=>vu (k:=.u64) (a:=ie) (b:=(0:Int)) rfl (c2 ae) rfl)<|e5 19 6 16 rfl rfl rfl rfl rfl (fun ae=>bZ (v:=.bool ((decide (ie>(0:Int))))) rfl (c2 ae))<|Tx 20 9 19 rfl rfl rfl rfl rfl (fun ae=>bZ (v:=.int .u8 (fK)) rfl rfl)<|Tx 21 9 19 rfl rfl rfl rfl rfl (fun ae=>ey (k:=.u8) (a:=fK) (b:=(0:Int)) rfl (c2 ae) rfl)<|e5 22 6 16 rfl rfl rfl rfl rfl (fun ae=>XU (gr:=(!((ie==(63:Int))&&(decide (fK>(1:Int)))))) (a:=(decide (ie>(0:Int)))) (b:=(fK==(0:Int))) ae rfl rfl rfl rfl)<|bo 23 rfl rfl rfl (k7 rfl rfl rfl rfl)<|bp<|fq h rfl (fun _ h=>?_) fun _ h=>?_
 ·refine bv _ rfl<|bo 24 rfl rfl rfl (vt (a9:=(23:Int)) rfl rfl)<|bo 25 rfl rfl rfl (vv (v:=iw.enc ((⟨(23:Int)⟩:iJ))) rfl Tryz.underlying247 rfl rfl)<|e3 rfl (.free rfl) (zi (v:=(dP.mk 247 (iw.enc ((⟨(23:Int)⟩:iJ))))) rfl rfl ⟨_,_,rfl⟩ ?_)
  exact pL (P:=Pg) (fn:=Tryz.f185) h
 ·refine wp_skip<|wp_seq<|bv _ rfl<|m rfl<|m rfl<|bo 28 rfl rfl rfl (GB (a:=fK) (b:=(127:Int)) rfl rfl rfl)<|bo 29 rfl rfl rfl (rs (a:=(bits .and .u8 fK (127:Int))) rfl Tryz.underlying5 Tryz.underlying130 rfl)<|m rfl ?_
  obtain⟨d8,aif,h⟩:=h
  refine bo 31 rfl rfl rfl (GH (a:=(IntKind.u64.wrap (bits .and .u8 fK (127:Int)))) (b:=ie) (r:=d8) rfl rfl rfl aif)<|bo 32 rfl rfl rfl (GG (a:=bW) (b:=d8) rfl rfl rfl)<|m rfl<|bp<|wp_seq<|bv _ rfl<|m rfl<|bo _ rfl rfl rfl (oe rfl rfl rfl)<|bp<|fq h rfl (fun _ h=>?_) fun _ h=>?_
  ·refine wp_seq<|bv _ rfl<|m rfl<|m rfl<|bp<|wp_ret ?_
   exact lc h rfl rfl
  ·refine wp_skip<|bv _ rfl<|m rfl<|bo _ rfl rfl rfl (sO rfl rfl rfl)<|m rfl<|bp ?_
   exact⟨((bits .or .u64 bW d8),(IntKind.u64.wrap (ie+(7:Int)))),_,arr (aW (aW (aW rfl rfl) rfl) rfl),h⟩
def Ib(ff:aU)(bW:Int)(dm:Int)(aV:World)(j3:Int×Int→World→Prop)(j:Nat→World→Prop)(dQ:dP→World→Prop):Prop:=if (decide (dm<(8:Int)))=true then (ex (hB (8:Int) (IntKind.u64.wrap (bW*2^(min ((8:Int)).toNat IntKind.u64.bits)))) fun d6=>lM Pg 184 [.pointer (ff)] (D .u8) aV dQ fun cF bH=>j3 ((bits .or .u64 d6 (IntKind.u64.wrap cF)),(IntKind.i64.wrap (dm+(1:Int)))) bH) else (L Pg 143 [.float .f64 ((Int.toNat bW))] (D .u64) aV fun dq bX=>if (dq != bW)=true then (dQ (dP.mk 247 (iw.enc ((⟨(25:Int)⟩:iJ)))) bX) else (j (Int.toNat bW) bX))
def Ia(ff:aU)(w:World)(j:Nat→World→Prop)(dQ:dP→World→Prop):Prop:=e7 (fun (s:Int×Int) w aa=>Ib ff s.1 s.2 w aa j dQ) ((0:Int),(0:Int)) w
theorem abf{ff:aU}{w:World}{j:Nat→World→Prop}{dQ:dP→World→Prop}(h:Ia ff w j dQ):lM Pg 186 [.pointer (ff)] g2 w dQ j:=by
 unfold Ia at h
 refine pw 23 Tryz.func186 rfl rfl (Nat.le_of_ble_eq_true rfl)<|wp_seq<|bv _ rfl<|m rfl<|bp<|wp_seq<|bv _ rfl<|m rfl<|bp<|wp_seq<|wp_seq<|bv _ rfl ?_
 refine m rfl<|bp<|wp_block<|ys (bE:=Int×Int) (bT:=fun g (s:Int×Int)=>av (av (av (g) 0 (.pointer (ff))) 3 (.int .u64 (s.1))) 5 (.int .i64 (s.2))) (eJ:=((0:Int),(0:Int))) (aW (aW (aW rfl rfl) rfl) rfl) h ?_
 rintro⟨bW,dm⟩ g aV j3 h
 unfold Ib at h
 refine wp_seq<|bv _ rfl<|bo _ rfl rfl rfl (oe rfl rfl rfl)<|bp<|wp_seq<|fq h rfl (fun _ h=>?_) fun _ h=>?_
 ·refine wp_skip<|wp_seq<|wp_block<|bv _ rfl<|m rfl ?_
  obtain⟨d6,aie,h⟩:=h
  refine bo 8 rfl rfl rfl (GH (a:=bW) (b:=(8:Int)) (r:=d6) rfl rfl rfl aie)<|m rfl<|e3 rfl (.free rfl) (vQ (d:=(some 10)) rfl (c3 (k:=184) (c:=[.pointer (ff)]) rfl JC rfl) h ?_ ?_)
  ·exact fun _ _ h=>pL (P:=Pg) (fn:=Tryz.f186) h
  intro cF bH h
  refine bo 11 rfl rfl rfl (rs (a:=cF) rfl Tryz.underlying5 Tryz.underlying130 rfl)<|bo 12 rfl rfl rfl (GG (a:=d6) (b:=(IntKind.u64.wrap cF)) rfl rfl rfl)<|m rfl<|bp<|bv _ rfl<|bo _ rfl rfl rfl (sO rfl rfl rfl)<|m rfl<|bp ?_
  exact⟨((bits .or .u64 d6 (IntKind.u64.wrap cF)),(IntKind.i64.wrap (dm+(1:Int)))),_,arr (aW (aW (aW rfl rfl) rfl) rfl),h⟩
 ·refine wp_exit<|wp_seq<|bv _ rfl<|m rfl<|bo 15 rfl rfl rfl (M8 (b:=bW) rfl JG rfl)<|m rfl<|bp<|wp_seq<|wp_seq<|bv _ rfl<|m rfl<|hc af1 rfl rfl h fun dq bX h=>?_
  refine m rfl<|bo _ rfl rfl rfl (hW rfl rfl rfl)<|bp<|fq h rfl (fun _ h=>?_) fun _ h=>?_
  ·refine bv _ rfl<|bo 20 rfl rfl rfl (vt (a9:=(25:Int)) rfl rfl)<|bo 21 rfl rfl rfl (vv (v:=iw.enc ((⟨(25:Int)⟩:iJ))) rfl Tryz.underlying247 rfl rfl)<|e3 rfl (.free rfl) (zi (v:=(dP.mk 247 (iw.enc ((⟨(25:Int)⟩:iJ))))) rfl rfl ⟨_,_,rfl⟩ ?_)
   exact pL (P:=Pg) (fn:=Tryz.f186) h
  ·refine wp_skip<|wp_seq<|bv _ rfl<|m rfl<|m rfl<|bp<|wp_ret ?_
   exact lc h rfl rfl
def Ic(ff:aU)(w:World)(j:(List UInt8)→World→Prop)(dQ:dP→World→Prop):Prop:=lM Pg 185 [.pointer (ff)] (D .u64) w dQ fun fT cK=>if (decide (fT>(1000:Int)))=true then (dQ (dP.mk 247 (iw.enc ((⟨(24:Int)⟩:iJ)))) cK) else (ds cK fun aV=>ex (bI ff) fun aR=>ex (M O (aR.add 0) aV) fun cr=>ex (M (D .i64) (aR.add 1) aV) fun cZ=>if (decide ((IntKind.u64.wrap (IntKind.i64.wrap ((cr.len:Int)-cZ)))<fT))=true then (dQ (dP.mk 247 (iw.enc ((⟨(22:Int)⟩:iJ)))) aV) else (ex (M (D .i64) (aR.add 1) aV) fun cl=>br (D .i64) (aR.add 1) (IntKind.i64.wrap (cl+(IntKind.i64.wrap fT))) aV fun bX=>ds bX fun b3=>ex (M O (aR.add 0) b3) fun dc=>ex (M (D .i64) (aR.add 1) b3) fun eU=>ex (M (D .i64) (aR.add 1) b3) fun cV=>ex (Sub dc 1 (IntKind.i64.wrap (eU-(IntKind.i64.wrap fT))) cV ((dc).cap:Int)) fun y6=>ex (gi y6 b3) fun Dz=>j Dz b3))
theorem abg{ff:aU}{w:World}{j:(List UInt8)→World→Prop}{dQ:dP→World→Prop}(h:Ic ff w j dQ):lM Pg 187 [.pointer (ff)] dT w dQ j:=by
 unfold Ic at h
 refine pw 51 Tryz.func187 rfl rfl (Nat.le_of_ble_eq_true rfl)<|wp_seq<|bv _ rfl<|m rfl<|bp<|wp_seq<|bv _ rfl<|m rfl<|e3 rfl (.free rfl) (vQ (d:=(some 5)) rfl (c3 (k:=185) (c:=[.pointer (ff)]) rfl JD rfl) h ?_ ?_)
 ·exact fun _ _ h=>pL (P:=Pg) (fn:=Tryz.f187) h
 intro fT cK h
 refine m rfl<|bp<|wp_seq<|wp_seq<|bv _ rfl<|m rfl<|bo _ rfl rfl rfl (vu rfl rfl rfl)<|bp<|fq h rfl (fun _ h=>?_) fun _ h=>?_
 ·refine bv _ rfl<|bo 8 rfl rfl rfl (vt (a9:=(24:Int)) rfl rfl)<|bo 9 rfl rfl rfl (vv (v:=iw.enc ((⟨(24:Int)⟩:iJ))) rfl Tryz.underlying247 rfl rfl)<|e3 rfl (.free rfl) (zi (v:=(dP.mk 247 (iw.enc ((⟨(24:Int)⟩:iJ))))) rfl rfl ⟨_,_,rfl⟩ ?_)
  exact pL (P:=Pg) (fn:=Tryz.f187) h
 ·refine wp_skip<|wp_seq<|wp_seq ?_
  obtain⟨aV,K_,h⟩:=nx h
  refine oJ 13 mixed rfl (by kernel_rfl) (by intro o a d v w h; cases d<;>exact h) K_ (fun G=>?_)
  refine bY 0 10 (.pointer (ff)) G rfl rfl ?_
  obtain⟨aR,uK,h⟩:=h
  refine nt 1 11 uK G rfl rfl<|hZ 2 12 aR 0 Tryz.underlying245 sI G rfl rfl rfl<|bY 5 15 (.pointer (ff)) G rfl rfl<|nt 6 16 uK G rfl rfl<|hZ 7 17 aR 1 Tryz.underlying245 ea G rfl rfl rfl<|bY 11 21 (.int .u64 (fT)) G rfl rfl ?_
  obtain⟨cr,Lk,h⟩:=h
  refine hN 3 13 Lk sI G rfl rfl<|bd 4 14 G rfl rfl rfl (fun _=>h6 (s:=cr) rfl Tryz.underlying79 rfl) ?_
  obtain⟨cZ,yf,h⟩:=h
  refine hN 8 18 yf ea G rfl rfl<|bd 9 19 G rfl rfl rfl (fun _=>AH (a:=(cr.len:Int)) (b:=cZ) rfl rfl rfl)<|bd 10 20 G rfl rfl rfl (fun _=>rs (a:=(IntKind.i64.wrap ((cr.len:Int)-cZ))) rfl Tryz.underlying3 Tryz.underlying130 rfl)<|bd 12 22 G rfl rfl rfl (fun _=>oe (a:=(IntKind.u64.wrap (IntKind.i64.wrap ((cr.len:Int)-cZ)))) (b:=fT) rfl rfl rfl)<|ef (by kernel_rfl)<|fq h rfl (fun _ h=>?_) fun _ h=>?_
  ·refine bv _ rfl<|bo 23 rfl rfl rfl (vt (a9:=(22:Int)) rfl rfl)<|bo 24 rfl rfl rfl (vv (v:=iw.enc ((⟨(22:Int)⟩:iJ))) rfl Tryz.underlying247 rfl rfl)<|e3 rfl (.free rfl) (zi (v:=(dP.mk 247 (iw.enc ((⟨(22:Int)⟩:iJ))))) rfl rfl ⟨_,_,rfl⟩ ?_)
   exact pL (P:=Pg) (fn:=Tryz.f187) h
  ·refine wp_skip<|wp_seq<|bv _ rfl<|m rfl<|Ep _ uK rfl rfl<|km _ _ _ Tryz.underlying245 ea rfl rfl rfl<|ks ea h rfl rfl fun cl _ h=>m rfl<|bo 30 rfl rfl rfl (rs (a:=fT) rfl Tryz.underlying130 Tryz.underlying3 rfl)<|bo _ rfl rfl rfl (sO rfl rfl rfl)<|Ep _ uK rfl rfl<|km _ _ _ Tryz.underlying245 ea rfl rfl rfl ?_
   refine lQ ea h rfl rfl rfl fun bX h=>bp<|wp_seq ?_
   obtain⟨b3,K5,h⟩:=nx h
   refine oJ 18 mixed rfl (by kernel_rfl) (by intro o a d v w h; cases d<;>exact h) K5 (fun G=>?_)
   refine bY 0 34 (.pointer (ff)) G rfl rfl<|nt 1 35 uK G rfl rfl<|hZ 2 36 aR 0 Tryz.underlying245 sI G rfl rfl rfl<|bY 4 38 (.pointer (ff)) G rfl rfl<|nt 5 39 uK G rfl rfl<|hZ 6 40 aR 1 Tryz.underlying245 ea G rfl rfl rfl<|bY 8 42 (.int .u64 (fT)) G rfl rfl<|bd 9 43 G rfl rfl rfl (fun _=>rs (a:=fT) rfl Tryz.underlying130 Tryz.underlying3 rfl)<|bY 11 45 (.pointer (ff)) G rfl rfl<|nt 12 46 uK G rfl rfl<|hZ 13 47 aR 1 Tryz.underlying245 ea G rfl rfl rfl ?_
   obtain⟨dc,yd,h⟩:=h
   refine hN 3 37 yd sI G rfl rfl ?_
   obtain⟨eU,ye,h⟩:=h
   refine hN 7 41 ye ea G rfl rfl<|bd 10 44 G rfl rfl rfl (fun _=>AH (a:=eU) (b:=(IntKind.i64.wrap fT)) rfl rfl rfl) ?_
   obtain⟨cV,CJ,h⟩:=h
   refine hN 14 48 CJ ea G rfl rfl ?_
   obtain⟨y6,aki,h⟩:=h
   refine bd 15 49 G rfl rfl rfl (fun _=>GI (s:=dc) (c:=(IntKind.i64.wrap (eU-(IntKind.i64.wrap fT)))) (h:=cV) rfl Tryz.underlying79 Dc rfl rfl rfl aki) ?_
   obtain⟨Dz,akj,h⟩:=h
   refine oA (i:=16) (d:=(some 50)) (fun y=>(gi y6 y) Dz) G (by kernel_rfl) (by kernel_rfl) rfl (.free rfl) rfl (fun y Z=>GC (b:=y6) (r:=Dz) rfl Tryz.underlying79 Tryz.underlying5 Tryz.underlying9 rfl Z) akj<|fC 17 2 (.string ⟨(Dz).toArray⟩) G rfl rfl<|ef (by kernel_rfl)<|wp_ret ?_
   exact lc h rfl rfl
def PR(dN:X)(bW:Int)(w:World)(j:X→World→Prop):Prop:=ex (hB (24:Int) (Int.fdiv bW (2^(min ((24:Int)).toNat IntKind.u32.bits)))) fun d3=>ex (hB (16:Int) (Int.fdiv bW (2^(min ((16:Int)).toNat IntKind.u32.bits)))) fun d4=>ex (hB (8:Int) (Int.fdiv bW (2^(min ((8:Int)).toNat IntKind.u32.bits)))) fun d5=>kG 5 (D .u8) 1 1 dN [(IntKind.u8.wrap d3),(IntKind.u8.wrap d4),(IntKind.u8.wrap d5),(IntKind.u8.wrap bW)] w fun gh bQ=>j gh bQ
theorem abh{dN bW w j}(h:PR dN bW w j):L Pg 188 [O.enc dN,.int .u32 bW] O w j:=
 aX 19 Tryz.func188 rfl rfl bf
def PS(e6:aU)(bl:Addr)(w:World)(j:Unit→World→Prop):Prop:=ds w fun a6=>ex (bI e6) fun bh=>ex (M O (bh.add 0) a6) fun dn=>ex (M O bl a6) fun cr=>q1 5 (D .u8) 1 1 dn cr a6 fun cF bH=>br O (bh.add 0) cF bH fun bX=>j () bX
theorem abi{e6 bl w j}(h:PS e6 bl w j):L Pg 189 [.pointer e6,.pointer (some bl)] cJ w j:=by
 have gH:=eT 1 (da [0,1,2,3,4,5,6,7,8,9] .e)
 exact aX 12 Tryz.func189 rfl rfl bf
def PU(cG:aU)(bl:Int)(w:World)(j:Int→World→Prop):Prop:=if ((decide (bl<(1:Int)))||(decide (bl>(1125899906842624:Int))))=true then (j (151:Int) w) else (ex (bI cG) fun aI=>ex (M (D .i64) (aI.add 2) w) fun dr=>if (decide (bl≤dr))=true then (j (152:Int) w) else (j (0:Int) w))
theorem abk{cG bl w j}(h:PU cG bl w j):L Pg 197 [.pointer cG,.int .i64 bl] (D .i64) w j:=
 aX 19 Tryz.func197 rfl rfl bf
def PV(db:aU)(vg:Int)(w:World)(j:(ei×Bool)→World→Prop):Prop:=ch 210 cX iy w fun aI aV=>ex (bI db) fun aR=>ex (M dK (aR.add 0) aV) fun cr=>ex (fO aM .i64 cr vg aV) fun At=>if (!(((At.getD (none:Option Addr),At.isSome)).2))=true then (br cX aI (⟨(0:Int),(0:Int)⟩:ei) aV fun bQ=>ex (M cX aI bQ) fun cy=>j (cy,false) bQ) else (L Pg 211 [.pointer (((At.getD (none:Option Addr),At.isSome)).1)] (bJ cX bi) aV fun dt b3=>br cX aI dt.1 b3 fun cO=>ex (M cX aI cO) fun cV=>j (cV,dt.2) cO)
theorem abl{db vg w j}(h:PV db vg w j):L Pg 198 [.pointer db,.int .i64 vg] (bJ cX bi) w j:=
 aX 24 Tryz.func198 rfl rfl bf
def PW(cC:Int)(w:World)(j:Bool→World→Prop):Prop:=j ((decide (cC≥(0:Int)))&&(decide (cC<(4096:Int)))) w
theorem abm{cC w j}(h:PW cC w j):L Pg 199 [.int .i64 cC] bi w j:=
 aX 9 Tryz.func199 rfl rfl bf
def PY(bq:Int)(w:World)(j:Int→World→Prop):Prop:=if ((decide (bq<(0:Int)))||(decide (bq>(1000000000000000:Int))))=true then (j (40:Int) w) else (j (0:Int) w)
theorem abp{bq w j}(h:PY bq w j):L Pg 200 [.int .i64 bq] (D .i64) w j:=
 aX 9 Tryz.func200 rfl rfl bf
def Bg(bl:Int)(lA:Int)(hC:Addr)(aeL:aU)(jj:World)(mL:Int→World→Prop)(j:Int→World→Prop):Prop:=ex (M (D .i64) (hC.add 1) jj) fun iI=>L Pg 214 [.pointer (aeL),.int .i64 (bl),.int .i64 (iI)] (D .i64) jj fun a3 gw=>mL ((IntKind.i64.wrap (lA+(1:Int)))) gw
def Ie(bl:Int)(ke:X)(bh:Addr)(lA:Int)(bX:World)(mL:Int→World→Prop)(j:Int→World→Prop):Prop:=if (decide (lA<(ke.len:Int)))=true then (ex (cz ke 2 lA) fun gm=>ex (M jC gm bX) fun eU=>ch 174 jC BE bX fun hC cQ=>br jC hC eU cQ fun fm=>ds fm fun du=>ex (M dK (bh.add 0) du) fun fM=>ex (M (D .i64) (hC.add 0) du) fun gx=>ex (fO aM .i64 fM gx du) fun gu=>if (!(((gu.getD (none:Option Addr),gu.isSome)).2))=true then (L Pg 213 [] aM du fun AI ik=>ds ik fun hA=>ex (M dK (bh.add 0) hA) fun qQ=>ex (M (D .i64) (hC.add 0) hA) fun nQ=>nb aM .i64 qQ nQ AI hA fun mE=>Bg bl lA hC AI mE mL j) else (Bg bl lA hC (((gu.getD (none:Option Addr),gu.isSome)).1) du mL j)) else (j (0:Int) bX)
def PZ(db:aU)(bl:Int)(ke:X)(w:World)(j:Int→World→Prop):Prop:=if ((decide (bl<(1:Int)))||(decide (bl>(1125899906842624:Int))))=true then (j (120:Int) w) else (ex (bI db) fun bh=>ex (M (D .i64) (bh.add 1) w) fun dn=>if (decide (bl≤dn))=true then (j (121:Int) w) else (L Pg 212 [.pointer (db),.int .i64 (bl),O.enc (ke)] (D .i64) w fun fK bK=>if (fK != (0:Int))=true then (j fK bK) else (e7 (fun (s:Int) w aa=>Ie bl ke bh s w aa j) ((0:Int)) bK)))
theorem abq{db bl ke w j}(h:PZ db bl ke w j):L Pg 201 [.pointer db,.int .i64 bl,O.enc ke] (D .i64) w j:=by
 have gH:=eT 12 (da [0,1,2,4,3,5,6,7,8,9,10,11] .e)
 have r3:=eT 15 (da [0,1,2,4,6,3,5,7] .e)
 have kJ:=fun {lA} {hC} {mL}=>kv (bE:=aU) 16 (fun s w=>Bg bl lA hC s w mL j) (fun g s=>av (av (av (av (av (av (av g 0 (.pointer db)) 1 (.int .i64 bl)) 9 (.pointer (some hC))) 33 (O.enc ke)) 34 (.int .i64 ((ke.len:Int)))) 35 (.int .i64 lA)) 10 (.pointer s))
 have hT:=fun {bh}=>gK (bE:=Int) 10 (fun s w aa=>Ie bl ke bh s w aa j) (fun g s=>av (av (av (av (av g 0 (.pointer db)) 1 (.int .i64 bl)) 33 (O.enc ke)) 34 (.int .i64 ((ke.len:Int)))) 35 (.int .i64 s))
 exact aX 65 Tryz.func201 rfl rfl bf
def P0(cG:aU)(bl:Int)(w:World)(j:Unit→World→Prop):Prop:=ex (bI cG) fun aI=>ex (M (D .i64) (aI.add 2) w) fun dr=>br (D .i64) (aI.add 2) (max dr bl) w fun bb=>j () bb
theorem abr{cG bl w j}(h:P0 cG bl w j):L Pg 202 [.pointer cG,.int .i64 bl] cJ w j:=
 aX 13 Tryz.func202 rfl rfl bf
def zs(aI:Addr)(bU:Addr)(wm:Addr)(yD:Bool)(gu:(Option Int))(Y3:Bool)(h9:World)(j:(Int×Int)→World→Prop):Prop:=if Y3=true then (j ((0:Int),(155:Int)) h9) else (if (!yD)=true then (j ((0:Int),(159:Int)) h9) else (if ((gu.getD (0:Int),gu.isSome)).2=true then (j ((0:Int),(160:Int)) h9) else (ex (M bi (aI.add 3) h9) fun nQ=>if (!nQ)=true then (ex (M (D .i64) (wm.add 1) h9) fun eE=>ex (M (D .i64) (aI.add 2) h9) fun oM=>L Pg 215 [.int .i64 (eE),.int .i64 (oM)] (bJ (D .i64) (D .i64)) h9 fun hl lD=>if (hl.2 != (0:Int))=true then (j ((0:Int),(162:Int)) lD) else (j ((0:Int),(0:Int)) lD)) else (ds h9 fun l9=>ex (M (D .i64) (aI.add 2) l9) fun zl=>ex (M g2 (bU.add 1) l9) fun p2=>L Pg 216 [.int .i64 (zl),.float .f64 (p2)] (bJ (D .i64) (D .i64)) l9 fun qJ zf=>ex (M (D .i64) (wm.add 1) zf) fun Hx=>ex (M (D .i64) (aI.add 2) zf) fun A6=>if (decide (Hx<(IntKind.i64.wrap (A6+qJ.1))))=true then (j ((0:Int),(161:Int)) zf) else (j (qJ.1,(0:Int)) zf)))))
def zr(aI:Addr)(bU:Addr)(d_:(Option pr))(wm:Addr)(yD:Bool)(fm:World)(j:(Int×Int)→World→Prop):Prop:=ds fm fun du=>ex (M dK (bU.add 4) du) fun fM=>ex (M (D .i64) (aI.add 1) du) fun gx=>ex (fO (D .i64) .i64 fM gx du) fun gu=>ex (M (D .i64) (aI.add 0) du) fun fy=>if (decide (fy<(1:Int)))=true then (j ((0:Int),(156:Int)) du) else (if ((d_.getD jp,d_.isSome)).2=true then (j ((0:Int),(157:Int)) du) else (ex (M dK (bU.add 5) du) fun j0=>ex (nu j0 du) fun LJ=>if (decide ((LJ:Int)≥(5000:Int)))=true then (j ((0:Int),(158:Int)) du) else (ex (M (D .i64) (aI.add 1) du) fun mG=>L Pg 199 [.int .i64 (mG)] bi du fun wW hq=>if (!wW)=true then (j ((0:Int),(153:Int)) hq) else (ex (M (D .i64) (aI.add 2) hq) fun il=>if (decide (il<(1:Int)))=true then (zs aI bU wm yD gu true hq j) else (ex (M (D .i64) (aI.add 2) hq) fun Hz=>L Pg 200 [.int .i64 (Hz)] (D .i64) hq fun l5 vJ=>zs aI bU wm yD gu (l5 != (0:Int)) vJ j)))))
def If(cG:aU)(De:hd)(w:World)(j:(Int×Int)→World→Prop):Prop:=ch 169 kn De w fun aI aV=>ds aV fun bb=>ex (bI cG) fun bU=>ex (M dK (bU.add 5) bb) fun cZ=>ex (M (D .i64) (aI.add 0) bb) fun cl=>ex (fO jo .i64 cZ cl bb) fun d_=>ch 288 jo jp bb fun cs cU=>br jo cs (((d_.getD jp,d_.isSome)).1) cU fun cO=>ds cO fun D9=>ex (M aM ((bU.add 0).add 0) D9) fun zm=>ex (M (D .i64) (aI.add 1) D9) fun Ei=>E0 (L Pg 198 [.pointer (zm),.int .i64 (Ei)] (bJ cX bi) D9 fun qK ZN=>ch 210 cX iy ZN fun BJ ZO=>br cX BJ qK.1 ZO fun ZP=>zr aI bU d_ BJ qK.2 ZP j) (ch 210 cX iy D9 fun zH zg=>L Pg 198 [.pointer (zm),.int .i64 (Ei)] (bJ cX bi) zg fun mz zh=>br cX zH mz.1 zh fun ZQ=>zr aI bU d_ zH mz.2 ZQ j)
theorem abt{cG:aU}{De:hd}{w:World}{j:(Int×Int)→World→Prop}(h:If cG De w j):L Pg 203 [.pointer (cG),kn.enc (De)] (bJ (D .i64) (D .i64)) w j:=by
 unfold If at h
 refine pw 111 Tryz.func203 rfl rfl (Nat.le_of_ble_eq_true rfl)<|wp_seq<|bv _ rfl ?_
 obtain⟨aI,aV,wk,K_,h⟩:=rr h
 refine bo 3 rfl rfl rfl (AG (u:=De) rfl Mt rfl wk K_)<|m rfl<|m rfl<|bp<|wp_seq ?_
 obtain⟨bb,La,h⟩:=nx h
 refine oJ 13 mixed rfl (by kernel_rfl) (by intro o a d v w h; cases d<;>exact h) La (fun G=>?_)
 refine bY 0 17 (.pointer (cG)) G rfl rfl ?_
 obtain⟨bU,tk,h⟩:=h
 refine nt 1 18 tk G rfl rfl<|hZ 2 19 bU 5 Tryz.underlying99 AA G rfl rfl rfl<|hZ 4 21 aI 0 Tryz.underlying169 ea G rfl rfl rfl ?_
 obtain⟨cZ,yf,h⟩:=h
 refine hN 3 20 yf AA G rfl rfl ?_
 obtain⟨cl,CL,h⟩:=h
 refine hN 5 22 CL ea G rfl rfl ?_
 obtain⟨d_,Cv,h⟩:=h
 refine oA (i:=6) (d:=(some 23)) (fun y=>(fO jo .i64 cZ cl y) d_) G (by kernel_rfl) (by kernel_rfl) rfl (.free rfl) rfl (fun y Z=>Dj (T:=jo) (r:=cZ) (key:=cl) (u:=d_) (aL:=jp) rfl Tryz.underlying97 Tryz.underlying3 (Af) rfl rfl Z) Cv<|bY 7 16 ((bJ jo bi).enc (((d_.getD jp,d_.isSome)))) G rfl rfl<|bd 8 24 G rfl rfl rfl (fun _=>pM (aK:=#[jo.enc (((d_.getD jp,d_.isSome)).1),.bool (((d_.getD jp,d_.isSome)).2)]) (v:=jo.enc (((d_.getD jp,d_.isSome)).1)) rfl rfl rfl)<|bd 9 25 G rfl rfl rfl (fun _=>pM (aK:=#[jo.enc (((d_.getD jp,d_.isSome)).1),.bool (((d_.getD jp,d_.isSome)).2)]) (v:=.bool (((d_.getD jp,d_.isSome)).2)) rfl rfl rfl)<|bA (i:=10) (by kernel_rfl) ?_
 obtain⟨cs,cU,Cl,FG,h⟩:=rr h
 refine tD (d:=(some 6)) rfl (.free rfl) rfl (AF (u:=jp) rfl Mv Af Cl FG) ⟨(cg (fun h=>U7 FG h) (cg (fun h=>vf FG h) (cg (fun h=>vf FG h) c_))),?_⟩
 refine bA (i:=11) (by kernel_rfl) ?_
 obtain⟨cO,CI,CB,h⟩:=qM h
 refine sL (d:=none) rfl (.free rfl) rfl (qH (T:=jo) (u:=((d_.getD jp,d_.isSome)).1) (a:=cs) rfl Mv rfl rfl CB CI) ⟨(g8 (by kernel_rfl) (g8 (by kernel_rfl) (g8 (by kernel_rfl) c_))),?_⟩
 refine fC 12 7 (.bool (((d_.getD jp,d_.isSome)).2)) G rfl rfl<|ef (by kernel_rfl)<|wZ (bE:=Addr×Bool) (eV:=fun (s:Addr×Bool) w=>zr aI bU d_ s.1 s.2 w j) (bT:=fun g (s:Addr×Bool)=>av (av (av (av (av (g) 0 (.pointer (cG))) 3 (.pointer (some aI))) 7 (.bool (((d_.getD jp,d_.isSome)).2))) 8 (.pointer (some s.1))) 9 (.bool (s.2))) ?_ ?_
 ·rintro⟨wm,yD⟩ g fm h
  unfold zr at h
  refine wp_seq ?_
  obtain⟨du,K6,h⟩:=nx h
  refine oJ 12 mixed rfl (by kernel_rfl) (by intro o a d v w h; cases d<;>exact h) K6 (fun G=>?_)
  refine bY 0 38 (.pointer (cG)) G rfl rfl<|nt 1 39 tk G rfl rfl<|hZ 2 40 bU 4 Tryz.underlying99 Gk G rfl rfl rfl<|hZ 4 42 aI 1 Tryz.underlying169 ea G rfl rfl rfl ?_
  obtain⟨fM,CK,h⟩:=h
  refine hN 3 41 CK Gk G rfl rfl ?_
  obtain⟨gx,akM,h⟩:=h
  refine hN 5 43 akM ea G rfl rfl ?_
  obtain⟨gu,ajQ,h⟩:=h
  refine oA (i:=6) (d:=(some 44)) (fun y=>(fO (D .i64) .i64 fM gx y) gu) G (by kernel_rfl) (by kernel_rfl) rfl (.free rfl) rfl (fun y Z=>Dj (T:=(D .i64)) (r:=fM) (key:=gx) (u:=gu) (aL:=(0:Int)) rfl Tryz.underlying96 Tryz.underlying3 (CO) rfl rfl Z) ajQ<|bY 7 37 ((bJ (D .i64) bi).enc (((gu.getD (0:Int),gu.isSome)))) G rfl rfl<|bd 8 45 G rfl rfl rfl (fun _=>pM (aK:=#[.int .i64 (((gu.getD (0:Int),gu.isSome)).1),.bool (((gu.getD (0:Int),gu.isSome)).2)]) (v:=.int .i64 (((gu.getD (0:Int),gu.isSome)).1)) rfl rfl rfl)<|bd 9 46 G rfl rfl rfl (fun _=>pM (aK:=#[.int .i64 (((gu.getD (0:Int),gu.isSome)).1),.bool (((gu.getD (0:Int),gu.isSome)).2)]) (v:=.bool (((gu.getD (0:Int),gu.isSome)).2)) rfl rfl rfl)<|fC 10 10 (.int .i64 (((gu.getD (0:Int),gu.isSome)).1)) G rfl rfl<|fC 11 11 (.bool (((gu.getD (0:Int),gu.isSome)).2)) G rfl rfl<|ef (by kernel_rfl)<|wp_seq<|wp_block<|wp_seq<|bv _ rfl<|km _ _ _ Tryz.underlying169 ea rfl rfl rfl ?_
  refine ks ea h rfl rfl fun fy _ h=>bo _ rfl rfl rfl (oe rfl rfl rfl)<|m rfl<|bp<|fq h rfl (fun _ h=>?_) fun _ h=>?_
  ·refine wp_seq<|bv _ rfl<|m rfl<|m rfl<|bp<|wp_ret ?_
   exact rM h rfl rfl
  ·refine wp_seq<|bv _ rfl<|m rfl<|m rfl<|bp<|fq h rfl (fun _ h=>?_) fun _ h=>?_
   ·refine wp_seq<|bv _ rfl<|m rfl<|m rfl<|bp<|wp_ret ?_
    exact rM h rfl rfl
   ·refine wp_seq<|bv _ rfl<|m rfl<|Ep _ tk rfl rfl<|km _ _ _ Tryz.underlying99 AA rfl rfl rfl<|ks AA h rfl rfl fun j0 _ h=>?_
    obtain⟨LJ,ajL,h⟩:=h
    refine bo 58 rfl rfl rfl (M_ (r:=j0) (c:=LJ) rfl Tryz.underlying97 rfl ajL)<|bo _ rfl rfl rfl (Di rfl rfl rfl)<|m rfl<|bp<|fq h rfl (fun _ h=>?_) fun _ h=>?_
    ·refine wp_seq<|bv _ rfl<|m rfl<|m rfl<|bp<|wp_ret ?_
     exact rM h rfl rfl
    ·refine wp_seq<|bv _ rfl<|km _ _ _ Tryz.underlying169 ea rfl rfl rfl<|ks ea h rfl rfl fun mG _ h=>hc agb rfl rfl h fun wW hq h=>bo _ rfl rfl rfl (lx rfl rfl)<|m rfl<|bp<|fq h rfl (fun _ h=>?_) fun _ h=>?_
     ·refine wp_seq<|bv _ rfl<|m rfl<|m rfl<|bp<|wp_ret ?_
      exact rM h rfl rfl
     ·refine wp_seq<|bv _ rfl<|km _ _ _ Tryz.underlying169 ew rfl rfl rfl<|ks ew h rfl rfl fun il _ h=>bo _ rfl rfl rfl (oe rfl rfl rfl)<|m rfl<|y5 (bE:=Bool) (eV:=fun (s:Bool) w=>zs aI bU wm yD gu s w j) (bT:=fun g (s:Bool)=>av (av (av (av (av (av (g) 0 (.pointer (cG))) 3 (.pointer (some aI))) 8 (.pointer (some wm))) 9 (.bool (yD))) 11 (.bool (((gu.getD (0:Int),gu.isSome)).2))) 74 (.bool (s))) [4,5,6,7,8] [9] ?_ ?_
      ·rintro Y3 g h9 h
       unfold zs at h
       refine m rfl<|bp<|fq h rfl (fun _ h=>?_) fun _ h=>?_
       ·refine wp_seq<|bv _ rfl<|m rfl<|m rfl<|bp<|wp_ret ?_
        exact rM h rfl rfl
       ·refine wp_seq<|bv _ rfl<|m rfl<|bo _ rfl rfl rfl (lx rfl rfl)<|m rfl<|bp<|fq h rfl (fun _ h=>?_) fun _ h=>?_
        ·refine wp_seq<|bv _ rfl<|m rfl<|m rfl<|bp<|wp_ret ?_
         exact rM h rfl rfl
        ·refine wp_seq<|bv _ rfl<|m rfl<|m rfl<|bp<|fq h rfl (fun _ h=>?_) fun _ h=>?_
         ·refine wp_seq<|bv _ rfl<|m rfl<|m rfl<|bp<|wp_ret ?_
          exact rM h rfl rfl
         ·refine wp_skip<|wp_seq<|wp_seq<|bv _ rfl<|km _ _ _ Tryz.underlying169 sH rfl rfl rfl<|ks sH h rfl rfl fun nQ _ h=>bo _ rfl rfl rfl (lx rfl rfl)<|bp<|fq h rfl (fun _ h=>?_) fun _ h=>?_
          ·refine wp_seq<|wp_seq<|bv _ rfl<|km _ _ _ Tryz.underlying210 ew rfl rfl rfl<|ks ew h rfl rfl fun eE _ h=>km _ _ _ Tryz.underlying169 ew rfl rfl rfl<|ks ew h rfl rfl fun oM _ h=>hc age rfl rfl h fun hl lD h=>m rfl<|im _ _ rfl rfl rfl<|im _ _ rfl rfl rfl<|m rfl ?_
           refine m rfl<|bp<|wp_seq<|bv _ rfl<|m rfl<|bo _ rfl rfl rfl (hW rfl rfl rfl)<|bp<|fq h rfl (fun _ h=>?_) fun _ h=>?_
           ·refine wp_seq<|bv _ rfl<|m rfl<|m rfl<|bp<|wp_ret ?_
            exact rM h rfl rfl
           ·refine wp_skip<|wp_seq<|bv _ rfl<|m rfl<|m rfl<|bp<|wp_ret ?_
            exact rM h rfl rfl
          ·refine wp_skip<|wp_seq ?_
           obtain⟨l9,K9,h⟩:=nx h
           refine oJ 12 mixed rfl (by kernel_rfl) (by intro o a d v w h; cases d<;>exact h) K9 (fun G=>?_)
           refine hZ 0 94 aI 2 Tryz.underlying169 ew G rfl rfl rfl<|bY 2 96 (.pointer (cG)) G rfl rfl<|nt 3 97 tk G rfl rfl<|hZ 4 98 bU 1 Tryz.underlying99 wN G rfl rfl rfl ?_
           obtain⟨zl,akV,h⟩:=h
           refine hN 1 95 akV ew G rfl rfl ?_
           obtain⟨p2,akW,h⟩:=h
           refine hN 5 99 akW wN G rfl rfl<|bA (i:=6) (by kernel_rfl)<|cY rfl (.free rfl) (dj (d:=(some 100)) rfl (c3 (k:=216) (c:=[.int .i64 (zl),.float .f64 (p2)]) rfl agf rfl) h ?_)
           intro qJ zf h
           refine⟨(g8 (by kernel_rfl) (g8 (by kernel_rfl) c_)),?_⟩
           refine bY 7 93 ((bJ (D .i64) (D .i64)).enc (qJ)) G rfl rfl<|bd 8 101 G rfl rfl rfl (fun _=>pM (aK:=#[.int .i64 (qJ.1),.int .i64 (qJ.2)]) (v:=.int .i64 (qJ.1)) rfl rfl rfl)<|bd 9 102 G rfl rfl rfl (fun _=>pM (aK:=#[.int .i64 (qJ.1),.int .i64 (qJ.2)]) (v:=.int .i64 (qJ.2)) rfl rfl rfl)<|fC 10 14 (.int .i64 (qJ.1)) G rfl rfl<|fC 11 15 (.int .i64 (qJ.2)) G rfl rfl<|ef (by kernel_rfl)<|wp_seq<|wp_seq<|bv _ rfl<|km _ _ _ Tryz.underlying210 ew rfl rfl rfl<|ks ew h rfl rfl fun Hx _ h=>km _ _ _ Tryz.underlying169 ew rfl rfl rfl ?_
           refine ks ew h rfl rfl fun A6 _ h=>m rfl<|bo _ rfl rfl rfl (sO rfl rfl rfl)<|bo _ rfl rfl rfl (oe rfl rfl rfl)<|bp<|fq h rfl (fun _ h=>?_) fun _ h=>?_
           ·refine wp_seq<|bv _ rfl<|m rfl<|m rfl<|bp<|wp_ret ?_
            exact rM h rfl rfl
           ·refine wp_skip<|wp_seq<|bv _ rfl<|m rfl<|m rfl<|m rfl<|bp<|wp_ret ?_
            exact rM h rfl rfl
      ·refine eO (b:=(decide (il<(1:Int)))) h (fun gZ h=>?_) (fun gZ h=>?_)
       ·refine iZ (d:=(some 70)) rfl (.U 3 false 69 (decide (il<(1:Int))) rfl rfl rfl gZ) rfl<|iZ (d:=(some 71)) rfl (.U 3 false 69 (decide (il<(1:Int))) rfl rfl rfl gZ) rfl<|iZ (d:=(some 72)) rfl (.U 3 false 69 (decide (il<(1:Int))) rfl rfl rfl gZ) rfl<|iZ (d:=(some 73)) rfl (.U 3 false 69 (decide (il<(1:Int))) rfl rfl rfl gZ) rfl<|bo 74 rfl rfl rfl (ee (v:=.bool (true)) (b:=(decide (il<(1:Int)))) rfl rfl gZ rfl)<|bp ?_
        exact⟨(true),_,arr (aW (aW (aW (aW (aW (aW rfl rfl) rfl) rfl) rfl) rfl) rfl),h⟩
       ·refine kk (d:=(some 70)) rfl (.U 3 false 69 (decide (il<(1:Int))) rfl rfl rfl gZ) rfl (kh (a:=aI) (off:=2) rfl Tryz.underlying169 rfl rfl ew (by decide) rfl) ?_
        obtain⟨Hz,ak5,h⟩:=h
        refine kk (d:=(some 71)) rfl (.U 3 false 69 (decide (il<(1:Int))) rfl rfl rfl gZ) rfl (jh (T:=(D .i64)) (u:=Hz) (a:=(aI.add 2)) rfl ew rfl ak5)<|e3 rfl (.U 3 false 69 (decide (il<(1:Int))) rfl rfl rfl gZ) (dj (d:=(some 72)) rfl (c3 (k:=200) (c:=[.int .i64 (Hz)]) rfl agc rfl) h ?_)
        intro l5 vJ h
        refine kk (d:=(some 73)) rfl (.U 3 false 69 (decide (il<(1:Int))) rfl rfl rfl gZ) rfl (hW (a:=l5) (b:=(0:Int)) rfl rfl rfl)<|bo 74 rfl rfl rfl (dY (v:=.bool ((l5 != (0:Int)))) (b:=(decide (il<(1:Int)))) rfl rfl gZ rfl)<|bp ?_
        exact⟨((l5 != (0:Int))),_,arr (aW (aW (aW (aW (aW (aW rfl rfl) rfl) rfl) rfl) rfl) rfl),h⟩
 ·obtain⟨D9,akF,h⟩:=nx h
  refine oJ 14 mixed rfl (by kernel_rfl) (by intro o a d v w h; cases d<;>exact h) akF (fun G=>?_)
  refine bY 0 27 (.pointer (cG)) G rfl rfl<|nt 1 28 tk G rfl rfl<|hZ 2 29 bU 0 Tryz.underlying99 mv G rfl rfl rfl<|hZ 3 30 (bU.add 0) 0 Tryz.underlying94 Gj G rfl rfl rfl<|hZ 5 32 aI 1 Tryz.underlying169 ea G rfl rfl rfl ?_
  obtain⟨zm,ak7,h⟩:=h
  refine hN 4 31 ak7 Gj G rfl rfl ?_
  obtain⟨Ei,ak8,h⟩:=h
  refine hN 6 33 ak8 ea G rfl rfl ?_
  obtain⟨h,eI⟩:=h
  refine Yc (i:=7) (l:=11) (by kernel_rfl) ?_ ?_
  ·clear eI
   refine cY rfl (.free rfl) (dj (d:=(some 34)) rfl (c3 (k:=198) (c:=[.pointer (zm),.int .i64 (Ei)]) rfl SW rfl) h ?_)
   intro qK ZN h
   refine⟨(g8 (by kernel_rfl) (g8 (by kernel_rfl) c_)),?_⟩
   refine bY 8 26 ((bJ cX bi).enc (qK)) G rfl rfl<|bd 9 35 G rfl rfl rfl (fun _=>pM (aK:=#[cX.enc (qK.1),.bool (qK.2)]) (v:=cX.enc (qK.1)) rfl rfl rfl)<|bd 10 36 G rfl rfl rfl (fun _=>pM (aK:=#[cX.enc (qK.1),.bool (qK.2)]) (v:=.bool (qK.2)) rfl rfl rfl)<|bA (i:=11) (by kernel_rfl) ?_
   obtain⟨BJ,ZO,ahT,Lb,h⟩:=rr h
   refine tD (d:=(some 8)) rfl (.free rfl) rfl (AF (u:=iy) rfl Db Ae ahT Lb) ⟨(cg (fun h=>vf Lb h) (cg (fun h=>vf Lb h) c_)),?_⟩
   refine bA (i:=12) (by kernel_rfl) ?_
   obtain⟨ZP,akG,akf,h⟩:=qM h
   refine sL (d:=none) rfl (.free rfl) rfl (qH (T:=cX) (u:=qK.1) (a:=BJ) rfl Db rfl rfl akf akG) ⟨(g8 (by kernel_rfl) (g8 (by kernel_rfl) c_)),?_⟩
   refine fC 13 9 (.bool (qK.2)) G rfl rfl<|ef (by kernel_rfl) ?_
   exact⟨(BJ,qK.2),_,arr (aW (aW (aW (aW (aW rfl rfl) rfl) rfl) rfl) rfl),h⟩
  ·replace h:=eI; clear eI
   obtain⟨zH,zg,ahU,Lc,h⟩:=rr h
   refine tD (d:=(some 8)) rfl (.free rfl) rfl (AF (u:=iy) rfl Db Ae ahU Lc) ⟨(cg (fun h=>vf Lc h) (cg (fun h=>vf Lc h) c_)),?_⟩
   refine bA (i:=7) (by kernel_rfl)<|cY rfl (.free rfl) (dj (d:=(some 34)) rfl (c3 (k:=198) (c:=[.pointer (zm),.int .i64 (Ei)]) rfl SW rfl) h ?_)
   intro mz zh h
   refine⟨(g8 (by kernel_rfl) (g8 (by kernel_rfl) c_)),?_⟩
   refine bY 8 26 ((bJ cX bi).enc (mz)) G rfl rfl<|bd 9 35 G rfl rfl rfl (fun _=>pM (aK:=#[cX.enc (mz.1),.bool (mz.2)]) (v:=cX.enc (mz.1)) rfl rfl rfl)<|bd 10 36 G rfl rfl rfl (fun _=>pM (aK:=#[cX.enc (mz.1),.bool (mz.2)]) (v:=.bool (mz.2)) rfl rfl rfl)<|bA (i:=12) (by kernel_rfl) ?_
   obtain⟨ZQ,akH,akg,h⟩:=qM h
   refine sL (d:=none) rfl (.free rfl) rfl (qH (T:=cX) (u:=mz.1) (a:=zH) rfl Db rfl rfl akg akH) ⟨(g8 (by kernel_rfl) (g8 (by kernel_rfl) c_)),?_⟩
   refine fC 13 9 (.bool (mz.2)) G rfl rfl<|ef (by kernel_rfl) ?_
   exact⟨(zH,mz.2),_,arr (aW (aW (aW (aW (aW rfl rfl) rfl) rfl) rfl) rfl),h⟩
def EA(atC:X)(hq:World)(j:X→World→Prop):Prop:=j atC hq
def P1(cG:aU)(uJ:oR)(w:World)(j:X→World→Prop):Prop:=ch 171 ic uJ w fun aI aV=>ex (M (D .i64) ((aI.add 0).add 1) aV) fun dn=>ex (bI cG) fun bU=>ex (M aM ((bU.add 0).add 0) aV) fun cZ=>L Pg 198 [.pointer (cZ),.int .i64 (dn)] (bJ cX bi) aV fun gh bQ=>ch 210 cX iy bQ fun cs cU=>br cX cs gh.1 cU fun cO=>ex (M bi ((aI.add 0).add 3) cO) fun cV=>if (!cV)=true then (ex (M (D .i64) (cs.add 1) cO) fun fo=>ex (M (D .i64) ((aI.add 0).add 2) cO) fun hr=>pI 174 jC [(⟨dn,(IntKind.i64.wrap (fo+hr))⟩:h0)] cO fun eC eG=>j (⟨some eC,1,1⟩:X) eG) else (ex (M (D .i64) (cs.add 1) cO) fun gx=>ex (M (D .i64) ((aI.add 0).add 2) cO) fun kU=>ex (M (D .i64) (aI.add 5) cO) fun fy=>pI 174 jC [(⟨dn,(IntKind.i64.wrap ((IntKind.i64.wrap (gx-kU))-fy))⟩:h0)] cO fun nZ fU=>ex (M (D .i64) (aI.add 5) fU) fun oL=>if (decide (oL>(0:Int)))=true then (ex (M aM ((bU.add 0).add 0) fU) fun il=>L Pg 198 [.pointer (il),.int .i64 ((IntKind.i64.wrap ((4096:Int)+dn)))] (bJ cX bi) fU fun wX hA=>ch 210 cX iy hA fun fD mE=>br cX fD wX.1 mE fun kS=>ex (M (D .i64) (fD.add 1) kS) fun nR=>ex (M (D .i64) (aI.add 5) kS) fun zk=>kG 174 jC 2 16 (⟨some nZ,1,1⟩:X) [(⟨(IntKind.i64.wrap ((4096:Int)+dn)),(IntKind.i64.wrap (nR+zk))⟩:h0)] kS fun Dr sU=>EA Dr sU j) else (EA (⟨some nZ,1,1⟩:X) fU j))
theorem abu{cG uJ w j}(h:P1 cG uJ w j):L Pg 204 [.pointer cG,ic.enc uJ] O w j:=by
 have kJ:=kv (bE:=X) 10 (fun s w=>EA s w j) (fun g s=>av g 8 (O.enc s))
 exact aX 75 Tryz.func204 rfl rfl bf
def P2(cG:aU)(uJ:oR)(w:World)(j:Unit→World→Prop):Prop:=ch 171 ic uJ w fun aI aV=>ds aV fun bb=>ex (bI cG) fun bU=>ex (M dK (bU.add 3) bb) fun cZ=>ex (M (D .i64) ((aI.add 0).add 0) bb) fun cl=>C6 ic .i64 cZ cl bb fun bX=>ds bX fun b3=>ex (M dK (bU.add 4) b3) fun dc=>ex (M (D .i64) ((aI.add 0).add 1) b3) fun eU=>C6 (D .i64) .i64 dc eU b3 fun cM=>j () cM
theorem abv{cG uJ w j}(h:P2 cG uJ w j):L Pg 205 [.pointer cG,ic.enc uJ] cJ w j:=by
 have gH:=eT 2 (da [0,1,2,4,5,3,6,7] .e)
 have r3:=eT 3 (da [0,1,2,4,5,3,6,7] .e)
 exact aX 18 Tryz.func205 rfl rfl bf
def P3(l7:Int)(w:World)(j:Bool→World→Prop):Prop:=j ((decide (l7≥(0:Int)))&&(decide (l7≤(1125899906842624:Int)))) w
theorem abw{l7 w j}(h:P3 l7 w j):L Pg 206 [.int .i64 l7] bi w j:=
 aX 9 Tryz.func206 rfl rfl bf
def P4(db:aU)(bl:Int)(w:World)(j:Int→World→Prop):Prop:=L Pg 149 [.int .i64 (bl)] bi w fun aP a6=>if (!aP)=true then (j (120:Int) a6) else (ex (bI db) fun aR=>ex (M (D .i64) (aR.add 1) a6) fun cr=>br (D .i64) (aR.add 1) (max cr bl) a6 fun bH=>j (0:Int) bH)
theorem abx{db bl w j}(h:P4 db bl w j):L Pg 207 [.pointer db,.int .i64 bl] (D .i64) w j:=
 aX 17 Tryz.func207 rfl rfl bf
end ba
end Go.Proofs.YtnmmjkjkkmbhiaaGreat
