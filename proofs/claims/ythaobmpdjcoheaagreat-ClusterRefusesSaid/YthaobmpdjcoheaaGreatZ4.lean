/- Own texts of this claim, part 4: short, merged. -/
import Derived.Test.YthaobmpdjcoheaaGreatZ1
set_option maxRecDepth 100000
set_option maxHeartbeats 40000000
set_option linter.defProp false
set_option linter.unusedVariables false
set_option linter.unusedSimpArgs false
namespace Go.Proofs.YthaobmpdjcoheaaGreat
namespace bb
def Wc(dk:aL)(w:World)(j:(Int×Int)→World→Prop):Prop:=de w fun cm=>ex (bC dk) fun aA=>ex (L (B .i64) (aA.add 12) cm) fun c6=>ex (L (B .i64) (aA.add 13) cm) fun dH=>j (c6,dH) cm
theorem aiJ{dk w j}(h:Wc dk w j):M Pg 55 [.pointer dk] (bo (B .i64) (B .i64)) w j:=by
 have fY:=eg 2 (du [0,1,2,4,5,6,3,8,7,9] .e)
 exact bj 12 Tryz.func55 rfl rfl bk
def Wd(bd:aL)(w:World)(j:af→World→Prop):Prop:=ex (bC bd) fun aX=>ex (L X (aX.add 2) w) fun dW=>M Pg 107 [X.enc (dW)] X w fun cu aU=>j cu aU
theorem aiK{bd w j}(h:Wd bd w j):M Pg 56 [.pointer bd] X w j:=
 bj 8 Tryz.func56 rfl rfl bk
def We(bK:aL)(w:World)(j:Int→World→Prop):Prop:=ex (bC bK) fun aX=>ex (L (B .i64) (aX.add 1) w) fun dW=>j dW w
theorem aiL{bK w j}(h:We bK w j):M Pg 57 [.pointer bK] (B .i64) w j:=
 bj 7 Tryz.func57 rfl rfl bk
def Wf(bK:aL)(w:World)(j:Int→World→Prop):Prop:=ex (bC bK) fun aX=>ex (L (B .i64) (aX.add 2) w) fun dW=>j dW w
theorem aiM{bK w j}(h:Wf bK w j):M Pg 58 [.pointer bK] (B .i64) w j:=
 bj 7 Tryz.func58 rfl rfl bk
def Wg(r3:(Option Nat))(w:World)(j:cc→World→Prop):Prop:=bG 68 ef r3 w fun aX bh=>j (cc.mk (.func 110) (List.toArray []) (List.toArray [.pointer (some aX)])) bh
theorem aiO{r3 w j}(h:Wg r3 w j):M Pg 60 [.map r3] gb w j:=
 bj 4 Tryz.func60 rfl rfl bk
def CW(fh:Int)(aA:Addr)(dy:Addr)(qu:Addr)(e1:World)(j:(jt×Int)→World→Prop):Prop:=de e1 fun eh=>ex (L cG qu eh) fun lY=>ex (L (B .i64) ((dy.add 0).add 0) eh) fun hg=>ex (L gK (dy.add 4) eh) fun kP=>M Pg 112 [cG.enc (lY),.int .i64 ((IntKind.i64.wrap (fh-hg))),.float .f64 (kP)] (bo cG (B .i64)) eh fun dP fW=>bw ((L (B .i64) ((dy.add 0).add 0) fW) hg)<|ba cG qu dP.1 fW fun gN=>de gN fun h3=>ex (L (B .i64) (qu.add 0) h3) fun k3=>ex (L (B .i64) (dy.add 6) h3) fun mn=>ba (B .i64) (qu.add 0) (max k3 mn) h3 fun ku=>ex (L (B .i64) (qu.add 1) ku) fun mL=>ex (L (B .i64) (qu.add 0) ku) fun ze=>ba (B .i64) (qu.add 1) (max mL ze) ku fun lr=>de lr fun ml=>ex (L (B .i64) (qu.add 0) ml) fun xf=>ba (B .i64) (dy.add 5) fh ml fun kL=>bw ((L (B .i64) (qu.add 0) kL) xf)<|ba (B .i64) (dy.add 6) xf kL fun vP=>ex (L cG qu vP) fun ti=>ba cG aA ti vP fun ut=>ex (L cG aA ut) fun rE=>j (rE,(0:Int)) ut
def Nl(aM:aL)(fh:Int)(w:World)(j:(jt×Int)→World→Prop):Prop:=bG 137 cG jv w fun aA aU=>M Pg 89 [.int .i64 (fh)] bf aU fun bJ a7=>if (!bJ)=true then (ba cG aA (⟨(0:Int),(0:Int)⟩:jt) a7 fun bN=>ex (L cG aA bN) fun cM=>j (cM,(61:Int)) bN) else (ex (bC aM) fun dy=>ex (L bf ((dy.add 0).add 3) a7) fun dG=>if (!dG)=true then (ba cG aA (⟨(0:Int),(0:Int)⟩:jt) a7 fun cF=>ex (L cG aA cF) fun e7=>j (e7,(63:Int)) cF) else (ex (L (B .i64) (dy.add 5) a7) fun dQ=>if (decide (fh<dQ))=true then (ba cG aA (⟨(0:Int),(0:Int)⟩:jt) a7 fun c1=>ex (L cG aA c1) fun fs=>j (fs,(62:Int)) c1) else (de a7 fun dK=>ex (L (B .i64) ((dy.add 0).add 1) dK) fun jH=>ex (L (B .i64) ((dy.add 0).add 0) dK) fun dL=>if (decide ((IntKind.i64.wrap (jH+(IntKind.i64.wrap (fh-dL))))>(1125899906842624:Int)))=true then (ba cG aA (⟨(0:Int),(0:Int)⟩:jt) dK fun ed=>ex (L cG aA ed) fun gd=>j (gd,(64:Int)) ed) else (de dK fun nK=>ex (L (B .i64) ((dy.add 0).add 1) nK) fun oP=>ex (L (B .i64) ((dy.add 0).add 0) nK) fun p1=>ex (L (B .i64) ((dy.add 0).add 2) nK) fun qJ=>sC (M Pg 111 [.int .i64 ((IntKind.i64.wrap (oP+(IntKind.i64.wrap (fh-p1))))),.int .i64 (qJ)] (bo cG (B .i64)) nK fun mg qD=>bw ((L (B .i64) ((dy.add 0).add 1) qD) oP)<|bw ((L (B .i64) ((dy.add 0).add 0) qD) p1)<|bG 137 cG jv qD fun F6 sq=>ba cG F6 mg.1 sq fun qE=>CW fh aA dy F6 qE j) (bG 137 cG jv nK fun Dl tg=>M Pg 111 [.int .i64 ((IntKind.i64.wrap (oP+(IntKind.i64.wrap (fh-p1))))),.int .i64 (qJ)] (bo cG (B .i64)) tg fun c0 xa=>bw ((L (B .i64) ((dy.add 0).add 1) xa) oP)<|bw ((L (B .i64) ((dy.add 0).add 0) xa) p1)<|ba cG Dl c0.1 xa fun L2=>CW fh aA dy Dl L2 j)))))
theorem aiP{aM:aL}{fh:Int}{w:World}{j:(jt×Int)→World→Prop}(h:Nl aM fh w j):M Pg 61 [.pointer (aM),.int .i64 (fh)] (bo cG (B .i64)) w j:=by
 unfold Nl at h
 refine q0 107 Tryz.func61 rfl rfl (Nat.le_of_ble_eq_true rfl)<|wp_seq<|bq _ rfl<|oZ oA BT h rfl fun aA aU h=>y rfl<|bc<|wp_seq<|wp_block<|wp_seq<|bq _ rfl<|y rfl<|ft ann rfl rfl h fun bJ a7 h=>?_
 refine a2 _ rfl rfl rfl (ru rfl rfl)<|y rfl<|bc<|fB h rfl (fun _ h=>?_) fun _ h=>?_
 ·refine wp_seq<|bq _ rfl<|a2 12 rfl rfl rfl (EJ  rfl)<|jN oA h rfl rfl rfl fun bN h=>y rfl<|bc<|wp_ret ?_
  obtain⟨cM,Qh,h⟩:=h
  exact n4 rfl (.cons (.cell (T:=cG) (u:=cM) (a:=aA) oA rfl Qh) (.cons (.tmp (v:=.int .i64 ((61:Int))) rfl) .nil)) ⟨(cM,(61:Int)),rfl,h⟩
 ·refine wp_seq<|bq _ rfl<|y rfl<|Ox h rfl rfl fun dy sL h=>ho _ _ _ Tryz.underlying175 yJ rfl rfl rfl<|ho _ _ _ Tryz.underlying173 oB rfl rfl rfl<|hR oB h rfl rfl fun dG _ h=>a2 _ rfl rfl rfl (ru rfl rfl)<|y rfl<|bc<|fB h rfl (fun _ h=>?_) fun _ h=>?_
  ·refine wp_seq<|bq _ rfl<|a2 20 rfl rfl rfl (EJ  rfl)<|jN oA h rfl rfl rfl fun cF h=>y rfl<|bc<|wp_ret ?_
   obtain⟨e7,yn,h⟩:=h
   exact n4 rfl (.cons (.cell (T:=cG) (u:=e7) (a:=aA) oA rfl yn) (.cons (.tmp (v:=.int .i64 ((63:Int))) rfl) .nil)) ⟨(e7,(63:Int)),rfl,h⟩
  ·refine wp_seq<|bq _ rfl<|y rfl<|y rfl<|Iy _ sL rfl rfl<|ho _ _ _ Tryz.underlying175 cU rfl rfl rfl<|hR cU h rfl rfl fun dQ _ h=>a2 _ rfl rfl rfl (ma rfl rfl rfl)<|y rfl<|bc<|fB h rfl (fun _ h=>?_) fun _ h=>?_
   ·refine wp_seq<|bq _ rfl<|a2 28 rfl rfl rfl (EJ  rfl)<|jN oA h rfl rfl rfl fun c1 h=>y rfl<|bc<|wp_ret ?_
    obtain⟨fs,P7,h⟩:=h
    exact n4 rfl (.cons (.cell (T:=cG) (u:=fs) (a:=aA) oA rfl P7) (.cons (.tmp (v:=.int .i64 ((62:Int))) rfl) .nil)) ⟨(fs,(62:Int)),rfl,h⟩
   ·refine wp_seq ?_
    obtain⟨dK,P1,h⟩:=ou h
    refine po 15 mixed rfl (by kernel_rfl) (by intro c a d v w h; cases d<;>exact h) P1 (fun ak=>?_)
    refine gf 0 30 (.pointer (aM)) ak rfl rfl<|od 1 31 sL ak rfl rfl<|hn 2 32 dy 0 Tryz.underlying175 yJ ak rfl rfl rfl<|hn 3 33 (dy.add 0) 1 Tryz.underlying173 cU ak rfl rfl rfl<|gf 5 35 (.int .i64 (fh)) ak rfl rfl<|gf 6 36 (.pointer (aM)) ak rfl rfl<|od 7 37 sL ak rfl rfl<|hn 8 38 dy 0 Tryz.underlying175 yJ ak rfl rfl rfl<|hn 9 39 (dy.add 0) 0 Tryz.underlying173 cU ak rfl rfl rfl ?_
    obtain⟨jH,arI,h⟩:=h
    refine h7 4 34 arI cU ak rfl rfl ?_
    obtain⟨dL,P8,h⟩:=h
    refine h7 10 40 P8 cU ak rfl rfl<|fc 11 41 ak rfl rfl rfl (fun _=>yW (a:=fh) (l:=dL) rfl rfl rfl)<|fc 12 42 ak rfl rfl rfl (fun _=>pf (a:=jH) (l:=(IntKind.i64.wrap (fh-dL))) rfl rfl rfl)<|fc 13 43 ak rfl rfl rfl (fun _=>vw (a:=(IntKind.i64.wrap (jH+(IntKind.i64.wrap (fh-dL))))) (l:=(1125899906842624:Int)) rfl rfl rfl)<|E5 14 29 (.bool ((decide ((IntKind.i64.wrap (jH+(IntKind.i64.wrap (fh-dL))))>(1125899906842624:Int))))) ak rfl rfl<|kH (by kernel_rfl)<|fB h rfl (fun _ h=>?_) fun _ h=>?_
    ·refine wp_seq<|bq _ rfl<|a2 44 rfl rfl rfl (EJ  rfl)<|jN oA h rfl rfl rfl fun ed h=>y rfl<|bc<|wp_ret ?_
     obtain⟨gd,Hb,h⟩:=h
     exact n4 rfl (.cons (.cell (T:=cG) (u:=gd) (a:=aA) oA rfl Hb) (.cons (.tmp (v:=.int .i64 ((64:Int))) rfl) .nil)) ⟨(gd,(64:Int)),rfl,h⟩
    ·refine wp_skip<|Ar (bp:=Addr) (eV:=fun (s:Addr) w=>CW fh aA dy s w j) (dp:=fun g (s:Addr)=>ae (ae (ae (ae (g) 0 (.pointer (aM))) 1 (.int .i64 (fh))) 4 (.pointer (some aA))) 6 (.pointer (some s))) ?_ ?_
     ·rintro qu g e1 h
      unfold CW at h
      refine wp_seq ?_
      obtain⟨eh,arh,h⟩:=ou h
      refine po 17 mixed rfl (by kernel_rfl) (by intro c a d v w h; cases d<;>exact h) arh (fun ak=>?_)
      refine gf 1 69 (.int .i64 (fh)) ak rfl rfl<|gf 2 70 (.pointer (aM)) ak rfl rfl<|od 3 71 sL ak rfl rfl<|hn 4 72 dy 0 Tryz.underlying175 yJ ak rfl rfl rfl<|hn 5 73 (dy.add 0) 0 Tryz.underlying173 cU ak rfl rfl rfl<|gf 8 76 (.pointer (aM)) ak rfl rfl<|od 9 77 sL ak rfl rfl<|hn 10 78 dy 4 Tryz.underlying175 qj ak rfl rfl rfl ?_
      obtain⟨lY,arK,h⟩:=h
      refine h7 0 68 arK oA ak rfl rfl ?_
      obtain⟨hg,P_,h⟩:=h
      refine h7 6 74 P_ cU ak rfl rfl<|fc 7 75 ak rfl rfl rfl (fun _=>yW (a:=fh) (l:=hg) rfl rfl rfl) ?_
      obtain⟨kP,Qa,h⟩:=h
      refine h7 11 79 Qa qj ak rfl rfl<|fk (i:=12) (by kernel_rfl)<|hG rfl (.free rfl) (gR (d:=(some 80)) rfl (fR (k:=112) (m:=[cG.enc (lY),.int .i64 ((IntKind.i64.wrap (fh-hg))),.float .f64 (kP)]) rfl amE rfl) h ?_)
      intro dP fW h
      obtain⟨apZ,h⟩:=h
      refine⟨(hi (by kernel_rfl) (fH (fun _=>apZ) (hi (by kernel_rfl) im))),?_⟩
      refine gf 13 67 ((bo cG (B .i64)).enc (dP)) ak rfl rfl<|fc 14 81 ak rfl rfl rfl (fun _=>wY (aW:=#[cG.enc (dP.1),.int .i64 (dP.2)]) (v:=cG.enc (dP.1)) rfl rfl rfl)<|fc 15 82 ak rfl rfl rfl (fun _=>wY (aW:=#[cG.enc (dP.1),.int .i64 (dP.2)]) (v:=.int .i64 (dP.2)) rfl rfl rfl)<|fk (i:=16) (by kernel_rfl) ?_
      obtain⟨gN,arm,aqQ,h⟩:=sm h
      refine ud (d:=none) rfl (.free rfl) rfl (se (T:=cG) (u:=dP.1) (a:=qu) rfl oA rfl rfl aqQ arm) ⟨(hi (by kernel_rfl) (hi (by kernel_rfl) (hi (by kernel_rfl) im))),?_⟩
      refine kH (by kernel_rfl)<|wp_seq ?_
      obtain⟨h3,P2,h⟩:=ou h
      refine po 9 mixed rfl (by kernel_rfl) (by intro c a d v w h; cases d<;>exact h) P2 (fun ak=>?_)
      refine hn 0 83 qu 0 Tryz.underlying137 cU ak rfl rfl rfl<|gf 2 85 (.pointer (aM)) ak rfl rfl<|od 3 86 sL ak rfl rfl<|hn 4 87 dy 6 Tryz.underlying175 cU ak rfl rfl rfl ?_
      obtain⟨k3,arM,h⟩:=h
      refine h7 1 84 arM cU ak rfl rfl ?_
      obtain⟨mn,Hc,h⟩:=h
      refine h7 5 88 Hc cU ak rfl rfl<|fc 6 89 ak rfl rfl rfl (fun _=>Lf (a:=k3) (l:=mn) rfl rfl rfl)<|hn 7 90 qu 0 Tryz.underlying137 cU ak rfl rfl rfl<|fk (i:=8) (by kernel_rfl) ?_
      obtain⟨ku,aro,aqR,h⟩:=sm h
      refine ud (d:=none) rfl (.free rfl) rfl (se (T:=(B .i64)) (u:=(max k3 mn)) (a:=(qu.add 0)) rfl cU rfl rfl aqR aro) ⟨(hi (by kernel_rfl) (hi (by kernel_rfl) im)),?_⟩
      refine kH (by kernel_rfl)<|wp_seq<|bq _ rfl<|ho _ _ _ Tryz.underlying137 cU rfl rfl rfl<|hR cU h rfl rfl fun mL _ h=>ho _ _ _ Tryz.underlying137 cU rfl rfl rfl<|hR cU h rfl rfl fun ze _ h=>a2 _ rfl rfl rfl (Lf rfl rfl rfl)<|ho _ _ _ Tryz.underlying137 cU rfl rfl rfl<|jN cU h rfl rfl rfl fun lr h=>bc<|wp_seq ?_
      obtain⟨ml,ars,h⟩:=ou h
      refine po 11 mixed rfl (by kernel_rfl) (by intro c a d v w h; cases d<;>exact h) ars (fun ak=>?_)
      refine gf 0 97 (.pointer (aM)) ak rfl rfl<|gf 1 98 (.pointer (aM)) ak rfl rfl<|gf 2 99 (.int .i64 (fh)) ak rfl rfl<|hn 3 100 qu 0 Tryz.underlying137 cU ak rfl rfl rfl<|od 5 102 sL ak rfl rfl<|hn 6 103 dy 5 Tryz.underlying175 cU ak rfl rfl rfl ?_
      obtain⟨xf,arO,h⟩:=h
      refine h7 4 101 arO cU ak rfl rfl<|fk (i:=7) (by kernel_rfl) ?_
      obtain⟨kL,aru,aqS,h⟩:=sm h
      obtain⟨ap0,h⟩:=h
      refine ud (d:=none) rfl (.free rfl) rfl (se (T:=(B .i64)) (u:=fh) (a:=(dy.add 5)) rfl cU rfl rfl aqS aru) ⟨(fH (fun _=>ap0) im),?_⟩
      refine od 8 104 sL ak rfl rfl<|hn 9 105 dy 6 Tryz.underlying175 cU ak rfl rfl rfl<|fk (i:=10) (by kernel_rfl) ?_
      obtain⟨vP,arv,aqT,h⟩:=sm h
      refine ud (d:=none) rfl (.free rfl) rfl (se (T:=(B .i64)) (u:=xf) (a:=(dy.add 6)) rfl cU rfl rfl aqT arv) ⟨(hi (by kernel_rfl) im),?_⟩
      refine kH (by kernel_rfl)<|wp_seq<|bq _ rfl<|hR oA h rfl rfl fun ti _ h=>jN oA h rfl rfl rfl fun ut h=>y rfl<|bc<|wp_ret ?_
      obtain⟨rE,Qd,h⟩:=h
      exact n4 rfl (.cons (.cell (T:=cG) (u:=rE) (a:=aA) oA rfl Qd) (.cons (.tmp (v:=.int .i64 ((0:Int))) rfl) .nil)) ⟨(rE,(0:Int)),rfl,h⟩
     ·obtain⟨nK,arw,h⟩:=ou h
      refine po 25 mixed rfl (by kernel_rfl) (by intro c a d v w h; cases d<;>exact h) arw (fun ak=>?_)
      refine gf 0 46 (.pointer (aM)) ak rfl rfl<|od 1 47 sL ak rfl rfl<|hn 2 48 dy 0 Tryz.underlying175 yJ ak rfl rfl rfl<|hn 3 49 (dy.add 0) 1 Tryz.underlying173 cU ak rfl rfl rfl<|gf 5 51 (.int .i64 (fh)) ak rfl rfl<|gf 6 52 (.pointer (aM)) ak rfl rfl<|od 7 53 sL ak rfl rfl<|hn 8 54 dy 0 Tryz.underlying175 yJ ak rfl rfl rfl<|hn 9 55 (dy.add 0) 0 Tryz.underlying173 cU ak rfl rfl rfl<|gf 13 59 (.pointer (aM)) ak rfl rfl<|od 14 60 sL ak rfl rfl<|hn 15 61 dy 0 Tryz.underlying175 yJ ak rfl rfl rfl ?_
      refine hn 16 62 (dy.add 0) 2 Tryz.underlying173 cU ak rfl rfl rfl ?_
      obtain⟨oP,Qe,h⟩:=h
      refine h7 4 50 Qe cU ak rfl rfl ?_
      obtain⟨p1,Qf,h⟩:=h
      refine h7 10 56 Qf cU ak rfl rfl<|fc 11 57 ak rfl rfl rfl (fun _=>yW (a:=fh) (l:=p1) rfl rfl rfl)<|fc 12 58 ak rfl rfl rfl (fun _=>pf (a:=oP) (l:=(IntKind.i64.wrap (fh-p1))) rfl rfl rfl) ?_
      obtain⟨qJ,He,h⟩:=h
      refine h7 17 63 He cU ak rfl rfl ?_
      obtain⟨h,fp⟩:=h
      refine aea (i:=18) (D:=22) (by kernel_rfl) ?_ ?_
      ·clear fp
       refine hG rfl (.free rfl) (gR (d:=(some 64)) rfl (fR (k:=111) (m:=[.int .i64 ((IntKind.i64.wrap (oP+(IntKind.i64.wrap (fh-p1))))),.int .i64 (qJ)]) rfl YA rfl) h ?_)
       intro mg qD h
       obtain⟨D4,h⟩:=h
       obtain⟨ap1,h⟩:=h
       refine⟨(hi (by kernel_rfl) (fH (fun _=>ap1) (fH (fun _=>D4) im))),?_⟩
       refine gf 19 45 ((bo cG (B .i64)).enc (mg)) ak rfl rfl<|fc 20 65 ak rfl rfl rfl (fun _=>wY (aW:=#[cG.enc (mg.1),.int .i64 (mg.2)]) (v:=cG.enc (mg.1)) rfl rfl rfl)<|fc 21 66 ak rfl rfl rfl (fun _=>wY (aW:=#[cG.enc (mg.1),.int .i64 (mg.2)]) (v:=.int .i64 (mg.2)) rfl rfl rfl)<|fk (i:=22) (by kernel_rfl) ?_
       obtain⟨F6,sq,aoS,Kb,h⟩:=pR h
       refine yT (d:=(some 6)) rfl (.free rfl) rfl (HQ (u:=jv) rfl oA BT aoS Kb) ⟨(fH (fun h=>yv Kb h) (fH (fun h=>yv Kb h) (fH (fun h=>yv Kb h) im))),?_⟩
       refine fk (i:=23) (by kernel_rfl) ?_
       obtain⟨qE,ary,aqV,h⟩:=sm h
       refine ud (d:=none) rfl (.free rfl) rfl (se (T:=cG) (u:=mg.1) (a:=F6) rfl oA rfl rfl aqV ary) ⟨(hi (by kernel_rfl) (hi (by kernel_rfl) (hi (by kernel_rfl) im))),?_⟩
       refine E5 24 7 (.int .i64 (mg.2)) ak rfl rfl<|kH (by kernel_rfl) ?_
       exact⟨(F6),_,arr (aP (aP (aP (aP rfl rfl) rfl) rfl) rfl),h⟩
      ·replace h:=fp; clear fp
       obtain⟨Dl,tg,aoT,Kc,h⟩:=pR h
       refine yT (d:=(some 6)) rfl (.free rfl) rfl (HQ (u:=jv) rfl oA BT aoT Kc) ⟨(fH (fun h=>yv Kc h) (fH (fun h=>yv Kc h) (fH (fun h=>yv Kc h) im))),?_⟩
       refine fk (i:=18) (by kernel_rfl)<|hG rfl (.free rfl) (gR (d:=(some 64)) rfl (fR (k:=111) (m:=[.int .i64 ((IntKind.i64.wrap (oP+(IntKind.i64.wrap (fh-p1))))),.int .i64 (qJ)]) rfl YA rfl) h ?_)
       intro c0 xa h
       obtain⟨ap2,h⟩:=h
       obtain⟨ap3,h⟩:=h
       refine⟨(hi (by kernel_rfl) (fH (fun _=>ap3) (fH (fun _=>ap2) im))),?_⟩
       refine gf 19 45 ((bo cG (B .i64)).enc (c0)) ak rfl rfl<|fc 20 65 ak rfl rfl rfl (fun _=>wY (aW:=#[cG.enc (c0.1),.int .i64 (c0.2)]) (v:=cG.enc (c0.1)) rfl rfl rfl)<|fc 21 66 ak rfl rfl rfl (fun _=>wY (aW:=#[cG.enc (c0.1),.int .i64 (c0.2)]) (v:=.int .i64 (c0.2)) rfl rfl rfl)<|fk (i:=23) (by kernel_rfl) ?_
       obtain⟨L2,arz,aqW,h⟩:=sm h
       refine ud (d:=none) rfl (.free rfl) rfl (se (T:=cG) (u:=c0.1) (a:=Dl) rfl oA rfl rfl aqW arz) ⟨(hi (by kernel_rfl) (hi (by kernel_rfl) (hi (by kernel_rfl) im))),?_⟩
       refine E5 24 7 (.int .i64 (c0.2)) ak rfl rfl<|kH (by kernel_rfl) ?_
       exact⟨(Dl),_,arr (aP (aP (aP (aP rfl rfl) rfl) rfl) rfl),h⟩
def Wh(bK:aL)(kw:jI)(w:World)(j:Int→World→Prop):Prop:=bG 142 fL kw w fun aA aU=>ex (L (B .i64) (aA.add 0) aU) fun dH=>M Pg 113 [.int .i64 (dH)] bf aU fun b0 bT=>if (!b0)=true then (j (192:Int) bT) else (de bT fun bA=>ex (bC bK) fun dy=>ex (L aE (dy.add 0) bA) fun dG=>ex (L fL aA bA) fun c2=>M Pg 114 [fL.enc (c2)] X bA fun et cl=>bw ((L aE (dy.add 0) cl) dG)<|M Pg 98 [.pointer (dG),X.enc (et)] (B .i64) cl fun mc dJ=>bw ((L fL aA dJ) c2)<|if (mc != (0:Int))=true then (j mc dJ) else (ex (L fL aA dJ) fun dL=>M Pg 115 [.pointer (bK),fL.enc (dL)] (B .i64) dJ fun mE ed=>j mE ed))
theorem aiQ{bK kw w j}(h:Wh bK kw w j):M Pg 62 [.pointer bK,fL.enc kw] (B .i64) w j:=by
 have fY:=eg 4 (du [0,1,2,3,4,5,6,7] .e)
 exact bj 23 Tryz.func62 rfl rfl bk
def Wi(bK:aL)(bt:Int)(w:World)(j:Int→World→Prop):Prop:=M Pg 116 [.int .i64 (bt)] bf w fun cA bh=>if (!cA)=true then (j (100:Int) bh) else (ex (bC bK) fun bS=>ex (L (B .i64) (bS.add 0) bh) fun cB=>ba (B .i64) (bS.add 0) (max cB bt) bh fun bN=>j (0:Int) bN)
theorem aiR{bK bt w j}(h:Wi bK bt w j):M Pg 63 [.pointer bK,.int .i64 bt] (B .i64) w j:=
 bj 17 Tryz.func63 rfl rfl bk
def Wj(cR:aL)(gY:Int)(w:World)(j:(af×Int)→World→Prop):Prop:=ex (bC cR) fun aA=>ex (L aE ((aA.add 0).add 0) w) fun c6=>M Pg 117 [.pointer (c6),.int .i64 (gY)] (bo X (B .i64)) w fun bJ a7=>M Pg 118 [.int .i64 (bJ.2)] (B .i64) a7 fun cp bN=>j (bJ.1,cp) bN
theorem aiS{cR gY w j}(h:Wj cR gY w j):M Pg 64 [.pointer cR,.int .i64 gY] (bo X (B .i64)) w j:=
 bj 21 Tryz.func64 rfl rfl bk
def FH(cY:af)(oJ:Bool)(bA:World)(j:((Option Nat)×Int×Int)→World→Prop):Prop:=if oJ=true then (j ((none:Option Nat),(0:Int),(180:Int)) bA) else (ua bA fun El bU=>bG 146 ef (none:Option Nat) bU fun fD cl=>bG 2 (B .i64) (0:Int) cl fun eK c1=>ba ef fD (some El) c1 fun dJ=>ba (B .i64) eK (0:Int) dJ fun dK=>M Pg 121 [X.enc (cY),((cc.mk (.func 122) (List.toArray []) (List.toArray [.pointer (some fD),.pointer (some eK)]))).enc] (B .i64) dK fun gv cS=>de cS fun ed=>ex (L ef fD ed) fun gd=>ex (L (B .i64) eK ed) fun kO=>j (gd,kO,gv) ed)
def Wk(xD:Int)(cY:af)(w:World)(j:((Option Nat)×Int×Int)→World→Prop):Prop:=bG 2 (B .i64) xD w fun aA aU=>ex (L (B .i64) aA aU) fun dH=>ex (fun x=>(!(decide (dH<(0:Int))))=true→(L (B .i64) aA aU) x) fun cB=>if ((decide (dH<(0:Int)))||(decide (cB>(1125899906842624:Int))))=true then (FH cY true aU j) else (M Pg 119 [X.enc (cY),((cc.mk (.func 120) (List.toArray []) (List.toArray [.pointer (some aA)]))).enc] bf aU fun gP fK=>FH cY gP fK j)
theorem aiT{xD cY w j}(h:Wk xD cY w j):M Pg 65 [.int .i64 xD,X.enc cY] (mj ef (B .i64) (B .i64)) w j:=by
 have fY:=eg 6 (du [2,0,3,1,4,5] .e)
 have o8:=pN (bp:=Bool) [7,8,9,10] [] (fun s w=>FH cY s w j) (fun g s=>ae (ae g 1 (X.enc cY)) 20 (.bool s))
 exact bj 28 Tryz.func65 rfl rfl bk
def Wl(c5:aL)(w:World)(j:Bool→World→Prop):Prop:=ex (bC c5) fun aX=>ex (L bf (aX.add 2) w) fun dW=>j dW w
theorem aiU{c5 w j}(h:Wl c5 w j):M Pg 66 [.pointer c5] bf w j:=
 bj 7 Tryz.func66 rfl rfl bk
def Wm(aM:aL)(bZ:Int)(Jr:cc)(w:World)(j:Int→World→Prop):Prop:=ex (fun x=>(!(decide (bZ<(0:Int))))=true→(bC aM) x) fun a3=>ex (fun x=>(!(decide (bZ<(0:Int))))=true→(L X (a3.add 5) w) x) fun dH=>if ((decide (bZ<(0:Int)))||(decide (bZ≥(dH.len:Int))))=true then (j (202:Int) w) else (ex (bC aM) fun bP=>ex (L X (bP.add 5) w) fun cw=>ex (cD cw 1 bZ) fun cH=>ex (L aE cH w) fun c3=>sE Pg Jr [.pointer (c3)] dU w fun hd cd=>j (0:Int) cd)
theorem aiV{aM bZ Jr w j}(h:Wm aM bZ Jr w j):M Pg 67 [.pointer aM,.int .i64 bZ,Jr.enc] (B .i64) w j:=
 bj 27 Tryz.func67 rfl rfl bk
def Wn(fz:aL)(bt:Addr)(bR:Addr)(e0:Addr)(w:World)(j:Unit→World→Prop):Prop:=de w fun a7=>ex (L aE bt a7) fun cB=>ex (bC cB) fun b7=>ex (L aE (b7.add 6) a7) fun cM=>ex (L (B .i64) bR a7) fun c3=>ex (L bf e0 a7) fun dG=>M Pg 69 [.pointer (cM),.int .i64 (c3),.bool (dG)] (B .i64) a7 fun cE cF=>bw ((L aE bt cF) cB)<|j () cF
theorem aiW{fz bt bR e0 w j}(h:Wn fz bt bR e0 w j):M Pg 68 [.pointer fz,.pointer (some bt),.pointer (some bR),.pointer (some e0)] dU w j:=by
 have fY:=eg 1 (du [0,1,2,3,4,5,6] .e)
 exact bj 12 Tryz.func68 rfl rfl bk
def FI(aU:World)(j:Int→World→Prop):Prop:=j (0:Int) aU
def Wo(bd:aL)(oz:Int)(r5:Bool)(w:World)(j:Int→World→Prop):Prop:=M Pg 124 [.pointer (bd),.int .i64 (oz)] bf w fun bJ a7=>if (!bJ)=true then (j (90:Int) a7) else (if r5=true then (ex (bC bd) fun b7=>ex (L ef (b7.add 3) a7) fun cM=>qh fm .i64 cM oz (⟨⟩:oU) a7 fun bU=>FI bU j) else (ex (bC bd) fun eJ=>ex (L ef (eJ.add 3) a7) fun c2=>Hx fm .i64 c2 oz a7 fun cl=>FI cl j))
theorem aiX{bd oz r5 w j}(h:Wo bd oz r5 w j):M Pg 69 [.pointer bd,.int .i64 oz,.bool r5] (B .i64) w j:=by
 have iE:=hs (bp:=Unit) 7 (fun s w=>FI w j) (fun g s=>g)
 exact bj 25 Tryz.func69 rfl rfl bk
def Wq(bd:aL)(bt:Addr)(bR:Addr)(w:World)(j:Unit→World→Prop):Prop:=de w fun aU=>ex (bC bd) fun bS=>ex (L aE (bS.add 2) aU) fun cB=>ex (L (B .i64) bt aU) fun cw=>ex (L X bR aU) fun cM=>M Pg 71 [.pointer (cB),.int .i64 (cw),X.enc (cM)] dU aU fun ca bU=>j () bU
theorem aiZ{bd bt bR w j}(h:Wq bd bt bR w j):M Pg 70 [.pointer bd,.pointer (some bt),.pointer (some bR)] dU w j:=by
 have fY:=eg 1 (du [0,1,2,3,4,5,6] .e)
 exact bj 11 Tryz.func70 rfl rfl bk
def Wr(c5:aL)(bO:Int)(yu:af)(w:World)(j:Unit→World→Prop):Prop:=ex (bC c5) fun a3=>ba (B .i64) (a3.add 3) (max bO (0:Int)) w fun a7=>ex (L X (a3.add 4) a7) fun cB=>wh (B .i64) 1 (0:Int) cB a7 fun bN=>ex (L X (a3.add 4) bN) fun cM=>ex (Sub cM 1 0 (0:Int) (0:Int)) fun aet=>tz 3 (B .i64) 1 8 aet yu bN fun hd cd=>ba X (a3.add 4) hd cd fun cl=>j () cl
theorem ai0{c5 bO yu w j}(h:Wr c5 bO yu w j):M Pg 71 [.pointer c5,.int .i64 bO,X.enc yu] dU w j:=
 bj 25 Tryz.func71 rfl rfl bk
def Ws(bd:aL)(bt:Addr)(bR:Addr)(w:World)(j:Unit→World→Prop):Prop:=ex (bC bd) fun a3=>ex (L aE (a3.add 2) w) fun dH=>M Pg 66 [.pointer (dH)] bf w fun b0 bT=>if b0=true then (ex (L aE (a3.add 2) bT) fun cM=>M Pg 73 [.pointer (cM)] dU bT fun ca bU=>ex (L aE bt bU) fun c2=>M Pg 42 [.pointer (c2),.pointer (bd)] (B .i64) bU fun et cl=>ba (B .i64) bR et cl fun c1=>j () c1) else (j () bT)
theorem ai1{bd bt bR w j}(h:Ws bd bt bR w j):M Pg 72 [.pointer bd,.pointer (some bt),.pointer (some bR)] dU w j:=
 bj 17 Tryz.func72 rfl rfl bk
def Wt(c5:aL)(w:World)(j:Unit→World→Prop):Prop:=ex (bC c5) fun aX=>ba bf (aX.add 2) false w fun bh=>j () bh
theorem ai2{c5 w j}(h:Wt c5 w j):M Pg 73 [.pointer c5] dU w j:=
 bj 5 Tryz.func73 rfl rfl bk
def Np(zE:cc)(aA:Addr)(cp:af)(nH:Int)(cd:World)(NG:Int→World→Prop)(j:Unit→World→Prop):Prop:=if (decide (nH<(cp.len:Int)))=true then (ex (cD cp 1 nH) fun fM=>ex (L (B .i64) fM cd) fun dQ=>ex (L ef (aA.add 6) cd) fun eu=>ex (ih aE .i64 eu dQ cd) fun s3=>sE Pg zE [.int .i64 (dQ),.pointer ((s3.getD (none:Option Addr)))] dU cd fun Cq dK=>NG ((IntKind.i64.wrap (nH+(1:Int)))) dK) else (j () cd)
def Wu(bd:aL)(zE:cc)(w:World)(j:Unit→World→Prop):Prop:=ex (bC bd) fun aA=>ex (L ef (aA.add 6) w) fun c6=>M Pg 125 [.map (c6)] gb w fun bJ a7=>M Pg 59 [(bJ).enc] X a7 fun cp bN=>eZ (fun (s:Int) w aa=>Np zE aA cp s w aa j) ((0:Int)) bN
theorem ai3{bd zE w j}(h:Wu bd zE w j):M Pg 74 [.pointer bd,zE.enc] dU w j:=by
 have iQ:=fun {aA} {cp:af}=>hb (bp:=Int) 2 (fun s w aa=>Np zE aA cp s w aa j) (fun g s=>ae (ae (ae (ae (ae g 0 (.pointer bd)) 1 (zE.enc)) 11 (X.enc cp)) 12 (.int .i64 ((cp.len:Int)))) 13 (.int .i64 s))
 exact bj 27 Tryz.func74 rfl rfl bk
def Wv(fz:Int)(r_:aL)(bR:Addr)(e0:Addr)(w:World)(j:Unit→World→Prop):Prop:=ex (L aE bR w) fun dH=>ex (L aE e0 w) fun cB=>M Pg 76 [.pointer (dH),.pointer (cB),.pointer (r_)] dU w fun cp bN=>j () bN
theorem ai4{fz r_ bR e0 w j}(h:Wv fz r_ bR e0 w j):M Pg 75 [.int .i64 fz,.pointer r_,.pointer (some bR),.pointer (some e0)] dU w j:=
 bj 10 Tryz.func75 rfl rfl bk
def FK(aM:aL)(bO:aL)(jX:Int)(gr:Addr)(iV:Addr)(e1:World)(mM:Int→World→Prop)(j:Unit→World→Prop):Prop:=de e1 fun eh=>ex (L (B .i64) (gr.add 1) eh) fun lY=>ex (L eE iV eh) fun hg=>M Pg 54 [.pointer (aM),.int .i64 (lY)] (B .i64) eh fun fJ e2=>bw ((L eE iV e2) hg)<|M Pg 77 [.pointer (bO),.int .i64 (fJ),eE.enc (hg)] dU e2 fun sf lp=>bw ((L (B .i64) (gr.add 1) lp) lY)<|mM ((IntKind.i64.wrap (jX+(1:Int)))) lp
def Nq(aM:aL)(bO:aL)(ja:aL)(cu:(Int×Int))(b0:af)(jX:Int)(bU:World)(mM:Int→World→Prop)(j:Unit→World→Prop):Prop:=if (decide (jX<(b0.len:Int)))=true then (ex (cD b0 1 jX) fun fD=>ex (L bf fD bU) fun e7=>M Pg 127 [.pointer (ja),.bool (e7)] gX bU fun dw cg=>bG 60 gX zx cg fun gr dK=>ba gX gr dw dK fun cS=>ex (L gX gr cS) fun dL=>bG 62 eE uG cS fun iV ez=>ba eE iV (⟨(1:Int),dL,false,(0:Int)⟩:ij) ez fun eo=>if (cu.1 != (0:Int))=true then (ex (L (B .i64) (gr.add 0) eo) fun k3=>ba eE iV (⟨(3:Int),(⟨k3,(0:Int),(0:Int),false⟩:iv),(cu.1==(2:Int)),cu.2⟩:ij) eo fun is=>FK aM bO jX gr iV is mM j) else (FK aM bO jX gr iV eo mM j)) else (j () bU)
def Ww(aM:aL)(bO:aL)(ja:aL)(w:World)(j:Unit→World→Prop):Prop:=M Pg 55 [.pointer (ja)] (bo (B .i64) (B .i64)) w fun cu aU=>M Pg 126 [.pointer (ja)] X aU fun b0 bT=>eZ (fun (s:Int) w aa=>Nq aM bO ja cu b0 s w aa j) ((0:Int)) bT
theorem ai5{aM bO ja w j}(h:Ww aM bO ja w j):M Pg 76 [.pointer aM,.pointer bO,.pointer ja] dU w j:=by
 have fY:=eg 9 (du [0,1,2,3,5,4,6] .e)
 have iE:=fun {jX} {gr} {iV} {mM} {cu:(Int×Int)} {b0:af}=>hs (bp:=Unit) 9 (fun s w=>FK aM bO jX gr iV w mM j) (fun g s=>ae (ae (ae (ae (ae (ae (ae (ae (ae (ae g 0 (.pointer aM)) 1 (.pointer bO)) 2 (.pointer ja)) 6 (.int .i64 (cu.1))) 7 (.int .i64 (cu.2))) 10 (.pointer (some gr))) 11 (.pointer (some iV))) 18 (X.enc b0)) 19 (.int .i64 ((b0.len:Int)))) 20 (.int .i64 jX))
 have iQ:=fun {cu:(Int×Int)} {b0:af}=>hb (bp:=Int) 3 (fun s w aa=>Nq aM bO ja cu b0 s w aa j) (fun g s=>ae (ae (ae (ae (ae (ae (ae (ae g 0 (.pointer aM)) 1 (.pointer bO)) 2 (.pointer ja)) 6 (.int .i64 (cu.1))) 7 (.int .i64 (cu.2))) 18 (X.enc b0)) 19 (.int .i64 ((b0.len:Int)))) 20 (.int .i64 s))
 exact bj 46 Tryz.func76 rfl rfl bk
def Wx(bd:aL)(LN:Int)(wP:ij)(w:World)(j:Unit→World→Prop):Prop:=bG 62 eE wP w fun a3 a7=>de a7 fun bT=>ex (bC bd) fun b7=>ex (L X (b7.add 8) bT) fun cM=>ex (L eE a3 bT) fun c3=>l3 161 v4 8 64 cM [(⟨LN,c3⟩:ts)] bT fun et cl=>bw ((L eE a3 cl) c3)<|ba X (b7.add 8) et cl fun dJ=>j () dJ
theorem ai6{bd LN wP w j}(h:Wx bd LN wP w j):M Pg 77 [.pointer bd,.int .i64 LN,eE.enc wP] dU w j:=by
 have fY:=eg 2 (du [0,1,2,3,5,4,6,7,8,9,10,11,12] .e)
 exact bj 18 Tryz.func77 rfl rfl bk
def Wy(m1:Int)(w:World)(j:Int→World→Prop):Prop:=j (IntKind.i64.wrap (Int.tdiv (IntKind.i64.wrap (m1+(1:Int))) (2:Int))) w
theorem ai7{m1 w j}(h:Wy m1 w j):M Pg 78 [.int .i64 m1] (B .i64) w j:=
 bj 6 Tryz.func78 rfl rfl bk
def Wz(m1:Int)(Mc:Bool)(bR:Int)(w:World)(j:ij→World→Prop):Prop:=bG 62 eE uG w fun a3 a7=>ba eE a3 (⟨(2:Int),(⟨m1,(0:Int),(0:Int),false⟩:iv),Mc,bR⟩:ij) a7 fun bT=>ex (L eE a3 bT) fun cw=>j cw bT
theorem ai8{m1 Mc bR w j}(h:Wz m1 Mc bR w j):M Pg 79 [.int .i64 m1,.bool Mc,.int .i64 bR] eE w j:=
 bj 12 Tryz.func79 rfl rfl bk
def IP(ca:Int)(cg:World)(j:Int→World→Prop):Prop:=j ca cg
def WA(qF:aL)(w:World)(j:Int→World→Prop):Prop:=ex (bC qF) fun aX=>ex (L bf (aX.add 4) w) fun dW=>if dW=true then (j (81:Int) w) else (de w fun aU=>ex (L aE (aX.add 2) aU) fun dH=>ex (L (B .i64) (aX.add 3) aU) fun cB=>M Pg 129 [.pointer (dH),.int .i64 (cB)] (B .i64) aU fun cp bN=>M Pg 128 [.pointer (qF),.int .i64 (cp)] (B .i64) bN fun ca bU=>bw ((L aE (aX.add 2) bU) dH)<|bw ((L (B .i64) (aX.add 3) bU) cB)<|if (ca==(0:Int))=true then (ex (L (B .i64) ((aX.add 0).add 0) bU) fun eu=>ba (B .i64) ((aX.add 0).add 1) eu bU fun dJ=>IP ca dJ j) else (IP ca bU j))
theorem aja{qF w j}(h:WA qF w j):M Pg 80 [.pointer qF] (B .i64) w j:=by
 have fY:=eg 4 (du [0,1,2,3,5,6,7,4,8,9,10,11] .e)
 have iE:=fun {ca}=>hs (bp:=Unit) 7 (fun s w=>IP ca w j) (fun g s=>ae g 3 (.int .i64 ca))
 exact bj 31 Tryz.func80 rfl rfl bk
def FL(bd:aL)(ic:Int)(w8:Int)(bS:Addr)(nH:Bool)(cd:World)(j:(Int×Int)→World→Prop):Prop:=if nH=true then (j ((0:Int),(90:Int)) cd) else (ex (bC bd) fun fD=>ex (L (B .i64) (fD.add 1) cd) fun e7=>ex (L eE bS cd) fun dQ=>M Pg 130 [.pointer (bd),ew.enc ((⟨(IntKind.i64.wrap (e7+(1:Int))),ic,w8,dQ⟩:gW))] (B .i64) cd fun hf c1=>if (hf != (0:Int))=true then (j ((0:Int),hf) c1) else (ba (B .i64) (fD.add 1) (IntKind.i64.wrap (e7+(1:Int))) c1 fun dK=>j ((IntKind.i64.wrap (e7+(1:Int))),(0:Int)) dK))
def WB(bd:aL)(ic:Int)(w8:Int)(yE:ij)(w:World)(j:(Int×Int)→World→Prop):Prop:=bG 62 eE yE w fun bS bT=>M Pg 124 [.pointer (bd),.int .i64 (ic)] bf bT fun cp bN=>if (!cp)=true then (FL bd ic w8 bS true bN j) else (M Pg 124 [.pointer (bd),.int .i64 (w8)] bf bN fun pg ez=>FL bd ic w8 bS (!pg) ez j)
theorem ajb{bd ic w8 yE w j}(h:WB bd ic w8 yE w j):M Pg 81 [.pointer bd,.int .i64 ic,.int .i64 w8,eE.enc yE] (bo (B .i64) (B .i64)) w j:=by
 have o8:=fun {bS}=>pN (bp:=Bool) [5,6,7,8,9] [] (fun s w=>FL bd ic w8 bS s w j) (fun g s=>ae (ae (ae (ae (ae g 0 (.pointer bd)) 1 (.int .i64 ic)) 2 (.int .i64 w8)) 7 (.pointer (some bS))) 21 (.bool s))
 exact bj 42 Tryz.func81 rfl rfl bk
def FM(bd:aL)(bZ:Int)(aA:Addr)(b7:Addr)(lV:Bool)(cS:World)(j:(gW×Int)→World→Prop):Prop:=if lV=true then (ba ew aA (⟨(0:Int),(0:Int),(0:Int),uG⟩:gW) cS fun fT=>ex (L ew aA fT) fun hH=>j (hH,(93:Int)) fT) else (ex (bC bd) fun pw=>ex (L X (pw.add 2) cS) fun kO=>M Pg 133 [X.enc (kO),.int .i64 (bZ),.int .i64 ((IntKind.i64.wrap (bZ+(1:Int))))] X cS fun m6 e1=>ba X (pw.add 2) m6 e1 fun fK=>ex (L ew b7 fK) fun hg=>ba ew aA hg fK fun e2=>ex (L ew aA e2) fun oN=>j (oN,(0:Int)) e2)
def WC(bd:aL)(bZ:Int)(w:World)(j:(gW×Int)→World→Prop):Prop:=bG 64 ew k9 w fun aA aU=>M Pg 131 [.pointer (bd),.int .i64 (bZ)] (bo ew (B .i64)) aU fun bJ a7=>bG 64 ew k9 a7 fun b7 bA=>ba ew b7 bJ.1 bA fun bU=>if (bJ.2 != (0:Int))=true then (ex (L ew b7 bU) fun dG=>ba ew aA dG bU fun cF=>ex (L ew aA cF) fun e7=>j (e7,bJ.2) cF) else (ex (L (B .i64) (b7.add 1) bU) fun dQ=>M Pg 132 [.pointer (bd),.int .i64 (dQ)] bf bU fun hf c1=>if hf=true then (FM bd bZ aA b7 true c1 j) else (ex (L (B .i64) (b7.add 2) c1) fun kd=>M Pg 132 [.pointer (bd),.int .i64 (kd)] bf c1 fun sg h3=>FM bd bZ aA b7 sg h3 j))
theorem ajc{bd bZ w j}(h:WC bd bZ w j):M Pg 82 [.pointer bd,.int .i64 bZ] (bo ew (B .i64)) w j:=by
 have o8:=fun {aA} {b7}=>pN (bp:=Bool) [5,6,7,8,9] [] (fun s w=>FM bd bZ aA b7 s w j) (fun g s=>ae (ae (ae (ae (ae g 0 (.pointer bd)) 1 (.int .i64 bZ)) 4 (.pointer (some aA))) 6 (.pointer (some b7))) 27 (.bool s))
 exact bj 41 Tryz.func82 rfl rfl bk
def WD(bd:aL)(ic:Int)(ja:iv)(w:World)(j:Unit→World→Prop):Prop:=bG 60 gX ja w fun a3 a7=>de a7 fun bT=>ex (bC bd) fun b7=>ex (L aE (b7.add 4) bT) fun cM=>ex (L (B .i64) (a3.add 0) bT) fun c3=>M Pg 30 [.pointer (cM)] aE bT fun hd cd=>bw ((L (B .i64) (a3.add 0) cd) c3)<|M Pg 10 [.pointer (hd),.int .i64 (c3)] (bo (B .i64) (B .i64)) cd fun dw cg=>bw ((L aE (b7.add 4) cg) cM)<|if (dw.1==(1:Int))=true then (ex (L (B .i64) (a3.add 0) cg) fun dm=>M Pg 79 [.int .i64 (dm),.bool (true),.int .i64 (dw.2)] eE cg fun gv cS=>M Pg 77 [.pointer (bd),.int .i64 (ic),eE.enc (gv)] dU cS fun mE ed=>j () ed) else (if (dw.1==(3:Int))=true then (ex (L (B .i64) (a3.add 0) cg) fun kO=>M Pg 79 [.int .i64 (kO),.bool (false),.int .i64 ((0:Int))] eE cg fun m6 e1=>M Pg 77 [.pointer (bd),.int .i64 (ic),eE.enc (m6)] dU e1 fun gP fK=>j () fK) else (if (dw.1==(0:Int))=true then (M Pg 96 [.pointer (bd),X.enc ((⟨none,0,0⟩:af))] (bo (B .i64) (B .i64)) cg fun fJ e2=>if (fJ.2 != (0:Int))=true then (j () e2) else (de e2 fun fX=>ex (L aE (b7.add 4) fX) fun oO=>ex (L (B .i64) (a3.add 0) fX) fun kd=>ex (L (B .i64) (a3.add 1) fX) fun lu=>ex (L (B .i64) (a3.add 2) fX) fun k3=>ex (L bf (a3.add 3) fX) fun mn=>M Pg 62 [.pointer (oO),fL.enc ((⟨(2:Int),fJ.1,kd,lu,k3,mn⟩:jI))] (B .i64) fX fun mf ku=>bw ((L (B .i64) (a3.add 0) ku) kd)<|bw ((L (B .i64) (a3.add 1) ku) lu)<|bw ((L (B .i64) (a3.add 2) ku) k3)<|bw ((L bf (a3.add 3) ku) mn)<|if (mf==(0:Int))=true then (ex (L (B .i64) (a3.add 0) ku) fun nM=>M Pg 79 [.int .i64 (nM),.bool (true),.int .i64 (fJ.1)] eE ku fun qq oM=>M Pg 77 [.pointer (bd),.int .i64 (ic),eE.enc (qq)] dU oM fun An kM=>j () kM) else (if ((decide (mf≥(150:Int)))&&(decide (mf≤(165:Int))))=true then (ex (L (B .i64) (a3.add 0) ku) fun rE=>M Pg 79 [.int .i64 (rE),.bool (false),.int .i64 ((0:Int))] eE ku fun ug nK=>M Pg 77 [.pointer (bd),.int .i64 (ic),eE.enc (ug)] dU nK fun Ao pZ=>j () pZ) else (j () ku)))) else (j () cg)))
theorem ajd{bd ic ja w j}(h:WD bd ic ja w j):M Pg 83 [.pointer bd,.int .i64 ic,gX.enc ja] dU w j:=by
 have fY:=eg 2 (du [0,1,2,5,3,6,4,7,8,9,10,11,12] .e)
 have rQ:=eg 11 (du [0,1,2,4,5,7,9,11,3,6,8,10,12,13,14,15] .e)
 exact bj 84 Tryz.func83 rfl rfl bk
def WE(aM:aL)(bO:aL)(JH:Int)(yE:ij)(w:World)(j:Unit→World→Prop):Prop:=bG 62 eE yE w fun bS bT=>de bT fun bN=>ex (bC bO) fun cH=>ex (L ef (cH.add 6) bN) fun c3=>ex (L (B .i64) ((bS.add 1).add 0) bN) fun dG=>M Pg 78 [.int .i64 (dG)] (B .i64) bN fun cE cF=>bw ((L ef (cH.add 6) cF) c3)<|ex (ih aE .i64 c3 cE cF) fun qg=>if (!(((qg.getD (none:Option Addr),qg.isSome)).2))=true then (j () cF) else (M Pg 55 [.pointer (((qg.getD (none:Option Addr),qg.isSome)).1)] (bo (B .i64) (B .i64)) cF fun mc dJ=>if (mc.1 != (0:Int))=true then (ex (L (B .i64) ((bS.add 1).add 0) dJ) fun jH=>M Pg 77 [.pointer (bO),.int .i64 (JH),eE.enc ((⟨(3:Int),(⟨jH,(0:Int),(0:Int),false⟩:iv),(mc.1==(2:Int)),mc.2⟩:ij))] dU dJ fun wZ fT=>j () fT) else (ex (L (B .i64) ((bS.add 1).add 0) dJ) fun gd=>ex (L bf (bS.add 5) dJ) fun kO=>ex (L (B .i64) (bS.add 6) dJ) fun iu=>M Pg 134 [.pointer (((qg.getD (none:Option Addr),qg.isSome)).1),.bool (((Int.tmod gd (2:Int))==(1:Int))),.bool (kO),.int .i64 (iu)] (B .i64) dJ fun w0 eh=>if (w0 != (0:Int))=true then (j () eh) else (M Pg 55 [.pointer (((qg.getD (none:Option Addr),qg.isSome)).1)] (bo (B .i64) (B .i64)) eh fun yX ir=>if (yX.1==(3:Int))=true then (M Pg 106 [.pointer (aM),.pointer (bO),.pointer (((qg.getD (none:Option Addr),qg.isSome)).1),.int .i64 ((3:Int)),.int .i64 ((0:Int))] (B .i64) ir fun dP fW=>j () fW) else (M Pg 135 [.pointer (((qg.getD (none:Option Addr),qg.isSome)).1)] (bo (B .i64) bf) ir fun sf lp=>if sf.2=true then (s6 2 (B .i64) [sf.1] lp fun Bb gQ=>M Pg 96 [.pointer (bO),X.enc ((⟨some Bb,1,1⟩:af))] (bo (B .i64) (B .i64)) gQ fun Al is=>if (Al.2==(0:Int))=true then (M Pg 106 [.pointer (aM),.pointer (bO),.pointer (((qg.getD (none:Option Addr),qg.isSome)).1),.int .i64 ((2:Int)),.int .i64 (Al.1)] (B .i64) is fun qo jd=>j () jd) else (j () is)) else (j () lp)))))
theorem aje{aM bO JH yE w j}(h:WE aM bO JH yE w j):M Pg 84 [.pointer aM,.pointer bO,.int .i64 JH,eE.enc yE] dU w j:=by
 have fY:=eg 2 (du [0,1,2,4,5,3,6,7,8,9,10,11,12,13] .e)
 exact bj 93 Tryz.func84 rfl rfl bk
end bb
end Go.Proofs.YthaobmpdjcoheaaGreat
