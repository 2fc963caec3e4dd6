/- Own texts of this claim, part 4: short, merged. -/
import Derived.Test.YthaobmpdjcoheaaGreatZ1
set_option maxRecDepth 100000
set_option maxHeartbeats 40000000
set_option linter.defProp false
set_option linter.unusedVariables false
set_option linter.unusedSimpArgs false
namespace Go.Proofs.YthaobmpdjcoheaaGreat
namespace bf
def V_(dt:aM)(w:World)(e:(Int×Int)→World→Prop):Prop:=dl w fun cB=>ex (bK dt) fun aA=>ex (L (B .i64) (aA.add 12) cB) fun de=>ex (L (B .i64) (aA.add 13) cB) fun dN=>e (de,dN) cB
theorem aiG{dt w e}(h:V_ dt w e):M Pg 55 [.pointer dt] (bw (B .i64) (B .i64)) w e:=by
 have ga:=en 2 (dB [0,1,2,4,5,6,3,8,7,9] .j)
 exact bq 12 Tryz.func55 rfl rfl br
def Wa(bi:aM)(w:World)(e:af→World→Prop):Prop:=ex (bK bi) fun aY=>ex (L X (aY.add 2) w) fun ea=>M Pg 107 [X.enc (ea)] X w fun bj aV=>e bj aV
theorem aiH{bi w e}(h:Wa bi w e):M Pg 56 [.pointer bi] X w e:=
 bq 8 Tryz.func56 rfl rfl br
def Wb(bS:aM)(w:World)(e:Int→World→Prop):Prop:=ex (bK bS) fun aY=>ex (L (B .i64) (aY.add 1) w) fun ea=>e ea w
theorem aiI{bS w e}(h:Wb bS w e):M Pg 57 [.pointer bS] (B .i64) w e:=
 bq 7 Tryz.func57 rfl rfl br
def Wc(bS:aM)(w:World)(e:Int→World→Prop):Prop:=ex (bK bS) fun aY=>ex (L (B .i64) (aY.add 2) w) fun ea=>e ea w
theorem aiJ{bS w e}(h:Wc bS w e):M Pg 58 [.pointer bS] (B .i64) w e:=
 bq 7 Tryz.func58 rfl rfl br
def Wd(r6:(Option Nat))(w:World)(e:cm→World→Prop):Prop:=bO 68 ek r6 w fun aY bm=>e (cm.mk (.func 110) (List.toArray []) (List.toArray [.pointer (some aY)])) bm
theorem aiL{r6 w e}(h:Wd r6 w e):M Pg 60 [.map r6] gg w e:=
 bq 4 Tryz.func60 rfl rfl br
def CV(fk:Int)(aA:Addr)(dE:Addr)(qy:Addr)(e4:World)(e:(jz×Int)→World→Prop):Prop:=dl e4 fun ep=>ex (L cO qy ep) fun l1=>ex (L (B .i64) ((dE.add 0).add 0) ep) fun hj=>ex (L gP (dE.add 4) ep) fun kT=>M Pg 112 [cO.enc (l1),.int .i64 ((IntKind.i64.wrap (fk-hj))),.float .f64 (kT)] (bw cO (B .i64)) ep fun dV fZ=>bE ((L (B .i64) ((dE.add 0).add 0) fZ) hj)<|bd cO qy dV.1 fZ fun gR=>dl gR fun h7=>ex (L (B .i64) (qy.add 0) h7) fun k6=>ex (L (B .i64) (dE.add 6) h7) fun mq=>bd (B .i64) (qy.add 0) (max k6 mq) h7 fun kx=>ex (L (B .i64) (qy.add 1) kx) fun mP=>ex (L (B .i64) (qy.add 0) kx) fun zf=>bd (B .i64) (qy.add 1) (max mP zf) kx fun lv=>dl lv fun mn=>ex (L (B .i64) (qy.add 0) mn) fun im=>bd (B .i64) (dE.add 5) fk mn fun kP=>bE ((L (B .i64) (qy.add 0) kP) im)<|bd (B .i64) (dE.add 6) im kP fun vT=>ex (L cO qy vT) fun tn=>bd cO aA tn vT fun uy=>ex (L cO aA uy) fun rH=>e (rH,(0:Int)) uy
def Ni(aN:aM)(fk:Int)(w:World)(e:(jz×Int)→World→Prop):Prop:=bO 137 cO jB w fun aA aV=>M Pg 89 [.int .i64 (fk)] bk aV fun aI a_=>if (!aI)=true then (bd cO aA (⟨(0:Int),(0:Int)⟩:jz) a_ fun bV=>ex (L cO aA bV) fun cT=>e (cT,(61:Int)) bV) else (ex (bK aN) fun dE=>ex (L bk ((dE.add 0).add 3) a_) fun dM=>if (!dM)=true then (bd cO aA (⟨(0:Int),(0:Int)⟩:jz) a_ fun cN=>ex (L cO aA cN) fun e7=>e (e7,(63:Int)) cN) else (ex (L (B .i64) (dE.add 5) a_) fun dU=>if (decide (fk<dU))=true then (bd cO aA (⟨(0:Int),(0:Int)⟩:jz) a_ fun db=>ex (L cO aA db) fun fu=>e (fu,(62:Int)) db) else (dl a_ fun dQ=>ex (L (B .i64) ((dE.add 0).add 1) dQ) fun jM=>ex (L (B .i64) ((dE.add 0).add 0) dQ) fun cW=>if (decide ((IntKind.i64.wrap (jM+(IntKind.i64.wrap (fk-cW))))>(1125899906842624:Int)))=true then (bd cO aA (⟨(0:Int),(0:Int)⟩:jz) dQ fun ei=>ex (L cO aA ei) fun gh=>e (gh,(64:Int)) ei) else (dl dQ fun nN=>ex (L (B .i64) ((dE.add 0).add 1) nN) fun oQ=>ex (L (B .i64) ((dE.add 0).add 0) nN) fun p4=>ex (L (B .i64) ((dE.add 0).add 2) nN) fun qM=>sH (M Pg 111 [.int .i64 ((IntKind.i64.wrap (oQ+(IntKind.i64.wrap (fk-p4))))),.int .i64 (qM)] (bw cO (B .i64)) nN fun mi qH=>bE ((L (B .i64) ((dE.add 0).add 1) qH) oQ)<|bE ((L (B .i64) ((dE.add 0).add 0) qH) p4)<|bO 137 cO jB qH fun F4 sv=>bd cO F4 mi.1 sv fun qI=>CV fk aA dE F4 qI e) (bO 137 cO jB nN fun Dk tl=>M Pg 111 [.int .i64 ((IntKind.i64.wrap (oQ+(IntKind.i64.wrap (fk-p4))))),.int .i64 (qM)] (bw cO (B .i64)) tl fun da xe=>bE ((L (B .i64) ((dE.add 0).add 1) xe) oQ)<|bE ((L (B .i64) ((dE.add 0).add 0) xe) p4)<|bd cO Dk da.1 xe fun LZ=>CV fk aA dE Dk LZ e)))))
theorem aiM{aN:aM}{fk:Int}{w:World}{e:(jz×Int)→World→Prop}(h:Ni aN fk w e):M Pg 61 [.pointer (aN),.int .i64 (fk)] (bw cO (B .i64)) w e:=by
 unfold Ni at h
 refine q3 107 Tryz.func61 rfl rfl (Nat.le_of_ble_eq_true rfl)<|wp_seq<|bz _ rfl<|o0 oB BT h rfl fun aA aV h=>y rfl<|bh<|wp_seq<|wp_block<|wp_seq<|bz _ rfl<|y rfl<|fv ank rfl rfl h fun aI a_ h=>?_
 refine a5 _ rfl rfl rfl (rz rfl rfl)<|y rfl<|bh<|fE h rfl (fun _ h=>?_) fun _ h=>?_
 ·refine wp_seq<|bz _ rfl<|a5 12 rfl rfl rfl (EI  rfl)<|jS oB h rfl rfl rfl fun bV h=>y rfl<|bh<|wp_ret ?_
  obtain⟨cT,Qe,h⟩:=h
  exact n8 rfl (.cons (.cell (T:=cO) (u:=cT) (a:=aA) oB rfl Qe) (.cons (.tmp (v:=.int .i64 ((61:Int))) rfl) .nil)) ⟨(cT,(61:Int)),rfl,h⟩
 ·refine wp_seq<|bz _ rfl<|y rfl<|Ou h rfl rfl fun dE sQ h=>hs _ _ _ Tryz.underlying175 yK rfl rfl rfl<|hs _ _ _ Tryz.underlying173 oC rfl rfl rfl<|hV oC h rfl rfl fun dM _ h=>a5 _ rfl rfl rfl (rz rfl rfl)<|y rfl<|bh<|fE h rfl (fun _ h=>?_) fun _ h=>?_
  ·refine wp_seq<|bz _ rfl<|a5 20 rfl rfl rfl (EI  rfl)<|jS oB h rfl rfl rfl fun cN h=>y rfl<|bh<|wp_ret ?_
   obtain⟨e7,yp,h⟩:=h
   exact n8 rfl (.cons (.cell (T:=cO) (u:=e7) (a:=aA) oB rfl yp) (.cons (.tmp (v:=.int .i64 ((63:Int))) rfl) .nil)) ⟨(e7,(63:Int)),rfl,h⟩
  ·refine wp_seq<|bz _ rfl<|y rfl<|y rfl<|Iv _ sQ rfl rfl<|hs _ _ _ Tryz.underlying175 c4 rfl rfl rfl<|hV c4 h rfl rfl fun dU _ h=>a5 _ rfl rfl rfl (me rfl rfl rfl)<|y rfl<|bh<|fE h rfl (fun _ h=>?_) fun _ h=>?_
   ·refine wp_seq<|bz _ rfl<|a5 28 rfl rfl rfl (EI  rfl)<|jS oB h rfl rfl rfl fun db h=>y rfl<|bh<|wp_ret ?_
    obtain⟨fu,P4,h⟩:=h
    exact n8 rfl (.cons (.cell (T:=cO) (u:=fu) (a:=aA) oB rfl P4) (.cons (.tmp (v:=.int .i64 ((62:Int))) rfl) .nil)) ⟨(fu,(62:Int)),rfl,h⟩
   ·refine wp_seq ?_
    obtain⟨dQ,PY,h⟩:=ov h
    refine pq 15 mixed rfl (by kernel_rfl) (by intro c a d v w h; cases d<;>exact h) PY (fun ak=>?_)
    refine gi 0 30 (.pointer (aN)) ak rfl rfl<|oe 1 31 sQ ak rfl rfl<|hr 2 32 dE 0 Tryz.underlying175 yK ak rfl rfl rfl<|hr 3 33 (dE.add 0) 1 Tryz.underlying173 c4 ak rfl rfl rfl<|gi 5 35 (.int .i64 (fk)) ak rfl rfl<|gi 6 36 (.pointer (aN)) ak rfl rfl<|oe 7 37 sQ ak rfl rfl<|hr 8 38 dE 0 Tryz.underlying175 yK ak rfl rfl rfl<|hr 9 39 (dE.add 0) 0 Tryz.underlying173 c4 ak rfl rfl rfl ?_
    obtain⟨jM,arF,h⟩:=h
    refine ia 4 34 arF c4 ak rfl rfl ?_
    obtain⟨cW,P5,h⟩:=h
    refine ia 10 40 P5 c4 ak rfl rfl<|fg 11 41 ak rfl rfl rfl (fun _=>yX (a:=fk) (l:=cW) rfl rfl rfl)<|fg 12 42 ak rfl rfl rfl (fun _=>pg (a:=jM) (l:=(IntKind.i64.wrap (fk-cW))) rfl rfl rfl)<|fg 13 43 ak rfl rfl rfl (fun _=>vA (a:=(IntKind.i64.wrap (jM+(IntKind.i64.wrap (fk-cW))))) (l:=(1125899906842624:Int)) rfl rfl rfl)<|E3 14 29 (.bool ((decide ((IntKind.i64.wrap (jM+(IntKind.i64.wrap (fk-cW))))>(1125899906842624:Int))))) ak rfl rfl<|kL (by kernel_rfl)<|fE h rfl (fun _ h=>?_) fun _ h=>?_
    ·refine wp_seq<|bz _ rfl<|a5 44 rfl rfl rfl (EI  rfl)<|jS oB h rfl rfl rfl fun ei h=>y rfl<|bh<|wp_ret ?_
     obtain⟨gh,G_,h⟩:=h
     exact n8 rfl (.cons (.cell (T:=cO) (u:=gh) (a:=aA) oB rfl G_) (.cons (.tmp (v:=.int .i64 ((64:Int))) rfl) .nil)) ⟨(gh,(64:Int)),rfl,h⟩
    ·refine wp_skip<|Ar (bx:=Addr) (eZ:=fun (s:Addr) w=>CV fk aA dE s w e) (dw:=fun g (s:Addr)=>ae (ae (ae (ae (g) 0 (.pointer (aN))) 1 (.int .i64 (fk))) 4 (.pointer (some aA))) 6 (.pointer (some s))) ?_ ?_
     ·rintro qy g e4 h
      unfold CV at h
      refine wp_seq ?_
      obtain⟨ep,ard,h⟩:=ov h
      refine pq 17 mixed rfl (by kernel_rfl) (by intro c a d v w h; cases d<;>exact h) ard (fun ak=>?_)
      refine gi 1 69 (.int .i64 (fk)) ak rfl rfl<|gi 2 70 (.pointer (aN)) ak rfl rfl<|oe 3 71 sQ ak rfl rfl<|hr 4 72 dE 0 Tryz.underlying175 yK ak rfl rfl rfl<|hr 5 73 (dE.add 0) 0 Tryz.underlying173 c4 ak rfl rfl rfl<|gi 8 76 (.pointer (aN)) ak rfl rfl<|oe 9 77 sQ ak rfl rfl<|hr 10 78 dE 4 Tryz.underlying175 qm ak rfl rfl rfl ?_
      obtain⟨l1,arH,h⟩:=h
      refine ia 0 68 arH oB ak rfl rfl ?_
      obtain⟨hj,P7,h⟩:=h
      refine ia 6 74 P7 c4 ak rfl rfl<|fg 7 75 ak rfl rfl rfl (fun _=>yX (a:=fk) (l:=hj) rfl rfl rfl) ?_
      obtain⟨kT,P8,h⟩:=h
      refine ia 11 79 P8 qm ak rfl rfl<|fo (i:=12) (by kernel_rfl)<|hK rfl (.free rfl) (gU (d:=(some 80)) rfl (fT (k:=112) (m:=[cO.enc (l1),.int .i64 ((IntKind.i64.wrap (fk-hj))),.float .f64 (kT)]) rfl amB rfl) h ?_)
      intro dV fZ h
      obtain⟨apW,h⟩:=h
      refine⟨(hl (by kernel_rfl) (fL (fun _=>apW) (hl (by kernel_rfl) iv))),?_⟩
      refine gi 13 67 ((bw cO (B .i64)).enc (dV)) ak rfl rfl<|fg 14 81 ak rfl rfl rfl (fun _=>w2 (aX:=#[cO.enc (dV.1),.int .i64 (dV.2)]) (v:=cO.enc (dV.1)) rfl rfl rfl)<|fg 15 82 ak rfl rfl rfl (fun _=>w2 (aX:=#[cO.enc (dV.1),.int .i64 (dV.2)]) (v:=.int .i64 (dV.2)) rfl rfl rfl)<|fo (i:=16) (by kernel_rfl) ?_
      obtain⟨gR,arj,aqN,h⟩:=sr h
      refine ui (d:=none) rfl (.free rfl) rfl (si (T:=cO) (u:=dV.1) (a:=qy) rfl oB rfl rfl aqN arj) ⟨(hl (by kernel_rfl) (hl (by kernel_rfl) (hl (by kernel_rfl) iv))),?_⟩
      refine kL (by kernel_rfl)<|wp_seq ?_
      obtain⟨h7,PZ,h⟩:=ov h
      refine pq 9 mixed rfl (by kernel_rfl) (by intro c a d v w h; cases d<;>exact h) PZ (fun ak=>?_)
      refine hr 0 83 qy 0 Tryz.underlying137 c4 ak rfl rfl rfl<|gi 2 85 (.pointer (aN)) ak rfl rfl<|oe 3 86 sQ ak rfl rfl<|hr 4 87 dE 6 Tryz.underlying175 c4 ak rfl rfl rfl ?_
      obtain⟨k6,arJ,h⟩:=h
      refine ia 1 84 arJ c4 ak rfl rfl ?_
      obtain⟨mq,Ha,h⟩:=h
      refine ia 5 88 Ha c4 ak rfl rfl<|fg 6 89 ak rfl rfl rfl (fun _=>Lc (a:=k6) (l:=mq) rfl rfl rfl)<|hr 7 90 qy 0 Tryz.underlying137 c4 ak rfl rfl rfl<|fo (i:=8) (by kernel_rfl) ?_
      obtain⟨kx,arl,aqO,h⟩:=sr h
      refine ui (d:=none) rfl (.free rfl) rfl (si (T:=(B .i64)) (u:=(max k6 mq)) (a:=(qy.add 0)) rfl c4 rfl rfl aqO arl) ⟨(hl (by kernel_rfl) (hl (by kernel_rfl) iv)),?_⟩
      refine kL (by kernel_rfl)<|wp_seq<|bz _ rfl<|hs _ _ _ Tryz.underlying137 c4 rfl rfl rfl<|hV c4 h rfl rfl fun mP _ h=>hs _ _ _ Tryz.underlying137 c4 rfl rfl rfl<|hV c4 h rfl rfl fun zf _ h=>a5 _ rfl rfl rfl (Lc rfl rfl rfl)<|hs _ _ _ Tryz.underlying137 c4 rfl rfl rfl<|jS c4 h rfl rfl rfl fun lv h=>bh<|wp_seq ?_
      obtain⟨mn,aro,h⟩:=ov h
      refine pq 11 mixed rfl (by kernel_rfl) (by intro c a d v w h; cases d<;>exact h) aro (fun ak=>?_)
      refine gi 0 97 (.pointer (aN)) ak rfl rfl<|gi 1 98 (.pointer (aN)) ak rfl rfl<|gi 2 99 (.int .i64 (fk)) ak rfl rfl<|hr 3 100 qy 0 Tryz.underlying137 c4 ak rfl rfl rfl<|oe 5 102 sQ ak rfl rfl<|hr 6 103 dE 5 Tryz.underlying175 c4 ak rfl rfl rfl ?_
      obtain⟨im,arL,h⟩:=h
      refine ia 4 101 arL c4 ak rfl rfl<|fo (i:=7) (by kernel_rfl) ?_
      obtain⟨kP,arq,aqP,h⟩:=sr h
      obtain⟨apX,h⟩:=h
      refine ui (d:=none) rfl (.free rfl) rfl (si (T:=(B .i64)) (u:=fk) (a:=(dE.add 5)) rfl c4 rfl rfl aqP arq) ⟨(fL (fun _=>apX) iv),?_⟩
      refine oe 8 104 sQ ak rfl rfl<|hr 9 105 dE 6 Tryz.underlying175 c4 ak rfl rfl rfl<|fo (i:=10) (by kernel_rfl) ?_
      obtain⟨vT,ars,aqQ,h⟩:=sr h
      refine ui (d:=none) rfl (.free rfl) rfl (si (T:=(B .i64)) (u:=im) (a:=(dE.add 6)) rfl c4 rfl rfl aqQ ars) ⟨(hl (by kernel_rfl) iv),?_⟩
      refine kL (by kernel_rfl)<|wp_seq<|bz _ rfl<|hV oB h rfl rfl fun tn _ h=>jS oB h rfl rfl rfl fun uy h=>y rfl<|bh<|wp_ret ?_
      obtain⟨rH,Qa,h⟩:=h
      exact n8 rfl (.cons (.cell (T:=cO) (u:=rH) (a:=aA) oB rfl Qa) (.cons (.tmp (v:=.int .i64 ((0:Int))) rfl) .nil)) ⟨(rH,(0:Int)),rfl,h⟩
     ·obtain⟨nN,art,h⟩:=ov h
      refine pq 25 mixed rfl (by kernel_rfl) (by intro c a d v w h; cases d<;>exact h) art (fun ak=>?_)
      refine gi 0 46 (.pointer (aN)) ak rfl rfl<|oe 1 47 sQ ak rfl rfl<|hr 2 48 dE 0 Tryz.underlying175 yK ak rfl rfl rfl<|hr 3 49 (dE.add 0) 1 Tryz.underlying173 c4 ak rfl rfl rfl<|gi 5 51 (.int .i64 (fk)) ak rfl rfl<|gi 6 52 (.pointer (aN)) ak rfl rfl<|oe 7 53 sQ ak rfl rfl<|hr 8 54 dE 0 Tryz.underlying175 yK ak rfl rfl rfl<|hr 9 55 (dE.add 0) 0 Tryz.underlying173 c4 ak rfl rfl rfl<|gi 13 59 (.pointer (aN)) ak rfl rfl<|oe 14 60 sQ ak rfl rfl<|hr 15 61 dE 0 Tryz.underlying175 yK ak rfl rfl rfl ?_
      refine hr 16 62 (dE.add 0) 2 Tryz.underlying173 c4 ak rfl rfl rfl ?_
      obtain⟨oQ,Qb,h⟩:=h
      refine ia 4 50 Qb c4 ak rfl rfl ?_
      obtain⟨p4,Qc,h⟩:=h
      refine ia 10 56 Qc c4 ak rfl rfl<|fg 11 57 ak rfl rfl rfl (fun _=>yX (a:=fk) (l:=p4) rfl rfl rfl)<|fg 12 58 ak rfl rfl rfl (fun _=>pg (a:=oQ) (l:=(IntKind.i64.wrap (fk-p4))) rfl rfl rfl) ?_
      obtain⟨qM,Hc,h⟩:=h
      refine ia 17 63 Hc c4 ak rfl rfl ?_
      obtain⟨h,fr⟩:=h
      refine ad7 (i:=18) (D:=22) (by kernel_rfl) ?_ ?_
      ·clear fr
       refine hK rfl (.free rfl) (gU (d:=(some 64)) rfl (fT (k:=111) (m:=[.int .i64 ((IntKind.i64.wrap (oQ+(IntKind.i64.wrap (fk-p4))))),.int .i64 (qM)]) rfl Yx rfl) h ?_)
       intro mi qH h
       obtain⟨D3,h⟩:=h
       obtain⟨apY,h⟩:=h
       refine⟨(hl (by kernel_rfl) (fL (fun _=>apY) (fL (fun _=>D3) iv))),?_⟩
       refine gi 19 45 ((bw cO (B .i64)).enc (mi)) ak rfl rfl<|fg 20 65 ak rfl rfl rfl (fun _=>w2 (aX:=#[cO.enc (mi.1),.int .i64 (mi.2)]) (v:=cO.enc (mi.1)) rfl rfl rfl)<|fg 21 66 ak rfl rfl rfl (fun _=>w2 (aX:=#[cO.enc (mi.1),.int .i64 (mi.2)]) (v:=.int .i64 (mi.2)) rfl rfl rfl)<|fo (i:=22) (by kernel_rfl) ?_
       obtain⟨F4,sv,aoP,J9,h⟩:=pU h
       refine yU (d:=(some 6)) rfl (.free rfl) rfl (HO (u:=jB) rfl oB BT aoP J9) ⟨(fL (fun h=>yx J9 h) (fL (fun h=>yx J9 h) (fL (fun h=>yx J9 h) iv))),?_⟩
       refine fo (i:=23) (by kernel_rfl) ?_
       obtain⟨qI,arv,aqS,h⟩:=sr h
       refine ui (d:=none) rfl (.free rfl) rfl (si (T:=cO) (u:=mi.1) (a:=F4) rfl oB rfl rfl aqS arv) ⟨(hl (by kernel_rfl) (hl (by kernel_rfl) (hl (by kernel_rfl) iv))),?_⟩
       refine E3 24 7 (.int .i64 (mi.2)) ak rfl rfl<|kL (by kernel_rfl) ?_
       exact⟨(F4),_,arr (aQ (aQ (aQ (aQ rfl rfl) rfl) rfl) rfl),h⟩
      ·replace h:=fr; clear fr
       obtain⟨Dk,tl,aoQ,J_,h⟩:=pU h
       refine yU (d:=(some 6)) rfl (.free rfl) rfl (HO (u:=jB) rfl oB BT aoQ J_) ⟨(fL (fun h=>yx J_ h) (fL (fun h=>yx J_ h) (fL (fun h=>yx J_ h) iv))),?_⟩
       refine fo (i:=18) (by kernel_rfl)<|hK rfl (.free rfl) (gU (d:=(some 64)) rfl (fT (k:=111) (m:=[.int .i64 ((IntKind.i64.wrap (oQ+(IntKind.i64.wrap (fk-p4))))),.int .i64 (qM)]) rfl Yx rfl) h ?_)
       intro da xe h
       obtain⟨apZ,h⟩:=h
       obtain⟨ap0,h⟩:=h
       refine⟨(hl (by kernel_rfl) (fL (fun _=>ap0) (fL (fun _=>apZ) iv))),?_⟩
       refine gi 19 45 ((bw cO (B .i64)).enc (da)) ak rfl rfl<|fg 20 65 ak rfl rfl rfl (fun _=>w2 (aX:=#[cO.enc (da.1),.int .i64 (da.2)]) (v:=cO.enc (da.1)) rfl rfl rfl)<|fg 21 66 ak rfl rfl rfl (fun _=>w2 (aX:=#[cO.enc (da.1),.int .i64 (da.2)]) (v:=.int .i64 (da.2)) rfl rfl rfl)<|fo (i:=23) (by kernel_rfl) ?_
       obtain⟨LZ,arw,aqT,h⟩:=sr h
       refine ui (d:=none) rfl (.free rfl) rfl (si (T:=cO) (u:=da.1) (a:=Dk) rfl oB rfl rfl aqT arw) ⟨(hl (by kernel_rfl) (hl (by kernel_rfl) (hl (by kernel_rfl) iv))),?_⟩
       refine E3 24 7 (.int .i64 (da.2)) ak rfl rfl<|kL (by kernel_rfl) ?_
       exact⟨(Dk),_,arr (aQ (aQ (aQ (aQ rfl rfl) rfl) rfl) rfl),h⟩
def We(bS:aM)(kz:jN)(w:World)(e:Int→World→Prop):Prop:=bO 142 fN kz w fun aA aV=>ex (L (B .i64) (aA.add 0) aV) fun dN=>M Pg 113 [.int .i64 (dN)] bk aV fun bX b2=>if (!bX)=true then (e (192:Int) b2) else (dl b2 fun bH=>ex (bK bS) fun dE=>ex (L aD (dE.add 0) bH) fun dM=>ex (L fN aA bH) fun cK=>M Pg 114 [fN.enc (cK)] X bH fun eo cA=>bE ((L aD (dE.add 0) cA) dM)<|M Pg 98 [.pointer (dM),X.enc (eo)] (B .i64) cA fun mg dP=>bE ((L fN aA dP) cK)<|if (mg != (0:Int))=true then (e mg dP) else (ex (L fN aA dP) fun cW=>M Pg 115 [.pointer (bS),fN.enc (cW)] (B .i64) dP fun mH ei=>e mH ei))
theorem aiN{bS kz w e}(h:We bS kz w e):M Pg 62 [.pointer bS,fN.enc kz] (B .i64) w e:=by
 have ga:=en 4 (dB [0,1,2,3,4,5,6,7] .j)
 exact bq 23 Tryz.func62 rfl rfl br
def Wf(bS:aM)(bB:Int)(w:World)(e:Int→World→Prop):Prop:=M Pg 116 [.int .i64 (bB)] bk w fun bp bm=>if (!bp)=true then (e (100:Int) bm) else (ex (bK bS) fun b1=>ex (L (B .i64) (b1.add 0) bm) fun cJ=>bd (B .i64) (b1.add 0) (max cJ bB) bm fun bV=>e (0:Int) bV)
theorem aiO{bS bB w e}(h:Wf bS bB w e):M Pg 63 [.pointer bS,.int .i64 bB] (B .i64) w e:=
 bq 17 Tryz.func63 rfl rfl br
def Wg(c1:aM)(g1:Int)(w:World)(e:(af×Int)→World→Prop):Prop:=ex (bK c1) fun aA=>ex (L aD ((aA.add 0).add 0) w) fun de=>M Pg 117 [.pointer (de),.int .i64 (g1)] (bw X (B .i64)) w fun aI a_=>M Pg 118 [.int .i64 (aI.2)] (B .i64) a_ fun a3 bV=>e (aI.1,a3) bV
theorem aiP{c1 g1 w e}(h:Wg c1 g1 w e):M Pg 64 [.pointer c1,.int .i64 g1] (bw X (B .i64)) w e:=
 bq 21 Tryz.func64 rfl rfl br
def FF(cZ:af)(oK:Bool)(bH:World)(e:((Option Nat)×Int×Int)→World→Prop):Prop:=if oK=true then (e ((none:Option Nat),(0:Int),(180:Int)) bH) else (uf bH fun Ek b3=>bO 146 ek (none:Option Nat) b3 fun fG cA=>bO 2 (B .i64) (0:Int) cA fun eO db=>bd ek fG (some Ek) db fun dP=>bd (B .i64) eO (0:Int) dP fun dQ=>M Pg 121 [X.enc (cZ),((cm.mk (.func 122) (List.toArray []) (List.toArray [.pointer (some fG),.pointer (some eO)]))).enc] (B .i64) dQ fun gy c2=>dl c2 fun ei=>ex (L ek fG ei) fun gh=>ex (L (B .i64) eO ei) fun kS=>e (gh,kS,gy) ei)
def Wh(xG:Int)(cZ:af)(w:World)(e:((Option Nat)×Int×Int)→World→Prop):Prop:=bO 2 (B .i64) xG w fun aA aV=>ex (L (B .i64) aA aV) fun dN=>ex (fun x=>(!(decide (dN<(0:Int))))=true→(L (B .i64) aA aV) x) fun cJ=>if ((decide (dN<(0:Int)))||(decide (cJ>(1125899906842624:Int))))=true then (FF cZ true aV e) else (M Pg 119 [X.enc (cZ),((cm.mk (.func 120) (List.toArray []) (List.toArray [.pointer (some aA)]))).enc] bk aV fun gO fM=>FF cZ gO fM e)
theorem aiQ{xG cZ w e}(h:Wh xG cZ w e):M Pg 65 [.int .i64 xG,X.enc cZ] (mm ek (B .i64) (B .i64)) w e:=by
 have ga:=en 6 (dB [2,0,3,1,4,5] .j)
 have o9:=pQ (bx:=Bool) [7,8,9,10] [] (fun s w=>FF cZ s w e) (fun g s=>ae (ae g 1 (X.enc cZ)) 20 (.bool s))
 exact bq 28 Tryz.func65 rfl rfl br
def Wi(dd:aM)(w:World)(e:Bool→World→Prop):Prop:=ex (bK dd) fun aY=>ex (L bk (aY.add 2) w) fun ea=>e ea w
theorem aiR{dd w e}(h:Wi dd w e):M Pg 66 [.pointer dd] bk w e:=
 bq 7 Tryz.func66 rfl rfl br
def Wj(aN:aM)(b8:Int)(Jo:cm)(w:World)(e:Int→World→Prop):Prop:=ex (fun x=>(!(decide (b8<(0:Int))))=true→(bK aN) x) fun a6=>ex (fun x=>(!(decide (b8<(0:Int))))=true→(L X (a6.add 5) w) x) fun dN=>if ((decide (b8<(0:Int)))||(decide (b8≥(dN.len:Int))))=true then (e (202:Int) w) else (ex (bK aN) fun bY=>ex (L X (bY.add 5) w) fun bQ=>ex (cM bQ 1 b8) fun cP=>ex (L aD cP w) fun cH=>sJ Pg Jo [.pointer (cH)] dZ w fun hh cn=>e (0:Int) cn)
theorem aiS{aN b8 Jo w e}(h:Wj aN b8 Jo w e):M Pg 67 [.pointer aN,.int .i64 b8,Jo.enc] (B .i64) w e:=
 bq 27 Tryz.func67 rfl rfl br
def Wk(fC:aM)(bB:Addr)(b0:Addr)(e3:Addr)(w:World)(e:Unit→World→Prop):Prop:=dl w fun a_=>ex (L aD bB a_) fun cJ=>ex (bK cJ) fun cg=>ex (L aD (cg.add 6) a_) fun cT=>ex (L (B .i64) b0 a_) fun cH=>ex (L bk e3 a_) fun dM=>M Pg 69 [.pointer (cT),.int .i64 (cH),.bool (dM)] (B .i64) a_ fun bo cN=>bE ((L aD bB cN) cJ)<|e () cN
theorem aiT{fC bB b0 e3 w e}(h:Wk fC bB b0 e3 w e):M Pg 68 [.pointer fC,.pointer (some bB),.pointer (some b0),.pointer (some e3)] dZ w e:=by
 have ga:=en 1 (dB [0,1,2,3,4,5,6] .j)
 exact bq 12 Tryz.func68 rfl rfl br
def FG(aV:World)(e:Int→World→Prop):Prop:=e (0:Int) aV
def Wl(bi:aM)(oA:Int)(r9:Bool)(w:World)(e:Int→World→Prop):Prop:=M Pg 124 [.pointer (bi),.int .i64 (oA)] bk w fun aI a_=>if (!aI)=true then (e (90:Int) a_) else (if r9=true then (ex (bK bi) fun cg=>ex (L ek (cg.add 3) a_) fun cT=>qk fq .i64 cT oA (⟨⟩:oV) a_ fun b3=>FG b3 e) else (ex (bK bi) fun eN=>ex (L ek (eN.add 3) a_) fun cK=>Hv fq .i64 cK oA a_ fun cA=>FG cA e))
theorem aiU{bi oA r9 w e}(h:Wl bi oA r9 w e):M Pg 69 [.pointer bi,.int .i64 oA,.bool r9] (B .i64) w e:=by
 have iI:=hy (bx:=Unit) 7 (fun s w=>FG w e) (fun g s=>g)
 exact bq 25 Tryz.func69 rfl rfl br
def Wn(bi:aM)(bB:Addr)(b0:Addr)(w:World)(e:Unit→World→Prop):Prop:=dl w fun aV=>ex (bK bi) fun b1=>ex (L aD (b1.add 2) aV) fun cJ=>ex (L (B .i64) bB aV) fun bQ=>ex (L X b0 aV) fun cT=>M Pg 71 [.pointer (cJ),.int .i64 (bQ),X.enc (cT)] dZ aV fun a2 b3=>e () b3
theorem aiW{bi bB b0 w e}(h:Wn bi bB b0 w e):M Pg 70 [.pointer bi,.pointer (some bB),.pointer (some b0)] dZ w e:=by
 have ga:=en 1 (dB [0,1,2,3,4,5,6] .j)
 exact bq 11 Tryz.func70 rfl rfl br
def Wo(dd:aM)(bW:Int)(yw:af)(w:World)(e:Unit→World→Prop):Prop:=ex (bK dd) fun a6=>bd (B .i64) (a6.add 3) (max bW (0:Int)) w fun a_=>ex (L X (a6.add 4) a_) fun cJ=>wm (B .i64) 1 (0:Int) cJ a_ fun bV=>ex (L X (a6.add 4) bV) fun cT=>ex (Sub cT 1 0 (0:Int) (0:Int)) fun aeq=>tE 3 (B .i64) 1 8 aeq yw bV fun hh cn=>bd X (a6.add 4) hh cn fun cA=>e () cA
theorem aiX{dd bW yw w e}(h:Wo dd bW yw w e):M Pg 71 [.pointer dd,.int .i64 bW,X.enc yw] dZ w e:=
 bq 25 Tryz.func71 rfl rfl br
def Wp(bi:aM)(bB:Addr)(b0:Addr)(w:World)(e:Unit→World→Prop):Prop:=ex (bK bi) fun a6=>ex (L aD (a6.add 2) w) fun dN=>M Pg 66 [.pointer (dN)] bk w fun bX b2=>if bX=true then (ex (L aD (a6.add 2) b2) fun cT=>M Pg 73 [.pointer (cT)] dZ b2 fun a2 b3=>ex (L aD bB b3) fun cK=>M Pg 42 [.pointer (cK),.pointer (bi)] (B .i64) b3 fun eo cA=>bd (B .i64) b0 eo cA fun db=>e () db) else (e () b2)
theorem aiY{bi bB b0 w e}(h:Wp bi bB b0 w e):M Pg 72 [.pointer bi,.pointer (some bB),.pointer (some b0)] dZ w e:=
 bq 17 Tryz.func72 rfl rfl br
def Wq(dd:aM)(w:World)(e:Unit→World→Prop):Prop:=ex (bK dd) fun aY=>bd bk (aY.add 2) false w fun bm=>e () bm
theorem aiZ{dd w e}(h:Wq dd w e):M Pg 73 [.pointer dd] dZ w e:=
 bq 5 Tryz.func73 rfl rfl br
def Nm(zF:cm)(aA:Addr)(a3:af)(g5:Int)(cn:World)(ND:Int→World→Prop)(e:Unit→World→Prop):Prop:=if (decide (g5<(a3.len:Int)))=true then (ex (cM a3 1 g5) fun fO=>ex (L (B .i64) fO cn) fun dU=>ex (L ek (aA.add 6) cn) fun eA=>ex (iq aD .i64 eA dU cn) fun s8=>sJ Pg zF [.int .i64 (dU),.pointer ((s8.getD (none:Option Addr)))] dZ cn fun ph dQ=>ND ((IntKind.i64.wrap (g5+(1:Int)))) dQ) else (e () cn)
def Wr(bi:aM)(zF:cm)(w:World)(e:Unit→World→Prop):Prop:=ex (bK bi) fun aA=>ex (L ek (aA.add 6) w) fun de=>M Pg 125 [.map (de)] gg w fun aI a_=>M Pg 59 [(aI).enc] X a_ fun a3 bV=>e2 (fun (s:Int) w aa=>Nm zF aA a3 s w aa e) ((0:Int)) bV
theorem ai0{bi zF w e}(h:Wr bi zF w e):M Pg 74 [.pointer bi,zF.enc] dZ w e:=by
 have iU:=fun {aA} {a3:af}=>hf (bx:=Int) 2 (fun s w aa=>Nm zF aA a3 s w aa e) (fun g s=>ae (ae (ae (ae (ae g 0 (.pointer bi)) 1 (zF.enc)) 11 (X.enc a3)) 12 (.int .i64 ((a3.len:Int)))) 13 (.int .i64 s))
 exact bq 27 Tryz.func74 rfl rfl br
def Ws(fC:Int)(sd:aM)(b0:Addr)(e3:Addr)(w:World)(e:Unit→World→Prop):Prop:=ex (L aD b0 w) fun dN=>ex (L aD e3 w) fun cJ=>M Pg 76 [.pointer (dN),.pointer (cJ),.pointer (sd)] dZ w fun a3 bV=>e () bV
theorem ai1{fC sd b0 e3 w e}(h:Ws fC sd b0 e3 w e):M Pg 75 [.int .i64 fC,.pointer sd,.pointer (some b0),.pointer (some e3)] dZ w e:=
 bq 10 Tryz.func75 rfl rfl br
def FI(aN:aM)(bW:aM)(j0:Int)(gw:Addr)(i_:Addr)(e4:World)(mQ:Int→World→Prop)(e:Unit→World→Prop):Prop:=dl e4 fun ep=>ex (L (B .i64) (gw.add 1) ep) fun l1=>ex (L eJ i_ ep) fun hj=>M Pg 54 [.pointer (aN),.int .i64 (l1)] (B .i64) ep fun fA e5=>bE ((L eJ i_ e5) hj)<|M Pg 77 [.pointer (bW),.int .i64 (fA),eJ.enc (hj)] dZ e5 fun sj ls=>bE ((L (B .i64) (gw.add 1) ls) l1)<|mQ ((IntKind.i64.wrap (j0+(1:Int)))) ls
def Nn(aN:aM)(bW:aM)(jg:aM)(bj:(Int×Int))(bX:af)(j0:Int)(b3:World)(mQ:Int→World→Prop)(e:Unit→World→Prop):Prop:=if (decide (j0<(bX.len:Int)))=true then (ex (cM bX 1 j0) fun fG=>ex (L bk fG b3) fun e7=>M Pg 127 [.pointer (jg),.bool (e7)] g0 b3 fun dm cu=>bO 60 g0 zy cu fun gw dQ=>bd g0 gw dm dQ fun c2=>ex (L g0 gw c2) fun cW=>bO 62 eJ uL c2 fun i_ eE=>bd eJ i_ (⟨(1:Int),cW,false,(0:Int)⟩:ir) eE fun ew=>if (bj.1 != (0:Int))=true then (ex (L (B .i64) (gw.add 0) ew) fun k6=>bd eJ i_ (⟨(3:Int),(⟨k6,(0:Int),(0:Int),false⟩:iz),(bj.1==(2:Int)),bj.2⟩:ir) ew fun iy=>FI aN bW j0 gw i_ iy mQ e) else (FI aN bW j0 gw i_ ew mQ e)) else (e () b3)
def Wt(aN:aM)(bW:aM)(jg:aM)(w:World)(e:Unit→World→Prop):Prop:=M Pg 55 [.pointer (jg)] (bw (B .i64) (B .i64)) w fun bj aV=>M Pg 126 [.pointer (jg)] X aV fun bX b2=>e2 (fun (s:Int) w aa=>Nn aN bW jg bj bX s w aa e) ((0:Int)) b2
theorem ai2{aN bW jg w e}(h:Wt aN bW jg w e):M Pg 76 [.pointer aN,.pointer bW,.pointer jg] dZ w e:=by
 have ga:=en 9 (dB [0,1,2,3,5,4,6] .j)
 have iI:=fun {j0} {gw} {i_} {mQ} {bj:(Int×Int)} {bX:af}=>hy (bx:=Unit) 9 (fun s w=>FI aN bW j0 gw i_ w mQ e) (fun g s=>ae (ae (ae (ae (ae (ae (ae (ae (ae (ae g 0 (.pointer aN)) 1 (.pointer bW)) 2 (.pointer jg)) 6 (.int .i64 (bj.1))) 7 (.int .i64 (bj.2))) 10 (.pointer (some gw))) 11 (.pointer (some i_))) 18 (X.enc bX)) 19 (.int .i64 ((bX.len:Int)))) 20 (.int .i64 j0))
 have iU:=fun {bj:(Int×Int)} {bX:af}=>hf (bx:=Int) 3 (fun s w aa=>Nn aN bW jg bj bX s w aa e) (fun g s=>ae (ae (ae (ae (ae (ae (ae (ae g 0 (.pointer aN)) 1 (.pointer bW)) 2 (.pointer jg)) 6 (.int .i64 (bj.1))) 7 (.int .i64 (bj.2))) 18 (X.enc bX)) 19 (.int .i64 ((bX.len:Int)))) 20 (.int .i64 s))
 exact bq 46 Tryz.func76 rfl rfl br
def Wu(bi:aM)(LK:Int)(wT:ir)(w:World)(e:Unit→World→Prop):Prop:=bO 62 eJ wT w fun a6 a_=>dl a_ fun b2=>ex (bK bi) fun cg=>ex (L X (cg.add 8) b2) fun cT=>ex (L eJ a6 b2) fun cH=>l6 161 v8 8 64 cT [(⟨LK,cH⟩:tx)] b2 fun eo cA=>bE ((L eJ a6 cA) cH)<|bd X (cg.add 8) eo cA fun dP=>e () dP
theorem ai3{bi LK wT w e}(h:Wu bi LK wT w e):M Pg 77 [.pointer bi,.int .i64 LK,eJ.enc wT] dZ w e:=by
 have ga:=en 2 (dB [0,1,2,3,5,4,6,7,8,9,10,11,12] .j)
 exact bq 18 Tryz.func77 rfl rfl br
def Wv(m4:Int)(w:World)(e:Int→World→Prop):Prop:=e (IntKind.i64.wrap (Int.tdiv (IntKind.i64.wrap (m4+(1:Int))) (2:Int))) w
theorem ai4{m4 w e}(h:Wv m4 w e):M Pg 78 [.int .i64 m4] (B .i64) w e:=
 bq 6 Tryz.func78 rfl rfl br
def Ww(m4:Int)(L_:Bool)(b0:Int)(w:World)(e:ir→World→Prop):Prop:=bO 62 eJ uL w fun a6 a_=>bd eJ a6 (⟨(2:Int),(⟨m4,(0:Int),(0:Int),false⟩:iz),L_,b0⟩:ir) a_ fun b2=>ex (L eJ a6 b2) fun bQ=>e bQ b2
theorem ai5{m4 L_ b0 w e}(h:Ww m4 L_ b0 w e):M Pg 79 [.int .i64 m4,.bool L_,.int .i64 b0] eJ w e:=
 bq 12 Tryz.func79 rfl rfl br
def IL(a2:Int)(cu:World)(e:Int→World→Prop):Prop:=e a2 cu
def Wx(qJ:aM)(w:World)(e:Int→World→Prop):Prop:=ex (bK qJ) fun aY=>ex (L bk (aY.add 4) w) fun ea=>if ea=true then (e (81:Int) w) else (dl w fun aV=>ex (L aD (aY.add 2) aV) fun dN=>ex (L (B .i64) (aY.add 3) aV) fun cJ=>M Pg 129 [.pointer (dN),.int .i64 (cJ)] (B .i64) aV fun a3 bV=>M Pg 128 [.pointer (qJ),.int .i64 (a3)] (B .i64) bV fun a2 b3=>bE ((L aD (aY.add 2) b3) dN)<|bE ((L (B .i64) (aY.add 3) b3) cJ)<|if (a2==(0:Int))=true then (ex (L (B .i64) ((aY.add 0).add 0) b3) fun eA=>bd (B .i64) ((aY.add 0).add 1) eA b3 fun dP=>IL a2 dP e) else (IL a2 b3 e))
theorem ai7{qJ w e}(h:Wx qJ w e):M Pg 80 [.pointer qJ] (B .i64) w e:=by
 have ga:=en 4 (dB [0,1,2,3,5,6,7,4,8,9,10,11] .j)
 have iI:=fun {a2}=>hy (bx:=Unit) 7 (fun s w=>IL a2 w e) (fun g s=>ae g 3 (.int .i64 a2))
 exact bq 31 Tryz.func80 rfl rfl br
def FJ(bi:aM)(ij:Int)(xb:Int)(b1:Addr)(g5:Bool)(cn:World)(e:(Int×Int)→World→Prop):Prop:=if g5=true then (e ((0:Int),(90:Int)) cn) else (ex (bK bi) fun fG=>ex (L (B .i64) (fG.add 1) cn) fun e7=>ex (L eJ b1 cn) fun dU=>M Pg 130 [.pointer (bi),eC.enc ((⟨(IntKind.i64.wrap (e7+(1:Int))),ij,xb,dU⟩:gZ))] (B .i64) cn fun fU db=>if (fU != (0:Int))=true then (e ((0:Int),fU) db) else (bd (B .i64) (fG.add 1) (IntKind.i64.wrap (e7+(1:Int))) db fun dQ=>e ((IntKind.i64.wrap (e7+(1:Int))),(0:Int)) dQ))
def Wy(bi:aM)(ij:Int)(xb:Int)(yG:ir)(w:World)(e:(Int×Int)→World→Prop):Prop:=bO 62 eJ yG w fun b1 b2=>M Pg 124 [.pointer (bi),.int .i64 (ij)] bk b2 fun a3 bV=>if (!a3)=true then (FJ bi ij xb b1 true bV e) else (M Pg 124 [.pointer (bi),.int .i64 (xb)] bk bV fun pi eE=>FJ bi ij xb b1 (!pi) eE e)
theorem ai8{bi ij xb yG w e}(h:Wy bi ij xb yG w e):M Pg 81 [.pointer bi,.int .i64 ij,.int .i64 xb,eJ.enc yG] (bw (B .i64) (B .i64)) w e:=by
 have o9:=fun {b1}=>pQ (bx:=Bool) [5,6,7,8,9] [] (fun s w=>FJ bi ij xb b1 s w e) (fun g s=>ae (ae (ae (ae (ae g 0 (.pointer bi)) 1 (.int .i64 ij)) 2 (.int .i64 xb)) 7 (.pointer (some b1))) 21 (.bool s))
 exact bq 42 Tryz.func81 rfl rfl br
def FK(bi:aM)(b8:Int)(aA:Addr)(cg:Addr)(lY:Bool)(c2:World)(e:(gZ×Int)→World→Prop):Prop:=if lY=true then (bd eC aA (⟨(0:Int),(0:Int),(0:Int),uL⟩:gZ) c2 fun fW=>ex (L eC aA fW) fun hL=>e (hL,(93:Int)) fW) else (ex (bK bi) fun py=>ex (L X (py.add 2) c2) fun kS=>M Pg 133 [X.enc (kS),.int .i64 (b8),.int .i64 ((IntKind.i64.wrap (b8+(1:Int))))] X c2 fun m9 e4=>bd X (py.add 2) m9 e4 fun fM=>ex (L eC cg fM) fun hj=>bd eC aA hj fM fun e5=>ex (L eC aA e5) fun oO=>e (oO,(0:Int)) e5)
def Wz(bi:aM)(b8:Int)(w:World)(e:(gZ×Int)→World→Prop):Prop:=bO 64 eC lb w fun aA aV=>M Pg 131 [.pointer (bi),.int .i64 (b8)] (bw eC (B .i64)) aV fun aI a_=>bO 64 eC lb a_ fun cg bH=>bd eC cg aI.1 bH fun b3=>if (aI.2 != (0:Int))=true then (ex (L eC cg b3) fun dM=>bd eC aA dM b3 fun cN=>ex (L eC aA cN) fun e7=>e (e7,aI.2) cN) else (ex (L (B .i64) (cg.add 1) b3) fun dU=>M Pg 132 [.pointer (bi),.int .i64 (dU)] bk b3 fun fU db=>if fU=true then (FK bi b8 aA cg true db e) else (ex (L (B .i64) (cg.add 2) db) fun kg=>M Pg 132 [.pointer (bi),.int .i64 (kg)] bk db fun sk h7=>FK bi b8 aA cg sk h7 e))
theorem ai9{bi b8 w e}(h:Wz bi b8 w e):M Pg 82 [.pointer bi,.int .i64 b8] (bw eC (B .i64)) w e:=by
 have o9:=fun {aA} {cg}=>pQ (bx:=Bool) [5,6,7,8,9] [] (fun s w=>FK bi b8 aA cg s w e) (fun g s=>ae (ae (ae (ae (ae g 0 (.pointer bi)) 1 (.int .i64 b8)) 4 (.pointer (some aA))) 6 (.pointer (some cg))) 27 (.bool s))
 exact bq 41 Tryz.func82 rfl rfl br
def WA(bi:aM)(ij:Int)(jg:iz)(w:World)(e:Unit→World→Prop):Prop:=bO 60 g0 jg w fun a6 a_=>dl a_ fun b2=>ex (bK bi) fun cg=>ex (L aD (cg.add 4) b2) fun cT=>ex (L (B .i64) (a6.add 0) b2) fun cH=>M Pg 30 [.pointer (cT)] aD b2 fun hh cn=>bE ((L (B .i64) (a6.add 0) cn) cH)<|M Pg 10 [.pointer (hh),.int .i64 (cH)] (bw (B .i64) (B .i64)) cn fun dm cu=>bE ((L aD (cg.add 4) cu) cT)<|if (dm.1==(1:Int))=true then (ex (L (B .i64) (a6.add 0) cu) fun bJ=>M Pg 79 [.int .i64 (bJ),.bool (true),.int .i64 (dm.2)] eJ cu fun gy c2=>M Pg 77 [.pointer (bi),.int .i64 (ij),eJ.enc (gy)] dZ c2 fun mH ei=>e () ei) else (if (dm.1==(3:Int))=true then (ex (L (B .i64) (a6.add 0) cu) fun kS=>M Pg 79 [.int .i64 (kS),.bool (false),.int .i64 ((0:Int))] eJ cu fun m9 e4=>M Pg 77 [.pointer (bi),.int .i64 (ij),eJ.enc (m9)] dZ e4 fun gO fM=>e () fM) else (if (dm.1==(0:Int))=true then (M Pg 96 [.pointer (bi),X.enc ((⟨none,0,0⟩:af))] (bw (B .i64) (B .i64)) cu fun fA e5=>if (fA.2 != (0:Int))=true then (e () e5) else (dl e5 fun f_=>ex (L aD (cg.add 4) f_) fun oP=>ex (L (B .i64) (a6.add 0) f_) fun kg=>ex (L (B .i64) (a6.add 1) f_) fun lx=>ex (L (B .i64) (a6.add 2) f_) fun k6=>ex (L bk (a6.add 3) f_) fun mq=>M Pg 62 [.pointer (oP),fN.enc ((⟨(2:Int),fA.1,kg,lx,k6,mq⟩:jN))] (B .i64) f_ fun mh kx=>bE ((L (B .i64) (a6.add 0) kx) kg)<|bE ((L (B .i64) (a6.add 1) kx) lx)<|bE ((L (B .i64) (a6.add 2) kx) k6)<|bE ((L bk (a6.add 3) kx) mq)<|if (mh==(0:Int))=true then (ex (L (B .i64) (a6.add 0) kx) fun ni=>M Pg 79 [.int .i64 (ni),.bool (true),.int .i64 (fA.1)] eJ kx fun qu oN=>M Pg 77 [.pointer (bi),.int .i64 (ij),eJ.enc (qu)] dZ oN fun Ao kQ=>e () kQ) else (if ((decide (mh≥(150:Int)))&&(decide (mh≤(165:Int))))=true then (ex (L (B .i64) (a6.add 0) kx) fun rH=>M Pg 79 [.int .i64 (rH),.bool (false),.int .i64 ((0:Int))] eJ kx fun ul nN=>M Pg 77 [.pointer (bi),.int .i64 (ij),eJ.enc (ul)] dZ nN fun qv p2=>e () p2) else (e () kx)))) else (e () cu)))
theorem aja{bi ij jg w e}(h:WA bi ij jg w e):M Pg 83 [.pointer bi,.int .i64 ij,g0.enc jg] dZ w e:=by
 have ga:=en 2 (dB [0,1,2,5,3,6,4,7,8,9,10,11,12] .j)
 have rT:=en 11 (dB [0,1,2,4,5,7,9,11,3,6,8,10,12,13,14,15] .j)
 exact bq 84 Tryz.func83 rfl rfl br
def WB(aN:aM)(bW:aM)(JE:Int)(yG:ir)(w:World)(e:Unit→World→Prop):Prop:=bO 62 eJ yG w fun b1 b2=>dl b2 fun bV=>ex (bK bW) fun cP=>ex (L ek (cP.add 6) bV) fun cH=>ex (L (B .i64) ((b1.add 1).add 0) bV) fun dM=>M Pg 78 [.int .i64 (dM)] (B .i64) bV fun bo cN=>bE ((L ek (cP.add 6) cN) cH)<|ex (iq aD .i64 cH bo cN) fun qj=>if (!(((qj.getD (none:Option Addr),qj.isSome)).2))=true then (e () cN) else (M Pg 55 [.pointer (((qj.getD (none:Option Addr),qj.isSome)).1)] (bw (B .i64) (B .i64)) cN fun mg dP=>if (mg.1 != (0:Int))=true then (ex (L (B .i64) ((b1.add 1).add 0) dP) fun jM=>M Pg 77 [.pointer (bW),.int .i64 (JE),eJ.enc ((⟨(3:Int),(⟨jM,(0:Int),(0:Int),false⟩:iz),(mg.1==(2:Int)),mg.2⟩:ir))] dZ dP fun w3 fW=>e () fW) else (ex (L (B .i64) ((b1.add 1).add 0) dP) fun gh=>ex (L bk (b1.add 5) dP) fun kS=>ex (L (B .i64) (b1.add 6) dP) fun gI=>M Pg 134 [.pointer (((qj.getD (none:Option Addr),qj.isSome)).1),.bool (((Int.tmod gh (2:Int))==(1:Int))),.bool (kS),.int .i64 (gI)] (B .i64) dP fun w4 ep=>if (w4 != (0:Int))=true then (e () ep) else (M Pg 55 [.pointer (((qj.getD (none:Option Addr),qj.isSome)).1)] (bw (B .i64) (B .i64)) ep fun yY ix=>if (yY.1==(3:Int))=true then (M Pg 106 [.pointer (aN),.pointer (bW),.pointer (((qj.getD (none:Option Addr),qj.isSome)).1),.int .i64 ((3:Int)),.int .i64 ((0:Int))] (B .i64) ix fun dV fZ=>e () fZ) else (M Pg 135 [.pointer (((qj.getD (none:Option Addr),qj.isSome)).1)] (bw (B .i64) bk) ix fun sj ls=>if sj.2=true then (ta 2 (B .i64) [sj.1] ls fun Bb gT=>M Pg 96 [.pointer (bW),X.enc ((⟨some Bb,1,1⟩:af))] (bw (B .i64) (B .i64)) gT fun Am iy=>if (Am.2==(0:Int))=true then (M Pg 106 [.pointer (aN),.pointer (bW),.pointer (((qj.getD (none:Option Addr),qj.isSome)).1),.int .i64 ((2:Int)),.int .i64 (Am.1)] (B .i64) iy fun qs jj=>e () jj) else (e () iy)) else (e () ls)))))
theorem ajb{aN bW JE yG w e}(h:WB aN bW JE yG w e):M Pg 84 [.pointer aN,.pointer bW,.int .i64 JE,eJ.enc yG] dZ w e:=by
 have ga:=en 2 (dB [0,1,2,4,5,3,6,7,8,9,10,11,12,13] .j)
 exact bq 93 Tryz.func84 rfl rfl br
end bf
end Go.Proofs.YthaobmpdjcoheaaGreat
