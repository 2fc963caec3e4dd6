/- Own texts of this claim, part 10: short, merged. -/
import Derived.Test.YthaobmpdjcoheaaGreatZ1
set_option maxRecDepth 100000
set_option maxHeartbeats 40000000
set_option linter.defProp false
set_option linter.unusedVariables false
set_option linter.unusedSimpArgs false
namespace Go.Proofs.YthaobmpdjcoheaaGreat
namespace bj
def NK(ec:af)(pj:Int)(Cf:Int)(kP:World)(Jc:Int→World→Prop)(Xh:Int→World→Prop)(j:Bool→World→Prop):Prop:=if (decide (Cf<pj))=true then (dw kP fun ou=>ex (cT ec 3 Cf) fun wA=>ex (cT ec 3 pj) fun zQ=>ex (L (B .i64) (wA.add 0) ou) fun qc=>ex (L (B .i64) (zQ.add 0) ou) fun qd=>if (qc==qd)=true then (j false ou) else (Xh ((IntKind.i64.wrap (Cf+(1:Int)))) ou)) else (Jc ((IntKind.i64.wrap (pj+(1:Int)))) kP)
def NJ(a7:(aN×Int×Bool))(ec:af)(pj:Int)(g6:World)(Jc:Int→World→Prop)(j:Bool→World→Prop):Prop:=if (decide (pj<(ec.len:Int)))=true then (ex (cT ec 3 pj) fun Jl=>ex (L (B .i64) (Jl.add 0) g6) fun mj=>M Pg 16 [.pointer (a7.1),.int .i64 (mj)] (bB (B .i64) (B .i64)) g6 fun eo lO=>ex (cT ec 3 pj) fun xQ=>ex (L (B .i64) (xQ.add 1) lO) fun iC=>ex (fun x=>(!(eo.1 != iC))=true→(cT ec 3 pj) x) fun uV=>ex (fun x=>(!(eo.1 != iC))=true→(L (B .i64) (uV.add 2) lO) x) fun kx=>if (((eo.1 != iC)||(eo.2 != kx))||((eo.1 != (2:Int))&&(eo.1 != (3:Int))))=true then (j false lO) else (fh (fun (s:Int) w ab=>NK ec pj s w Jc ab j) ((0:Int)) lO)) else (j true g6)
def FT(a7:(aN×Int×Bool))(ec:af)(qO:Bool)(gV:World)(j:Bool→World→Prop):Prop:=if qO=true then (j false gV) else (fh (fun (s:Int) w ab=>NJ a7 ec s w ab j) ((0:Int)) gV)
def NI(se:af)(a9:Addr)(a7:(aN×Int×Bool))(dt:af)(h_:Int)(dV:World)(tE:Int→World→Prop)(j:Bool→World→Prop):Prop:=if ((decide (h_<(se.len:Int)))&&(decide (h_<(60:Int))))=true then (ex (cT se 10 h_) fun rV=>ex (L h1 rV dV) fun hY=>M Pg 13 [h1.enc (hY)] h1 dV fun pt eJ=>M Pg 14 [.pointer (a7.1),h1.enc (pt)] (B .i64) eJ fun mS fa=>tE ((IntKind.i64.wrap (h_+(1:Int)))) fa) else (ex (L (B .i64) (a9.add 0) dV) fun mi=>M Pg 11 [.pointer (a7.1),.int .i64 (mi)] bo dV fun zc iK=>if (!zc)=true then (j false iK) else (M Pg 15 [.pointer (a7.1)] X iK fun ec gp=>if (decide ((ec.len:Int)<(dt.len:Int)))=true then (FT a7 ec true gp j) else (ex (Sub ec 3 0 (dt.len:Int) ((ec).cap:Int)) fun L1=>M Pg 17 [X.enc (dt),X.enc (L1)] bo gp fun Ib af3=>FT a7 ec (!Ib) af3 j)))
def NH(li:kU)(c2:af)(se:af)(w:World)(j:Bool→World→Prop):Prop:=bQ 24 hr li w fun a9 bc=>ex (L hr a9 bc) fun b_=>M Pg 7 [hr.enc (b_),X.enc (c2)] (mz aE (B .i64) bo) bc fun a7 bZ=>M Pg 8 [] bo bZ fun a6 b6=>if ((!a6)||a7.1.isNone)=true then (M Pg 8 [] bo b6 fun bs cV=>j bs cV) else (M Pg 15 [.pointer (a7.1)] X b6 fun dt cA=>fh (fun (s:Int) w ab=>NI se a9 a7 dt s w ab j) ((0:Int)) cA)
theorem aja{li:kU}{c2:af}{se:af}{w:World}{j:Bool→World→Prop}(h:NH li c2 se w j):M Pg 5 [hr.enc (li),X.enc (c2),X.enc (se)] bo w j:=by
 unfold NH at h
 refine oH 127 Tryz.func5 rfl rfl (Nat.le_of_ble_eq_true rfl)<|wp_seq<|a4 _ rfl ?_
 obtain⟨a9,bc,GV,Hm,h⟩:=oQ h
 refine aP 3 rfl rfl rfl (sq (u:=li) rfl vD rfl GV Hm)<|o rfl<|aU<|wp_seq<|a4 _ rfl<|gQ vD h rfl rfl fun b_ _ h=>o rfl<|ew JS rfl rfl h fun a7 bZ h=>o rfl<|fb _ _ rfl rfl rfl<|fb _ _ rfl rfl rfl<|fb _ _ rfl rfl rfl ?_
 refine o rfl<|o rfl<|o rfl<|aU<|wp_seq<|wp_seq<|a4 _ rfl<|ew D0 rfl rfl h fun a6 b6 h=>aP _ rfl rfl rfl (nj rfl rfl)<|o rfl<|bn (g:=(!(!a6))) (d:=(some 27)) rfl (.no 2 26 true (!a6) rfl rfl rfl rfl) rfl (fun O=>cs (v:=.pointer (a7.1)) rfl rfl)<|bn (g:=(!(!a6))) (d:=(some 28)) rfl (.no 2 26 true (!a6) rfl rfl rfl rfl) rfl (fun O=>p3 (a:=a7.1) rfl Tryz.underlying26 (cc O) rfl) ?_
 refine aP 29 rfl rfl rfl (i_ (a:=(!a6)) (c:=a7.1.isNone) rfl rfl rfl rfl)<|aU<|eb h rfl (fun _ h=>?_) fun _ h=>?_
 ·refine wp_seq<|a4 _ rfl<|ew D0 rfl rfl h fun bs cV h=>o rfl<|aU<|wp_ret ?_
  exact iN h rfl rfl
 ·refine wp_skip<|wp_seq<|a4 _ rfl<|o rfl<|ew DY rfl rfl h fun dt cA h=>o rfl<|aU<|wp_seq<|wp_seq<|a4 _ rfl<|o rfl<|aU ?_
  refine wp_block<|rE (bC:=Int) (dp:=fun g (s:Int)=>ae (ae (ae (ae (ae (g) 2 (X.enc (se))) 3 (.pointer (some a9))) 7 (.pointer (a7.1))) 10 (X.enc (dt))) 11 (.int .i64 (s))) (lI:=((0:Int))) (aC (aC (aC (aC (aC rfl rfl) rfl) rfl) rfl) rfl) h ?_
  rintro h_ g dV tE h
  unfold NI at h
  refine wp_seq<|wp_seq<|a4 _ rfl<|o rfl<|o rfl<|aP _ rfl rfl rfl (jZ rfl Tryz.underlying25 rfl)<|aP _ rfl rfl rfl (jw rfl rfl rfl)<|o rfl<|bn (g:=(decide (h_<(se.len:Int)))) (d:=(some 38)) rfl (.b7 4 37 true (decide (h_<(se.len:Int))) rfl rfl rfl rfl) rfl (fun O=>cs (v:=.int .i64 (h_)) rfl rfl)<|bn (g:=(decide (h_<(se.len:Int)))) (d:=(some 39)) rfl (.b7 4 37 true (decide (h_<(se.len:Int))) rfl rfl rfl rfl) rfl (fun O=>jw (k:=.i64) (a:=h_) (e:=(60:Int)) rfl (cc O) rfl)<|aP 40 rfl rfl rfl (lH (a:=(decide (h_<(se.len:Int)))) (e:=(decide (h_<(60:Int)))) rfl rfl rfl rfl)<|aU ?_
  refine eb h rfl (fun _ h=>?_) fun _ h=>?_
  ·refine wp_skip<|wp_seq<|wp_block<|a4 _ rfl<|o rfl<|o rfl<|o rfl ?_
   obtain⟨rV,ao8,h⟩:=h
   refine aP 46 rfl rfl rfl (kd (s:=se) (k:=.i64) (i:=h_) rfl Tryz.underlying25 y1 rfl rfl ao8)<|gQ y1 h rfl rfl fun hY _ h=>ew YU rfl rfl h fun pt eJ h=>ew YV rfl rfl h fun mS fa h=>aU<|a4 _ rfl<|o rfl<|aP _ rfl rfl rfl (ni rfl rfl rfl)<|o rfl<|aU ?_
   exact⟨((IntKind.i64.wrap (h_+(1:Int)))),_,aX (aC (aC (aC (aC (aC rfl rfl) rfl) rfl) rfl) rfl),h⟩
  ·refine wp_exit<|wp_seq<|wp_seq<|a4 _ rfl<|o rfl<|gk _ _ _ Tryz.underlying24 cU rfl rfl rfl<|gQ cU h rfl rfl fun mi _ h=>ew YS rfl rfl h fun zc iK h=>aP _ rfl rfl rfl (nj rfl rfl)<|aU<|eb h rfl (fun _ h=>?_) fun _ h=>?_
   ·refine wp_seq<|a4 _ rfl<|o rfl<|aU<|wp_ret ?_
    exact iN h rfl rfl
   ·refine wp_skip<|wp_seq<|a4 _ rfl<|o rfl<|ew DY rfl rfl h fun ec gp h=>o rfl<|aU<|wp_seq<|wp_seq<|a4 _ rfl<|o rfl<|aP _ rfl rfl rfl (jZ rfl Tryz.underlying50 rfl) ?_
    refine o rfl<|aP _ rfl rfl rfl (jZ rfl Tryz.underlying50 rfl)<|aP _ rfl rfl rfl (jw rfl rfl rfl)<|o rfl<|mT (bC:=Bool) (eM:=fun (s:Bool) w=>FT a7 ec s w j) (dp:=fun g (s:Bool)=>ae (ae (ae (g) 7 (.pointer (a7.1))) 12 (X.enc (ec))) 70 (.bool (s))) [6,7,8,9,10,11,12,13] [] ?_ ?_
    ·rintro qO g gV h
     unfold FT at h
     refine aU<|eb h rfl (fun _ h=>?_) fun _ h=>?_
     ·refine wp_seq<|a4 _ rfl<|o rfl<|aU<|wp_ret ?_
      exact iN h rfl rfl
     ·refine wp_skip<|wp_seq<|wp_seq<|a4 _ rfl<|o rfl<|aU<|wp_block<|rE (bC:=Int) (dp:=fun g (s:Int)=>ae (ae (ae (g) 7 (.pointer (a7.1))) 12 (X.enc (ec))) 13 (.int .i64 (s))) (lI:=((0:Int))) (aC (aC (aC rfl rfl) rfl) rfl) h ?_
      rintro pj g g6 Jc h
      unfold NJ at h
      refine wp_seq<|wp_seq<|a4 _ rfl<|o rfl<|o rfl<|aP _ rfl rfl rfl (jZ rfl Tryz.underlying50 rfl)<|aP _ rfl rfl rfl (jw rfl rfl rfl)<|aU<|eb h rfl (fun _ h=>?_) fun _ h=>?_
      ·refine wp_skip<|wp_seq<|wp_block<|wp_seq<|a4 _ rfl<|o rfl<|o rfl<|o rfl ?_
       obtain⟨Jl,apc,h⟩:=h
       refine aP 81 rfl rfl rfl (kd (s:=ec) (k:=.i64) (i:=pj) rfl Tryz.underlying50 y2 rfl rfl apc)<|gk _ _ _ Tryz.underlying53 cU rfl rfl rfl<|gQ cU h rfl rfl fun mj _ h=>ew JP rfl rfl h fun eo lO h=>o rfl<|fb _ _ rfl rfl rfl<|fb _ _ rfl rfl rfl<|o rfl<|o rfl<|aU<|wp_seq<|wp_seq ?_
       refine a4 _ rfl<|o rfl<|o rfl<|o rfl ?_
       obtain⟨xQ,GU,h⟩:=h
       refine aP 90 rfl rfl rfl (kd (s:=ec) (k:=.i64) (i:=pj) rfl Tryz.underlying50 y2 rfl rfl GU)<|gk _ _ _ Tryz.underlying53 sj rfl rfl rfl<|gQ sj h rfl rfl fun iC _ h=>aP _ rfl rfl rfl (g1 rfl rfl rfl)<|o rfl<|bn (g:=(!(eo.1 != iC))) (d:=(some 95)) rfl (.no 7 94 true (eo.1 != iC) rfl rfl rfl rfl) rfl (fun O=>cs (v:=.int .i64 (eo.2)) rfl rfl)<|bn (g:=(!(eo.1 != iC))) (d:=(some 96)) rfl (.no 7 94 true (eo.1 != iC) rfl rfl rfl rfl) rfl (fun O=>cs (v:=X.enc (ec)) rfl rfl)<|bn (g:=(!(eo.1 != iC))) (d:=(some 97)) rfl (.no 7 94 true (eo.1 != iC) rfl rfl rfl rfl) rfl (fun O=>cs (v:=.int .i64 (pj)) rfl rfl) ?_
       obtain⟨uV,PD,h⟩:=h
       refine bn (g:=(!(eo.1 != iC))) (d:=(some 98)) rfl (.no 7 94 true (eo.1 != iC) rfl rfl rfl rfl) rfl (fun O=>kd (s:=ec) (k:=.i64) (i:=pj) rfl Tryz.underlying50 y2 (cc O) (cc O) (PD O))<|bn (g:=(!(eo.1 != iC))) (d:=(some 99)) rfl (.no 7 94 true (eo.1 != iC) rfl rfl rfl rfl) rfl (fun O=>iI (a:=uV) (off:=2) rfl Tryz.underlying53 rfl rfl cS (by decide) (cc O)) ?_
       obtain⟨kx,QF,h⟩:=h
       refine bn (g:=(!(eo.1 != iC))) (d:=(some 100)) rfl (.no 7 94 true (eo.1 != iC) rfl rfl rfl rfl) rfl (fun O=>hM (T:=(B .i64)) (u:=kx) (a:=(uV.add 2)) rfl cS (cc O) (QF O))<|bn (g:=(!(eo.1 != iC))) (d:=(some 101)) rfl (.no 7 94 true (eo.1 != iC) rfl rfl rfl rfl) rfl (fun O=>g1 (k:=.i64) (a:=eo.2) (e:=kx) rfl (cc O) (cc O))<|aP 102 rfl rfl rfl (i_ (a:=(eo.1 != iC)) (c:=(eo.2 != kx)) rfl rfl rfl rfl)<|o rfl<|bn (g:=(!((eo.1 != iC)||(eo.2 != kx)))) (d:=(some 104)) rfl (.no 16 103 true ((eo.1 != iC)||(eo.2 != kx)) rfl rfl rfl rfl) rfl (fun O=>cs (v:=.int .i64 (eo.1)) rfl rfl)<|bn (g:=(!((eo.1 != iC)||(eo.2 != kx)))) (d:=(some 105)) rfl (.no 16 103 true ((eo.1 != iC)||(eo.2 != kx)) rfl rfl rfl rfl) rfl (fun O=>g1 (k:=.i64) (a:=eo.1) (e:=(2:Int)) rfl (cc O) rfl)<|bn (g:=(!((eo.1 != iC)||(eo.2 != kx)))) (d:=(some 106)) rfl (.no 16 103 true ((eo.1 != iC)||(eo.2 != kx)) rfl rfl rfl rfl) rfl (fun O=>cs (v:=.bool ((eo.1 != (2:Int)))) rfl (cc O))<|bn (g:=((!((eo.1 != iC)||(eo.2 != kx)))&&(eo.1 != (2:Int)))) (d:=(some 107)) rfl (.b7 19 106 (!((eo.1 != iC)||(eo.2 != kx))) (eo.1 != (2:Int)) rfl rfl rfl rfl) rfl (fun O=>cs (v:=.int .i64 (eo.1)) rfl rfl)<|bn (g:=((!((eo.1 != iC)||(eo.2 != kx)))&&(eo.1 != (2:Int)))) (d:=(some 108)) rfl (.b7 19 106 (!((eo.1 != iC)||(eo.2 != kx))) (eo.1 != (2:Int)) rfl rfl rfl rfl) rfl (fun O=>g1 (k:=.i64) (a:=eo.1) (e:=(3:Int)) rfl (cc O) rfl)<|bn (g:=(!((eo.1 != iC)||(eo.2 != kx)))) (d:=(some 109)) rfl (.no 16 103 true ((eo.1 != iC)||(eo.2 != kx)) rfl rfl rfl rfl) rfl (fun O=>vL (cX:=(!((eo.1 != iC)||(eo.2 != kx)))) (a:=(eo.1 != (2:Int))) (e:=(eo.1 != (3:Int))) O rfl rfl rfl rfl)<|aP 110 rfl rfl rfl (i_ (a:=((eo.1 != iC)||(eo.2 != kx))) (c:=((eo.1 != (2:Int))&&(eo.1 != (3:Int)))) rfl rfl rfl rfl)<|aU ?_
       refine eb h rfl (fun _ h=>?_) fun _ h=>?_
       ·refine wp_seq<|a4 _ rfl<|o rfl<|aU<|wp_ret ?_
        exact iN h rfl rfl
       ·refine wp_skip<|wp_seq<|a4 _ rfl<|o rfl<|aU<|wp_block<|rE (bC:=Int) (dp:=fun g (s:Int)=>ae (ae (ae (ae (g) 7 (.pointer (a7.1))) 12 (X.enc (ec))) 13 (.int .i64 (pj))) 16 (.int .i64 (s))) (lI:=((0:Int))) (aC (aC (aC (aC rfl rfl) rfl) rfl) rfl) h ?_
        rintro Cf g kP Xh h
        unfold NK at h
        refine wp_seq<|wp_seq<|a4 _ rfl<|o rfl<|o rfl<|aP _ rfl rfl rfl (jw rfl rfl rfl)<|aU<|eb h rfl (fun _ h=>?_) fun _ h=>?_
        ·refine wp_skip<|wp_seq<|wp_block<|wp_seq ?_
         obtain⟨ou,Qw,h⟩:=n9 h
         refine o2 11 mixed rfl (by kernel_rfl) (by intro c a d v w h; cases d<;>exact h) Qw (fun ai=>?_)
         refine gj 0 116 (X.enc (ec)) ai rfl rfl<|gj 1 117 (.int .i64 (Cf)) ai rfl rfl ?_
         obtain⟨wA,PE,h⟩:=h
         refine fl 2 118 ai rfl rfl rfl (fun _=>kd (s:=ec) (k:=.i64) (i:=Cf) rfl Tryz.underlying50 y2 rfl rfl PE)<|g_ 3 119 wA 0 Tryz.underlying53 cU ai rfl rfl rfl<|gj 5 121 (X.enc (ec)) ai rfl rfl<|gj 6 122 (.int .i64 (pj)) ai rfl rfl ?_
         obtain⟨zQ,aph,h⟩:=h
         refine fl 7 123 ai rfl rfl rfl (fun _=>kd (s:=ec) (k:=.i64) (i:=pj) rfl Tryz.underlying50 y2 rfl rfl aph)<|g_ 8 124 zQ 0 Tryz.underlying53 cU ai rfl rfl rfl ?_
         obtain⟨qc,QI,h⟩:=h
         refine hy 4 120 QI cU ai rfl rfl ?_
         obtain⟨qd,Hs,h⟩:=h
         refine hy 9 125 Hs cU ai rfl rfl<|fl 10 126 ai rfl rfl rfl (fun _=>gn (a:=qc) (e:=qd) rfl rfl rfl)<|kM (by kernel_rfl)<|eb h rfl (fun _ h=>?_) fun _ h=>?_
         ·refine wp_seq<|a4 _ rfl<|o rfl<|aU<|wp_ret ?_
          exact iN h rfl rfl
         ·refine wp_skip<|a4 _ rfl<|o rfl<|aP _ rfl rfl rfl (ni rfl rfl rfl)<|o rfl<|aU ?_
          exact⟨((IntKind.i64.wrap (Cf+(1:Int)))),_,aX (aC (aC (aC (aC rfl rfl) rfl) rfl) rfl),h⟩
        ·refine wp_exit<|a4 _ rfl<|o rfl<|aP _ rfl rfl rfl (ni rfl rfl rfl)<|o rfl<|aU ?_
         exact⟨((IntKind.i64.wrap (pj+(1:Int)))),_,aX (aC (aC (aC rfl rfl) rfl) rfl),h⟩
      ·refine wp_exit<|wp_seq<|a4 _ rfl<|o rfl<|aU<|wp_ret ?_
       exact iN h rfl rfl
    ·refine iJ (e:=(decide ((ec.len:Int)<(dt.len:Int)))) h (fun kI h=>?_) (fun kI h=>?_)
     ·refine da (d:=(some 63)) rfl (.av 5 false 62 (decide ((ec.len:Int)<(dt.len:Int))) rfl rfl rfl kI) rfl<|da (d:=(some 64)) rfl (.av 5 false 62 (decide ((ec.len:Int)<(dt.len:Int))) rfl rfl rfl kI) rfl<|da (d:=(some 65)) rfl (.av 5 false 62 (decide ((ec.len:Int)<(dt.len:Int))) rfl rfl rfl kI) rfl<|da (d:=(some 66)) rfl (.av 5 false 62 (decide ((ec.len:Int)<(dt.len:Int))) rfl rfl rfl kI) rfl<|da (d:=(some 67)) rfl (.av 5 false 62 (decide ((ec.len:Int)<(dt.len:Int))) rfl rfl rfl kI) rfl<|da (d:=(some 68)) rfl (.av 5 false 62 (decide ((ec.len:Int)<(dt.len:Int))) rfl rfl rfl kI) rfl<|da (d:=(some 69)) rfl (.av 5 false 62 (decide ((ec.len:Int)<(dt.len:Int))) rfl rfl rfl kI) rfl<|aP 70 rfl rfl rfl (hD (v:=.bool (true)) (e:=(decide ((ec.len:Int)<(dt.len:Int)))) rfl rfl kI rfl)<|aU ?_
      exact⟨(true),_,aX (aC (aC (aC rfl rfl) rfl) rfl),h⟩
     ·refine eg (d:=(some 63)) rfl (.av 5 false 62 (decide ((ec.len:Int)<(dt.len:Int))) rfl rfl rfl kI) rfl (cs (v:=X.enc (dt)) rfl rfl)<|eg (d:=(some 64)) rfl (.av 5 false 62 (decide ((ec.len:Int)<(dt.len:Int))) rfl rfl rfl kI) rfl (cs (v:=X.enc (ec)) rfl rfl)<|eg (d:=(some 65)) rfl (.av 5 false 62 (decide ((ec.len:Int)<(dt.len:Int))) rfl rfl rfl kI) rfl (cs (v:=X.enc (dt)) rfl rfl)<|eg (d:=(some 66)) rfl (.av 5 false 62 (decide ((ec.len:Int)<(dt.len:Int))) rfl rfl rfl kI) rfl (jZ (s:=dt) rfl Tryz.underlying50 rfl) ?_
      obtain⟨L1,Qk,h⟩:=h
      refine eg (d:=(some 67)) rfl (.av 5 false 62 (decide ((ec.len:Int)<(dt.len:Int))) rfl rfl rfl kI) rfl (Sp (s:=ec) (h:=(dt.len:Int)) rfl Tryz.underlying50 y2 rfl rfl Qk)<|ey rfl (.av 5 false 62 (decide ((ec.len:Int)<(dt.len:Int))) rfl rfl rfl kI) (gx (d:=(some 68)) rfl (fD (k:=17) (m:=[X.enc (dt),X.enc (L1)]) rfl YZ rfl) h ?_)
      intro Ib af3 h
      refine eg (d:=(some 69)) rfl (.av 5 false 62 (decide ((ec.len:Int)<(dt.len:Int))) rfl rfl rfl kI) rfl (nj (e:=Ib) rfl rfl)<|aP 70 rfl rfl rfl (iB (v:=.bool ((!Ib))) (e:=(decide ((ec.len:Int)<(dt.len:Int)))) rfl rfl kI rfl)<|aU ?_
      exact⟨((!Ib)),_,aX (aC (aC (aC rfl rfl) rfl) rfl),h⟩
end bj
end Go.Proofs.YthaobmpdjcoheaaGreat
