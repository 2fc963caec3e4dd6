/- Own texts of this claim, part 8: short, merged. -/
import Derived.Test.YthaobmpdjcoheaaGreatZ1
set_option maxRecDepth 100000
set_option maxHeartbeats 40000000
set_option linter.defProp false
set_option linter.unusedVariables false
set_option linter.unusedSimpArgs false
namespace Go.Proofs.YthaobmpdjcoheaaGreat
namespace bj
def Uz(ds:aN)(w:World)(j:Int→World→Prop):Prop:=ex (bM ds) fun a1=>ex (L (B .i64) (a1.add 12) w) fun ej=>if (ej==(2:Int))=true then (j (176:Int) w) else (bi (B .i64) (a1.add 12) (3:Int) w fun aY=>j (0:Int) aY)
theorem ag7{ds w j}(h:Uz ds w j):M Pg 148 [.pointer ds] (B .i64) w j:=
 bu 11 Tryz.func148 rfl rfl bw
def MV(ds:aN)(bt:Int)(w:World)(j:Int→World→Prop):Prop:=M Pg 179 [.int .i64 (bt)] bo w fun bq bl=>if (!bq)=true then (j (174:Int) bl) else (ex (bM ds) fun b1=>ex (L (B .i64) (b1.add 12) bl) fun b_=>ex (fun x=>(!(b_==(3:Int)))=true→(bM ds) x) fun cj=>ex (fun x=>(!(b_==(3:Int)))=true→(L (B .i64) (cj.add 12) bl) x) fun cH=>ex (fun x=>((!(b_==(3:Int)))&&(cH==(2:Int)))=true→(bM ds) x) fun dE=>ex (fun x=>((!(b_==(3:Int)))&&(cH==(2:Int)))=true→(L (B .i64) (dE.add 13) bl) x) fun dD=>if ((b_==(3:Int))||((cH==(2:Int))&&(dD != bt)))=true then (j (176:Int) bl) else (ex (L (B .i64) (b1.add 12) bl) fun cQ=>if (cQ==(2:Int))=true then (j (0:Int) bl) else (M Pg 180 [.pointer (ds)] bo bl fun eB cC=>if (!eB)=true then (j (177:Int) cC) else (ex (oA (b1.add 4) 2 3 (0:Int)) fun hR=>ex (L (B .i64) (hR.add 2) cC) fun ep=>ex (fun x=>(!(decide (bt<ep)))=true→(bM ds) x) fun iR=>ex (fun x=>(!(decide (bt<ep)))=true→(oA (iR.add 4) 2 3 (1:Int)) x) fun kE=>ex (fun x=>(!(decide (bt<ep)))=true→(L (B .i64) (kE.add 2) cC) x) fun cY=>if ((decide (bt<ep))||(decide (bt<cY)))=true then (j (178:Int) cC) else (bi (B .i64) (b1.add 12) (2:Int) cC fun ev=>bi (B .i64) (b1.add 13) bt ev fun eJ=>j (0:Int) eJ)))))
theorem ag8{ds:aN}{bt:Int}{w:World}{j:Int→World→Prop}(h:MV ds bt w j):M Pg 149 [.pointer (ds),.int .i64 (bt)] (B .i64) w j:=by
 unfold MV at h
 refine oH 66 Tryz.func149 rfl rfl (Nat.le_of_ble_eq_true rfl)<|wp_seq<|a4 _ rfl<|o rfl<|aU<|wp_seq<|wp_block<|wp_seq<|a4 _ rfl<|o rfl<|ew anh rfl rfl h fun bq bl h=>aP _ rfl rfl rfl (nj rfl rfl) ?_
 refine o rfl<|aU<|eb h rfl (fun _ h=>?_) fun _ h=>?_
 ·refine wp_seq<|a4 _ rfl<|o rfl<|aU<|wp_ret ?_
  exact iN h rfl rfl
 ·refine wp_seq<|a4 _ rfl<|o rfl<|JM h rfl rfl fun b1 ub h=>gk _ _ _ Tryz.underlying214 sj rfl rfl rfl<|gQ sj h rfl rfl fun b_ _ h=>aP _ rfl rfl rfl (gn rfl rfl rfl)<|o rfl<|bn (g:=(!(b_==(3:Int)))) (d:=(some 16)) rfl (.no 5 15 true (b_==(3:Int)) rfl rfl rfl rfl) rfl (fun O=>cs (v:=.pointer (ds)) rfl rfl) ?_
  obtain⟨cj,Kb,h⟩:=h
  refine bn (g:=(!(b_==(3:Int)))) (d:=(some 17)) rfl (.no 5 15 true (b_==(3:Int)) rfl rfl rfl rfl) rfl (fun O=>lo (a:=cj) rfl ((cc O).trans (congrArg Value.pointer (Kb O))))<|bn (g:=(!(b_==(3:Int)))) (d:=(some 18)) rfl (.no 5 15 true (b_==(3:Int)) rfl rfl rfl rfl) rfl (fun O=>iI (a:=cj) (off:=12) rfl Tryz.underlying214 rfl rfl sj (by decide) (cc O)) ?_
  obtain⟨cH,Ht,h⟩:=h
  refine bn (g:=(!(b_==(3:Int)))) (d:=(some 19)) rfl (.no 5 15 true (b_==(3:Int)) rfl rfl rfl rfl) rfl (fun O=>hM (T:=(B .i64)) (u:=cH) (a:=(cj.add 12)) rfl sj (cc O) (Ht O))<|bn (g:=(!(b_==(3:Int)))) (d:=(some 20)) rfl (.no 5 15 true (b_==(3:Int)) rfl rfl rfl rfl) rfl (fun O=>gn (k:=.i64) (a:=cH) (e:=(2:Int)) rfl (cc O) rfl)<|bn (g:=(!(b_==(3:Int)))) (d:=(some 21)) rfl (.no 5 15 true (b_==(3:Int)) rfl rfl rfl rfl) rfl (fun O=>cs (v:=.bool ((cH==(2:Int)))) rfl (cc O))<|bn (g:=((!(b_==(3:Int)))&&(cH==(2:Int)))) (d:=(some 22)) rfl (.b7 11 21 (!(b_==(3:Int))) (cH==(2:Int)) rfl rfl rfl rfl) rfl (fun O=>cs (v:=.pointer (ds)) rfl rfl) ?_
  obtain⟨dE,rk,h⟩:=h
  refine bn (g:=((!(b_==(3:Int)))&&(cH==(2:Int)))) (d:=(some 23)) rfl (.b7 11 21 (!(b_==(3:Int))) (cH==(2:Int)) rfl rfl rfl rfl) rfl (fun O=>lo (a:=dE) rfl ((cc O).trans (congrArg Value.pointer (rk O))))<|bn (g:=((!(b_==(3:Int)))&&(cH==(2:Int)))) (d:=(some 24)) rfl (.b7 11 21 (!(b_==(3:Int))) (cH==(2:Int)) rfl rfl rfl rfl) rfl (fun O=>iI (a:=dE) (off:=13) rfl Tryz.underlying214 rfl rfl cS (by decide) (cc O)) ?_
  obtain⟨dD,B6,h⟩:=h
  refine bn (g:=((!(b_==(3:Int)))&&(cH==(2:Int)))) (d:=(some 25)) rfl (.b7 11 21 (!(b_==(3:Int))) (cH==(2:Int)) rfl rfl rfl rfl) rfl (fun O=>hM (T:=(B .i64)) (u:=dD) (a:=(dE.add 13)) rfl cS (cc O) (B6 O))<|bn (g:=((!(b_==(3:Int)))&&(cH==(2:Int)))) (d:=(some 26)) rfl (.b7 11 21 (!(b_==(3:Int))) (cH==(2:Int)) rfl rfl rfl rfl) rfl (fun O=>cs (v:=.int .i64 (bt)) rfl rfl)<|bn (g:=((!(b_==(3:Int)))&&(cH==(2:Int)))) (d:=(some 27)) rfl (.b7 11 21 (!(b_==(3:Int))) (cH==(2:Int)) rfl rfl rfl rfl) rfl (fun O=>g1 (k:=.i64) (a:=dD) (e:=bt) rfl (cc O) (cc O))<|bn (g:=(!(b_==(3:Int)))) (d:=(some 28)) rfl (.no 5 15 true (b_==(3:Int)) rfl rfl rfl rfl) rfl (fun O=>vL (cX:=(!(b_==(3:Int)))) (a:=(cH==(2:Int))) (e:=(dD != bt)) O rfl rfl rfl rfl)<|aP 29 rfl rfl rfl (i_ (a:=(b_==(3:Int))) (c:=((cH==(2:Int))&&(dD != bt))) rfl rfl rfl rfl)<|o rfl<|aU<|eb h rfl (fun _ h=>?_) fun _ h=>?_
  ·refine wp_seq<|a4 _ rfl<|o rfl<|aU<|wp_ret ?_
   exact iN h rfl rfl
  ·refine wp_seq<|a4 _ rfl<|o rfl<|zx _ ub rfl rfl<|gk _ _ _ Tryz.underlying214 sj rfl rfl rfl<|gQ sj h rfl rfl fun cQ _ h=>aP _ rfl rfl rfl (gn rfl rfl rfl)<|o rfl<|aU<|eb h rfl (fun _ h=>?_) fun _ h=>?_
   ·refine wp_seq<|a4 _ rfl<|o rfl<|aU<|wp_ret ?_
    exact iN h rfl rfl
   ·refine wp_seq<|a4 _ rfl<|o rfl<|ew ani rfl rfl h fun eB cC h=>aP _ rfl rfl rfl (nj rfl rfl)<|o rfl<|aU<|eb h rfl (fun _ h=>?_) fun _ h=>?_
    ·refine wp_seq<|a4 _ rfl<|o rfl<|aU<|wp_ret ?_
     exact iN h rfl rfl
    ·refine wp_seq<|a4 _ rfl<|o rfl<|o rfl<|zx _ ub rfl rfl<|gk _ _ _ Tryz.underlying214 HW rfl rfl rfl ?_
     obtain⟨hR,ao7,h⟩:=h
     refine aP 45 rfl rfl rfl (Lz (e:=(b1.add 4)) (k:=.i64) (i:=(0:Int)) rfl Tryz.underlying211 EL rfl rfl ao7)<|gk _ _ _ Tryz.underlying210 cS rfl rfl rfl<|gQ cS h rfl rfl fun ep _ h=>aP _ rfl rfl rfl (jw rfl rfl rfl)<|o rfl<|bn (g:=(!(decide (bt<ep)))) (d:=(some 50)) rfl (.no 8 49 true (decide (bt<ep)) rfl rfl rfl rfl) rfl (fun O=>cs (v:=.int .i64 (bt)) rfl rfl)<|bn (g:=(!(decide (bt<ep)))) (d:=(some 51)) rfl (.no 8 49 true (decide (bt<ep)) rfl rfl rfl rfl) rfl (fun O=>cs (v:=.pointer (ds)) rfl rfl) ?_
     obtain⟨iR,Pz,h⟩:=h
     refine bn (g:=(!(decide (bt<ep)))) (d:=(some 52)) rfl (.no 8 49 true (decide (bt<ep)) rfl rfl rfl rfl) rfl (fun O=>lo (a:=iR) rfl ((cc O).trans (congrArg Value.pointer (Pz O))))<|bn (g:=(!(decide (bt<ep)))) (d:=(some 53)) rfl (.no 8 49 true (decide (bt<ep)) rfl rfl rfl rfl) rfl (fun O=>iI (a:=iR) (off:=4) rfl Tryz.underlying214 rfl rfl HW (by decide) (cc O)) ?_
     obtain⟨kE,z2,h⟩:=h
     refine bn (g:=(!(decide (bt<ep)))) (d:=(some 54)) rfl (.no 8 49 true (decide (bt<ep)) rfl rfl rfl rfl) rfl (fun O=>Lz (e:=(iR.add 4)) (k:=.i64) (i:=(1:Int)) rfl Tryz.underlying211 EL (cc O) rfl (z2 O))<|bn (g:=(!(decide (bt<ep)))) (d:=(some 55)) rfl (.no 8 49 true (decide (bt<ep)) rfl rfl rfl rfl) rfl (fun O=>iI (a:=kE) (off:=2) rfl Tryz.underlying210 rfl rfl cS (by decide) (cc O)) ?_
     obtain⟨cY,Ho,h⟩:=h
     refine bn (g:=(!(decide (bt<ep)))) (d:=(some 56)) rfl (.no 8 49 true (decide (bt<ep)) rfl rfl rfl rfl) rfl (fun O=>hM (T:=(B .i64)) (u:=cY) (a:=(kE.add 2)) rfl cS (cc O) (Ho O))<|bn (g:=(!(decide (bt<ep)))) (d:=(some 57)) rfl (.no 8 49 true (decide (bt<ep)) rfl rfl rfl rfl) rfl (fun O=>jw (k:=.i64) (a:=bt) (e:=cY) rfl (cc O) (cc O))<|aP 58 rfl rfl rfl (i_ (a:=(decide (bt<ep))) (c:=(decide (bt<cY))) rfl rfl rfl rfl)<|o rfl<|aU<|eb h rfl (fun _ h=>?_) fun _ h=>?_
     ·refine wp_seq<|a4 _ rfl<|o rfl<|aU<|wp_ret ?_
      exact iN h rfl rfl
     ·refine wp_skip<|wp_seq<|a4 _ rfl<|o rfl<|o rfl<|o rfl<|zx _ ub rfl rfl<|gk _ _ _ Tryz.underlying214 sj rfl rfl rfl<|jp sj h rfl rfl rfl fun ev h=>zx _ ub rfl rfl<|gk _ _ _ Tryz.underlying214 cS rfl rfl rfl<|jp cS h rfl rfl rfl fun eJ h=>?_
      refine aU<|wp_seq<|a4 _ rfl<|o rfl<|aU<|wp_ret ?_
      exact iN h rfl rfl
def UB(e7:Nat)(w:World)(j:(Nat×Int)→World→Prop):Prop:=M Pg 191 [.float .f64 (e7)] (bB g4 (B .i64)) w fun gv cG=>j (gv.1,gv.2) cG
theorem aha{e7 w j}(h:UB e7 w j):M Pg 150 [.float .f64 e7] (bB g4 (B .i64)) w j:=
 bu 12 Tryz.func150 rfl rfl bw
def UC(oK:Nat)(pe:Int)(w:World)(j:Nat→World→Prop):Prop:=M Pg 193 [.float .f64 (oK),.int .i64 (pe)] g4 w fun bq bl=>j bq bl
theorem ahb{oK pe w j}(h:UC oK pe w j):M Pg 151 [.float .f64 oK,.int .i64 pe] g4 w j:=
 bu 11 Tryz.func151 rfl rfl bw
def UD(iq:Int)(A1:Int)(w:World)(j:(Int×Int)→World→Prop):Prop:=ex (jd (32:Int) (Int.fdiv iq (2^(min ((32:Int)).toNat IntKind.u64.bits)))) fun d3=>ex (jd (32:Int) (Int.fdiv A1 (2^(min ((32:Int)).toNat IntKind.u64.bits)))) fun d4=>ex (jd (32:Int) (Int.fdiv (IntKind.u64.wrap ((bits .and .u64 iq (4294967295:Int))*(bits .and .u64 A1 (4294967295:Int)))) (2^(min ((32:Int)).toNat IntKind.u64.bits)))) fun d5=>ex (jd (32:Int) (Int.fdiv (IntKind.u64.wrap ((IntKind.u64.wrap (d3*(bits .and .u64 A1 (4294967295:Int))))+d5)) (2^(min ((32:Int)).toNat IntKind.u64.bits)))) fun d6=>ex (jd (32:Int) (Int.fdiv (IntKind.u64.wrap ((bits .and .u64 (IntKind.u64.wrap ((IntKind.u64.wrap (d3*(bits .and .u64 A1 (4294967295:Int))))+d5)) (4294967295:Int))+(IntKind.u64.wrap ((bits .and .u64 iq (4294967295:Int))*d4)))) (2^(min ((32:Int)).toNat IntKind.u64.bits)))) fun d7=>j ((IntKind.u64.wrap ((IntKind.u64.wrap ((IntKind.u64.wrap (d3*d4))+d6))+d7)),(IntKind.u64.wrap (iq*A1))) w
theorem ahc{iq A1 w j}(h:UD iq A1 w j):M Pg 152 [.int .u64 iq,.int .u64 A1] (bB (B .u64) (B .u64)) w j:=
 bu 51 Tryz.func152 rfl rfl bw
def MX(bf:Int)(w:World)(j:Int→World→Prop):Prop:=if (decide (bf<(0:Int)))=true then (j (IntKind.u64.wrap (0-(IntKind.u64.wrap bf))) w) else (j (IntKind.u64.wrap bf) w)
theorem UE{bf w j}(h:MX bf w j):M Pg 153 [.int .i64 bf] (B .u64) w j:=
 bu 10 Tryz.func153 rfl rfl bw
def MY(HQ:Bool)(b0:Int)(w:World)(j:(Int×Int)→World→Prop):Prop:=if (HQ&&(decide (b0≤(9223372036854775808:Int))))=true then (j ((IntKind.i64.wrap (0-(IntKind.i64.wrap b0))),(0:Int)) w) else (if ((!HQ)&&(decide (b0<(9223372036854775808:Int))))=true then (j ((IntKind.i64.wrap b0),(0:Int)) w) else (j ((0:Int),(11:Int)) w))
theorem UF{HQ b0 w j}(h:MY HQ b0 w j):M Pg 155 [.bool HQ,.int .u64 b0] (bB (B .i64) (B .i64)) w j:=
 bu 24 Tryz.func155 rfl rfl bw
def MZ(z_:Int)(Ch:Int)(fT:Int)(w:World)(j:(Int×Bool×Bool)→World→Prop):Prop:=if (decide (fT≥(128:Int)))=true then (j ((0:Int),true,true) w) else (if (decide (fT>(64:Int)))=true then (ex (jd (IntKind.u64.wrap (fT-(64:Int))) (Int.fdiv z_ (2^(min ((IntKind.u64.wrap (fT-(64:Int)))).toNat IntKind.u64.bits)))) fun d4=>ex (jd (IntKind.u64.wrap ((128:Int)-fT)) (IntKind.u64.wrap (z_*2^(min ((IntKind.u64.wrap ((128:Int)-fT))).toNat IntKind.u64.bits)))) fun d5=>j (d4,((d5 != (0:Int))||(Ch != (0:Int))),true) w) else (if (fT==(64:Int))=true then (j (z_,(Ch != (0:Int)),true) w) else (ex (jd fT (Int.fdiv Ch (2^(min (fT).toNat IntKind.u64.bits)))) fun d6=>ex (jd (IntKind.u64.wrap ((64:Int)-fT)) (IntKind.u64.wrap (z_*2^(min ((IntKind.u64.wrap ((64:Int)-fT))).toNat IntKind.u64.bits)))) fun d7=>ex (jd (IntKind.u64.wrap ((64:Int)-fT)) (IntKind.u64.wrap (Ch*2^(min ((IntKind.u64.wrap ((64:Int)-fT))).toNat IntKind.u64.bits)))) fun d8=>ex (jd fT (Int.fdiv z_ (2^(min (fT).toNat IntKind.u64.bits)))) fun d9=>j ((bits .or .u64 d6 d7),(d8 != (0:Int)),(d9==(0:Int))) w)))
theorem UG{z_ Ch fT w j}(h:MZ z_ Ch fT w j):M Pg 156 [.int .u64 z_,.int .u64 Ch,.int .u64 fT] (mz (B .u64) bo bo) w j:=
 bu 51 Tryz.func156 rfl rfl bw
def M0(wB:af)(dE:Addr)(fS:Addr)(xo:Int)(gb:World)(Jb:Int→World→Prop)(j:(Int×Int)→World→Prop):Prop:=if (decide (xo<(wB.len:Int)))=true then (ex (cT wB 1 xo) fun pH=>ex (L (B .i64) pH gb) fun k8=>tU Pg (cw.mk (.func 194) (List.toArray []) (List.toArray [.pointer (some fS)])) [.int .i64 (k8)] eh gb fun mS fa=>Jb ((IntKind.i64.wrap (xo+(1:Int)))) fa) else (ex (L (B .i64) fS gb) fun mi=>if (decide (mi≥(1125899906842624:Int)))=true then (j ((0:Int),(101:Int)) gb) else (ex (L (B .i64) fS gb) fun eE=>bi (B .i64) (dE.add 0) (IntKind.i64.wrap (eE+(1:Int))) gb fun fe=>ex (L (B .i64) (dE.add 0) fe) fun iM=>j (iM,(0:Int)) fe))
def UH(bV:aN)(Lb:jB)(wB:af)(w:World)(j:(Int×Int)→World→Prop):Prop:=bQ 137 cW Lb w fun a9 bc=>ex (L cW a9 bc) fun b_=>M Pg 167 [cW.enc (b_)] (B .i64) bc fun a7 bZ=>if (a7 != (0:Int))=true then (j ((0:Int),(100:Int)) bZ) else (ex (bM bV) fun dE=>ex (L (B .i64) (dE.add 0) bZ) fun dD=>bQ 2 (B .i64) (0:Int) bZ fun fS cC=>bi (B .i64) fS dD cC fun cA=>ex (L (B .i64) (a9.add 1) cA) fun eO=>tU Pg (cw.mk (.func 194) (List.toArray []) (List.toArray [.pointer (some fS)])) [.int .i64 (eO)] eh cA fun mf dU=>fh (fun (s:Int) w ab=>M0 wB dE fS s w ab j) ((0:Int)) dU)
theorem ahd{bV Lb wB w j}(h:UH bV Lb wB w j):M Pg 157 [.pointer bV,cW.enc Lb,X.enc wB] (bB (B .i64) (B .i64)) w j:=by
 have ju:=fun {dE} {fS}=>hJ (bC:=Int) 8 (fun s w ab=>M0 wB dE fS s w ab j) (fun g s=>ae (ae (ae (ae (ae (ae g 0 (.pointer bV)) 8 (.pointer (some fS))) 9 (((cw.mk (.func 194) (List.toArray []) (List.toArray [.pointer (some fS)]))).enc)) 24 (X.enc wB)) 25 (.int .i64 ((wB.len:Int)))) 26 (.int .i64 s))
 exact bu 45 Tryz.func157 rfl rfl bw
def UI(jS:Int)(w:World)(j:Bool→World→Prop):Prop:=j ((decide (jS≥(0:Int)))&&(decide (jS<(4096:Int)))) w
theorem ahe{jS w j}(h:UI jS w j):M Pg 158 [.int .i64 jS] bo w j:=
 bu 9 Tryz.func158 rfl rfl bw
def UJ(Ap:af)(w:World)(j:(af×Int)→World→Prop):Prop:=if (decide ((Ap.len:Int)>(65536:Int)))=true then (j ((⟨none,0,0⟩:af),(30:Int)) w) else (yX 5 (B .u8) 1 (0:Int) (0:Int) (IntKind.i64.wrap ((8:Int)+(Ap.len:Int))) w fun gv cG=>M Pg 195 [X.enc (gv),.int .u32 ((IntKind.u32.wrap (Ap.len:Int)))] X cG fun bm aY=>M Pg 196 [X.enc (bm),X.enc (Ap)] (B .u32) aY fun bU b3=>M Pg 195 [X.enc (bm),.int .u32 (bU)] X b3 fun dB bJ=>tO 5 (B .u8) 1 1 dB Ap bJ fun g8 cu=>j (g8,(0:Int)) cu)
theorem ahf{Ap w j}(h:UJ Ap w j):M Pg 159 [X.enc Ap] (bB X (B .i64)) w j:=
 bu 24 Tryz.func159 rfl rfl bw
def Fz(dm:aN)(b0:Int)(a9:Addr)(aHz:Int)(bJ:World)(j:Int→World→Prop):Prop:=M Pg 177 [.pointer (dm),.int .i64 (b0),.int .i64 (aHz),((cw.mk (.func 197) (List.toArray []) (List.toArray [.pointer (some a9)]))).enc] (B .i64) bJ fun a6 b6=>j a6 b6
def UL(dm:aN)(b0:Int)(tR:af)(w:World)(j:Int→World→Prop):Prop:=bQ 189 X tR w fun a9 bc=>ex (L X a9 bc) fun b_=>M Pg 183 [.pointer (dm),.int .i64 (b0)] bo bc fun bs cV=>if bs=true then (ex (bM dm) fun e1=>ex (L X (e1.add 0) cV) fun eO=>ex (cT eO 2 b0) fun gJ=>ex (L X (gJ.add 0) cV) fun bL=>Fz dm b0 a9 (IntKind.i64.wrap ((b_.len:Int)+(bL.len:Int))) cV j) else (Fz dm b0 a9 (b_.len:Int) cV j)
theorem ahh{dm b0 tR w j}(h:UL dm b0 tR w j):M Pg 160 [.pointer dm,.int .i64 b0,X.enc tR] (B .i64) w j:=by
 have jt:=fun {a9}=>iz (bC:=Int) 5 (fun s w=>Fz dm b0 a9 s w j) (fun g s=>ae (ae (ae (ae g 0 (.pointer dm)) 1 (.int .i64 b0)) 5 (.pointer (some a9))) 7 (.int .i64 s))
 exact bu 29 Tryz.func160 rfl rfl bw
def M1(gm:af)(h4:af)(b5:Int)(aY:World)(gN:af×Int→World→Prop)(j:(af×Int)→World→Prop):Prop:=if (decide (b5<(gm.len:Int)))=true then (ex (cT gm 5 b5) fun b2=>ex (L gy b2 aY) fun bS=>bQ 197 gy tN aY fun cZ b6=>bi gy cZ bS b6 fun cu=>ex (L gy cZ cu) fun cQ=>M Pg 198 [gy.enc (cQ)] (B .i64) cu fun eB cC=>if (eB != (0:Int))=true then (j ((⟨none,0,0⟩:af),eB) cC) else (ex (L gy cZ cC) fun eO=>M Pg 199 [X.enc (h4),gy.enc (eO)] X cC fun mf dU=>gN (mf,(IntKind.i64.wrap (b5+(1:Int)))) dU)) else (j (h4,(0:Int)) aY)
def UM(gm:af)(w:World)(j:(af×Int)→World→Prop):Prop:=if (decide ((gm.len:Int)>(1000:Int)))=true then (j ((⟨none,0,0⟩:af),(20:Int)) w) else (fh (fun (s:af×Int) w ab=>M1 gm s.1 s.2 w ab j) ((⟨none,0,0⟩:af),(0:Int)) w)
theorem ahi{gm w j}(h:UM gm w j):M Pg 161 [X.enc gm] (bB X (B .i64)) w j:=by
 have ju:=hJ (bC:=af×Int) 6 (fun s w ab=>M1 gm s.1 s.2 w ab j) (fun g s=>ae (ae (ae (ae g 11 (X.enc gm)) 12 (.int .i64 ((gm.len:Int)))) 4 (X.enc (s.1))) 13 (.int .i64 (s.2)))
 exact bu 27 Tryz.func161 rfl rfl bw
def UN(ds:aN)(w:World)(j:mK→World→Prop):Prop:=bQ 31 gz Bs w fun a1 bl=>ex (bM ds) fun a9=>ex (L gz (a9.add 0) bl) fun dQ=>bi gz a1 dQ bl fun b3=>ex (L gz a1 b3) fun bS=>j bS b3
theorem ahj{ds w j}(h:UN ds w j):M Pg 162 [.pointer ds] gz w j:=
 bu 7 Tryz.func162 rfl rfl bw
def UO(bV:jB)(u1:Int)(w:World)(j:(jB×Int)→World→Prop):Prop:=bQ 137 cW bV w fun aA aY=>bQ 137 cW jR aY fun b1 b3=>ex (L cW aA b3) fun bS=>M Pg 167 [cW.enc (bS)] (B .i64) b3 fun dB bJ=>if (dB != (0:Int))=true then (bi cW b1 (⟨(0:Int),(0:Int)⟩:jB) bJ fun cu=>ex (L cW b1 cu) fun cQ=>j (cQ,(50:Int)) cu) else (M Pg 168 [.int .i64 (u1)] bo bJ fun eB cC=>if (!eB)=true then (bi cW b1 (⟨(0:Int),(0:Int)⟩:jB) cC fun df=>ex (L cW b1 df) fun ep=>j (ep,(52:Int)) df) else (ex (L (B .i64) (aA.add 0) cC) fun bL=>ex (L (B .i64) (aA.add 1) cC) fun j2=>bi cW b1 (⟨(max (IntKind.i64.wrap (bL-u1)) (0:Int)),(min (IntKind.i64.wrap (j2+u1)) (1125899906842624:Int))⟩:jB) cC fun gb=>ex (L cW b1 gb) fun hY=>j (hY,(0:Int)) gb))
theorem ahk{bV u1 w j}(h:UO bV u1 w j):M Pg 166 [cW.enc bV,.int .i64 u1] (bB cW (B .i64)) w j:=
 bu 27 Tryz.func166 rfl rfl bw
def A7(a1:Addr)(ke:Bool)(bJ:World)(j:Int→World→Prop):Prop:=ex (fun x=>(!ke)=true→(L (B .i64) (a1.add 0) bJ) x) fun cJ=>ex (fun x=>(!ke)=true→(L (B .i64) (a1.add 1) bJ) x) fun dD=>if (ke||(decide (cJ>dD)))=true then (j (50:Int) bJ) else (j (0:Int) bJ)
def M2(bV:jB)(w:World)(j:Int→World→Prop):Prop:=bQ 137 cW bV w fun a1 bl=>ex (L (B .i64) (a1.add 0) bl) fun dk=>M Pg 168 [.int .i64 (dk)] bo bl fun aI bc=>if (!aI)=true then (A7 a1 true bc j) else (ex (L (B .i64) (a1.add 1) bc) fun dP=>M Pg 168 [.int .i64 (dP)] bo bc fun fI df=>A7 a1 (!fI) df j)
theorem ahl{bV:jB}{w:World}{j:Int→World→Prop}(h:M2 bV w j):M Pg 167 [cW.enc (bV)] (B .i64) w j:=by
 unfold M2 at h
 refine oH 20 Tryz.func167 rfl rfl (Nat.le_of_ble_eq_true rfl)<|wp_seq<|a4 _ rfl ?_
 obtain⟨a1,bl,oM,Qs,h⟩:=oQ h
 refine aP 1 rfl rfl rfl (sq (u:=bV) rfl oi rfl oM Qs)<|o rfl<|aU<|wp_seq<|wp_seq<|a4 _ rfl<|gk _ _ _ Tryz.underlying137 cS rfl rfl rfl<|gQ cS h rfl rfl fun dk _ h=>ew YY rfl rfl h fun aI bc h=>aP _ rfl rfl rfl (nj rfl rfl)<|o rfl<|mT (bC:=Bool) (eM:=fun (s:Bool) w=>A7 a1 s w j) (dp:=fun g (s:Bool)=>ae (ae (g) 1 (.pointer (some a1))) 12 (.bool (s))) [5,6,7,8,9] [10,11,12,13,14,15,16] ?_ ?_
 ·rintro ke g bJ h
  unfold A7 at h
  refine o rfl<|bn (g:=(!ke)) (d:=(some 14)) rfl (.no 10 13 true ke rfl rfl rfl rfl) rfl (fun O=>iI (a:=a1) (off:=0) rfl Tryz.underlying137 rfl rfl cS (by decide) rfl) ?_
  obtain⟨cJ,Hu,h⟩:=h
  refine bn (g:=(!ke)) (d:=(some 15)) rfl (.no 10 13 true ke rfl rfl rfl rfl) rfl (fun O=>hM (T:=(B .i64)) (u:=cJ) (a:=(a1.add 0)) rfl cS (cc O) (Hu O))<|bn (g:=(!ke)) (d:=(some 16)) rfl (.no 10 13 true ke rfl rfl rfl rfl) rfl (fun O=>iI (a:=a1) (off:=1) rfl Tryz.underlying137 rfl rfl cS (by decide) rfl) ?_
  obtain⟨dD,B6,h⟩:=h
  refine bn (g:=(!ke)) (d:=(some 17)) rfl (.no 10 13 true ke rfl rfl rfl rfl) rfl (fun O=>hM (T:=(B .i64)) (u:=dD) (a:=(a1.add 1)) rfl cS (cc O) (B6 O))<|bn (g:=(!ke)) (d:=(some 18)) rfl (.no 10 13 true ke rfl rfl rfl rfl) rfl (fun O=>ss (k:=.i64) (a:=cJ) (e:=dD) rfl (cc O) (cc O))<|aP 19 rfl rfl rfl (i_ (a:=ke) (c:=(decide (cJ>dD))) rfl rfl rfl rfl)<|aU<|eb h rfl (fun _ h=>?_) fun _ h=>?_
  ·refine wp_seq<|a4 _ rfl<|o rfl<|aU<|wp_ret ?_
   exact iN h rfl rfl
  ·refine wp_skip<|wp_seq<|a4 _ rfl<|o rfl<|aU<|wp_ret ?_
   exact iN h rfl rfl
 ·refine iJ (e:=(!aI)) h (fun vd h=>?_) (fun vd h=>?_)
  ·refine da (d:=(some 8)) rfl (.av 4 false 7 (!aI) rfl rfl rfl vd) rfl<|da (d:=(some 9)) rfl (.av 4 false 7 (!aI) rfl rfl rfl vd) rfl<|da (d:=(some 10)) rfl (.av 4 false 7 (!aI) rfl rfl rfl vd) rfl<|da (d:=(some 11)) rfl (.av 4 false 7 (!aI) rfl rfl rfl vd) rfl<|aP 12 rfl rfl rfl (hD (v:=.bool (true)) (e:=(!aI)) rfl rfl vd rfl)<|aU ?_
   exact⟨(true),_,aX (aC (aC rfl rfl) rfl),h⟩
  ·refine eg (d:=(some 8)) rfl (.av 4 false 7 (!aI) rfl rfl rfl vd) rfl (iI (a:=a1) (off:=1) rfl Tryz.underlying137 rfl rfl cS (by decide) rfl) ?_
   obtain⟨dP,Hn,h⟩:=h
   refine eg (d:=(some 9)) rfl (.av 4 false 7 (!aI) rfl rfl rfl vd) rfl (hM (T:=(B .i64)) (u:=dP) (a:=(a1.add 1)) rfl cS rfl Hn)<|ey rfl (.av 4 false 7 (!aI) rfl rfl rfl vd) (gx (d:=(some 10)) rfl (fD (k:=168) (m:=[.int .i64 (dP)]) rfl YY rfl) h ?_)
   intro fI df h
   refine eg (d:=(some 11)) rfl (.av 4 false 7 (!aI) rfl rfl rfl vd) rfl (nj (e:=fI) rfl rfl)<|aP 12 rfl rfl rfl (iB (v:=.bool ((!fI))) (e:=(!aI)) rfl rfl vd rfl)<|aU ?_
   exact⟨((!fI)),_,aX (aC (aC rfl rfl) rfl),h⟩
def UP(bf:Int)(w:World)(j:Bool→World→Prop):Prop:=j ((decide (bf≥(0:Int)))&&(decide (bf≤(1125899906842624:Int)))) w
theorem ahm{bf w j}(h:UP bf w j):M Pg 168 [.int .i64 bf] bo w j:=
 bu 9 Tryz.func168 rfl rfl bw
def UQ(dc:aN)(bt:Int)(DF:Int)(w_:Int)(w:World)(j:Int→World→Prop):Prop:=M Pg 210 [.pointer (dc),.int .i64 (bt)] (B .i64) w fun aI bc=>if (aI != (0:Int))=true then (j aI bc) else (ex (bM dc) fun cj=>ex (L aE ((cj.add 0).add 0) bc) fun cH=>M Pg 211 [.pointer (cH),.int .i64 (DF)] (bB dR bo) bc fun a6 b6=>bQ 292 dR kD b6 fun fS cC=>bi dR fS a6.1 cC fun cA=>M Pg 212 [.int .i64 (DF)] bo cA fun fI df=>if (!fI)=true then (j (153:Int) df) else (if a6.2=true then (j (154:Int) df) else (M Pg 213 [.int .i64 (w_)] (B .i64) df fun ps dV=>if (ps != (0:Int))=true then (j (155:Int) dV) else (ex (L aE ((cj.add 0).add 0) dV) fun cY=>tk 87 h2 [(⟨DF,w_⟩:fK)] dV fun je eJ=>M Pg 214 [.pointer (cY),.int .i64 (bt),X.enc ((⟨some je,1,1⟩:af))] (B .i64) eJ fun cI eK=>M Pg 215 [.pointer (dc),.int .i64 (bt)] eh eK fun xi eD=>j (0:Int) eD))))
theorem ahn{dc bt DF w_ w j}(h:UQ dc bt DF w_ w j):M Pg 169 [.pointer dc,.int .i64 bt,.int .i64 DF,.int .i64 w_] (B .i64) w j:=
 bu 52 Tryz.func169 rfl rfl bw
end bj
end Go.Proofs.YthaobmpdjcoheaaGreat
