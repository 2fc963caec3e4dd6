/- Own texts of this claim, part 5: short, merged. -/
import Derived.Test.YtnmmjkjkkmbhiaaGreatZ1
set_option maxRecDepth 100000
set_option maxHeartbeats 40000000
set_option linter.defProp false
set_option linter.unusedVariables false
set_option linter.unusedSimpArgs false
namespace Go.Proofs.YtnmmjkjkkmbhiaaGreat
namespace ba
def RE(cv:(Option Nat))(w:World)(j:dz→World→Prop):Prop:=ch 95 dK cv w fun aY a6=>j (dz.mk (.func 126) (List.toArray []) (List.toArray [.pointer (some aY)])) a6
theorem ac6{cv w j}(h:RE cv w j):L Pg 92 [.map cv] qN w j:=
 aX 4 Tryz.func92 rfl rfl bf
def zt(agY:Nat)(aV:World)(j:Bool→World→Prop):Prop:=j (gS .gtr agY (9218868437227405311:Nat)) aV
def IQ(et:Nat)(DI:Int)(w:World)(j:Bool→World→Prop):Prop:=if (DI==(0:Int))=true then (L Pg 127 [.float .f64 (et)] g2 w fun cT bb=>zt cT bb j) else (if (decide (DI<(0:Int)))=true then (zt (Op.negFloat .f64 et) w j) else (zt et w j))
theorem RF{et DI w j}(h:IQ et DI w j):L Pg 94 [.float .f64 et,.int .i64 DI] bi w j:=by
 have kJ:=kv (bE:=Nat) 6 (fun s w=>zt s w j) (fun g s=>av g 0 (.float .f64 s))
 exact aX 15 Tryz.func94 rfl rfl bf
def RG(et:Nat)(w:World)(j:Int→World→Prop):Prop:=if (gS .neq et et)=true then (j (0:Int) w) else (ex (hB (63:Int) (Int.fdiv (et:Int) (2^(min ((63:Int)).toNat IntKind.u64.bits)))) fun d2=>if (d2==(1:Int))=true then (j (bits .xor .u64 IntKind.u64.max (et:Int)) w) else (j (bits .or .u64 (et:Int) (9223372036854775808:Int)) w))
theorem ac7{et w j}(h:RG et w j):L Pg 95 [.float .f64 et] (D .u64) w j:=
 aX 16 Tryz.func95 rfl rfl bf
def xj(cN:aU)(ls:Int)(cT:(X×Int))(B0:Int)(bQ:World)(j:(aU×X×Int)→World→Prop):Prop:=if (B0 != (0:Int))=true then (j ((none:Option Addr),(⟨none,0,0⟩:X),B0) bQ) else (ch 192 xz (⟨(⟨(cT.1.len:Int),(cT.1.len:Int)⟩:qc),cN,ls,false⟩:qX) bQ fun jE b3=>j ((some jE),cT.1,(0:Int)) b3)
def IR(cN:aU)(ls:Int)(w:World)(j:(aU×X×Int)→World→Prop):Prop:=if cN.isNone=true then (j ((none:Option Addr),(⟨none,0,0⟩:X),(80:Int)) w) else (L Pg 128 [.pointer (cN),.int .i64 (ls)] (bJ O (D .i64)) w fun aP a6=>if (aP.2 != (0:Int))=true then (j ((none:Option Addr),(⟨none,0,0⟩:X),aP.2) a6) else (L Pg 129 [O.enc (aP.1)] (bJ O (D .i64)) a6 fun cT bb=>if (decide (cT.2<(aP.1.len:Int)))=true then (ex (Sub aP.1 1 0 cT.2 cT.2) fun Dy=>L Pg 130 [.pointer (cN),.int .i64 (ls),O.enc (Dy)] (D .i64) bb fun pO cM=>xj cN ls cT pO cM j) else (L Pg 131 [.pointer (cN),.int .i64 (ls)] (D .i64) bb fun fS fm=>if (decide (fS<cT.2))=true then (L Pg 110 [.pointer (cN),.int .i64 (ls)] (D .i64) fm fun hI eG=>xj cN ls cT hI eG j) else (xj cN ls cT aP.2 fm j))))
theorem ac8{cN:aU}{ls:Int}{w:World}{j:(aU×X×Int)→World→Prop}(h:IR cN ls w j):L Pg 96 [.pointer (cN),.int .i64 (ls)] (qO aM O (D .i64)) w j:=by
 unfold IR at h
 refine pw 61 Tryz.func96 rfl rfl (Nat.le_of_ble_eq_true rfl)<|wp_seq<|bv _ rfl<|m rfl<|m rfl<|m rfl<|bp<|wp_seq<|wp_seq<|bv _ rfl<|m rfl<|bo 12 rfl rfl rfl (nh (a:=cN) rfl Tryz.underlying58 rfl rfl) ?_
 refine bp<|fq h rfl (fun _ h=>?_) fun _ h=>?_
 ·refine wp_seq<|bv _ rfl<|m rfl<|m rfl<|m rfl<|bp<|wp_ret ?_
  exact Er h rfl rfl
 ·refine wp_skip<|wp_seq<|bv _ rfl<|m rfl<|m rfl<|hc afW rfl rfl h fun aP a6 h=>m rfl<|im _ _ rfl rfl rfl<|im _ _ rfl rfl rfl<|m rfl<|m rfl<|bp ?_
  refine wp_seq<|wp_seq<|bv _ rfl<|m rfl<|bo _ rfl rfl rfl (hW rfl rfl rfl)<|bp<|fq h rfl (fun _ h=>?_) fun _ h=>?_
  ·refine wp_seq<|bv _ rfl<|m rfl<|m rfl<|m rfl<|m rfl<|bp<|wp_ret ?_
   exact Er h rfl rfl
  ·refine wp_skip<|wp_seq<|bv _ rfl<|m rfl<|hc afX rfl rfl h fun cT bb h=>m rfl<|im _ _ rfl rfl rfl<|im _ _ rfl rfl rfl<|m rfl<|m rfl<|bp<|wZ (bE:=Int) (eV:=fun (s:Int) w=>xj cN ls cT s w j) (bT:=fun g (s:Int)=>av (av (av (av (g) 0 (.pointer (cN))) 1 (.int .i64 (ls))) 9 (O.enc (cT.1))) 8 (.int .i64 (s))) ?_ ?_
   ·rintro B0 g bQ h
    unfold xj at h
    refine wp_seq<|wp_seq<|bv _ rfl<|m rfl<|bo _ rfl rfl rfl (hW rfl rfl rfl)<|bp<|fq h rfl (fun _ h=>?_) fun _ h=>?_
    ·refine wp_seq<|bv _ rfl<|m rfl<|m rfl<|m rfl<|m rfl<|bp<|wp_ret ?_
     exact Er h rfl rfl
    ·refine wp_skip<|wp_seq<|bv _ rfl<|m rfl<|bo _ rfl rfl rfl (h6 rfl Tryz.underlying177 rfl)<|m rfl<|bo _ rfl rfl rfl (h6 rfl Tryz.underlying177 rfl)<|bo 55 rfl rfl rfl (M2 (a9:=(cT.1.len:Int)) (ct:=(cT.1.len:Int)) rfl rfl rfl)<|m rfl<|m rfl<|bo 58 rfl rfl rfl (M3 (a9:=(⟨(cT.1.len:Int),(cT.1.len:Int)⟩:qc)) (ct:=cN) (eo:=ls) rfl rfl rfl rfl) ?_
     obtain⟨jE,b3,ahW,K5,h⟩:=rr h
     refine bo 59 rfl rfl rfl (AG (u:=(⟨(⟨(cT.1.len:Int),(cT.1.len:Int)⟩:qc),cN,ls,false⟩:qX)) rfl V7 rfl ahW K5)<|m rfl<|m rfl<|m rfl<|m rfl<|bp<|wp_ret ?_
     exact Er h rfl rfl
   ·refine wp_block<|wp_seq<|bv _ rfl<|m rfl<|m rfl<|bo _ rfl rfl rfl (h6 rfl Tryz.underlying79 rfl)<|bo _ rfl rfl rfl (oe rfl rfl rfl)<|m rfl<|bp<|fq h rfl (fun _ h=>?_) fun _ h=>?_
    ·refine bv _ rfl<|m rfl<|m rfl<|m rfl<|m rfl<|m rfl ?_
     obtain⟨Dy,akh,h⟩:=h
     refine bo 37 rfl rfl rfl (Np (s:=aP.1) (h:=cT.2) (m:=cT.2) rfl Tryz.underlying79 Dc rfl rfl rfl akh)<|hc afY rfl rfl h fun pO cM h=>m rfl<|bp ?_
     exact⟨(pO),_,arr (aW (aW (aW (aW rfl rfl) rfl) rfl) rfl),h⟩
    ·refine wp_seq<|bv _ rfl<|m rfl<|m rfl<|hc afZ rfl rfl h fun fS fm h=>m rfl<|bo _ rfl rfl rfl (oe rfl rfl rfl)<|m rfl<|bp<|fq h rfl (fun _ h=>?_) fun _ h=>?_
     ·refine bv _ rfl<|m rfl<|m rfl<|hc afU rfl rfl h fun hI eG h=>m rfl<|bp ?_
      exact⟨(hI),_,arr (aW (aW (aW (aW rfl rfl) rfl) rfl) rfl),h⟩
     ·refine wp_skip ?_
      exact⟨(aP.2),_,arr (aW (aW (aW (aW rfl rfl) rfl) rfl) rfl),h⟩
def Bv(cC:aU)(aP:(X×Int×Int))(G1:Bool)(hq:World)(j:Bool→World→Prop):Prop:=ex (fun x=>G1=true→(cz aP.1 5 (3:Int)) x) fun pu=>ex (fun x=>G1=true→(M (D .i64) (pu.add 0) hq) x) fun il=>if (G1&&(il==(4:Int)))=true then (ds hq fun hA=>ex (cz aP.1 5 (2:Int)) fun rS=>ex (cz aP.1 5 (1:Int)) fun fD=>ex (cz aP.1 5 (3:Int)) fun zF=>ex (M (D .i64) (rS.add 2) hA) fun oM=>ex (M (D .i64) (fD.add 2) hA) fun nR=>ex (M dT (zF.add 4) hA) fun zk=>L Pg 135 [.pointer (cC),dA.enc ((⟨oM,nR,zk⟩:eA))] cJ hA fun en kT=>bk ((M (D .i64) (rS.add 2) kT) oM)<|bk ((M (D .i64) (fD.add 2) kT) nR)<|bk ((M dT (zF.add 4) kT) zk)<|j true kT) else (j false hq)
def zu(cC:aU)(aP:(X×Int×Int))(k_:Bool)(b3:World)(j:Bool→World→Prop):Prop:=if k_=true then (j false b3) else (ex (fun x=>((aP.1.len:Int)==(2:Int))=true→(cz aP.1 5 (0:Int)) x) fun gm=>ex (fun x=>((aP.1.len:Int)==(2:Int))=true→(M (D .u64) (gm.add 1) b3) x) fun eU=>if (((aP.1.len:Int)==(2:Int))&&(eU==(1:Int)))=true then (ds b3 fun cM=>ex (bI cC) fun oU=>ex (cz aP.1 5 (1:Int)) fun hg=>ex (M (D .i64) (oU.add 1) cM) fun hL=>ex (M (D .i64) (hg.add 2) cM) fun fM=>br (D .i64) (oU.add 1) (max hL fM) cM fun fB=>j true fB) else (ex (fun x=>((aP.1.len:Int)==(4:Int))=true→(cz aP.1 5 (0:Int)) x) fun kZ=>ex (fun x=>((aP.1.len:Int)==(4:Int))=true→(M (D .u64) (kZ.add 1) b3) x) fun fy=>ex (fun x=>(((aP.1.len:Int)==(4:Int))&&(fy==(2:Int)))=true→(cz aP.1 5 (2:Int)) x) fun nZ=>ex (fun x=>(((aP.1.len:Int)==(4:Int))&&(fy==(2:Int)))=true→(M (D .i64) (nZ.add 0) b3) x) fun iI=>if ((((aP.1.len:Int)==(4:Int))&&(fy==(2:Int)))&&(iI==(2:Int)))=true then (ex (cz aP.1 5 (2:Int)) fun uo=>ex (M (D .i64) (uo.add 2) b3) fun rI=>L Pg 134 [.int .i64 (rI)] bi b3 fun kj w_=>Bv cC aP kj w_ j) else (Bv cC aP false b3 j)))
def IS(cC:aU)(pH:X)(w:World)(j:Bool→World→Prop):Prop:=L Pg 132 [O.enc (pH)] (qO O (D .i64) (D .i64)) w fun aP a6=>ex (fun x=>(!((aP.2.2 != (0:Int))||(decide ((aP.1.len:Int)<(2:Int)))))=true→(cz aP.1 5 (0:Int)) x) fun aR=>ex (fun x=>(!((aP.2.2 != (0:Int))||(decide ((aP.1.len:Int)<(2:Int)))))=true→(M (D .i64) (aR.add 0) a6) x) fun cr=>ex (fun x=>(!(((aP.2.2 != (0:Int))||(decide ((aP.1.len:Int)<(2:Int))))||(cr != (1:Int))))=true→(cz aP.1 5 (1:Int)) x) fun cw=>ex (fun x=>(!(((aP.2.2 != (0:Int))||(decide ((aP.1.len:Int)<(2:Int))))||(cr != (1:Int))))=true→(M (D .i64) (cw.add 0) a6) x) fun cl=>if ((((aP.2.2 != (0:Int))||(decide ((aP.1.len:Int)<(2:Int))))||(cr != (1:Int)))||(cl != (2:Int)))=true then (zu cC aP true a6 j) else (ex (cz aP.1 5 (1:Int)) fun zG=>ex (M (D .i64) (zG.add 2) a6) fun sZ=>L Pg 133 [.int .i64 (sZ)] bi a6 fun Ds ZL=>zu cC aP (!Ds) ZL j)
theorem ac9{cC:aU}{pH:X}{w:World}{j:Bool→World→Prop}(h:IS cC pH w j):L Pg 97 [.pointer (cC),O.enc (pH)] bi w j:=by
 unfold IS at h
 refine pw 113 Tryz.func97 rfl rfl (Nat.le_of_ble_eq_true rfl)<|wp_seq<|bv _ rfl<|m rfl<|bp<|wp_seq<|bv _ rfl<|m rfl<|hc SP rfl rfl h fun aP a6 h=>m rfl<|im _ _ rfl rfl rfl<|im _ _ rfl rfl rfl ?_
 refine im _ _ rfl rfl rfl<|m rfl<|m rfl<|m rfl<|bp<|wp_seq<|wp_seq<|bv _ rfl<|m rfl<|bo _ rfl rfl rfl (hW rfl rfl rfl)<|m rfl<|e5 17 2 16 rfl rfl rfl rfl rfl (fun ae=>bZ (v:=O.enc (aP.1)) rfl rfl) ?_
 refine e5 18 2 16 rfl rfl rfl rfl rfl (fun ae=>h6 (s:=aP.1) rfl Tryz.underlying134 (c2 ae))<|e5 19 2 16 rfl rfl rfl rfl rfl (fun ae=>oe (k:=.i64) (a:=(aP.1.len:Int)) (b:=(2:Int)) rfl (c2 ae) rfl)<|bo 20 rfl rfl rfl (k7 rfl rfl rfl rfl)<|m rfl<|e5 22 7 21 rfl rfl rfl rfl rfl (fun ae=>bZ (v:=O.enc (aP.1)) rfl rfl) ?_
 obtain⟨aR,uK,h⟩:=h
 refine e5 23 7 21 rfl rfl rfl rfl rfl (fun ae=>jv (s:=aP.1) (k:=.i64) (i:=(0:Int)) rfl Tryz.underlying134 g9 (c2 ae) rfl (uK ae))<|e5 24 7 21 rfl rfl rfl rfl rfl (fun ae=>kh (a:=aR) (off:=0) rfl Tryz.underlying133 rfl rfl ng (by decide) (c2 ae)) ?_
 obtain⟨cr,Lk,h⟩:=h
 refine e5 25 7 21 rfl rfl rfl rfl rfl (fun ae=>jh (T:=(D .i64)) (u:=cr) (a:=(aR.add 0)) rfl ng (c2 ae) (Lk ae))<|e5 26 7 21 rfl rfl rfl rfl rfl (fun ae=>hW (k:=.i64) (a:=cr) (b:=(1:Int)) rfl (c2 ae) rfl)<|bo 27 rfl rfl rfl (k7 rfl rfl rfl rfl)<|m rfl<|e5 29 14 28 rfl rfl rfl rfl rfl (fun ae=>bZ (v:=O.enc (aP.1)) rfl rfl) ?_
 obtain⟨cw,ahV,h⟩:=h
 refine e5 30 14 28 rfl rfl rfl rfl rfl (fun ae=>jv (s:=aP.1) (k:=.i64) (i:=(1:Int)) rfl Tryz.underlying134 g9 (c2 ae) rfl (ahV ae))<|e5 31 14 28 rfl rfl rfl rfl rfl (fun ae=>kh (a:=cw) (off:=0) rfl Tryz.underlying133 rfl rfl ng (by decide) (c2 ae)) ?_
 obtain⟨cl,CL,h⟩:=h
 refine e5 32 14 28 rfl rfl rfl rfl rfl (fun ae=>jh (T:=(D .i64)) (u:=cl) (a:=(cw.add 0)) rfl ng (c2 ae) (CL ae))<|e5 33 14 28 rfl rfl rfl rfl rfl (fun ae=>hW (k:=.i64) (a:=cl) (b:=(2:Int)) rfl (c2 ae) rfl)<|bo 34 rfl rfl rfl (k7 rfl rfl rfl rfl)<|m rfl<|y5 (bE:=Bool) (eV:=fun (s:Bool) w=>zu cC aP s w j) (bT:=fun g (s:Bool)=>av (av (av (g) 0 (.pointer (cC))) 5 (O.enc (aP.1))) 42 (.bool (s))) [22,23,24,25,26,27,28] [] ?_ ?_
 ·rintro k_ g b3 h
  unfold zu at h
  refine bp<|fq h rfl (fun _ h=>?_) fun _ h=>?_
  ·refine wp_seq<|bv _ rfl<|m rfl<|bp<|wp_ret ?_
   exact lc h rfl rfl
  ·refine wp_skip<|wp_seq<|wp_block<|wp_seq<|bv _ rfl<|m rfl<|bo _ rfl rfl rfl (h6 rfl Tryz.underlying134 rfl)<|bo _ rfl rfl rfl (ey rfl rfl rfl)<|m rfl<|hP 48 3 47 rfl rfl rfl rfl rfl (fun ae=>bZ (v:=O.enc (aP.1)) rfl rfl) ?_
   obtain⟨gm,JY,h⟩:=h
   refine hP 49 3 47 rfl rfl rfl rfl rfl (fun ae=>jv (s:=aP.1) (k:=.i64) (i:=(0:Int)) rfl Tryz.underlying134 g9 (c2 ae) rfl (JY ae))<|hP 50 3 47 rfl rfl rfl rfl rfl (fun ae=>kh (a:=gm) (off:=1) rfl Tryz.underlying133 rfl rfl nf (by decide) (c2 ae)) ?_
   obtain⟨eU,ye,h⟩:=h
   refine hP 51 3 47 rfl rfl rfl rfl rfl (fun ae=>jh (T:=(D .u64)) (u:=eU) (a:=(gm.add 1)) rfl nf (c2 ae) (ye ae))<|hP 52 3 47 rfl rfl rfl rfl rfl (fun ae=>ey (k:=.u64) (a:=eU) (b:=(1:Int)) rfl (c2 ae) rfl)<|bo 53 rfl rfl rfl (ky rfl rfl rfl rfl)<|m rfl<|bp<|fq h rfl (fun _ h=>?_) fun _ h=>?_
   ·refine wp_seq ?_
    obtain⟨cM,aky,h⟩:=nx h
    refine oJ 13 mixed rfl (by kernel_rfl) (by intro o a d v w h; cases d<;>exact h) aky (fun G=>?_)
    refine bY 0 54 (.pointer (cC)) G rfl rfl<|bY 1 55 (.pointer (cC)) G rfl rfl ?_
    obtain⟨oU,TF,h⟩:=h
    refine nt 2 56 TF G rfl rfl<|hZ 3 57 oU 1 Tryz.underlying145 ew G rfl rfl rfl<|bY 5 59 (O.enc (aP.1)) G rfl rfl ?_
    obtain⟨hg,ahE,h⟩:=h
    refine bd 6 60 G rfl rfl rfl (fun _=>jv (s:=aP.1) (k:=.i64) (i:=(1:Int)) rfl Tryz.underlying134 g9 rfl rfl ahE)<|hZ 7 61 hg 2 Tryz.underlying133 ew G rfl rfl rfl ?_
    obtain⟨hL,Lg,h⟩:=h
    refine hN 4 58 Lg ew G rfl rfl ?_
    obtain⟨fM,CK,h⟩:=h
    refine hN 8 62 CK ew G rfl rfl<|bd 9 63 G rfl rfl rfl (fun _=>Ng (a:=hL) (b:=fM) rfl rfl rfl)<|nt 10 64 TF G rfl rfl<|hZ 11 65 oU 1 Tryz.underlying145 ew G rfl rfl rfl<|bA (i:=12) (by kernel_rfl) ?_
    obtain⟨fB,akA,akc,h⟩:=qM h
    refine sL (d:=none) rfl (.free rfl) rfl (qH (T:=(D .i64)) (u:=(max hL fM)) (a:=(oU.add 1)) rfl ew rfl rfl akc akA) ⟨(g8 (by kernel_rfl) (g8 (by kernel_rfl) c_)),?_⟩
    refine ef (by kernel_rfl)<|wp_seq<|bv _ rfl<|m rfl<|bp<|wp_ret ?_
    exact lc h rfl rfl
   ·refine wp_seq<|bv _ rfl<|m rfl<|bo _ rfl rfl rfl (h6 rfl Tryz.underlying134 rfl)<|bo _ rfl rfl rfl (ey rfl rfl rfl)<|m rfl<|hP 71 3 70 rfl rfl rfl rfl rfl (fun ae=>bZ (v:=O.enc (aP.1)) rfl rfl) ?_
    obtain⟨kZ,ahG,h⟩:=h
    refine hP 72 3 70 rfl rfl rfl rfl rfl (fun ae=>jv (s:=aP.1) (k:=.i64) (i:=(0:Int)) rfl Tryz.underlying134 g9 (c2 ae) rfl (ahG ae))<|hP 73 3 70 rfl rfl rfl rfl rfl (fun ae=>kh (a:=kZ) (off:=1) rfl Tryz.underlying133 rfl rfl nf (by decide) (c2 ae)) ?_
    obtain⟨fy,Lh,h⟩:=h
    refine hP 74 3 70 rfl rfl rfl rfl rfl (fun ae=>jh (T:=(D .u64)) (u:=fy) (a:=(kZ.add 1)) rfl nf (c2 ae) (Lh ae))<|hP 75 3 70 rfl rfl rfl rfl rfl (fun ae=>ey (k:=.u64) (a:=fy) (b:=(2:Int)) rfl (c2 ae) rfl)<|bo 76 rfl rfl rfl (ky rfl rfl rfl rfl)<|m rfl<|hP 78 10 77 rfl rfl rfl rfl rfl (fun ae=>bZ (v:=O.enc (aP.1)) rfl rfl) ?_
    obtain⟨nZ,ahI,h⟩:=h
    refine hP 79 10 77 rfl rfl rfl rfl rfl (fun ae=>jv (s:=aP.1) (k:=.i64) (i:=(2:Int)) rfl Tryz.underlying134 g9 (c2 ae) rfl (ahI ae))<|hP 80 10 77 rfl rfl rfl rfl rfl (fun ae=>kh (a:=nZ) (off:=0) rfl Tryz.underlying133 rfl rfl ng (by decide) (c2 ae)) ?_
    obtain⟨iI,akN,h⟩:=h
    refine hP 81 10 77 rfl rfl rfl rfl rfl (fun ae=>jh (T:=(D .i64)) (u:=iI) (a:=(nZ.add 0)) rfl ng (c2 ae) (akN ae))<|hP 82 10 77 rfl rfl rfl rfl rfl (fun ae=>ey (k:=.i64) (a:=iI) (b:=(2:Int)) rfl (c2 ae) rfl)<|bo 83 rfl rfl rfl (ky rfl rfl rfl rfl)<|m rfl<|y5 (bE:=Bool) (eV:=fun (s:Bool) w=>Bv cC aP s w j) (bT:=fun g (s:Bool)=>av (av (av (g) 0 (.pointer (cC))) 5 (O.enc (aP.1))) 90 (.bool (s))) [18,19,20,21,22,23] [24,25,26,27,28,29,30,31] ?_ ?_
    ·rintro G1 g hq h
     unfold Bv at h
     refine m rfl<|hP 92 24 91 rfl rfl rfl rfl rfl (fun ae=>bZ (v:=O.enc (aP.1)) rfl rfl) ?_
     obtain⟨pu,ahK,h⟩:=h
     refine hP 93 24 91 rfl rfl rfl rfl rfl (fun ae=>jv (s:=aP.1) (k:=.i64) (i:=(3:Int)) rfl Tryz.underlying134 g9 (c2 ae) rfl (ahK ae))<|hP 94 24 91 rfl rfl rfl rfl rfl (fun ae=>kh (a:=pu) (off:=0) rfl Tryz.underlying133 rfl rfl ng (by decide) (c2 ae)) ?_
     obtain⟨il,akO,h⟩:=h
     refine hP 95 24 91 rfl rfl rfl rfl rfl (fun ae=>jh (T:=(D .i64)) (u:=il) (a:=(pu.add 0)) rfl ng (c2 ae) (akO ae))<|hP 96 24 91 rfl rfl rfl rfl rfl (fun ae=>ey (k:=.i64) (a:=il) (b:=(4:Int)) rfl (c2 ae) rfl)<|bo 97 rfl rfl rfl (ky rfl rfl rfl rfl)<|m rfl<|bp<|fq h rfl (fun _ h=>?_) fun _ h=>?_
     ·refine wp_seq ?_
      obtain⟨hA,K8,h⟩:=nx h
      refine oJ 15 mixed rfl (by kernel_rfl) (by intro o a d v w h; cases d<;>exact h) K8 (fun G=>?_)
      refine bY 0 98 (.pointer (cC)) G rfl rfl<|bY 1 99 (O.enc (aP.1)) G rfl rfl ?_
      obtain⟨rS,ahL,h⟩:=h
      refine bd 2 100 G rfl rfl rfl (fun _=>jv (s:=aP.1) (k:=.i64) (i:=(2:Int)) rfl Tryz.underlying134 g9 rfl rfl ahL)<|hZ 3 101 rS 2 Tryz.underlying133 ew G rfl rfl rfl<|bY 5 103 (O.enc (aP.1)) G rfl rfl ?_
      obtain⟨fD,Cm,h⟩:=h
      refine bd 6 104 G rfl rfl rfl (fun _=>jv (s:=aP.1) (k:=.i64) (i:=(1:Int)) rfl Tryz.underlying134 g9 rfl rfl Cm)<|hZ 7 105 fD 2 Tryz.underlying133 ew G rfl rfl rfl<|bY 9 107 (O.enc (aP.1)) G rfl rfl ?_
      obtain⟨zF,ahM,h⟩:=h
      refine bd 10 108 G rfl rfl rfl (fun _=>jv (s:=aP.1) (k:=.i64) (i:=(3:Int)) rfl Tryz.underlying134 g9 rfl rfl ahM)<|hZ 11 109 zF 4 Tryz.underlying133 pg G rfl rfl rfl ?_
      obtain⟨oM,akR,h⟩:=h
      refine hN 4 102 akR ew G rfl rfl ?_
      obtain⟨nR,akS,h⟩:=h
      refine hN 8 106 akS ew G rfl rfl ?_
      obtain⟨zk,akT,h⟩:=h
      refine hN 12 110 akT pg G rfl rfl<|bd 13 111 G rfl rfl rfl (fun _=>Dg (a9:=oM) (ct:=nR) (eo:=zk) rfl rfl rfl rfl)<|bA (i:=14) (by kernel_rfl)<|cY rfl (.free rfl) (dj (d:=(some 112)) rfl (c3 (k:=135) (c:=[.pointer (cC),dA.enc ((⟨oM,nR,zk⟩:eA))]) rfl SR rfl) h ?_)
      intro en kT h
      obtain⟨Kt,h⟩:=h
      obtain⟨ajd,h⟩:=h
      obtain⟨aje,h⟩:=h
      refine⟨(cg (fun _=>aje) (cg (fun _=>ajd) (cg (fun _=>Kt) c_))),?_⟩
      refine ef (by kernel_rfl)<|wp_seq<|bv _ rfl<|m rfl<|bp<|wp_ret ?_
      exact lc h rfl rfl
     ·refine wp_skip<|wp_seq<|bv _ rfl<|m rfl<|bp<|wp_ret ?_
      exact lc h rfl rfl
    ·refine eO (b:=((((aP.1.len:Int)==(4:Int))&&(fy==(2:Int)))&&(iI==(2:Int)))) h (fun qm h=>?_) (fun qm h=>?_)
     ·refine kk (d:=(some 85)) rfl (.U 17 true 84 ((((aP.1.len:Int)==(4:Int))&&(fy==(2:Int)))&&(iI==(2:Int))) rfl rfl rfl qm) rfl (bZ (v:=O.enc (aP.1)) rfl rfl) ?_
      obtain⟨uo,J1,h⟩:=h
      refine kk (d:=(some 86)) rfl (.U 17 true 84 ((((aP.1.len:Int)==(4:Int))&&(fy==(2:Int)))&&(iI==(2:Int))) rfl rfl rfl qm) rfl (jv (s:=aP.1) (k:=.i64) (i:=(2:Int)) rfl Tryz.underlying134 g9 rfl rfl J1)<|kk (d:=(some 87)) rfl (.U 17 true 84 ((((aP.1.len:Int)==(4:Int))&&(fy==(2:Int)))&&(iI==(2:Int))) rfl rfl rfl qm) rfl (kh (a:=uo) (off:=2) rfl Tryz.underlying133 rfl rfl ew (by decide) rfl) ?_
      obtain⟨rI,Li,h⟩:=h
      refine kk (d:=(some 88)) rfl (.U 17 true 84 ((((aP.1.len:Int)==(4:Int))&&(fy==(2:Int)))&&(iI==(2:Int))) rfl rfl rfl qm) rfl (jh (T:=(D .i64)) (u:=rI) (a:=(uo.add 2)) rfl ew rfl Li)<|e3 rfl (.U 17 true 84 ((((aP.1.len:Int)==(4:Int))&&(fy==(2:Int)))&&(iI==(2:Int))) rfl rfl rfl qm) (dj (d:=(some 89)) rfl (c3 (k:=134) (c:=[.int .i64 (rI)]) rfl SQ rfl) h ?_)
      intro kj w_ h
      refine bo 90 rfl rfl rfl (ee (v:=.bool (kj)) (b:=((((aP.1.len:Int)==(4:Int))&&(fy==(2:Int)))&&(iI==(2:Int)))) rfl rfl qm rfl)<|bp ?_
      exact⟨(kj),_,arr (aW (aW (aW rfl rfl) rfl) rfl),h⟩
     ·refine iZ (d:=(some 85)) rfl (.U 17 true 84 ((((aP.1.len:Int)==(4:Int))&&(fy==(2:Int)))&&(iI==(2:Int))) rfl rfl rfl qm) rfl<|iZ (d:=(some 86)) rfl (.U 17 true 84 ((((aP.1.len:Int)==(4:Int))&&(fy==(2:Int)))&&(iI==(2:Int))) rfl rfl rfl qm) rfl<|iZ (d:=(some 87)) rfl (.U 17 true 84 ((((aP.1.len:Int)==(4:Int))&&(fy==(2:Int)))&&(iI==(2:Int))) rfl rfl rfl qm) rfl<|iZ (d:=(some 88)) rfl (.U 17 true 84 ((((aP.1.len:Int)==(4:Int))&&(fy==(2:Int)))&&(iI==(2:Int))) rfl rfl rfl qm) rfl<|iZ (d:=(some 89)) rfl (.U 17 true 84 ((((aP.1.len:Int)==(4:Int))&&(fy==(2:Int)))&&(iI==(2:Int))) rfl rfl rfl qm) rfl<|bo 90 rfl rfl rfl (dY (v:=.bool (false)) (b:=((((aP.1.len:Int)==(4:Int))&&(fy==(2:Int)))&&(iI==(2:Int)))) rfl rfl qm rfl)<|bp ?_
      exact⟨(false),_,arr (aW (aW (aW rfl rfl) rfl) rfl),h⟩
 ·refine eO (b:=((((aP.2.2 != (0:Int))||(decide ((aP.1.len:Int)<(2:Int))))||(cr != (1:Int)))||(cl != (2:Int)))) h (fun gZ h=>?_) (fun gZ h=>?_)
  ·refine iZ (d:=(some 36)) rfl (.U 21 false 35 ((((aP.2.2 != (0:Int))||(decide ((aP.1.len:Int)<(2:Int))))||(cr != (1:Int)))||(cl != (2:Int))) rfl rfl rfl gZ) rfl<|iZ (d:=(some 37)) rfl (.U 21 false 35 ((((aP.2.2 != (0:Int))||(decide ((aP.1.len:Int)<(2:Int))))||(cr != (1:Int)))||(cl != (2:Int))) rfl rfl rfl gZ) rfl<|iZ (d:=(some 38)) rfl (.U 21 false 35 ((((aP.2.2 != (0:Int))||(decide ((aP.1.len:Int)<(2:Int))))||(cr != (1:Int)))||(cl != (2:Int))) rfl rfl rfl gZ) rfl<|iZ (d:=(some 39)) rfl (.U 21 false 35 ((((aP.2.2 != (0:Int))||(decide ((aP.1.len:Int)<(2:Int))))||(cr != (1:Int)))||(cl != (2:Int))) rfl rfl rfl gZ) rfl<|iZ (d:=(some 40)) rfl (.U 21 false 35 ((((aP.2.2 != (0:Int))||(decide ((aP.1.len:Int)<(2:Int))))||(cr != (1:Int)))||(cl != (2:Int))) rfl rfl rfl gZ) rfl<|iZ (d:=(some 41)) rfl (.U 21 false 35 ((((aP.2.2 != (0:Int))||(decide ((aP.1.len:Int)<(2:Int))))||(cr != (1:Int)))||(cl != (2:Int))) rfl rfl rfl gZ) rfl<|bo 42 rfl rfl rfl (ee (v:=.bool (true)) (b:=((((aP.2.2 != (0:Int))||(decide ((aP.1.len:Int)<(2:Int))))||(cr != (1:Int)))||(cl != (2:Int)))) rfl rfl gZ rfl)<|bp ?_
   exact⟨(true),_,arr (aW (aW (aW rfl rfl) rfl) rfl),h⟩
  ·refine kk (d:=(some 36)) rfl (.U 21 false 35 ((((aP.2.2 != (0:Int))||(decide ((aP.1.len:Int)<(2:Int))))||(cr != (1:Int)))||(cl != (2:Int))) rfl rfl rfl gZ) rfl (bZ (v:=O.enc (aP.1)) rfl rfl) ?_
   obtain⟨zG,ahS,h⟩:=h
   refine kk (d:=(some 37)) rfl (.U 21 false 35 ((((aP.2.2 != (0:Int))||(decide ((aP.1.len:Int)<(2:Int))))||(cr != (1:Int)))||(cl != (2:Int))) rfl rfl rfl gZ) rfl (jv (s:=aP.1) (k:=.i64) (i:=(1:Int)) rfl Tryz.underlying134 g9 rfl rfl ahS)<|kk (d:=(some 38)) rfl (.U 21 false 35 ((((aP.2.2 != (0:Int))||(decide ((aP.1.len:Int)<(2:Int))))||(cr != (1:Int)))||(cl != (2:Int))) rfl rfl rfl gZ) rfl (kh (a:=zG) (off:=2) rfl Tryz.underlying133 rfl rfl ew (by decide) rfl) ?_
   obtain⟨sZ,Lj,h⟩:=h
   refine kk (d:=(some 39)) rfl (.U 21 false 35 ((((aP.2.2 != (0:Int))||(decide ((aP.1.len:Int)<(2:Int))))||(cr != (1:Int)))||(cl != (2:Int))) rfl rfl rfl gZ) rfl (jh (T:=(D .i64)) (u:=sZ) (a:=(zG.add 2)) rfl ew rfl Lj)<|e3 rfl (.U 21 false 35 ((((aP.2.2 != (0:Int))||(decide ((aP.1.len:Int)<(2:Int))))||(cr != (1:Int)))||(cl != (2:Int))) rfl rfl rfl gZ) (dj (d:=(some 40)) rfl (c3 (k:=133) (c:=[.int .i64 (sZ)]) rfl af0 rfl) h ?_)
   intro Ds ZL h
   refine kk (d:=(some 41)) rfl (.U 21 false 35 ((((aP.2.2 != (0:Int))||(decide ((aP.1.len:Int)<(2:Int))))||(cr != (1:Int)))||(cl != (2:Int))) rfl rfl rfl gZ) rfl (lx (b:=Ds) rfl rfl)<|bo 42 rfl rfl rfl (dY (v:=.bool ((!Ds))) (b:=((((aP.2.2 != (0:Int))||(decide ((aP.1.len:Int)<(2:Int))))||(cr != (1:Int)))||(cl != (2:Int)))) rfl rfl gZ rfl)<|bp ?_
   exact⟨((!Ds)),_,arr (aW (aW (aW rfl rfl) rfl) rfl),h⟩
def RH(w:World)(j:aU→World→Prop):Prop:=pf w fun f_ eu=>ch 208 nX (⟨(some f_),(0:Int),(0:Int)⟩:ud) eu fun aI aV=>j (some aI) aV
theorem ada{w j}(h:RH w j):L Pg 98 [] aM w j:=
 aX 4 Tryz.func98 rfl rfl bf
def RI(cC:aU)(c1:Int)(w:World)(j:Int→World→Prop):Prop:=L Pg 133 [.int .i64 (c1)] bi w fun aP a6=>if (!aP)=true then (j (231:Int) a6) else (ex (bI cC) fun aR=>ex (M (D .i64) (aR.add 1) a6) fun cr=>if (decide (c1<cr))=true then (j (234:Int) a6) else (j (0:Int) a6))
theorem adb{cC c1 w j}(h:RI cC c1 w j):L Pg 99 [.pointer cC,.int .i64 c1] (D .i64) w j:=
 aX 16 Tryz.func99 rfl rfl bf
def ON(cC:aU)(jK:X)(w:World)(j:Int→World→Prop):Prop:=L Pg 58 [O.enc (jK)] (bJ O (D .i64)) w fun aP a6=>if (aP.2 != (0:Int))=true then (j aP.2 a6) else (ex (bI cC) fun aR=>ex (M aM (aR.add 0) a6) fun cr=>L Pg 136 [.pointer (cr),O.enc (aP.1)] (D .i64) a6 fun cF bH=>j cF bH)
theorem Z8{cC jK w j}(h:ON cC jK w j):L Pg 100 [.pointer cC,O.enc jK] (D .i64) w j:=
 aX 21 Tryz.func100 rfl rfl bf
def OO(cC:aU)(w:World)(j:X→World→Prop):Prop:=ex (bI cC) fun aY=>ex (M dK (aY.add 2) w) fun ez=>L Pg 137 [.map (ez)] O w fun ck aV=>j ck aV
theorem Z9{cC w j}(h:OO cC w j):L Pg 101 [.pointer cC] O w j:=
 aX 8 Tryz.func101 rfl rfl bf
def OP(jL:Int)(bl:Addr)(dm:Addr)(w:World)(j:Unit→World→Prop):Prop:=ds w fun aV=>ex (M aM bl aV) fun dn=>ex (M aM bl aV) fun cr=>ex (M (D .i64) dm aV) fun cZ=>L Pg 86 [.pointer (cr),.int .i64 (cZ)] eB aV fun gh bQ=>bk ((M aM bl bQ) dn)<|L Pg 54 [.pointer (dn),.int .i64 (jL),eB.enc (gh)] cJ bQ fun hz cU=>bk ((M aM bl cU) cr)<|bk ((M (D .i64) dm cU) cZ)<|j () cU
theorem Z_{jL bl dm w j}(h:OP jL bl dm w j):L Pg 102 [.int .i64 jL,.pointer (some bl),.pointer (some dm)] cJ w j:=by
 have gH:=eT 1 (da [1,0,2,3,4,5] .e)
 exact aX 10 Tryz.func102 rfl rfl bf
def OQ(cG:ib)(w:World)(j:Int→World→Prop):Prop:=ch 133 fh cG w fun aY a6=>ex (M fh aY a6) fun dr=>L Pg 141 [fh.enc (dr)] bi a6 fun cT bb=>if (!cT)=true then (j (21:Int) bb) else (ex (M dT (aY.add 4) bb) fun cZ=>if (decide ((cZ.length:Int)>(1000:Int)))=true then (j (24:Int) bb) else (j (0:Int) bb))
theorem aaa{cG w j}(h:OQ cG w j):L Pg 106 [fh.enc cG] (D .i64) w j:=
 aX 12 Tryz.func106 rfl rfl bf
def HI(dJ:Int)(Sa:X)(FJ:Int)(ik:World)(adl:X×Int→World→Prop)(j:X→World→Prop):Prop:=if (decide (FJ≥(0:Int)))=true then (ex (hB (IntKind.u64.wrap FJ) (Int.fdiv dJ (2^(min ((IntKind.u64.wrap FJ)).toNat IntKind.u64.bits)))) fun d27=>kG 5 (D .u8) 1 1 Sa [(IntKind.u8.wrap d27)] ik fun vx mE=>adl (vx,(IntKind.i64.wrap (FJ-(8:Int)))) mE) else (j Sa ik)
def OR(dN:X)(G7:ib)(w:World)(j:X→World→Prop):Prop:=ch 133 fh G7 w fun aI aV=>ex (M (D .i64) (aI.add 0) aV) fun dn=>kG 5 (D .u8) 1 1 dN [(IntKind.u8.wrap dn)] aV fun gh bQ=>ex (M (D .i64) (aI.add 0) bQ) fun dg=>if (dg==(1:Int))=true then (ex (M (D .u64) (aI.add 1) bQ) fun dc=>L Pg 142 [O.enc (gh),.int .u64 (dc)] O bQ fun dZ cO=>j dZ cO) else (if (dg==(2:Int))=true then (ex (M (D .i64) (aI.add 2) bQ) fun fo=>ex (hB (1:Int) (IntKind.u64.wrap ((IntKind.u64.wrap fo)*2^(min ((1:Int)).toNat IntKind.u64.bits)))) fun d15=>ex (M (D .i64) (aI.add 2) bQ) fun hL=>ex (hB (63:Int) (Int.fdiv hL (2^(min ((63:Int)).toNat IntKind.i64.bits)))) fun d17=>L Pg 142 [O.enc (gh),.int .u64 ((bits .xor .u64 d15 (IntKind.u64.wrap d17)))] O bQ fun sP fB=>j sP fB) else (if (dg==(3:Int))=true then (ex (M g2 (aI.add 3) bQ) fun fy=>L Pg 143 [.float .f64 (fy)] (D .u64) bQ fun dJ jj=>e7 (fun (s:X×Int) w aa=>HI dJ s.1 s.2 w aa j) (gh,(56:Int)) jj) else (ds bQ fun jM=>ex (M dT (aI.add 4) jM) fun tR=>ex (M dT (aI.add 4) jM) fun xb=>L Pg 142 [O.enc (gh),.int .u64 ((IntKind.u64.wrap (tR.length:Int)))] O jM fun Dr sU=>bk ((M dT (aI.add 4) sU) tR)<|bk ((M dT (aI.add 4) sU) xb)<|Jf 5 Dr xb sU fun ki sV=>bk ((M dT (aI.add 4) sV) tR)<|j ki sV)))
theorem aab{dN G7 w j}(h:OR dN G7 w j):L Pg 107 [O.enc dN,fh.enc G7] O w j:=by
 have hT:=fun {dJ}=>gK (bE:=X×Int) 11 (fun s w aa=>HI dJ s.1 s.2 w aa j) (fun g s=>av (av (av g 5 (.int .u64 dJ)) 0 (O.enc (s.1))) 6 (.int .i64 (s.2)))
 have gH:=eT 15 (da [0,1,6,2,3,4,7,5,8,9] .e)
 exact aX 61 Tryz.func107 rfl rfl bf
def OS(db:X)(w:World)(j:X→World→Prop):Prop:=if db.a.isNone=true then (j (⟨none,0,0⟩:X) w) else (pI 140 ej ([]:List iv) w fun aY a6=>q1 140 ej 9 96 (⟨some aY,0,0⟩:X) db a6 fun ck aV=>j ck aV)
theorem aac{db w j}(h:OS db w j):L Pg 108 [O.enc db] O w j:=
 aX 8 Tryz.func108 rfl rfl bf
def OT(oG:aU)(BZ:Int)(w:World)(j:Int→World→Prop):Prop:=ex (bI oG) fun aI=>ex (M bi (aI.add 4) w) fun dr=>br bi (aI.add 4) (dr||(BZ==(71:Int))) w fun bb=>j BZ bb
theorem aad{oG BZ w j}(h:OT oG BZ w j):L Pg 109 [.pointer oG,.int .i64 BZ] (D .i64) w j:=
 aX 17 Tryz.func109 rfl rfl bf
def OU(cN:aU)(bW:Int)(w:World)(j:Int→World→Prop):Prop:=L Pg 144 [.pointer (cN),.int .i64 (bW),.int .i64 ((0:Int)),((dz.mk (.func 145) #[] #[])).enc] (D .i64) w fun aP a6=>j aP a6
theorem aaf{cN bW w j}(h:OU cN bW w j):L Pg 110 [.pointer cN,.int .i64 bW] (D .i64) w j:=
 aX 8 Tryz.func110 rfl rfl bf
def OV(bq:aU)(ms:Int)(w:World)(j:Bool→World→Prop):Prop:=ex (fun x=>(decide (ms≥(0:Int)))=true→(bI bq) x) fun aI=>ex (fun x=>(decide (ms≥(0:Int)))=true→(M (D .i64) (aI.add 0) w) x) fun dr=>j ((decide (ms≥(0:Int)))&&(decide (ms<dr))) w
theorem aag{bq ms w j}(h:OV bq ms w j):L Pg 111 [.pointer bq,.int .i64 ms] bi w j:=
 aX 15 Tryz.func111 rfl rfl bf
def OW(bq:aU)(mI:iv)(w:World)(j:Int→World→Prop):Prop:=ch 140 ej mI w fun aI aV=>ex (bI bq) fun aR=>ex (M O (aR.add 2) aV) fun cr=>if (decide ((cr.len:Int)≥(1000:Int)))=true then (j (91:Int) aV) else (ds aV fun bH=>ex (M O (aR.add 2) bH) fun cl=>ex (M ej aI bH) fun cy=>kG 140 ej 9 96 cl [cy] bH fun dZ cO=>bk ((M ej aI cO) cy)<|br O (aR.add 2) dZ cO fun fm=>j (0:Int) fm)
theorem aah{bq mI w j}(h:OW bq mI w j):L Pg 112 [.pointer bq,ej.enc mI] (D .i64) w j:=by
 have gH:=eT 4 (da [0,1,2,3,4,5,6,7,8,9,10] .e)
 exact aX 21 Tryz.func112 rfl rfl bf
def OX(bq:aU)(bC:Int)(w:World)(j:(iv×Int)→World→Prop):Prop:=ch 140 ej ix w fun aI aV=>ex (fun x=>(!(decide (bC<(0:Int))))=true→(bI bq) x) fun aR=>ex (fun x=>(!(decide (bC<(0:Int))))=true→(M O (aR.add 2) aV) x) fun cr=>if ((decide (bC<(0:Int)))||(decide (bC≥(cr.len:Int))))=true then (br ej aI (⟨(0:Int),(0:Int),(0:Int),rR⟩:iv) aV fun bH=>ex (M ej aI bH) fun cl=>j (cl,(92:Int)) bH) else (ex (bI bq) fun jE=>ex (M O (jE.add 2) aV) fun dg=>ex (cz dg 9 bC) fun gm=>ex (M ej gm aV) fun eU=>br ej aI eU aV fun cM=>ex (M ej aI cM) fun fo=>j (fo,(0:Int)) cM)
theorem aai{bq bC w j}(h:OX bq bC w j):L Pg 113 [.pointer bq,.int .i64 bC] (bJ ej (D .i64)) w j:=
 aX 25 Tryz.func113 rfl rfl bf
def OY(bq:aU)(ms:Int)(w:World)(j:Bool→World→Prop):Prop:=ex (bI bq) fun aI=>ex (M dK (aI.add 3) w) fun dr=>ex (fO jn .i64 dr ms w) fun jd=>ch 161 jn oT w fun bU bH=>br jn bU (((jd.getD oT,jd.isSome)).1) bH fun bQ=>j (((jd.getD oT,jd.isSome)).2) bQ
theorem aaj{bq ms w j}(h:OY bq ms w j):L Pg 114 [.pointer bq,.int .i64 ms] bi w j:=
 aX 17 Tryz.func114 rfl rfl bf
def OZ(db:X)(bC:Int)(Ai:Int)(w:World)(j:X→World→Prop):Prop:=ex (Sub db 9 bC Ai (db.len:Int)) fun DB=>if (bC==Ai)=true then (j db w) else (ds w fun bb=>ex (Sub db 9 0 bC ((db).cap:Int)) fun tG=>ex (Sub db 9 Ai ((db).len:Int) ((db).cap:Int)) fun DC=>q1 140 ej 9 96 tG DC bb fun gh bQ=>ex (Sub gh 9 (gh.len:Int) (db.len:Int) ((gh).cap:Int)) fun YA=>tf ej 9 ix YA bQ fun cU=>j gh cU)
theorem aak{db bC Ai w j}(h:OZ db bC Ai w j):L Pg 115 [O.enc db,.int .i64 bC,.int .i64 Ai] O w j:=by
 have gH:=eT 6 (da [0,1,2,3,4,5,6,7] .e)
 exact aX 33 Tryz.func115 rfl rfl bf
def HM(cv:aU)(bh:Addr)(bX:World)(mL:Unit→World→Prop)(j:Unit→World→Prop):Prop:=ds bX fun cU=>ex (M dK (bh.add 3) cU) fun eU=>ex (M (D .i64) (bh.add 5) cU) fun cV=>ex (fO dT .i64 eU (IntKind.i64.wrap (cV+(1:Int))) cU) fun As=>if (!(((As.getD ([]:List UInt8),As.isSome)).2))=true then (j () cU) else (ex (M (D .i64) (bh.add 5) cU) fun hr=>br (D .i64) (bh.add 5) (IntKind.i64.wrap (hr+(1:Int))) cU fun du=>NH 5 (((As.getD ([]:List UInt8),As.isSome)).1) du fun hI eG=>L Pg 146 [O.enc (hI)] (bJ ft bi) eG fun hX e9=>ch 38 ft xH e9 fun nZ fU=>br ft nZ hX.1 fU fun gw=>if hX.2=true then (ex (M ft nZ gw) fun qP=>L Pg 147 [.pointer (cv),ft.enc (qP)] cJ gw fun AI ik=>mL () ik) else (mL () gw))
def O0(cv:aU)(nk:Int)(vI:(List UInt8))(w:World)(j:Unit→World→Prop):Prop:=ex (bI cv) fun bh=>ex (M dK (bh.add 3) w) fun dn=>ex (fO dT .i64 dn nk w) fun vl=>if ((vl.getD ([]:List UInt8),vl.isSome)).2=true then (j () w) else (ex (M dK (bh.add 3) w) fun cZ=>nb dT .i64 cZ nk vI w fun bQ=>e7 (fun (s:Unit) w aa=>HM cv bh w aa j) () bQ)
theorem aal{cv nk vI w j}(h:O0 cv nk vI w j):L Pg 116 [.pointer cv,.int .i64 nk,.string ⟨vI.toArray⟩] cJ w j:=by
 have gH:=eT 4 (da [0,1,2,4,5,6,3,7,8,9,10,11,12,13,14] .e)
 have hT:=fun {bh}=>gK (bE:=Unit) 4 (fun s w aa=>HM cv bh w aa j) (fun g s=>av g 0 (.pointer cv))
 exact aX 60 Tryz.func116 rfl rfl bf
end ba
end Go.Proofs.YtnmmjkjkkmbhiaaGreat
