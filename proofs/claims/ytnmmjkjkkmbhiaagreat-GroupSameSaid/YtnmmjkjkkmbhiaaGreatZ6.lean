/- Own texts of this claim, part 6: short, merged. -/
import Derived.Test.YtnmmjkjkkmbhiaaGreatZ1
set_option maxRecDepth 100000
set_option maxHeartbeats 40000000
set_option linter.defProp false
set_option linter.unusedVariables false
set_option linter.unusedSimpArgs false
namespace Go.Proofs.YtnmmjkjkkmbhiaaGreat
namespace ba
def xh(ca:Int)(fU:World)(j:Int→World→Prop):Prop:=j ca fU
def HN(cC:aU)(c1:Int)(jS:Int)(nq:(List UInt8))(w:World)(j:Int→World→Prop):Prop:=L Pg 99 [.pointer (cC),.int .i64 (c1)] (D .i64) w fun cT bb=>ex (bI cC) fun cw=>ex (M dK (cw.add 2) bb) fun cl=>ex (fO dA .i64 cl jS bb) fun d_=>ch 53 dA hf bb fun cs cU=>br dA cs (((d_.getD hf,d_.isSome)).1) cU fun cO=>if (cT==(231:Int))=true then (j cT cO) else (L Pg 134 [.int .i64 (jS)] bi cO fun pO cM=>if (!pO)=true then (j (232:Int) cM) else (if (decide ((nq.length:Int)>(1000:Int)))=true then (j (233:Int) cM) else (if (cT != (0:Int))=true then (j cT cM) else (ex (fun x=>(((d_.getD hf,d_.isSome)).2)=true→(M (D .i64) (cs.add 1) cM) x) fun hr=>ex (fun x=>(((d_.getD hf,d_.isSome)).2&&(hr==c1))=true→(M dT (cs.add 2) cM) x) fun hL=>if ((((d_.getD hf,d_.isSome)).2&&(hr==c1))&&(!(hL==nq)))=true then (j (235:Int) cM) else (ex (fun x=>(((d_.getD hf,d_.isSome)).2)=true→(M (D .i64) (cs.add 1) cM) x) fun fM=>if (((d_.getD hf,d_.isSome)).2&&(fM==c1))=true then (j (0:Int) cM) else (pI 133 fh [(⟨(1:Int),(2:Int),(0:Int),(0:Nat),([]:List UInt8)⟩:ib),(⟨(2:Int),(0:Int),c1,(0:Nat),([]:List UInt8)⟩:ib),(⟨(2:Int),(0:Int),jS,(0:Nat),([]:List UInt8)⟩:ib),(⟨(4:Int),(0:Int),(0:Int),(0:Nat),nq⟩:ib)] cM fun ul e9=>L Pg 100 [.pointer (cC),O.enc ((⟨some ul,4,4⟩:X))] (D .i64) e9 fun ca fc=>if (ca==(0:Int))=true then (L Pg 135 [.pointer (cC),dA.enc ((⟨jS,c1,nq⟩:eA))] cJ fc fun a3 gw=>xh ca gw j) else (xh ca fc j)))))))
theorem aam{cC:aU}{c1:Int}{jS:Int}{nq:(List UInt8)}{w:World}{j:Int→World→Prop}(h:HN cC c1 jS nq w j):L Pg 117 [.pointer (cC),.int .i64 (c1),.int .i64 (jS),.string ⟨(nq).toArray⟩] (D .i64) w j:=by
 unfold HN at h
 refine pw 81 Tryz.func117 rfl rfl (Nat.le_of_ble_eq_true rfl) ?_
 refine wp_seq ?_
 refine bv [0] rfl ?_
 refine bo 8 rfl rfl rfl (yI (v:=.int .i64 ((0:Int))) rfl rfl) ?_
 refine bp ?_
 refine wp_seq ?_
 refine bv [0,1,2,3] rfl ?_
 refine bo 12 rfl rfl rfl (bZ (v:=.pointer (cC)) rfl rfl) ?_
 refine bo 13 rfl rfl rfl (bZ (v:=.int .i64 (c1)) rfl rfl) ?_
 refine e3 rfl (.free rfl) (dj (d:=(some 14)) rfl (c3 (k:=99) (c:=[.pointer (cC),.int .i64 (c1)]) rfl agv rfl) h ?_)
 intro cT bb h
 refine bo 9 rfl rfl rfl (yI (v:=.int .i64 (cT)) rfl rfl) ?_
 refine bp ?_
 refine wp_seq ?_
 refine bv [0,1,2,3,4,5,6,7,8,9,10,11] rfl ?_
 refine bo 16 rfl rfl rfl (bZ (v:=.pointer (cC)) rfl rfl) ?_
 obtain⟨cw,ahV,h⟩:=h
 refine bo 17 rfl rfl rfl (og (a:=cw) rfl (congrArg Value.pointer ahV)) ?_
 refine bo 18 rfl rfl rfl (kh (a:=cw) (off:=2) rfl Tryz.underlying145 rfl rfl Gh (by decide) rfl) ?_
 obtain⟨cl,CL,h⟩:=h
 refine bo 19 rfl rfl rfl (jh (T:=dK) (u:=cl) (a:=(cw.add 2)) rfl Gh rfl CL) ?_
 refine bo 20 rfl rfl rfl (bZ (v:=.int .i64 (jS)) rfl rfl) ?_
 obtain⟨d_,Cv,h⟩:=h
 refine bo 21 rfl rfl rfl (Dj (T:=dA) (r:=cl) (key:=jS) (u:=d_) (aL:=hf) rfl Tryz.underlying143 Tryz.underlying3 (yl) rfl rfl Cv) ?_
 refine bo 15 rfl rfl rfl (bZ (v:=(bJ dA bi).enc (((d_.getD hf,d_.isSome)))) rfl rfl) ?_
 refine bo 22 rfl rfl rfl (pM (aK:=#[dA.enc (((d_.getD hf,d_.isSome)).1),.bool (((d_.getD hf,d_.isSome)).2)]) (v:=dA.enc (((d_.getD hf,d_.isSome)).1)) rfl rfl rfl) ?_
 refine bo 23 rfl rfl rfl (pM (aK:=#[dA.enc (((d_.getD hf,d_.isSome)).1),.bool (((d_.getD hf,d_.isSome)).2)]) (v:=.bool (((d_.getD hf,d_.isSome)).2)) rfl rfl rfl) ?_
 obtain⟨cs,cU,Cl,FG,h⟩:=rr h
 refine bo 10 rfl rfl rfl (AF (u:=hf) rfl Ay yl Cl FG) ?_
 obtain⟨cO,CI,CB,h⟩:=qM h
 refine Ys (d:=none) rfl (.free rfl) rfl (qH (T:=dA) (u:=((d_.getD hf,d_.isSome)).1) (a:=cs) rfl Ay rfl rfl CB CI) ?_
 refine bo 11 rfl rfl rfl (yI (v:=.bool (((d_.getD hf,d_.isSome)).2)) rfl rfl) ?_
 refine bp ?_
 refine wp_seq ?_
 refine wp_block ?_
 refine wp_seq ?_
 refine bv [0,1,2] rfl ?_
 refine bo 25 rfl rfl rfl (bZ (v:=.int .i64 (cT)) rfl rfl) ?_
 refine bo 26 rfl rfl rfl (ey (a:=cT) (b:=(231:Int)) rfl rfl rfl) ?_
 refine bo 24 rfl rfl rfl (yI (v:=.bool ((cT==(231:Int)))) rfl rfl) ?_
 refine bp ?_
 refine Hv (b:=(cT==(231:Int))) rfl h (fun aCw h=>?_) (fun aCw h=>?_)
 ·refine wp_seq ?_
  refine bv [0,1] rfl ?_
  refine bo 27 rfl rfl rfl (bZ (v:=.int .i64 (cT)) rfl rfl) ?_
  refine bo 8 rfl rfl rfl (yI (v:=.int .i64 (cT)) rfl rfl) ?_
  refine bp ?_
  refine wp_ret ?_
  exact ph rfl (.cons (.tmp (v:=.int .i64 (cT)) rfl) .nil) ⟨cT,rfl,h⟩
 ·refine wp_seq ?_
  refine bv [0,1,2,3] rfl ?_
  refine bo 29 rfl rfl rfl (bZ (v:=.int .i64 (jS)) rfl rfl) ?_
  refine e3 rfl (.free rfl) (dj (d:=(some 30)) rfl (c3 (k:=134) (c:=[.int .i64 (jS)]) rfl SQ rfl) h ?_)
  intro pO cM h
  refine bo 31 rfl rfl rfl (lx (b:=pO) rfl rfl) ?_
  refine bo 28 rfl rfl rfl (yI (v:=.bool ((!pO))) rfl rfl) ?_
  refine bp ?_
  refine Hv (b:=(!pO)) rfl h (fun aCv h=>?_) (fun aCv h=>?_)
  ·refine wp_seq ?_
   refine bv [0] rfl ?_
   refine bo 8 rfl rfl rfl (yI (v:=.int .i64 ((232:Int))) rfl rfl) ?_
   refine bp ?_
   refine wp_ret ?_
   exact ph rfl (.cons (.tmp (v:=.int .i64 ((232:Int))) rfl) .nil) ⟨(232:Int),rfl,h⟩
  ·refine wp_seq ?_
   refine bv [0,1,2,3] rfl ?_
   refine bo 33 rfl rfl rfl (bZ (v:=.string ⟨(nq).toArray⟩) rfl rfl) ?_
   refine bo 34 rfl rfl rfl (Na (s:=nq) rfl Tryz.underlying9 rfl) ?_
   refine bo 35 rfl rfl rfl (vu (a:=(nq.length:Int)) (b:=(1000:Int)) rfl rfl rfl) ?_
   refine bo 32 rfl rfl rfl (yI (v:=.bool ((decide ((nq.length:Int)>(1000:Int))))) rfl rfl) ?_
   refine bp ?_
   refine Hv (b:=(decide ((nq.length:Int)>(1000:Int)))) rfl h (fun aCu h=>?_) (fun aCu h=>?_)
   ·refine wp_seq ?_
    refine bv [0] rfl ?_
    refine bo 8 rfl rfl rfl (yI (v:=.int .i64 ((233:Int))) rfl rfl) ?_
    refine bp ?_
    refine wp_ret ?_
    exact ph rfl (.cons (.tmp (v:=.int .i64 ((233:Int))) rfl) .nil) ⟨(233:Int),rfl,h⟩
   ·refine wp_seq ?_
    refine bv [0,1,2] rfl ?_
    refine bo 37 rfl rfl rfl (bZ (v:=.int .i64 (cT)) rfl rfl) ?_
    refine bo 38 rfl rfl rfl (hW (a:=cT) (b:=(0:Int)) rfl rfl rfl) ?_
    refine bo 36 rfl rfl rfl (yI (v:=.bool ((cT != (0:Int)))) rfl rfl) ?_
    refine bp ?_
    refine Hv (b:=(cT != (0:Int))) rfl h (fun mm h=>?_) (fun mm h=>?_)
    ·refine wp_seq ?_
     refine bv [0,1] rfl ?_
     refine bo 39 rfl rfl rfl (bZ (v:=.int .i64 (cT)) rfl rfl) ?_
     refine bo 8 rfl rfl rfl (yI (v:=.int .i64 (cT)) rfl rfl) ?_
     refine bp ?_
     refine wp_ret ?_
     exact ph rfl (.cons (.tmp (v:=.int .i64 (cT)) rfl) .nil) ⟨cT,rfl,h⟩
    ·refine wp_seq ?_
     refine bv [0,1,2,3,4,5,6,7,8,9,10,11,12,13] rfl ?_
     refine bo 41 rfl rfl rfl (bZ (v:=.bool (((d_.getD hf,d_.isSome)).2)) rfl rfl) ?_
     refine bo 42 rfl rfl rfl (bZ (v:=.bool (((d_.getD hf,d_.isSome)).2)) rfl rfl) ?_
     refine Dv (g:=((d_.getD hf,d_.isSome)).2) (d:=(some 43)) rfl (.h_ 1 42 true (((d_.getD hf,d_.isSome)).2) rfl rfl rfl rfl) rfl (fun ae=>kh (a:=cs) (off:=1) rfl Tryz.underlying53 rfl rfl ew (by decide) rfl) ?_
     obtain⟨hr,Lf,h⟩:=h
     refine Dv (g:=((d_.getD hf,d_.isSome)).2) (d:=(some 44)) rfl (.h_ 1 42 true (((d_.getD hf,d_.isSome)).2) rfl rfl rfl rfl) rfl (fun ae=>jh (T:=(D .i64)) (u:=hr) (a:=(cs.add 1)) rfl ew (c2 ae) (Lf ae)) ?_
     refine Dv (g:=((d_.getD hf,d_.isSome)).2) (d:=(some 45)) rfl (.h_ 1 42 true (((d_.getD hf,d_.isSome)).2) rfl rfl rfl rfl) rfl (fun ae=>bZ (v:=.int .i64 (c1)) rfl rfl) ?_
     refine Dv (g:=((d_.getD hf,d_.isSome)).2) (d:=(some 46)) rfl (.h_ 1 42 true (((d_.getD hf,d_.isSome)).2) rfl rfl rfl rfl) rfl (fun ae=>ey (k:=.i64) (a:=hr) (b:=c1) rfl (c2 ae) (c2 ae)) ?_
     refine bo 47 rfl rfl rfl (ky (a:=((d_.getD hf,d_.isSome)).2) (b:=(hr==c1)) rfl rfl rfl rfl) ?_
     refine bo 48 rfl rfl rfl (bZ (v:=.bool ((((d_.getD hf,d_.isSome)).2&&(hr==c1)))) rfl rfl) ?_
     refine Dv (g:=(((d_.getD hf,d_.isSome)).2&&(hr==c1))) (d:=(some 49)) rfl (.h_ 7 48 true (((d_.getD hf,d_.isSome)).2&&(hr==c1)) rfl rfl rfl rfl) rfl (fun ae=>kh (a:=cs) (off:=2) rfl Tryz.underlying53 rfl rfl pg (by decide) rfl) ?_
     obtain⟨hL,Lg,h⟩:=h
     refine Dv (g:=(((d_.getD hf,d_.isSome)).2&&(hr==c1))) (d:=(some 50)) rfl (.h_ 7 48 true (((d_.getD hf,d_.isSome)).2&&(hr==c1)) rfl rfl rfl rfl) rfl (fun ae=>jh (T:=dT) (u:=hL) (a:=(cs.add 2)) rfl pg (c2 ae) (Lg ae)) ?_
     refine Dv (g:=(((d_.getD hf,d_.isSome)).2&&(hr==c1))) (d:=(some 51)) rfl (.h_ 7 48 true (((d_.getD hf,d_.isSome)).2&&(hr==c1)) rfl rfl rfl rfl) rfl (fun ae=>bZ (v:=.string ⟨(nq).toArray⟩) rfl rfl) ?_
     refine Dv (g:=(((d_.getD hf,d_.isSome)).2&&(hr==c1))) (d:=(some 52)) rfl (.h_ 7 48 true (((d_.getD hf,d_.isSome)).2&&(hr==c1)) rfl rfl rfl rfl) rfl (fun ae=>Nj (a:=hL) (b:=nq) rfl (c2 ae) (c2 ae)) ?_
     refine bo 53 rfl rfl rfl (ky (a:=(((d_.getD hf,d_.isSome)).2&&(hr==c1))) (b:=(!(hL==nq))) rfl rfl rfl rfl) ?_
     refine bo 40 rfl rfl rfl (yI (v:=.bool (((((d_.getD hf,d_.isSome)).2&&(hr==c1))&&(!(hL==nq))))) rfl rfl) ?_
     refine bp ?_
     refine Hv (b:=((((d_.getD hf,d_.isSome)).2&&(hr==c1))&&(!(hL==nq)))) rfl h (fun aCt h=>?_) (fun aCt h=>?_)
     ·refine wp_seq ?_
      refine bv [0] rfl ?_
      refine bo 8 rfl rfl rfl (yI (v:=.int .i64 ((235:Int))) rfl rfl) ?_
      refine bp ?_
      refine wp_ret ?_
      exact ph rfl (.cons (.tmp (v:=.int .i64 ((235:Int))) rfl) .nil) ⟨(235:Int),rfl,h⟩
     ·refine wp_seq ?_
      refine bv [0,1,2,3,4,5,6,7] rfl ?_
      refine bo 55 rfl rfl rfl (bZ (v:=.bool (((d_.getD hf,d_.isSome)).2)) rfl rfl) ?_
      refine bo 56 rfl rfl rfl (bZ (v:=.bool (((d_.getD hf,d_.isSome)).2)) rfl rfl) ?_
      refine Dv (g:=((d_.getD hf,d_.isSome)).2) (d:=(some 57)) rfl (.h_ 1 56 true (((d_.getD hf,d_.isSome)).2) rfl rfl rfl rfl) rfl (fun ae=>kh (a:=cs) (off:=1) rfl Tryz.underlying53 rfl rfl ew (by decide) rfl) ?_
      obtain⟨fM,CK,h⟩:=h
      refine Dv (g:=((d_.getD hf,d_.isSome)).2) (d:=(some 58)) rfl (.h_ 1 56 true (((d_.getD hf,d_.isSome)).2) rfl rfl rfl rfl) rfl (fun ae=>jh (T:=(D .i64)) (u:=fM) (a:=(cs.add 1)) rfl ew (c2 ae) (CK ae)) ?_
      refine Dv (g:=((d_.getD hf,d_.isSome)).2) (d:=(some 59)) rfl (.h_ 1 56 true (((d_.getD hf,d_.isSome)).2) rfl rfl rfl rfl) rfl (fun ae=>bZ (v:=.int .i64 (c1)) rfl rfl) ?_
      refine Dv (g:=((d_.getD hf,d_.isSome)).2) (d:=(some 60)) rfl (.h_ 1 56 true (((d_.getD hf,d_.isSome)).2) rfl rfl rfl rfl) rfl (fun ae=>ey (k:=.i64) (a:=fM) (b:=c1) rfl (c2 ae) (c2 ae)) ?_
      refine bo 61 rfl rfl rfl (ky (a:=((d_.getD hf,d_.isSome)).2) (b:=(fM==c1)) rfl rfl rfl rfl) ?_
      refine bo 54 rfl rfl rfl (yI (v:=.bool ((((d_.getD hf,d_.isSome)).2&&(fM==c1)))) rfl rfl) ?_
      refine bp ?_
      refine Hv (b:=(((d_.getD hf,d_.isSome)).2&&(fM==c1))) rfl h (fun aCs h=>?_) (fun aCs h=>?_)
      ·refine wp_seq ?_
       refine bv [0] rfl ?_
       refine bo 8 rfl rfl rfl (yI (v:=.int .i64 ((0:Int))) rfl rfl) ?_
       refine bp ?_
       refine wp_ret ?_
       exact ph rfl (.cons (.tmp (v:=.int .i64 ((0:Int))) rfl) .nil) ⟨(0:Int),rfl,h⟩
      ·refine wp_skip ?_
       refine wp_seq ?_
       refine bv [0,1,2,3,4,5,6,7,8,9,10] rfl ?_
       refine bo 62 rfl rfl rfl (bZ (v:=.pointer (cC)) rfl rfl) ?_
       refine bo 63 rfl rfl rfl (M0 (a9:=(1:Int)) (ct:=(2:Int)) rfl rfl rfl) ?_
       refine bo 64 rfl rfl rfl (bZ (v:=.int .i64 (c1)) rfl rfl) ?_
       refine bo 65 rfl rfl rfl (GD (a9:=(2:Int)) (eo:=c1) rfl rfl rfl) ?_
       refine bo 66 rfl rfl rfl (bZ (v:=.int .i64 (jS)) rfl rfl) ?_
       refine bo 67 rfl rfl rfl (GD (a9:=(2:Int)) (eo:=jS) rfl rfl rfl) ?_
       refine bo 68 rfl rfl rfl (bZ (v:=.string ⟨(nq).toArray⟩) rfl rfl) ?_
       refine bo 69 rfl rfl rfl (M1 (a9:=(4:Int)) (h8:=nq) rfl rfl rfl) ?_
       obtain⟨ul,e9,ahF,K7,h⟩:=yA h
       refine bo 70 rfl rfl rfl (wV (T:=fh) (xs:=[(⟨(1:Int),(2:Int),(0:Int),(0:Nat),([]:List UInt8)⟩:ib),(⟨(2:Int),(0:Int),c1,(0:Nat),([]:List UInt8)⟩:ib),(⟨(2:Int),(0:Int),jS,(0:Nat),([]:List UInt8)⟩:ib),(⟨(4:Int),(0:Int),(0:Int),(0:Nat),nq⟩:ib)]) rfl Tryz.underlying134 g9 rj rfl (by decide) (by decide) rfl ahF K7) ?_
       refine e3 rfl (.free rfl) (dj (d:=(some 71)) rfl (c3 (k:=100) (c:=[.pointer (cC),O.enc ((⟨some ul,4,4⟩:X))]) rfl afS rfl) h ?_)
       intro ca fc h
       refine bo 9 rfl rfl rfl (yI (v:=.int .i64 (ca)) rfl rfl) ?_
       refine bp ?_
       refine wZ (bE:=Unit) (eV:=fun (s:Unit) w=>xh ca w j) (bT:=fun g (s:Unit)=>av (g) 9 (.int .i64 (ca))) ?_ ?_
       ·rintro⟨⟩ g fU h
        unfold xh at h
        refine wp_seq ?_
        refine bv [0,1] rfl ?_
        refine bo 80 rfl rfl rfl (bZ (v:=.int .i64 (ca)) rfl rfl) ?_
        refine bo 8 rfl rfl rfl (yI (v:=.int .i64 (ca)) rfl rfl) ?_
        refine bp ?_
        refine wp_ret ?_
        exact ph rfl (.cons (.tmp (v:=.int .i64 (ca)) rfl) .nil) ⟨ca,rfl,h⟩
       ·refine wp_seq ?_
        refine bv [0,1] rfl ?_
        refine bo 72 rfl rfl rfl (bZ (v:=.int .i64 (ca)) rfl rfl) ?_
        refine bo 73 rfl rfl rfl (ey (a:=ca) (b:=(0:Int)) rfl rfl rfl) ?_
        refine bp ?_
        refine Hv (b:=(ca==(0:Int))) rfl h (fun aCr h=>?_) (fun aCr h=>?_)
        ·refine bv [0,1,2,3,4,5] rfl ?_
         refine bo 74 rfl rfl rfl (bZ (v:=.pointer (cC)) rfl rfl) ?_
         refine bo 75 rfl rfl rfl (bZ (v:=.int .i64 (jS)) rfl rfl) ?_
         refine bo 76 rfl rfl rfl (bZ (v:=.int .i64 (c1)) rfl rfl) ?_
         refine bo 77 rfl rfl rfl (bZ (v:=.string ⟨(nq).toArray⟩) rfl rfl) ?_
         refine bo 78 rfl rfl rfl (Dg (a9:=jS) (ct:=c1) (eo:=nq) rfl rfl rfl rfl) ?_
         refine e3 rfl (.free rfl) (dj (d:=(some 79)) rfl (c3 (k:=135) (c:=[.pointer (cC),dA.enc ((⟨jS,c1,nq⟩:eA))]) rfl SR rfl) h ?_)
         intro a3 gw h
         refine bp ?_
         exact⟨(),_,arr (aW rfl rfl),h⟩
        ·refine wp_skip ?_
         exact⟨(),_,arr (aW rfl rfl),h⟩
def O1(aS:aU)(bW:Int)(w:World)(j:Bool→World→Prop):Prop:=ex (bI aS) fun aI=>ex (M O (aI.add 1) w) fun dr=>j (decide ((IntKind.i64.wrap ((2:Int)*bW))>(dr.len:Int))) w
theorem aan{aS bW w j}(h:O1 aS bW w j):L Pg 118 [.pointer aS,.int .i64 bW] bi w j:=
 aX 13 Tryz.func118 rfl rfl bf
def O2(cv:(Option Nat))(w:World)(j:dz→World→Prop):Prop:=ch 63 dK cv w fun aY a6=>j (dz.mk (.func 148) (List.toArray []) (List.toArray [.pointer (some aY)])) a6
theorem aao{cv w j}(h:O2 cv w j):L Pg 119 [.map cv] qN w j:=
 aX 4 Tryz.func119 rfl rfl bf
def Ev(k_:Int)(cO:World)(pq:Int→World→Prop)(j:X→World→Prop):Prop:=pq ((IntKind.i64.wrap (k_+(1:Int)))) cO
def HR(fQ:Nat)(fA:Int)(cl:X)(k_:Int)(b3:World)(ja:Int→World→Prop)(pq:Int→World→Prop)(j:X→World→Prop):Prop:=if (decide (k_<(cl.len:Int)))=true then (ex (cz cl 3 k_) fun hC=>ex (M dA hC b3) fun fo=>ch 53 dA hf b3 fun hg du=>br dA hg fo du fun eG=>ex (M (D .i64) (hg.add 0) eG) fun gx=>ex (fO dA .i64 (some fQ) gx eG) fun gu=>ch 53 dA hf eG fun ps jj=>br dA ps (((gu.getD hf,gu.isSome)).1) jj fun fU=>ex (fun x=>(!(!(((gu.getD hf,gu.isSome)).2)))=true→(M (D .i64) (hg.add 1) fU) x) fun mG=>ex (fun x=>(!(!(((gu.getD hf,gu.isSome)).2)))=true→(M (D .i64) (ps.add 1) fU) x) fun qP=>if ((!(((gu.getD hf,gu.isSome)).2))||(decide (mG>qP)))=true then (ex (M (D .i64) (hg.add 0) fU) fun oL=>ex (M dA hg fU) fun il=>nb dA .i64 (some fQ) oL il fU fun hA=>Ev k_ hA pq j) else (Ev k_ fU pq j)) else (ja ((IntKind.i64.wrap (fA+(1:Int)))) b3)
def HQ(e6:X)(fQ:Nat)(fA:Int)(bb:World)(ja:Int→World→Prop)(j:X→World→Prop):Prop:=if (decide (fA<(e6.len:Int)))=true then (ex (cz e6 1 fA) fun cw=>ex (M O cw bb) fun cl=>e7 (fun (s:Int) w aa=>HR fQ fA cl s w ja aa j) ((0:Int)) bb) else (L Pg 137 [.map ((some fQ))] O bb fun vx mE=>j vx mE)
def O4(e6:X)(w:World)(j:X→World→Prop):Prop:=pf w fun fQ cK=>e7 (fun (s:Int) w aa=>HQ e6 fQ s w aa j) ((0:Int)) cK
theorem aaq{e6 w j}(h:O4 e6 w j):L Pg 120 [O.enc e6] O w j:=by
 have kJ:=fun {k_} {pq} {fQ} {fA} {cl:X}=>kv (bE:=Unit) 12 (fun s w=>Ev k_ w pq j) (fun g s=>av (av (av (av (av (av (av g 3 (.map ((some fQ)))) 11 (O.enc e6)) 12 (.int .i64 ((e6.len:Int)))) 13 (.int .i64 fA)) 17 (O.enc cl)) 18 (.int .i64 ((cl.len:Int)))) 19 (.int .i64 k_))
 have hT:=fun {fQ} {fA} {cl:X} {ja}=>gK (bE:=Int) 7 (fun s w aa=>HR fQ fA cl s w ja aa j) (fun g s=>av (av (av (av (av (av (av g 3 (.map ((some fQ)))) 11 (O.enc e6)) 12 (.int .i64 ((e6.len:Int)))) 13 (.int .i64 fA)) 17 (O.enc cl)) 18 (.int .i64 ((cl.len:Int)))) 19 (.int .i64 s))
 have C0:=fun {fQ}=>gK (bE:=Int) 4 (fun s w aa=>HQ e6 fQ s w aa j) (fun g s=>av (av (av (av g 3 (.map ((some fQ)))) 11 (O.enc e6)) 12 (.int .i64 ((e6.len:Int)))) 13 (.int .i64 s))
 exact aX 47 Tryz.func120 rfl rfl bf
def O5(jL:Int)(bl:Addr)(dm:Addr)(fA:Addr)(w:World)(j:Unit→World→Prop):Prop:=ex (M (D .i64) bl w) fun dn=>if (jL != dn)=true then (ex (M aM dm w) fun cr=>ex (M eB fA w) fun cZ=>L Pg 54 [.pointer (cr),.int .i64 (jL),eB.enc (cZ)] cJ w fun gh bQ=>j () bQ) else (j () w)
theorem aar{jL bl dm fA w j}(h:O5 jL bl dm fA w j):L Pg 122 [.int .i64 jL,.pointer (some bl),.pointer (some dm),.pointer (some fA)] cJ w j:=
 aX 12 Tryz.func122 rfl rfl bf
def O6(db:aU)(fu:Int)(w:World)(j:Int→World→Prop):Prop:=L Pg 149 [.int .i64 (fu)] bi w fun aP a6=>if (!aP)=true then (j (120:Int) a6) else (ex (bI db) fun aR=>ex (M (D .i64) (aR.add 1) a6) fun cr=>if (decide (fu>cr))=true then (j (128:Int) a6) else (ex (M (D .i64) (aR.add 2) a6) fun cZ=>if (decide (fu<cZ))=true then (j (126:Int) a6) else (j (0:Int) a6)))
theorem aas{db fu w j}(h:O6 db fu w j):L Pg 123 [.pointer db,.int .i64 fu] (D .i64) w j:=
 aX 23 Tryz.func123 rfl rfl bf
def O7(cv:(Option Nat))(w:World)(j:dz→World→Prop):Prop:=ch 205 dK cv w fun aY a6=>j (dz.mk (.func 150) (List.toArray []) (List.toArray [.pointer (some aY)])) a6
theorem aat{cv w j}(h:O7 cv w j):L Pg 124 [.map cv] qN w j:=
 aX 4 Tryz.func124 rfl rfl bf
def O8(g6:aU)(fu:Int)(w:World)(j:(ei×Int)→World→Prop):Prop:=ch 210 cX iy w fun aI aV=>if ((decide (fu<(0:Int)))||(decide (fu>(1125899906842624:Int))))=true then (br cX aI (⟨(0:Int),(0:Int)⟩:ei) aV fun bb=>ex (M cX aI bb) fun cr=>j (cr,(110:Int)) bb) else (ex (bI g6) fun cw=>ex (M (D .i64) (cw.add 1) aV) fun cl=>if (decide (fu<cl))=true then (br cX aI (⟨(0:Int),(0:Int)⟩:ei) aV fun bX=>ex (M cX aI bX) fun dg=>j (dg,(113:Int)) bX) else (L Pg 151 [.pointer (g6),.int .i64 (fu)] (D .i64) aV fun hz cU=>if (hz==(0:Int))=true then (br cX aI (⟨(0:Int),(0:Int)⟩:ei) cU fun cM=>ex (M cX aI cM) fun fo=>j (fo,(114:Int)) cM) else (ex (M O (cw.add 0) cU) fun hr=>ex (cz hr 2 (IntKind.i64.wrap (hz-(1:Int)))) fun eC=>ex (M cX eC cU) fun fM=>br cX aI fM cU fun fB=>ex (M cX aI fB) fun kU=>j (kU,(0:Int)) fB)))
theorem aau{g6 fu w j}(h:O8 g6 fu w j):L Pg 125 [.pointer g6,.int .i64 fu] (bJ cX (D .i64)) w j:=
 aX 37 Tryz.func125 rfl rfl bf
def HS(jk:Nat)(w:World)(j:Nat→World→Prop):Prop:=j (Int.toNat (bits .andNot .u64 (jk:Int) (9223372036854775808:Int))) w
theorem O9{jk w j}(h:HS jk w j):L Pg 127 [.float .f64 jk] g2 w j:=
 aX 7 Tryz.func127 rfl rfl bf
def O_(cN:aU)(bW:Int)(w:World)(j:(X×Int)→World→Prop):Prop:=L Pg 153 [.pointer (cN),.int .i64 (bW)] bi w fun aP a6=>if (!aP)=true then (j ((⟨none,0,0⟩:X),(70:Int)) a6) else (ex (bI cN) fun aR=>ex (M bi (aR.add 2) a6) fun cr=>if cr=true then (j ((⟨none,0,0⟩:X),(71:Int)) a6) else (ex (M O (aR.add 0) a6) fun cZ=>ex (cz cZ 2 bW) fun eH=>ex (M O (eH.add 0) a6) fun cy=>vn 5 (D .u8) 1 (0:Int) (cy.len:Int) (cy.len:Int) a6 fun dt b3=>ex (M O (aR.add 0) b3) fun eU=>ex (cz eU 2 bW) fun hC=>ex (M O (hC.add 0) b3) fun fo=>zP (D .u8) 1 dt fo b3 fun fS fm=>j (dt,(0:Int)) fm))
theorem aav{cN bW w j}(h:O_ cN bW w j):L Pg 128 [.pointer cN,.int .i64 bW] (bJ O (D .i64)) w j:=
 aX 38 Tryz.func128 rfl rfl bf
def HT(dN:X)(jK:X)(Ji:Int)(aV:World)(j3:X×Int→World→Prop)(j:(X×Int)→World→Prop):Prop:=ex (Sub dN 1 Ji ((dN).len:Int) ((dN).cap:Int)) fun tG=>L Pg 154 [O.enc (tG)] (qO O (D .i64) (D .i64)) aV fun cF bH=>if (cF.2.2 != (0:Int))=true then (j (jK,Ji) bH) else (kG 79 O 1 24 jK [cF.1] bH fun hz cU=>j3 (hz,(IntKind.i64.wrap (Ji+cF.2.1))) cU)
def Pa(dN:X)(w:World)(j:(X×Int)→World→Prop):Prop:=e7 (fun (s:X×Int) w aa=>HT dN s.1 s.2 w aa j) ((⟨none,0,0⟩:X),(0:Int)) w
theorem aaw{dN w j}(h:Pa dN w j):L Pg 129 [O.enc dN] (bJ O (D .i64)) w j:=by
 have hT:=gK (bE:=X×Int) 4 (fun s w aa=>HT dN s.1 s.2 w aa j) (fun g s=>av (av (av g 0 (O.enc dN)) 4 (O.enc (s.1))) 5 (.int .i64 (s.2)))
 exact aX 28 Tryz.func129 rfl rfl bf
def Pc(cN:aU)(bW:Int)(q2:X)(w:World)(j:Int→World→Prop):Prop:=ch 79 O q2 w fun bh bb=>ex (M O bh bb) fun cr=>L Pg 144 [.pointer (cN),.int .i64 (bW),.int .i64 ((cr.len:Int)),((dz.mk (.func 155) (List.toArray []) (List.toArray [.pointer (some bh)]))).enc] (D .i64) bb fun cF bH=>j cF bH
theorem aay{cN bW q2 w j}(h:Pc cN bW q2 w j):L Pg 130 [.pointer cN,.int .i64 bW,O.enc q2] (D .i64) w j:=
 aX 13 Tryz.func130 rfl rfl bf
def Pd(cN:aU)(bW:Int)(w:World)(j:Int→World→Prop):Prop:=L Pg 153 [.pointer (cN),.int .i64 (bW)] bi w fun aP a6=>if (!aP)=true then (j (0:Int) a6) else (ex (bI cN) fun aR=>ex (M O (aR.add 0) a6) fun cr=>ex (cz cr 2 bW) fun cw=>ex (M (D .i64) (cw.add 1) a6) fun cl=>j cl a6)
theorem aaz{cN bW w j}(h:Pd cN bW w j):L Pg 131 [.pointer cN,.int .i64 bW] (D .i64) w j:=
 aX 17 Tryz.func131 rfl rfl bf
def xi(cs:Addr)(aY:Addr)(bh:Addr)(bU:Addr)(j:(X×Int×Int)→World→Prop)(v:dP)(w:World):Prop:=vk Pg 156 [.pointer (some cs),.pointer (some aY),.pointer (some bh),.pointer (some bU)] (.panicking (wQ v)) w fun rH=>ex (M O aY rH) fun hM=>ex (M (D .i64) bh rH) fun eP=>ex (M (D .i64) bU rH) fun gD=>j (hM,eP,gD) rH
def HV(dN:X)(aY:Addr)(bh:Addr)(bU:Addr)(eH:Addr)(cs:Addr)(cM:World)(p8:Unit→World→Prop)(j:(X×Int×Int)→World→Prop):Prop:=ex (M (D .i64) (eH.add 1) cM) fun hr=>if (decide (hr<(dN.len:Int)))=true then (ex (M (D .i64) (eH.add 1) cM) fun hL=>br (D .i64) cs hL cM fun eG=>ex (M O aY eG) fun gx=>if ((gx.len:Int)==(1000:Int))=true then ((xi cs aY bh bU j) (dP.mk 247 (iw.enc ((⟨(20:Int)⟩:iJ)))) eG) else (ds eG fun e9=>ex (M O aY e9) fun fy=>lM Pg 157 [.pointer ((some eH))] fh e9 (xi cs aY bh bU j) fun dJ jj=>bk ((M O aY jj) fy)<|kG 133 fh 5 48 fy [dJ] jj fun cB gQ=>br O aY cB gQ fun h9=>p8 () h9)) else (ex (M O aY cM) fun eE=>br O aY eE cM fun kS=>br (D .i64) bh (0:Int) kS fun lD=>br (D .i64) bU (0:Int) lD fun jM=>vk Pg 156 [.pointer (some cs),.pointer (some aY),.pointer (some bh),.pointer (some bU)] .returning jM fun rH=>ex (M O aY rH) fun hM=>ex (M (D .i64) bh rH) fun eP=>ex (M (D .i64) bU rH) fun gD=>j (hM,eP,gD) rH)
def HU(dN:X)(w:World)(j:(X×Int×Int)→World→Prop):Prop:=ch 134 O (⟨none,0,0⟩:X) w fun aY a6=>ch 3 (D .i64) (0:Int) a6 fun bh bb=>ch 25 (D .i64) (0:Int) bb fun bU bH=>ch 245 zD (⟨dN,(0:Int)⟩:s9) bH fun eH bX=>ch 3 (D .i64) (0:Int) bX fun cs cU=>br (D .i64) cs (0:Int) cU fun cO=>e7 (fun (s:Unit) w aa=>HV dN aY bh bU eH cs w aa j) () cO
theorem aaA{dN:X}{w:World}{j:(X×Int×Int)→World→Prop}(h:HU dN w j):L Pg 132 [O.enc (dN)] (qO O (D .i64) (D .i64)) w j:=by
 unfold HU at h
 refine aeN (nL:=[2,3,4]) 33 Tryz.func132 rfl rfl (Nat.le_of_ble_eq_true rfl)<|wp_seq<|bv _ rfl<|q6 sF Ls h rfl fun aY a6 h=>q6 ea CO h rfl fun bh bb h=>q6 tz Lx h rfl fun bU bH h=>bp<|wp_seq<|bv _ rfl<|m rfl<|bo 8 rfl rfl rfl (M4 (a9:=dN) rfl rfl) ?_
 obtain⟨eH,bX,J2,Ld,h⟩:=rr h
 refine bo 9 rfl rfl rfl (AG (u:=(⟨dN,(0:Int)⟩:s9)) rfl V_ rfl J2 Ld)<|m rfl<|bp<|wp_seq<|bv _ rfl<|q6 ea CO h rfl fun cs cU h=>lQ ea h rfl rfl rfl fun cO h=>bp<|wp_seq<|bv _ rfl<|bo 10 rfl rfl rfl (Nd (fn:=.func 156) (N0:=[]) (N2:=[.pointer (some cs),.pointer (some aY),.pointer (some bh),.pointer (some bU)]) rfl rfl rfl)<|e3 rfl (.free rfl) (azU (k:=156) (a4:=[.pointer (some cs),.pointer (some aY),.pointer (some bh),.pointer (some bU)]) (d:=none) rfl rfl rfl ?_)
 refine bp<|wp_seq<|wp_block<|ys (bE:=Unit) (bT:=fun g (s:Unit)=>av (av (av (av (av (av (g) 0 (O.enc (dN))) 2 (.pointer (some aY))) 3 (.pointer (some bh))) 4 (.pointer (some bU))) 5 (.pointer ((some eH)))) 6 (.pointer (some cs))) (eJ:=()) (aW (aW (aW (aW (aW (aW rfl rfl) rfl) rfl) rfl) rfl) rfl) h ?_
 rintro⟨⟩ g cM p8 h
 unfold HV at h
 refine wp_seq<|wp_seq<|bv _ rfl<|m rfl<|bo 12 rfl rfl rfl (og (a:=eH) rfl rfl)<|km _ _ _ Tryz.underlying245 ea rfl rfl rfl<|ks ea h rfl rfl fun hr _ h=>m rfl<|bo _ rfl rfl rfl (h6 rfl Tryz.underlying79 rfl)<|bo _ rfl rfl rfl (oe rfl rfl rfl)<|bp<|fq h rfl (fun _ h=>?_) fun _ h=>?_
 ·refine wp_skip<|wp_block<|wp_seq<|bv _ rfl<|m rfl<|bo 19 rfl rfl rfl (og (a:=eH) rfl rfl)<|km _ _ _ Tryz.underlying245 ea rfl rfl rfl<|ks ea h rfl rfl fun hL _ h=>lQ ea h rfl rfl rfl fun eG h=>bp<|wp_seq<|wp_seq ?_
  refine bv _ rfl<|ks sF h rfl rfl fun gx _ h=>bo _ rfl rfl rfl (h6 rfl Tryz.underlying134 rfl)<|bo _ rfl rfl rfl (ey rfl rfl rfl)<|bp<|fq h rfl (fun _ h=>?_) fun _ h=>?_
  ·refine bv _ rfl<|bo 25 rfl rfl rfl (vt (a9:=(20:Int)) rfl rfl)<|bo 26 rfl rfl rfl (vv (v:=iw.enc ((⟨(20:Int)⟩:iJ))) rfl Tryz.underlying247 rfl rfl)<|e3 rfl (.free rfl) (zi (v:=(dP.mk 247 (iw.enc ((⟨(20:Int)⟩:iJ))))) rfl rfl ⟨_,_,rfl⟩ ?_)
   unfold xi at h
   refine WE (af:=[.cell 2 134,.cell 3 3,.cell 4 25]) rfl JB (L0 h fun rH h=>?_)
   obtain⟨hM,yh,h⟩:=h
   obtain⟨eP,yi,h⟩:=h
   obtain⟨gD,yj,h⟩:=h
   exact⟨_,(.cons (.cell (T:=O) (u:=hM) (a:=aY) sF rfl yh) (.cons (.cell (T:=(D .i64)) (u:=eP) (a:=bh) ea rfl yi) (.cons (.cell (T:=(D .i64)) (u:=gD) (a:=bU) tz rfl yj) .nil))),⟨(hM,eP,gD),rfl,h⟩⟩
  ·refine wp_skip ?_
   obtain⟨e9,K7,h⟩:=nx h
   refine azV 6 mixed rfl (by kernel_rfl) (fun o a d v w aC h=>avX (nL:=[2,3,4]) (afD (by kernel_rfl) aC) h) K7 (fun G=>?_)
   refine bY 1 28 (.pointer ((some eH))) G rfl rfl ?_
   obtain⟨fy,Lh,h⟩:=h
   refine hN 0 27 Lh sF G rfl rfl<|bA (i:=2) (by kernel_rfl)<|cY rfl (.free rfl) (vQ (d:=(some 29)) rfl (c3 (k:=157) (c:=[.pointer ((some eH))]) rfl af4 rfl) h ?_ ?_)
   ·intro _ _ h
    unfold xi at h
    refine WE (af:=[.cell 2 134,.cell 3 3,.cell 4 25]) rfl JB (L0 h fun rH h=>?_)
    obtain⟨hM,yh,h⟩:=h
    obtain⟨eP,yi,h⟩:=h
    obtain⟨gD,yj,h⟩:=h
    exact⟨_,(.cons (.cell (T:=O) (u:=hM) (a:=aY) sF rfl yh) (.cons (.cell (T:=(D .i64)) (u:=eP) (a:=bh) ea rfl yi) (.cons (.cell (T:=(D .i64)) (u:=gD) (a:=bU) tz rfl yj) .nil))),⟨(hM,eP,gD),rfl,h⟩⟩
   intro dJ jj h
   obtain⟨ajb,h⟩:=h
   refine⟨(cg (fun _=>ajb) c_),?_⟩
   refine bA (i:=3) (by kernel_rfl) ?_
   obtain⟨pt,ik,ahJ,Uj,h⟩:=ER h
   refine tD (d:=(some 30)) rfl (.free rfl) rfl (wV (T:=fh) (xs:=[dJ]) rfl Tryz.underlying134 g9 rj rfl (by decide) (by decide) rfl ahJ Uj) ⟨(cg (fun h=>vf Uj h) c_),?_⟩
   refine bA (i:=4) (by kernel_rfl)<|cY rfl (.free rfl) (Hu (d:=(some 31)) (T:=fh) rfl rfl Tryz.underlying134 ⟨_,Tryz.underlying134⟩ g9 rj rfl rfl (Nat.lt_of_lt_of_le Nat.zero_lt_one (Nat.le_of_ble_eq_true rfl)) rfl rfl h ?_)
   intro cB gQ h
   refine⟨(g8 (by kernel_rfl) c_),?_⟩
   refine bA (i:=5) (by kernel_rfl) ?_
   obtain⟨h9,akC,akd,h⟩:=qM h
   refine sL (d:=none) rfl (.free rfl) rfl (qH (T:=O) (u:=cB) (a:=aY) rfl sF rfl rfl akd akC) ⟨(g8 (by kernel_rfl) c_),?_⟩
   refine ef (by kernel_rfl) ?_
   exact⟨(),_,arr (aW (aW (aW (aW (aW (aW rfl rfl) rfl) rfl) rfl) rfl) rfl),h⟩
 ·refine wp_exit<|wp_seq<|bv _ rfl<|ks sF h rfl rfl fun eE _ h=>lQ sF h rfl rfl rfl fun kS h=>lQ ea h rfl rfl rfl fun lD h=>lQ tz h rfl rfl rfl fun jM h=>bp<|wp_ret<|axK (af:=[.cell 2 134,.cell 3 3,.cell 4 25]) rfl JB (L0 h fun rH h=>?_)
  obtain⟨hM,yh,h⟩:=h
  obtain⟨eP,yi,h⟩:=h
  obtain⟨gD,yj,h⟩:=h
  exact⟨_,(.cons (.cell (T:=O) (u:=hM) (a:=aY) sF rfl yh) (.cons (.cell (T:=(D .i64)) (u:=eP) (a:=bh) ea rfl yi) (.cons (.cell (T:=(D .i64)) (u:=gD) (a:=bU) tz rfl yj) .nil))),⟨(hM,eP,gD),rfl,h⟩⟩
def Pe(dN:Int)(w:World)(j:Bool→World→Prop):Prop:=j ((decide (dN≥(1:Int)))&&(decide (dN≤(1099511627776:Int)))) w
theorem aaB{dN w j}(h:Pe dN w j):L Pg 133 [.int .i64 dN] bi w j:=
 aX 9 Tryz.func133 rfl rfl bf
def Pf(bq:Int)(w:World)(j:Bool→World→Prop):Prop:=j ((decide (bq≥(1:Int)))&&(decide (bq≤(1000:Int)))) w
theorem aaC{bq w j}(h:Pf bq w j):L Pg 134 [.int .i64 bq] bi w j:=
 aX 9 Tryz.func134 rfl rfl bf
def Ph(cC:aU)(mI:eA)(w:World)(j:Unit→World→Prop):Prop:=ch 53 dA mI w fun aI aV=>ds aV fun bb=>ex (bI cC) fun bU=>ex (M (D .i64) (bU.add 1) bb) fun cZ=>ex (M (D .i64) (aI.add 1) bb) fun cl=>br (D .i64) (bU.add 1) (max cZ cl) bb fun bX=>ds bX fun b3=>ex (M dK (bU.add 2) b3) fun dc=>ex (M (D .i64) (aI.add 0) b3) fun eU=>ex (M dA aI b3) fun cV=>nb dA .i64 dc eU cV b3 fun cQ=>j () cQ
theorem aaD{cC mI w j}(h:Ph cC mI w j):L Pg 135 [.pointer cC,dA.enc mI] cJ w j:=by
 have gH:=eT 2 (da [0,1,2,3,5,4,6,7,8,9,10] .e)
 have r3:=eT 3 (da [0,1,2,4,3,5,6,7] .e)
 exact aX 21 Tryz.func135 rfl rfl bf
def Ex(B0:Int)(bQ:World)(j:Int→World→Prop):Prop:=j B0 bQ
def Pj(oG:aU)(pH:X)(w:World)(j:Int→World→Prop):Prop:=ex (bI oG) fun aI=>ex (M bi (aI.add 4) w) fun dr=>if dr=true then (j (81:Int) w) else (L Pg 158 [O.enc (pH)] (bJ O (D .i64)) w fun cT bb=>if (cT.2 != (0:Int))=true then (j cT.2 bb) else (ds bb fun bX=>ex (M aM (aI.add 2) bX) fun dg=>ex (M (D .i64) (aI.add 3) bX) fun dc=>L Pg 159 [.pointer (dg),.int .i64 (dc),O.enc (cT.1)] (D .i64) bX fun dZ cO=>L Pg 109 [.pointer (oG),.int .i64 (dZ)] (D .i64) cO fun ga cQ=>bk ((M aM (aI.add 2) cQ) dg)<|bk ((M (D .i64) (aI.add 3) cQ) dc)<|if (ga==(0:Int))=true then (ex (M (D .i64) ((aI.add 0).add 0) cQ) fun gx=>br (D .i64) ((aI.add 0).add 0) (IntKind.i64.wrap (gx+(1:Int))) cQ fun e9=>Ex ga e9 j) else (Ex ga cQ j)))
theorem aaE{oG pH w j}(h:Pj oG pH w j):L Pg 136 [.pointer oG,O.enc pH] (D .i64) w j:=by
 have gH:=eT 7 (da [0,1,2,3,5,6,7,9,4,8,10,11,12] .e)
 have kJ:=kv (bE:=Int) 10 (fun s w=>Ex s w j) (fun g s=>av g 6 (.int .i64 s))
 exact aX 43 Tryz.func136 rfl rfl bf
def HW(cv:(Option Nat))(ck:X)(Vk:X)(NQ:Int)(bQ:World)(adr:X×Int→World→Prop)(j:X→World→Prop):Prop:=if (decide (NQ<(ck.len:Int)))=true then (ex (cz ck 1 NQ) fun cs=>ex (M (D .i64) cs bQ) fun dc=>ex (fO dA .i64 cv dc bQ) fun Ar=>kG 53 dA 3 32 Vk [(Ar.getD hf)] bQ fun fS fm=>adr (fS,(IntKind.i64.wrap (NQ+(1:Int)))) fm) else (j Vk bQ)
def Pk(cv:(Option Nat))(w:World)(j:X→World→Prop):Prop:=L Pg 160 [.map (cv)] qN w fun fT cK=>L Pg 56 [(fT).enc] O cK fun ck aV=>e7 (fun (s:X×Int) w aa=>HW cv ck s.1 s.2 w aa j) ((⟨none,0,0⟩:X),(0:Int)) aV
theorem aaF{cv w j}(h:Pk cv w j):L Pg 137 [.map cv] O w j:=by
 have hT:=fun {ck:X}=>gK (bE:=X×Int) 4 (fun s w aa=>HW cv ck s.1 s.2 w aa j) (fun g s=>av (av (av (av (av g 0 (.map cv)) 8 (O.enc ck)) 9 (.int .i64 ((ck.len:Int)))) 3 (O.enc (s.1))) 10 (.int .i64 (s.2)))
 exact aX 22 Tryz.func137 rfl rfl bf
def Pm(cG:ib)(w:World)(j:Bool→World→Prop):Prop:=ch 133 fh cG w fun aY a6=>ds a6 fun aV=>ex (M (D .u64) (aY.add 1) aV) fun dn=>ex (M (D .i64) (aY.add 2) aV) fun cr=>ex (M g2 (aY.add 3) aV) fun cZ=>ex (M dT (aY.add 4) aV) fun cl=>ex (M (D .i64) (aY.add 0) aV) fun cy=>if (cy==(1:Int))=true then (j (((cr==(0:Int))&&((cZ:Int)==(0:Int)))&&(cl==([]:List UInt8))) aV) else (if (cy==(2:Int))=true then (j (((dn==(0:Int))&&((cZ:Int)==(0:Int)))&&(cl==([]:List UInt8))) aV) else (if (cy==(3:Int))=true then (j (((dn==(0:Int))&&(cr==(0:Int)))&&(cl==([]:List UInt8))) aV) else (if (cy==(4:Int))=true then (j (((dn==(0:Int))&&(cr==(0:Int)))&&((cZ:Int)==(0:Int))) aV) else (j false aV))))
theorem aaH{cG w j}(h:Pm cG w j):L Pg 141 [fh.enc cG] bi w j:=by
 have gH:=eT 2 (da [0,3,6,10,1,2,4,5,7,8,9,13,14,15,11,12,16] .e)
 exact aX 58 Tryz.func141 rfl rfl bf
def HX(q2:X)(tw:Int)(bb:World)(ja:X×Int→World→Prop)(j:X→World→Prop):Prop:=if (decide (tw≥(128:Int)))=true then (kG 5 (D .u8) 1 1 q2 [(bits .or .u8 (IntKind.u8.wrap tw) (128:Int))] bb fun dq bX=>ex (hB (7:Int) (Int.fdiv tw (2^(min ((7:Int)).toNat IntKind.u64.bits)))) fun d11=>ja (dq,d11) bX) else (kG 5 (D .u8) 1 1 q2 [(IntKind.u8.wrap tw)] bb fun ga cQ=>j ga cQ)
def Pn(dN:X)(bW:Int)(w:World)(j:X→World→Prop):Prop:=e7 (fun (s:X×Int) w aa=>HX s.1 s.2 w aa j) (dN,bW) w
theorem aaI{dN bW w j}(h:Pn dN bW w j):L Pg 142 [O.enc dN,.int .u64 bW] O w j:=by
 have hT:=gK (bE:=X×Int) 2 (fun s w aa=>HX s.1 s.2 w aa j) (fun g s=>av (av g 0 (O.enc (s.1))) 1 (.int .u64 (s.2)))
 exact aX 20 Tryz.func142 rfl rfl bf
def Po(et:Nat)(w:World)(j:Int→World→Prop):Prop:=L Pg 44 [.float .f64 (et)] (D .i64) w fun fT cK=>if (fT==(0:Int))=true then (L Pg 172 [.int .u64 ((0:Int))] (bJ g2 bi) cK fun ck aV=>j (ck.1:Int) aV) else (j (et:Int) cK)
theorem aaJ{et w j}(h:Po et w j):L Pg 143 [.float .f64 et] (D .u64) w j:=
 aX 16 Tryz.func143 rfl rfl bf
def Bd(cN:aU)(bW:Int)(uv:dz)(bb:World)(j:Int→World→Prop):Prop:=ex (bI cN) fun bU=>ex (M (D .i64) (bU.add 1) bb) fun cZ=>br (D .i64) (bU.add 1) (IntKind.i64.wrap (cZ+(1:Int))) bb fun bQ=>ex (M O (bU.add 0) bQ) fun cy=>ex (cz cy 2 bW) fun cs=>xO Pg uv [.pointer (some cs)] cJ bQ fun hz cU=>j (0:Int) cU
def Pp(cN:aU)(bW:Int)(GX:Int)(uv:dz)(w:World)(j:Int→World→Prop):Prop:=L Pg 153 [.pointer (cN),.int .i64 (bW)] bi w fun pO cM=>if (!pO)=true then (j (70:Int) cM) else (ex (bI cN) fun hg=>ex (M bi (hg.add 2) cM) fun hL=>if hL=true then (j (71:Int) cM) else (if (decide (GX>(4194304:Int)))=true then (j (72:Int) cM) else (ex (M (D .i64) (hg.add 3) cM) fun fM=>if (fM==(1:Int))=true then (ex (M O (hg.add 4) cM) fun gx=>L Pg 79 [.pointer (cN),O.enc (gx)] cJ cM fun hX e9=>j (71:Int) e9) else (ex (M (D .i64) (hg.add 3) cM) fun j0=>if (decide (j0>(1:Int)))=true then (ex (M (D .i64) (hg.add 3) cM) fun iI=>br (D .i64) (hg.add 3) (IntKind.i64.wrap (iI-(1:Int))) cM fun gw=>Bd cN bW uv gw j) else (Bd cN bW uv cM j)))))
theorem aaK{cN bW GX uv w j}(h:Pp cN bW GX uv w j):L Pg 144 [.pointer cN,.int .i64 bW,.int .i64 GX,uv.enc] (D .i64) w j:=by
 have kJ:=kv (bE:=Unit) 13 (fun s w=>Bd cN bW uv w j) (fun g s=>av (av (av g 0 (.pointer cN)) 1 (.int .i64 bW)) 3 (uv.enc))
 exact aX 62 Tryz.func144 rfl rfl bf
def Pq(e6:aU)(w:World)(j:Unit→World→Prop):Prop:=ex (bI e6) fun aY=>ex (M O (aY.add 0) w) fun ez=>br (D .i64) (aY.add 1) (ez.len:Int) w fun aV=>j () aV
theorem aaL{e6 w j}(h:Pq e6 w j):L Pg 145 [.pointer e6] cJ w j:=
 aX 10 Tryz.func145 rfl rfl bf
def HZ(aY:Addr)(ck:(X×Int×Int))(rB:X)(vF:Int)(fB:World)(qV:Int→World→Prop)(j:(jB×Bool)→World→Prop):Prop:=if (decide (vF<(rB.len:Int)))=true then (ex (cz rB 5 vF) fun ps=>ex (M fh ps fB) fun j0=>ch 133 fh q0 fB fun dl gw=>br fh dl j0 gw fun hq=>ex (M (D .i64) (dl.add 0) hq) fun oL=>if (oL != (2:Int))=true then (br ft aY (⟨(0:Int),(0:Int),(0:Int),(0:Int),(0:Int),false⟩:jB) hq fun gQ=>ex (M ft aY gQ) fun ns=>j (ns,false) gQ) else (qV ((IntKind.i64.wrap (vF+(1:Int)))) hq)) else (ex (cz ck.1 5 (0:Int)) fun fD=>ex (M (D .u64) (fD.add 1) fB) fun eE=>L Pg 173 [.int .i64 ((IntKind.i64.wrap eE))] bi fB fun vy kS=>if (!vy)=true then (br ft aY (⟨(0:Int),(0:Int),(0:Int),(0:Int),(0:Int),false⟩:jB) kS fun jM=>ex (M ft aY jM) fun tR=>j (tR,false) jM) else (ds kS fun l9=>ex (cz ck.1 5 (0:Int)) fun v5=>ex (cz ck.1 5 (1:Int)) fun I8=>ex (cz ck.1 5 (2:Int)) fun I9=>ex (cz ck.1 5 (3:Int)) fun BH=>ex (cz ck.1 5 (4:Int)) fun I_=>ex (cz ck.1 5 (5:Int)) fun uo=>ex (M (D .u64) (v5.add 1) l9) fun rI=>ex (M (D .i64) (I8.add 2) l9) fun A7=>ex (M (D .i64) (I9.add 2) l9) fun xc=>ex (M (D .i64) (BH.add 2) l9) fun Hy=>ex (M (D .i64) (I_.add 2) l9) fun A8=>ex (M (D .u64) (uo.add 1) l9) fun Eh=>br ft aY (⟨(IntKind.i64.wrap rI),A7,xc,Hy,A8,(Eh==(1:Int))⟩:jB) l9 fun p0=>ex (M ft aY p0) fun sZ=>j (sZ,true) p0))
def HY(dN:X)(w:World)(j:(jB×Bool)→World→Prop):Prop:=ch 38 ft xH w fun aY a6=>L Pg 132 [O.enc (dN)] (qO O (D .i64) (D .i64)) a6 fun ck aV=>ex (fun x=>(!((ck.2.2 != (0:Int))||((ck.1.len:Int)!=(6:Int))))=true→(cz ck.1 5 (0:Int)) x) fun bU=>ex (fun x=>(!((ck.2.2 != (0:Int))||((ck.1.len:Int)!=(6:Int))))=true→(M (D .i64) (bU.add 0) aV) x) fun cZ=>ex (fun x=>(!(((ck.2.2 != (0:Int))||((ck.1.len:Int)!=(6:Int)))||(cZ != (1:Int))))=true→(cz ck.1 5 (5:Int)) x) fun eH=>ex (fun x=>(!(((ck.2.2 != (0:Int))||((ck.1.len:Int)!=(6:Int)))||(cZ != (1:Int))))=true→(M (D .i64) (eH.add 0) aV) x) fun cy=>ex (fun x=>(!((((ck.2.2 != (0:Int))||((ck.1.len:Int)!=(6:Int)))||(cZ != (1:Int)))||(cy != (1:Int))))=true→(cz ck.1 5 (0:Int)) x) fun cs=>ex (fun x=>(!((((ck.2.2 != (0:Int))||((ck.1.len:Int)!=(6:Int)))||(cZ != (1:Int)))||(cy != (1:Int))))=true→(M (D .u64) (cs.add 1) aV) x) fun dc=>ex (fun x=>(!(((((ck.2.2 != (0:Int))||((ck.1.len:Int)!=(6:Int)))||(cZ != (1:Int)))||(cy != (1:Int)))||(decide (dc>(6:Int)))))=true→(cz ck.1 5 (5:Int)) x) fun e4=>ex (fun x=>(!(((((ck.2.2 != (0:Int))||((ck.1.len:Int)!=(6:Int)))||(cZ != (1:Int)))||(cy != (1:Int)))||(decide (dc>(6:Int)))))=true→(M (D .u64) (e4.add 1) aV) x) fun cV=>if ((((((ck.2.2 != (0:Int))||((ck.1.len:Int)!=(6:Int)))||(cZ != (1:Int)))||(cy != (1:Int)))||(decide (dc>(6:Int))))||(decide (cV>(1:Int))))=true then (br ft aY (⟨(0:Int),(0:Int),(0:Int),(0:Int),(0:Int),false⟩:jB) aV fun cQ=>ex (M ft aY cQ) fun hr=>j (hr,false) cQ) else (ex (Sub ck.1 5 (1:Int) (5:Int) ((ck.1).cap:Int)) fun rB=>e7 (fun (s:Int) w aa=>HZ aY ck rB s w aa j) ((0:Int)) aV)
theorem aaM{dN:X}{w:World}{j:(jB×Bool)→World→Prop}(h:HY dN w j):L Pg 146 [O.enc (dN)] (bJ ft bi) w j:=by
 unfold HY at h
 refine pw 98 Tryz.func146 rfl rfl (Nat.le_of_ble_eq_true rfl)<|wp_seq<|bv _ rfl<|q6 sG Ag h rfl fun aY a6 h=>m rfl<|bp<|wp_seq<|bv _ rfl<|m rfl<|hc SP rfl rfl h fun ck aV h=>m rfl<|im _ _ rfl rfl rfl ?_
 refine im _ _ rfl rfl rfl<|im _ _ rfl rfl rfl<|m rfl<|m rfl<|m rfl<|bp<|wp_seq<|wp_seq<|bv _ rfl<|m rfl<|bo _ rfl rfl rfl (hW rfl rfl rfl)<|m rfl ?_
 refine e5 18 2 17 rfl rfl rfl rfl rfl (fun ae=>bZ (v:=O.enc (ck.1)) rfl rfl)<|e5 19 2 17 rfl rfl rfl rfl rfl (fun ae=>h6 (s:=ck.1) rfl Tryz.underlying134 (c2 ae))<|e5 20 2 17 rfl rfl rfl rfl rfl (fun ae=>hW (k:=.i64) (a:=(ck.1.len:Int)) (b:=(6:Int)) rfl (c2 ae) rfl)<|bo 21 rfl rfl rfl (k7 rfl rfl rfl rfl)<|m rfl<|e5 23 7 22 rfl rfl rfl rfl rfl (fun ae=>bZ (v:=O.enc (ck.1)) rfl rfl) ?_
 obtain⟨bU,tk,h⟩:=h
 refine e5 24 7 22 rfl rfl rfl rfl rfl (fun ae=>jv (s:=ck.1) (k:=.i64) (i:=(0:Int)) rfl Tryz.underlying134 g9 (c2 ae) rfl (tk ae))<|e5 25 7 22 rfl rfl rfl rfl rfl (fun ae=>kh (a:=bU) (off:=0) rfl Tryz.underlying133 rfl rfl ng (by decide) (c2 ae)) ?_
 obtain⟨cZ,yf,h⟩:=h
 refine e5 26 7 22 rfl rfl rfl rfl rfl (fun ae=>jh (T:=(D .i64)) (u:=cZ) (a:=(bU.add 0)) rfl ng (c2 ae) (yf ae))<|e5 27 7 22 rfl rfl rfl rfl rfl (fun ae=>hW (k:=.i64) (a:=cZ) (b:=(1:Int)) rfl (c2 ae) rfl)<|bo 28 rfl rfl rfl (k7 rfl rfl rfl rfl)<|m rfl<|e5 30 14 29 rfl rfl rfl rfl rfl (fun ae=>bZ (v:=O.enc (ck.1)) rfl rfl) ?_
 obtain⟨eH,J2,h⟩:=h
 refine e5 31 14 29 rfl rfl rfl rfl rfl (fun ae=>jv (s:=ck.1) (k:=.i64) (i:=(5:Int)) rfl Tryz.underlying134 g9 (c2 ae) rfl (J2 ae))<|e5 32 14 29 rfl rfl rfl rfl rfl (fun ae=>kh (a:=eH) (off:=0) rfl Tryz.underlying133 rfl rfl ng (by decide) (c2 ae)) ?_
 obtain⟨cy,Ll,h⟩:=h
 refine e5 33 14 29 rfl rfl rfl rfl rfl (fun ae=>jh (T:=(D .i64)) (u:=cy) (a:=(eH.add 0)) rfl ng (c2 ae) (Ll ae))<|e5 34 14 29 rfl rfl rfl rfl rfl (fun ae=>hW (k:=.i64) (a:=cy) (b:=(1:Int)) rfl (c2 ae) rfl)<|bo 35 rfl rfl rfl (k7 rfl rfl rfl rfl)<|m rfl<|e5 37 21 36 rfl rfl rfl rfl rfl (fun ae=>bZ (v:=O.enc (ck.1)) rfl rfl) ?_
 obtain⟨cs,Cl,h⟩:=h
 refine e5 38 21 36 rfl rfl rfl rfl rfl (fun ae=>jv (s:=ck.1) (k:=.i64) (i:=(0:Int)) rfl Tryz.underlying134 g9 (c2 ae) rfl (Cl ae))<|e5 39 21 36 rfl rfl rfl rfl rfl (fun ae=>kh (a:=cs) (off:=1) rfl Tryz.underlying133 rfl rfl nf (by decide) (c2 ae)) ?_
 obtain⟨dc,yd,h⟩:=h
 refine e5 40 21 36 rfl rfl rfl rfl rfl (fun ae=>jh (T:=(D .u64)) (u:=dc) (a:=(cs.add 1)) rfl nf (c2 ae) (yd ae))<|e5 41 21 36 rfl rfl rfl rfl rfl (fun ae=>vu (k:=.u64) (a:=dc) (b:=(6:Int)) rfl (c2 ae) rfl)<|bo 42 rfl rfl rfl (k7 rfl rfl rfl rfl)<|m rfl<|e5 44 28 43 rfl rfl rfl rfl rfl (fun ae=>bZ (v:=O.enc (ck.1)) rfl rfl) ?_
 obtain⟨e4,ahD,h⟩:=h
 refine e5 45 28 43 rfl rfl rfl rfl rfl (fun ae=>jv (s:=ck.1) (k:=.i64) (i:=(5:Int)) rfl Tryz.underlying134 g9 (c2 ae) rfl (ahD ae))<|e5 46 28 43 rfl rfl rfl rfl rfl (fun ae=>kh (a:=e4) (off:=1) rfl Tryz.underlying133 rfl rfl nf (by decide) (c2 ae)) ?_
 obtain⟨cV,CJ,h⟩:=h
 refine e5 47 28 43 rfl rfl rfl rfl rfl (fun ae=>jh (T:=(D .u64)) (u:=cV) (a:=(e4.add 1)) rfl nf (c2 ae) (CJ ae))<|e5 48 28 43 rfl rfl rfl rfl rfl (fun ae=>vu (k:=.u64) (a:=cV) (b:=(1:Int)) rfl (c2 ae) rfl)<|bo 49 rfl rfl rfl (k7 rfl rfl rfl rfl)<|bp<|fq h rfl (fun _ h=>?_) fun _ h=>?_
 ·refine wp_seq<|bv _ rfl<|bo 50 rfl rfl rfl (Df  rfl)<|lQ sG h rfl rfl rfl fun cQ h=>m rfl<|bp<|wp_ret ?_
  obtain⟨hr,Lf,h⟩:=h
  exact ph rfl (.cons (.cell (T:=ft) (u:=hr) (a:=aY) sG rfl Lf) (.cons (.tmp (v:=.bool (false)) rfl) .nil)) ⟨(hr,false),rfl,h⟩
 ·refine wp_skip<|wp_seq<|wp_seq<|bv _ rfl<|m rfl ?_
  obtain⟨rB,KV,h⟩:=h
  refine bo 52 rfl rfl rfl (GI (s:=ck.1) (c:=(1:Int)) (h:=(5:Int)) rfl Tryz.underlying134 g9 rfl rfl rfl KV)<|bo _ rfl rfl rfl (h6 rfl Tryz.underlying134 rfl)<|m rfl<|bp<|wp_block<|ys (bE:=Int) (bT:=fun g (s:Int)=>av (av (av (av (av (g) 2 (.pointer (some aY))) 4 (O.enc (ck.1))) 52 (O.enc (rB))) 53 (.int .i64 ((rB.len:Int)))) 54 (.int .i64 (s))) (eJ:=((0:Int))) (aW (aW (aW (aW (aW rfl rfl) rfl) rfl) rfl) rfl) h ?_
  rintro vF g fB qV h
  unfold HZ at h
  refine wp_seq<|bv _ rfl<|bo _ rfl rfl rfl (oe rfl rfl rfl)<|bp<|wp_seq<|fq h rfl (fun _ h=>?_) fun _ h=>?_
  ·refine wp_skip<|wp_seq<|wp_block<|wp_seq<|bv _ rfl ?_
   obtain⟨ps,ahH,h⟩:=h
   refine bo 56 rfl rfl rfl (jv (s:=rB) (k:=.i64) (i:=vF) rfl Tryz.underlying134 g9 rfl rfl ahH)<|ks g9 h rfl rfl fun j0 _ h=>q6 g9 rj h rfl fun dl gw h=>lQ g9 h rfl rfl rfl fun hq h=>bp<|wp_seq<|bv _ rfl<|km _ _ _ Tryz.underlying133 ng rfl rfl rfl<|ks ng h rfl rfl fun oL _ h=>bo _ rfl rfl rfl (hW rfl rfl rfl)<|bp<|fq h rfl (fun _ h=>?_) fun _ h=>?_
   ·refine wp_seq<|bv _ rfl<|bo 61 rfl rfl rfl (Df  rfl)<|lQ sG h rfl rfl rfl fun gQ h=>m rfl<|bp<|wp_ret ?_
    obtain⟨ns,akP,h⟩:=h
    exact ph rfl (.cons (.cell (T:=ft) (u:=ns) (a:=aY) sG rfl akP) (.cons (.tmp (v:=.bool (false)) rfl) .nil)) ⟨(ns,false),rfl,h⟩
   ·refine wp_skip<|bv _ rfl<|bo _ rfl rfl rfl (sO rfl rfl rfl)<|m rfl<|bp ?_
    exact⟨((IntKind.i64.wrap (vF+(1:Int)))),_,arr (aW (aW (aW (aW (aW rfl rfl) rfl) rfl) rfl) rfl),h⟩
  ·refine wp_exit<|wp_seq<|wp_seq<|bv _ rfl<|m rfl ?_
   obtain⟨fD,Cm,h⟩:=h
   refine bo 64 rfl rfl rfl (jv (s:=ck.1) (k:=.i64) (i:=(0:Int)) rfl Tryz.underlying134 g9 rfl rfl Cm)<|km _ _ _ Tryz.underlying133 nf rfl rfl rfl<|ks nf h rfl rfl fun eE _ h=>bo 67 rfl rfl rfl (rs (a:=eE) rfl Tryz.underlying130 Tryz.underlying3 rfl)<|hc af5 rfl rfl h fun vy kS h=>bo _ rfl rfl rfl (lx rfl rfl)<|bp<|fq h rfl (fun _ h=>?_) fun _ h=>?_
   ·refine wp_seq<|bv _ rfl<|bo 70 rfl rfl rfl (Df  rfl)<|lQ sG h rfl rfl rfl fun jM h=>m rfl<|bp<|wp_ret ?_
    obtain⟨tR,akU,h⟩:=h
    exact ph rfl (.cons (.cell (T:=ft) (u:=tR) (a:=aY) sG rfl akU) (.cons (.tmp (v:=.bool (false)) rfl) .nil)) ⟨(tR,false),rfl,h⟩
   ·refine wp_skip<|wp_seq ?_
    obtain⟨l9,K9,h⟩:=nx h
    refine oJ 29 mixed rfl (by kernel_rfl) (by intro o a d v w h; cases d<;>exact h) K9 (fun G=>?_)
    refine bY 0 71 (O.enc (ck.1)) G rfl rfl ?_
    obtain⟨v5,ahN,h⟩:=h
    refine bd 1 72 G rfl rfl rfl (fun _=>jv (s:=ck.1) (k:=.i64) (i:=(0:Int)) rfl Tryz.underlying134 g9 rfl rfl ahN)<|hZ 2 73 v5 1 Tryz.underlying133 nf G rfl rfl rfl<|bY 5 76 (O.enc (ck.1)) G rfl rfl ?_
    obtain⟨I8,ahO,h⟩:=h
    refine bd 6 77 G rfl rfl rfl (fun _=>jv (s:=ck.1) (k:=.i64) (i:=(1:Int)) rfl Tryz.underlying134 g9 rfl rfl ahO)<|hZ 7 78 I8 2 Tryz.underlying133 ew G rfl rfl rfl<|bY 9 80 (O.enc (ck.1)) G rfl rfl ?_
    obtain⟨I9,ahP,h⟩:=h
    refine bd 10 81 G rfl rfl rfl (fun _=>jv (s:=ck.1) (k:=.i64) (i:=(2:Int)) rfl Tryz.underlying134 g9 rfl rfl ahP)<|hZ 11 82 I9 2 Tryz.underlying133 ew G rfl rfl rfl<|bY 13 84 (O.enc (ck.1)) G rfl rfl ?_
    obtain⟨BH,ahQ,h⟩:=h
    refine bd 14 85 G rfl rfl rfl (fun _=>jv (s:=ck.1) (k:=.i64) (i:=(3:Int)) rfl Tryz.underlying134 g9 rfl rfl ahQ)<|hZ 15 86 BH 2 Tryz.underlying133 ew G rfl rfl rfl<|bY 17 88 (O.enc (ck.1)) G rfl rfl ?_
    obtain⟨I_,ahR,h⟩:=h
    refine bd 18 89 G rfl rfl rfl (fun _=>jv (s:=ck.1) (k:=.i64) (i:=(4:Int)) rfl Tryz.underlying134 g9 rfl rfl ahR)<|hZ 19 90 I_ 2 Tryz.underlying133 ew G rfl rfl rfl<|bY 21 92 (O.enc (ck.1)) G rfl rfl ?_
    obtain⟨uo,J1,h⟩:=h
    refine bd 22 93 G rfl rfl rfl (fun _=>jv (s:=ck.1) (k:=.i64) (i:=(5:Int)) rfl Tryz.underlying134 g9 rfl rfl J1)<|hZ 23 94 uo 1 Tryz.underlying133 nf G rfl rfl rfl ?_
    obtain⟨rI,Li,h⟩:=h
    refine hN 3 74 Li nf G rfl rfl<|bd 4 75 G rfl rfl rfl (fun _=>rs (a:=rI) rfl Tryz.underlying130 Tryz.underlying3 rfl) ?_
    obtain⟨A7,ak0,h⟩:=h
    refine hN 8 79 ak0 ew G rfl rfl ?_
    obtain⟨xc,ak1,h⟩:=h
    refine hN 12 83 ak1 ew G rfl rfl ?_
    obtain⟨Hy,ak2,h⟩:=h
    refine hN 16 87 ak2 ew G rfl rfl ?_
    obtain⟨A8,ak3,h⟩:=h
    refine hN 20 91 ak3 ew G rfl rfl ?_
    obtain⟨Eh,ak4,h⟩:=h
    refine hN 24 95 ak4 nf G rfl rfl<|bd 25 96 G rfl rfl rfl (fun _=>ey (a:=Eh) (b:=(1:Int)) rfl rfl rfl)<|bd 26 97 G rfl rfl rfl (fun _=>M5 (a9:=(IntKind.i64.wrap rI)) (ct:=A7) (eo:=xc) (gP:=Hy) (h8:=A8) (sT:=(Eh==(1:Int))) rfl rfl rfl rfl rfl rfl rfl)<|bA (i:=27) (by kernel_rfl) ?_
    obtain⟨p0,akE,ake,h⟩:=qM h
    refine sL (d:=none) rfl (.free rfl) rfl (qH (T:=ft) (u:=(⟨(IntKind.i64.wrap rI),A7,xc,Hy,A8,(Eh==(1:Int))⟩:jB)) (a:=aY) rfl sG rfl rfl ake akE) ⟨(g8 (by kernel_rfl) (g8 (by kernel_rfl) (g8 (by kernel_rfl) (g8 (by kernel_rfl) (g8 (by kernel_rfl) (g8 (by kernel_rfl) c_)))))),?_⟩
    refine fC 28 3 (.bool (true)) G rfl rfl<|ef (by kernel_rfl)<|wp_ret ?_
    obtain⟨sZ,Lj,h⟩:=h
    exact ph rfl (.cons (.cell (T:=ft) (u:=sZ) (a:=aY) sG rfl Lj) (.cons (.tmp (v:=.bool (true)) rfl) .nil)) ⟨(sZ,true),rfl,h⟩
end ba
end Go.Proofs.YtnmmjkjkkmbhiaaGreat
