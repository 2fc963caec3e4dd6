/- Own texts of this claim, part 13: short, merged. -/
import Derived.Test.YthaobmpdjcoheaaGreatZ12
set_option exponentiation.threshold 4000
set_option maxRecDepth 100000
set_option maxHeartbeats 40000000
set_option linter.defProp false
set_option linter.unusedVariables false
set_option linter.unusedSimpArgs false
namespace Go.Proofs.YthaobmpdjcoheaaGreat
namespace Cluster
open bb Wire Disk Vault Clock Shard Num Store
def uS(v:c4)(t:Int):Int:=(gl v).foldl (fun t h=>min t (h.bW-1)) t
def Dx(b:bi)(t:Int)(z:cJ×qR×Int):bi×Int×Int:=
 if z.2.2≠0 then ({ b with K:=z.1,W:=z.2.1 },0,z.2.2) else ({ b with K:=z.1,W:=z.2.1,src:=(oy b.src t).1 },t,0)
def xF(b:bi)(s:hh×lz×Int):bi×Int×Int:=
 if s.2.2≠0 then ({ b with ax:=s.1 },0,s.2.2) else Dx { b with ax:=s.1 } (uS b.W.v s.2.1.gO) (fN b.K b.W ⟨5,uS b.W.v s.2.1.gO,0,0,0,false⟩)
def rP(b:bi):bi×Int×Int:=xF b (e3 b.ax b.cv)
def mA(o:bv)(i:Int):bv×Int×Int:=if fP o i≠0 then (o,0,fP o i) else match o.N[i.toNat]? with
 |some b=>(kK o i.toNat (rP b).1,(rP b).2)
 |none=>(o,0,202)
def EH(b:bi)(t:Int):bi×Int:=({ b with K:=(fN b.K b.W ⟨6,t,0,0,0,false⟩).1,W:=(fN b.K b.W ⟨6,t,0,0,0,false⟩).2.1 },(fN b.K b.W ⟨6,t,0,0,0,false⟩).2.2)
def EG(o:bv)(i t:Int):bv×Int:=m2 o i fun b=>EH b t
def pX(gm:Int)(xs:List Int)(i:Nat):Int:=match xs[i]? with
 |some k=>min (max k (0-gm)) gm
 |none=>0
def vs(d gm:Int)(xs:List Int)(i:Nat)(b:bi):bi:={ b with cv:=b.cv+(d-pX gm xs i) }
def s7(d gm:Int)(xs:List Int)(D:Nat)(N:List bi):List bi:=N.mapIdx fun i b=>if i<D then vs d gm xs i b else b
def wX(o:bv)(d:Int)(xs:List Int):bv×Int:=
 if d<0∨1048576<d∨1099511627776<o.now+d then (o,201) else ({ o with now:=o.now+d,N:=o.N.mapIdx (vs d (j5 d (nV o.ek.kT)) xs) },0)
def EQ(o:bv)(off:Int):Int:=max (o.now+min (max off (0-o.ek.ju)) o.ek.ju) 0
def EP(o:bv)(i off:Int):bv×Int:=qG o i fun b=>({ b with ax:=(sk b.ax b.cv (EQ o off) o.ek.ju).1 },(sk b.ax b.cv (EQ o off) o.ek.ju).2)
theorem Oh{v:c4}(aT:Fit v){t:Int}(ah:0≤t)(I:t≤1125899906842624):0≤uS v t∧uS v t≤1125899906842624:=by
 have cn:∀ h∈gl v,1≤h.bW:=by
  intro h hm;unfold gl at hm;obtain⟨id,hF,rfl⟩:=List.mem_map.1 hm;obtain⟨e,he,rfl⟩:=List.mem_map.1 ((n_ _).mem_iff.1 hF);have al:=z8 aT.rr he;rw[DZ al];have:=aT.ids _ _ al;have:=aT.eU.mark;omega
 unfold uS;revert cn;generalize gl v=N;induction N generalizing t with
 |nil=>intro _; exact⟨ah,I⟩
 |cons h N b_=>
  intro cn;have O:=cn h (List.mem_cons_self ..);exact b_ (t:=min t (h.bW-1)) (by omega) (by omega) fun x F=>cn x (List.mem_cons_of_mem _ F)
theorem aHy{Z:Type}{f:Nat→Z→Z}{N:List Z}{D:Nat}{x:Z}(h:N[D]?=some x):(N.mapIdx fun i S=>if i<D+1 then f i S else S)=(N.mapIdx fun i S=>if i<D then f i S else S).set D (f D x):=by
 apply List.ext_getElem?;intro y;rw[List.getElem?_mapIdx,List.getElem?_set,List.getElem?_mapIdx,List.length_mapIdx];by_cases e:D=y
 ·subst e;have:=(List.getElem?_eq_some_iff.1 h).1;rw[h]; simp[this]
 ·rw[if_neg e];cases N[y]? with
  |none=>rfl
  |some S=>
   simp only[Option.map_some];by_cases c:y<D
   ·rw[if_pos (by omega),if_pos c]
   ·rw[if_neg (by omega),if_neg c]
theorem aAH{Z:Type}{f:Nat→Z→Z}(N:List Z):(N.mapIdx fun i S=>if i<0 then f i S else S)=N:=by
 apply List.ext_getElem?;intro y;rw[List.getElem?_mapIdx];cases N[y]?<;>simp
theorem aAI{Z:Type}{f:Nat→Z→Z}(N:List Z):(N.mapIdx fun i S=>if i<N.length then f i S else S)=N.mapIdx f:=by
 apply List.ext_getElem?;intro y;rw[List.getElem?_mapIdx,List.getElem?_mapIdx];cases h:N[y]? with
 |none=>rfl
 |some S=>
  have:=(List.getElem?_eq_some_iff.1 h).1;simp[this]
section
variable {A w:World} {m bL:List bu}
theorem XZ{au:Nat}{o:bv}{i:Int}(k:kR o)(H:E A (b8 au o::m) w):M Pg 25 [.pointer (some ⟨au,0,none⟩),.int .i64 i] (bo (B .i64) (B .i64)) w fun r J=>r=(mA o i).2∧E A (b8 au (mA o i).1::m) J:=by
 obtain⟨p,am,H⟩:=kY H;refine aib ?_;unfold Vv;refine ap (sB am k.len.2 H) ?_;rintro r w (⟨I,rfl,H⟩ | ⟨I,aZ,b,O,a5,a0,ag,rfl,H⟩)
 ·have e:mA o i=(o,0,fP o i):=by unfold mA; rw[if_pos I]
  rw[if_pos (by simpa using I),e];exact⟨rfl,fE am H⟩
 ·have e:mA o i=(kK o i.toNat (rP b).1,(rP b).2):=by unfold mA; rw[if_neg (fun h=>h I),a0]
  rw[if_neg (by simp),e];clear e;have ok:=k.at a0;obtain⟨q,R,H⟩:=lP H;have fin:∀ (cC:bi) (gu:ky) (w:World),Fits cC gu→E A (eT aZ cC gu (hP au o p i.toNat m)) w→E A (b8 au (kK o i.toNat cC)::m) w:=by
   intro cC gu w R H;obtain⟨br,H⟩:=rs am a5 (g7 R H);exact fE br H
  refine dg H fun w H=>?_;refine b3 rfl ?_;refine aj (x:=some ⟨q.ax,0,none⟩) 0 H rfl rfl rfl ?_;refine aj (x:=b.cv) 0 H rfl rfl rfl ?_;have tO:=ok.ht.ax.now b.cv;have g2:∀ (l:Nat) (w:World),E A (aI l (pu.cells (e3 b.ax b.cv).2.1) 137::eT aZ { b with ax:=(e3 b.ax b.cv).1 } q (hP au o p i.toNat m)) w →
    FA (some ⟨aZ,0,none⟩,0) (e3 b.ax b.cv).2.2 ⟨l,0,none⟩ w fun r J=>r=(rP b).2∧E A (b8 au (kK o i.toNat (rP b).1)::m) J:=by
   intro l w H;unfold FA;have Yu:rP b=xF b (e3 b.ax b.cv):=rfl;rw[Yu];clear Yu;generalize e3 b.ax b.cv=s at *;obtain⟨ha,vC,e⟩:=s;simp only at H tO ⊢;by_cases ce:e=0
   ·subst ce;have GO:=tO.2 rfl;unfold nr eY at GO;rw[if_neg (by simp)];have aQ:xF b (ha,vC,0)=Dx { b with ax:=ha } (uS b.W.v vC.gO) (fN b.K b.W ⟨5,uS b.W.v vC.gO,0,0,0,false⟩):=by unfold xF; rw[if_neg (by simp)]
    rw[aQ];clear aQ;refine aj (x:=vC.gO) 0 H rfl rfl rfl ?_;refine b3 rfl ?_;have H:=H.drop;refine aj (x:=some ⟨q.iJ,0,none⟩) 0 H rfl rfl rfl ?_;refine ap (y7 (H.front 4)) ?_;rintro r w ⟨rfl,H⟩;refine ap (ZT ok.ht.v (H.front 6)) ?_;intro r w H;have ab:=gn H;have apq:=Ps ok.ht.v;have H:E A (row k8 135 6 r (gl b.W.v)::eT aZ { b with ax:=ha } q (hP au o p i.toNat m)) w:=H.ord [0,3,4,5,6,2,7,1];have rV:∀ h∈gl b.W.v,1≤h.bW∧h.bW≤1125899906842624:=by
     intro h hm;unfold gl at hm;obtain⟨id,hF,rfl⟩:=List.mem_map.1 hm;obtain⟨e,he,rfl⟩:=List.mem_map.1 ((n_ _).mem_iff.1 hF);have al:=z8 ok.ht.v.rr he;rw[DZ al];have:=ok.ht.v.ids _ _ al;have:=ok.ht.v.eU.mark;have:=ok.ht.v.fA;omega
    refine hU (fun s w=>∃ D:Nat,s.2=(D:Int)∧D≤(gl b.W.v).length∧s.1=((gl b.W.v).take D).foldl (fun t h=>min t (h.bW-1)) vC.gO∧E A (row k8 135 6 r (gl b.W.v)::eT aZ { b with ax:=ha } q (hP au o p i.toNat m)) w) (fun s=>((gl b.W.v).length-s.2).toNat) ⟨0,rfl,by omega,rfl,H⟩ ?_;clear H;rintro⟨t,aBj⟩ w ⟨D,GR,bI,aR,H⟩ aa b2;simp only at GR aR;subst GR;unfold M2;simp only;rw[ab];split
    ·rename_i U;have U:D<(gl b.W.v).length:=by
      have:(D:Int)<(gl b.W.v).length:=by simpa using U
      omega
     have aQ:IntKind.i64.wrap ((D:Int)+1)=((D+1:Nat):Int):=by rw[wrap_i64 (by omega) (by omega)]; omega
     obtain⟨a,Y⟩:=kI (i:=(D:Int)) H (by omega) (by omega);have F:(gl b.W.v)[((D:Int)).toNat]?=some ((gl b.W.v)[D]'U):=by rw[Int.toNat_natCast]; exact List.getElem?_eq_getElem U
     have iC:(gl b.W.v).take (D+1)=(gl b.W.v).take D++[(gl b.W.v)[D]'U]:=List.take_succ_eq_append_getElem U;have aoz:=rV _ (List.getElem_mem U);generalize (gl b.W.v)[D]'U=h at F iC aoz;refine aO a Y ?_;refine aO h (mh (fun _=>rfl) Y F H) ?_;refine bH H fun aJB w H=>?_;refine cV (x:=qS) (S:=h) Ee 0 H rfl fun w H=>?_;refine aj (x:=h.bW) 0 H rfl rfl rfl ?_;rw[aQ,wrap_i64 (x:=h.bW-1) (by omega) (by omega)];refine b2 _ _ ⟨D+1,rfl,by omega,?_,H.drop⟩ (by simp only; omega);simp only;rw[iC,List.foldl_append,aR];rfl
    ·rename_i U;have U:D=(gl b.W.v).length:=by
      have:¬ (D:Int)<(gl b.W.v).length:=by simpa using U
      omega
     subst U;rw[List.take_length] at aR;have aR:t=uS b.W.v vC.gO:=aR;subst aR;have aak:=Oh ok.ht.v (t:=vC.gO) (by omega) (by omega);generalize uS b.W.v vC.gO=t at *;have H:=H.drop;refine aj (x:=some ⟨q.iJ,0,none⟩) 0 H rfl rfl rfl ?_;refine ap (DB (W:=b.W) ok.ht.K ok.ht.v (x:=⟨5,t,0,0,0,false⟩) ⟨by simp,by simp only; omega,by simp,by simp,by simp⟩ (H.ord [4,5,6,2])) ?_;rintro r w ⟨rfl,H⟩;generalize fN b.K b.W ⟨5,t,0,0,0,false⟩=z at *;obtain⟨d_,iU,e⟩:=z;simp only at H ⊢;have H:E A (eT aZ { b with ax:=ha,K:=d_,W:=iU } q (hP au o p i.toNat m)) w:=H.ord [4,5,3,6,0,1,2];unfold Dx;by_cases ce:e=0
     ·subst ce;rw[if_neg (by simp)];simp only[ne_eq,not_true_eq_false,if_false];refine aj (x:=some ⟨q.src,0,none⟩) 0 H rfl rfl rfl ?_;refine ap (Ko (H.front 3)) ?_;rintro r w ⟨_,H⟩;exact⟨by trivial,fin { b with ax:=ha,K:=d_,W:=iU,src:=(oy b.src t).1 } q w R (H.ord [1,2,3,0])⟩
     ·rw[if_pos (by simpa using ce)];simp only[if_pos ce];exact⟨by trivial,fin { b with ax:=ha,K:=d_,W:=iU } q w R H⟩
   ·rw[if_pos (by simpa using ce)];have aQ:xF b (ha,vC,e)=({ b with ax:=ha },0,e):=by unfold xF; rw[if_pos ce]
    rw[aQ];exact⟨rfl,fin { b with ax:=ha } q w R H.drop⟩
  refine⟨?_,?_⟩
  ·refine ap (HD ok.ht.ax ok.ht.rd (H.front 1)) ?_;rintro r w ⟨rfl,H⟩;refine bH H fun l w H=>?_;refine cV (x:=jv) (S:=(e3 b.ax b.cv).2.1) pb 0 H rfl fun w H=>?_;exact g2 l w (H.ord [0,2,1])
  ·refine bH H fun l w H=>?_;refine ap (HD ok.ht.ax ok.ht.rd (H.front 2)) ?_;rintro r w ⟨rfl,H⟩;refine cV (x:=jv) (S:=(e3 b.ax b.cv).2.1) pb 1 H rfl fun w H=>?_;exact g2 l w (H.ord [0,2,1])
theorem aEP{au:Nat}{o:bv}{i t:Int}(k:kR o)(aR:-9223372036854775808≤t∧t≤9223372036854775807)(H:E A (b8 au o::m) w):M Pg 50 [.pointer (some ⟨au,0,none⟩),.int .i64 i,.int .i64 t] (B .i64) w fun r J=>r=(EG o i t).2∧E A (b8 au (EG o i t).1::m) J:=by
 obtain⟨p,am,H⟩:=kY H;refine aiE ?_;unfold V8 EG;refine ap (sB am k.len.2 H) ?_;rintro r w (⟨I,rfl,H⟩ | ⟨I,aZ,b,O,a5,a0,ag,rfl,H⟩)
 ·rw[if_pos (by simpa using I),vp I];exact⟨rfl,fE am H⟩
 ·rw[if_neg (by simp),pS O a0 ag];have ok:=k.at a0;obtain⟨q,R,H⟩:=lP H;refine b3 rfl ?_;refine aj (x:=some ⟨q.iJ,0,none⟩) 0 H rfl rfl rfl ?_;refine ap (DB (W:=b.W) ok.ht.K ok.ht.v (x:=⟨6,t,0,0,0,false⟩) ⟨by simp,aR,by simp,by simp,by simp⟩ (H.ord [4,5,6,2])) ?_;rintro r w ⟨rfl,H⟩;obtain⟨br,H⟩:=rs (cC:=(EH b t).1) am a5 (g7 (b:=(EH b t).1) (q:=q) R (H.ord [4,5,3,6,0,1,2]));exact⟨rfl,fE br H⟩
theorem acw{au:Nat}{o:bv}{d:Int}{s:af}{xs:List Int}(k:kR o)(fw:dc 1 m (B .i64) s xs)(ri:xs.length≤1000000)(H:E A (b8 au o::m) w):M Pg 43 [.pointer (some ⟨au,0,none⟩),.int .i64 d,X.enc s] (B .i64) w fun r J=>r=(wX o d xs).2∧E A (b8 au (wX o d xs).1::m) J:=by
 obtain⟨p,am,H⟩:=kY H;refine aiw ?_;unfold V1 wX;have tO:=k.now;refine aO ⟨au,0,none⟩ (fun _=>rfl) ?_;refine aO o.now (fun _=>bE (B .i64) H rfl rfl) ?_;by_cases c:d<0∨1048576<d∨1099511627776<o.now+d
 ·have Gs:(((decide (d<(0:Int)))||(decide (d>(1048576:Int))))||(decide ((IntKind.i64.wrap (o.now+d))>(1099511627776:Int))))=true:=by
   simp only[Bool.or_eq_true,decide_eq_true_eq];rcases c with c | c | c
   ·exact .inl (.inl c)
   ·exact .inl (.inr c)
   ·by_cases bB:d<0∨1048576<d
    ·exact .inl bB
    ·right; rw[wrap_i64 (by omega) (by omega)]; exact c
  rw[if_pos Gs,if_pos c];exact⟨rfl,fE am H⟩
 ·have hw:IntKind.i64.wrap (o.now+d)=o.now+d:=wrap_i64 (by omega) (by omega);rw[if_neg (by rw[hw]; simp only[Bool.or_eq_true,decide_eq_true_eq]; omega),if_neg c];refine b3 rfl ?_;refine aj (x:=o.now) 0 H rfl rfl rfl ?_;rw[hw];refine dx (x:=o.now+d) 0 H rfl rfl (Nat.le_of_ble_eq_true rfl) fun w H=>?_;refine aj (x:=o.ek.kT) 0 H rfl rfl rfl ?_;obtain⟨cn,Z0⟩:=Pk k.kz;refine aO (nV o.ek.kT) cn ?_;refine ap (ae7 (n:=d) (by omega) (by omega) Z0 H) ?_;rintro r w ⟨rfl,H⟩;have aJZ:=GB (n:=d) (f:=nV o.ek.kT) (by omega) (by omega) Z0;refine aj (x:=p.nodes) 0 H rfl rfl rfl ?_;generalize j5 d (nV o.ek.kT)=gm at *;have D6:=fw.len (A:=A) (w:=w) (by exact Oq 6 H);have aK:=zD am (o:=o) (m:=m) (au:=au) (w:=w) (A:=A);have mB:p.nodes.len=o.N.length:=by
   have aK:=gn (H.front 1);rw[List.length_map] at aK;rw[← am.1,List.length_map];exact aK
  have O6:=k.len.2;have H:∃ hW:kf,hW.nodes=p.nodes∧oQ { o with now:=o.now+d,N:=s7 d gm xs 0 o.N } hW∧E A (hB au { o with now:=o.now+d,N:=s7 d gm xs 0 o.N } hW m) w:=⟨p,rfl,⟨by unfold s7; rw[aAH]; exact am.1,am.2⟩,H⟩
  refine hU (fun t w=>∃ D:Nat,t=(D:Int)∧D≤o.N.length∧∃ hW:kf,hW.nodes=p.nodes∧oQ { o with now:=o.now+d,N:=s7 d gm xs D o.N } hW∧E A (hB au { o with now:=o.now+d,N:=s7 d gm xs D o.N } hW m) w) (fun t=>(o.N.length-t).toNat) ⟨0,rfl,by omega,H⟩ ?_;clear H;rintro t w ⟨D,rfl,bI,hW,PO,D1,H⟩ aa b2;unfold Nb;rw[mB];split
  ·rename_i U;have U:D<o.N.length:=by
    have:(D:Int)<o.N.length:=by simpa using U
    omega
   have aQ:IntKind.i64.wrap ((D:Int)+1)=((D+1:Nat):Int):=by rw[wrap_i64 (by omega) (by omega)]; omega
   have xW:o.N[D]?=some (o.N[D]'U):=List.getElem?_eq_getElem U;have HL:=k.at xW;generalize o.N[D]'U=b at xW HL;have aov:(s7 d gm xs D o.N)[D]?=some b:=by unfold s7; rw[List.getElem?_mapIdx,xW]; simp
   have O9:hW.Q.length=o.N.length:=by rw[← List.length_map (f:=Prod.snd),D1.1]; unfold s7; simp
   have qb:hW.Q[D]?=some (hW.Q[D]'(by omega)):=List.getElem?_eq_getElem (by omega);generalize hW.Q[D]'(by omega)=t at qb;obtain⟨aZ,eA⟩:=t;have:eA=b:=by
    have aH:(hW.Q.map Prod.snd)[D]?=some eA:=by rw[List.getElem?_map,qb]; rfl
    have bg:=D1.1;simp only at bg;rw[bg,aov] at aH;cases aH; rfl
   subst this;have zZ:s7 d gm xs (D+1) o.N=(s7 d gm xs D o.N).set D (vs d gm xs D eA):=aHy (f:=vs d gm xs) xW;obtain⟨a,Y⟩:=kI (i:=(D:Int)) (H.front 1) (by omega) (by rw[List.length_map]; omega);rw[PO] at Y;refine aO a Y ?_;refine aO (some ⟨aZ,0,none⟩) (by rw[← PO] at Y; exact mh (fun _=>rfl) Y (by rw[Int.toNat_natCast,List.getElem?_map,qb]; rfl) (H.front 1)) ?_;have vf:∀ w,E A (hB au { o with now:=o.now+d,N:=s7 d gm xs D o.N } hW m) w→FD d (D:Int) (some ⟨aZ,0,none⟩) (pX gm xs D) w aa fun r J=>r=(0:Int)∧E A (b8 au { o with now:=o.now+d,N:=o.N.mapIdx (vs d gm xs) }::m) J:=by
    intro w H;unfold FD;refine b3 rfl ?_;obtain⟨q,R,H⟩:=lP (Ep qb H);refine aj (x:=eA.cv) 0 H rfl rfl rfl ?_;have aKd:-2097152≤pX gm xs D∧pX gm xs D≤2097152:=by unfold pX; split<;>omega
    have qc:=HL.ht.rd;rw[wrap_i64 (x:=d-pX gm xs D) (by omega) (by omega),wrap_i64 (x:=eA.cv+(d-pX gm xs D)) (by omega) (by omega)];refine dx (x:=eA.cv+(d-pX gm xs D)) 0 H rfl rfl (Nat.le_of_ble_eq_true rfl) fun w H=>?_;obtain⟨br,H⟩:=rs (o:={ o with now:=o.now+d,N:=s7 d gm xs D o.N }) (cC:=vs d gm xs D eA) D1 qb (g7 (b:=vs d gm xs D eA) (q:=q) R H);rw[aQ];refine b2 _ _ ⟨D+1,rfl,by omega,{ hW with Q:=hW.Q.set D (aZ,vs d gm xs D eA) },PO,?_,?_⟩ (by omega)
    ·rw[zZ]; exact br
    ·rw[zZ]; exact H
   rw[D6];split
   ·rename_i hr;have hr:D<xs.length:=by
     have:(D:Int)<xs.length:=by simpa using hr
     omega
    have eX:E A m w:=Oq 6 H;obtain⟨aX,pE⟩:=fw.iq (i:=(D:Int)) eX (by omega) (by omega);refine aO aX pE ?_;have ar1:xs[((D:Int)).toNat]?=some (xs[D]'hr):=by rw[Int.toNat_natCast]; exact List.getElem?_eq_getElem hr
    refine aO (xs[D]'hr) (fw.rd pE ar1 eX) ?_;have es:pX gm xs D=min (max (xs[D]'hr) (0-gm)) gm:=by unfold pX; rw[List.getElem?_eq_getElem hr]
    rw[wrap_i64 (x:=0-gm) (by omega) (by omega)];have:=vf w H;rw[es] at this;exact this
   ·rename_i hr;have hr:xs.length≤D:=by
     have:¬ (D:Int)<xs.length:=by simpa using hr
     omega
    have es:pX gm xs D=0:=by unfold pX; rw[List.getElem?_eq_none hr]
    have:=vf w H;rw[es] at this;exact this
  ·rename_i U;have U:D=o.N.length:=by
    have:¬ (D:Int)<o.N.length:=by simpa using U
    omega
   subst U;unfold s7 at D1 H;rw[aAI] at D1 H;exact⟨rfl,fE D1 H⟩
theorem aGY{au:Nat}{o:bv}{i off:Int}(k:kR o)(H:E A (b8 au o::m) w):M Pg 51 [.pointer (some ⟨au,0,none⟩),.int .i64 i,.int .i64 off] (B .i64) w fun r J=>r=(EP o i off).2∧E A (b8 au (EP o i off).1::m) J:=by
 obtain⟨p,am,H⟩:=kY H;refine aiF ?_;unfold V9 EP qG;have tO:=k.now;have aKf:=k.width;have aK:=zD am H;have aK:p.nodes.len=o.N.length:=aK;refine aO ⟨au,0,none⟩ (fun _=>rfl) ?_;refine aO p.nodes (fun _=>bE X H rfl rfl) ?_;rw[aK];by_cases c:i<0∨(o.N.length:Int)≤i
 ·rw[if_pos (by simp only[Bool.or_eq_true,decide_eq_true_eq]; omega)];have e:(if i<0 then none else o.N[i.toNat]?)=none:=by
   by_cases ah:i<0
   ·rw[if_pos ah]
   ·rw[if_neg ah,List.getElem?_eq_none (by omega)]
  rw[e];exact⟨rfl,fE am H⟩
 ·rw[if_neg (by simp only[Bool.or_eq_true,decide_eq_true_eq]; omega)];have F:o.N[i.toNat]?=some (o.N[i.toNat]'(by omega)):=List.getElem?_eq_getElem (by omega);generalize o.N[i.toNat]'(by omega)=b at F;have e:(if i<0 then none else o.N[i.toNat]?)=some b:=by rw[if_neg (by omega),F]
  rw[e];have O9:p.Q.length=o.N.length:=by rw[← am.1,List.length_map]
  have qb:p.Q[i.toNat]?=some (p.Q[i.toNat]'(by omega)):=List.getElem?_eq_getElem (by omega);generalize p.Q[i.toNat]'(by omega)=t at qb;obtain⟨aZ,eA⟩:=t;have:eA=b:=by
   have aH:(p.Q.map Prod.snd)[i.toNat]?=some eA:=by rw[List.getElem?_map,qb]; rfl
   rw[am.1,F] at aH;cases aH; rfl
  subst this;refine b3 rfl ?_;refine aj (x:=o.ek.ju) 0 H rfl rfl rfl ?_;refine dg H fun w H=>?_;obtain⟨a,Y⟩:=kI (i:=i) (H.front 1) (by omega) (by rw[List.length_map]; omega);obtain⟨q,R,H⟩:=lP (Ep qb H);have qc:∀ {w:World} {b:bi},E A (eT aZ b q (hP au o p i.toNat m)) w→L aE a w (some ⟨aZ,0,none⟩):=fun H=>mh (fun _=>rfl) Y (by rw[List.getElem?_map,qb]; rfl) (H.front 13);refine aj (x:=p.nodes) 12 H rfl rfl rfl ?_;refine aO a Y ?_;refine aO _ (qc H) ?_;refine b3 rfl ?_;refine aj (x:=some ⟨q.ax,0,none⟩) 0 H rfl rfl rfl ?_;refine aj (x:=p.nodes) 12 H rfl rfl rfl ?_;refine aO a Y ?_;refine aO _ (qc H) ?_;refine b3 rfl ?_;refine aj (x:=eA.cv) 0 H rfl rfl rfl ?_;refine aj (x:=o.now) 12 H rfl rfl rfl ?_;rw[wrap_i64 (x:=0-o.ek.ju) (by omega) (by omega),wrap_i64 (x:=o.now+min (max off (0-o.ek.ju)) o.ek.ju) (by omega) (by omega)];refine ap (aeC (h:=eA.cv) (t:=EQ o off) (e:=o.ek.ju) (H.front 1)) ?_
  rintro r w ⟨rfl,H⟩;have H:E A (eT aZ { eA with ax:=(sk eA.ax eA.cv (EQ o off) o.ek.ju).1 } q (hP au o p i.toNat m)) w:=H.ord [1,0];refine⟨bE X (H.front 12) rfl rfl,qc H,bE X (H.front 12) rfl rfl,qc H,bE (B .i64) (H.front 12) rfl rfl,?_⟩;obtain⟨br,H⟩:=rs (cC:={ eA with ax:=(sk eA.ax eA.cv (EQ o off) o.ek.ju).1 }) am qb (g7 R H);exact⟨rfl,fE br H⟩
end
def EV(v:List e_)(i:Nat):Int:=((v[i]?).map fun x=>x.aV).getD 0
def Gl(l:List UInt8):cN:=⟨EV (jG l).1 0,⟨EV (jG l).1 1,EV (jG l).1 2,EV (jG l).1 3,EV (jG l).1 4⟩,EV (jG l).1 5⟩
theorem Yb{r:cN}(h:oR r):Gl (fF r)=r:=by
 unfold Gl;rw[afg h];rfl
def tX(K:cJ)(n:Nat):dR:=(K.cK[n]?).getD ⟨[],0⟩
def IW(K:cJ):Prop:=∃ cO br xs an,K.cK[0]?=some cO∧K.cK[1]?=some br∧sG (scan cO.l).1=some xs∧(scan br.l).1=an.map fF∧qP an
def y6(f:Nat)(b:bi)(xs:List dI)(an:List cN)(z:cJ×Int):bi×Int:=if z.2≠0 then ({ b with K:=z.1 },z.2) else (za b.ax b.cv z.1 f xs an,0)
def y5(f:Nat)(b:bi)(xs:List dI)(an:List cN)(br:dR)(z:cJ×Int):bi×Int:=if z.2≠0 then ({ b with K:=z.1 },z.2) else y6 f b xs an (db z.1 1 br)
def h2(K:cJ):cJ:={ K with down:=false }
def oL(f:Nat)(b:bi):bi×Int:=if b.K.down=true then
  y5 f b ((sG (scan (tX b.K 0).l).1).getD []) ((scan (tX b.K 1).l).1.map Gl) (tX b.K 1) (db (h2 b.K) 0 (tX b.K 0))
 else (b,0)
def nJ(o:bv)(i:Int):bv×Int:=qG o i (oL o.ek.gA)
def nS(o:bv)(i:Int)(q:Bool):bv×Int:=if i<0∨(o.N.length:Int)≤i then (o,202) else
 ({ o with aY:=if o.aY.has i=true then { o.aY with off:=fun S=>if S==i then q else o.aY.off S } else o.aY },0)
def pz(o:bv)(i act:Int)(bz:List Int):bv×Int:=qG o i fun b=>({ b with K:={ b.K with ea:=max act 0,bz:=bz } },0)
def wi(o:bv)(i:Int)(bz:List Int):bv×Int:=qG o i fun b=>({ b with K:=hC bz b.K },0)
theorem CH{o:bv}{i:Int}{f:bi→bi×Int}(h:i<0∨(o.N.length:Int)≤i):qG o i f=(o,202):=by
 unfold qG;have e:(if i<0 then none else o.N[i.toNat]?)=none:=by
  by_cases ah:i<0
  ·rw[if_pos ah]
  ·rw[if_neg ah,List.getElem?_eq_none (by omega)]
 rw[e]
theorem zb{o:bv}{i:Int}{f:bi→bi×Int}{b:bi}(ah:0≤i)(h:o.N[i.toNat]?=some b):qG o i f=(kK o i.toNat (f b).1,(f b).2):=by
 unfold qG;rw[if_neg (by omega),h]
section
variable {A w:World} {m bL:List bu}
theorem L4{au:Nat}{o:bv}{p:kf}{i:Int}{hE:cc}{aa:World→Prop}(am:oQ o p)
  (U:∀ aZ b w,0≤i→p.Q[i.toNat]?=some (aZ,b)→o.N[i.toNat]?=some b→E A (hB au o p m) w→sE Pg hE [.pointer (some (⟨aZ,0,none⟩:Addr))] dU w fun _ J=>aa J) (H:E A (hB au o p m) w) :
  M Pg 67 [.pointer (some ⟨au,0,none⟩),.int .i64 i,hE.enc] (B .i64) w fun r J=>((i<0∨(o.N.length:Int)≤i)∧r=202∧E A (hB au o p m) J)∨((0≤i∧i<o.N.length)∧r=0∧aa J):=by
 refine aiV ?_;unfold Wm;have aK:p.nodes.len=o.N.length:=zD am H;refine aO ⟨au,0,none⟩ (fun _=>rfl) ?_;refine aO p.nodes (fun _=>bE X H rfl rfl) ?_;rw[aK];by_cases c:i<0∨(o.N.length:Int)≤i
 ·rw[if_pos (by simp only[Bool.or_eq_true,decide_eq_true_eq]; omega)];exact .inl ⟨c,rfl,H⟩
 ·rw[if_neg (by simp only[Bool.or_eq_true,decide_eq_true_eq]; omega)];have F:o.N[i.toNat]?=some (o.N[i.toNat]'(by omega)):=List.getElem?_eq_getElem (by omega);generalize o.N[i.toNat]'(by omega)=b at F;have O9:p.Q.length=o.N.length:=by rw[← am.1,List.length_map]
  have qb:p.Q[i.toNat]?=some (p.Q[i.toNat]'(by omega)):=List.getElem?_eq_getElem (by omega);generalize p.Q[i.toNat]'(by omega)=t at qb;obtain⟨aZ,eA⟩:=t;have:eA=b:=by
   have aH:(p.Q.map Prod.snd)[i.toNat]?=some eA:=by rw[List.getElem?_map,qb]; rfl
   rw[am.1,F] at aH;cases aH; rfl
  subst this;refine b3 rfl ?_;refine aj (x:=p.nodes) 0 H rfl rfl rfl ?_;obtain⟨a,Y⟩:=kI (i:=i) (H.front 1) (by omega) (by rw[List.length_map]; omega);refine aO a Y ?_;refine aO (some ⟨aZ,0,none⟩) (mh (fun _=>rfl) Y (by rw[List.getElem?_map,qb]; rfl) (H.front 1)) ?_;refine Oi (U aZ eA w (by omega) qb F H) ?_;intro _ w b2;exact .inr ⟨by omega,rfl,b2⟩
theorem X3{au:Nat}{o:bv}{i:Int}{q:Bool}(k:kR o)(H:E A (b8 au o::m) w):M Pg 31 [.pointer (some ⟨au,0,none⟩),.int .i64 i,.bool q] (B .i64) w fun r J=>r=(nS o i q).2∧E A (b8 au (nS o i q).1::m) J:=by
 obtain⟨p,am,H⟩:=kY H;refine aij ?_;unfold VO;refine bH H fun a3 w H=>?_;refine bH H fun bP w H=>?_;refine bH H fun cH w H=>?_;refine aj (x:=(some ⟨au,0,none⟩:Option Addr)) 2 H rfl rfl rfl ?_;refine aj (x:=i) 1 H rfl rfl rfl ?_;have H:E A (hB au o p (aI cH (bf.cells q) 4::aI bP ((B .i64).cells i) 3::aI a3 (aE.cells (some ⟨au,0,none⟩)) 26::m)) w:=H.ord [3,4,5,6,7,8];refine ap (L4 (hE:=cc.mk (.func 68) (List.toArray []) (List.toArray [.pointer (some ⟨a3,0,none⟩),.pointer (some ⟨bP,0,none⟩),.pointer (some ⟨cH,0,none⟩)])) (aa:=fun w=>∃ fU,fU={ o with aY:=if o.aY.has i=true then { o.aY with off:=fun S=>if S==i then q else o.aY.off S } else o.aY }∧E A (b8 au fU::m) w) am ?_ H) ?_
 ·intro aZ b w ah a5 a0 H;refine⟨68,[],[.pointer (some ⟨a3,0,none⟩),.pointer (some ⟨bP,0,none⟩),.pointer (some ⟨cH,0,none⟩)],rfl,ani,?_⟩;refine aiW ?_;unfold Wn;refine dg H fun w H=>?_;refine aj (x:=(some ⟨au,0,none⟩:Option Addr)) 8 H rfl rfl rfl ?_;refine b3 rfl ?_;refine aj (x:=some ⟨p.aY,0,none⟩) 0 H rfl rfl rfl ?_;refine aj (x:=i) 7 H rfl rfl rfl ?_;refine aj (x:=q) 6 H rfl rfl rfl ?_;refine ap (Post.al2 (H.front 3) i q) ?_;rintro r w ⟨_,H⟩;refine⟨bE aE (H.front 8) rfl rfl,?_⟩;refine⟨_,rfl,fE (o:={ o with aY:=if o.aY.has i=true then { o.aY with off:=fun S=>if S==i then q else o.aY.off S } else o.aY }) am ((H.ord [6,7,8]).drop.drop.drop.ord [1,2,3])⟩
 ·rintro r w (⟨I,rfl,H⟩ | ⟨I,rfl,fU,rfl,H⟩)
  ·have e:nS o i q=(o,202):=by unfold nS; rw[if_pos I]
   rw[e];exact⟨rfl,fE am ((H.ord [6,7,8]).drop.drop.drop)⟩
  ·have e:nS o i q=({ o with aY:=if o.aY.has i=true then { o.aY with off:=fun S=>if S==i then q else o.aY.off S } else o.aY },0):=by unfold nS; rw[if_neg (by omega)]
   rw[e];exact⟨rfl,H⟩
theorem Xu{au:Nat}{o:bv}{i act:Int}{s:af}{bz:List Int}(k:kR o)(fw:dc 1 m (B .i64) s bz)(aq:bz.length≤1000000)(H:E A (b8 au o::m) w):M Pg 32 [.pointer (some ⟨au,0,none⟩),.int .i64 i,.int .i64 act,X.enc s] (B .i64) w fun r J=>r=(pz o i act bz).2∧E A (b8 au (pz o i act bz).1::m) J:=by
 obtain⟨p,am,H⟩:=kY H;refine aik ?_;unfold VP;refine bH H fun bS w H=>?_;refine bH H fun b7 w H=>?_;have H:E A (hB au o p (aI b7 (X.cells s) 33::aI bS ((B .i64).cells act) 3::m)) w:=H.ord [2,3,4,5,6,7];refine ap (L4 (hE:=cc.mk (.func 70) (List.toArray []) (List.toArray [.pointer (some ⟨bS,0,none⟩),.pointer (some ⟨b7,0,none⟩)])) (aa:=fun w=>E A (b8 au (pz o i act bz).1::m) w∧(pz o i act bz).2=0) am ?_ H) ?_
 ·intro aZ b w ah a5 a0 H;refine⟨70,[],[.pointer (some ⟨bS,0,none⟩),.pointer (some ⟨b7,0,none⟩)],rfl,anj,?_⟩;refine aiZ ?_;unfold Wq;refine dg H fun w H=>?_;refine b3 rfl ?_;have H:=(H.ord [6,7]).ord [2,3,4,5,6,7,0,1];obtain⟨q,R,H⟩:=lP (Ep a5 H);refine aj (x:=some ⟨q.d,0,none⟩) 0 H rfl rfl rfl ?_;refine aj (x:=act) 19 H rfl rfl rfl ?_;refine aj (x:=s) 18 H rfl rfl rfl ?_;refine ap (aki (n:=act) aq (fw.l4 [_,_,_,_,_,_,_,_,_,_,_,_,_,_,_,_,_,_,_]) (H.front 2)) ?_;rintro r w H;have e:pz o i act bz=(kK o i.toNat { b with K:={ b.K with ea:=max act 0,bz:=bz } },0):=by unfold pz; rw[zb ah a0]
  rw[e];obtain⟨br,H⟩:=rs (cC:={ b with K:={ b.K with ea:=max act 0,bz:=bz } }) am a5 (g7 (q:=q) R (H.ord [1,2,0]));exact⟨fE br ((H.ord [6,7]).drop.drop),rfl⟩
 ·rintro r w (⟨I,rfl,H⟩ | ⟨I,rfl,H,O⟩)
  ·have e:pz o i act bz=(o,202):=CH I;rw[e];exact⟨rfl,fE am ((H.ord [6,7]).drop.drop)⟩
  ·exact⟨O.symm,H⟩
theorem alY{au:Nat}{o:bv}{i:Int}{s:af}{bz:List Int}(k:kR o)(fw:dc 1 m (B .i64) s bz)(H:E A (b8 au o::m) w):M Pg 48 [.pointer (some ⟨au,0,none⟩),.int .i64 i,X.enc s] (B .i64) w fun r J=>r=(wi o i bz).2∧E A (b8 au (wi o i bz).1::m) J:=by
 obtain⟨p,am,H⟩:=kY H;refine aiB ?_;unfold V6;refine bH H fun a3 w H=>?_;have H:E A (hB au o p (aI a3 (X.cells s) 33::m)) w:=H.ord [1,2,3,4,5,6];refine ap (L4 (hE:=cc.mk (.func 102) (List.toArray []) (List.toArray [.pointer (some ⟨a3,0,none⟩)])) (aa:=fun w=>E A (b8 au (wi o i bz).1::m) w∧(wi o i bz).2=0) am ?_ H) ?_
 ·intro aZ b w ah a5 a0 H;refine⟨102,[],[.pointer (some ⟨a3,0,none⟩)],rfl,amB,?_⟩;refine af2 ?_;unfold Ty;refine dg H fun w H=>?_;refine b3 rfl ?_;obtain⟨q,R,H⟩:=lP (Ep a5 H);refine aj (x:=some ⟨q.d,0,none⟩) 0 H rfl rfl rfl ?_;refine aj (x:=s) 18 H rfl rfl rfl ?_;refine ap (Disk.alZ (k.at a0).ht.K (fw.l4 [_,_,_,_,_,_,_,_,_,_,_,_,_,_,_,_,_,_]) (H.front 2)) ?_;rintro r w H;have e:wi o i bz=(kK o i.toNat { b with K:=hC bz b.K },0):=by unfold wi; rw[zb ah a0]
  rw[e];obtain⟨br,H⟩:=rs (cC:={ b with K:=hC bz b.K }) am a5 (g7 (q:=q) R (H.ord [1,2,0]));exact⟨fE br ((H.ord [6]).drop),rfl⟩
 ·rintro r w (⟨I,rfl,H⟩ | ⟨I,rfl,H,O⟩)
  ·have e:wi o i bz=(o,202):=CH I;rw[e];exact⟨rfl,fE am ((H.ord [6]).drop)⟩
  ·exact⟨O.symm,H⟩
end
theorem Kz{K:cJ}{n:Nat}{g:dR}(h:K.cK[n]?=some g):tX K n=g:=by unfold tX; rw[h]; rfl
abbrev zs:=my
abbrev sA:=p7
abbrev kg:=fu
abbrev Dg:=hL
def oT(an:List zs)(at_:Int)(uB:List (List kg))(aV:ch):Prop:=an.length=uB.length∧∀ (i:Nat) (r:zs) (N:List kg),an[i]?=some r→uB[i]?=some N→r.vS=at_∧cT Dg r.N N aV
theorem oT.mono{an:List zs}{at_:Int}{uB:List (List kg)}{aV g5:ch}(h:ch.le aV g5):oT an at_ uB aV→oT an at_ uB g5:=fun ⟨I,O⟩=>⟨I,fun i r N ab kB=>⟨(O i r N ab kB).1,cT.mono h (O i r N ab kB).2⟩⟩
def uk(an:List zs)(at_:Int)(uB:List (List kg)):bu:=rR (oT an at_ uB) oT.mono
theorem oT.push{an:List zs}{at_:Int}{uB:List (List kg)}{q:af}{N:List kg}{aV:ch}(h:oT an at_ uB aV)(ab:cT Dg q N aV):oT (an++[⟨at_,q⟩]) at_ (uB++[N]) aV:=by
 refine⟨by simp[h.1],fun i r W2 tP GF=>?_⟩;by_cases c:i<an.length
 ·rw[List.getElem?_append_left c] at tP;rw[List.getElem?_append_left (by rw[← h.1]; exact c)] at GF;exact h.2 i r W2 tP GF
 ·rw[List.getElem?_append_right (by omega)] at tP;rw[List.getElem?_append_right (by rw[← h.1]; omega)] at GF;have hD:i-an.length=0:=by
   rcases Nat.eq_zero_or_pos (i-an.length) with e | e
   ·exact e
   ·rw[List.getElem?_eq_none (by simp; omega)] at tP; cases tP
  have aQ:i-uB.length=0:=by rw[← h.1]; exact hD
  rw[hD] at tP;rw[aQ] at GF;cases tP; cases GF;exact⟨rfl,ab⟩
noncomputable def nE(at_:Int):List bi→List (List kg)×Int
 |[]=>([],0)
 |b::N=>if b.K.down=true then ([],203) else if w9 (rB b.W.v.W at_)≠0 then ([],w9 (rB b.W.v.W at_)) else
  if (nE at_ N).2≠0 then ([],(nE at_ N).2) else (nb b.W.v.W at_::(nE at_ N).1,0)
noncomputable def vy(o:bv)(at_:Int):List (List kg)×Int:=nE at_ o.N
theorem Sh{at_:Int}{aS:List bi}:∀ {aN:List bi},(∀ b∈aN,b.K.down=false∧w9 (rB b.W.v.W at_)=0)→nE at_ (aN++aS)=if (nE at_ aS).2≠0 then ([],(nE at_ aS).2) else (aN.map (fun b=>nb b.W.v.W at_)++(nE at_ aS).1,0)
 |[],_=>by
  have key:∀ N:List bi,(nE at_ N).2≠0→(nE at_ N).1=[]:=by
   intro N h;cases N with
   |nil=>exact absurd rfl h
   |cons b N=>
    unfold nE at h ⊢;split
    ·rfl
    ·rename_i I;rw[if_neg I] at h;split
     ·rfl
     ·rename_i O;rw[if_neg O] at h;split
      ·rfl
      ·rename_i aH;rw[if_neg aH] at h;exact absurd rfl h
  simp only[List.nil_append,List.map_nil];split
  ·rename_i h;rw[← key aS h]
  ·rename_i h;have h:=Classical.not_not.1 h;rw[← h]
 |b::aN,h=>by
  obtain⟨I,O⟩:=h b (List.mem_cons_self ..);have b_:=Sh (aS:=aS) (aN:=aN) fun x F=>h x (List.mem_cons_of_mem _ F);rw[List.cons_append]
  conv=>lhs; unfold nE
  rw[if_neg (by simp[I]),if_neg (by simp[O]),b_];by_cases c:(nE at_ aS).2≠0
  ·simp only[if_pos c]
  ·simp only[if_neg c,ne_eq,not_true_eq_false,if_false];rfl
section
variable {A w:World} {m bL:List bu}
theorem afk{au:Nat}{o:bv}{i:Int}(k:kR o)(PD:∀ b∈o.N,IW b.K)(H:E A (b8 au o::m) w):M Pg 33 [.pointer (some ⟨au,0,none⟩),.int .i64 i] (B .i64) w fun r J=>r=max (nJ o i).2 0∧E A (b8 au (nJ o i).1::m) J:=by
 obtain⟨p,am,H⟩:=kY H;refine ail ?_;unfold VQ;refine bH H fun aA w H=>?_;refine bH H fun bS w H=>?_;refine dx (x:=(0:Int)) 0 H rfl rfl (Nat.le_of_ble_eq_true rfl) fun w H=>?_;refine aj (x:=(some ⟨au,0,none⟩:Option Addr)) 1 H rfl rfl rfl ?_;have H:E A (hB au o p (aI bS ((B .i64).cells 0) 43::aI aA (aE.cells (some ⟨au,0,none⟩)) 26::m)) w:=H.ord [2,3,4,5,6,7];refine ap (L4 (hE:=cc.mk (.func 72) (List.toArray []) (List.toArray [.pointer (some ⟨aA,0,none⟩),.pointer (some ⟨bS,0,none⟩)])) (aa:=fun w=>E A (aI bS ((B .i64).cells (nJ o i).2) 43::b8 au (nJ o i).1::m) w) am ?_ H) ?_
 ·intro aZ b w ah a5 a0 H;refine⟨72,[],[.pointer (some ⟨aA,0,none⟩),.pointer (some ⟨bS,0,none⟩)],rfl,ank,?_⟩;refine ai1 ?_;unfold Ws;refine b3 rfl ?_;obtain⟨q,R,H⟩:=lP (Ep a5 H);have ok:=k.at a0;have e:nJ o i=(kK o i.toNat (oL o.ek.gA b).1,(oL o.ek.gA b).2):=by unfold nJ; rw[zb ah a0]
  rw[e];clear e;have fin:∀ (cC:bi) (e:Int) (w:World),E A (j8 aZ cC::aI au (gG.cells (iA o p)) 114::row aE 89 1 p.nodes (p.Q.map kE)::dt ((p.Q.eraseIdx i.toNat).map hj)::Post.hJ p.aY o.aY::cZ fm .i64 p.kD p.rn::row kh 53 3 p.told o.told::aI bS ((B .i64).cells e) 43::aI aA (aE.cells (some ⟨au,0,none⟩)) 26::m) w→E A (aI bS ((B .i64).cells e) 43::b8 au (kK o i.toNat cC)::m) w:=by
   intro cC e w H;obtain⟨br,H⟩:=rs am a5 H;have H:=fE br ((H.ord [7]).drop);exact H.front 1
  refine aj (x:=some ⟨q.d,0,none⟩) 0 H rfl rfl rfl ?_;refine ap (DC (H.front 2)) ?_;rintro r w ⟨rfl,H⟩;by_cases ag:b.K.down=true
  ·rw[if_pos ag];obtain⟨cO,br,xs,an,yf,re,ri,J7,o5⟩:=PD b (List.mem_of_getElem? a0);have kq:∀ r∈an,oR r:=by
    intro r ab;obtain⟨D,bI,rfl⟩:=List.getElem_of_mem ab;exact (o5 D _ (List.getElem?_eq_getElem bI)).1
   have Oz:(scan br.l).1.map Gl=an:=by
    rw[J7,List.map_map]
    conv=>rhs; rw[← List.map_id an]
    exact List.map_congr_left fun r ab=>Yb (kq r ab)
   have e:oL o.ek.gA b=y5 o.ek.gA b xs an br (db (h2 b.K) 0 cO):=by
    unfold oL;rw[if_pos ag,Kz yf,Kz re,ri,Oz];rfl
   rw[e];clear e;refine aj (x:=some ⟨q.d,0,none⟩) 1 H rfl rfl rfl ?_;refine ap (aIj H) ?_;intro _ w H;refine aj (x:=(some ⟨au,0,none⟩:Option Addr)) 19 H rfl rfl rfl ?_;have di:(h2 b.K).hz:=⟨ok.ht.K.len,ok.ht.K.log⟩
   refine ap (afI (au:=au) (aZ:=aZ) (c:=iA o p) (x:=n1 b q) (ax:=b.ax) (K:=h2 b.K) (cO:=cO) (br:=br) (xs:=xs) (an:=an) rfl rfl k.ey di rfl yf ri re J7 o5 (H.ord [12,1,2,0])) ?_;rintro r w ⟨dz,cm,bh⟩;have old:∀ (d_:cJ) (w:World),E A (aI au (gG.cells (iA o p)) 114::aI aZ (j1.cells (n1 b q)) 101::j4 q.ax b.ax::er q.d d_::oH q.src b.src::kt q.iJ q.e6 q.dn::h4 q.e6 q.d b.W.V::eQ q.dn b.W.v::h4 q.cs q.d b.A::cZ aE .i64 q.jE (q.Q.map iR)::dt (q.Q.map lR)::cZ fm .i64 q.pi q.qx::row mz 161 8 q.out b.out::row aE 89 1 p.nodes (p.Q.map kE)::dt ((p.Q.eraseIdx i.toNat).map hj)::Post.hJ p.aY o.aY::cZ fm .i64 p.kD p.rn::row kh 53 3 p.told o.told::aI bS ((B .i64).cells 0) 43::aI aA (aE.cells (some ⟨au,0,none⟩)) 26::m) w →
     ∀ e:Int,ba (B .i64) ⟨bS,0,none⟩ e w fun J=>E A (aI bS ((B .i64).cells e) 43::b8 au (kK o i.toNat { b with K:=d_ })::m) J:=by
    intro d_ w H e;have H:=g7 (b:={ b with K:=d_ }) (q:=q) R (H.ord [1,2,3,4,5,6,7,8,9,10,11,12]);refine cV (x:=(0:Int)) (S:=e) (n:=1) (fun _=>rfl) 7 H rfl fun w H=>?_;exact fin { b with K:=d_ } e w (H.ord [1,2,3,4,5,6,7,0])
   by_cases bY:(db (h2 b.K) 0 cO).2=0
   ·have aQ:y5 o.ek.gA b xs an br (db (h2 b.K) 0 cO)=y6 o.ek.gA b xs an (db (db (h2 b.K) 0 cO).1 1 br):=by unfold y5; rw[if_neg (fun h=>h bY)]
    rw[aQ];by_cases bm:(db (db (h2 b.K) 0 cO).1 1 br).2=0
    ·obtain⟨rfl,H⟩:=bh bY bm;have a6:y6 o.ek.gA b xs an (db (db (h2 b.K) 0 cO).1 1 br)=(za b.ax b.cv (db (db (h2 b.K) 0 cO).1 1 br).1 o.ek.gA xs an,0):=by unfold y6; rw[if_neg (fun h=>h bm)]
     rw[a6];have H:=(H.ord [2,3,4,5,6,7,8,9,10]).drop.drop.drop.drop.drop.drop.drop.drop.drop;refine cV (x:=(0:Int)) (S:=(0:Int)) (n:=1) (fun _=>rfl) 7 H rfl fun w H=>?_;exact fin _ 0 w (H.ord [2,1,3,4,5,6,7,0])
    ·obtain⟨rfl,H⟩:=cm bY bm;have a6:y6 o.ek.gA b xs an (db (db (h2 b.K) 0 cO).1 1 br)=({ b with K:=(db (db (h2 b.K) 0 cO).1 1 br).1 },(db (db (h2 b.K) 0 cO).1 1 br).2):=by unfold y6; rw[if_pos bm]
     rw[a6];exact old _ w H _
   ·obtain⟨rfl,H⟩:=dz bY;have aQ:y5 o.ek.gA b xs an br (db (h2 b.K) 0 cO)=({ b with K:=(db (h2 b.K) 0 cO).1 },(db (h2 b.K) 0 cO).2):=by unfold y5; rw[if_pos bY]
    rw[aQ];exact old _ w H _
  ·rw[if_neg ag];have e:oL o.ek.gA b=(b,0):=by unfold oL; rw[if_neg ag]
   rw[e];have H:=g7 R (H.ord [1,2,0]);exact fin b 0 w H
 ·rintro r w (⟨I,rfl,H⟩ | ⟨I,rfl,H⟩)
  ·have e:nJ o i=(o,202):=CH I;rw[e];refine aj (x:=(0:Int)) 6 H rfl rfl rfl ?_;exact⟨rfl,fE am ((H.ord [6,7]).drop.drop)⟩
  ·refine aj (x:=(nJ o i).2) 0 H rfl rfl rfl ?_;exact⟨rfl,H.drop⟩
theorem LV{au:Nat}{o:bv}{i:Int}{p:kf}(am:oQ o p)(k:kR o)(H:E A (hB au o p m) w):M Pg 9 [.pointer (some ⟨au,0,none⟩),.int .i64 i] aE w fun r J=>
  (fP o i≠0∧r=none∧E A (hB au o p m) J)∨(fP o i=0∧∃ aZ b q,0≤i∧p.Q[i.toNat]?=some (aZ,b)∧o.N[i.toNat]?=some b∧Fits b q∧r=some ⟨q.dn,0,none⟩∧E A (eT aZ b q (hP au o p i.toNat m)) J):=by
 refine WS ?_;unfold Nv;refine ap (sB am k.len.2 H) ?_;rintro r w (⟨I,rfl,H⟩ | ⟨I,aZ,b,O,a5,a0,ag,rfl,H⟩)
 ·rw[if_pos (by simpa using I)];exact .inl ⟨I,rfl,H⟩
 ·rw[if_neg (by simp)];obtain⟨q,R,H⟩:=lP H;refine b3 rfl ?_;refine aj (x:=some ⟨q.iJ,0,none⟩) 0 H rfl rfl rfl ?_;refine ap (y7 (H.front 4)) ?_;rintro r w ⟨rfl,H⟩;exact .inr ⟨I,aZ,b,q,O,a5,a0,R,rfl,H.ord [1,2,3,4,0]⟩
theorem aGk{au:Nat}{o:bv}{at_:Int}(k:kR o)(H:E A (b8 au o::m) w):M Pg 26 [.pointer (some ⟨au,0,none⟩),.int .i64 at_] (bo X (B .i64)) w fun r J=>
  r.2=(vy o at_).2∧∃ iI,E A (row sA 85 2 r.1 iI::uk iI at_ (vy o at_).1::b8 au o::m) J:=by
 obtain⟨p,am,H⟩:=kY H;refine aif ?_;unfold VF;have aK:p.nodes.len=o.N.length:=zD am H;have O6:=k.len.2;refine b3 rfl ?_;refine aj (x:=p.nodes) 0 H rfl rfl rfl ?_;have fail:∀ (e:Int) (w:World),vy o at_=([],e)→E A (hB au o p m) w→(e=(vy o at_).2∧∃ iI,E A (row sA 85 2 fx iI::uk iI at_ (vy o at_).1::b8 au o::m) w):=by
  intro e w he H;rw[he];refine⟨rfl,[],?_⟩;have H:=fE am H;have H:=H.z6 (y:=oT.mono) (e8:=oT [] at_ []) (fun _ _ _=>⟨rfl,fun i r N ab _=>by simp at ab⟩);exact kJ _ _ _ H
 have lw:E A (row sA 85 2 fx []::uk [] at_ []::hB au o p m) w:=kJ _ _ _ (H.z6 (y:=oT.mono) (e8:=oT [] at_ []) (fun _ _ _=>⟨rfl,fun i r N ab _=>by simp at ab⟩))
 refine hU (fun s w=>∃ (D:Nat) (iI:List zs),s.2=(D:Int)∧D≤o.N.length∧iI.length=D∧(∀ b∈o.N.take D,b.K.down=false∧w9 (rB b.W.v.W at_)=0) ∧
  E A (row sA 85 2 s.1 iI::uk iI at_ ((o.N.take D).map fun b=>nb b.W.v.W at_)::hB au o p m) w) (fun s=>(o.N.length-s.2).toNat) ⟨0,[],rfl,by omega,rfl,(fun b a0=>by simp at a0),lw⟩ ?_
 clear H lw;rintro⟨s,t⟩ w ⟨D,iI,aR,bI,tQ,ra,H⟩ aa b2;simp only at aR H;subst aR;unfold M4;simp only;rw[aK];split
 ·rename_i U;have U:D<o.N.length:=by
   have:(D:Int)<o.N.length:=by simpa using U
   omega
  have aQ:IntKind.i64.wrap ((D:Int)+1)=((D+1:Nat):Int):=by rw[wrap_i64 (by omega) (by omega)]; omega
  have xW:o.N[D]?=some (o.N[D]'U):=List.getElem?_eq_getElem U;have aai:o.N=o.N.take D++(o.N[D]'U)::o.N.drop (D+1):=by rw[← List.drop_eq_getElem_cons U,List.take_append_drop]
  have iC:o.N.take (D+1)=o.N.take D++[o.N[D]'U]:=List.take_succ_eq_append_getElem U;have HL:=k.at xW;generalize o.N[D]'U=b at xW aai iC HL;have nW:=Sh (at_:=at_) (aS:=b::o.N.drop (D+1)) ra;rw[← aai] at nW;have gV:E A (hB au o p (row sA 85 2 s iI::uk iI at_ ((o.N.take D).map fun b=>nb b.W.v.W at_)::m)) w:=H.ord [2,3,4,5,6,7];refine ap (sB am k.len.2 gV) ?_;have kC:fP o (D:Int)=if b.K.down=true then 203 else 0:=by
   unfold fP;rw[if_neg (by omega),Int.toNat_natCast,xW]
  rintro r w (⟨I,rfl,H⟩ | ⟨I,aZ,eA,O,a5,a0,ag,rfl,H⟩)
  ·rw[if_pos (by simpa using I)];have DY:b.K.down=true:=by
    rw[kC] at I;by_cases c:b.K.down=true
    ·exact c
    ·rw[if_neg c] at I; exact absurd rfl I
   refine fail _ w ?_ ((H.ord [6,7]).drop.drop);have a6:nE at_ (b::o.N.drop (D+1))=([],203):=by unfold nE; rw[if_pos DY]
   unfold vy;rw[nW,a6,kC,if_pos DY];rfl
  ·rw[if_neg (by simp)];have:eA=b:=by rw[Int.toNat_natCast,xW] at a0; cases a0; rfl
   subst this;obtain⟨q,R,H⟩:=lP H;refine b3 rfl ?_;refine aj (x:=some ⟨q.iJ,0,none⟩) 0 H rfl rfl rfl ?_;refine ap (y7 (H.front 4)) ?_;rintro r w ⟨rfl,H⟩;refine ap (aIA (t:=at_) HL.ht.v (H.front 6)) ?_;rintro⟨gJ,bs⟩ w ⟨aH,H⟩;simp only at aH H;subst aH;have H:E A (row Dg 87 2 gJ (nb eA.W.v.W at_)::eT aZ eA q (hP au o p ((D:Int)).toNat (row sA 85 2 s iI::uk iI at_ ((o.N.take D).map fun b=>nb b.W.v.W at_)::m))) w:=H.ord [0,3,4,5,6,2,7,1];by_cases ct:w9 (rB eA.W.v.W at_)=0
   ·rw[if_neg (by simp[ct])];have H:=vz H;have H:E A (j8 aZ eA::ro Dg gJ (nb eA.W.v.W at_)::hP au o p ((D:Int)).toNat (row sA 85 2 s iI::uk iI at_ ((o.N.take D).map fun b=>nb b.W.v.W at_)::m)) w:=g7 R (H.ord [1,2,3,4,5,6,7,8,9,10,11,12]);have H:=wT a5 (H.ord [0,2,3,4,5,6,7]);refine nq (fun _=>rfl) 7 H rfl (by simp; omega) fun r w H=>?_;have H:E A (ro Dg gJ (nb eA.W.v.W at_)::uk iI at_ ((o.N.take D).map fun b=>nb b.W.v.W at_)::row sA 85 2 r (iI++[⟨at_,gJ⟩])::hB au o p m) w:=H.ord [7,8];have tU:bX (ro Dg gJ (nb eA.W.v.W at_)::uk iI at_ ((o.N.take D).map fun b=>nb b.W.v.W at_)::row sA 85 2 r (iI++[⟨at_,gJ⟩])::hB au o p m) (oT (iI++[⟨at_,gJ⟩]) at_ (((o.N.take D).map fun b=>nb b.W.v.W at_)++[nb eA.W.v.W at_])):=((bX.tail (bX.here (y:=oT.mono))).and (bX.here (y:=cT.mono))).imp fun aV h=>oT.push h.1 h.2;have H:=H.z6 (y:=oT.mono) tU;rw[aQ]
    refine b2 _ _ ⟨D+1,iI++[⟨at_,gJ⟩],rfl,by omega,by simp[tQ],?_,?_⟩ (by simp only; omega)
    ·intro ajA Zy;rw[iC] at Zy;rcases List.mem_append.1 Zy with h | h
     ·exact ra ajA h
     ·rw[List.mem_singleton.1 h]; exact⟨ag,ct⟩
    ·rw[iC,List.map_append];exact ((H.ord [1,2]).drop.drop.front 1)
   ·rw[if_pos (by simpa using ct)];have H:=H.drop;have H:=wT a5 (g7 R H);refine fail _ w ?_ ((H.ord [6,7]).drop.drop);have a6:nE at_ (eA::o.N.drop (D+1))=([],w9 (rB eA.W.v.W at_)):=by unfold nE; rw[if_neg (by simp[ag]),if_pos ct]
    unfold vy;rw[nW,a6];simp only[if_pos ct]
 ·rename_i U;have U:D=o.N.length:=by
   have:¬ (D:Int)<o.N.length:=by simpa using U
   omega
  subst U;rw[List.take_length] at ra H;have a6:vy o at_=(o.N.map fun b=>nb b.W.v.W at_,0):=by
   unfold vy;have:=Sh (at_:=at_) (aS:=[]) ra;rw[List.append_nil] at this;rw[this];simp[nE]
  rw[a6];exact⟨rfl,iI,(fE am (H.ord [2,3,4,5,6,7])).ord [1,2]⟩
end
instance (f:Nat):Decidable (jo f):=by unfold jo; infer_instance
instance (f:Nat):Decidable (iX f):=by unfold iX; infer_instance
abbrev rF:=kV
abbrev gi:=g8
structure p3(c:rF):Prop where
 n:1≤c.hA∧c.hA≤8
 ey:jo c.gA
 kz:iX c.kT
 width:0≤c.ju∧c.ju≤1000
def ni:cJ:=⟨[⟨[],0⟩,⟨[],0⟩],0,false,0,[]⟩
def yI(c:rF):bi:=za (sk (Gj c.kT) 0 1000 c.ju).1 0 ni c.gA [] []
def xG(c:rF)(D:Nat):bv:=⟨c,1000,List.replicate D (yI c),Post.dB.new c.hA,fun _=>false,[]⟩
def lO(c:rF):bv:=xG c c.hA.toNat
theorem Mf:ni.hz:=⟨by simp[ni],fun g R=>by simp[ni] at R; subst R; simp⟩
theorem KH(n:Int):db ni n ⟨[],0⟩=(ni,0):=by
 have aG:scan []=([],0):=by rfl
 unfold db;rw[aG];simp
section
variable {A w:World} {m bL:List bu}
theorem Q2{c:rF}(ab:c.gA<18446744073709551616)(ag:c.kT<18446744073709551616)(H:E A m w):M Pg 12 [gi.enc c] (bo aE (B .i64)) w fun r J=>
  (¬ p3 c→r=(none,200)∧E A m J)∧(p3 c→r.2=0∧∃ au:Nat,r.1=some ⟨au,0,none⟩∧E A (b8 au (lO c)::m) J):=by
 refine agt ?_;unfold Mo;refine bH H fun aX w H=>?_;refine aj (x:=c.kT) 0 H rfl rfl rfl ?_;refine ap (abK ag H) ?_;rintro⟨gJ,bs⟩ w ⟨df,dT⟩;have g2:∀ (t:Bool) (w:World),((t||(bs != 0))||gJ.isNone)=(if 1≤c.hA∧c.hA≤8∧jo c.gA∧iX c.kT then false else true)→E A (aI aX (gi.cells c) 24::m) w→CR ⟨aX,0,none⟩ (gJ,bs) t w fun r J=>(¬ p3 c→r=(none,200)∧E A m J)∧(p3 c→r.2=0∧∃ au:Nat,r.1=some ⟨au,0,none⟩∧E A (b8 au (lO c)::m) J):=by
  intro t w aR H;unfold CR;refine aO c.ju (fun _=>bE (B .i64) H rfl rfl) ?_;refine aO c.ju (fun _=>bE (B .i64) H rfl rfl) ?_;simp only;rw[aR];by_cases ok:p3 c
  ·rw[if_neg (by rw[if_pos ⟨ok.n.1,ok.n.2,ok.ey,ok.kz⟩]; simp only[Bool.false_or,Bool.or_eq_true,decide_eq_true_eq]; have:=ok.width; omega)];refine ec (x:=c) 0 H rfl ?_;refine wU H fun kD w H=>?_;have H:=wQ fm .i64 H;refine bH H fun au w H=>?_;refine aj (x:=c.hA) 2 H rfl rfl rfl ?_;refine ap (Post.ajB H c.hA) ?_;rintro r w (⟨h,_⟩ | ⟨_,aZ,rfl,H⟩)
   ·have:=ok.n; omega
   ·refine dx (x:=(some ⟨aZ,0,none⟩:Option Addr)) 1 H rfl rfl (Nat.le_of_ble_eq_true rfl) fun w H=>?_;refine aj (x:=c.hA) 3 H rfl rfl rfl ?_;have lw:∃ p:kf,oQ (xG c 0) p∧E A (hB au (xG c 0) p (aI aX (gi.cells c) 24::m)) w:=by
     refine⟨⟨fx,aZ,kD,fx,[],[]⟩,⟨rfl,fun _=>rfl⟩,?_⟩;have H:=kJ kh 53 3 (kJ aE 89 1 (E.shut (bL:=([]:List bu)) H));exact H.ord [3,1,2,4,5,0]
    have qd:=ok.n;refine hU (fun t w=>∃ D:Nat,t=(D:Int)∧(D:Int)≤c.hA∧∃ p:kf,oQ (xG c D) p∧E A (hB au (xG c D) p (aI aX (gi.cells c) 24::m)) w) (fun t=>(c.hA-t).toNat) ⟨0,rfl,by omega,lw⟩ ?_;clear H lw;rintro t w ⟨D,rfl,bI,p,am,H⟩ aa b2;unfold Mr;split
    ·rename_i U;have U:(D:Int)<c.hA:=by simpa using U
     have aQ:IntKind.i64.wrap ((D:Int)+1)=((D+1:Nat):Int):=by rw[wrap_i64 (by omega) (by omega)]; omega
     refine bH H fun l w H=>?_;refine aj (x:=c.kT) 7 H rfl rfl rfl ?_;refine ap (abK ag H) ?_;rintro⟨gC,f_⟩ w ⟨br,_⟩;obtain⟨_,uR,wy,H⟩:=br ok.kz;simp only at wy;subst wy;refine dx (x:=(some ⟨uR,0,none⟩:Option Addr)) 1 H rfl rfl (Nat.le_of_ble_eq_true rfl) fun w H=>?_;refine dg H fun w H=>?_;refine aj (x:=(some ⟨uR,0,none⟩:Option Addr)) 0 H rfl rfl rfl ?_;refine aj (x:=(1000:Int)) 2 H rfl rfl rfl ?_;refine aj (x:=c.ju) 8 H rfl rfl rfl ?_;refine ap (aeC (h:=0) (t:=1000) (e:=c.ju) (H.front 1)) ?_;rintro r w ⟨_,H⟩;refine ap (Disk.Q3 (n:=2) (by omega) (by omega) H) ?_;rintro⟨gJ,bs⟩ w ⟨_,d,zP,H⟩;simp only at zP;subst zP;refine dx (x:=(some ⟨d,0,none⟩:Option Addr)) 2 H rfl rfl (Nat.le_of_ble_eq_true rfl) fun w H=>?_
     have H:E A (aI au (gG.cells (iA (xG c D) p)) 114::aI l (j1.cells ⟨some ⟨uR,0,none⟩,0,some ⟨d,0,none⟩,none,none,none,none,none,fx⟩) 101::j4 uR (sk (Gj c.kT) 0 1000 c.ju).1::er d ni::row aE 89 1 p.nodes (p.Q.map kE)::dt (p.Q.map hj)::Post.hJ p.aY (xG c D).aY::cZ fm .i64 p.kD p.rn::row kh 53 3 p.told (xG c D).told::aI aX (gi.cells c) 24::m) w:=H.ord [3,0,2,1];refine ap (afI (cO:=⟨[],0⟩) (br:=⟨[],0⟩) (xs:=[]) (an:=[]) rfl rfl ok.ey Mf rfl rfl rfl rfl rfl (fun i r h=>by simp at h) H) ?_;rintro r w ⟨_,_,bh⟩;rw[KH] at bh;simp only at bh;rw[KH] at bh;obtain⟨_,H⟩:=bh (by trivial) (by first | rfl | trivial);refine aj (x:=p.nodes) 0 H rfl rfl rfl ?_;have wz:p.Q.length=D:=by rw[← List.length_map (f:=Prod.snd),am.1]; show (List.replicate D _).length=D; simp
     refine nq (fun _=>rfl) 2 H rfl (by simp; omega) fun r w H=>?_;refine dx (x:=r) 1 H rfl rfl (Nat.le_of_ble_eq_true rfl) fun w H=>?_;rw[aQ];refine b2 _ _ ⟨D+1,rfl,by omega,{ p with nodes:=r,Q:=p.Q++[(l,yI c)] },⟨?_,am.2⟩,?_⟩ (by omega)
     ·show (p.Q++[(l,yI c)]).map Prod.snd=List.replicate (D+1) (yI c)
      rw[List.map_append,am.1,List.replicate_succ'];rfl
     ·have H:E A (hj (l,yI c)::dt (p.Q.map hj)::_) w:=H.ord [2,3];rw[show p.Q.map hj=(p.Q++[]).map hj from by rw[List.append_nil]] at H;have H:=(we (f:=hj) H).ord [1,2,0];have e:(p.Q++[(l,yI c)]).map kE=p.Q.map kE++[some ⟨l,0,none⟩]:=by rw[List.map_append]; rfl
      show E A (hB au (xG c (D+1)) { p with nodes:=r,Q:=p.Q++[(l,yI c)] } (aI aX (gi.cells c) 24::m)) w
      unfold hB;rw[e];exact H
    ·rename_i U;have U:¬ (D:Int)<c.hA:=by simpa using U
     have u6:c.hA.toNat=D:=by omega
     refine⟨fun h=>absurd ok h,fun _=>⟨rfl,au,rfl,?_⟩⟩;unfold lO;rw[u6];exact fE am ((H.ord [6]).drop)
  ·have:(((if 1≤c.hA∧c.hA≤8∧jo c.gA∧iX c.kT then false else true)||(decide (c.ju<(0:Int))))||(decide (c.ju>(1000:Int))))=true:=by
    by_cases h:1≤c.hA∧c.hA≤8∧jo c.gA∧iX c.kT
    ·rw[if_pos h];simp only[Bool.false_or,Bool.or_eq_true,decide_eq_true_eq];by_cases O:0≤c.ju∧c.ju≤1000
     ·exact absurd ⟨⟨h.1,h.2.1⟩,h.2.2.1,h.2.2.2,O⟩ ok
     ·omega
    ·rw[if_neg h]; simp
   rw[if_pos this];exact⟨fun _=>⟨by trivial,H.drop⟩,fun h=>absurd h ok⟩
 have ZQ:(iX c.kT∧bs=0∧gJ.isNone=false∧E A (aI aX (gi.cells c) 24::m) w)∨(¬ iX c.kT∧bs=60∧gJ.isNone=true∧E A (aI aX (gi.cells c) 24::m) w):=by
  by_cases h:iX c.kT
  ·obtain⟨I,l,O,H⟩:=df h;simp only at I O;exact .inl ⟨h,I,by rw[O]; rfl,H.drop⟩
  ·obtain⟨I,H⟩:=dT h;cases I;exact .inr ⟨h,rfl,rfl,H⟩
 have H:E A (aI aX (gi.cells c) 24::m) w:=by rcases ZQ with h | h<;>exact h.2.2.2
 refine aj (x:=c.hA) 0 H rfl rfl rfl ?_;refine aO c.hA (fun _=>bE (B .i64) H rfl rfl) ?_;by_cases a8:1≤c.hA∧c.hA≤8
 ·rw[if_neg (by simp only[Bool.or_eq_true,decide_eq_true_eq]; omega)];refine aj (x:=c.gA) 0 H rfl rfl rfl ?_;refine ap (Lo ab H) ?_;rintro r w ⟨I,_,H⟩;refine g2 _ w ?_ H;rcases ZQ with ⟨h,a6,c_,_⟩ | ⟨h,a6,c_,_⟩
  ·rw[a6,c_];by_cases hrt:jo c.gA
   ·rw[if_pos ⟨a8.1,a8.2,hrt,h⟩,I.2 hrt]; rfl
   ·rw[if_neg (fun cn=>hrt cn.2.2.1)];have:r≠0:=fun e=>hrt (I.1 e);simp[this]
  ·rw[if_neg (fun cn=>h cn.2.2.2),c_]; simp
 ·rw[if_pos (by simp only[Bool.or_eq_true,decide_eq_true_eq]; omega)];refine g2 true w ?_ H;rw[if_neg (fun cn=>a8 ⟨cn.1,cn.2.1⟩)];simp
end
abbrev nl:=List (List UInt8)
structure Live(K:cJ)(aN:nl)(a:Nat)(aS:nl)(l:Nat):Prop where
 ok:K.hz
 up:K.down=false
 cK:K.cK=[⟨ck aN,(ck (aN.take a)).length⟩,⟨ck aS,(ck (aS.take l)).length⟩]
 tV:a≤aN.length
 nZ:l≤aS.length
 n9:Small aN
 lm:Small aS
structure pr(K:cJ)(aN aS:nl):Prop where
 ok:K.hz
 off:K.down=true
 cK:∃ p q,(∃ e,nz p=.error e)∧(∃ e,nz q=.error e)∧K.cK=[⟨ck aN++p,(ck aN++p).length⟩,⟨ck aS++q,(ck aS++q).length⟩]
 n9:Small aN
 lm:Small aS
theorem aeM{aN:nl}{x:List UInt8}(h:Small aN)(F:x.length≤65536):Small (aN++[x]):=by
 intro S aB;rcases List.mem_append.1 aB with aB | aB
 ·exact h S aB
 ·rw[List.mem_singleton.1 aB]; exact F
theorem aeN{aN:nl}(h:Small aN)(i:Nat):Small (aN.take i):=fun S aB=>h S (List.mem_of_mem_take aB)
theorem Zk(aN:nl)(x:List UInt8):ck (aN++[x])=ck aN++g0 x:=by rw[Zh]; simp[ck]
theorem Br(aN:nl)(k:Nat):(ck (aN.take k)).length≤(ck aN).length:=by
 have:ck aN=ck (aN.take k)++ck (aN.drop k):=by rw[← Zh,List.take_append_drop]
 rw[this,List.length_append]; omega
def Ii(K:cJ)(cK:List dR):cJ:={ K with ea:=if 1<K.ea then IntKind.i64.wrap (K.ea-1) else K.ea,lE:=IntKind.i64.wrap (K.lE+1),cK:=cK }
theorem Dp{K:cJ}{cO br:dR}(al:K.cK=[cO,br])(ag:K.down=false){size:Int}(aG:size≤4194304)(f:dR→dR) :
  (K.ea≠1→j3 K 0 size f=(Ii K [f cO,br],0)∧j3 K 1 size f=(Ii K [cO,f br],0))∧(K.ea=1→j3 K 0 size f=(hC K.bz K,71)∧j3 K 1 size f=(hC K.bz K,71)):=by
 refine⟨fun Y=>⟨?_,?_⟩,fun Y=>⟨?_,?_⟩⟩
 ·unfold j3;rw[if_neg (by rw[al]; simp),if_neg (by simp[ag]),if_neg (by omega),if_neg Y,al];rfl
 ·unfold j3;rw[if_neg (by rw[al]; simp),if_neg (by simp[ag]),if_neg (by omega),if_neg Y,al];rfl
 ·unfold j3;rw[if_neg (by rw[al]; simp),if_neg (by simp[ag]),if_neg (by omega),if_pos Y]
 ·unfold j3;rw[if_neg (by rw[al]; simp),if_neg (by simp[ag]),if_neg (by omega),if_pos Y]
theorem aeJ{K:cJ}{cO br:dR}(al:K.cK=[cO,br]):Disk.sizeOf K 0=cO.l.length∧Disk.sizeOf K 1=br.l.length:=by
 unfold Disk.sizeOf;rw[al];exact⟨rfl,rfl⟩
theorem ET{K:cJ}(a l:dR)(Y:a.sure≤a.l.length∧a.l.length≤4194304)(ao:l.sure≤l.l.length∧l.l.length≤4194304):(Ii K [a,l]).hz:=by
 refine⟨by show [a,l].length≤16; simp,fun g R=>?_⟩;have R:g∈[a,l]:=R;simp only[List.mem_cons,List.mem_nil_iff,or_false] at R;rcases R with rfl | rfl
 ·exact Y
 ·exact ao
theorem Live.LH{K:cJ}{aN aS:nl}{a l:Nat}(N:Live K aN a aS l):(ck aN).length≤4194304∧(ck aS).length≤4194304:=by
 have h:=N.ok.log;rw[N.cK] at h;exact⟨(h ⟨ck aN,(ck (aN.take a)).length⟩ (by simp)).2,(h ⟨ck aS,(ck (aS.take l)).length⟩ (by simp)).2⟩
theorem Live.akc{K:cJ}{aN aS:nl}{a l:Nat}{x:List UInt8}(N:Live K aN a aS l)(F:x.length≤65536)(aG:(ck aN).length+(8+x.length)≤4194304) :
  (K.ea≠1→∃ d_,oq K 0 (g0 x)=(d_,0)∧Live d_ (aN++[x]) a aS l)∧(K.ea=1→oq K 0 (g0 x)=(hC K.bz K,71)):=by
 have O:=Dp (size:=(((g0 x).length+Disk.sizeOf K 0:Nat):Int)) N.cK N.up (by rw[(aeJ N.cK).1,uW]; simp only; omega) (fun g=>⟨g.l++g0 x,g.sure⟩);refine⟨fun Y=>⟨_,(O.1 Y).1,?_,N.up,?_,by rw[List.length_append]; have:=N.tV; omega,N.nZ,aeM N.n9 F,N.lm⟩,fun Y=>(O.2 Y).1⟩
 ·have:=Br aN a;have:=Br aS l;have:=N.LH;refine ET _ _ ?_ ?_
  ·simp only[List.length_append,uW]; omega
  ·simp only; omega
 ·show [_,_]=_
  rw[Zk,List.take_append_of_le_length N.tV]
theorem Live.akd{K:cJ}{aN aS:nl}{a l:Nat}{x:List UInt8}(N:Live K aN a aS l)(F:x.length≤65536)(aG:(ck aS).length+(8+x.length)≤4194304) :
  (K.ea≠1→∃ d_,oq K 1 (g0 x)=(d_,0)∧Live d_ aN a (aS++[x]) l)∧(K.ea=1→oq K 1 (g0 x)=(hC K.bz K,71)):=by
 have O:=Dp (size:=(((g0 x).length+Disk.sizeOf K 1:Nat):Int)) N.cK N.up (by rw[(aeJ N.cK).2,uW]; simp only; omega) (fun g=>⟨g.l++g0 x,g.sure⟩);refine⟨fun Y=>⟨_,(O.1 Y).2,?_,N.up,?_,N.tV,by rw[List.length_append]; have:=N.nZ; omega,N.n9,aeM N.lm F⟩,fun Y=>(O.2 Y).2⟩
 ·have:=Br aN a;have:=Br aS l;have:=N.LH;refine ET _ _ ?_ ?_
  ·simp only; omega
  ·simp only[List.length_append,uW]; omega
 ·show [_,_]=_
  rw[Zk,List.take_append_of_le_length N.nZ]
theorem Live.aHK{K:cJ}{aN aS:nl}{a l:Nat}(N:Live K aN a aS l) :
  (K.ea≠1→∃ d_,oI K 0=(d_,0)∧Live d_ aN aN.length aS l)∧(K.ea=1→oI K 0=(hC K.bz K,71)):=by
 have O:=Dp (size:=0) N.cK N.up (by omega) (fun g=>⟨g.l,g.l.length⟩);refine⟨fun Y=>⟨_,(O.1 Y).1,?_,N.up,?_,Nat.le_refl _,N.nZ,N.n9,N.lm⟩,fun Y=>(O.2 Y).1⟩
 ·have:=Br aS l;have:=N.LH;exact ET _ _ (by simp only; omega) (by simp only; omega)
 ·show [_,_]=_
  rw[List.take_length]
theorem Live.aHL{K:cJ}{aN aS:nl}{a l:Nat}(N:Live K aN a aS l) :
  (K.ea≠1→∃ d_,oI K 1=(d_,0)∧Live d_ aN a aS aS.length)∧(K.ea=1→oI K 1=(hC K.bz K,71)):=by
 have O:=Dp (size:=0) N.cK N.up (by omega) (fun g=>⟨g.l,g.l.length⟩);refine⟨fun Y=>⟨_,(O.1 Y).2,?_,N.up,?_,N.tV,Nat.le_refl _,N.n9,N.lm⟩,fun Y=>(O.2 Y).2⟩
 ·have:=Br aN a;have:=N.LH;exact ET _ _ (by simp only; omega) (by simp only; omega)
 ·show [_,_]=_
  rw[List.take_length]
theorem X5{aN:nl}{a:Nat}(aG:Small aN)(Y:a≤aN.length)(bz:List Int)(n:Nat):∃ i p,a≤i∧i≤aN.length∧(∃ e,nz p=.error e)∧lf bz n ⟨ck aN,(ck (aN.take a)).length⟩=⟨ck (aN.take i)++p,(ck (aN.take i)++p).length⟩:=by
 have J1:=Ho (bz:=bz) (i:=n) (g:=⟨ck aN,(ck (aN.take a)).length⟩) (Br aN a);simp only at J1;obtain⟨i,p,I,O,aH,bg⟩:=Zi aN (kept bz n ⟨ck aN,(ck (aN.take a)).length⟩) aG J1.2;refine⟨i,p,bg a J1.1 Y,I,aH,?_⟩;unfold lf;simp only;rw[O,← O,List.length_take,Nat.min_eq_left J1.2]
theorem Live.hC{K:cJ}{aN aS:nl}{a l:Nat}(N:Live K aN a aS l)(bz:List Int):∃ i D,a≤i∧i≤aN.length∧l≤D∧D≤aS.length∧pr (hC bz K) (aN.take i) (aS.take D)∧(Disk.hC bz K).ea=0:=by
 obtain⟨i,p,I,O,aH,bg⟩:=X5 N.n9 N.tV bz 0;obtain⟨D,q,br,eN,iZ,nt⟩:=X5 N.lm N.nZ bz 1;have e:(Disk.hC bz K).cK=[⟨ck (aN.take i)++p,(ck (aN.take i)++p).length⟩,⟨ck (aS.take D)++q,(ck (aS.take D)++q).length⟩]:=by
  unfold Disk.hC;rw[if_neg (by simp[N.up])];show K.cK.mapIdx (lf bz)=_
  rw[N.cK];simp only[List.mapIdx_cons,List.mapIdx_nil,Nat.zero_add];rw[bg,nt]
 refine⟨i,D,I,O,br,eN,⟨Gk N.ok,by unfold Disk.hC; rw[if_neg (by simp[N.up])],⟨p,q,aH,iZ,e⟩,aeN N.n9 i,aeN N.lm D⟩,by unfold Disk.hC; rw[if_neg (by simp[N.up])]⟩
theorem pr.hC{K:cJ}{aN aS:nl}(d:pr K aN aS)(bz:List Int):Disk.hC bz K=K:=by unfold Disk.hC; rw[if_pos d.off]
theorem Live.Bg{K:cJ}{aN aS:nl}{a l:Nat}(N:Live K aN a aS l)(n:Int)(bz:List Int):Live { K with ea:=n,bz:=bz } aN a aS l:=⟨⟨N.ok.len,N.ok.log⟩,N.up,N.cK,N.tV,N.nZ,N.n9,N.lm⟩
theorem pr.Bg{K:cJ}{aN aS:nl}(d:pr K aN aS)(n:Int)(bz:List Int):pr { K with ea:=n,bz:=bz } aN aS:=⟨⟨d.ok.len,d.ok.log⟩,d.off,d.cK,d.n9,d.lm⟩
structure NE(K:cJ)(aN aS:nl):Prop where
 ok:K.hz
 up:K.down=false
 cK:∃ q,(∃ e,nz q=.error e)∧K.cK=[⟨ck aN,(ck aN).length⟩,⟨ck aS++q,(ck aS++q).length⟩]
 n9:Small aN
 lm:Small aS
theorem Aa{aN:nl}{p:List UInt8}(aG:Small aN)(aF:∃ e,nz p=.error e):scan (ck aN++p)=(aN,(ck aN).length):=aGN aG aF
theorem aco{p:List UInt8}(h:p.length=0):p=[]:=List.eq_nil_of_length_eq_zero h
theorem pr.KH{K:cJ}{aN aS:nl}(d:pr K aN aS):∃ cO br,K.cK=[cO,br]∧(scan cO.l).1=aN∧(scan br.l).1=aS ∧
  ((db (h2 K) 0 cO).2=0∧NE (db (h2 K) 0 cO).1 aN aS∨(db (h2 K) 0 cO).2=71∧pr (db (h2 K) 0 cO).1 aN aS):=by
 obtain⟨p,q,aF,a5,al⟩:=d.cK;have di:=d.ok.log;rw[al] at di;have ah:=(di _ (List.mem_cons_self ..)).2;have I:=(di ⟨ck aS++q,(ck aS++q).length⟩ (by simp)).2;simp only at ah I;refine⟨_,_,al,by rw[Aa d.n9 aF],by rw[Aa d.lm a5],?_⟩;have pJ:(h2 K).cK=[⟨ck aN++p,(ck aN++p).length⟩,⟨ck aS++q,(ck aS++q).length⟩]:=al;unfold db;simp only[Aa d.n9 aF];by_cases c:(ck aN).length<(ck aN++p).length
 ·rw[if_pos c];have aQ:(ck aN++p).take (ck aN).length=ck aN:=by simp
  rw[aQ];have O:=Dp (size:=((ck aN).length:Int)) pJ rfl (by omega) (fun _=>⟨ck aN,(ck aN).length⟩);by_cases Y:K.ea=1
  ·right;have a6:Av (h2 K) 0 (ck aN)=(Disk.hC (h2 K).bz (h2 K),71):=(O.2 Y).1;rw[a6];refine⟨rfl,Gk (K:=h2 K) ⟨d.ok.len,d.ok.log⟩,by unfold Disk.hC; rw[if_neg (by simp[h2])],⟨p,q,aF,a5,?_⟩,d.n9,d.lm⟩;unfold Disk.hC;rw[if_neg (by simp[h2])];show (h2 K).cK.mapIdx (lf (h2 K).bz)=_
   rw[pJ];have ax:∀ (l:List UInt8) (n:Nat),lf (h2 K).bz n ⟨l,l.length⟩=⟨l,l.length⟩:=by
    intro l n;have aq:=Ho (bz:=(h2 K).bz) (i:=n) (g:=⟨l,l.length⟩) (Nat.le_refl _);simp only at aq;have e:kept (h2 K).bz n ⟨l,l.length⟩=l.length:=Nat.le_antisymm aq.2 aq.1;unfold lf;rw[e]; simp
   simp only[List.mapIdx_cons,List.mapIdx_nil,Nat.zero_add,ax]
  ·left;have a6:Av (h2 K) 0 (ck aN)=(Ii (h2 K) [⟨ck aN,(ck aN).length⟩,⟨ck aS++q,(ck aS++q).length⟩],0):=(O.1 Y).1;rw[a6];refine⟨rfl,ET _ _ ?_ ?_,rfl,⟨q,a5,rfl⟩,d.n9,d.lm⟩
   ·simp only; omega
   ·simp only; omega
 ·rw[if_neg c,if_neg (by rw[List.length_append]; omega)];have PL:p=[]:=aco (by rw[List.length_append] at c; omega);subst PL;refine .inl ⟨rfl,⟨d.ok.len,d.ok.log⟩,rfl,⟨q,a5,?_⟩,d.n9,d.lm⟩;rw[List.append_nil] at pJ;exact pJ
theorem NE.aCv{K:cJ}{aN aS:nl}(d:NE K aN aS){br:dR}(R:K.cK[1]?=some br) :
  ((db K 1 br).2=0∧Live (db K 1 br).1 aN aN.length aS aS.length∨(db K 1 br).2=71∧pr (db K 1 br).1 aN aS):=by
 obtain⟨q,a5,al⟩:=d.cK;have di:=d.ok.log;rw[al] at di;have ah:=(di _ (List.mem_cons_self ..)).2;have I:=(di ⟨ck aS++q,(ck aS++q).length⟩ (by simp)).2;simp only at ah I;rw[al] at R;have R:br=⟨ck aS++q,(ck aS++q).length⟩:=by simpa using R.symm
 subst R;unfold db;simp only[Aa d.lm a5];by_cases c:(ck aS).length<(ck aS++q).length
 ·rw[if_pos c];have aQ:(ck aS++q).take (ck aS).length=ck aS:=by simp
  rw[aQ];have O:=Dp (size:=((ck aS).length:Int)) al d.up (by omega) (fun _=>⟨ck aS,(ck aS).length⟩);by_cases Y:K.ea=1
  ·right;have a6:Av K 1 (ck aS)=(Disk.hC K.bz K,71):=(O.2 Y).2;rw[a6];refine⟨rfl,Gk d.ok,by unfold Disk.hC; rw[if_neg (by simp[d.up])],⟨[],q,⟨31,rfl⟩,a5,?_⟩,d.n9,d.lm⟩;unfold Disk.hC;rw[if_neg (by simp[d.up])];show K.cK.mapIdx (lf K.bz)=_
   rw[al];have ax:∀ (l:List UInt8) (n:Nat),lf K.bz n ⟨l,l.length⟩=⟨l,l.length⟩:=by
    intro l n;have aq:=Ho (bz:=K.bz) (i:=n) (g:=⟨l,l.length⟩) (Nat.le_refl _);simp only at aq;have e:kept K.bz n ⟨l,l.length⟩=l.length:=Nat.le_antisymm aq.2 aq.1;unfold lf;rw[e]; simp
   simp only[List.mapIdx_cons,List.mapIdx_nil,Nat.zero_add,ax,List.append_nil]
  ·left;have a6:Av K 1 (ck aS)=(Ii K [⟨ck aN,(ck aN).length⟩,⟨ck aS,(ck aS).length⟩],0):=(O.1 Y).2;rw[a6];refine⟨rfl,ET _ _ ?_ ?_,d.up,?_,Nat.le_refl _,Nat.le_refl _,d.n9,d.lm⟩
   ·simp only; omega
   ·simp only; omega
   ·show [_,_]=_
    rw[List.take_length,List.take_length]
 ·rw[if_neg c,if_neg (by rw[List.length_append]; omega)];have j7:q=[]:=aco (by rw[List.length_append] at c; omega);subst j7;refine .inl ⟨rfl,d.ok,d.up,?_,Nat.le_refl _,Nat.le_refl _,d.n9,d.lm⟩;rw[List.append_nil] at al;rw[al,List.take_length,List.take_length]
structure e9 where
 xs:List dI
 a:Nat
 an:List cN
 l:Nat
abbrev gx:=Int→Option (Int×Int)
def lg(p:bF):Option (Int×Int):=if p.bV=0 then none else some (p.bV,p.at_)
def iG(an:List cN):List (Int×bF):=an.foldl m_ []
def kl(an:List cN):gx:=fun id=>((iG an).lookup id).bind lg
def p4(W:gx)(x:dI):Prop:=nN x∧qe x.Kind∧x.aD≤2000000∧(x.Kind=3→W (gE x.aD)=some (2,x.bW))∧(x.Kind=4→∃ t,W (gE x.aD)=some (3,t))
def k6(W:gx)(y:hI):Prop:=NM y∧(y.Kind=3→(y.jK=true→W (gE y.Part.aD)=some (2,y.bW))∧(y.jK=false→∃ t,W (gE y.Part.aD)=some (3,t)))
def gx.le(W T:gx):Prop:=∀ id d,W id=some d→T id=some d
theorem p4.mono{W T:gx}(h:W.le T){x:dI}(d:p4 W x):p4 T x:=⟨d.1,d.2.1,d.2.2.1,fun k=>h _ _ (d.2.2.2.1 k),fun k=>by obtain⟨t,aR⟩:=d.2.2.2.2 k; exact⟨t,h _ _ aR⟩⟩
theorem k6.mono{W T:gx}(h:W.le T){y:hI}(d:k6 W y):k6 T y:=⟨d.1,fun k=>⟨fun S=>h _ _ ((d.2 k).1 S),fun S=>by obtain⟨t,aR⟩:=(d.2 k).2 S; exact⟨t,h _ _ aR⟩⟩⟩
def own(n c:Nat)(an:List cN):gx:=fun id=>if Int.tmod id n=c then kl an id else none
def AX(p q:bF):Prop:=p.x=q.x∧p.bV=q.bV∧p.at_=q.at_
def C6(P:List (Int×bF))(an:List cN):Prop:=∀ id,(∀ p,P.lookup id=some p→∃ q,(iG an).lookup id=some q∧AX p q)∧(P.lookup id=none→(iG an).lookup id=none)
structure xn(f n c:Nat)(b:bi)(g:e9):Prop where
 N:Live b.K (g.xs.map iY) g.a (g.an.map fF) g.l
 V:b.W.V=⟨g.xs.length,g.a,0,false⟩
 v:b.W.v=qk (us f) g.xs
 A:b.A=⟨g.an.length,g.l,1,false⟩
 P:C6 b.P g.an
 outs:∀ s∈b.out,k6 (own n c g.an) s.y∧0≤s.h1∧s.h1<n
 sure:∀ id,b.sure id=true→∃ d,kl (g.an.take g.l) id=some d
structure bC(k:Nat)(b:bi):Prop where
 ax:iT b.ax
 rd:-(4194304*(k:Int))≤b.cv∧b.cv≤4194304*(k:Int)
 src:-9223372036854775808≤b.src∧b.src≤1125899906842624
 K:b.K.hz
 fit:Fit b.W.v
 ids:∀ e∈b.W.v.held,e.1≤2000000
 lS:sv b.P
 lG:b.P.length≤k
 out:b.out.length≤300000*k
structure nk(n c k:Nat)(W:gx)(Q:cN→Prop)(g:e9):Prop where
 q:∀ r∈g.an,Q r
 p2:∀ x∈g.xs,p4 W x
 na:qP g.an
 ours:∀ r∈g.an,Int.tmod r.x.aD n=c
 vJ:∀ r∈g.an,r.k=2→jA r.t
 yC:g.xs.length≤k
 wO:g.an.length≤k
 tV:g.a≤g.xs.length
 nZ:g.l≤g.an.length
structure ev(f n c k:Nat)(W:gx)(Q:cN→Prop)(b:bi)(g:e9):Prop where
 bQ:bC k b
 cs:nk n c k W Q g
 ba:xn f n c b g∨pr b.K (g.xs.map iY) (g.an.map fF)
structure C7(Q:cN→Prop)(b:bi):Prop where
 one:∀ r:cN,r.k≠2→Q r
 two:∀ x N,(gw b.ax b.cv b.src N).2.2.2=0→Q ⟨2,x,(gw b.ax b.cv b.src N).2.2.1⟩
def k5(g cy:e9):Prop:=gx.le (kl (g.an.take g.l)) (kl (cy.an.take cy.l))
theorem bC.mono{k fQ:Nat}{b:bi}(h:bC k b)(aq:k≤fQ):bC fQ b:=
 ⟨h.ax,by have:=h.rd; omega,h.src,h.K,h.fit,h.ids,h.lS,Nat.le_trans h.lG aq,Nat.le_trans h.out (Nat.mul_le_mul_left _ aq)⟩
theorem nk.mono{n c k fQ:Nat}{W iU:gx}{Q:cN→Prop}{g:e9}(h:nk n c k W Q g)(eX:W.le iU)(aq:k≤fQ):nk n c fQ iU Q g:=
 ⟨h.q,fun x F=>(h.p2 x F).mono eX,h.na,h.ours,h.vJ,Nat.le_trans h.yC aq,Nat.le_trans h.wO aq,h.tV,h.nZ⟩
theorem gx.le_refl(W:gx):W.le W:=fun _ _ h=>h
theorem gx.le_trans{W T cX:gx}(h:W.le T)(fp:T.le cX):W.le cX:=fun i d e=>fp i d (h i d e)
section
variable {f n c k:Nat} {W:gx} {Q:cN→Prop} {b:bi} {g:e9}
theorem ev.live(h:ev f n c k W Q b g)(ag:b.K.down=false):xn f n c b g:=by
 rcases h.ba with h | h
 ·exact h
 ·rw[h.off] at ag; cases ag
theorem ev.mono{iU:gx}{fQ:Nat}(h:ev f n c k W Q b g)(eX:W.le iU)(aq:k≤fQ):ev f n c fQ iU Q b g:=⟨h.bQ.mono aq,h.cs.mono eX aq,h.ba⟩
theorem bC.node(h:bC k b)(aq:k≤50000):NN b:=
 ⟨⟨h.ax,by have:=h.rd; omega,h.K,h.fit,h.src⟩,h.lS,by have:=h.out; omega,by have:=h.lG; omega,fun e he=>by have:=h.ids e he; omega⟩
end
theorem OT{Z:Type}{e:Z→List UInt8}{y:Nat}:∀ {m:List Z},(∀ x∈m,(e x).length≤y)→(ck (m.map e)).length≤(8+y)*m.length
 |[],_=>by simp[ck]
 |x::m,h=>by
  have I:=h x (List.mem_cons_self ..);have O:=OT (m:=m) fun S aB=>h S (List.mem_cons_of_mem _ aB);have aQ:ck ((x::m).map e)=g0 (e x)++ck (m.map e):=by simp[ck]
  rw[aQ,List.length_append,uW,List.length_cons,Nat.mul_add,Nat.mul_one];omega
theorem ad2{an:List cN}(h:qP an):∀ r∈an,oR r:=by
 intro r ab;obtain⟨D,bI,rfl⟩:=List.getElem_of_mem ab;exact (h D _ (List.getElem?_eq_getElem bI)).1
theorem ad3{an:List cN}(h:qP an)(D:Nat):qP (an.take D):=by
 intro i r ab;rw[List.getElem?_take] at ab;split at ab
 ·rename_i aw;have:=h i r ab;rw[List.take_take,Nat.min_eq_left (by omega)];exact this
 ·cases ab
theorem aFX{an:List cN}{r:cN}(h:qP an)(ab:oR r)(Y:v0 (iG an) r):qP (an++[r]):=by
 intro i x F;by_cases c:i<an.length
 ·rw[List.getElem?_append_left c] at F;rw[List.take_append_of_le_length (by omega)];exact h i x F
 ·rw[List.getElem?_append_right (by omega)] at F;have e:i=an.length:=by
   rcases Nat.lt_or_ge (i-an.length) 1 with I | I
   ·omega
   ·rw[List.getElem?_eq_none (by simpa using I)] at F; cases F
  subst e;simp at F;subst F;rw[List.take_append_of_le_length (Nat.le_refl _),List.take_length];exact⟨ab,Y⟩
theorem Cg(an:List cN)(r:cN):iG (an++[r])=m_ (iG an) r:=by unfold iG; rw[List.foldl_append]; rfl
theorem wN{P:List (Int×bF)}{id x:Int}{p:bF}:(iK P id p).lookup x=if x=id then (P.lookup x).map fun _=>p else P.lookup x:=by
 induction P with
 |nil=>simp[iK]
 |cons t P b_=>
  obtain⟨a,v⟩:=t;unfold iK at b_ ⊢;rw[List.map_cons];by_cases e:x=a
  ·subst e;by_cases a6:x=id
   ·subst a6; simp
   ·simp[a6]
  ·by_cases a6:a=id
   ·subst a6;have I:(x==a)=false:=by simpa using e
    simp[List.lookup,I,e] at b_ ⊢;exact b_
   ·have I:(x==a)=false:=by simpa using e
    rw[if_neg a6];simp only[List.lookup,I];exact b_
theorem LQ(P:List (Int×bF))(id:Int)(p:bF):(iK P id p).length=P.length:=by unfold iK; simp
theorem Ry{P:List (Int×bF)}{id:Int}{p q:bF}(h:sv P)(aF:P.lookup id=some p)(a5:q.x=p.x):sv (iK P id q):=by
 intro x r ab;rw[wN] at ab;split at ab
 ·rename_i e;subst e;rw[aF] at ab;cases ab;rw[a5];exact h x p aF
 ·exact h x r ab
theorem aEK{P:List (Int×bF)}{x:om}(h:sv P)(F:jq x=0):sv (P++[(x.aD,jD x)]):=by
 intro id r ab;rw[List.lookup_append] at ab;cases al:P.lookup id with
 |some p=>rw[al] at ab; cases ab; exact h id _ al
 |none=>
  rw[al] at ab;simp only[Option.none_or,List.lookup] at ab;cases he:id==x.aD with
  |true=>
   rw[he] at ab;cases ab;exact⟨(eq_of_beq he).symm,F⟩
  |false=>rw[he] at ab; cases ab
def AV(p:bF):Prop:=(p.bV=0∨p.bV=2∨p.bV=3)∧(0≤p.at_∧p.at_≤1125899906842624)∧(p.bV=0→p=jD p.x)
theorem SX{p:bF}(a l:Bool)(t:Int):((g3 p a l t).1.bV=p.bV∧(g3 p a l t).1.at_=p.at_)∨(p.bV=0∧l=false∧(g3 p a l t).1.bV=3∧(g3 p a l t).1.at_=p.at_):=by
 unfold g3 bF.hx
 repeat' split
 all_goals first
  |exact .inl ⟨rfl,rfl⟩
  |(rename_i U; exact .inr ⟨U.2,U.1,rfl,rfl⟩)
  |(rename_i U _; exact .inr ⟨U.2,U.1,rfl,rfl⟩)
theorem alU{p:bF}(t:Int):((oY p t).1.bV=p.bV∧(oY p t).1.at_=p.at_)∨(p.bV≠2∧p.bV≠3∧(oY p t).1.bV=2∧(oY p t).1.at_=t∧jA t):=by
 unfold oY;split
 ·exact .inl ⟨rfl,rfl⟩
 ·split
  ·exact .inl ⟨rfl,rfl⟩
  ·split
   ·exact .inl ⟨rfl,rfl⟩
   ·split
    ·exact .inl ⟨rfl,rfl⟩
    ·split
     ·exact .inl ⟨rfl,rfl⟩
     ·rename_i ah I O _ _;exact .inr ⟨O,fun e=>I (.inl e),rfl,rfl,Classical.not_not.1 ah⟩
theorem Xn(p:bF):((py p).1.bV=p.bV∧p.bV=2∧(py p).1.at_=p.at_)∨(p.bV≠2∧(py p).1.bV=3∧(py p).1.at_=p.at_):=by
 unfold py;split
 ·rename_i h; exact .inl ⟨rfl,h,rfl⟩
 ·rename_i h; exact .inr ⟨h,rfl,rfl⟩
theorem Lt{p:bF}{r:cN}(h:p.bV=2∨p.bV=3):(kb p r).bV=p.bV∧(kb p r).at_=p.at_:=by
 unfold kb;split
 ·rcases Xn p with ⟨I,O,aH⟩ | ⟨I,O,aH⟩
  ·exact⟨I,aH⟩
  ·exact⟨by rw[O]; omega,aH⟩
 ·have I:(g3 p true true r.t).1.bV=p.bV∧(g3 p true true r.t).1.at_=p.at_:=by
   rcases SX (p:=p) true true r.t with I | I
   ·exact I
   ·omega
  have O:(g3 (g3 p true true r.t).1 false true r.t).1.bV=p.bV∧(g3 (g3 p true true r.t).1 false true r.t).1.at_=p.at_:=by
   rcases SX (p:=(g3 p true true r.t).1) false true r.t with O | O
   ·rw[O.1,O.2]; exact I
   ·rw[I.1] at O; omega
  rcases alU (p:=(g3 (g3 p true true r.t).1 false true r.t).1) r.t with aH | aH
  ·rw[aH.1,aH.2]; exact O
  ·rw[O.1] at aH; omega
theorem afA{p:bF}{a:Bool}{t:Int}(h:jA t)(aG:(p.side a).said=false):g3 p a true t=(p.hx a ⟨true,true,t⟩,0):=by
 unfold g3;rw[if_neg (by simp[h]),if_neg (by simp[aG])];simp
theorem afy{p:bF}{a:Bool}{t:Int}(h:¬ jA t):g3 p a true t=(p,174):=by
 unfold g3;rw[if_pos ⟨rfl,h⟩]
theorem Lu{x:om}{r:cN}(aq:r.k≠3):(jA r.t→(kb (jD x) r).bV=2∧(kb (jD x) r).at_=r.t)∧(¬ jA r.t→kb (jD x) r=jD x):=by
 refine⟨fun h=>?_,fun h=>?_⟩
 ·unfold kb;rw[if_neg aq,afA (p:=jD x) (a:=true) h rfl];have a6:g3 (bF.hx (jD x) true ⟨true,true,r.t⟩) false true r.t=(bF.hx (bF.hx (jD x) true ⟨true,true,r.t⟩) false ⟨true,true,r.t⟩,0):=afA h rfl;simp only;rw[a6];unfold oY;rw[if_neg (fun cn=>cn h)];have Ju:(bF.hx (bF.hx (jD x) true ⟨true,true,r.t⟩) false ⟨true,true,r.t⟩).bV=0:=rfl;have Gr:(bF.hx (bF.hx (jD x) true ⟨true,true,r.t⟩) false ⟨true,true,r.t⟩).both=true:=rfl;have Oy:(bF.hx (bF.hx (jD x) true ⟨true,true,r.t⟩) false ⟨true,true,r.t⟩).a.gL=r.t:=rfl;have Gs:(bF.hx (bF.hx (jD x) true ⟨true,true,r.t⟩) false ⟨true,true,r.t⟩).l.gL=r.t:=rfl;simp only;rw[if_neg (by rw[Ju]; omega),if_neg (by rw[Ju]; omega),if_neg (by rw[Gr]; simp),if_neg (by rw[Oy,Gs]; omega)];exact⟨rfl,rfl⟩
 ·unfold kb;rw[if_neg aq,afy (p:=jD x) (a:=true) h];simp only;rw[afy h];unfold oY;rw[if_pos h]
theorem aGi{p:bF}{r:cN}(h:AV p):AV (kb p r):=by
 by_cases bY:p.bV=0
 ·have aF:=h.2.2 bY;generalize p.x=x at aF;subst aF;by_cases b4:r.k=3
  ·unfold kb;rw[if_pos b4];exact⟨.inr (.inr rfl),by show (0:Int)≤0∧(0:Int)≤_; omega,fun e=>by cases e⟩
  ·obtain⟨I,O⟩:=Lu (x:=x) b4;by_cases ct:jA r.t
   ·obtain⟨aH,bg⟩:=I ct;refine⟨.inr (.inl aH),by rw[bg]; unfold jA at ct; omega,fun e=>by rw[aH] at e; cases e⟩
   ·rw[O ct]; exact h
 ·have I:=Lt (r:=r) (p:=p) (by have:=h.1; omega);exact⟨by rw[I.1]; exact h.1,by rw[I.2]; exact h.2.1,fun e=>absurd (I.1▸e) bY⟩
def C2(P:List (Int×bF)):Prop:=∀ id p,P.lookup id=some p→AV p
theorem an0{P:List (Int×bF)}{r:cN}(h:C2 P):C2 (m_ P r):=by
 intro id p aF;unfold m_ at aF;split at aF
 ·rw[List.lookup_append] at aF;cases al:P.lookup id with
  |some q=>rw[al] at aF; cases aF; exact h id _ al
  |none=>
   rw[al] at aF;simp only[Option.none_or,List.lookup] at aF;split at aF
   ·cases aF; exact⟨.inl rfl,by show (0:Int)≤0∧(0:Int)≤_; omega,fun _=>rfl⟩
   ·cases aF
 ·split at aF
  ·exact h id p aF
  ·rename_i q a5;rw[wN] at aF;split at aF
   ·rename_i e;subst e;rw[a5] at aF;cases aF;exact aGi (h _ _ a5)
   ·exact h id p aF
theorem Zb:∀ {an:List cN} {P:List (Int×bF)},C2 P→C2 (an.foldl m_ P)
 |[],_,h=>h
 |r::an,P,h=>Zb (an:=an) (an0 h)
theorem Bp(an:List cN):C2 (iG an):=Zb fun id p h=>by cases h
theorem Zc{p:bF}(h:AV p){d:Int×Int}(ag:lg p=some d):p.bV=2∨p.bV=3:=by
 unfold lg at ag;split at ag
 ·cases ag
 ·unfold AV at h; omega
theorem Ok{P:List (Int×bF)}{r:cN}{id:Int}{d:Int×Int}(am:C2 P)(ab:v0 P r)(h:(P.lookup id).bind lg=some d):((m_ P r).lookup id).bind lg=some d:=by
 cases aF:P.lookup id with
 |none=>rw[aF] at h; cases h
 |some p=>
  rw[aF] at h;have h:lg p=some d:=h;unfold m_;rcases ab with ⟨aq,_,al⟩ | ⟨aq,al⟩
  ·rw[if_pos aq,List.lookup_append,aF];exact h
  ·rw[if_neg (by omega)];obtain⟨q,a5⟩:=Option.isSome_iff_exists.1 al;rw[a5];simp only;rw[wN];by_cases e:id=r.x.aD
   ·subst e;rw[if_pos rfl,aF];rw[aF] at a5;cases a5;have I:=Lt (r:=r) (Zc (am _ _ aF) h);show lg (kb p r)=some d
    unfold lg at h ⊢;rw[I.1,I.2];exact h
   ·rw[if_neg e,aF];exact h
def IZ(n c:Nat)(P:List (Int×bF)):Prop:=∀ id p,P.lookup id=some p→Int.tmod id n=c∧p.x.aD=id∧jq p.x=0
theorem aef(p:bF)(r:cN):(kb p r).x=p.x:=by
 unfold kb;split
 ·unfold py; split<;>rfl
 ·have c:∀ (p:bF) (t:Int),(oY p t).1.x=p.x:=by
   intro p t;unfold oY
   repeat' split
   all_goals rfl
  rw[c,LW,LW]
theorem aD6{n c:Nat}{P:List (Int×bF)}{r:cN}(h:IZ n c P)(ab:v0 P r)(U:Int.tmod r.x.aD n=c):IZ n c (m_ P r):=by
 intro id p aF;unfold m_ at aF;rcases ab with ⟨aq,F,al⟩ | ⟨aq,al⟩
 ·rw[if_pos aq,List.lookup_append] at aF;cases al:P.lookup id with
  |some q=>rw[al] at aF; cases aF; exact h id _ al
  |none=>
   rw[al] at aF;simp only[Option.none_or,List.lookup] at aF;split at aF
   ·rename_i e;cases aF;have e:=eq_of_beq e;subst e;exact⟨U,rfl,F⟩
   ·cases aF
 ·rw[if_neg (by omega)] at aF;obtain⟨q,a5⟩:=Option.isSome_iff_exists.1 al;rw[a5] at aF;simp only at aF;rw[wN] at aF;split at aF
  ·rename_i e;subst e;rw[a5] at aF;cases aF;rw[aef];exact h _ _ a5
  ·exact h id p aF
theorem acr{n c:Nat}{an:List cN}(h:qP an)(U:∀ r∈an,Int.tmod r.x.aD n=c):∀ i,i≤an.length→IZ n c (iG (an.take i))
 |0,_=>fun id p aF=>by simp[iG] at aF
 |i+1,aw=>by
  have F:an[i]?=some an[i]:=List.getElem?_eq_getElem (by omega);rw[List.take_succ_eq_append_getElem (by omega),Cg];exact aD6 (acr h U i (by omega)) (h _ _ F).2 (U _ (List.getElem_mem _))
theorem acq{n c:Nat}{an:List cN}(h:qP an)(U:∀ r∈an,Int.tmod r.x.aD n=c):IZ n c (iG an):=by
 have:=acr h U an.length (Nat.le_refl _);rwa [List.take_length] at this
theorem X_{an:List cN}(h:qP an){i D:Nat}(GQ:i≤D){id:Int}{d:Int×Int}(ag:kl (an.take i) id=some d):kl (an.take D) id=some d:=by
 obtain⟨y,rfl⟩:=Nat.exists_eq_add_of_le GQ;induction y with
 |zero=>exact ag
 |succ y b_=>
  have b_:=b_ (by omega);by_cases c:i+y<an.length
  ·have F:an[i+y]?=some an[i+y]:=List.getElem?_eq_getElem c;have e:an.take (i+(y+1))=an.take (i+y)++[an[i+y]]:=List.take_succ_eq_append_getElem c;rw[e];unfold kl at b_ ⊢;rw[Cg];exact Ok (Bp _) (h _ _ F).2 b_
  ·rw[List.take_of_length_le (by omega)];rw[List.take_of_length_le (by omega)] at b_;exact b_
theorem Jp{an:List cN}(h:qP an){i:Nat}{id:Int}{d:Int×Int}(ag:kl (an.take i) id=some d):kl an id=some d:=by
 by_cases c:i≤an.length
 ·have:=X_ h c ag;rwa [List.take_length] at this
 ·rwa [List.take_of_length_le (by omega)] at ag
section
variable {f n c k:Nat} {W:gx} {Q:cN→Prop} {b cC:bi} {g:e9}
theorem nk.cut(h:nk n c k W Q g){i D:Nat}(aw:i≤g.xs.length)(bI:D≤g.an.length)(ao:g.l≤D):nk n c k W Q ⟨g.xs.take i,i,g.an.take D,D⟩∧k5 g ⟨g.xs.take i,i,g.an.take D,D⟩:=by
 refine⟨⟨fun r ab=>h.q r (List.mem_of_mem_take ab),fun x F=>h.p2 x (List.mem_of_mem_take F),ad3 h.na D,fun r ab=>h.ours r (List.mem_of_mem_take ab),fun r ab=>h.vJ r (List.mem_of_mem_take ab),?_,?_,?_,?_⟩,fun id d ag=>?_⟩
 ·have:=h.yC; simp only[List.length_take]; omega
 ·have:=h.wO; simp only[List.length_take]; omega
 ·simp only[List.length_take]; omega
 ·simp only[List.length_take]; omega
 ·show kl ((g.an.take D).take D) id=some d
  rw[List.take_take,Nat.min_self];exact X_ h.na ao ag
theorem k5.refl(g:e9):k5 g g:=fun _ _ h=>h
theorem k5.trans{g h i:e9}(a:k5 g h)(l:k5 h i):k5 g i:=gx.le_trans a l
theorem xn.gone(m:xn f n c b g)(cs:nk n c k W Q g)(bz:List Int):∃ cy,nk n c k W Q cy∧k5 g cy∧pr (Disk.hC bz b.K) (cy.xs.map iY) (cy.an.map fF):=by
 obtain⟨i,D,I,O,aH,bg,ag,_⟩:=m.N.hC bz;rw[List.length_map] at O bg;obtain⟨br,eN⟩:=cs.cut (i:=i) (D:=D) O bg aH;rw[← List.map_take,← List.map_take] at ag;exact⟨_,br,eN,ag⟩
theorem amx{xs:List dI}(h:∀ x∈xs,nN x):(ck (xs.map iY)).length≤74*xs.length:=OT fun x F=>Yw (h x F)
theorem amw{an:List cN}(h:∀ r∈an,oR r):(ck (an.map fF)).length≤74*an.length:=OT fun r ab=>DG (h r ab)
theorem Ym(m:xn f n c b g)(cs:nk n c k W Q g)(aq:k≤50000){x:dI}(F:p4 W x) :
  (∃ d_,fN b.K b.W x=(d_,⟨⟨g.xs.length+1,g.a,0,false⟩,(mS b.W.v x).1⟩,(mS b.W.v x).2)∧Live d_ ((g.xs++[x]).map iY) g.a (g.an.map fF) g.l) ∨
  (∃ cy,nk n c k W Q cy∧k5 g cy∧pr (fN b.K b.W x).1 (cy.xs.map iY) (cy.an.map fF)∧(fN b.K b.W x).2.1.v=b.W.v∧(fN b.K b.W x).2.2=71):=by
 have g1:=Yw F.1;have G8:=amx fun S aB=>(cs.p2 S aB).1;have aqp:=cs.yC;obtain⟨I,O⟩:=m.N.akc (x:=iY x) (by omega) (by omega);have oZ:∀ kS e,oq b.K 0 (g0 (iY x))=(kS,e)→gj b.K b.W.V (iY x)=(kS,⟨if e=0 then g.xs.length+1 else g.xs.length,g.a,0,e==71⟩,e):=by
  intro kS e he;unfold gj;rw[m.V];simp only;rw[if_neg (by simp),if_neg (by omega),he];simp only;rw[wrap_i64 (by omega) (by omega)];simp
 by_cases Y:b.K.ea=1
 ·right;obtain⟨cy,re,kp,sS⟩:=m.gone cs b.K.bz;have e:=oZ _ _ (O Y);have Bn:fN b.K b.W x=(Disk.hC b.K.bz b.K,⟨⟨if (71:Int)=0 then g.xs.length+1 else g.xs.length,g.a,0,(71:Int)==71⟩,b.W.v⟩,71):=by
   unfold fN;rw[if_pos F.2.1,e,if_neg (by simp)]
  rw[Bn];exact⟨cy,re,kp,sS,rfl,rfl⟩
 ·left;obtain⟨d_,aH,bg⟩:=I Y;have e:=oZ _ _ aH;refine⟨d_,?_,by rw[List.map_append]; exact bg⟩;unfold fN;rw[if_pos F.2.1,e,if_pos rfl];simp
theorem nk.al9(h:nk n c k W Q g){x:dI}(F:p4 W x):nk n c (k+1) W Q ⟨g.xs++[x],g.a,g.an,g.l⟩∧k5 g ⟨g.xs++[x],g.a,g.an,g.l⟩:=by
 refine⟨⟨h.q,fun S aB=>?_,h.na,h.ours,h.vJ,?_,Nat.le_trans h.wO (Nat.le_succ k),?_,h.nZ⟩,fun _ _ e=>e⟩
 ·rcases List.mem_append.1 aB with aB | aB
  ·exact h.p2 S aB
  ·rw[List.mem_singleton.1 aB]; exact F
 ·have:=h.yC; simp; omega
 ·have:=h.tV; simp; omega
theorem aBB(v:c4)(x:dI):∀ S∈(mS v x).1.held.map (·.1),S∈v.held.map (·.1)∨S=x.aD:=by
 have Yg:∀ (id:Int) (es:List (Int×mr)) (S:Int),S∈(del id es).map (·.1)→S∈es.map (·.1):=fun id es S h=>QJ.mem h;intro S aB;unfold mS at aB;split at aB
 ·left;unfold yP at aB
  repeat' split at aB
  all_goals exact aB
 ·split at aB
  ·unfold zV at aB;split at aB
   ·exact .inl aB
   ·split at aB
    ·exact .inl aB
    ·have aB:S∈(eH x.aD _ v.held).map (·.1):=aB;rw[Kq] at aB;split at aB
     ·exact .inl aB
     ·rcases List.mem_append.1 aB with h | h
      ·exact .inl h
      ·exact .inr (List.mem_singleton.1 h)
  ·left;unfold oo at aB;split at aB
   ·unfold xH at aB;split at aB
    ·exact aB
    ·split at aB
     ·split at aB<;>exact aB
     ·split at aB
      ·split at aB
       ·exact aB
       ·exact Yg _ _ S aB
      ·exact aB
   ·split at aB
    ·unfold xK at aB;split at aB
     ·exact aB
     ·split at aB
      ·exact aB
      ·split at aB
       ·exact aB
       ·have aB:S∈(rT v x.aD).held.map (·.1):=aB;unfold rT at aB;split at aB
        ·exact Yg _ _ S aB
        ·exact aB
    ·split at aB
     ·unfold q2 at aB
      repeat' split at aB
      all_goals exact aB
     ·exact aB
theorem ZR{v:c4}{x:dI}(F:x.aD≤2000000)(h:∀ e∈v.held,e.1≤2000000):∀ e∈(mS v x).1.held,e.1≤2000000:=by
 intro e he;rcases aBB v x e.1 (List.mem_map.2 ⟨e,he,rfl⟩) with I | I
 ·obtain⟨hQ,ox,O⟩:=List.mem_map.1 I;have:=h hQ ox;omega
 ·omega
theorem aph{xs:List dI}(F:∀ x∈xs,x.aD≤2000000):∀ {v:c4},(∀ e∈v.held,e.1≤2000000)→∀ e∈(qk v xs).held,e.1≤2000000:=by
 induction xs with
 |nil=>intro v h; exact h
 |cons x xs b_=>
  intro v h;exact b_ (fun S aB=>F S (List.mem_cons_of_mem _ aB)) (ZR (F x (List.mem_cons_self ..)) h)
theorem HC(h:ev f n c k W Q b g)(ag:b.K.down=false)(aq:k≤50000){x:dI}(F:p4 W x) :
  ∃ cy,ev f n c (k+1) W Q { b with K:=(fN b.K b.W x).1,W:=(fN b.K b.W x).2.1 } cy∧k5 g cy∧((fN b.K b.W x).1.down=true∨(fN b.K b.W x).1.down=false∧cy.xs=g.xs++[x]∧(fN b.K b.W x).2.2=(mS b.W.v x).2):=by
 have m:=h.live ag;have bQ:bC (k+1) { b with K:=(fN b.K b.W x).1,W:=(fN b.K b.W x).2.1 }:=by
  have y:=h.bQ.mono (Nat.le_succ k);refine⟨y.ax,y.rd,y.src,Yk h.bQ.K,amd h.bQ.fit (by have:=F.2.2.1; omega),?_,y.lS,y.lG,y.out⟩;show ∀ e∈(fN b.K b.W x).2.1.v.held,_
  unfold fN;split
  ·split
   ·exact ZR F.2.2.1 h.bQ.ids
   ·exact h.bQ.ids
  ·exact h.bQ.ids
 rcases Ym m h.cs aq F with ⟨d_,e,al⟩ | ⟨cy,I,O,aH,bg,dh⟩
 ·obtain⟨br,eN⟩:=h.cs.al9 F;rw[e] at bQ ⊢;refine⟨_,⟨bQ,br,.inl ⟨al,?_,?_,m.A,m.P,m.outs,m.sure⟩⟩,eN,.inr ⟨al.up,rfl,rfl⟩⟩
  ·simp
  ·show (mS b.W.v x).1=_
   rw[acH,m.v]
 ·exact⟨cy,⟨bQ,I.mono (gx.le_refl W) (Nat.le_succ k),.inr aH⟩,O,.inl aH.off⟩
end
section
variable {f n c k:Nat} {W:gx} {Q:cN→Prop} {b cC:bi} {g:e9}
def mN(f n c k:Nat)(W:gx)(Q:cN→Prop)(cC:bi)(g:e9):Prop:=∃ cy,ev f n c k W Q cC cy∧k5 g cy
theorem mN.mono{fQ:Nat}(h:mN f n c k W Q cC g)(aq:k≤fQ):mN f n c fQ W Q cC g:=by
 obtain⟨cy,I,O⟩:=h;exact⟨cy,I.mono (gx.le_refl W) aq,O⟩
theorem ev.k0(h:ev f n c k W Q b g):mN f n c k W Q b g:=⟨g,h,k5.refl g⟩
theorem abN(h:ev f n c k W Q b g)(bQ:bC k cC)(ak:cC.K=b.K)(eX:cC.W=b.W)(o5:cC.A=b.A)(fg:cC.P=b.P)(ai:cC.out=b.out)(aG:cC.sure=b.sure):ev f n c k W Q cC g:=by
 refine⟨bQ,h.cs,?_⟩;rcases h.ba with m | d
 ·exact .inl ⟨by rw[ak]; exact m.N,by rw[eX]; exact m.V,by rw[eX]; exact m.v,by rw[o5]; exact m.A,by rw[fg]; exact m.P,by rw[ai]; exact m.outs,by rw[aG]; exact m.sure⟩
 ·exact .inr (by rw[ak]; exact d)
theorem aCH(h:bC k b){ax:hh}{src:Int}(I:iT ax)(O:-9223372036854775808≤src∧src≤1125899906842624):bC k { b with ax:=ax,src:=src }:=⟨I,h.rd,O,h.K,h.fit,h.ids,h.lS,h.lG,h.out⟩
theorem wS(h:ev f n c k W Q b g){ax:hh}{src:Int}(I:iT ax)(O:-9223372036854775808≤src∧src≤1125899906842624):ev f n c k W Q { b with ax:=ax,src:=src } g:=abN h (aCH h.bQ I O) rfl rfl rfl rfl rfl rfl
theorem LI{ax:hh}{rd src:Int}{N:List Int}(k:iT ax)(h:-9223372036854775808≤src∧src≤1125899906842624):iT (gw ax rd src N).1∧-9223372036854775808≤(gw ax rd src N).2.1∧(gw ax rd src N).2.1≤1125899906842624:=by
 have I:=At (ax:=ax) (rd:=rd) (N:=N) h.2;have O:=(k.now rd).1;refine⟨?_,?_,I.1⟩
 ·unfold gw; split<;>exact O
 ·unfold gw;split
  ·exact h.1
  ·unfold Ab;split
   ·exact h.1
   ·have aH:=foldl_max N (max src (e3 ax rd).2.1.jr);split
    ·exact h.1
    ·simp only; omega
theorem Hn{src t:Int}(h:-9223372036854775808≤src∧src≤1125899906842624):-9223372036854775808≤(oy src t).1∧(oy src t).1≤1125899906842624:=by
 unfold oy;by_cases c:jA t
 ·rw[if_pos c];unfold jA at c;simp only; omega
 ·rw[if_neg c]; exact h
theorem k6.plain{W:gx}{y:hI}(h:NM y)(aq:y.Kind≠3):k6 W y:=⟨h,fun e=>absurd e aq⟩
theorem abO(h:ev f n c k W Q b g){m:List p5}(al:∀ s∈m,b.K.down=false→k6 (own n c g.an) s.y∧0≤s.h1∧s.h1<n)(g1:m.length≤300000):ev f n c (k+1) W Q { b with out:=b.out++m } g:=by
 have y:=h.bQ.mono (Nat.le_succ k);refine⟨⟨y.ax,y.rd,y.src,y.K,y.fit,y.ids,y.lS,y.lG,?_⟩,h.cs.mono (gx.le_refl W) (Nat.le_succ k),?_⟩
 ·have:=h.bQ.out;show (b.out++m).length≤_
  rw[List.length_append,Nat.mul_add]; omega
 ·rcases h.ba with q | d
  ·refine .inl ⟨q.N,q.V,q.v,q.A,q.P,fun s aG=>?_,q.sure⟩;rcases List.mem_append.1 aG with aG | aG
   ·exact q.outs s aG
   ·exact al s aG q.N.up
  ·exact .inr d
theorem B6(h:ev f n c k W Q b g){h1:Int}{y:hI}(hm:b.K.down=false→k6 (own n c g.an) y)(aR:0≤h1∧h1<n):ev f n c (k+1) W Q (nG b h1 y) g:=
 abO (m:=[⟨h1,y⟩]) h (fun s aG ag=>by rw[List.mem_singleton.1 aG]; exact⟨hm ag,aR⟩) (by simp)
theorem abP(h:ev f n c k W Q b g)(ag:b.K.down=false):∃ cy,ev f n c k W Q { b with K:=(gp b.K b.W.V).1,W:=⟨(gp b.K b.W.V).2.1,b.W.v⟩ } cy∧k5 g cy∧((gp b.K b.W.V).1.down=true∧(gp b.K b.W.V).2.2=71∨(gp b.K b.W.V).1.down=false∧(gp b.K b.W.V).2.2=0∧cy.xs=g.xs∧cy.an=g.an∧cy.l=g.l):=by
 have m:=h.live ag;have bQ:bC k { b with K:=(gp b.K b.W.V).1,W:=⟨(gp b.K b.W.V).2.1,b.W.v⟩ }:=⟨h.bQ.ax,h.bQ.rd,h.bQ.src,LK h.bQ.K,h.bQ.fit,h.bQ.ids,h.bQ.lS,h.bQ.lG,h.bQ.out⟩
 obtain⟨I,O⟩:=m.N.aHK;have e:∀ kS a6,oI b.K 0=(kS,a6)→gp b.K b.W.V=(kS,⟨g.xs.length,if a6=0 then g.xs.length else g.a,0,a6==71⟩,a6):=by
  intro kS a6 he;unfold gp;rw[m.V];simp only;rw[if_neg (by simp),he];simp
 by_cases Y:b.K.ea=1
 ·obtain⟨cy,re,kp,sS⟩:=m.gone h.cs b.K.bz;have es:=e _ _ (O Y);rw[es] at bQ ⊢;exact⟨cy,⟨bQ,re,.inr sS⟩,kp,.inl ⟨sS.off,rfl⟩⟩
 ·obtain⟨d_,aH,bg⟩:=I Y;have es:=e _ _ aH;rw[es] at bQ ⊢;rw[List.length_map] at bg;refine⟨⟨g.xs,g.xs.length,g.an,g.l⟩,⟨bQ,⟨h.cs.q,h.cs.p2,h.cs.na,h.cs.ours,h.cs.vJ,h.cs.yC,h.cs.wO,Nat.le_refl _,h.cs.nZ⟩,.inl ⟨bg,rfl,m.v,m.A,m.P,m.outs,m.sure⟩⟩,fun _ _ e=>e,.inr ⟨bg.up,rfl,rfl,rfl,rfl⟩⟩
theorem aC0(h:ev f n c k W Q b g)(ag:b.K.down=false):∃ cy,ev f n c k W Q { b with K:=(gp b.K b.A).1,A:=(gp b.K b.A).2.1 } cy∧k5 g cy∧((gp b.K b.A).1.down=true∧(gp b.K b.A).2.2=71∨(gp b.K b.A).1.down=false∧(gp b.K b.A).2.2=0∧cy.xs=g.xs∧cy.an=g.an∧cy.l=g.an.length):=by
 have m:=h.live ag;have bQ:bC k { b with K:=(gp b.K b.A).1,A:=(gp b.K b.A).2.1 }:=⟨h.bQ.ax,h.bQ.rd,h.bQ.src,LK h.bQ.K,h.bQ.fit,h.bQ.ids,h.bQ.lS,h.bQ.lG,h.bQ.out⟩
 obtain⟨I,O⟩:=m.N.aHL;have e:∀ kS a6,oI b.K 1=(kS,a6)→gp b.K b.A=(kS,⟨g.an.length,if a6=0 then g.an.length else g.l,1,a6==71⟩,a6):=by
  intro kS a6 he;unfold gp;rw[m.A];simp only;rw[if_neg (by simp),he];simp
 by_cases Y:b.K.ea=1
 ·obtain⟨cy,re,kp,sS⟩:=m.gone h.cs b.K.bz;have es:=e _ _ (O Y);rw[es] at bQ ⊢;exact⟨cy,⟨bQ,re,.inr sS⟩,kp,.inl ⟨sS.off,rfl⟩⟩
 ·obtain⟨d_,aH,bg⟩:=I Y;have es:=e _ _ aH;rw[es] at bQ ⊢;rw[List.length_map] at bg;have ao:k5 g ⟨g.xs,g.a,g.an,g.an.length⟩:=fun id d ag=>by
   show kl (g.an.take g.an.length) id=some d
   rw[List.take_length];exact Jp h.cs.na ag
  exact⟨⟨g.xs,g.a,g.an,g.an.length⟩,⟨bQ,⟨h.cs.q,h.cs.p2,h.cs.na,h.cs.ours,h.cs.vJ,h.cs.yC,h.cs.wO,h.cs.tV,Nat.le_refl _⟩,.inl ⟨bg,m.V,m.v,rfl,m.P,m.outs,fun id aG=>by obtain⟨d,ag⟩:=m.sure id aG; exact⟨d,ao _ _ ag⟩⟩⟩,ao,.inr ⟨bg.up,rfl,rfl,rfl,rfl⟩⟩
theorem ake(m:xn f n c b g)(cs:nk n c k W Q g)(aq:k≤50000){r:cN}(ab:oR r) :
  (∃ d_,gj b.K b.A (fF r)=(d_,⟨g.an.length+1,g.l,1,false⟩,0)∧Live d_ (g.xs.map iY) g.a ((g.an++[r]).map fF) g.l) ∨
  (∃ cy,nk n c k W Q cy∧k5 g cy∧pr (gj b.K b.A (fF r)).1 (cy.xs.map iY) (cy.an.map fF)∧(gj b.K b.A (fF r)).2.2=71):=by
 have g1:=DG ab;have G8:=amw (ad2 cs.na);have aqp:=cs.wO;obtain⟨I,O⟩:=m.N.akd (x:=fF r) (by omega) (by omega);have oZ:∀ kS e,oq b.K 1 (g0 (fF r))=(kS,e)→gj b.K b.A (fF r)=(kS,⟨if e=0 then g.an.length+1 else g.an.length,g.l,1,e==71⟩,e):=by
  intro kS e he;unfold gj;rw[m.A];simp only;rw[if_neg (by simp),if_neg (by omega),he];simp only;rw[wrap_i64 (by omega) (by omega)];simp
 by_cases Y:b.K.ea=1
 ·right;obtain⟨cy,re,kp,sS⟩:=m.gone cs b.K.bz;have e:=oZ _ _ (O Y);rw[e];exact⟨cy,re,kp,sS,rfl⟩
 ·left;obtain⟨d_,aH,bg⟩:=I Y;have e:=oZ _ _ aH;refine⟨d_,?_,by rw[List.map_append]; exact bg⟩;rw[e];simp
theorem nk.aF8(h:nk n c k W Q g){r:cN}(ab:oR r)(Y:v0 (iG g.an) r)(U:Int.tmod r.x.aD n=c)(aR:r.k=2→jA r.t)(a5:Q r):nk n c (k+1) W Q ⟨g.xs,g.a,g.an++[r],g.l⟩∧k5 g ⟨g.xs,g.a,g.an++[r],g.l⟩:=by
 refine⟨⟨fun S aB=>?_,h.p2,aFX h.na ab Y,fun S aB=>?_,fun S aB=>?_,Nat.le_trans h.yC (Nat.le_succ k),?_,h.tV,?_⟩,fun id d e=>?_⟩
 ·rcases List.mem_append.1 aB with aB | aB
  ·exact h.q S aB
  ·rw[List.mem_singleton.1 aB]; exact a5
 ·rcases List.mem_append.1 aB with aB | aB
  ·exact h.ours S aB
  ·rw[List.mem_singleton.1 aB]; exact U
 ·rcases List.mem_append.1 aB with aB | aB
  ·exact h.vJ S aB
  ·rw[List.mem_singleton.1 aB]; exact aR
 ·have:=h.wO; simp; omega
 ·have:=h.nZ; simp; omega
 ·show kl ((g.an++[r]).take g.l) id=some d
  rw[List.take_append_of_le_length h.nZ];exact e
theorem aD9{an:List cN}{r:cN}(Y:v0 (iG an) r):gx.le (own n c an) (own n c (an++[r])):=by
 intro id d h;unfold own at h ⊢;split at h
 ·rename_i e;rw[if_pos e];unfold kl at h ⊢;rw[Cg];exact Ok (Bp _) Y h
 ·cases h
theorem abM(h:ev f n c k W Q b g)(ag:b.K.down=false)(aq:k≤50000){r:cN}(ab:oR r)(Y:v0 (iG g.an) r)(U:Int.tmod r.x.aD n=c)(aR:r.k=2→jA r.t)(a5:Q r){je mv:List (Int×bF)}{m:List p5}
  (I:sv je∧je.length≤k+1) (O:sv mv∧mv.length≤k+1) (iB:C6 je (g.an++[r])) (al:∀ s∈m,k6 (own n c (g.an++[r])) s.y∧0≤s.h1∧s.h1<n) (g1:m.length≤300000) :
  ((gj b.K b.A (fF r)).2.2=0→mN f n c (k+1) W Q { b with K:=(gj b.K b.A (fF r)).1,A:=(gj b.K b.A (fF r)).2.1,P:=je,out:=b.out++m } g) ∧
  ((gj b.K b.A (fF r)).2.2≠0→mN f n c (k+1) W Q { b with K:=(gj b.K b.A (fF r)).1,A:=(gj b.K b.A (fF r)).2.1,P:=mv } g∧(gj b.K b.A (fF r)).1.down=true∧(gj b.K b.A (fF r)).2.2=71):=by
 have q:=h.live ag;have y:=h.bQ.mono (Nat.le_succ k);rcases ake q h.cs aq ab with ⟨d_,e,kB⟩ | ⟨cy,br,eN,iZ,nt⟩
 ·obtain⟨cI,cL⟩:=h.cs.aF8 ab Y U aR a5;refine⟨fun _=>⟨_,⟨⟨y.ax,y.rd,y.src,I_ h.bQ.K,y.fit,y.ids,I.1,I.2,?_⟩,cI,.inl ⟨?_,q.V,q.v,?_,iB,?_,fun id aG=>?_⟩⟩,cL⟩,fun ah=>absurd (by rw[e]) ah⟩
  ·have:=h.bQ.out;show (b.out++m).length≤_
   rw[List.length_append,Nat.mul_add]; omega
  ·show Live (gj b.K b.A (fF r)).1 _ _ _ _
   rw[e]; exact kB
  ·show (gj b.K b.A (fF r)).2.1=_
   rw[e]; simp
  ·intro s aG;rcases List.mem_append.1 aG with aG | aG
   ·obtain⟨a,l⟩:=q.outs s aG;exact⟨a.mono (aD9 Y),l⟩
   ·exact al s aG
  ·obtain⟨d,ag⟩:=q.sure id aG;exact⟨d,cL _ _ ag⟩
 ·refine⟨fun ah=>(by rw[nt] at ah; cases ah),fun _=>⟨⟨cy,⟨⟨y.ax,y.rd,y.src,I_ h.bQ.K,y.fit,y.ids,O.1,O.2,y.out⟩,br.mono (gx.le_refl W) (Nat.le_succ k),.inr iZ⟩,eN⟩,iZ.off,nt⟩⟩
end
theorem aId{i:Int}(h:1≤i):gE (2*i-1)=i∧gE (2*i)=i:=by
 unfold gE;rw[Int.tdiv_eq_ediv_of_nonneg (by omega),Int.tdiv_eq_ediv_of_nonneg (by omega)];omega
theorem aIc{i:Int}(h:1≤i∧i≤2000000):1≤gE i∧gE i≤1000000:=by
 unfold gE;rw[Int.tdiv_eq_ediv_of_nonneg (by omega)];omega
theorem afa{a:Int}{n:Nat}(h:0<n)(ah:0≤a):0≤Int.tmod a n∧Int.tmod a n<n:=⟨Int.tmod_nonneg _ ah,Int.tmod_lt_of_pos _ (by omega)⟩
theorem Il{W:gx}{id t:Int}{eI:Bool}(h:1≤id∧id≤2000000)(aR:0≤t∧t≤1125899906842624):k6 W (rC id eI t):=
 k6.plain ⟨h,by show (0:Int)≤0∧(0:Int)<_; omega,by show (0:Int)≤0∧(0:Int)≤_; omega,aR⟩ (by show (2:Int)≠3; omega)
theorem X9{W:gx}{id:Int}{p:bF}(h:1≤id∧id≤2000000)(eX:W (gE id)=lg p)(ah:p.bV=2∨p.bV=3)(Y:0≤p.at_∧p.at_≤1125899906842624):k6 W ⟨3,⟨id,0,0,false⟩,p.bV==2,p.at_⟩:=by
 refine⟨⟨h,by show (0:Int)≤0∧(0:Int)<_; omega,by show (0:Int)≤0∧(0:Int)≤_; omega,Y⟩,fun _=>?_⟩;have e:lg p=some (p.bV,p.at_):=by unfold lg; rw[if_neg (by omega)]
 rw[e] at eX;refine⟨fun aB=>?_,fun aB=>?_⟩
 ·have aB:p.bV=2:=by simpa using aB
  rw[aB] at eX; exact eX
 ·have aB:p.bV≠2:=by simpa using aB
  have:p.bV=3:=by omega
  rw[this] at eX; exact⟨_,eX⟩
theorem N5{W:gx}{n:Nat}{p:bF}(aK:0<n)(F:jq p.x=0)(ie:p.bV=0∨p.bV=2∨p.bV=3)(Y:0≤p.at_∧p.at_≤1125899906842624)(eX:p.bV≠0→W p.x.aD=lg p):∀ s∈jL n p,k6 W s.y∧0≤s.h1∧s.h1<n:=by
 intro s aG;unfold jL at aG;obtain⟨dE,_,rfl⟩:=List.mem_map.1 aG;have I:=Ay F;have hF:1≤(k1 p dE).aD∧(k1 p dE).aD≤2000000∧gE (k1 p dE).aD=p.x.aD:=by
  have:=aId I.1.1;unfold k1;split
  ·exact⟨by simp only; omega,by simp only; omega,this.1⟩
  ·exact⟨by simp only; omega,by simp only; omega,this.2⟩
 have ZD:0≤(k1 p dE).b5∧(k1 p dE).b5<4096:=by
  unfold k1;split
  ·exact I.2.1
  ·exact I.2.2.1
 have a0:0≤(k1 p dE).b∧(k1 p dE).b≤1000000000000000:=by
  unfold k1;split<;>(simp only; omega)
 unfold Dr;refine⟨?_,afa aK ZD.1⟩;simp only;by_cases bY:p.bV=0
 ·rw[if_neg (fun h=>h bY)];exact k6.plain ⟨⟨hF.1,hF.2.1⟩,ZD,a0,by show (0:Int)≤0∧(0:Int)≤_; omega⟩ (by show (1:Int)≠3; omega)
 ·rw[if_pos bY];exact X9 ⟨hF.1,hF.2.1⟩ (by rw[hF.2.2]; exact eX bY) (by omega) Y
theorem anQ{v:c4}(aT:Fit v)(id:Int):0≤(fb v id).gL∧(fb v id).gL≤1125899906842624:=by
 unfold fb;cases h:v.dS.lookup id with
 |none=>show (0:Int)≤0∧(0:Int)≤_; omega
 |some t=>
  show 0≤t.gL∧t.gL≤_
  have I:=aT.wm _ _ h;rcases I.2 with ⟨_,q,a5,e⟩ | ⟨_,O,aH⟩ | ⟨_,O⟩
  ·have:=aT.ids _ _ a5;have:=aT.eU.mark;have:=aT.fA;omega
  ·omega
  ·omega
section
variable {f n c k:Nat} {W:gx} {Q:cN→Prop} {b cC:bi} {g:e9}
theorem xn.pl(m:xn f n c b g)(cs:nk n c k W Q g){id:Int}{p:bF}(h:b.P.lookup id=some p):∃ q,(iG g.an).lookup id=some q∧AX p q∧AV q∧Int.tmod id n=c∧p.x.aD=id∧jq p.x=0:=by
 obtain⟨q,a5,he⟩:=(m.P id).1 p h;have I:=acq cs.na cs.ours id q a5;exact⟨q,a5,he,Bp _ _ _ a5,I.1,by rw[he.1]; exact I.2.1,by rw[he.1]; exact I.2.2⟩
theorem anP{p q:bF}(h:AX p q):lg p=lg q:=by unfold lg; rw[h.2.1,h.2.2]
theorem Rt{an:List cN}{id:Int}{p q:bF}(U:Int.tmod id n=c)(a5:(iG an).lookup id=some q)(he:AX p q):own n c an id=lg p:=by
 unfold own kl;rw[if_pos U,a5,anP he];rfl
theorem aEM{P:List (Int×bF)}{an:List cN}{id:Int}{p hW:bF}(h:C6 P an)(aF:P.lookup id=some p)(he:AX hW p):C6 (iK P id hW) an:=by
 intro x;rw[wN];by_cases e:x=id
 ·subst e;rw[if_pos rfl,aF];refine⟨fun r ab=>?_,fun ab=>by cases ab⟩;cases ab;obtain⟨q,a5,O⟩:=(h x).1 p aF;exact⟨q,a5,he.1.trans O.1,he.2.1.trans O.2.1,he.2.2.trans O.2.2⟩
 ·rw[if_neg e];exact h x
theorem KN(h:ev f n c k W Q b g){id:Int}{p hW:bF}(aF:b.P.lookup id=some p)(he:AX hW p):ev f n c k W Q { b with P:=iK b.P id hW } g:=by
 refine⟨⟨h.bQ.ax,h.bQ.rd,h.bQ.src,h.bQ.K,h.bQ.fit,h.bQ.ids,Ry h.bQ.lS aF he.1,by show (iK _ _ _).length≤_; rw[LQ]; exact h.bQ.lG,h.bQ.out⟩,h.cs,?_⟩;rcases h.ba with m | d
 ·exact .inl ⟨m.N,m.V,m.v,m.A,aEM m.P aF he,m.outs,m.sure⟩
 ·exact .inr d
theorem aCS(h:ev f n c k W Q b g)(ag:b.K.down=false)(aq:k≤49000){from_:Int}{y:hI}(hm:k6 W y)(am:0≤from_∧from_<n):mN f n c (k+2) W Q (rh b from_ y.Part) g:=by
 have hF:=hm.1.id;unfold rh;split
 ·exact (B6 h (fun _=>Il hF (anQ h.bQ.fit _)) am).k0.mono (by omega)
 ·split
  ·exact (B6 h (fun _=>Il hF (by omega)) am).k0.mono (by omega)
  ·split
   ·have aG:=LI (rd:=b.cv) (N:=[]) h.bQ.ax h.bQ.src;have al:=At (ax:=b.ax) (rd:=b.cv) (N:=[]) h.bQ.src.2;generalize gw b.ax b.cv b.src []=s at aG al;have I:=wS h aG.1 aG.2;unfold yi;split
    ·exact I.k0.mono (by omega)
    ·rename_i ah;have ah:=Classical.not_not.1 ah;have aR:=al.2 ah;have F:p4 W ⟨2,s.2.2.1,y.Part.aD,y.Part.b5,y.Part.b,y.Part.h8⟩:=by
      refine⟨⟨by simp,by simp only; omega,by simp only; omega,by have:=hm.1.ac; simp only; omega,by have:=hm.1.n; simp only; omega⟩,⟨by show (1:Int)≤2; omega,by show (2:Int)≤6; omega⟩,by simp only; omega,fun e=>absurd e (by show (2:Int)≠3; omega),fun e=>absurd e (by show (2:Int)≠4; omega)⟩
     obtain⟨cy,O,aH,_⟩:=HC I ag (by omega) F;unfold u9;split
     ·exact⟨cy,B6 O (fun _=>Il hF (by omega)) am,aH⟩
     ·split
      ·exact⟨cy,B6 O (fun _=>Il hF (by omega)) am,aH⟩
      ·exact mN.mono ⟨cy,O,aH⟩ (by omega)
   ·exact h.k0.mono (by omega)
theorem aCR(h:ev f n c k W Q b g)(ag:b.K.down=false)(aq:k≤49000){from_:Int}{y:hI}(hm:k6 W y)(aH:y.Kind=3)(am:0≤from_∧from_<n):mN f n c (k+2) W Q (tH b from_ y) g:=by
 have hF:=hm.1.id;have ZE:k6 (own n c g.an) (Bf y.Part.aD):=k6.plain ⟨hF,by show (0:Int)≤0∧(0:Int)<_; omega,by show (0:Int)≤0∧(0:Int)≤_; omega,by show (0:Int)≤0∧(0:Int)≤_; omega⟩ (by show (4:Int)≠3; omega);have aoU:∀ T,k6 T (Bf y.Part.aD):=fun T=>k6.plain ZE.1 (by show (4:Int)≠3; omega);unfold tH;split
 ·exact (B6 h (fun _=>ZE) am).k0.mono (by omega)
 ·have F:p4 W (q3 y):=by
   have aR:=hm.1.t;have eX:=hm.2 aH;unfold q3;cases aB:y.jK with
   |true=>
    rw[if_pos rfl];exact⟨⟨by simp,by simp only; omega,by simp only; omega,by simp,by simp⟩,⟨by show (1:Int)≤3; omega,by show (3:Int)≤6; omega⟩,by simp only; omega,fun _=>eX.1 aB,fun e=>absurd e (by show (3:Int)≠4; omega)⟩
   |false=>
    rw[if_neg (by simp)];exact⟨⟨by simp,by simp,by simp only; omega,by simp,by simp⟩,⟨by show (1:Int)≤4; omega,by show (4:Int)≤6; omega⟩,by simp only; omega,fun e=>absurd e (by show (4:Int)≠3; omega),fun _=>eX.2 aB⟩
  obtain⟨cy,I,O,_⟩:=HC h ag (by omega) F;unfold ib;split
  ·exact mN.mono ⟨cy,I,O⟩ (by omega)
  ·refine⟨cy,?_,O⟩;have aq4:-9223372036854775808≤(if y.jK=true then (oy b.src y.bW).1 else b.src)∧(if y.jK=true then (oy b.src y.bW).1 else b.src)≤1125899906842624:=by
    split
    ·exact Hn h.bQ.src
    ·exact h.bQ.src
   exact B6 (b:={ b with K:=(fN b.K b.W (q3 y)).1,W:=(fN b.K b.W (q3 y)).2.1,src:=if y.jK=true then (oy b.src y.bW).1 else b.src }) (wS I I.bQ.ax aq4) (fun _=>aoU _) am
theorem aCM(h:ev f n c k W Q b g){y:hI}:ev f n c k W Q (xC b y) g:=by
 unfold xC;cases al:b.P.lookup (gE y.Part.aD) with
 |none=>exact h
 |some p=>
  refine KN h al ?_;unfold F7;split
  ·exact⟨rfl,rfl,rfl⟩
  ·simp only;split<;>exact⟨rfl,rfl,rfl⟩
end
section
variable {f n c k:Nat} {W:gx} {Q:cN→Prop} {b cC:bi} {g:e9}
theorem acI{an:List cN}{r:cN}{q:bF}(aq:r.k≠1)(a5:(iG an).lookup r.x.aD=some q):iG (an++[r])=iK (iG an) r.x.aD (kb q r):=by
 rw[Cg];unfold m_;rw[if_neg aq,a5]
theorem aIt(p:bF)(a l:Bool)(t:Int):(g3 p a l t).2≠0→(g3 p a l t).1=p:=by
 unfold g3;by_cases bm:l=true∧¬ jA t
 ·rw[if_pos bm]; exact fun _=>rfl
 ·rw[if_neg bm];by_cases bB:(p.side a).said=true∧lx.gZ (p.side a) ⟨true,l,if l then t else 0⟩=false
  ·rw[if_pos bB]; exact fun _=>rfl
  ·rw[if_neg bB]; exact fun e=>absurd rfl e
theorem Q4(aK:0<n)(h:ev f n c k W Q b g)(ag:b.K.down=false)(aq:k≤49000){id jQ t:Int}{p cP:bF}(al:b.P.lookup id=some p)(ah:p.bV=0)(F:cP.x=p.x)(kC:cP.at_=p.at_)
  (JZ:(jQ=3∧cP.bV≠2)∨(jQ=2∧(km cP 2 t).bV=2∧(km cP 2 t).at_=t∧jA t)) (aR:0≤t∧t≤1125899906842624) (sV:Q ⟨jQ,cP.x,t⟩) :
  mN f n c (k+1) W Q (nT n b id cP jQ t).1 g∧((nT n b id cP jQ t).2≠0→(nT n b id cP jQ t).1.K.down=true∧(nT n b id cP jQ t).2=71):=by
 have m:=h.live ag;obtain⟨q,a5,he,ie,U,J4,D9⟩:=m.pl h.cs al;have j7:q.bV=0:=by rw[← he.2.1]; exact ah
 have zW:=ie.2.2 j7;have Hf:cP.x.aD=id:=by rw[F]; exact J4
 have aam:jq cP.x=0:=by rw[F]; exact D9
 have ab:oR ⟨jQ,cP.x,t⟩:=Eb (by omega) aam aR;have Y:v0 (iG g.an) ⟨jQ,cP.x,t⟩:=.inr ⟨by rcases JZ with h | h<;>simp[h.1],by show ((iG g.an).lookup cP.x.aD).isSome=true; rw[Hf,a5]; rfl⟩;have BE:(km cP jQ t).x=cP.x:=Ya cP jQ t;have aow:sv (iK b.P id (km cP jQ t)):=Ry h.bQ.lS al (by rw[BE,F]);have Zz:sv (iK b.P id cP):=Ry h.bQ.lS al F;have sQ:=h.bQ.lG;have DE:iG (g.an++[⟨jQ,cP.x,t⟩])=iK (iG g.an) id (kb q ⟨jQ,cP.x,t⟩):=by
  have:=acI (r:=⟨jQ,cP.x,t⟩) (an:=g.an) (q:=q) (by show jQ≠1; rcases JZ with h | h<;>omega) (by show (iG g.an).lookup cP.x.aD=_; rw[Hf]; exact a5);rw[this];show iK (iG g.an) cP.x.aD _=_
  rw[Hf]
 have D0:AX (km cP jQ t) (kb q ⟨jQ,cP.x,t⟩):=by
  refine⟨by rw[BE,aef,F,he.1],?_⟩;rcases JZ with ⟨rfl,BL⟩ | ⟨rfl,O,aH,bg⟩
  ·have aQ:km cP 3 t=(py cP).1:=by unfold km; rw[if_neg (by omega)]
   have a6:kb q ⟨3,cP.x,t⟩=(py q).1:=by unfold kb; rw[if_pos rfl]
   rw[aQ,a6];unfold py;rw[if_neg BL,if_neg (by omega)];exact⟨rfl,by show cP.at_=q.at_; rw[kC,he.2.2]⟩
  ·have dh:=(Lu (x:=q.x) (r:=⟨2,cP.x,t⟩) (by show (2:Int)≠3; omega)).1 bg;rw[← zW] at dh;exact⟨by rw[O,dh.1],by rw[aH,dh.2]⟩
 have iB:C6 (iK b.P id (km cP jQ t)) (g.an++[⟨jQ,cP.x,t⟩]):=by
  intro x;rw[DE,wN,wN];by_cases e:x=id
  ·subst e;rw[if_pos rfl,if_pos rfl,al,a5];exact⟨fun r ab=>by cases ab; exact⟨_,rfl,D0⟩,fun ab=>by cases ab⟩
  ·rw[if_neg e,if_neg e];exact m.P x
 have aJ0:AV (km cP jQ t)∨True:=.inr trivial;have G4:(iG (g.an++[⟨jQ,cP.x,t⟩])).lookup id=some (kb q ⟨jQ,cP.x,t⟩):=by rw[DE,wN,if_pos rfl,a5]; rfl
 have ZX:=Bp (g.an++[⟨jQ,cP.x,t⟩]) _ _ G4;have PK:∀ s∈jL n (km cP jQ t),k6 (own n c (g.an++[⟨jQ,cP.x,t⟩])) s.y∧0≤s.h1∧s.h1<n:=by
  refine N5 aK (by rw[BE]; exact aam) (by rw[D0.2.1]; exact ZX.1) (by rw[D0.2.2]; exact ZX.2.1) fun _=>?_;rw[BE,Hf];exact Rt U G4 D0
 obtain⟨gJ,bs⟩:=abM h ag (by omega) ab Y (by show Int.tmod cP.x.aD n=c; rw[Hf]; exact U) (fun e=>by have e:jQ=2:=e; rcases JZ with h | h; (have:=h.1; omega); exact h.2.2.2) sV (je:=iK b.P id (km cP jQ t)) (mv:=iK b.P id cP) (m:=jL n (km cP jQ t)) ⟨aow,by rw[LQ]; omega⟩ ⟨Zz,by rw[LQ]; omega⟩ iB PK (by have:=Gb n (km cP jQ t); omega);unfold nT;simp only;by_cases cz:(gj b.K b.A (fF ⟨jQ,cP.x,t⟩)).2.2=0
 ·rw[if_pos cz];exact⟨gJ cz,fun e=>absurd rfl e⟩
 ·rw[if_neg cz];exact⟨(bs cz).1,fun _=>(bs cz).2⟩
theorem aF6{p:bF}(h:(n3 p).2=true):p.bV=0∧p.both=true∧(n3 p).1=max p.a.gL p.l.gL:=by
 unfold n3 at h ⊢;split
 ·rename_i U; exact⟨U.2,U.1,rfl⟩
 ·rename_i U; rw[if_neg U] at h; cases h
theorem aHv{ax:hh}{rd src a:Int}(h:(gw ax rd src [a]).2.2.2=0):a<(gw ax rd src [a]).2.2.1∧jA (gw ax rd src [a]).2.2.1:=by
 unfold gw at h ⊢;split
 ·rename_i U; rw[if_pos U] at h; exact absurd h U
 ·rename_i U;rw[if_neg U] at h;unfold Ab at h ⊢;split
  ·rename_i am; rw[if_pos am] at h; cases h
  ·rename_i am;rw[if_neg am] at h;split
   ·rename_i R; rw[if_pos R] at h; cases h
   ·rename_i R;have am:=(Classical.not_not.1 am).2.1.1;simp only[List.foldl_cons,List.foldl_nil] at R ⊢;unfold jA;omega
theorem aC1(dZ:C7 Q b)(aK:0<n)(h:ev f n c k W Q b g)(ag:b.K.down=false)(aq:k≤49000){from_:Int}{y:hI}(hm:k6 W y)(am:0≤from_∧from_<n):mN f n c (k+2) W Q (vO n b from_ y) g:=by
 have hF:=hm.1.id;unfold vO;cases al:b.P.lookup (gE y.Part.aD) with
 |none=>exact h.k0.mono (by omega)
 |some p=>
  simp only;have m:=h.live ag;obtain⟨q,a5,he,ie,U,J4,D9⟩:=m.pl h.cs al;unfold y8;by_cases bY:p.bV≠0
  ·rw[if_pos bY];refine (B6 h (fun _=>X9 hF (Rt U a5 he) ?_ ?_) am).k0.mono (by omega)
   ·have:=ie.1; rw[← he.2.1] at this; omega
   ·rw[he.2.2]; exact ie.2.1
  ·rw[if_neg bY];have bY:=Classical.not_not.1 bY;have aJ:=SX (p:=p) (Int.tmod y.Part.aD 2==1) y.jK y.bW;have D_:=LW p (Int.tmod y.Part.aD 2==1) y.jK y.bW;have PX:=aIt p (Int.tmod y.Part.aD 2==1) y.jK y.bW;generalize g3 p (Int.tmod y.Part.aD 2==1) y.jK y.bW=z at aJ D_ PX;obtain⟨cP,aQ⟩:=z;simp only at aJ D_ PX ⊢;by_cases ce:aQ≠0
   ·rw[if_pos ce];have:=PX ce;subst this;exact (KN h al ⟨rfl,rfl,rfl⟩).k0.mono (by omega)
   ·rw[if_neg ce];have kC:cP.at_=p.at_:=by rcases aJ with h | h; exact h.2; exact h.2.2.2
    unfold vN;by_cases b4:cP.bV=3
    ·rw[if_pos b4];exact (Q4 aK h ag aq al bY D_ kC (.inl ⟨rfl,by omega⟩) (by omega) (dZ.one _ (by show (3:Int)≠2; omega))).1.mono (by omega)
    ·rw[if_neg b4];have u1:cP.bV=p.bV:=by rcases aJ with h | h; exact h.1; exact absurd h.2.2.1 b4
     by_cases cr:(n3 cP).2=true
     ·rw[if_pos cr];obtain⟨gJ,bs,ga⟩:=aF6 cr;have aG:=LI (rd:=b.cv) (N:=[(n3 cP).1]) h.bQ.ax h.bQ.src;have pJ:=At (ax:=b.ax) (rd:=b.cv) (N:=[(n3 cP).1]) h.bQ.src.2;have xX:=aHv (ax:=b.ax) (rd:=b.cv) (src:=b.src) (a:=(n3 cP).1);have rY:=dZ.two cP.x [(n3 cP).1];generalize gw b.ax b.cv b.src [(n3 cP).1]=s at aG pJ xX rY;have I:=wS h aG.1 aG.2;unfold y9;by_cases a8:s.2.2.2=0
      ·rw[if_pos a8];have ao:=xX a8;have aR:=pJ.2 a8;have sP:km cP 2 s.2.2.1={ cP with bV:=2,at_:=s.2.2.1 }:=by
        unfold km oY;rw[if_pos rfl,if_neg (fun cn=>cn ao.2),if_neg (by omega),if_neg (by omega),if_neg (by simp[bs]),if_neg (by omega)]
       exact (Q4 aK I ag aq al bY D_ kC (.inr ⟨rfl,by rw[sP],by rw[sP],ao.2⟩) (by omega) (rY a8)).1.mono (by omega)
      ·rw[if_neg a8];exact (KN I al ⟨D_,u1,kC⟩).k0.mono (by omega)
     ·rw[if_neg cr];exact (KN h al ⟨D_,u1,kC⟩).k0.mono (by omega)
theorem aCP(dZ:C7 Q b)(aK:0<n)(h:ev f n c k W Q b g)(ag:b.K.down=false)(aq:k≤49000){from_:Int}{y:hI}(hm:k6 W y)(am:0≤from_∧from_<n):mN f n c (k+2) W Q (mU n b from_ y) g:=by
 unfold mU;split
 ·exact aCS h ag aq hm am
 ·split
  ·exact aC1 dZ aK h ag aq hm am
  ·split
   ·rename_i aH; exact aCR h ag aq hm aH am
   ·split
    ·exact (aCM h).k0.mono (by omega)
    ·exact h.k0.mono (by omega)
theorem aCW(h:ev f n c k W Q b g)(ag:b.K.down=false)(aq:k≤49000){a y:Int}(Y:0≤a∧a<4096)(hm:-9223372036854775808≤y∧y≤9223372036854775807):mN f n c (k+1) W Q (yO b a y).1 g:=by
 unfold yO;have aG:=LI (rd:=b.cv) (N:=[]) h.bQ.ax h.bQ.src;have al:=At (ax:=b.ax) (rd:=b.cv) (N:=[]) h.bQ.src.2;generalize gw b.ax b.cv b.src []=s at aG al;have I:=wS h aG.1 aG.2;unfold yN;split
 ·exact I.k0.mono (by omega)
 ·rename_i ah;have aR:=al.2 (Classical.not_not.1 ah);have F:p4 W ⟨1,s.2.2.1,0,a,y,false⟩:=⟨⟨by simp,by simp only; omega,by simp,by simp only; omega,hm⟩,⟨by show (1:Int)≤1; omega,by show (1:Int)≤6; omega⟩,by show (0:Int)≤_; omega,fun e=>absurd e (by show (1:Int)≠3; omega),fun e=>absurd e (by show (1:Int)≠4; omega)⟩
  obtain⟨cy,O,aH,bg⟩:=HC I ag (by omega) F;unfold EC;split
  ·exact⟨cy,O,aH⟩
  ·rename_i bD;have bD:=Classical.not_not.1 bD;rcases bg with bg | ⟨bg,_⟩
   ·
    have lK:(gp (fN b.K b.W ⟨1,s.2.2.1,0,a,y,false⟩).1 (fN b.K b.W ⟨1,s.2.2.1,0,a,y,false⟩).2.1.V).1=(fN b.K b.W ⟨1,s.2.2.1,0,a,y,false⟩).1:=by
     unfold gp;split
     ·rfl
     ·simp only;unfold oI j3;split
      ·rfl
      ·first | rfl | rw[if_pos bg]
    refine⟨cy,?_,aH⟩;have bQ:=O.bQ;refine⟨⟨bQ.ax,bQ.rd,bQ.src,LK bQ.K,bQ.fit,bQ.ids,bQ.lS,bQ.lG,bQ.out⟩,O.cs,.inr ?_⟩;rcases O.ba with m | d
    ·have:=m.N.up;simp only at this;rw[this] at bg; cases bg
    ·show pr (gp _ _).1 _ _
     rw[lK];exact d
   ·obtain⟨an4,dh,il,_⟩:=abP O bg;exact⟨an4,dh,aH.trans il⟩
theorem aCT(dZ:∀ r:cN,r.k≠2→Q r)(aK:0<n)(h:ev f n c k W Q b g)(ag:b.K.down=false)(aq:k≤49000){x:om}(F:jq x=0)(U:Int.tmod x.aD n=c):mN f n c (k+1) W Q (s4 n b x).1 g:=by
 unfold s4;split
 ·exact h.k0.mono (by omega)
 ·rename_i u7;have m:=h.live ag;have al:b.P.lookup x.aD=none:=by
   cases e:b.P.lookup x.aD with
   |none=>rfl
   |some p=>rw[e] at u7; exact absurd rfl u7
  have aqG:=(m.P x.aD).2 al;have ab:oR ⟨1,x,0⟩:=Eb (by omega) F (by omega);have Y:v0 (iG g.an) ⟨1,x,0⟩:=.inl ⟨rfl,F,aqG⟩;have DE:iG (g.an++[⟨1,x,0⟩])=iG g.an++[(x.aD,jD x)]:=by rw[Cg]; rfl
  have sQ:=h.bQ.lG;have iB:C6 (b.P++[(x.aD,jD x)]) (g.an++[⟨1,x,0⟩]):=by
   intro S;rw[DE,List.lookup_append,List.lookup_append];cases aB:b.P.lookup S with
   |some p=>
    obtain⟨q,a5,he⟩:=(m.P S).1 p aB;rw[a5];exact⟨fun r ab=>by cases ab; exact⟨q,rfl,he⟩,fun ab=>by cases ab⟩
   |none=>
    rw[(m.P S).2 aB];exact⟨fun r ab=>⟨r,ab,rfl,rfl,rfl⟩,fun ab=>ab⟩
  have PK:∀ s∈jL n (jD x),k6 (own n c (g.an++[⟨1,x,0⟩])) s.y∧0≤s.h1∧s.h1<n:=N5 aK F (.inl rfl) (by show (0:Int)≤0∧(0:Int)≤_; omega) fun e=>absurd rfl e;obtain⟨gJ,bs⟩:=abM h ag (by omega) ab Y U (by show (1:Int)=2→_; intro e; omega) (dZ _ (by show (1:Int)≠2; omega)) (je:=b.P++[(x.aD,jD x)]) (mv:=b.P) (m:=jL n (jD x)) ⟨aEK h.bQ.lS F,by simp; omega⟩ ⟨h.bQ.lS,by omega⟩ iB PK (by have:=Gb n (jD x); omega);unfold B5;by_cases cz:(gj b.K b.A (fF ⟨1,x,0⟩)).2.2=0
  ·rw[if_neg (fun e=>e cz)];exact gJ cz
  ·rw[if_pos cz];exact (bs cz).1
theorem aCL(dZ:∀ r:cN,r.k≠2→Q r)(aK:0<n)(h:ev f n c k W Q b g)(ag:b.K.down=false)(aq:k≤49000){id:Int}:mN f n c (k+1) W Q (rN n b id).1 g:=by
 unfold rN;cases al:b.P.lookup id with
 |none=>exact h.k0.mono (by omega)
 |some p=>
  simp only;split
  ·exact h.k0.mono (by omega)
  ·rename_i ah;exact (Q4 aK h ag aq al (Classical.not_not.1 ah) rfl rfl (.inl ⟨rfl,by have:=Classical.not_not.1 ah; omega⟩) (by omega) (dZ _ (by show (3:Int)≠2; omega))).1
end
section
variable {f n c k:Nat} {W:gx} {Q:cN→Prop} {b cC:bi} {g:e9}
theorem Q5(h:ev f n c k W Q b g)(ag:b.K.down=false):∃ cy,ev f n c k W Q (nd b).1 cy∧k5 g cy ∧
  ((nd b).2=71∧(nd b).1.K.down=true∨(nd b).2=0∧(nd b).1.K.down=false∧cy.an=g.an∧cy.l=g.an.length∧cy.xs=g.xs):=by
 obtain⟨br,I,cI,bm⟩:=abP h ag;have es:nd b=vD b (gp b.K b.W.V):=rfl;rw[es];unfold vD;rcases bm with ⟨d1,aQ⟩ | ⟨d1,aQ,b9,gJ,e5⟩
 ·rw[if_pos (by rw[aQ]; omega)];exact⟨br,I,cI,.inl ⟨aQ,d1⟩⟩
 ·rw[if_neg (by rw[aQ]; omega)];obtain⟨eN,O,cL,bB⟩:=aC0 I d1;unfold y2;simp only at bB;rcases bB with ⟨d2,a6⟩ | ⟨d2,a6,fl,bs,dX⟩
  ·rw[if_pos (by rw[a6]; omega)];exact⟨eN,O,cI.trans cL,.inl ⟨a6,d2⟩⟩
  ·rw[if_neg (by rw[a6]; omega)];have m:=O.live d2;refine⟨eN,⟨⟨O.bQ.ax,O.bQ.rd,O.bQ.src,O.bQ.K,O.bQ.fit,O.bQ.ids,O.bQ.lS,O.bQ.lG,by show ([]:List p5).length≤_; simp⟩,O.cs,.inl ⟨m.N,m.V,m.v,m.A,m.P,fun s aG=>(by cases aG),fun id aG=>?_⟩⟩,cI.trans cL,.inr ⟨rfl,d2,bs.trans gJ,by rw[dX,gJ],fl.trans b9⟩⟩;have aG:(b.sure id||sF b.P id)=true:=aG;rcases Bool.or_eq_true_iff.1 aG with aG | aG
   ·exact m.sure id aG
   ·unfold sF at aG;cases al:b.P.lookup id with
    |none=>rw[al] at aG; cases aG
    |some p=>
     rw[al] at aG;have PL:p.bV≠0:=by simpa using aG
     obtain⟨q,a5,he⟩:=(m.P id).1 p al;refine⟨(q.bV,q.at_),?_⟩;rw[dX,← bs,List.take_length];unfold kl;rw[a5];show lg q=_
     unfold lg;rw[if_neg (by rw[← he.2.1]; exact PL)]
theorem aCV(aK:0<n)(h:ev f n c k W Q b g)(ag:b.K.down=false)(aq:k≤49000):ev f n c (k+1) W Q (HE n b) g:=by
 have m:=h.live ag;have sQ:=h.bQ.lG;have sV:(eS b.P).length≤50000:=by unfold eS; rw[(n_ _).length_eq,List.length_map]; omega
 have I:=N6 n b.P (eS b.P);have O:=Ps h.bQ.fit;have aH:(rW n b.W.v).length=(gl b.W.v).length:=by unfold rW; rw[List.length_map]
 have e:HE n b={ b with out:=b.out++(qi n b.P (eS b.P)++rW n b.W.v) }:=by unfold HE; rw[List.append_assoc]
 rw[e];refine abO h (fun s aG _=>?_) (by rw[List.length_append]; omega);rcases List.mem_append.1 aG with aG | aG
 ·unfold qi at aG;obtain⟨id,_,aG⟩:=List.mem_flatMap.1 aG;cases al:b.P.lookup id with
  |none=>rw[al] at aG; cases aG
  |some p=>
   rw[al] at aG;obtain⟨q,a5,he,ie,U,J4,D9⟩:=m.pl h.cs al;refine N5 aK D9 (by rw[he.2.1]; exact ie.1) (by rw[he.2.2]; exact ie.2.1) (fun _=>?_) s aG;rw[J4];exact Rt U a5 he
 ·unfold rW at aG;obtain⟨q,a5,rfl⟩:=List.mem_map.1 aG;unfold gl at a5;obtain⟨id,hF,rfl⟩:=List.mem_map.1 a5;obtain⟨hQ,ox,rfl⟩:=List.mem_map.1 ((n_ _).mem_iff.1 hF);have al:=z8 h.bQ.fit.rr ox;rw[DZ al];have bg:=h.bQ.fit.ids _ _ al;have dh:=h.bQ.ids _ ox;have il:=h.bQ.fit.eU.mark;have rU:=h.bQ.fit.fA;have Z1:1≤hQ.2.Part.aD∧hQ.2.Part.aD≤2000000:=by rw[bg.1]; omega
  exact⟨Il Z1 (by omega),afa aK (by have:=aIc Z1; omega)⟩
theorem aCO(h:ev f n c k W Q b g)(ag:b.K.down=false)(aq:k≤49000):mN f n c (k+1) W Q (rP b).1 g:=by
 unfold rP;have tO:=h.bQ.ax.now b.cv;generalize e3 b.ax b.cv=s at tO;have I:=wS h tO.1 h.bQ.src;unfold xF;split
 ·exact I.k0.mono (by omega)
 ·rename_i ah;have GO:=tO.2 (Classical.not_not.1 ah);unfold nr eY at GO;have rV:=Oh h.bQ.fit (t:=s.2.1.gO) (by omega) (by omega);generalize uS b.W.v s.2.1.gO=t at rV;have F:p4 W ⟨5,t,0,0,0,false⟩:=⟨⟨by simp,by simp only; omega,by simp,by simp,by simp⟩,⟨by show (1:Int)≤5; omega,by show (5:Int)≤6; omega⟩,by show (0:Int)≤_; omega,fun e=>absurd e (by show (5:Int)≠3; omega),fun e=>absurd e (by show (5:Int)≠4; omega)⟩
  obtain⟨cy,O,aH,_⟩:=HC I ag (by omega) F;unfold Dx;split
  ·exact⟨cy,O,aH⟩
  ·exact⟨cy,wS O O.bQ.ax (Hn h.bQ.src),aH⟩
theorem aCY(h:ev f n c k W Q b g)(ag:b.K.down=false)(aq:k≤49000){t:Int}(aR:-9223372036854775808≤t∧t≤9223372036854775807):mN f n c (k+1) W Q (EH b t).1 g:=by
 have F:p4 W ⟨6,t,0,0,0,false⟩:=⟨⟨by simp,aR,by simp,by simp,by simp⟩,⟨by show (1:Int)≤6; omega,by show (6:Int)≤6; omega⟩,by show (0:Int)≤_; omega,fun e=>absurd e (by show (6:Int)≠3; omega),fun e=>absurd e (by show (6:Int)≠4; omega)⟩
 obtain⟨cy,O,aH,_⟩:=HC h ag (by omega) F;exact⟨cy,O,aH⟩
theorem aCX(h:ev f n c k W Q b g){d gm:Int}{xs:List Int}{i:Nat}(ag:0≤d∧d≤1048576)(hm:0≤gm∧gm≤2*d):ev f n c (k+1) W Q (vs d gm xs i b) g:=by
 have y:=h.bQ.mono (Nat.le_succ k);have aG:-gm≤pX gm xs i∧pX gm xs i≤gm:=by unfold pX; split<;>omega
 have ab:=h.bQ.rd;refine abN (h.mono (gx.le_refl W) (Nat.le_succ k)) ⟨y.ax,?_,y.src,y.K,y.fit,y.ids,y.lS,y.lG,y.out⟩ rfl rfl rfl rfl rfl rfl;show _≤b.cv+(d-pX gm xs i)∧_
 unfold vs
 push_cast
 constructor<;>omega
theorem aCZ(h:ev f n c k W Q b g){a l e:Int}:ev f n c k W Q { b with ax:=(sk b.ax a l e).1 } g:=wS h (h.bQ.ax.set a l e) h.bQ.src
theorem aCN(h:ev f n c k W Q b g){a:Int}{bz:List Int}:ev f n c k W Q { b with K:={ b.K with ea:=a,bz:=bz } } g:=by
 refine⟨⟨h.bQ.ax,h.bQ.rd,h.bQ.src,⟨h.bQ.K.len,h.bQ.K.log⟩,h.bQ.fit,h.bQ.ids,h.bQ.lS,h.bQ.lG,h.bQ.out⟩,h.cs,?_⟩;rcases h.ba with m | d
 ·exact .inl ⟨m.N.Bg a bz,m.V,m.v,m.A,m.P,m.outs,m.sure⟩
 ·exact .inr (d.Bg a bz)
theorem aCQ(h:ev f n c k W Q b g){bz:List Int}:mN f n c k W Q { b with K:=Disk.hC bz b.K } g:=by
 have bQ:bC k { b with K:=Disk.hC bz b.K }:=⟨h.bQ.ax,h.bQ.rd,h.bQ.src,Gk h.bQ.K,h.bQ.fit,h.bQ.ids,h.bQ.lS,h.bQ.lG,h.bQ.out⟩
 rcases h.ba with m | d
 ·obtain⟨cy,I,O,aH⟩:=m.gone h.cs bz;exact⟨cy,⟨bQ,I,.inr aH⟩,O⟩
 ·exact⟨g,⟨bQ,h.cs,.inr (by show pr (Disk.hC bz b.K) _ _; rw[d.hC bz]; exact d)⟩,k5.refl g⟩
theorem Ol{xs:List dI}(h:∀ x∈xs,nN x∧qe x.Kind):sG (xs.map iY)=some xs:=Yf h
theorem ev.cK(h:ev f n c k W Q b g):IW b.K:=by
 have F:∀ x∈g.xs,nN x∧qe x.Kind:=fun x F=>⟨(h.cs.p2 x F).1,(h.cs.p2 x F).2.1⟩
 rcases h.ba with m | d
 ·refine⟨_,_,g.xs,g.an,by rw[m.N.cK]; rfl,by rw[m.N.cK]; rfl,?_,?_,h.cs.na⟩
  ·have:=Aa (p:=[]) m.N.n9 ⟨31,rfl⟩;rw[List.append_nil] at this;simp only;rw[this]; exact Ol F
  ·have:=Aa (p:=[]) m.N.lm ⟨31,rfl⟩;rw[List.append_nil] at this;simp only;rw[this]
 ·obtain⟨p,q,aF,a5,al⟩:=d.cK;refine⟨_,_,g.xs,g.an,by rw[al]; rfl,by rw[al]; rfl,?_,?_,h.cs.na⟩
  ·simp only;rw[Aa d.n9 aF]; exact Ol F
  ·simp only;rw[Aa d.lm a5]
theorem Ls(an:List cN):∀ b:bi,(an.foldl vx b)={ b with P:=an.foldl m_ b.P,sure:=an.foldl w1 b.sure,src:=an.foldl uj b.src }:=by
 induction an with
 |nil=>intro b; rfl
 |cons r an b_=>
  intro b;rw[List.foldl_cons,b_];rfl
theorem aHu(an:List cN):∀ s:Int,-9223372036854775808≤s∧s≤1125899906842624→-9223372036854775808≤an.foldl uj s∧an.foldl uj s≤1125899906842624:=by
 induction an with
 |nil=>intro s h; exact h
 |cons r an b_=>
  intro s h;rw[List.foldl_cons];refine b_ _ ?_;unfold uj;split
  ·exact Hn h
  ·exact h
theorem aeT{an:List cN}(ab:qP an)(aR:∀ r∈an,r.k=2→jA r.t):∀ i,i≤an.length→∀ id,((an.take i).foldl w1 fun _=>false) id=true→∃ d,kl (an.take i) id=some d:=by
 intro i;induction i with
 |zero=>intro _ id h; simp at h
 |succ i b_=>
  intro aw id h;have F:an[i]?=some an[i]:=List.getElem?_eq_getElem (by omega);have e:an.take (i+1)=an.take i++[an[i]]:=List.take_succ_eq_append_getElem (by omega);have kC:=(ab _ _ F).2;have Ka:=aR _ (List.getElem_mem (by omega:i<an.length));generalize an[i]=r at F e kC Ka;rw[e] at h ⊢;rw[List.foldl_append,List.foldl_cons,List.foldl_nil] at h;have bz:(∃ d,kl (an.take i) id=some d)→∃ d,kl (an.take i++[r]) id=some d:=by
   rintro⟨d,ag⟩;refine⟨d,?_⟩;unfold kl at ag ⊢;rw[Cg];exact Ok (Bp _) kC ag
  unfold w1 at h;split at h
  ·exact bz (b_ (by omega) id h)
  ·rename_i l8;rcases Bool.or_eq_true_iff.1 h with h | h
   ·have h:=eq_of_beq h;rcases kC with ⟨aq,_⟩ | ⟨aq,al⟩
    ·exact absurd aq l8
    ·obtain⟨q,a5⟩:=Option.isSome_iff_exists.1 al;have ie:=Bp (an.take i) _ _ a5;unfold kl;have rY:(iG (an.take i)).lookup r.x.aD=some q:=a5;rw[acI l8 rY,wN,if_pos h,h,rY];show ∃ d,lg (kb q r)=some d
     unfold lg;have:(kb q r).bV≠0:=by
      by_cases bY:q.bV=0
      ·have zW:=ie.2.2 bY;generalize q.x=x at zW;subst zW;rcases aq with aq | aq
       ·rw[((Lu (x:=x) (r:=r) (by omega)).1 (Ka aq)).1]; omega
       ·unfold kb;rw[if_pos aq];show (3:Int)≠0
        omega
      ·rw[(Lt (r:=r) (p:=q) (by have:=ie.1; omega)).1]; exact bY
     rw[if_neg this];exact⟨_,rfl⟩
   ·exact bz (b_ (by omega) id h)
theorem Q6(am:jo f)(h:ev f n c k W Q b g):∃ cy,ev f n c k W Q (oL f b).1 cy∧k5 g cy∧((oL f b).2=71∧(oL f b).1.K.down=true∨(oL f b).2=0∧(oL f b).1.K.down=false):=by
 unfold oL;by_cases ag:b.K.down=true
 ·rw[if_pos ag];rcases h.ba with m | d
  ·rw[m.N.up] at ag; cases ag
  ·obtain⟨cO,br,al,o4,aoj,hm⟩:=d.KH;have hD:tX b.K 0=cO:=Kz (by rw[al]; rfl);have aQ:tX b.K 1=br:=Kz (by rw[al]; rfl);have F:∀ x∈g.xs,nN x∧qe x.Kind:=fun x F=>⟨(h.cs.p2 x F).1,(h.cs.p2 x F).2.1⟩
   have Oz:(g.an.map fF).map Gl=g.an:=by
    rw[List.map_map]
    conv=>rhs; rw[← List.map_id g.an]
    exact List.map_congr_left fun r ab=>Yb (ad2 h.cs.na r ab)
   rw[hD,aQ,o4,aoj,Ol F,Oz];simp only[Option.getD_some];have gone:∀ d_,pr d_ (g.xs.map iY) (g.an.map fF)→ev f n c k W Q { b with K:=d_ } g:=fun d_ zI=>⟨⟨h.bQ.ax,h.bQ.rd,h.bQ.src,zI.ok,h.bQ.fit,h.bQ.ids,h.bQ.lS,h.bQ.lG,h.bQ.out⟩,h.cs,.inr zI⟩
   unfold y5;rcases hm with ⟨jY,cn⟩ | ⟨jY,zI⟩
   ·rw[if_neg (fun e=>e jY)];have re:(db (h2 b.K) 0 cO).1.cK[1]?=some br:=by
     have:=(abG (K:=h2 b.K) (n:=0) (g:=cO) ⟨d.ok.len,d.ok.log⟩ rfl (by show b.K.cK[0]?=_; rw[al]; rfl)).2 jY;refine (this.2 1 (by omega)).trans ?_;show b.K.cK[1]?=_
     rw[al]; rfl
    have Z5:=cn.aCv re;generalize db (db (h2 b.K) 0 cO).1 1 br=z at Z5;unfold y6;rcases Z5 with ⟨uv,kB⟩ | ⟨uv,zI⟩
    ·rw[if_neg (fun e=>e uv)];rw[List.length_map,List.length_map] at kB;refine⟨⟨g.xs,g.xs.length,g.an,g.an.length⟩,?_,fun id d ag=>(by show kl (g.an.take g.an.length) id=_; rw[List.take_length]; exact Jp h.cs.na ag),.inr ⟨rfl,?_⟩⟩
     ·have wk:za b.ax b.cv z.1 f g.xs g.an={ E2 b.ax b.cv z.1 f g.xs g.an.length with P:=iG g.an,sure:=g.an.foldl w1 fun _=>false,src:=g.an.foldl uj (oy 0 (qk (us f) g.xs).fA).1 }:=by unfold za; rw[Ls]; rfl
      rw[wk];have tM:=acq h.cs.na h.cs.ours;have sQ:(iG g.an).length≤g.an.length:=by
       have key:∀ (an:List cN) (P:List (Int×bF)),(an.foldl m_ P).length≤P.length+an.length:=by
        intro an;induction an with
        |nil=>intro P; simp
        |cons r an b_=>
         intro P;rw[List.foldl_cons,List.length_cons];have I:=b_ (m_ P r);have O:(m_ P r).length≤P.length+1:=by
          unfold m_;split
          ·simp
          ·split
           ·omega
           ·rw[LQ]; omega
         omega
       have:=key g.an [];unfold iG;simpa using this
      refine⟨⟨h.bQ.ax,h.bQ.rd,aHu _ _ (Hn ⟨by omega,by omega⟩),kB.ok,Y9 (Fit.new am) (fun x F=>by have:=(h.cs.p2 x F).2.2.1; omega),aph (fun x F=>(h.cs.p2 x F).2.2.1) (fun e he=>by cases he),fun id p aF=>(tM id p aF).2,Nat.le_trans sQ h.cs.wO,by show ([]:List p5).length≤_; simp⟩,⟨h.cs.q,h.cs.p2,h.cs.na,h.cs.ours,h.cs.vJ,h.cs.yC,h.cs.wO,Nat.le_refl _,Nat.le_refl _⟩,.inl ⟨kB,rfl,rfl,rfl,fun id=>⟨fun p aF=>⟨p,aF,rfl,rfl,rfl⟩,fun aF=>aF⟩,fun s aG=>(by cases aG),fun id aG=>?_⟩⟩;show ∃ d,kl (g.an.take g.an.length) id=some d
      have:=aeT h.cs.na h.cs.vJ g.an.length (Nat.le_refl _) id;rw[List.take_length] at this ⊢;exact this aG
     ·unfold za;rw[Ls];exact kB.up
    ·rw[if_pos (by rw[uv]; omega)];exact⟨g,gone _ zI,k5.refl g,.inl ⟨uv,zI.off⟩⟩
   ·rw[if_pos (by rw[jY]; omega)];exact⟨g,gone _ zI,k5.refl g,.inl ⟨jY,zI.off⟩⟩
 ·rw[if_neg ag];exact⟨g,h,k5.refl g,.inr ⟨rfl,by simpa using ag⟩⟩
end
def kW(ay:List e9):gx:=fun id=>(ay[(Int.tmod id ay.length).toNat]?).bind fun g=>kl (g.an.take g.l) id
structure gU(Q:cN→Prop)(k:Nat)(o:bv)(ay:List e9):Prop where
 len:o.N.length=ay.length
 pos:0<ay.length∧ay.length≤8
 iJ:o.ek.hA=ay.length
 nodes:∀ (i:Nat) b g,o.N[i]?=some b→ay[i]?=some g→ev o.ek.gA ay.length i k (kW ay) Q b g
 B7:o.aY.nodes=ay.length
 s5:o.aY.m.length≤1000
 aY:∀ x∈o.aY.m,k6 (kW ay) x.o∧(0≤x.fC∧x.fC<ay.length)∧(0≤x.fv∧x.fv<ay.length)
 told:∀ t∈o.told,kW ay t.aD=some (t.og,t.bW)∧o.known t.aD=true
 vq:(o.told.map fun t=>t.aD).Nodup
 w7:o.told.length≤50000*k
 now:0≤o.now∧o.now≤1099511627776
 width:0≤o.ek.ju∧o.ek.ju≤1000
 ey:jo o.ek.gA
 kz:iX o.ek.kT
theorem gU.ok{Q:cN→Prop}{k:Nat}{o:bv}{ay:List e9}(h:gU Q k o ay)(aq:k≤50000):kR o:=
 ⟨by rw[h.len]; exact h.pos,h.s5,fun x F=>(h.aY x F).1.1,fun b a0=>by
  obtain⟨i,aw,rfl⟩:=List.getElem_of_mem a0
  exact (h.nodes i _ (ay[i]'(by rw[← h.len]; exact aw)) (List.getElem?_eq_getElem aw) (List.getElem?_eq_getElem (by rw[← h.len]; exact aw))).bQ.node aq,by have:=h.w7; omega,h.now,h.width,h.ey,h.kz⟩
theorem gU.cK{Q:cN→Prop}{k:Nat}{o:bv}{ay:List e9}(h:gU Q k o ay):∀ b∈o.N,IW b.K:=fun b a0=>by
 obtain⟨i,aw,rfl⟩:=List.getElem_of_mem a0;exact (h.nodes i _ (ay[i]'(by rw[← h.len]; exact aw)) (List.getElem?_eq_getElem aw) (List.getElem?_eq_getElem (by rw[← h.len]; exact aw))).cK
theorem gU.sI{Q:cN→Prop}{k:Nat}{o:bv}{ay:List e9}(h:gU Q k o ay){i:Nat}{b:bi}(a0:o.N[i]?=some b):∃ g,ay[i]?=some g∧ev o.ek.gA ay.length i k (kW ay) Q b g:=by
 have aw:=(List.getElem?_eq_some_iff.1 a0).1;have R:ay[i]?=some (ay[i]'(by rw[← h.len]; exact aw)):=List.getElem?_eq_getElem (by rw[← h.len]; exact aw);exact⟨_,R,h.nodes i b _ a0 R⟩
theorem ajE{ay:List e9}{i:Nat}{g cy:e9}(R:ay[i]?=some g)(h:k5 g cy):gx.le (kW ay) (kW (ay.set i cy)):=by
 intro id d ag;unfold kW at ag ⊢;rw[List.length_set];by_cases e:i=(Int.tmod id ay.length).toNat
 ·subst e;rw[R] at ag;have aw:=(List.getElem?_eq_some_iff.1 R).1;rw[List.getElem?_set_self aw];exact h id d ag
 ·rw[List.getElem?_set_ne e];exact ag
theorem gU.mono{Q:cN→Prop}{k fQ:Nat}{o:bv}{ay:List e9}(h:gU Q k o ay)(aq:k≤fQ):gU Q fQ o ay:=
 ⟨h.len,h.pos,h.iJ,fun i b g a l=>(h.nodes i b g a l).mono (gx.le_refl _) aq,h.B7,h.s5,h.aY,h.told,h.vq,Nat.le_trans h.w7 (Nat.mul_le_mul_left _ aq),h.now,h.width,h.ey,h.kz⟩
def kU(Q:cN→Prop)(k:Nat)(fU:bv)(o:bv)(ay:List e9):Prop:=∃ l0,gU Q k fU l0∧gx.le (kW ay) (kW l0)∧l0.length=ay.length∧fU.ek=o.ek∧(∃ m,fU.told=o.told++m)
theorem gU.kF{Q:cN→Prop}{k:Nat}{o:bv}{ay:List e9}(h:gU Q k o ay){fQ:Nat}(aq:k≤fQ):kU Q fQ o o ay:=⟨ay,h.mono aq,gx.le_refl _,rfl,rfl,[],(List.append_nil _).symm⟩
theorem XW{Q:cN→Prop}{k fQ:Nat}{o:bv}{ay:List e9}(h:gU Q k o ay)(aq:k≤fQ){i:Nat}{g cy:e9}{cC:bi}{vl:Post.dB}(R:ay[i]?=some g)(a0:ev o.ek.gA ay.length i fQ (kW ay) Q cC cy)(kZ:k5 g cy)
  (aK:vl.nodes=o.aY.nodes) (al:vl.m.length≤1000) (hm:∀ x∈vl.m,x∈o.aY.m∨(k6 (kW (ay.set i cy)) x.o∧(0≤x.fC∧x.fC<ay.length)∧(0≤x.fv∧x.fv<ay.length))):kU Q fQ { kK o i cC with aY:=vl } o ay:=by
 have kZ:=ajE R kZ;have aw:=(List.getElem?_eq_some_iff.1 R).1;have g1:(ay.set i cy).length=ay.length:=List.length_set ..;refine⟨ay.set i cy,⟨by show (o.N.set i cC).length=_; rw[List.length_set,g1]; exact h.len,by rw[g1]; exact h.pos,by rw[g1]; exact h.iJ,?_,by rw[g1]; exact aK.trans h.B7,al,?_,fun t aR=>⟨kZ _ _ (h.told t aR).1,(h.told t aR).2⟩,h.vq,Nat.le_trans h.w7 (Nat.mul_le_mul_left _ aq),h.now,h.width,h.ey,h.kz⟩,kZ,g1,rfl,[],(List.append_nil _).symm⟩
 ·intro D eA eN q_ kp;rw[g1];have q_:(o.N.set i cC)[D]?=some eA:=q_;by_cases e:i=D
  ·subst e;rw[List.getElem?_set_self (by rw[h.len]; exact aw)] at q_;rw[List.getElem?_set_self aw] at kp;cases q_; cases kp;exact a0.mono kZ (Nat.le_refl _)
  ·rw[List.getElem?_set_ne e] at q_ kp;exact (h.nodes D eA eN q_ kp).mono kZ aq
 ·intro x F;rw[g1];rcases hm x F with F | F
  ·obtain⟨a,l,c⟩:=h.aY x F;exact⟨a.mono kZ,l,c⟩
  ·exact F
theorem Gi{Q:cN→Prop}{k fQ:Nat}{o:bv}{ay:List e9}(h:gU Q k o ay)(aq:k≤fQ){i:Nat}{g:e9}{cC:bi}(R:ay[i]?=some g)(a0:mN o.ek.gA ay.length i fQ (kW ay) Q cC g):kU Q fQ (kK o i cC) o ay:=by
 obtain⟨cy,I,O⟩:=a0;exact XW (vl:=o.aY) h aq R I O rfl h.s5 fun x F=>.inl F
theorem Jk{Q:cN→Prop}{k:Nat}{o:bv}{ay:List e9}(h:gU Q k o ay){vl:Post.dB}(aK:vl.nodes=o.aY.nodes)(al:vl.m.length≤1000)(hm:∀ x∈vl.m,∃ S∈o.aY.m,x.o=S.o∧x.fC=S.fC∧x.fv=S.fv):gU Q k { o with aY:=vl } ay:=
 ⟨h.len,h.pos,h.iJ,h.nodes,aK.trans h.B7,al,fun x F=>by obtain⟨S,aB,aQ,a6,c_⟩:=hm x F; rw[aQ,a6,c_]; exact h.aY S aB,h.told,h.vq,h.w7,h.now,h.width,h.ey,h.kz⟩
theorem rO{o:bv}{i:Int}(h:fP o i=0):∃ b,0≤i∧o.N[i.toNat]?=some b∧b.K.down=false:=by
 unfold fP at h;split at h
 ·cases h
 ·rename_i b a0;split at a0
  ·cases a0
  ·rename_i ah;refine⟨b,by omega,a0,?_⟩;split at h
   ·cases h
   ·rename_i ag; simpa using ag
theorem Dv{Q:cN→Prop}{k fQ:Nat}{o:bv}{ay:List e9}(h:gU Q k o ay)(aq:k≤fQ){i:Int}{f:bi→bi×Int}(am:∀ b g,0≤i→o.N[i.toNat]?=some b→ay[i.toNat]?=some g→b.K.down=false→ev o.ek.gA ay.length i.toNat k (kW ay) Q b g→mN o.ek.gA ay.length i.toNat fQ (kW ay) Q (f b).1 g):kU Q fQ (m2 o i f).1 o ay:=by
 by_cases Y:fP o i=0
 ·obtain⟨b,ah,a0,ag⟩:=rO Y;rw[pS ah a0 ag];obtain⟨g,R,a4⟩:=h.sI a0;exact Gi h aq R (am b g ah a0 R ag a4)
 ·rw[vp Y];exact h.kF aq
theorem Jl{Q:cN→Prop}{k fQ:Nat}{o:bv}{ay:List e9}(h:gU Q k o ay)(aq:k≤fQ){i:Int}{f:bi→bi×Int}(am:∀ b g,ev o.ek.gA ay.length i.toNat k (kW ay) Q b g→mN o.ek.gA ay.length i.toNat fQ (kW ay) Q (f b).1 g):kU Q fQ (qG o i f).1 o ay:=by
 by_cases U:i<0∨(o.N.length:Int)≤i
 ·rw[CH U];exact h.kF aq
 ·have a0:o.N[i.toNat]?=some (o.N[i.toNat]'(by omega)):=List.getElem?_eq_getElem (by omega);rw[zb (by omega) a0];obtain⟨g,R,a4⟩:=h.sI a0;exact Gi h aq R (am _ g a4)
theorem aGT{aY:Post.dB}{f t:Int}{y:hI}:(aY.send f t y).1.nodes=aY.nodes∧∀ x∈(aY.send f t y).1.m,x∈aY.m∨(x.o=y∧x.fC=f∧x.fv=t∧aY.has f=true∧aY.has t=true):=by
 unfold Post.dB.send;by_cases c:(!aY.has f||!aY.has t)=true
 ·rw[if_pos c]; exact⟨rfl,fun x F=>.inl F⟩
 ·rw[if_neg c];split
  ·exact⟨rfl,fun x F=>.inl F⟩
  ·unfold Post.dB.put;split
   ·exact⟨rfl,fun x F=>.inl F⟩
   ·refine⟨rfl,fun x F=>?_⟩;rcases List.mem_append.1 F with F | F
    ·exact .inl F
    ·rw[List.mem_singleton.1 F];have c:¬ (aY.has f=false∨aY.has t=false):=by simpa using c
     refine .inr ⟨rfl,rfl,rfl,?_,?_⟩
     ·cases e:aY.has f; exact absurd (.inl e) c; rfl
     ·cases e:aY.has t; exact absurd (.inr e) c; rfl
theorem aez{i:Int}:∀ {out:List p5} {aY:Post.dB},(sj aY i out).nodes=aY.nodes∧∀ x∈(sj aY i out).m,x∈aY.m∨∃ s∈out,x.o=s.y∧x.fC=i∧x.fv=s.h1
 |[],aY=>⟨rfl,fun x F=>.inl F⟩
 |s::out,aY=>by
  have I:=aGT (aY:=aY) (f:=i) (t:=s.h1) (y:=s.y);have O:=aez (i:=i) (out:=out) (aY:=(aY.send i s.h1 s.y).1);refine⟨O.1.trans I.1,fun x F=>?_⟩;rcases O.2 x F with F | ⟨fy,yl,e⟩
  ·rcases I.2 x F with F | ⟨aQ,a6,c_,_⟩
   ·exact .inl F
   ·exact .inr ⟨s,List.mem_cons_self ..,aQ,a6,c_⟩
  ·exact .inr ⟨fy,List.mem_cons_of_mem _ yl,e⟩
theorem als{Q:cN→Prop}{k:Nat}{o:bv}{ay:List e9}(h:gU Q k o ay){i:Int}:kU Q k (qz o i).1 o ay:=by
 unfold qz;by_cases Y:fP o i=0
 ·rw[if_neg (fun e=>e Y)];obtain⟨b,ah,a0,ag⟩:=rO Y;rw[pS ah a0 ag,a0];obtain⟨g,R,a4⟩:=h.sI a0;obtain⟨cy,I,O,aH⟩:=Q5 a4 ag;have m:=a4.live ag;have aw:=(List.getElem?_eq_some_iff.1 R).1;rcases aH with ⟨e,_⟩ | ⟨e,_,Gy,Gr,_⟩
  ·rw[if_neg (by rw[e]; omega)];exact Gi h (Nat.le_refl _) R ⟨cy,I,O⟩
  ·rw[if_pos e];have aG:=aez (i:=i) (out:=b.out) (aY:=o.aY);refine XW (vl:=sj o.aY i b.out) h (Nat.le_refl _) R I O aG.1 (Sq h.s5) fun x F=>?_;rcases aG.2 x F with F | ⟨s,yl,aQ,a6,c_⟩
   ·exact .inl F
   ·obtain⟨a,l⟩:=m.outs s yl;rw[aQ,a6,c_];refine .inr ⟨a.mono fun id d ag=>?_,by omega,l⟩;unfold own at ag;split at ag
    ·rename_i U;unfold kW;rw[List.length_set,U,Int.toNat_natCast,List.getElem?_set_self aw];show kl (cy.an.take cy.l) id=some d
     rw[Gy,Gr,List.take_length];exact ag
    ·cases ag
 ·rw[if_pos Y];exact h.kF (Nat.le_refl _)
theorem alk{Q:cN→Prop}{k:Nat}{o:bv}{ay:List e9}(h:gU Q k o ay)(dZ:∀ b∈o.N,C7 Q b)(aq:k≤49000){i:Int}:kU Q (k+2) (pB o i).1 o ay:=by
 unfold pB;by_cases bY:(o.aY.take i).2.2=0
 ·rw[if_neg (fun e=>e bY)];obtain⟨hm,D7⟩:=SG bY;have F:=h.aY _ hm;have a4:gU Q k { o with aY:=(o.aY.take i).1 } ay:=Jk h (by rw[D7]) (by rw[D7]; have:=h.s5; show (o.aY.m.eraseIdx _).length≤_; rw[List.length_eraseIdx]; split<;>omega) fun x F=>⟨x,by rw[D7] at F; exact List.mem_of_mem_eraseIdx F,rfl,rfl,rfl⟩
  have:=Dv (i:=(o.aY.take i).2.1.fv) a4 (Nat.le_add_right k 2) (f:=fun b=>(mU o.N.length b (o.aY.take i).2.1.fC (o.aY.take i).2.1.o,0)) fun b g ah a0 R ag aou=>by
   have:=aCP (dZ b (List.mem_of_getElem? a0)) h.pos.1 aou ag aq F.1 F.2.1;rw[h.len];exact this
  exact this
 ·rw[if_pos bY];exact h.kF (by omega)
theorem alh{Q:cN→Prop}{k:Nat}{o:bv}{ay:List e9}(h:gU Q k o ay){i:Int}:kU Q k (xI o i).1 o ay:=by
 unfold xI;by_cases c:(o.aY.at_ i).2≠0
 ·rw[if_pos c]; exact h.kF (Nat.le_refl _)
 ·rw[if_neg c];have c:=Classical.not_not.1 c;have bD:=o.aY.Jb c;have F:o.aY.m[i.toNat]?=some (o.aY.m[i.toNat]'(by omega)):=List.getElem?_eq_getElem (by omega);rw[o.aY.Ja bD.1 F];refine (Jk h ?_ (acN h.s5) fun x F=>?_).kF (Nat.le_refl _) |> fun ⟨l0,a,l,c,d,e⟩=>⟨l0,a,l,c,d,e⟩
  ·unfold Post.dB.put; split<;>rfl
  ·unfold Post.dB.put at F;split at F
   ·exact⟨x,F,rfl,rfl,rfl⟩
   ·rcases List.mem_append.1 F with F | F
    ·exact⟨x,F,rfl,rfl,rfl⟩
    ·rw[List.mem_singleton.1 F]; exact⟨_,List.getElem_mem _,rfl,rfl,rfl⟩
theorem alm{Q:cN→Prop}{k:Nat}{o:bv}{ay:List e9}(h:gU Q k o ay){i:Int}:kU Q k (B0 o i).1 o ay:=by
 unfold B0;refine (Jk h ?_ ?_ fun x F=>?_).kF (Nat.le_refl _) |> fun ⟨l0,a,l,c,d,e⟩=>⟨l0,a,l,c,d,e⟩
 ·split<;>rfl
 ·have:=h.s5;split
  ·show (o.aY.m.eraseIdx _).length≤_; rw[List.length_eraseIdx]; split<;>omega
  ·exact this
 ·refine⟨x,?_,rfl,rfl,rfl⟩;split at F
  ·exact List.mem_of_mem_eraseIdx F
  ·exact F
theorem alj{Q:cN→Prop}{k:Nat}{o:bv}{ay:List e9}(h:gU Q k o ay){i:Int}{q:Bool}:kU Q k (nS o i q).1 o ay:=by
 unfold nS;split
 ·exact h.kF (Nat.le_refl _)
 ·refine (Jk h ?_ ?_ fun x F=>?_).kF (Nat.le_refl _) |> fun ⟨l0,a,l,c,d,e⟩=>⟨l0,a,l,c,d,e⟩
  ·split<;>rfl
  ·have:=h.s5; split<;>exact this
  ·refine⟨x,?_,rfl,rfl,rfl⟩;split at F<;>exact F
abbrev kQ:=gU fun _=>True
abbrev zp:=kU fun _=>True
section
variable {Q:cN→Prop} {k:Nat} {o:bv} {ay:List e9}
theorem alp(h:gU Q k o ay)(aq:k≤49000){a y:Int}(hm:-9223372036854775808≤y∧y≤9223372036854775807):kU Q (k+2) (vr o a y).1 o ay:=by
 unfold vr;split
 ·exact h.kF (by omega)
 ·rename_i c;exact Dv h (by omega) fun b g ah a0 R ag a4=>(aCW a4 ag aq (by omega) hm).mono (by omega)
theorem aln(h:gU Q k o ay)(dZ:∀ r:cN,r.k≠2→Q r)(aq:k≤49000){x:om}:kU Q (k+2) (pQ o x).1 o ay:=by
 unfold pQ;split
 ·exact h.kF (by omega)
 ·rename_i c;refine Dv h (by omega) fun b g ah a0 R ag a4=>?_;rw[h.len] at a4 ah ⊢;exact (aCT dZ h.pos.1 a4 ag aq (Classical.not_not.1 c) (by omega)).mono (by omega)
theorem ald(h:gU Q k o ay)(dZ:∀ r:cN,r.k≠2→Q r)(aq:k≤49000){id:Int}:kU Q (k+2) (xA o id).1 o ay:=by
 unfold xA;split
 ·exact h.kF (by omega)
 ·refine Dv h (by omega) fun b g ah a0 R ag a4=>?_;rw[h.len] at a4 ah ⊢;exact (aCL dZ h.pos.1 a4 ag aq).mono (by omega)
theorem alo(h:gU Q k o ay)(aq:k≤49000){i:Int}:kU Q (k+2) (t_ o i).1 o ay:=by
 unfold t_;refine Dv h (by omega) fun b g ah a0 R ag a4=>?_;rw[h.len];exact ((aCV h.pos.1 a4 ag aq).k0).mono (by omega)
theorem alr(h:gU Q k o ay)(aq:k≤49000){i t:Int}(aR:-9223372036854775808≤t∧t≤9223372036854775807):kU Q (k+2) (EG o i t).1 o ay:=
 Dv h (by omega) fun b g ah a0 R ag a4=>(aCY a4 ag aq aR).mono (by omega)
theorem alg(h:gU Q k o ay)(aq:k≤49000){i:Int}:kU Q (k+2) (mA o i).1 o ay:=by
 unfold mA;by_cases Y:fP o i=0
 ·rw[if_neg (fun e=>e Y)];obtain⟨b,ah,a0,ag⟩:=rO Y;rw[a0];obtain⟨g,R,a4⟩:=h.sI a0;exact Gi h (by omega) R ((aCO a4 ag aq).mono (by omega))
 ·rw[if_pos Y];exact h.kF (by omega)
theorem alf(h:gU Q k o ay){i off:Int}:kU Q k (EP o i off).1 o ay:=
 Jl h (Nat.le_refl _) fun b g a4=>(aCZ a4).k0
theorem ale(h:gU Q k o ay){i a:Int}{bz:List Int}:kU Q k (pz o i a bz).1 o ay:=
 Jl h (Nat.le_refl _) fun b g a4=>(aCN a4).k0
theorem ali(h:gU Q k o ay){i:Int}{bz:List Int}:kU Q k (wi o i bz).1 o ay:=
 Jl h (Nat.le_refl _) fun b g a4=>aCQ a4
theorem alu(h:gU Q k o ay){i:Int}:kU Q k (nJ o i).1 o ay:=
 Jl h (Nat.le_refl _) fun b g a4=>by
  obtain⟨cy,a,l,_⟩:=Q6 h.ey a4;exact⟨cy,a,l⟩
theorem alq(h:gU Q k o ay){d:Int}{xs:List Int}:kU Q (k+2) (wX o d xs).1 o ay:=by
 unfold wX;split
 ·exact h.kF (by omega)
 ·rename_i c;have aK:=h.now;have hm:=GB (n:=d) (by omega) (by omega) (Pk h.kz).2;refine⟨ay,⟨(List.length_mapIdx ..).trans h.len,h.pos,h.iJ,fun i b g a0 R=>?_,h.B7,h.s5,h.aY,h.told,h.vq,Nat.le_trans h.w7 (Nat.mul_le_mul_left _ (by omega)),⟨by show 0≤o.now+d; omega,by show o.now+d≤_; omega⟩,h.width,h.ey,h.kz⟩,gx.le_refl _,rfl,rfl,[],(List.append_nil _).symm⟩;have a0:(o.N.mapIdx (vs d (j5 d (nV o.ek.kT)) xs))[i]?=some b:=a0;rw[List.getElem?_mapIdx] at a0;cases kB:o.N[i]? with
  |none=>rw[kB] at a0; cases a0
  |some FZ=>
   rw[kB] at a0;cases a0;exact (aCX (h.nodes i FZ g kB R) (by omega) hm).mono (gx.le_refl _) (by omega)
structure tx(ay:List e9)(o:bv)(s:ki):Prop where
 ax:iT s.ax
 told:∀ t∈s.told,kW ay t.aD=some (t.og,t.bW)∧s.known t.aD=true
 vq:(s.told.map fun t=>t.aD).Nodup
 more:∃ m,s.told=o.told++m
theorem tx.hx{s:ki}{id:Int}{p:bF}(h:tx ay o s)(aq:s.known id=false)(aG:kW ay id=some (p.bV,p.at_)):tx ay o (s.hx id p):=by
 refine⟨h.ax,fun t aR=>?_,?_,?_⟩
 ·rcases List.mem_append.1 aR with aR | aR
  ·have:=h.told t aR;exact⟨this.1,by show (t.aD==id||s.known t.aD)=true; rw[this.2]; simp⟩
  ·rw[List.mem_singleton.1 aR];exact⟨aG,by show (id==id||s.known id)=true; simp⟩
 ·show ((s.told++[(⟨id,p.bV,p.at_⟩:Told)]).map fun t=>t.aD).Nodup
  rw[List.map_append,List.nodup_append];refine⟨h.vq,by simp,fun a Y l ao=>?_⟩;obtain⟨t,aR,rfl⟩:=List.mem_map.1 Y;have ao:l=id:=by simpa using ao
  subst ao;intro e;have:=(h.told t aR).2;rw[e,aq] at this;cases this
 ·obtain⟨m,al⟩:=h.more;exact⟨m++[⟨id,p.bV,p.at_⟩],by show s.told++_=_; rw[al,List.append_assoc]⟩
theorem aGP{f n k:Nat}{i:Nat}{W:gx}{Q:cN→Prop}{b:bi}{g:e9}(wq:ay.length=n)(R:ay[i]?=some g)(a4:ev f n i k W Q b g)(ag:b.K.down=false){id:Int}{p:bF}(al:b.P.lookup id=some p)(aG:b.sure id=true):kW ay id=some (p.bV,p.at_):=by
 have m:=a4.live ag;obtain⟨q,a5,he,ie,U,_⟩:=m.pl a4.cs al;obtain⟨d,wu⟩:=m.sure id aG;have I:=Jp a4.cs.na wu;unfold kW;rw[wq,U,Int.toNat_natCast,R];show kl (g.an.take g.l) id=_
 rw[wu];unfold kl at I;rw[a5] at I;have I:lg q=some d:=I;unfold lg at I;split at I
 ·cases I
 ·cases I;rw[he.2.1,he.2.2]
theorem tx.step{f n k:Nat}{i:Nat}{W:gx}{Q:cN→Prop}{b:bi}{g:e9}{s:ki}{id:Int}(h:tx ay o s)(wq:ay.length=n)(R:ay[i]?=some g)(a4:ev f n i k W Q b g)(ag:b.K.down=false):tx ay o (rA b s id):=by
 unfold rA;cases al:b.P.lookup id with
 |none=>exact h
 |some p=>
  unfold oK;simp only;split
  ·exact h
  ·rename_i c;have aq:s.known id=false:=by
    cases e:s.known id
    ·rfl
    ·rw[e] at c; simp at c
   have aG:b.sure id=true:=by
    cases e:b.sure id
    ·rw[e] at c; simp at c
    ·rfl
   have aae:=aGP wq R a4 ag al aG;have O:tx ay o { s with ax:=(e3 s.ax b.cv).1 }:=⟨(h.ax.now _).1,h.told,h.vq,h.more⟩
   split
   ·split
    ·exact O
    ·exact O.hx aq aae
   ·exact h.hx aq aae
theorem tx.all{f n k:Nat}{i:Nat}{W:gx}{Q:cN→Prop}{b:bi}{g:e9}(wq:ay.length=n)(R:ay[i]?=some g)(a4:ev f n i k W Q b g)(ag:b.K.down=false):∀ (ids:List Int) (s:ki),tx ay o s→tx ay o (lo b s ids)
 |[],s,h=>h
 |id::ids,s,h=>tx.all wq R a4 ag ids (rA b s id) (h.step wq R a4 ag)
theorem alt(h:gU Q k o ay)(aq:k≤49000){i:Int}:kU Q (k+2) (te o i).1 o ay:=by
 unfold te;by_cases Y:fP o i=0
 ·rw[if_neg (fun e=>e Y)];obtain⟨b,ah,a0,ag⟩:=rO Y;rw[a0];obtain⟨g,R,a4⟩:=h.sI a0;have t:=tx.all (o:=o) rfl R a4 ag (eS b.P) ⟨b.ax,o.known,o.told⟩ ⟨a4.bQ.ax,h.told,h.vq,[],(List.append_nil _).symm⟩;have g1:=(SJ (b:=b) (eS b.P) ⟨b.ax,o.known,o.told⟩ a4.bQ.ax).2;have sV:(eS b.P).length=b.P.length:=by unfold eS; rw[(n_ _).length_eq,List.length_map]
  have sQ:=a4.bQ.lG;have ym:=h.w7;simp only at g1;show kU Q (k+2) (SI o i.toNat b (lo b ⟨b.ax,o.known,o.told⟩ (eS b.P))) o ay
  generalize lo b ⟨b.ax,o.known,o.told⟩ (eS b.P)=s at t g1;obtain⟨l0,a,l,c,d,e⟩:=Gi (fQ:=k+2) h (by omega) R (((wS a4 t.ax a4.bQ.src).k0).mono (by omega));exact⟨l0,⟨a.len,a.pos,a.iJ,a.nodes,a.B7,a.s5,a.aY,fun x F=>⟨l _ _ (t.told x F).1,(t.told x F).2⟩,t.vq,by show s.told.length≤_; omega,a.now,a.width,a.ey,a.kz⟩,l,c,d,t.more⟩
 ·rw[if_pos Y];exact h.kF (by omega)
end
theorem aCU{c:rF}(ok:p3 c){n i:Nat}{W:gx}{Q:cN→Prop}:ev c.gA n i 0 W Q (yI c) ⟨[],0,[],0⟩:=by
 have kB:Live ni [] 0 [] 0:=⟨Mf,rfl,rfl,Nat.le_refl _,Nat.le_refl _,fun x F=>(by cases F),fun x F=>(by cases F)⟩
 refine⟨⟨(XX ok.kz).set 0 1000 c.ju,(by show -(4194304*((0:Nat):Int))≤0∧(0:Int)≤_; omega),Hn ⟨by omega,by omega⟩,Mf,Fit.new ok.ey,fun e he=>(by cases he),fun id p aF=>(by cases aF),Nat.le_refl _,Nat.le_refl _⟩,⟨fun r ab=>(by cases ab),fun x F=>(by cases F),fun i r ab=>(by simp at ab),fun r ab=>(by cases ab),fun r ab=>(by cases ab),Nat.le_refl _,Nat.le_refl _,Nat.le_refl _,Nat.le_refl _⟩,.inl ⟨kB,rfl,rfl,rfl,fun id=>⟨fun p aF=>(by cases aF),fun _=>rfl⟩,fun s aG=>(by cases aG),fun id aG=>(by cases aG)⟩⟩
theorem Du{Q:cN→Prop}{c:rF}(ok:p3 c):gU Q 0 (lO c) (List.replicate c.hA.toNat ⟨[],0,[],0⟩):=by
 have aK:=ok.n;refine⟨(by show (List.replicate c.hA.toNat (yI c)).length=_; simp),(by rw[List.length_replicate]; omega),(by rw[List.length_replicate]; show c.hA=_; omega),fun i b g a0 R=>?_,?_,(by show ([]:List Nat).length≤_; simp),fun x F=>(by cases F),fun t aR=>(by cases aR),(by show ([]:List Int).Nodup; simp),(by show ([]:List Told).length≤_; simp),⟨(by show (0:Int)≤1000; omega),(by show (1000:Int)≤_; omega)⟩,ok.width,ok.ey,ok.kz⟩
 ·have a0:=(List.mem_replicate.1 (List.mem_of_getElem? a0)).2;have R:=(List.mem_replicate.1 (List.mem_of_getElem? R)).2;subst a0; subst R;exact aCU ok
 ·rw[List.length_replicate];show c.hA=_
  omega
abbrev qK:=oi
abbrev kX:=hK
structure aL where
 x:qK
 N:List Int
 aa:List Int
def o3(a:aL):aL:=⟨a.x,a.N.take 10,a.aa.take 4⟩
def gk(o:bv)(a:aL):bv×Int:=
 if a.x.Kind=0 then wX o a.x.b a.N
 else if a.x.Kind=1 then vr o a.x.aN a.x.b
 else if a.x.Kind=2 then pQ o a.x.b6
 else if a.x.Kind=3 then qz o a.x.aN
 else if a.x.Kind=4 then pB o a.x.aN
 else if a.x.Kind=5 then xI o a.x.aN
 else if a.x.Kind=6 then B0 o a.x.aN
 else if a.x.Kind=7 then nS o a.x.aN (bits .and .i64 a.x.aS 1==1)
 else if a.x.Kind=8 then pz o a.x.aN a.x.aS a.aa
 else if a.x.Kind=9 then wi o a.x.aN a.aa
 else if a.x.Kind=10 then ((nJ o a.x.aN).1,max (nJ o a.x.aN).2 0)
 else if a.x.Kind=11 then t_ o a.x.aN
 else if a.x.Kind=12 then te o a.x.aN
 else if a.x.Kind=13 then ((mA o a.x.aN).1,(mA o a.x.aN).2.2)
 else if a.x.Kind=14 then EG o a.x.aN a.x.b
 else if a.x.Kind=15 then EP o a.x.aN a.x.b
 else if a.x.Kind=16 then xA o a.x.aN
 else (o,0)
structure tk(x:qK):Prop where
 n:-9223372036854775808≤x.b∧x.b≤9223372036854775807
theorem XV{Q:cN→Prop}{k:Nat}{o:bv}{ay:List e9}(h:gU Q k o ay)(dZ:∀ b∈o.N,C7 Q b)(aq:k≤49000){a:aL}(ok:tk a.x):kU Q (k+2) (gk o a).1 o ay:=by
 have ZA:∀ r:cN,r.k≠2→Q r:=(dZ (o.N[0]'(by have:=h.len; have:=h.pos; omega)) (List.getElem_mem _)).one;have up:∀ {fU},kU Q k fU o ay→kU Q (k+2) fU o ay:=fun ⟨l0,a,l,c⟩=>⟨l0,a.mono (by omega),l,c⟩
 unfold gk;by_cases c:a.x.Kind=0
 ·rw[if_pos c]; exact alq h
 rw[if_neg c]; clear c;by_cases c:a.x.Kind=1
 ·rw[if_pos c]; exact alp h aq ok.n
 rw[if_neg c]; clear c;by_cases c:a.x.Kind=2
 ·rw[if_pos c]; exact aln h ZA aq
 rw[if_neg c]; clear c;by_cases c:a.x.Kind=3
 ·rw[if_pos c]; exact up (als h)
 rw[if_neg c]; clear c;by_cases c:a.x.Kind=4
 ·rw[if_pos c]; exact alk h dZ aq
 rw[if_neg c]; clear c;by_cases c:a.x.Kind=5
 ·rw[if_pos c]; exact up (alh h)
 rw[if_neg c]; clear c;by_cases c:a.x.Kind=6
 ·rw[if_pos c]; exact up (alm h)
 rw[if_neg c]; clear c;by_cases c:a.x.Kind=7
 ·rw[if_pos c]; exact up (alj h)
 rw[if_neg c]; clear c;by_cases c:a.x.Kind=8
 ·rw[if_pos c]; exact up (ale h)
 rw[if_neg c]; clear c;by_cases c:a.x.Kind=9
 ·rw[if_pos c]; exact up (ali h)
 rw[if_neg c]; clear c;by_cases c:a.x.Kind=10
 ·rw[if_pos c]; exact up (alu h)
 rw[if_neg c]; clear c;by_cases c:a.x.Kind=11
 ·rw[if_pos c]; exact alo h aq
 rw[if_neg c]; clear c;by_cases c:a.x.Kind=12
 ·rw[if_pos c]; exact alt h aq
 rw[if_neg c]; clear c;by_cases c:a.x.Kind=13
 ·rw[if_pos c]; exact alg h aq
 rw[if_neg c]; clear c;by_cases c:a.x.Kind=14
 ·rw[if_pos c]; exact alr h aq ok.n
 rw[if_neg c]; clear c;by_cases c:a.x.Kind=15
 ·rw[if_pos c]; exact up (alf h)
 rw[if_neg c]; clear c;by_cases c:a.x.Kind=16
 ·rw[if_pos c]; exact ald h ZA aq
 rw[if_neg c];exact h.kF (by omega)
theorem aFi(b:bi):C7 (fun _=>True) b:=⟨fun _ _=>trivial,fun _ _ _=>trivial⟩
theorem Og{k:Nat}{o:bv}{ay:List e9}(h:kQ k o ay)(aq:k≤49000){a:aL}(ok:tk a.x):zp (k+2) (gk o a).1 o ay:=XV h (fun b _=>aFi b) aq ok
section
variable {A w:World} {m bL:List bu}
theorem OP{x:qK}{N aa:List Int}(kB:x.N.len≤x.N.cap)(b2:x.gz.len≤x.gz.cap)(df:bX m (cT (B .i64) x.N N))(dT:bX m (cT (B .i64) x.gz aa))(H:E A m w) :
  M Pg 13 [kX.enc x] kX w fun r J=>∃ s1 s2,r={ x with N:=s1,gz:=s2 }∧E A (ro (B .i64) s1 (N.take 10)::ro (B .i64) s2 (aa.take 4)::m) J:=by
 have aQ:=df.len H;have a6:=dT.len H;refine agC ?_;unfold TY;refine bH H fun dX dz H=>?_;refine bH H fun iz cm H=>?_;refine aj (x:=x.N) 1 H rfl rfl rfl ?_;have bI:∀ (s1:af) (w:World),E A (aI dX (kX.cells { x with N:=s1 }) 35::aI iz (kX.cells Ba) 35::ro (B .i64) s1 (N.take 10)::m) w →
   Fi ⟨dX,0,none⟩ ⟨iz,0,none⟩ w fun r J=>∃ s1 s2,r={ x with N:=s1,gz:=s2 }∧E A (ro (B .i64) s1 (N.take 10)::ro (B .i64) s2 (aa.take 4)::m) J:=by
  intro s1 w H;have u6:∀ (s2:af) (w:World),E A (aI dX (kX.cells { x with N:=s1,gz:=s2 }) 35::aI iz (kX.cells Ba) 35::ro (B .i64) s1 (N.take 10)::ro (B .i64) s2 (aa.take 4)::m) w →
    Fj ⟨dX,0,none⟩ ⟨iz,0,none⟩ w fun r J=>∃ s1 s2,r={ x with N:=s1,gz:=s2 }∧E A (ro (B .i64) s1 (N.take 10)::ro (B .i64) s2 (aa.take 4)::m) J:=by
   intro s2 w H;unfold Fj;refine ec (x:=({ x with N:=s1,gz:=s2 }:qK)) 0 H rfl ?_;refine cV (x:=Ba) (S:=({ x with N:=s1,gz:=s2 }:qK)) QM 1 H rfl fun bh H=>?_;refine ec (x:=({ x with N:=s1,gz:=s2 }:qK)) 0 H rfl ?_;exact⟨s1,s2,rfl,H.drop.drop⟩
  unfold Fi;refine aj (x:=x.gz) 0 H rfl rfl rfl ?_;rw[a6];split
  ·rename_i U;have U:4<aa.length:=by simp at U; omega
   refine aj (x:=x.gz) 0 H rfl rfl rfl ?_;refine oa (by omega) (by omega) (by omega) (by omega) fun s2 aG=>?_;have gI:=dT.sub (fun _=>rfl) aG (by omega);simp only[show ((4:Int)).toNat=4 from rfl,show ((0:Int)).toNat=0 from rfl,List.drop_zero] at gI;refine dx (x:=s2) 0 H rfl rfl (Nat.le_of_ble_eq_true rfl) fun bh H=>?_;have H:=E.ro gI.tail.tail.tail H;exact u6 s2 _ (H.ord [1,2,3,0])
  ·rename_i U;have U:aa.length≤4:=by simp at U; omega
   have e:aa.take 4=aa:=List.take_of_length_le U;have H:=E.ro dT.tail.tail.tail H;rw[← e] at H;exact u6 x.gz _ (H.ord [1,2,3,0])
 rw[aQ];split
 ·rename_i U;have U:10<N.length:=by simp at U; omega
  refine aj (x:=x.N) 1 H rfl rfl rfl ?_;refine oa (by omega) (by omega) (by omega) (by omega) fun s1 aG=>?_;have gI:=df.sub (fun _=>rfl) aG (by omega);simp only[show ((10:Int)).toNat=10 from rfl,show ((0:Int)).toNat=0 from rfl,List.drop_zero] at gI;refine dx (x:=s1) 1 H rfl rfl (Nat.le_of_ble_eq_true rfl) fun bh H=>?_;have H:=E.ro gI.tail.tail H;exact bI s1 _ (H.ord [1,2,0])
 ·rename_i U;have U:N.length≤10:=by simp at U; omega
  have e:N.take 10=N:=List.take_of_length_le U;have H:=E.ro df.tail.tail H;rw[← e] at H;exact bI x.N _ (H.ord [2,1,0])
theorem Js{au:Nat}{o:bv}{x:qK}{N aa:List Int}(k:kR o)(PD:∀ b∈o.N,IW b.K)(ok:tk x)(df:dc 1 m (B .i64) x.N N)(dT:dc 1 m (B .i64) x.gz aa)(kB:N.length≤1000)(b2:aa.length≤1000)(H:E A (b8 au o::m) w) :
  M Pg 14 [.pointer (some ⟨au,0,none⟩),kX.enc x] (B .i64) w fun r J=>r=(gk o ⟨x,N,aa⟩).2∧E A (b8 au (gk o ⟨x,N,aa⟩).1::m) J:=by
 refine agM ?_;unfold T8 gk;simp only;refine bH H fun l w H=>?_;have gC:dc 1 (aI l (kX.cells x) 35::m) (B .i64) x.N N:=df.tail;have f_:dc 1 (aI l (kX.cells x) 35::m) (B .i64) x.gz aa:=dT.tail;have fin:∀ {r:Int} {w:World} {z:bv×Int},(r=z.2∧E A (b8 au z.1::aI l (kX.cells x) 35::m) w)→r=z.2∧E A (b8 au z.1::m) w:=fun h=>⟨h.1,(h.2.front 1).drop⟩
 refine aj (x:=x.Kind) 0 H rfl rfl rfl ?_;by_cases c:x.Kind=0
 ·rw[if_pos (by simpa using c),if_pos c];refine aj (x:=x.b) 0 H rfl rfl rfl ?_;refine aj (x:=x.N) 0 H rfl rfl rfl ?_;exact ap (acw k gC (by omega) (H.front 1)) fun r w h=>fin h
 rw[if_neg (by simpa using c),if_neg c]; clear c;by_cases c:x.Kind=1
 ·rw[if_pos (by simpa using c),if_pos c];refine aj (x:=x.aN) 0 H rfl rfl rfl ?_;refine aj (x:=x.b) 0 H rfl rfl rfl ?_;exact ap (Ro k ok.n (H.front 1)) fun r w h=>fin h
 rw[if_neg (by simpa using c),if_neg c]; clear c;by_cases c:x.Kind=2
 ·rw[if_pos (by simpa using c),if_pos c];refine aj (x:=x.b6) 0 H rfl rfl rfl ?_;exact ap (abI k (H.front 1)) fun r w h=>fin h
 rw[if_neg (by simpa using c),if_neg c]; clear c;by_cases c:x.Kind=3
 ·rw[if_pos (by simpa using c),if_pos c];refine aj (x:=x.aN) 0 H rfl rfl rfl ?_;exact ap (SB k (H.front 1)) fun r w h=>fin h
 rw[if_neg (by simpa using c),if_neg c]; clear c;by_cases c:x.Kind=4
 ·rw[if_pos (by simpa using c),if_pos c];refine aj (x:=x.aN) 0 H rfl rfl rfl ?_;exact ap (On k (H.front 1)) fun r w h=>fin h
 rw[if_neg (by simpa using c),if_neg c]; clear c;by_cases c:x.Kind=5
 ·rw[if_pos (by simpa using c),if_pos c];refine aj (x:=x.aN) 0 H rfl rfl rfl ?_;exact ap (alW k (H.front 1)) fun r w h=>fin h
 rw[if_neg (by simpa using c),if_neg c]; clear c;by_cases c:x.Kind=6
 ·rw[if_pos (by simpa using c),if_pos c];refine aj (x:=x.aN) 0 H rfl rfl rfl ?_;exact ap (aCh k (H.front 1)) fun r w h=>fin h
 rw[if_neg (by simpa using c),if_neg c]; clear c;by_cases c:x.Kind=7
 ·rw[if_pos (by simpa using c),if_pos c];refine aj (x:=x.aN) 0 H rfl rfl rfl ?_;refine aj (x:=x.aS) 0 H rfl rfl rfl ?_;exact ap (X3 k (H.front 1)) fun r w h=>fin h
 rw[if_neg (by simpa using c),if_neg c]; clear c;by_cases c:x.Kind=8
 ·rw[if_pos (by simpa using c),if_pos c];refine aj (x:=x.aN) 0 H rfl rfl rfl ?_;refine aj (x:=x.aS) 0 H rfl rfl rfl ?_;refine aj (x:=x.gz) 0 H rfl rfl rfl ?_;exact ap (Xu k f_ (by omega) (H.front 1)) fun r w h=>fin h
 rw[if_neg (by simpa using c),if_neg c]; clear c;by_cases c:x.Kind=9
 ·rw[if_pos (by simpa using c),if_pos c];refine aj (x:=x.aN) 0 H rfl rfl rfl ?_;refine aj (x:=x.gz) 0 H rfl rfl rfl ?_;exact ap (alY k f_ (H.front 1)) fun r w h=>fin h
 rw[if_neg (by simpa using c),if_neg c]; clear c;by_cases c:x.Kind=10
 ·rw[if_pos (by simpa using c),if_pos c];refine aj (x:=x.aN) 0 H rfl rfl rfl ?_;exact ap (afk k PD (H.front 1)) fun r w h=>fin (z:=((nJ o x.aN).1,max (nJ o x.aN).2 0)) h
 rw[if_neg (by simpa using c),if_neg c]; clear c;by_cases c:x.Kind=11
 ·rw[if_pos (by simpa using c),if_pos c];refine aj (x:=x.aN) 0 H rfl rfl rfl ?_;exact ap (abR k (H.front 1)) fun r w h=>fin h
 rw[if_neg (by simpa using c),if_neg c]; clear c;by_cases c:x.Kind=12
 ·rw[if_pos (by simpa using c),if_pos c];refine aj (x:=x.aN) 0 H rfl rfl rfl ?_;exact ap (ae4 k (H.front 1)) fun r w h=>fin h
 rw[if_neg (by simpa using c),if_neg c]; clear c;by_cases c:x.Kind=13
 ·rw[if_pos (by simpa using c),if_pos c];refine aj (x:=x.aN) 0 H rfl rfl rfl ?_;exact ap (XZ k (H.front 1)) fun r w h=>fin (z:=((mA o x.aN).1,(mA o x.aN).2.2)) ⟨congrArg Prod.snd h.1,h.2⟩
 rw[if_neg (by simpa using c),if_neg c]; clear c;by_cases c:x.Kind=14
 ·rw[if_pos (by simpa using c),if_pos c];refine aj (x:=x.aN) 0 H rfl rfl rfl ?_;refine aj (x:=x.b) 0 H rfl rfl rfl ?_;exact ap (aEP k ok.n (H.front 1)) fun r w h=>fin h
 rw[if_neg (by simpa using c),if_neg c]; clear c;by_cases c:x.Kind=15
 ·rw[if_pos (by simpa using c),if_pos c];refine aj (x:=x.aN) 0 H rfl rfl rfl ?_;refine aj (x:=x.b) 0 H rfl rfl rfl ?_;exact ap (aGY k (H.front 1)) fun r w h=>fin h
 rw[if_neg (by simpa using c),if_neg c]; clear c;by_cases c:x.Kind=16
 ·rw[if_pos (by simpa using c),if_pos c];refine aj (x:=x.aN) 0 H rfl rfl rfl ?_;exact ap (ajX k (H.front 1)) fun r w h=>fin h
 rw[if_neg (by simpa using c),if_neg c];exact⟨rfl,H.drop⟩
end
def Calm(K:cJ):Prop:=K.ea=0∧K.down=false
structure Rest(o:bv)(D:Nat):Prop where
 calm:∀ i b,i<D→o.N[i]?=some b→Calm b.K
 on:∀ i:Int,0≤i→i<D→o.aY.off i=false
theorem Rest.aY{o:bv}{D:Nat}(h:Rest o D){t:Post.dB}(aR:t.off=o.aY.off):Rest { o with aY:=t } D:=⟨h.calm,fun i a l=>by show t.off i=false; rw[aR]; exact h.on i a l⟩
def la(k i:Int):aL:=⟨⟨k,i,0,0,⟨0,0,0,0⟩,fx,fx⟩,[],[]⟩
theorem Yn(o:bv)(i:Int):gk o (la 3 i)=qz o i:=by unfold gk; rfl
theorem Yl(o:bv)(i:Int):gk o (la 4 i)=pB o i:=by unfold gk; rfl
def ql(o:bv)(cf:List aL):bv:=cf.foldl (fun o a=>(gk o a).1) o
theorem Rx(o:bv)(cf:List aL)(a:aL):ql o (cf++[a])=(gk (ql o cf) a).1:=by unfold ql; rw[List.foldl_append]; rfl
def qL(cf:List aL):Prop:=∀ a∈cf,tk a.x
theorem qL.snoc{cf:List aL}{a:aL}(h:qL cf)(Y:tk a.x):qL (cf++[a]):=fun l ao=>by
 rcases List.mem_append.1 ao with ao | ao
 ·exact h l ao
 ·rw[List.mem_singleton.1 ao]; exact Y
theorem qL.l4{cf av:List aL}(h:qL cf)(fp:qL av):qL (cf++av):=fun l ao=>by
 rcases List.mem_append.1 ao with ao | ao
 ·exact h l ao
 ·exact fp l ao
theorem zp.trans{df dT:Nat}{o kx NK:bv}{ay:List e9}(h:zp df kx o ay)(f:∀ k4,k4.length=ay.length→kQ df kx k4→zp dT NK kx k4):zp dT NK o ay:=by
 obtain⟨k4,a,l,c,d,m,e⟩:=h;obtain⟨vV,aX,dX,bB,d2,cL,a6⟩:=f k4 c a;exact⟨vV,aX,gx.le_trans l dX,bB.trans c,d2.trans d,m++cL,by rw[a6,e,List.append_assoc]⟩
theorem Bk:∀ {cf:List aL} {k:Nat} {o:bv} {ay:List e9},kQ k o ay→qL cf→k+2*cf.length≤49000→zp (k+2*cf.length) (ql o cf) o ay
 |[],k,o,ay,h,_,_=>h.kF (Nat.le_refl _)
 |a::cf,k,o,ay,h,ok,aq=>by
  rw[List.length_cons] at aq ⊢;refine zp.trans (Og h (by omega) (ok a (List.mem_cons_self ..))) fun k4 al I=>?_;have:=Bk (cf:=cf) I (fun l ao=>ok l (List.mem_cons_of_mem _ ao)) (by omega);rw[show k+2*(cf.length+1)=k+2+2*cf.length from by omega];exact this
def kA(cf:List aL):List aL:=cf.map o3
theorem JD{cf:List aL}(h:qL cf):qL (kA cf):=fun l ao=>by
 obtain⟨a,Y,rfl⟩:=List.mem_map.1 ao;exact h a Y
def uy(s:af)(cf:List aL)(aV:ch):Prop:=cT kX s (cf.map (·.x)) aV∧∀ p∈cf,(p.x.N.len≤p.x.N.cap∧cT (B .i64) p.x.N p.N aV)∧p.x.gz.len≤p.x.gz.cap∧cT (B .i64) p.x.gz p.aa aV
theorem uy.mono{s:af}{cf:List aL}{aV g5:ch}(h:ch.le aV g5):uy s cf aV→uy s cf g5:=fun ⟨I,O⟩=>⟨cT.mono h I,fun p aF=>⟨⟨(O p aF).1.1,cT.mono h (O p aF).1.2⟩,(O p aF).2.1,cT.mono h (O p aF).2.2⟩⟩
theorem aby{P:qK→aL→Prop}:∀ {xs:List qK},(∀ x∈xs,∃ S:aL,S.x=x∧P x S)→∃ eB:List aL,eB.map (·.x)=xs∧∀ p∈eB,P p.x p
 |[],_=>⟨[],rfl,fun p h=>by cases h⟩
 |x::xs,h=>by
  obtain⟨S,aB,aF⟩:=h x (List.mem_cons_self ..);obtain⟨eB,I,O⟩:=aby fun x F=>h x (List.mem_cons_of_mem _ F);refine⟨S::eB,by rw[List.map_cons,I,aB],fun p a5=>?_⟩;rcases List.mem_cons.1 a5 with rfl | a5
  ·rw[aB]; exact aF
  ·exact O p a5
theorem Xq{A:World}{x:qK}(g:FV A x):∃ S:aL,S.x=x∧tk x∧(x.N.len≤x.N.cap∧cT (B .i64) x.N S.N fun l=>A.heap[l]?)∧x.gz.len≤x.gz.cap∧cT (B .i64) x.gz S.aa fun l=>A.heap[l]?:=by
 obtain⟨_,_,_,an5,_,⟨bm,xs,_,gJ⟩,⟨bB,gF,_,bs⟩⟩:=g;exact⟨⟨x,xs,gF⟩,rfl,⟨an5⟩,⟨bm.1,gJ⟩,bB.1,bs⟩
theorem F8{A:World}{s:af}(g:tn A s):∃ cf,qL cf∧uy s cf fun l=>A.heap[l]?:=by
 obtain⟨_,xs,I,O⟩:=g;obtain⟨eB,e,aF⟩:=aby (P:=fun (x:qK) (S:aL)=>tk x∧(x.N.len≤x.N.cap∧cT (B .i64) x.N S.N fun l=>A.heap[l]?)∧x.gz.len≤x.gz.cap∧cT (B .i64) x.gz S.aa fun l=>A.heap[l]?) (xs:=xs) fun x F=>Xq (I x F);exact⟨eB,fun a Y=>(aF a Y).1,by rw[e]; exact O,fun p a5=>(aF p a5).2⟩
theorem wJ(A:World):bX [old A] fun aV=>ch.le (fun l=>A.heap[l]?) aV:=bX.here (y:=fun h k=>ch.le_trans k h)
theorem Hr{A:World}{m:List bu}{s:af}{cf:List aL}(k:bX m fun aV=>ch.le (fun l=>A.heap[l]?) aV)(h:uy s cf fun l=>A.heap[l]?):bX m (uy s cf):=k.imp fun _ a4=>uy.mono a4 h
theorem SL(x S:Told):eW.gZ x S=true↔x=S:=by
 obtain⟨a,l,c⟩:=x;obtain⟨d,e,f⟩:=S;unfold eW.gZ;simp only[Bool.and_eq_true,beq_iff_eq,eW.mk.injEq,and_assoc,and_true]
section
variable {A w:World} {m bL:List bu}
theorem Ij{s u:af}{aN aS:List Told}(o4:aN.length≤1000000000000)(tS:bX m (cT h9 s aN))(z5:bX m (cT h9 u aS))(H:E A m w):M Pg 17 [X.enc s,X.enc u] bf w fun r J=>(aN=aS→r=true)∧E A m J:=by
 have aQ:=tS.len H;have a6:=z5.len H;refine ahb ?_;unfold Uy;rw[aQ,a6];by_cases al:aN.length=aS.length
 ·rw[if_neg (by simp[al])];refine vk (fun i w=>0≤i∧i≤aN.length∧E A m w) (fun i=>((aN.length:Int)-i).toNat) ⟨Int.le_refl 0,by omega,H⟩ ?_;rintro i w ⟨ah,I,H⟩;unfold ME;rw[aQ];split
  ·rename_i U;have U:i<aN.length:=by simpa using U
   have wk:IntKind.i64.wrap (i+1)=i+1:=wrap_i64 (by omega) (by omega);refine dg H fun w H=>?_;obtain⟨a,Y⟩:=tS.iq (ar:=3) H ah U;obtain⟨l,ao⟩:=z5.iq (ar:=3) H ah (by omega);have F:aN[i.toNat]?=some (aN[i.toNat]'(by omega)):=List.getElem?_eq_getElem (by omega);have aB:aS[i.toNat]?=some (aS[i.toNat]'(by omega)):=List.getElem?_eq_getElem (by omega);generalize aN[i.toNat]'(by omega)=x at F;generalize aS[i.toNat]'(by omega)=S at aB;refine aO a Y ?_;refine aO l ao ?_;refine aO x (tS.rd (fun _=>rfl) Y F H) ?_;refine aO S (z5.rd (fun _=>rfl) ao aB H) ?_;by_cases e:x=S
   ·rw[if_neg (by rw[(SL x S).2 e]; simp),wk];exact⟨⟨by omega,by omega,H⟩,by omega⟩
   ·rw[if_pos (by rw[Bool.not_eq_true']; exact Bool.eq_false_iff.2 fun h=>e ((SL x S).1 h))];refine⟨fun h=>?_,H⟩;rw[h,aB] at F;cases F;exact absurd rfl e
  ·exact⟨fun _=>rfl,H⟩
 ·rw[if_pos (by simp; omega)];exact⟨fun h=>absurd (congrArg List.length h) al,H⟩
theorem HP{c:rF}{s:af}{cf:List aL}(ab:c.gA<18446744073709551616)(ag:c.kT<18446744073709551616)(ok:qL cf)(k:bX m (uy s cf))(H:E A m w) :
  M Pg 7 [gi.enc c,X.enc s] (mj aE (B .i64) bf) w fun r J=>(¬ p3 c→r.1=none∧E A m J)∧(p3 c→∃ au:Nat,r.1=some ⟨au,0,none⟩∧E A (b8 au (ql (lO c) (kA (cf.take 60)))::m) J):=by
 have df:bX m (cT kX s (cf.map (·.x))):=k.imp fun _ h=>h.1;have aG:=df.len H;rw[List.length_map] at aG;refine ai9 ?_;unfold Wp;refine bH H fun l w H=>?_;refine ec (x:=c) 0 H rfl ?_;refine ap (Q2 ab ag H.drop) ?_;rintro⟨gJ,bs⟩ w ⟨br,eN⟩;by_cases U:p3 c
 ·obtain⟨I,au,O,H⟩:=eN U;simp only at I O;subst I; subst O;rw[if_neg (by simp)];have zO:kQ 0 (lO c) _:=Du U;refine hU (fun s w=>∃ D:Nat,s.2.2=(D:Int)∧D≤cf.length∧D≤60∧E A (b8 au (ql (lO c) (kA (cf.take D)))::m) w) (fun s=>(60-s.2.2).toNat) ⟨0,rfl,by omega,by omega,H⟩ ?_;clear H;rintro⟨sum,sure,aBj⟩ w ⟨D,GR,bI,D3,H⟩ aa b2;simp only at GR;subst GR;unfold Nr;simp only;rw[aG];split
  ·rename_i dN;have dN:D<cf.length∧D<60:=by
    simp at dN; omega
   have aQ:IntKind.i64.wrap ((D:Int)+1)=((D+1:Nat):Int):=by rw[wrap_i64 (by omega) (by omega)]; omega
   obtain⟨a,Y⟩:=df.tail.iq (ar:=10) (i:=(D:Int)) H (by omega) (by rw[List.length_map]; omega);have F:(cf.map (·.x))[((D:Int)).toNat]?=some (cf[D]'dN.1).x:=by rw[Int.toNat_natCast,List.getElem?_map,List.getElem?_eq_getElem dN.1]; rfl
   have aF:bX m fun aV=>((cf[D]'dN.1).x.N.len≤(cf[D]'dN.1).x.N.cap∧cT (B .i64) (cf[D]'dN.1).x.N (cf[D]'dN.1).N aV)∧(cf[D]'dN.1).x.gz.len≤(cf[D]'dN.1).x.gz.cap∧cT (B .i64) (cf[D]'dN.1).x.gz (cf[D]'dN.1).aa aV:=k.imp fun _ h=>h.2 _ (List.getElem_mem _);have iC:kA (cf.take (D+1))=kA (cf.take D)++[o3 (cf[D]'dN.1)]:=by unfold kA; rw[List.take_succ_eq_append_getElem dN.1,List.map_append]; rfl
   have di:=ok _ (List.getElem_mem dN.1);have JT:=Bk (cf:=kA (cf.take D)) zO (JD fun a Y=>ok a (List.mem_of_mem_take Y)) (by unfold kA; rw[List.length_map,List.length_take]; omega);obtain⟨l0,JT,_⟩:=JT;have g1:0+2*(kA (cf.take D)).length≤49000:=by unfold kA; rw[List.length_map,List.length_take]; omega
   generalize cf[D]'dN.1=p at F aF iC di;generalize iB:ql (lO c) (kA (cf.take D))=o at *;refine aO a Y ?_;refine aO p.x (df.tail.rd (fun _=>rfl) Y F H) ?_;have l7:p.x.N.len≤p.x.N.cap∧p.x.gz.len≤p.x.gz.cap:=by
    obtain⟨aV,_,h⟩:=bX.pD aF H.drop;exact⟨h.1.1,h.2.1⟩
   refine ap (OP l7.1 l7.2 (aF.tail.imp fun _ h=>h.1.2) (aF.tail.imp fun _ h=>h.2.2) H) ?_;rintro r w ⟨s1,s2,rfl,H⟩;have H:E A (b8 au o::ro (B .i64) s1 (p.N.take 10)::ro (B .i64) s2 (p.aa.take 4)::m) w:=H.front 2;have gC:dc 1 (ro (B .i64) s1 (p.N.take 10)::ro (B .i64) s2 (p.aa.take 4)::m) (B .i64) s1 (p.N.take 10):=dc.ro (fun _=>rfl) (bX.here (y:=cT.mono));have f_:dc 1 (ro (B .i64) s1 (p.N.take 10)::ro (B .i64) s2 (p.aa.take 4)::m) (B .i64) s2 (p.aa.take 4):=dc.ro (fun _=>rfl) (bX.here (y:=cT.mono)).tail;refine ap (Js (JT.ok (by omega)) JT.cK ⟨di.n⟩ gC f_ (by rw[List.length_take]; omega) (by rw[List.length_take]; omega) H) ?_;rintro r w ⟨_,H⟩;have H:E A (b8 au (ql (lO c) (kA (cf.take (D+1))))::m) w:=by
    have e:ql (lO c) (kA (cf.take (D+1)))=(gk o ⟨{ p.x with N:=s1,gz:=s2 },p.N.take 10,p.aa.take 4⟩).1:=by
     rw[iC,Rx,iB];rfl
    rw[e];exact ((H.ord [1,2]).drop.drop)
   have u6:∀ (x:Int) (l:Bool) (j:Option Addr×Int×Bool→World→Prop),AS (D:Int) x l w aa j:=fun x l j=>by
    unfold AS;rw[aQ];exact b2 _ _ ⟨D+1,rfl,by omega,by omega,H⟩ (by simp only; omega)
   refine aO a Y ?_;refine aO p.x.Kind (df.tail.mY (fun _=>rfl) Y F rfl H) ?_;split
   ·exact u6 _ _ _
   ·split
    ·refine aO a Y ?_;refine aO p.x.b (df.tail.mY (fun _=>rfl) Y F rfl H) ?_;exact u6 _ _ _
    ·split
     ·exact u6 _ _ _
     ·exact u6 _ _ _
  ·rename_i dN;have dN:¬ (D<cf.length∧D<60):=by
    intro h;exact dN (by simp; omega)
   have e:cf.take D=cf.take 60:=by
    by_cases h:D=60
    ·subst h; rfl
    ·rw[List.take_of_length_le (by omega),List.take_of_length_le (by omega)]
   rw[e] at H;exact⟨fun h=>absurd U h,fun _=>⟨au,rfl,H⟩⟩
 ·obtain⟨I,H⟩:=br U;cases I;rw[if_pos (by simp)];exact⟨fun _=>⟨rfl,H⟩,fun h=>absurd h U⟩
end
def nh(jZ:bv)(y:Nat)(o:bv):Prop:=∃ av,qL av∧av.length≤y∧o=ql jZ av
theorem nh.zero(jZ:bv):nh jZ 0 jZ:=⟨[],fun a h=>(by cases h),Nat.le_refl _,rfl⟩
theorem nh.act{jZ o:bv}{y:Nat}(h:nh jZ y o){a:aL}(ok:tk a.x):nh jZ (y+1) (gk o a).1:=by
 obtain⟨av,I,O,rfl⟩:=h;exact⟨av++[a],I.snoc ok,by simp; omega,(Rx ..).symm⟩
theorem nh.mono{jZ o:bv}{y yD:Nat}(h:nh jZ y o)(hm:y≤yD):nh jZ yD o:=by
 obtain⟨av,I,O,aH⟩:=h;exact⟨av,I,by omega,aH⟩
theorem nh.kF{jZ o:bv}{y k:Nat}{ay:List e9}(h:nh jZ y o)(ah:kQ k jZ ay)(aq:k+2*y≤49000):zp (k+2*y) o jZ ay:=by
 obtain⟨av,I,O,rfl⟩:=h;obtain⟨l0,a,l⟩:=Bk ah I (by omega);exact⟨l0,a.mono (by omega),l⟩
theorem nh.ci{jZ o:bv}{y k:Nat}{ay:List e9}(h:nh jZ y o)(ah:kQ k jZ ay)(aq:k+2*y≤49000):∃ l0,kQ (k+2*y) o l0∧l0.length=ay.length:=by
 obtain⟨l0,a,_,l,_⟩:=h.kF ah aq;exact⟨l0,a,l⟩
end Cluster
namespace Audit
open bb
section
variable {A w:World} {m:List bu}
def gm(k:Int):Int:=if k<4096 then 1000000000000000 else 4611686018427387904
theorem aCB(H:E A m w)(k:Int):M Pg 123 [.int .i64 k] (B .i64) w fun r J=>r=gm k∧E A m J:=by
 refine agm ?_;unfold TR gm;split
 ·rename_i h; rw[if_pos (by simpa using h)]; exact⟨rfl,H⟩
 ·rename_i h; rw[if_neg (by simpa using h)]; exact⟨rfl,H⟩
def mm(es:List (Int×Int))(sum:Int)(x:fu):Int:=
 if x.Key<0∨x.Key≥8192 then 181 else if (es.lookup x.Key).isSome=true then 182 else if x.V<0∨x.V>gm x.Key then 183 else if x.V>4611686018427387904-sum then 184 else 0
def vi(eM av r:Nat)(es:List (Int×Int))(sum:Int):List bu:=[aI eM [.map (some r)] 146,aI av [.int .i64 sum] 2,cZ (B .i64) .i64 r es]
theorem SH{eM av r:Nat}{es:List (Int×Int)}{sum:Int}(ah:0≤sum)(I:sum≤4611686018427387904)(x:fu)(H:E A (vi eM av r es sum++m) w) :
  M Pg 122 [hL.enc x,.pointer (some ⟨eM,0,none⟩),.pointer (some ⟨av,0,none⟩)] (B .i64) w fun e J=>e=mm es sum x ∧
   E A (vi eM av r (if mm es sum x=0 then eH x.Key x.V es else es) (if mm es sum x=0 then sum+x.V else sum)++m) J:=by
 have H:E A (aI eM [.map (some r)] 146::aI av [.int .i64 sum] 2::cZ (B .i64) .i64 r es::m) w:=H;refine agl ?_;unfold TQ;refine bH H fun l dz H=>?_;refine aj (x:=some r) 1 H rfl rfl rfl ?_;refine aj (x:=x.Key) 0 H rfl rfl rfl ?_;refine l_ 3 H rfl rfl ?_;refine aj (x:=x.Key) 0 H rfl rfl rfl ?_;refine aO x.Key (fun _=>bE (B .i64) H rfl rfl) ?_;by_cases bm:x.Key<0∨x.Key≥8192
 ·have e:mm es sum x=181:=by unfold mm; rw[if_pos bm]
  rw[if_pos (by simpa using bm),e];exact⟨rfl,H.drop⟩
 rw[if_neg (by simpa using bm)];by_cases bB:(es.lookup x.Key).isSome=true
 ·have e:mm es sum x=182:=by unfold mm; rw[if_neg bm,if_pos bB]
  rw[if_pos bB,e];exact⟨rfl,H.drop⟩
 rw[if_neg bB];refine dg H fun cm H=>?_;refine aj (x:=x.V) 0 H rfl rfl rfl ?_;have tail:∀ (q:Bool) (cm:World),q=(decide (x.V<0)||decide (x.V>gm x.Key))→E A (aI l (hL.cells x) 87::aI eM [.map (some r)] 146::aI av [.int .i64 sum] 2::cZ (B .i64) .i64 r es::m) cm →
   Fc ⟨eM,0,none⟩ ⟨av,0,none⟩ ⟨l,0,none⟩ q cm fun e J=>e=mm es sum x ∧
    E A (vi eM av r (if mm es sum x=0 then eH x.Key x.V es else es) (if mm es sum x=0 then sum+x.V else sum)++m) J:=by
  intro q cm a5 H;unfold Fc;by_cases b4:x.V<0∨x.V>gm x.Key
  ·have e:mm es sum x=183:=by unfold mm; rw[if_neg bm,if_neg bB,if_pos b4]
   rw[if_pos (by rw[a5]; simpa using b4),e];exact⟨rfl,H.drop⟩
  rw[if_neg (by rw[a5]; simpa using b4)];refine aj (x:=x.V) 0 H rfl rfl rfl ?_;refine aj (x:=sum) 2 H rfl rfl rfl ?_;have wk:IntKind.i64.wrap (4611686018427387904-sum)=4611686018427387904-sum:=wrap_i64 (by omega) (by omega);rw[wk];by_cases fa:x.V>4611686018427387904-sum
  ·have e:mm es sum x=184:=by unfold mm; rw[if_neg bm,if_neg bB,if_neg b4,if_pos fa]
   rw[if_pos (by simpa using fa),e];exact⟨rfl,H.drop⟩
  have e:mm es sum x=0:=by unfold mm; rw[if_neg bm,if_neg bB,if_neg b4,if_neg fa]
  rw[if_neg (by simpa using fa),e];refine dg H fun bh H=>?_;refine aj (x:=some r) 1 H rfl rfl rfl ?_;refine aj (x:=x.Key) 0 H rfl rfl rfl ?_;refine aj (x:=x.V) 0 H rfl rfl rfl ?_;refine aj (x:=sum) 2 H rfl rfl rfl ?_;refine aj (x:=x.V) 0 H rfl rfl rfl ?_;refine r4 3 H rfl rfl fun aU H=>?_;refine⟨bE (B .i64) (H.front 3) rfl rfl,?_⟩;refine⟨bE (B .i64) (H.front 1) rfl rfl,?_⟩;have JB:IntKind.i64.wrap (sum+x.V)=sum+x.V:=wrap_i64 (by omega) (by omega);rw[JB];refine dx (x:=sum+x.V) 3 H rfl rfl (Nat.le_of_ble_eq_true rfl) fun a7 H=>?_;exact⟨rfl,(H.ord [2,3,0,1]).drop⟩
 split
 ·rename_i b4;exact tail true _ (by simp at b4; simp[b4]) H
 ·rename_i b4;refine aj (x:=x.V) 0 H rfl rfl rfl ?_;refine aj (x:=x.Key) 0 H rfl rfl rfl ?_;refine ap (aCB H _) ?_;rintro q bh ⟨rfl,H⟩;refine⟨bE (B .i64) H rfl rfl,?_⟩;refine⟨bE (B .i64) H rfl rfl,?_⟩;exact tail _ _ (by rw[show decide (x.V<0)=false from by simpa using b4]; rfl) H
end
section
variable {A w:World} {m:List bu}
def uC(s:af)(an:List (my×List fu))(aV:ch):Prop:=cT p7 s (an.map (·.1)) aV∧∀ p∈an,cT hL p.1.N p.2 aV
theorem uC.mono{s:af}{an:List (my×List fu)}{aV g5:ch}(h:ch.le aV g5):uC s an aV→uC s an g5:=fun ⟨I,O⟩=>⟨cT.mono h I,fun p aF=>cT.mono h (O p aF)⟩
def nF(s:af)(an:List (my×List fu)):bu:=rR (uC s an) uC.mono
theorem H4{s:af}{an:List (my×List fu)}(H:E A (nF s an::m) w):E A (ro p7 s (an.map (·.1))::nF s an::m) w:=
 E.Qn (y:=uC.mono) (fun aV h=>h.1) (E.dup (y:=uC.mono) H)
theorem aek{s:af}{an:List (my×List fu)}{p:my×List fu}(aF:p∈an)(H:E A (nF s an::m) w):E A (ro hL p.1.N p.2::nF s an::m) w:=
 E.Qn (y:=uC.mono) (fun aV h=>h.2 p aF) (E.dup (y:=uC.mono) H)
def goes:List (Int×Int)→Int→List fu→List (Int×Int)×Int×Int
 |es,sum,[]=>(es,sum,0)
 |es,sum,x::xs=>if mm es sum x=0 then goes (eH x.Key x.V es) (sum+x.V) xs else (es,sum,mm es sum x)
theorem JJ(es:List (Int×Int))(sum:Int)(xs gF:List fu):goes es sum (xs++gF)=if (goes es sum xs).2.2=0 then goes (goes es sum xs).1 (goes es sum xs).2.1 gF else goes es sum xs:=by
 induction xs generalizing es sum with
 |nil=>simp[goes]
 |cons x xs b_=>
  simp only[List.cons_append,goes];split
  ·exact b_ _ _
  ·rfl
end
section
variable {A w:World} {m:List bu}
def DO(sum:Int):Prop:=0≤sum∧sum≤4611686018427387904
theorem an8{es:List (Int×Int)}{sum:Int}{x:fu}(R:DO sum)(h:mm es sum x=0):DO (sum+x.V):=by
 obtain⟨ah,I⟩:=R;unfold mm at h;split at h
 ·omega
 ·split at h
  ·omega
  ·split at h
   ·omega
   ·split at h
    ·omega
    ·constructor<;>omega
theorem Zo{xs:List fu}:∀ {es:List (Int×Int)} {sum:Int},DO sum→DO (goes es sum xs).2.1:=by
 induction xs with
 |nil=>intro es sum h; exact h
 |cons x xs b_=>
  intro es sum h;simp only[goes];split
  ·rename_i hw; exact b_ (an8 h hw)
  ·exact h
abbrev ae3(eM av:Nat):cc:=cc.mk (.func 122) (List.toArray []) (List.toArray [.pointer (some ⟨eM,0,none⟩),.pointer (some ⟨av,0,none⟩)])
theorem an7{es:List (Int×Int)}{sum:Int}{N:List fu}{i:Nat}{x:fu}(F:N[i]?=some x)(h:(goes es sum (N.take i)).2.2=0) :
  goes es sum (N.take (i+1))=if mm (goes es sum (N.take i)).1 (goes es sum (N.take i)).2.1 x=0 then (eH x.Key x.V (goes es sum (N.take i)).1,(goes es sum (N.take i)).2.1+x.V,0) else ((goes es sum (N.take i)).1,(goes es sum (N.take i)).2.1,mm (goes es sum (N.take i)).1 (goes es sum (N.take i)).2.1 x):=by
 obtain⟨aw,rfl⟩:=List.getElem?_eq_some_iff.1 F;rw[List.take_succ_eq_append_getElem aw,JJ,if_pos h];simp only[goes]
theorem an6{es:List (Int×Int)}{sum:Int}{N:List fu}{i:Nat}(h:(goes es sum (N.take i)).2.2≠0):goes es sum N=goes es sum (N.take i):=by
 conv=>lhs; rw[← List.take_append_drop i N]
 rw[JJ,if_neg h]
theorem aDW{eM av r:Nat}{es:List (Int×Int)}{sum:Int}{ph:af}{N:List fu}{t3:Int}{gy:Int→World→Prop}{j:Int→World→Prop}(R:DO sum)(hm:N.length≤1000000)
  (H:E A (vi eM av r es sum++(ro hL ph N::m)) w)
  (di:∀ J,(goes es sum N).2.2=0→E A (vi eM av r (goes es sum N).1 (goes es sum N).2.1++m) J→gy (IntKind.i64.wrap (t3+1)) J)
  (u7:∀ J,(goes es sum N).2.2≠0→E A (vi eM av r (goes es sum N).1 (goes es sum N).2.1++m) J→j (goes es sum N).2.2 J) :
  eZ (fun (s:Int) w aa=>IF (ae3 eM av) t3 ph s w gy aa j) ((0:Int)) w:=by
 have aG:=EM (H.front 3);refine vk (fun i w=>0≤i∧i≤N.length∧(goes es sum (N.take i.toNat)).2.2=0∧E A (vi eM av r (goes es sum (N.take i.toNat)).1 (goes es sum (N.take i.toNat)).2.1++(ro hL ph N::m)) w) (fun i=>(N.length-i).toNat) ⟨Int.le_refl 0,by omega,rfl,H⟩ ?_;rintro i w ⟨ah,I,bD,H⟩;unfold IF;split
 ·rename_i U;have U:i<N.length:=by simp at U; omega
  have aQ:IntKind.i64.wrap (i+1)=i+1:=wrap_i64 (by omega) (by omega);have F:N[i.toNat]?=some N[i.toNat]:=List.getElem?_eq_getElem (by omega);obtain⟨a,Y⟩:=yZ (ar:=2) (i:=i) (H.front 3) ah U;refine aO a Y ?_;refine aO N[i.toNat] (Ap (fun _=>rfl) Y F (H.front 3)) ?_;generalize N[i.toNat]=x at F;refine bH H fun l dz H=>?_;refine dx (x:=x) 0 H rfl rfl (Nat.le_of_ble_eq_true rfl) fun cm H=>?_;refine aj (x:=x) 0 H rfl rfl rfl ?_;have H:=(E.drop H)
  have kp:=Zo (xs:=N.take i.toNat) (es:=es) R;have lK:=an7 F bD;refine⟨122,[.pointer (some ⟨eM,0,none⟩),.pointer (some ⟨av,0,none⟩)],rfl,amI,ap (SH kp.1 kp.2 x H) ?_⟩;rintro e bh ⟨rfl,H⟩;rw[show i.toNat+1=(i+1).toNat from by omega] at lK;split
  ·rename_i dO;have dO:mm (goes es sum (N.take i.toNat)).1 (goes es sum (N.take i.toNat)).2.1 x≠0:=by simpa using dO
   rw[if_neg dO] at lK;rw[if_neg dO,if_neg dO] at H;have ra:=an6 (es:=es) (sum:=sum) (N:=N) (i:=(i+1).toNat) (by rw[lK]; exact dO);rw[lK] at ra;have:=u7 bh (by rw[ra]; exact dO) (by rw[ra]; exact ((H.front 3).drop));rw[ra] at this;exact this
  ·rename_i dO;have dO:mm (goes es sum (N.take i.toNat)).1 (goes es sum (N.take i.toNat)).2.1 x=0:=by simpa using dO
   rw[if_pos dO] at lK;rw[if_pos dO,if_pos dO] at H;rw[aQ];exact⟨⟨by omega,by omega,by rw[lK],by rw[lK]; exact H⟩,by omega⟩
 ·rename_i U;have U:i=N.length:=by simp at U; omega
  subst U;have e:N.take ((N.length:Int)).toNat=N:=by simp
  rw[e] at bD H;exact di w bD ((H.front 3).drop)
end
section
variable {A w:World} {m:List bu}
def flat(an:List (my×List fu)):List fu:=an.flatMap (·.2)
theorem aj5{eM av r:Nat}{es:List (Int×Int)}{sum:Int}{s:af}{an:List (my×List fu)}(R:DO sum)(hm:an.length≤100000)(GY:∀ p∈an,p.2.length≤100000)
  (H:E A (vi eM av r es sum++(nF s an::m)) w) :
  M Pg 121 [X.enc s,(ae3 eM av).enc] (B .i64) w fun e J=>e=(goes es sum (flat an)).2.2∧E A (vi eM av r (goes es sum (flat an)).1 (goes es sum (flat an)).2.1++(nF s an::m)) J:=by
 have aG:=EM (H4 (H.front 3));rw[List.length_map] at aG;refine agk ?_;unfold TP;refine vk (fun i w=>0≤i∧i≤an.length∧(goes es sum (flat (an.take i.toNat))).2.2=0∧E A (vi eM av r (goes es sum (flat (an.take i.toNat))).1 (goes es sum (flat (an.take i.toNat))).2.1++(nF s an::m)) w) (fun i=>(an.length-i).toNat) ⟨Int.le_refl 0,by omega,rfl,H⟩ ?_;rintro i w ⟨ah,I,bD,H⟩;unfold Mp;split
 ·rename_i U;have U:i<an.length:=by simp at U; omega
  have aQ:IntKind.i64.wrap (i+1)=i+1:=wrap_i64 (by omega) (by omega);have F:an[i.toNat]?=some an[i.toNat]:=List.getElem?_eq_getElem (by omega);have sU:=List.mem_of_getElem? F;have aR:flat (an.take (i+1).toNat)=flat (an.take i.toNat)++an[i.toNat].2:=by
   rw[show (i+1).toNat=i.toNat+1 from by omega,List.take_succ_eq_append_getElem (by omega)];unfold flat; rw[List.flatMap_append,List.flatMap_cons,List.flatMap_nil,List.append_nil]
  have ra:flat an=flat (an.take (i+1).toNat)++flat (an.drop (i+1).toNat):=by
   unfold flat; rw[← List.flatMap_append,List.take_append_drop]
  generalize an[i.toNat]=p at F sU aR;have Ql:(an.map (·.1))[i.toNat]?=some p.1:=by rw[List.getElem?_map,F]; rfl
  have vW:=H4 (H.front 3);obtain⟨a,Y⟩:=yZ (ar:=2) (i:=i) vW ah (by rw[List.length_map]; omega);refine aO a Y ?_;refine aO p.1 (Ap (fun _=>rfl) Y Ql vW) ?_;refine bH H fun l dz H=>?_;refine dx (x:=p.1) 0 H rfl rfl (Nat.le_of_ble_eq_true rfl) fun cm H=>?_;refine aj (x:=p.1.N) 0 H rfl rfl rfl ?_;have H:=(E.drop H)
  have H:=aek sU (H.front 3);have kp:=Zo (xs:=flat (an.take i.toNat)) (es:=es) R;have J_:goes es sum (flat (an.take (i+1).toNat))=goes (goes es sum (flat (an.take i.toNat))).1 (goes es sum (flat (an.take i.toNat))).2.1 p.2:=by
   rw[aR,JJ,if_pos bD]
  refine aDW kp (Nat.le_trans (GY p sU) (by omega)) (m:=nF s an::m) (H.ord [2,3,4,0,1]) ?_ ?_
  ·intro bh Hh H;rw[← J_] at Hh H;rw[aQ];exact⟨⟨by omega,by omega,Hh,H⟩,by omega⟩
  ·intro bh Hh H;rw[← J_] at Hh H ⊢;have:goes es sum (flat an)=goes es sum (flat (an.take (i+1).toNat)):=by rw[ra,JJ,if_neg Hh]
   rw[this];exact⟨rfl,H⟩
 ·rename_i U;have U:i=an.length:=by simp at U; omega
  subst U;have e:an.take ((an.length:Int)).toNat=an:=by simp
  rw[e] at bD H;exact⟨bD.symm,H⟩
end
section
variable {A w:World} {m:List bu}
theorem aD5{l:Nat}{at_:Int}{s:af}{an:List (my×List fu)}(hm:an.length≤100000)(H:E A (aI l [.int .i64 at_] 2::nF s an::m) w) :
  M Pg 119 [X.enc s,(cc.mk (.func 120) (List.toArray []) (List.toArray [.pointer (some ⟨l,0,none⟩)])).enc] bf w fun q J=>q=an.any (fun p=>p.1.vS != at_)∧E A (aI l [.int .i64 at_] 2::nF s an::m) J:=by
 have aG:=EM (H4 (H.front 1));rw[List.length_map] at aG;refine agh ?_;unfold TN;refine ag7 ?_;unfold UE;refine vk (fun i w=>0≤i∧i≤an.length∧(∀ p∈an.take i.toNat,p.1.vS=at_)∧E A (aI l [.int .i64 at_] 2::nF s an::m) w) (fun i=>(an.length-i).toNat) ⟨Int.le_refl 0,by omega,by simp,H⟩ ?_;rintro i w ⟨ah,I,O,H⟩;unfold MD;split
 ·rename_i U;have U:i<an.length:=by simp at U; omega
  have aQ:IntKind.i64.wrap (i+1)=i+1:=wrap_i64 (by omega) (by omega);have F:an[i.toNat]?=some an[i.toNat]:=List.getElem?_eq_getElem (by omega);have sU:=List.mem_of_getElem? F;have Ql:(an.map (·.1))[i.toNat]?=some an[i.toNat].1:=by rw[List.getElem?_map,F]; rfl
  have vW:=H4 (H.front 1);obtain⟨a,Y⟩:=yZ (ar:=2) (i:=i) vW ah (by rw[List.length_map]; omega);refine aO a Y ?_;refine aO an[i.toNat].1 (Ap (fun _=>rfl) Y Ql vW) ?_;refine⟨120,[.pointer (some ⟨l,0,none⟩)],rfl,amH,agj ?_⟩;unfold TO;refine bH H fun e5 dz H=>?_;refine aj (x:=an[i.toNat].1.vS) 0 H rfl rfl rfl ?_;refine aj (x:=at_) 1 H rfl rfl rfl ?_;have H:=E.drop H;show if (an[i.toNat].1.vS != at_)=true then _ else _
  split
  ·rename_i hw;refine⟨?_,H⟩;have:an.any (fun p=>p.1.vS != at_)=true:=List.any_eq_true.2 ⟨_,sU,hw⟩;rw[this]; simp[ah]
  ·rename_i hw;rw[aQ];refine⟨⟨by omega,by omega,?_,H⟩,by omega⟩;intro p aF;rw[show (i+1).toNat=i.toNat+1 from by omega,List.take_succ_eq_append_getElem (by omega),List.mem_append] at aF;rcases aF with aF | aF
   ·exact O p aF
   ·rw[List.mem_singleton.1 aF]; simpa using hw
 ·rename_i U;have U:i=an.length:=by simp at U; omega
  subst U;refine⟨?_,H⟩;have:an.any (fun p=>p.1.vS != at_)=false:=by
   rw[List.any_eq_false];intro p aF;simp[O p (by simpa using aF)]
  rw[this]; rfl
def q8(at_:Int)(an:List (my×List fu)):Option (List (Int×Int))×Int×Int:=
 if (decide (at_<0)||decide (at_>1125899906842624)||an.any fun p=>p.1.vS != at_)=true then (none,0,180)
 else (some (goes [] 0 (flat an)).1,(goes [] 0 (flat an)).2.1,(goes [] 0 (flat an)).2.2)
theorem alN{at_:Int}{s:af}{an:List (my×List fu)}(hm:an.length≤100000)(GY:∀ p∈an,p.2.length≤100000)(H:E A (nF s an::m) w) :
  M Pg 65 [.int .i64 at_,X.enc s] (mj ef (B .i64) (B .i64)) w fun q J=>q.2=(q8 at_ an).2 ∧
   match (q8 at_ an).1 with
   |none=>q.1=none∧E A (nF s an::m) J
   |some es=>∃ r,q.1=some r∧E A (cZ (B .i64) .i64 r es::nF s an::m) J:=by
 refine aiT ?_;unfold Wk;refine bH H fun l dz H=>?_;refine aj (x:=at_) 0 H rfl rfl rfl ?_;refine aO at_ (fun _=>bE (B .i64) H rfl rfl) ?_;have tail:∀ (q:Bool) (dz:World),q=(decide (at_<0)||decide (at_>1125899906842624)||an.any fun p=>p.1.vS != at_)→E A (aI l [.int .i64 at_] 2::nF s an::m) dz →
   FH s q dz fun q J=>q.2=(q8 at_ an).2 ∧
   match (q8 at_ an).1 with
   |none=>q.1=none∧E A (nF s an::m) J
   |some es=>∃ r,q.1=some r∧E A (cZ (B .i64) .i64 r es::nF s an::m) J:=by
  intro q dz a5 H;unfold FH;cases ao:q with
  |true=>
   have e:q8 at_ an=(none,0,180):=by unfold q8; rw[if_pos (by rw[← a5,ao])]
   rw[if_pos rfl,e];exact⟨rfl,rfl,H.drop⟩
  |false=>
   have e:q8 at_ an=(some (goes [] 0 (flat an)).1,(goes [] 0 (flat an)).2.1,(goes [] 0 (flat an)).2.2):=by unfold q8; rw[if_neg (by rw[← a5,ao]; decide)]
   rw[if_neg (by decide),e];refine wU H fun r cm H=>?_;refine bH H fun eM bh H=>?_;refine bH H fun av aU H=>?_;refine dx (x:=some r) 1 H rfl rfl (Nat.le_of_ble_eq_true rfl) fun a7 H=>?_;refine dx (x:=(0:Int)) 1 H rfl rfl (Nat.le_of_ble_eq_true rfl) fun bT H=>?_;have H:=wQ (B .i64) .i64 (H.front 2);have H:E A (vi eM av r [] 0++(nF s an::aI l [.int .i64 at_] 2::m)) bT:=(H.ord [2,1,0,4])
   refine ap (aj5 (es:=[]) (sum:=0) ⟨by omega,by omega⟩ hm GY H) ?_;rintro f_ bN ⟨rfl,H⟩;refine dg H fun bA H=>?_;refine aj (x:=some r) 0 H rfl rfl rfl ?_;refine aj (x:=(goes [] 0 (flat an)).2.1) 1 H rfl rfl rfl ?_;exact⟨rfl,r,rfl,(H.ord [2,3]).ord [2,3,4,0,1] |> fun H=>((H.drop).drop).drop⟩
 split
 ·rename_i U;refine tail true _ ?_ H;simp at U; rcases U with h | h<;>simp[h]
 ·rename_i U;refine ap (aD5 hm H) ?_;rintro q cm ⟨rfl,H⟩;refine tail _ _ ?_ H;rw[show (decide (at_<0)||decide (at_>1125899906842624))=false from by simpa using U]; rfl
theorem uQ{at_:Int}{s:af}{an:List (my×List fu)}(hm:an.length≤100000)(GY:∀ p∈an,p.2.length≤100000)(H:E A (nF s an::m) w) :
  M Pg 27 [.int .i64 at_,X.enc s] (bo (B .i64) (B .i64)) w fun q J=>q=(if (q8 at_ an).2.2=0 then ((q8 at_ an).2.1,0) else (0,(q8 at_ an).2.2))∧E A (nF s an::m) J:=by
 refine aig ?_;unfold VJ;refine ap (alN hm GY H) ?_;rintro⟨gC,f_,Aj⟩ w ⟨I,O⟩;have aH:f_=(q8 at_ an).2.1:=congrArg Prod.fst I;have bg:Aj=(q8 at_ an).2.2:=congrArg Prod.snd I;subst aH; subst bg;have H:E A (nF s an::m) w:=by
  cases R:(q8 at_ an).1 with
  |none=>rw[R] at O; exact O.2
  |some es=>
   rw[R] at O;obtain⟨r,_,H⟩:=O;exact H.drop
 simp only;by_cases c:(q8 at_ an).2.2=0
 ·rw[if_neg (by simp[c]),if_pos c];exact⟨rfl,H⟩
 ·rw[if_pos (by simpa using c),if_neg c];exact⟨rfl,H⟩
end
end Audit
namespace Cluster
open bb Wire Disk Vault Clock Shard Num Store
def Gz:rF:=⟨2,0,0,5⟩
def NY(k i n:Int):aL:=⟨⟨k,i,0,n,⟨0,0,0,0⟩,fx,fx⟩,[],[]⟩
def ajZ:aL:=⟨⟨2,0,0,0,⟨1,0,1,40⟩,fx,fx⟩,[],[]⟩
def hT:List aL:=[NY 1 0 100,NY 1 1 0,ajZ,la 3 1,la 4 0,la 4 0,la 3 0,la 3 1,la 4 0,la 4 0,la 3 1,la 4 0,la 4 0,la 12 1,NY 0 0 20,la 12 1,la 13 0,la 13 1]
def OK(o:bv):List aL→List Int
 |[]=>[]
 |a::cf=>(gk o a).2::OK (gk o a).1 cf
def fG(i:Nat):bv:=ql (lO Gz) (hT.take i)
theorem anG:OK (lO Gz) hT=List.replicate 18 0:=by kernel_rfl
theorem YQ:∀ {cf:List aL} {o:bv} {i:Nat} {a:aL},cf[i]?=some a→(OK o cf)[i]?=some (gk (ql o (cf.take i)) a).2
 |[],o,i,a,h=>by cases h
 |l::cf,o,0,a,h=>by cases h; rfl
 |l::cf,o,i+1,a,h=>YQ (cf:=cf) (o:=(gk o l).1) (i:=i) h
theorem zG{i:Nat}{a:aL}(h:hT[i]?=some a):gk (fG i) a=(fG (i+1),0):=by
 have I:=YQ (o:=lO Gz) h;rw[anG] at I;have O:=(List.mem_replicate.1 (List.mem_of_getElem? I)).2;have aw:=(List.getElem?_eq_some_iff.1 h).1;have e:fG (i+1)=(gk (fG i) a).1:=by
  unfold fG;rw[List.take_succ_eq_append_getElem aw,Rx,(List.getElem?_eq_some_iff.1 h).2]
 rw[e];exact Prod.ext rfl O
theorem YU:p3 Gz:=⟨⟨by decide,by decide⟩,of_decide_eq_true (by kernel_rfl),of_decide_eq_true (by kernel_rfl),by decide,by decide⟩
theorem anu:qL hT:=fun a Y=>by
 unfold hT at Y;simp only[List.mem_cons,List.mem_nil_iff,or_false] at Y;rcases Y with rfl | rfl | rfl | rfl | rfl | rfl | rfl | rfl | rfl | rfl | rfl | rfl | rfl | rfl | rfl | rfl | rfl | rfl<;>exact⟨by decide,by decide⟩
theorem q7(i:Nat):kR (fG i):=by
 obtain⟨l0,h,_⟩:=Bk (cf:=hT.take i) (Du YU) (fun a Y=>anu a (List.mem_of_mem_take Y)) (by rw[List.length_take]; show 0+2*min i 18≤_; omega);exact h.ok (by rw[List.length_take]; show 0+2*min i 18≤_; omega)
def FX:hp:=⟨[⟨1006,⟨0,100⟩⟩,⟨1008,⟨0,60⟩⟩],1015,0⟩
def FY:hp:=⟨[⟨1006,⟨1,0⟩⟩,⟨1008,⟨1,40⟩⟩],1015,0⟩
theorem QF:Keys FX.rows [0]:=by
 refine⟨by decide,fun k=>?_⟩;simp only[FX,y_,CD,List.mem_cons,List.not_mem_nil,or_false];by_cases I:k=0
 ·subst I; simp
 ·simp[I,Ne.symm I]
theorem QG:Keys FY.rows [1]:=by
 refine⟨by decide,fun k=>?_⟩;simp only[FY,y_,CD,List.mem_cons,List.not_mem_nil,or_false];by_cases I:k=1
 ·subst I; simp
 ·simp[I,Ne.symm I]
theorem aHc:nb FX 1010=[⟨0,60⟩]:=by
 unfold nb;rw[if_pos (by rfl),QI QF]; rfl
theorem aHd:nb FY 1010=[⟨1,40⟩]:=by
 unfold nb;rw[if_pos (by rfl),QI QG]; rfl
theorem anA:(fG 18).N.map (fun b=>(b.K.down,b.W.v.W))=[(false,FX),(false,FY)]:=by kernel_rfl
theorem anD:vy (fG 18) 1010=([[⟨0,60⟩],[⟨1,40⟩]],0):=by
 have h:=anA;unfold vy;generalize (fG 18).N=N at h;obtain⟨FZ,N,rfl,ah,h⟩:=List.map_eq_cons_iff.1 h;obtain⟨tr,N,rfl,I,h⟩:=List.map_eq_cons_iff.1 h;rw[List.map_eq_nil_iff.1 h];have d0:FZ.K.down=false:=congrArg Prod.fst ah;have d1:tr.K.down=false:=congrArg Prod.fst I;have mi:FZ.W.v.W=FX:=congrArg Prod.snd ah;have s1:tr.W.v.W=FY:=congrArg Prod.snd I;unfold nE;rw[d0,mi,aHc];unfold nE;rw[d1,s1,aHd];unfold nE;rfl
theorem anE:(fG 14).told=[]:=by kernel_rfl
theorem anF:(fG 16).told=[⟨1,2,1008⟩]:=by kernel_rfl
theorem anC:(fG 18).now=1020:=by kernel_rfl
theorem anB:(fG 18).aY.m=[]:=by kernel_rfl
theorem anv:fP (fG 18) 1=0:=by kernel_rfl
theorem YT:fP (fG 18) 2=202:=by kernel_rfl
theorem anz:((fG 16).N.length,fP (fG 16) 1,((fG 16).N[1]?).bind (fun b=>(b.P.lookup 1).map fun p=>(p.bV,p.at_)))=(2,0,some (2,1008)):=by kernel_rfl
theorem anw:(mA (fG 16) 0).2=(1015,0):=by kernel_rfl
theorem anx:(mA (fG 17) 1).2=(1015,0):=by kernel_rfl
section
variable {A w:World} {m bL:List bu}
theorem DL{au i:Nat}(h:hT[i]?=some (la 4 0))(H:E A (b8 au (fG i)::m) w):M Pg 36 [.pointer (some ⟨au,0,none⟩),.int .i64 0] (B .i64) w fun r J=>r=0∧E A (b8 au (fG (i+1))::m) J:=by
 have e:=zG h;rw[Yl] at e;have:=On (q7 i) (i:=0) H;rw[e] at this;exact this
theorem JC{au i:Nat}{D:Int}(h:hT[i]?=some (la 3 D))(H:E A (b8 au (fG i)::m) w):M Pg 35 [.pointer (some ⟨au,0,none⟩),.int .i64 D] (B .i64) w fun r J=>r=0∧E A (b8 au (fG (i+1))::m) J:=by
 have e:=zG h;rw[Yn] at e;have:=SB (q7 i) (i:=D) H;rw[e] at this;exact this
theorem YW{au i:Nat}(h:hT[i]?=some (la 12 1))(H:E A (b8 au (fG i)::m) w):M Pg 49 [.pointer (some ⟨au,0,none⟩),.int .i64 1] (B .i64) w fun r J=>r=0∧E A (b8 au (fG (i+1))::m) J:=by
 have e:te (fG i) 1=_:=zG h;have:=ae4 (q7 i) (i:=1) H;rw[e] at this;exact this
theorem aHi(H:E A m w):M Pg 24 [] aE w fun r J=>∃ au:Nat,r=some ⟨au,0,none⟩∧E A (b8 au (fG 16)::m) J:=by
 refine ah1 ?_;unfold MW;refine ap (Q2 (c:=Gz) (by decide) (by decide) H) ?_;rintro⟨gJ,bs⟩ w ⟨_,eN⟩;obtain⟨I,au,O,H⟩:=eN YU;simp only at I O;subst I; subst O;rw[if_neg (by simp)];have H:E A (b8 au (fG 0)::m) w:=H;have e:vr (fG 0) 0 100=(fG 1,0):=zG (i:=0) rfl;have q:=Ro (q7 0) (a:=0) (n:=100) (by omega) H;rw[e] at q;refine ap q ?_;rintro r w ⟨rfl,H⟩;unfold Fs;rw[if_neg (by simp)];have e:vr (fG 1) 1 0=(fG 2,0):=zG (i:=1) rfl;have q:=Ro (q7 1) (a:=1) (n:=0) (by omega) H;rw[e] at q;refine ap q ?_;rintro r w ⟨rfl,H⟩;unfold Fw;rw[if_neg (by simp)];have e:pQ (fG 2) ⟨1,0,1,40⟩=(fG 3,0):=zG (i:=2) rfl;have q:=abI (q7 2) (x:=⟨1,0,1,40⟩) H;rw[e] at q;refine ap q ?_;rintro r w ⟨rfl,H⟩;unfold Fx;rw[if_neg (by simp)];refine ap (JC (i:=3) rfl H) ?_;rintro r w ⟨rfl,H⟩;unfold Fy;rw[if_neg (by simp)]
 refine hU (fun i w=>∃ D:Nat,i=(D:Int)∧(D=0∧E A (b8 au (fG 4)::m) w∨D=1∧E A (b8 au (fG 8)::m) w∨D=2∧E A (b8 au (fG 11)::m) w∨D=3∧E A (b8 au (fG 13)::m) w)) (fun i=>((3:Int)-i).toNat) ⟨0,rfl,.inl ⟨rfl,H⟩⟩ ?_;clear H;rintro i w ⟨D,rfl,bI⟩ aa b2;have aQ:D≤3→IntKind.i64.wrap ((D:Int)+1)=((D+1:Nat):Int):=fun h=>by rw[wrap_i64 (by omega) (by omega)]; omega
 unfold MY;rcases bI with ⟨rfl,H⟩ | ⟨rfl,H⟩ | ⟨rfl,H⟩ | ⟨rfl,H⟩
 ·rw[if_pos (by simp)];refine ap (DL (i:=4) rfl H) ?_;rintro r w ⟨rfl,H⟩;rw[if_neg (by simp)];refine ap (DL (i:=5) rfl H) ?_;rintro r w ⟨rfl,H⟩;unfold AR;rw[if_neg (by simp),if_pos (by simp)];refine ap (JC (i:=6) rfl H) ?_;rintro r w ⟨rfl,H⟩;unfold zi;rw[if_neg (by simp),if_pos (by simp)];refine ap (JC (i:=7) rfl H) ?_;rintro r w ⟨rfl,H⟩;unfold zj;rw[if_neg (by simp),if_neg (by simp)];unfold zk;rw[if_neg (by simp),aQ (by omega)];exact b2 _ _ ⟨1,rfl,.inr (.inl ⟨rfl,H⟩)⟩ (by omega)
 ·rw[if_pos (by simp)];refine ap (DL (i:=8) rfl H) ?_;rintro r w ⟨rfl,H⟩;rw[if_neg (by simp)];refine ap (DL (i:=9) rfl H) ?_;rintro r w ⟨rfl,H⟩;unfold AR;rw[if_neg (by simp),if_neg (by simp)];unfold zi;rw[if_neg (by simp),if_neg (by simp)];unfold zj;rw[if_neg (by simp),if_pos (by simp)];refine ap (JC (i:=10) rfl H) ?_;rintro r w ⟨rfl,H⟩;unfold zk;rw[if_neg (by simp),aQ (by omega)];exact b2 _ _ ⟨2,rfl,.inr (.inr (.inl ⟨rfl,H⟩))⟩ (by omega)
 ·rw[if_pos (by simp)];refine ap (DL (i:=11) rfl H) ?_;rintro r w ⟨rfl,H⟩;rw[if_neg (by simp)];refine ap (DL (i:=12) rfl H) ?_;rintro r w ⟨rfl,H⟩;unfold AR;rw[if_neg (by simp),if_neg (by simp)];unfold zi;rw[if_neg (by simp),if_neg (by simp)];unfold zj;rw[if_neg (by simp),if_neg (by simp)];unfold zk;rw[if_neg (by simp),aQ (by omega)];exact b2 _ _ ⟨3,rfl,.inr (.inr (.inr ⟨rfl,H⟩))⟩ (by omega)
 ·rw[if_neg (by simp)];refine ap (YW (i:=13) rfl H) ?_;rintro r w ⟨rfl,H⟩;rw[if_neg (by simp)];refine ap (CC (q7 14) H) ?_;intro r w H;have ab:=gn H;rw[anE] at ab;unfold Ft;rw[if_neg (by rw[ab]; simp)];have H:=H.drop;have e:wX (fG 14) 20 []=(fG 15,0):=zG (i:=14) rfl;have q:=acw (q7 14) (d:=20) (s:=fx) (xs:=[]) LC (by simp) H;rw[e] at q;refine ap q ?_;rintro r w ⟨rfl,H⟩;unfold Fu;rw[if_neg (by simp)];refine ap (YW (i:=15) rfl H) ?_;rintro r w ⟨rfl,H⟩;unfold Fv;rw[if_neg (by simp)];exact⟨au,rfl,H⟩
theorem YV{au i:Nat}{D:Int}{a:Int}(h:hT[i]?=some (la 13 D))(Y:(mA (fG i) D).2=(a,0))(H:E A (b8 au (fG i)::m) w):M Pg 25 [.pointer (some ⟨au,0,none⟩),.int .i64 D] (bo (B .i64) (B .i64)) w fun r J=>r=(a,0)∧E A (b8 au (fG (i+1))::m) J:=by
 have e:((mA (fG i) D).1,(mA (fG i) D).2.2)=(fG (i+1),0):=zG h;have aQ:(mA (fG i) D).1=fG (i+1):=congrArg Prod.fst e;have:=XZ (q7 i) (i:=D) H;rw[aQ,Y] at this;exact this
theorem tB(H:E A m w):M Pg 8 [] bf w fun r J=>r=true∧E A m J:=by
 refine ajj ?_;unfold Ns;refine ap (aHi H) ?_;rintro r w ⟨au,rfl,H⟩;rw[if_neg (by simp)];refine ap (CC (q7 16) H) ?_;intro t w H;rw[anF] at H;have aR:=gn H;obtain⟨p,am,H⟩:=kY (H.front 1);have BF:=anz;have aos:(fG 16).N.length=2:=congrArg Prod.fst BF;have o4:fP (fG 16) 1=0:=congrArg (fun z=>z.2.1) BF;have fg:=congrArg (fun z=>z.2.2) BF;simp only at fg;refine ap (YZ (id:=1) am (by omega) (by omega) H) ?_;rintro r w ⟨ab,H⟩;have ab:r=(2,1008):=by
  rw[ab,if_neg (by omega),aos];have aQ:Int.tmod 1 ((2:Nat):Int)=1:=by rfl
  rw[aQ,if_neg (by rw[o4]; omega)];have a6:(1:Int).toNat=1:=rfl;rw[a6];cases a0:(fG 16).N[1]? with
  |none=>rw[a0] at fg; cases fg
  |some b=>
   rw[a0] at fg;have fg:(b.P.lookup 1).map (fun p=>(p.bV,p.at_))=some (2,1008):=fg;show (match b.P.lookup 1 with | none=>((0:Int),(0:Int)) | some p=>(p.bV,p.at_))=_
   cases dZ:b.P.lookup 1 with
   |none=>rw[dZ] at fg; cases fg
   |some q=>rw[dZ] at fg; exact Option.some.inj fg
 subst ab;have H:=fE am H;refine ap (YV (i:=16) rfl anw H) ?_;rintro r w ⟨rfl,H⟩;refine ap (YV (i:=17) rfl anx H) ?_;rintro r w ⟨rfl,H⟩;refine ap (aGk (at_:=1010) (q7 18) H) ?_;rintro r w ⟨PQ,iI,H⟩;rw[anD] at PQ H;have tQ:=gn H;have H:=vz H;have df:bX (ro sA r.1 iI::uk iI 1010 [[⟨0,60⟩],[⟨1,40⟩]]::b8 au (fG 18)::row h9 53 3 t [⟨1,2,1008⟩]::m) (cT sA r.1 iI):=bX.here (y:=cT.mono);have dT:bX (ro sA r.1 iI::uk iI 1010 [[⟨0,60⟩],[⟨1,40⟩]]::b8 au (fG 18)::row h9 53 3 t [⟨1,2,1008⟩]::m) (oT iI 1010 [[⟨0,60⟩],[⟨1,40⟩]]):=(bX.here (y:=oT.mono)).tail;obtain⟨aV,_,PR⟩:=bX.pD dT H;have g1:iI.length=2:=PR.1;obtain⟨nC,gC,rfl⟩:∃ nC gC,iI=[⟨1010,nC⟩,⟨1010,gC⟩]:=by
  match iI,g1 with
  |[⟨np,nC⟩,⟨lD,gC⟩],_=>
   have ah:np=1010:=(PR.2 0 _ _ rfl rfl).1;have I:lD=1010:=(PR.2 1 _ _ rfl rfl).1;subst ah; subst I;exact⟨nC,gC,rfl⟩
 have gI:bX (ro sA r.1 [⟨1010,nC⟩,⟨1010,gC⟩]::uk [⟨1010,nC⟩,⟨1010,gC⟩] 1010 [[⟨0,60⟩],[⟨1,40⟩]]::b8 au (fG 18)::row h9 53 3 t [⟨1,2,1008⟩]::m) (Audit.uC r.1 [(⟨1010,nC⟩,[⟨0,60⟩]),(⟨1010,gC⟩,[⟨1,40⟩])]):=(df.and dT).imp fun aV h=>⟨h.1,fun p aF=>by
  simp only[List.mem_cons,List.mem_nil_iff,or_false] at aF;rcases aF with rfl | rfl
  ·exact (h.2.2 0 _ _ rfl rfl).2
  ·exact (h.2.2 1 _ _ rfl rfl).2⟩
 have H:=H.z6 (y:=Audit.uC.mono) gI
 refine ap (Audit.uQ (at_:=1010) (s:=r.1) (an:=[(⟨1010,nC⟩,[⟨0,60⟩]),(⟨1010,gC⟩,[⟨1,40⟩])]) (by simp) (fun p aF=>by
  simp only[List.mem_cons,List.mem_nil_iff,or_false] at aF
  rcases aF with rfl | rfl<;>simp) H) ?_
 rintro z w ⟨bD,H⟩;have bD:z=(100,0):=bD;subst bD;have NF:E A (row h9 53 3 t [⟨1,2,1008⟩]::_) w:=H.front 4;obtain⟨gr,JQ⟩:=kI (i:=0) NF (by omega) (by simp);refine aO gr (fun _=>JQ) ?_;refine aO ⟨1,2,1008⟩ (fun _=>mh (fun _=>rfl) JQ rfl NF) ?_;clear NF;have vW:=Audit.H4 H;obtain⟨k_,DU⟩:=yZ (ar:=2) (i:=0) vW (by omega) (by simp);refine aO k_ (fun _=>DU) ?_;refine aO nC (fun _=>JG (x:=(⟨1010,nC⟩:zs)) (fun _=>rfl) DU rfl rfl vW) ?_;refine aO k_ (fun _=>DU) ?_;refine aO nC (fun _=>JG (x:=(⟨1010,nC⟩:zs)) (fun _=>rfl) DU rfl rfl vW) ?_;have IS:=Audit.aek (p:=(⟨1010,nC⟩,[⟨0,60⟩])) (List.mem_cons_self ..) H;have a5:=EM IS;obtain⟨iW,JR⟩:=yZ (ar:=2) (i:=0) IS (by omega) (by simp);refine aO iW (fun _=>JR) ?_;refine aO 60 (fun _=>JG (x:=(⟨0,60⟩:kg)) (fun _=>rfl) JR rfl rfl IS) ?_;clear IS vW;have aQ:eW.gZ ⟨1,2,1008⟩ ⟨1,2,1008⟩=true:=(SL _ _).2 rfl;have a5:nC.len=1:=a5
 rw[if_pos (by rw[aR,aQ,PQ,tQ,a5]; simp)];obtain⟨p,am,H⟩:=kY (H.front 3);refine ap (Q9 H) ?_;rintro r w ⟨rfl,H⟩;rw[anC];unfold FN;rw[if_pos (by simp)];refine ap (acK (i:=1) am (q7 18).len.2 H) ?_;rintro r w ⟨rfl,H⟩;rw[anv];unfold FO;rw[if_pos (by simp)];refine ap (acK (i:=2) am (q7 18).len.2 H) ?_;rintro r w ⟨rfl,H⟩;rw[YT];unfold FP;rw[if_pos (by simp)];refine ap (LV (i:=2) am (q7 18) H) ?_;rintro r w (⟨_,rfl,H⟩ | ⟨h,_⟩)
 ·unfold FQ;rw[if_pos (by simp)];have H:=fE am H;refine ap (Ky (q7 18) H) ?_;intro r w H;have al:=gn H;rw[anB] at al;unfold FR;refine⟨by rw[al]; simp,?_⟩;exact H.drop.drop.drop.drop.drop.drop
 ·rw[YT] at h; cases h
end
def AN(p:aL)(aV:ch):Prop:=(p.x.N.len≤p.x.N.cap∧cT (B .i64) p.x.N p.N aV)∧p.x.gz.len≤p.x.gz.cap∧cT (B .i64) p.x.gz p.aa aV
def xO(o:bv)(id:Int):Int×Int:=if id<1 then (0,0) else if fP o (Int.tmod id o.N.length)≠0 then (0,0) else match (o.N[(Int.tmod id o.N.length).toNat]?).bind fun b=>b.P.lookup id with
 |none=>(0,0)
 |some p=>(p.bV,p.at_)
section
variable {A w:World} {m bL:List bu}
theorem Y4{au k:Nat}{o:bv}{ay:List e9}{p:aL}(a4:kQ k o ay)(aq:k≤49000)(di:tk p.x)(aF:bX m (AN p))(H:E A (b8 au o::m) w){aa:qK→Int→World→Prop}
  (b2:∀ s1 s2 w,E A (b8 au (gk o (o3 p)).1::m) w→aa { p.x with N:=s1,gz:=s2 } (gk o (o3 p)).2 w) :
  M Pg 13 [kX.enc p.x] kX w fun r w=>M Pg 14 [.pointer (some ⟨au,0,none⟩),kX.enc r] (B .i64) w fun e w=>aa r e w:=by
 have l7:p.x.N.len≤p.x.N.cap∧p.x.gz.len≤p.x.gz.cap:=by
  obtain⟨aV,_,h⟩:=bX.pD aF H.drop;exact⟨h.1.1,h.2.1⟩
 refine ap (OP l7.1 l7.2 (aF.tail.imp fun _ h=>h.1.2) (aF.tail.imp fun _ h=>h.2.2) H) ?_;rintro r w ⟨s1,s2,rfl,H⟩;have H:E A (b8 au o::ro (B .i64) s1 (p.N.take 10)::ro (B .i64) s2 (p.aa.take 4)::m) w:=H.front 2;have gC:dc 1 (ro (B .i64) s1 (p.N.take 10)::ro (B .i64) s2 (p.aa.take 4)::m) (B .i64) s1 (p.N.take 10):=dc.ro (fun _=>rfl) (bX.here (y:=cT.mono));have f_:dc 1 (ro (B .i64) s1 (p.N.take 10)::ro (B .i64) s2 (p.aa.take 4)::m) (B .i64) s2 (p.aa.take 4):=dc.ro (fun _=>rfl) (bX.here (y:=cT.mono)).tail;refine ap (Js (a4.ok (by omega)) a4.cK ⟨di.n⟩ gC f_ (by rw[List.length_take]; omega) (by rw[List.length_take]; omega) H) ?_;rintro r w ⟨ab,H⟩;have e:gk o ⟨{ p.x with N:=s1,gz:=s2 },p.N.take 10,p.aa.take 4⟩=gk o (o3 p):=rfl;rw[e] at ab H;subst ab;exact b2 s1 s2 w ((H.ord [1,2]).drop.drop)
theorem uV{au k:Nat}{o:bv}{ay:List e9}{id:Int}(a4:kQ k o ay)(aq:k≤49000)(H:E A (b8 au o::m) w):M Pg 16 [.pointer (some ⟨au,0,none⟩),.int .i64 id] (bo (B .i64) (B .i64)) w fun r J=>r=xO o id∧E A (b8 au o::m) J:=by
 obtain⟨p,am,H⟩:=kY H;have aK:=a4.pos;have al:=a4.len;refine ap (YZ am (by omega) (by omega) H) ?_;rintro r w ⟨ab,H⟩;exact⟨ab,fE am H⟩
end
end Cluster
section
open bb
end
namespace Cluster
open bb Wire Disk Vault Clock Shard Num Store
def vU(xs:List dI)(aT:List (Int×ps)):Prop:=∀ id f,aT.lookup id=some f→(f.h5=2→∃ x∈xs,x.Kind=3∧x.aD=id∧x.bW=f.gL)∧(f.h5=3→∃ x∈xs,x.Kind=4∧x.aD=id)
theorem vU.more{xs:List dI}{aT:List (Int×ps)}(h:vU xs aT)(x:dI):vU (xs++[x]) aT:=fun id f am=>by
 obtain⟨a,l⟩:=h id f am;exact⟨fun e=>by obtain⟨S,aB,e⟩:=a e; exact⟨S,List.mem_append_left _ aB,e⟩,fun e=>by obtain⟨S,aB,e⟩:=l e; exact⟨S,List.mem_append_left _ aB,e⟩⟩
theorem vU.put{xs:List dI}{aT:List (Int×ps)}(h:vU xs aT){x:dI}{k:Int}{f:ps}(O:f.h5=2→x.Kind=3∧x.aD=k∧x.bW=f.gL)(aH:f.h5=3→x.Kind=4∧x.aD=k):vU (xs++[x]) (eH k f aT):=fun id g R=>by
 rw[sZ] at R;split at R
 ·rename_i e;have e:=eq_of_beq e;subst e;cases R;exact⟨fun e=>⟨x,List.mem_append_right _ (List.mem_singleton.2 rfl),O e⟩,fun e=>⟨x,List.mem_append_right _ (List.mem_singleton.2 rfl),aH e⟩⟩
 ·exact h.more x id g R
def ng(e:Int):Prop:=e=0∨(70≤e∧e≤81)
theorem XD{K:cJ}{n s:Int}{f:dR→dR}:ng (j3 K n s f).2:=by
 unfold j3 ng
 repeat' split
 all_goals simp
theorem Ge{K:cJ}{V:nm}{x:List UInt8}(h:x.length≤65536):ng (gj K V x).2.2:=by
 unfold gj;split
 ·exact .inr ⟨by show (70:Int)≤81; omega,by show (81:Int)≤81; omega⟩
 ·rw[if_neg (by omega)];exact XD
theorem akA{K:cJ}{V:nm}:ng (gp K V).2.2:=by
 unfold gp;split
 ·exact .inr ⟨by show (70:Int)≤81; omega,by show (81:Int)≤81; omega⟩
 ·exact XD
theorem qW:ng 0:=.inl rfl
theorem Ob:ng 71:=.inr ⟨by omega,by omega⟩
def xo(b cC:bi):Prop:=cC.K.down=b.K.down∧cC.P=b.P∧cC.W.v=b.W.v
theorem aj3{v:c4}{x:dI}(aq:x.Kind=1∨x.Kind=5∨x.Kind=6)(he:(mS v x).2≠0):(mS v x).1=v:=by
 unfold mS at he ⊢;rcases aq with aq | aq | aq
 ·rw[if_pos aq] at he ⊢;unfold yP at he ⊢
  repeat' split
  all_goals first
   |rfl
   |(rename_i I O aH bg; rw[if_neg I,if_neg O,if_neg aH,if_neg bg] at he; exact absurd rfl he)
 ·rw[if_neg (by omega),if_neg (by omega)] at he ⊢;unfold oo at he ⊢;rw[if_neg (by omega),if_neg (by omega),if_pos aq] at he ⊢;unfold q2 at he ⊢;split
  ·rfl
  ·split
   ·rfl
   ·rename_i I O;rw[if_neg I,if_neg O] at he;exact absurd rfl he
 ·rw[if_neg (by omega),if_neg (by omega)] at he ⊢;unfold oo at he ⊢;rw[if_neg (by omega),if_neg (by omega),if_neg (by omega)] at he ⊢;unfold EI at he ⊢;have aF:vt v.W x.bW≠0:=fun e=>by rw[e] at he; exact he rfl
  unfold sc;rw[if_neg aF]
section
variable {f n c k:Nat} {W:gx} {Q:cN→Prop} {b cC:bi} {g:e9}
theorem Sg(m:xn f n c b g)(cs:nk n c k W Q g)(aq:k≤50000){x:dI}(F:p4 W x)(b2:x.Kind=1∨x.Kind=5∨x.Kind=6)(ao:¬ ng (fN b.K b.W x).2.2):(fN b.K b.W x).1.down=false∧(fN b.K b.W x).2.1.v=b.W.v:=by
 rcases Ym m cs aq F with ⟨d_,e,kB⟩ | ⟨cy,_,_,_,_,e⟩
 ·rw[e] at ao ⊢;exact⟨kB.up,aj3 b2 fun h=>ao (by simp only; rw[h]; exact qW)⟩
 ·rw[e] at ao;exact absurd Ob ao
theorem aGe(h:ev f n c k W Q b g)(ag:b.K.down=false)(aq:k≤49000){a y:Int}(Y:0≤a∧a<4096)(hm:-9223372036854775808≤y∧y≤9223372036854775807)(ao:¬ ng (yO b a y).2):xo b (yO b a y).1:=by
 unfold yO at ao ⊢;have aG:=LI (rd:=b.cv) (N:=[]) h.bQ.ax h.bQ.src;have al:=At (ax:=b.ax) (rd:=b.cv) (N:=[]) h.bQ.src.2;generalize gw b.ax b.cv b.src []=s at aG al ao;have I:=wS h aG.1 aG.2;unfold yN at ao ⊢;split
 ·exact⟨rfl,rfl,rfl⟩
 ·rename_i ah;rw[if_neg ah] at ao;have aR:=al.2 (Classical.not_not.1 ah);have F:p4 W ⟨1,s.2.2.1,0,a,y,false⟩:=⟨⟨by simp,by simp only; omega,by simp,by simp only; omega,hm⟩,⟨by show (1:Int)≤1; omega,by show (1:Int)≤6; omega⟩,by show (0:Int)≤_; omega,fun e=>absurd e (by show (1:Int)≠3; omega),fun e=>absurd e (by show (1:Int)≠4; omega)⟩
  unfold EC at ao ⊢;split
  ·rename_i bD;rw[if_pos bD] at ao;obtain⟨lD,aX⟩:=Sg (I.live ag) I.cs (by omega) F (.inl rfl) ao;exact⟨lD.trans ag.symm,rfl,aX⟩
  ·rename_i bD;rw[if_neg bD] at ao;exact absurd akA ao
theorem aGd{x:om}(F:jq x=0)(ao:¬ ng (s4 n b x).2):xo b (s4 n b x).1:=by
 unfold s4 at ao ⊢;split
 ·exact⟨rfl,rfl,rfl⟩
 ·rename_i ah;rw[if_neg ah] at ao;have g1:=DG (Eb (k:=1) (t:=0) (by omega) F (by omega));unfold B5 at ao;split at ao
  ·exact absurd (Ge (by omega)) ao
  ·exact absurd qW ao
theorem aGb{y:Nat}(h:ev f n c k W Q b g){id:Int}(ao:¬ ng (rN y b id).2):xo b (rN y b id).1:=by
 unfold rN at ao ⊢;cases al:b.P.lookup id with
 |none=>exact⟨rfl,rfl,rfl⟩
 |some p=>
  rw[al] at ao;simp only at ao ⊢;split
  ·exact⟨rfl,rfl,rfl⟩
  ·rename_i ah;rw[if_neg ah] at ao;have g1:=DG (Eb (k:=3) (t:=0) (by omega) (h.bQ.lS _ _ al).2 (by omega));unfold nT at ao;simp only at ao;split at ao
   ·exact absurd qW ao
   ·exact absurd (Ge (by omega)) ao
theorem aGc(h:ev f n c k W Q b g)(ag:b.K.down=false)(aq:k≤49000)(ao:¬ ng (rP b).2.2):xo b (rP b).1:=by
 unfold rP at ao ⊢;have tO:=h.bQ.ax.now b.cv;generalize e3 b.ax b.cv=s at tO ao;have I:=wS h tO.1 h.bQ.src;unfold xF at ao ⊢;split
 ·exact⟨rfl,rfl,rfl⟩
 ·rename_i ah;rw[if_neg ah] at ao;have GO:=tO.2 (Classical.not_not.1 ah);unfold nr eY at GO;have rV:=Oh h.bQ.fit (t:=s.2.1.gO) (by omega) (by omega);generalize uS b.W.v s.2.1.gO=t at rV ao;have F:p4 W ⟨5,t,0,0,0,false⟩:=⟨⟨by simp,by simp only; omega,by simp,by simp,by simp⟩,⟨by show (1:Int)≤5; omega,by show (5:Int)≤6; omega⟩,by show (0:Int)≤_; omega,fun e=>absurd e (by show (5:Int)≠3; omega),fun e=>absurd e (by show (5:Int)≠4; omega)⟩
  unfold Dx at ao ⊢;split
  ·rename_i bD;rw[if_pos bD] at ao;obtain⟨lD,aX⟩:=Sg (I.live ag) I.cs (by omega) F (.inr (.inl rfl)) ao;exact⟨lD.trans ag.symm,rfl,aX⟩
  ·rename_i bD;rw[if_neg bD] at ao;exact absurd qW ao
theorem aGf(h:ev f n c k W Q b g)(ag:b.K.down=false)(aq:k≤49000){t:Int}(aR:-9223372036854775808≤t∧t≤9223372036854775807)(ao:¬ ng (EH b t).2):xo b (EH b t).1:=by
 have F:p4 W ⟨6,t,0,0,0,false⟩:=⟨⟨by simp,aR,by simp,by simp,by simp⟩,⟨by show (1:Int)≤6; omega,by show (6:Int)≤6; omega⟩,by show (0:Int)≤_; omega,fun e=>absurd e (by show (6:Int)≠3; omega),fun e=>absurd e (by show (6:Int)≠4; omega)⟩
 obtain⟨lD,aX⟩:=Sg (h.live ag) h.cs (by omega) F (.inr (.inr rfl)) ao;exact⟨lD.trans ag.symm,rfl,aX⟩
end
structure ly(o fU:bv):Prop where
 now:fU.now=o.now
 aY:fU.aY.m=o.aY.m
 told:fU.told=o.told
 len:fU.N.length=o.N.length
 nodes:∀ (i:Nat) (cC:bi),fU.N[i]?=some cC→∃ b,o.N[i]?=some b∧xo b cC
theorem ly.qt(o:bv):ly o o:=⟨rfl,rfl,rfl,rfl,fun i cC h=>⟨cC,h,rfl,rfl,rfl⟩⟩
theorem Sp{o:bv}{i:Nat}{b cC:bi}(a0:o.N[i]?=some b)(h:xo b cC):ly o (kK o i cC):=by
 refine⟨rfl,rfl,rfl,List.length_set ..,fun y eA O=>?_⟩;have O:(o.N.set i cC)[y]?=some eA:=O;by_cases e:i=y
 ·subst e;rw[List.getElem?_set_self (List.getElem?_eq_some_iff.1 a0).1] at O;cases O;exact⟨b,a0,h⟩
 ·rw[List.getElem?_set_ne e] at O;exact⟨eA,O,rfl,rfl,rfl⟩
section
variable {k:Nat} {o:bv} {ay:List e9}
theorem H1(h:kQ k o ay){i:Int}{f:bi→bi×Int}(am:∀ b g,0≤i→b.K.down=false→ev o.ek.gA ay.length i.toNat k (kW ay) (fun _=>True) b g→¬ ng (f b).2→xo b (f b).1)(ao:¬ ng (m2 o i f).2):ly o (m2 o i f).1:=by
 by_cases Y:fP o i=0
 ·obtain⟨b,ah,a0,ag⟩:=rO Y;rw[pS ah a0 ag] at ao ⊢;obtain⟨g,R,a4⟩:=h.sI a0;exact Sp a0 (am b g ah ag a4 ao)
 ·rw[vp Y];exact ly.qt o
theorem Lr{i:Int}{f:bi→bi×Int}(am:∀ b,o.N[i.toNat]?=some b→¬ ng (f b).2→xo b (f b).1)(ao:¬ ng (qG o i f).2):ly o (qG o i f).1:=by
 by_cases U:i<0∨(o.N.length:Int)≤i
 ·rw[CH U];exact ly.qt o
 ·have a0:o.N[i.toNat]?=some (o.N[i.toNat]'(by omega)):=List.getElem?_eq_getElem (by omega);rw[zb (by omega) a0] at ao ⊢;exact Sp a0 (am _ a0 ao)
theorem aGg(h:kQ k o ay)(aq:k≤49000){a:aL}(ok:tk a.x)(ao:¬ ng (gk o a).2)(bg:¬ ((gk o a).2=203∧a.x.Kind=4)):ly o (gk o a).1:=by
 unfold gk at ao bg ⊢;by_cases c:a.x.Kind=0
 ·rw[if_pos c] at ao bg ⊢;unfold wX at ao ⊢;split
  ·exact ly.qt o
  ·rename_i ah; rw[if_neg ah] at ao; exact absurd qW ao
 rw[if_neg c] at ao bg ⊢; clear c;by_cases c:a.x.Kind=1
 ·rw[if_pos c] at ao bg ⊢;unfold vr at ao ⊢;split
  ·exact ly.qt o
  ·rename_i ah;rw[if_neg ah] at ao;exact H1 h (fun b g _ ag a4 ao=>aGe a4 ag aq (by omega) ok.n ao) ao
 rw[if_neg c] at ao bg ⊢; clear c;by_cases c:a.x.Kind=2
 ·rw[if_pos c] at ao bg ⊢;unfold pQ at ao ⊢;split
  ·exact ly.qt o
  ·rename_i ah;rw[if_neg ah] at ao;exact H1 h (fun b g _ ag a4 ao=>aGd (Classical.not_not.1 ah) ao) ao
 rw[if_neg c] at ao bg ⊢; clear c;by_cases c:a.x.Kind=3
 ·rw[if_pos c] at ao bg ⊢;unfold qz at ao ⊢;by_cases Y:fP o a.x.aN=0
  ·rw[if_neg (fun e=>e Y)] at ao;obtain⟨b,ah,a0,ag⟩:=rO Y;obtain⟨g,R,a4⟩:=h.sI a0;obtain⟨_,_,_,bD⟩:=Q5 a4 ag;simp only[pS ah a0 ag] at ao;rcases bD with ⟨e,_⟩ | ⟨e,_⟩
   ·exact absurd (by rw[e]; exact Ob) ao
   ·exact absurd (by rw[e]; exact qW) ao
  ·rw[if_pos Y];exact ly.qt o
 rw[if_neg c] at ao bg ⊢; clear c;by_cases c:a.x.Kind=4
 ·rw[if_pos c] at ao bg ⊢;unfold pB at ao bg ⊢;by_cases bY:(o.aY.take a.x.aN).2.2=0
  ·rw[if_neg (fun e=>e bY)] at ao bg;obtain⟨hm,D7⟩:=SG bY;have F:=h.aY _ hm;have al:=h.len;have a0:o.N[(o.aY.take a.x.aN).2.1.fv.toNat]?=some (o.N[(o.aY.take a.x.aN).2.1.fv.toNat]'(by omega)):=List.getElem?_eq_getElem (by omega);generalize o.N[(o.aY.take a.x.aN).2.1.fv.toNat]'(by omega)=b at a0;by_cases ag:b.K.down=true
   ·have Y:fP { o with aY:=(o.aY.take a.x.aN).1 } (o.aY.take a.x.aN).2.1.fv=203:=by
     unfold fP;rw[if_neg (by omega)];simp only[a0,ag];simp
    rw[vp (by rw[Y]; omega)] at bg;exact absurd ⟨Y,c⟩ bg
   ·rw[pS (o:={ o with aY:=(o.aY.take a.x.aN).1 }) F.2.2.1 a0 (by simpa using ag)] at ao;exact absurd qW ao
  ·rw[if_pos bY];exact ly.qt o
 rw[if_neg c] at ao bg ⊢; clear c;by_cases c:a.x.Kind=5
 ·rw[if_pos c] at ao bg ⊢;unfold xI at ao ⊢;split
  ·exact ly.qt o
  ·rename_i ah;rw[if_neg ah] at ao;simp only at ao;rw[Post.dB.acM _ _ fun e=>ao (by rw[e]; exact qW)];exact ly.qt o
 rw[if_neg c] at ao bg ⊢; clear c;by_cases c:a.x.Kind=6
 ·rw[if_pos c] at ao bg ⊢;unfold B0 at ao ⊢;simp only at ao ⊢;rw[if_neg fun e=>ao (by rw[e]; exact qW)];exact ly.qt o
 rw[if_neg c] at ao bg ⊢; clear c;by_cases c:a.x.Kind=7
 ·rw[if_pos c] at ao bg ⊢;unfold nS at ao ⊢;split
  ·exact ly.qt o
  ·rename_i ah; rw[if_neg ah] at ao; exact absurd qW ao
 rw[if_neg c] at ao bg ⊢; clear c;by_cases c:a.x.Kind=8
 ·rw[if_pos c] at ao bg ⊢;exact Lr (fun b _ ao=>absurd qW ao) ao
 rw[if_neg c] at ao bg ⊢; clear c;by_cases c:a.x.Kind=9
 ·rw[if_pos c] at ao bg ⊢;exact Lr (fun b _ ao=>absurd qW ao) ao
 rw[if_neg c] at ao bg ⊢; clear c;by_cases c:a.x.Kind=10
 ·rw[if_pos c] at ao bg ⊢;simp only at ao;refine Lr (f:=oL o.ek.gA) (fun b a0 ao=>?_) fun zM=>ao ?_
  ·obtain⟨g,R,a4⟩:=h.sI a0;obtain⟨_,_,_,bD⟩:=Q6 h.ey a4;rcases bD with ⟨e,_⟩ | ⟨e,_⟩
   ·exact absurd (by rw[e]; exact Ob) ao
   ·exact absurd (by rw[e]; exact qW) ao
  ·have zM:ng (nJ o a.x.aN).2:=zM;unfold ng at zM ⊢;omega
 rw[if_neg c] at ao bg ⊢; clear c;by_cases c:a.x.Kind=11
 ·rw[if_pos c] at ao bg ⊢;exact H1 h (fun b g _ ag a4 ao=>absurd qW ao) ao
 rw[if_neg c] at ao bg ⊢; clear c;by_cases c:a.x.Kind=12
 ·rw[if_pos c] at ao bg ⊢;unfold te at ao ⊢;by_cases Y:fP o a.x.aN=0
  ·rw[if_neg (fun e=>e Y)] at ao;obtain⟨b,ah,a0,ag⟩:=rO Y;rw[a0] at ao;exact absurd qW ao
  ·rw[if_pos Y];exact ly.qt o
 rw[if_neg c] at ao bg ⊢; clear c;by_cases c:a.x.Kind=13
 ·rw[if_pos c] at ao bg ⊢;simp only at ao ⊢;unfold mA at ao ⊢;by_cases Y:fP o a.x.aN=0
  ·rw[if_neg (fun e=>e Y)] at ao ⊢;obtain⟨b,ah,a0,ag⟩:=rO Y;rw[a0] at ao ⊢;obtain⟨g,R,a4⟩:=h.sI a0;exact Sp a0 (aGc a4 ag aq ao)
  ·rw[if_pos Y];exact ly.qt o
 rw[if_neg c] at ao bg ⊢; clear c;by_cases c:a.x.Kind=14
 ·rw[if_pos c] at ao bg ⊢;exact H1 h (fun b g _ ag a4 ao=>aGf a4 ag aq ok.n ao) ao
 rw[if_neg c] at ao bg ⊢; clear c;by_cases c:a.x.Kind=15
 ·rw[if_pos c] at ao bg ⊢;exact Lr (fun b _ ao=>⟨rfl,rfl,rfl⟩) ao
 rw[if_neg c] at ao bg ⊢; clear c;by_cases c:a.x.Kind=16
 ·rw[if_pos c] at ao bg ⊢;unfold xA at ao ⊢;split
  ·exact ly.qt o
  ·rename_i ah;rw[if_neg ah] at ao;exact H1 h (fun b g _ ag a4 ao=>aGb a4 ao) ao
 rw[if_neg c] at ao bg ⊢; clear c;exact ly.qt o
theorem ly.fP{o fU:bv}(h:ly o fU)(i:Int):Cluster.fP fU i=Cluster.fP o i:=by
 unfold Cluster.fP;by_cases ah:i<0
 ·rw[if_pos ah,if_pos ah]
 ·rw[if_neg ah,if_neg ah];cases a0:fU.N[i.toNat]? with
  |none=>
   have I:=h.len;have O:=List.getElem?_eq_none_iff.1 a0;rw[List.getElem?_eq_none (by omega)]
  |some cC=>
   obtain⟨b,I,O⟩:=h.nodes _ _ a0;rw[I];simp only;rw[O.1]
theorem ly.bV{o fU:bv}(h:ly o fU)(id:Int):xO fU id=xO o id:=by
 unfold xO;rw[h.len,h.fP];split
 ·rfl
 ·split
  ·rfl
  ·cases a0:fU.N[(Int.tmod id o.N.length).toNat]? with
   |none=>
    have I:=h.len;have O:=List.getElem?_eq_none_iff.1 a0;rw[List.getElem?_eq_none (by omega)]
   |some cC=>
    obtain⟨b,I,O⟩:=h.nodes _ _ a0;rw[I];show (match cC.P.lookup id with | none=>((0:Int),(0:Int)) | some p=>(p.bV,p.at_))=(match b.P.lookup id with | none=>((0:Int),(0:Int)) | some p=>(p.bV,p.at_))
    rw[O.2.1]
end
theorem AN.mono{p:aL}{aV g5:ch}(h:ch.le aV g5):AN p aV→AN p g5:=fun O=>⟨⟨O.1.1,cT.mono h O.1.2⟩,O.2.1,cT.mono h O.2.2⟩
theorem aCn(x:W3):gW.gZ x x=true:=by simp[gW.gZ,ij.gZ,iv.gZ]
section
variable {A w:World} {m bL:List bu}
theorem SV{au:Nat}{o:bv}{i:Int}(k:kR o)(H:E A (b8 au o::m) w):M Pg 9 [.pointer (some ⟨au,0,none⟩),.int .i64 i] aE w fun r J=>
  (fP o i≠0∧r=none∧E A (b8 au o::m) J)∨(fP o i=0∧∃ (b:bi) (dn:Nat) (b6:bu),o.N[i.toNat]?=some b∧r=some ⟨dn,0,none⟩∧E A (eQ dn b.W.v::b6::m) J∧∀ w m,E A (eQ dn b.W.v::b6::m) w→E A (b8 au o::m) w):=by
 obtain⟨p,am,H⟩:=kY H;refine ap (LV (i:=i) am k H) ?_;rintro r w (⟨I,rfl,H⟩ | ⟨I,aZ,b,q,ah,a5,a0,R,rfl,H⟩)
 ·exact .inl ⟨I,rfl,fE am H⟩
 ·refine .inr ⟨I,b,q.dn,dt [aI aZ (j1.cells (n1 b q)) 101,j4 q.ax b.ax,er q.d b.K,oH q.src b.src,kt q.iJ q.e6 q.dn,h4 q.e6 q.d b.W.V,h4 q.cs q.d b.A,cZ aE .i64 q.jE (q.Q.map iR),dt (q.Q.map lR),cZ fm .i64 q.pi q.qx,row mz 161 8 q.out b.out,aI au (gG.cells (iA o p)) 114,row aE 89 1 p.nodes (p.Q.map kE),dt ((p.Q.eraseIdx i.toNat).map hj),Post.hJ p.aY o.aY,cZ fm .i64 p.kD p.rn,row kh 53 3 p.told o.told],a0,rfl,?_,fun w m H=>?_⟩
  ·exact (E.shut (bL:=[_,_,_,_,_,_,_,_,_,_,_,_,_,_,_,_,_]) (H.ord [0,1,2,3,4,5,7,8,9,10,11,12,13,14,15,16,17,6])).ord [1,0]
  ·have H:=E.open_ (H.front 1);have H:E A (eT aZ b q (hP au o p i.toNat m)) w:=H.ord [0,1,2,3,4,5,17,6,7,8,9,10,11,12,13,14,15,16];exact fE am (wT a5 (g7 R H))
end
theorem aGh(A:World)(c:rF)(s:af)(x:qK)(gc:xm A c)(br:tn A s)(eN:FV A x) :
  M Pg 6 [gi.enc c,X.enc s,kX.enc x] bf A fun r lB=>r=true∧RowKit.Below A.heap.size A lB:=by
 obtain⟨cf,ub,cP⟩:=F8 br;obtain⟨S,rfl,cU,gS,mo⟩:=Xq eN;have df:=Hr (wJ A) cP;have dT:bX [old A] (AN S):=(wJ A).imp fun _ a4=>AN.mono a4 ⟨gS,mo⟩;have H:=E.start A;have done:∀ {r:Bool} {w:World} {N:List bu},r=true→E A (N++[old A]) w→r=true∧RowKit.Below A.heap.size A w:=fun {r w N} ab H=>⟨ab,bX.below ((wJ A).l4 N) H⟩
 refine aiY ?_;unfold Nk;refine bH H fun l w H=>?_;refine bH H fun dX w H=>?_;refine ec (x:=c) 1 H rfl ?_;refine ap (HP gc.2.1 gc.2.2.1 ub df.tail.tail H) ?_;rintro⟨gJ,bs,ga⟩ w ⟨I,O⟩;by_cases U:p3 c
 ·obtain⟨au,ab,H⟩:=O U;simp only at ab;subst ab;refine ec (x:=c) 2 H rfl ?_;refine ap (HP gc.2.1 gc.2.2.1 ub df.tail.tail.tail H) ?_;rintro⟨gC,f_,Aj⟩ w ⟨_,aH⟩;obtain⟨q1,ab,H⟩:=aH U;simp only at ab;subst ab;refine ap (tB H) ?_;rintro r w ⟨rfl,H⟩;rw[if_neg (by simp)];have zO:kQ 0 (lO c) _:=Du U;obtain⟨k4,lH,_,Zv,DX,_⟩:=Bk (cf:=kA (cf.take 60)) zO (JD fun a Y=>ub a (List.mem_of_mem_take Y)) (by unfold kA; rw[List.length_map,List.length_take]; omega);have l8:0+2*(kA (cf.take 60)).length≤120:=by unfold kA; rw[List.length_map,List.length_take]; omega
  have lH:=lH.mono l8;have qd:c.hA=(k4.length:Int):=by rw[← lH.iJ,DX]; rfl
  have PG:=lH.pos;generalize ql (lO c) (kA (cf.take 60))=o at *;refine ec (x:=S.x) 2 H rfl ?_;have H:E A (b8 au o::b8 q1 o::aI dX (kX.cells S.x) 35::aI l (gi.cells c) 24::[old A]) w:=H.front 1;refine Y4 lH (by omega) cU dT.tail.tail.tail H fun s1 s2 w H=>?_;refine aO S.x.Kind (fun _=>bE (B .i64) (H.front 2) rfl rfl) ?_;split
  ·exact done (N:=[_,_,_,_]) rfl H
  ·rename_i u7;have ao:¬ ng (gk o (o3 S)).2:=by
    intro h;unfold ng at h;apply u7;simp only[Bool.or_eq_true,Bool.and_eq_true,beq_iff_eq,decide_eq_true_eq];rcases h with h | h
    ·exact .inl (.inl h)
    ·exact .inl (.inr h)
   have bg:¬ ((gk o (o3 S)).2=203∧(o3 S).x.Kind=4):=by
    intro h;apply u7;simp only[Bool.or_eq_true,Bool.and_eq_true,beq_iff_eq,decide_eq_true_eq];exact .inr h
   have eX:=aGg lH (by omega) (a:=o3 S) cU ao bg;obtain⟨vV,Bu,_⟩:=Og lH (by omega) (a:=o3 S) cU;generalize (gk o (o3 S)).1=fU at *;have yM:=lH.ok (by omega);have Rk:=Bu.ok (by omega);refine ap (Ky Rk H) ?_;intro vL w H;have PW:=gn H;rw[eX.aY] at H PW;have H:=vz H;refine ap (Ky yM (H.front 2)) ?_;intro tf w H;have ara:=gn H;have H:=vz H;obtain⟨p,am,H⟩:=kY (H.front 3);refine ap (Q9 H) ?_;rintro r w ⟨rfl,H⟩;have H:=fE am H;obtain⟨p,am,H⟩:=kY (H.front 2);refine ap (Q9 H) ?_;rintro r w ⟨rfl,H⟩;have H:=fE am H;rw[if_neg (by rw[eX.now,PW,ara]; simp)];refine ap (CC Rk (H.front 1)) ?_;intro t1 w H;have H:=vz H;refine ap (CC yM (H.front 2)) ?_;intro t2 w H;have H:=vz H;rw[eX.told] at H;have abk:bX (ro h9 t2 o.told::b8 q1 o::ro h9 t1 o.told::b8 au fU::ro uE tf o.aY.m::ro uE vL o.aY.m::aI dX (kX.cells S.x) 35::aI l (gi.cells c) 24::[old A]) (cT h9 t2 o.told):=bX.here (y:=cT.mono)
   have abj:bX (ro h9 t2 o.told::b8 q1 o::ro h9 t1 o.told::b8 au fU::ro uE tf o.aY.m::ro uE vL o.aY.m::aI dX (kX.cells S.x) 35::aI l (gi.cells c) 24::[old A]) (cT h9 t1 o.told):=(bX.here (y:=cT.mono)).tail.tail;have ym:=lH.w7;refine ap (Ij (by omega) abj abk H) ?_;rintro r w ⟨ab,H⟩;rw[ab rfl];unfold FJ;rw[if_neg (by simp)];have H:E A (b8 au fU::b8 q1 o::ro uE tf o.aY.m::ro uE vL o.aY.m::aI dX (kX.cells S.x) 35::aI l (gi.cells c) 24::[old A]) w:=((H.ord [0,2]).drop.drop).ord [1,0];have mB:=lH.s5;refine hU (fun i w=>∃ D:Nat,i=(D:Int)∧D≤o.aY.m.length∧E A (b8 au fU::b8 q1 o::ro uE tf o.aY.m::ro uE vL o.aY.m::aI dX (kX.cells S.x) 35::aI l (gi.cells c) 24::[old A]) w) (fun i=>((o.aY.m.length:Int)-i).toNat) ⟨0,rfl,by omega,H⟩ ?_;clear H abj abk ab;rintro i w ⟨D,rfl,bI,H⟩ aa b2;unfold Nm;rw[PW];split
   ·rename_i dN;have dN:D<o.aY.m.length:=by
     have:(D:Int)<o.aY.m.length:=by simpa using dN
     omega
    have aQ:IntKind.i64.wrap ((D:Int)+1)=((D+1:Nat):Int):=by rw[wrap_i64 (by omega) (by omega)]; omega
    have F:o.aY.m[((D:Int)).toNat]?=some (o.aY.m[D]'dN):=by rw[Int.toNat_natCast]; exact List.getElem?_eq_getElem dN
    generalize o.aY.m[D]'dN=z at F;refine dg H fun w H=>?_;obtain⟨lD,ZB⟩:=yZ (ar:=10) (i:=(D:Int)) (H.front 3) (by omega) (by omega);obtain⟨aX,pE⟩:=yZ (ar:=10) (i:=(D:Int)) (H.front 2) (by omega) (by omega);refine aO lD ZB ?_;refine aO aX pE ?_;refine aO z (Ap (fun _=>rfl) ZB F (H.front 3)) ?_;refine aO z (Ap (fun _=>rfl) pE F (H.front 2)) ?_;rw[if_neg (by rw[aCn]; simp),aQ];exact b2 _ _ ⟨D+1,rfl,by omega,H⟩ (by omega)
   ·have H:E A (b8 au fU::b8 q1 o::aI l (gi.cells c) 24::[old A]) w:=(((H.front 2).drop.front 2).drop.front 2).drop;have ys:bX (b8 q1 o::aI l (gi.cells c) 24::[old A]) (cT kX s (cf.map (·.x))):=(df.imp fun _ h=>h.1).tail.tail;have aG:=ys.len H.drop;rw[List.length_map] at aG;refine hU (fun i w=>∃ D:Nat,i=(D:Int)∧D≤cf.length∧D≤60∧E A (b8 au fU::b8 q1 o::aI l (gi.cells c) 24::[old A]) w) (fun i=>((60:Int)-i).toNat) ⟨0,rfl,by omega,by omega,H⟩ ?_;clear H b2 aa;clear bI;rintro i w ⟨D,rfl,bI,D3,H⟩ aa b2;unfold Nn;rw[aG];split
    ·rename_i dN;have dN:D<cf.length∧D<60:=by simp at dN; omega
     have aQ:IntKind.i64.wrap ((D:Int)+1)=((D+1:Nat):Int):=by rw[wrap_i64 (by omega) (by omega)]; omega
     obtain⟨a,Y⟩:=ys.tail.iq (ar:=10) (i:=(D:Int)) H (by omega) (by rw[List.length_map]; omega);have F:(cf.map (·.x))[((D:Int)).toNat]?=some (cf[D]'dN.1).x:=by rw[Int.toNat_natCast,List.getElem?_map,List.getElem?_eq_getElem dN.1]; rfl
     generalize (cf[D]'dN.1).x=x at F;refine aO a Y ?_;refine aO x.b6.aD (ys.tail.Y_ (G:=4) (KV:=0) (fun _=>rfl) Y F rfl H) ?_;refine ap (uV Bu (by omega) H) ?_;rintro r w ⟨rfl,H⟩;refine aO a Y ?_;refine aO x.b6.aD (ys.tail.Y_ (G:=4) (KV:=0) (fun _=>rfl) Y F rfl H) ?_;refine ap (uV lH (by omega) (H.front 1)) ?_;rintro r w ⟨rfl,H⟩;rw[eX.bV,if_neg (by simp),aQ];exact b2 _ _ ⟨D+1,rfl,by omega,by omega,H.front 1⟩ (by omega)
    ·refine hU (fun i w=>∃ D:Nat,i=(D:Int)∧D≤k4.length∧E A (b8 au fU::b8 q1 o::aI l (gi.cells c) 24::[old A]) w) (fun i=>((k4.length:Int)-i).toNat) ⟨0,rfl,by omega,H⟩ ?_;clear H b2 aa;clear bI;rintro i w ⟨D,rfl,bI,H⟩ aa b2;unfold No;refine aj (x:=c.hA) 2 H rfl rfl rfl ?_;rw[qd];split
     ·rename_i dN;have dN:D<k4.length:=by
       have:(D:Int)<k4.length:=by simpa using dN
       omega
      have aQ:IntKind.i64.wrap ((D:Int)+1)=((D+1:Nat):Int):=by rw[wrap_i64 (by omega) (by omega)]; omega
      have next:∀ (w:World) (j:Bool→World→Prop),E A (b8 au fU::b8 q1 o::aI l (gi.cells c) 24::[old A]) w→tm (D:Int) false w aa j:=by
       intro w j H;unfold tm;rw[if_neg (by simp),aQ];exact b2 _ _ ⟨D+1,rfl,by omega,H⟩ (by omega)
      have kC:=eX.fP (D:Int);refine ap (SV Rk H) ?_;rintro r w (⟨br,rfl,H⟩ | ⟨br,cC,afs,aJw,q9,rfl,H,XC⟩)
      ·refine ap (SV yM (H.front 1)) ?_;rintro r w (⟨eN,rfl,H⟩ | ⟨eN,_⟩)
       ·rw[if_neg (by simp)];refine dg H fun w H=>?_;rw[if_neg (by simp)];exact next _ _ (H.front 1)
       ·rw[kC] at br; exact absurd eN br
      ·refine ap (SV yM (H.front 2)) ?_;rintro r w (⟨eN,_⟩ | ⟨eN,b,aft,aJx,a0,rfl,H,akz⟩)
       ·rw[kC] at br; exact absurd br eN
       ·rw[if_neg (by simp)];refine dg H fun w H=>?_;rw[if_pos (by simp)];obtain⟨FZ,Zx,D8⟩:=eX.nodes _ _ q9;rw[a0] at Zx;cases Zx;rw[D8.2.2] at H XC;have sR:=(yM.at a0).ht.v;generalize b.W.v=v at *;refine b3 rfl ?_;refine b3 rfl ?_;obtain⟨f_,H⟩:=pm H;obtain⟨gC,H⟩:=pm (H.front 6);refine aO (⟨some ⟨gC.s,0,none⟩⟩:mQ) (bE ds H rfl rfl) ?_;refine aO (⟨some ⟨f_.s,0,none⟩⟩:mQ) (bE ds (H.front 5) rfl rfl) ?_;have va:∀ {w:World} {m:List bu},E A (aI afs (hq.cells (pn v gC)) 72::m) w→L ds ((⟨afs,0,none⟩:Addr).add 0) w (⟨some ⟨gC.s,0,none⟩⟩:mQ):=fun H=>bE ds H rfl rfl;have vb:∀ {w:World} {m:List bu},E A (aI aft (hq.cells (pn v f_)) 72::m) w→L ds ((⟨aft,0,none⟩:Addr).add 0) w (⟨some ⟨f_.s,0,none⟩⟩:mQ):=fun H=>bE ds H rfl rfl;refine ap (afu (H.front 1)) ?_;rintro r w ⟨rfl,H⟩;have H:=H.ord [1,0];refine⟨vb (H.front 5),?_⟩;refine ap (afu (H.front 6)) ?_;rintro r w ⟨rfl,H⟩;have H:=H.ord [1,2,3,4,5,6,0]
        refine⟨va H,?_⟩;rw[if_neg (by simp)];refine ap (afc H) ?_;rintro r w ⟨rfl,H⟩;refine⟨va H,vb (H.front 5),?_⟩;refine ap (afc (H.front 5)) ?_;rintro r w ⟨rfl,H⟩;have H:=H.ord [1,2,3,4,5,0];refine⟨va H,vb (H.front 5),?_⟩;rw[if_neg (by simp)];refine aO (⟨some ⟨gC.s,0,none⟩⟩:mQ) (va H) ?_;refine aO (⟨some ⟨f_.s,0,none⟩⟩:mQ) (vb (H.front 5)) ?_;refine ap (afw (H.front 1)) ?_;rintro r w ⟨rfl,H⟩;have H:=H.ord [1,0];refine⟨va H,vb (H.front 5),vb (H.front 5),?_⟩;refine ap (afw (H.front 6)) ?_;rintro r w ⟨rfl,H⟩;have H:=H.ord [1,2,3,4,5,6,0];refine⟨va H,vb (H.front 5),va H,?_⟩;rw[if_neg (by simp)];refine ap (Pt sR (H.ord [0,2])) ?_;intro aKT w H;have aqj:=gn H;have H:=H.drop.ord [0,2,1];refine⟨va H,vb (H.front 5),va H,vb (H.front 5),?_⟩;refine ap (Pt sR (H.ord [5,7])) ?_;intro aKU w H;have aqk:=gn H;have H:=H.drop.ord [2,3,4,5,6,0,7,1];refine⟨va H,vb (H.front 5),va H,vb (H.front 5),?_⟩
        rw[aqj,aqk];have H:=kc (p:=gC) H;have H:=kc (p:=f_) (H.ord [1,2,3,4,5]);have H:=akz _ _ (H.ord [0,2]);have H:=XC _ _ (H.ord [1,2]);have e:(((gl v).length:Int)!=((gl v).length:Int))=false:=by simp
        rw[e];exact next _ _ H
     ·exact done (N:=[_,_,_]) rfl H
 ·obtain⟨ab,H⟩:=I U;simp only at ab;subst ab;refine ec (x:=c) 1 H rfl ?_;refine ap (HP gc.2.1 gc.2.2.1 ub df.tail.tail H) ?_;rintro⟨gC,f_,Aj⟩ w ⟨aH,_⟩;obtain⟨ab,H⟩:=aH U;simp only at ab;subst ab;refine ap (tB H) ?_;rintro r w ⟨rfl,H⟩;rw[if_pos (by simp)];refine ap (tB H) ?_;rintro r w ⟨rfl,H⟩;exact done (N:=[_,_]) (by simp) H
end Cluster
section
open bb
theorem aIK(A:World)(c:kV)(s:af)(x:oi)(gc:xm A c)(br:tn A s)(eN:FV A x) :
  M Pg 6 [g8.enc c,X.enc s,hK.enc x] bf A fun r lB=>r=true∧RowKit.Below A.heap.size A lB:=Cluster.aGh A c s x gc br eN
end
namespace Cluster
open bb Wire Disk Vault Clock Shard Num Store
structure oW(f:Nat)(now:Int)(ax:hh)(rd:Int):Prop where
 rS:ax.floor≤now
 ey:ax.ey=f
 sound:ax.dd.set=true→∃ (T aN:Nat) (W:Int),-(aN:Int)≤W∧W≤aN∧v3 f T aN∧rd=ax.dd.at_+(T-W)∧(T:Int)≤now∧now-T-ax.dd.width≤ax.dd.h0∧ax.dd.h0≤now-T+ax.dd.width
theorem aF5{f:Nat}{now rd:Int}{ax:hh}(k:iT ax)(s:oW f now ax rd)(ag:iX f)(aK:0≤now∧now≤1099511627776)(aG:ax.dd.set=true)(al:ax.last≤rd)(ab:eY rd)(aR:ax.dd.h0+(rd-ax.dd.at_)≤1125899906842624):(sh ax rd).gO≤now∧now≤(sh ax rd).jr:=by
 obtain⟨T,aN,W,I,O,aH,bg,dh,il,rU⟩:=s.sound aG;have df:=k.at_;have dT:=k.h0;have gI:=k.width;have jB:=k.le;unfold eY at df dT gI ab;have jh:T≤(rd-ax.dd.at_).toNat+aN:=by omega
 obtain⟨o4,rV⟩:=aH.within ag jh;have DE:(((rd-ax.dd.at_).toNat:Nat):Int)=rd-ax.dd.at_:=by omega
 rw[DE] at o4;have U:=Jj (n:=rd-ax.dd.at_) (f:=f) (by omega) ag.ey;unfold sh DD;have G_:mJ ⟨ax.dd.h0+(rd-ax.dd.at_),ax.dd.h0+(rd-ax.dd.at_)⟩ ax.dd.width=(⟨max (ax.dd.h0+(rd-ax.dd.at_)-ax.dd.width) 0,min (ax.dd.h0+(rd-ax.dd.at_)+ax.dd.width) 1125899906842624⟩,0):=by
  unfold mJ;rw[if_neg (fun h=>h (by unfold nr eY; simp only; omega)),if_neg (fun h=>h (by unfold eY; omega))]
 rw[G_,s.ey];simp only;rw[if_neg (fun h=>h (by unfold nr eY; simp only; omega)),if_neg (fun h=>h (by unfold eY; omega))];unfold mJ;rw[if_neg (fun h=>h (by unfold nr eY; simp only; omega)),if_neg (fun h=>h (by unfold eY; omega))];simp only;omega
theorem Q8{f:Nat}{now rd:Int}{ax:hh}(k:iT ax)(s:oW f now ax rd)(ag:iX f)(aK:0≤now∧now≤1099511627776):oW f now (e3 ax rd).1 rd∧((e3 ax rd).2.2=0→(e3 ax rd).2.1.gO≤now∧now≤(e3 ax rd).2.1.jr):=by
 unfold e3;split
 ·exact⟨s,fun h=>by cases h⟩
 ·rename_i bm;split
  ·exact⟨s,fun h=>by cases h⟩
  ·rename_i bB;split
   ·exact⟨s,fun h=>by cases h⟩
   ·split
    ·exact⟨s,fun h=>by cases h⟩
    ·have ab:=aF5 k s ag aK (by simpa using bB) (by omega) (Classical.not_not.1 bm) (by omega);have am:=s.rS;exact⟨⟨by unfold so; simp only; omega,s.ey,s.sound⟩,fun _=>by unfold so; simp only; omega⟩
theorem oW.set{f:Nat}{now rd t e:Int}{ax:hh}(s:oW f now ax rd)(aK:0≤now)(aR:now-e≤t∧t≤now+e):oW f now (sk ax rd t e).1 rd:=by
 unfold sk;split
 ·exact s
 ·split
  ·exact s
  ·exact⟨s.rS,s.ey,fun _=>⟨0,0,0,by omega,by omega,aHa f 0,by simp only; omega,by omega,by simp only; omega,by simp only; omega⟩⟩
theorem oW.pass{f:Nat}{now rd d s:Int}{ax:hh}(h:oW f now ax rd)(ag:iX f)(ah:0≤d∧d≤1048576)(aG:-(j5 d (nV f))≤s∧s≤j5 d (nV f)):oW f (now+d) ax (rd+(d-s)):=by
 refine⟨by have:=h.rS; omega,h.ey,fun ao=>?_⟩;obtain⟨T,aN,W,I,O,aH,bg,dh,il,rU⟩:=h.sound ao;have Bn:((d.toNat:Nat):Int)=d:=by omega
 have tK:=aH.add (d:=d.toNat) (s:=s.natAbs) ag (by omega) (by rw[Bn]; omega);exact⟨T+d.toNat,aN+s.natAbs,W+s,by omega,by omega,tK,by omega,by omega,by omega,by omega⟩
theorem aHw{f:Nat}{now rd src:Int}{ax:hh}{N:List Int}(k:iT ax)(s:oW f now ax rd)(ag:iX f)(aK:0≤now∧now≤1099511627776):oW f now (gw ax rd src N).1 rd∧((gw ax rd src N).2.2.2=0→now<(gw ax rd src N).2.2.1):=by
 obtain⟨I,O⟩:=Q8 k s ag aK;unfold gw;split
 ·rename_i ah;exact⟨I,fun h=>absurd h ah⟩
 ·rename_i ah;have ah:=O (Classical.not_not.1 ah);refine⟨I,fun h=>?_⟩;revert h;unfold Ab;split
  ·intro h; cases h
  ·have aH:=foldl_max N (max src (e3 ax rd).2.1.jr);split
   ·intro h; cases h
   ·intro _;simp only;omega
def ss(b cC:bi):Prop:=cC.cv=b.cv∧(cC.ax=b.ax∨cC.ax=(e3 b.ax b.cv).1)
theorem ss.qt(b:bi):ss b b:=⟨rfl,.inl rfl⟩
theorem y0(ax:hh)(rd src:Int)(N:List Int):(gw ax rd src N).1=(e3 ax rd).1:=by unfold gw; split<;>rfl
theorem Dw{n:Nat}{b:bi}{id k t:Int}{p:bF}:(nT n b id p k t).1.ax=b.ax∧(nT n b id p k t).1.cv=b.cv:=by
 unfold nT;simp only;split<;>exact⟨rfl,rfl⟩
theorem alx{n:Nat}{b:bi}{from_:Int}{y:hI}:ss b (mU n b from_ y):=by
 unfold mU;split
 ·unfold rh;split
  ·exact⟨rfl,.inl rfl⟩
  ·split
   ·exact⟨rfl,.inl rfl⟩
   ·split
    ·unfold yi;split
     ·exact⟨rfl,.inr (y0 ..)⟩
     ·unfold u9;split
      ·exact⟨rfl,.inr (y0 ..)⟩
      ·split
       ·exact⟨rfl,.inr (y0 ..)⟩
       ·exact⟨rfl,.inr (y0 ..)⟩
    ·exact⟨rfl,.inl rfl⟩
 ·split
  ·unfold vO;split
   ·exact⟨rfl,.inl rfl⟩
   ·unfold y8;split
    ·exact⟨rfl,.inl rfl⟩
    ·split
     ·exact⟨rfl,.inl rfl⟩
     ·unfold vN;split
      ·exact⟨Dw.2,.inl Dw.1⟩
      ·split
       ·unfold y9;split
        ·refine⟨Dw.2,.inr ?_⟩;rw[Dw.1];exact y0 ..
        ·exact⟨rfl,.inr (y0 ..)⟩
       ·exact⟨rfl,.inl rfl⟩
  ·split
   ·unfold tH ib;split
    ·exact⟨rfl,.inl rfl⟩
    ·split
     ·exact⟨rfl,.inl rfl⟩
     ·exact⟨rfl,.inl rfl⟩
   ·split
    ·unfold xC;split
     ·exact⟨rfl,.inl rfl⟩
     ·exact⟨rfl,.inl rfl⟩
    ·exact⟨rfl,.inl rfl⟩
theorem alA{b:bi}{a y:Int}:ss b (yO b a y).1:=by
 unfold yO yN;split
 ·exact⟨rfl,.inr (y0 ..)⟩
 ·unfold EC;split
  ·exact⟨rfl,.inr (y0 ..)⟩
  ·exact⟨rfl,.inr (y0 ..)⟩
theorem alz{n:Nat}{b:bi}{x:om}:ss b (s4 n b x).1:=by
 unfold s4 B5;split
 ·exact⟨rfl,.inl rfl⟩
 ·split<;>exact⟨rfl,.inl rfl⟩
theorem alv{n:Nat}{b:bi}{id:Int}:ss b (rN n b id).1:=by
 unfold rN;split
 ·exact⟨rfl,.inl rfl⟩
 ·split
  ·exact⟨rfl,.inl rfl⟩
  ·exact⟨Dw.2,.inl Dw.1⟩
theorem alw{b:bi}:ss b (rP b).1:=by
 unfold rP xF;split
 ·exact⟨rfl,.inr rfl⟩
 ·unfold Dx;split
  ·exact⟨rfl,.inr rfl⟩
  ·exact⟨rfl,.inr rfl⟩
theorem XY{b:bi}:ss b (nd b).1:=by
 unfold nd vD;split
 ·exact⟨rfl,.inl rfl⟩
 ·unfold y2;split
  ·exact⟨rfl,.inl rfl⟩
  ·exact⟨rfl,.inl rfl⟩
theorem alB{f:Nat}{b:bi}:ss b (oL f b).1:=by
 unfold oL;split
 ·unfold y5;split
  ·exact⟨rfl,.inl rfl⟩
  ·unfold y6;split
   ·exact⟨rfl,.inl rfl⟩
   ·unfold za;rw[Ls];exact⟨rfl,.inl rfl⟩
 ·exact⟨rfl,.inl rfl⟩
structure ol(o:bv):Prop where
 ok:∀ b∈o.N,iT b.ax∧oW o.ek.kT o.now b.ax b.cv
 told:∀ t∈o.told,t.og=2→t.bW≤o.now
 now:0≤o.now∧o.now≤1099511627776
 kz:iX o.ek.kT
 width:0≤o.ek.ju
theorem aly{f:Nat}{now:Int}{b cC:bi}(ag:iX f)(aK:0≤now∧now≤1099511627776)(h:iT b.ax∧oW f now b.ax b.cv)(s:ss b cC):iT cC.ax∧oW f now cC.ax cC.cv:=by
 rw[s.1];rcases s.2 with e | e
 ·rw[e]; exact h
 ·rw[e]; exact⟨(h.1.now _).1,(Q8 h.1 h.2 ag aK).1⟩
section
variable {o:bv}
theorem mem_set{Z:Type}{N:List Z}{i:Nat}{x S:Z}(h:S∈N.set i x):S=x∨S∈N:=by
 rcases List.mem_or_eq_of_mem_set h with h | h
 ·exact .inr h
 ·exact .inl h
theorem ol.node(t:ol o){i:Nat}{b cC:bi}(a0:o.N[i]?=some b)(s:ss b cC):ol (kK o i cC):=
 ⟨fun eA O=>by
  rcases mem_set (N:=o.N) O with rfl | O
  ·exact aly t.kz t.now (t.ok b (List.mem_of_getElem? a0)) s
  ·exact t.ok eA O,t.told,t.now,t.kz,t.width⟩
theorem ol.aY(t:ol o){aY:Post.dB}:ol { o with aY:=aY }:=⟨t.ok,t.told,t.now,t.kz,t.width⟩
theorem ol.on(t:ol o){i:Int}{f:bi→bi×Int}(am:∀ b,ss b (f b).1):ol (m2 o i f).1:=by
 by_cases Y:fP o i=0
 ·obtain⟨b,ah,a0,ag⟩:=rO Y;rw[pS ah a0 ag];exact t.node a0 (am b)
 ·rw[vp Y];exact t
theorem ol.S8(t:ol o){i:Int}{f:bi→bi×Int}(am:∀ b,ss b (f b).1):ol (qG o i f).1:=by
 by_cases U:i<0∨(o.N.length:Int)≤i
 ·rw[CH U];exact t
 ·have a0:o.N[i.toNat]?=some (o.N[i.toNat]'(by omega)):=List.getElem?_eq_getElem (by omega);rw[zb (by omega) a0];exact t.node a0 (am _)
theorem ae5{f:Nat}{now:Int}{b:bi}(ag:iX f)(aK:0≤now∧now≤1099511627776):∀ (ids:List Int) (s:ki),(iT s.ax∧oW f now s.ax b.cv)→(∀ t∈s.told,t.og=2→t.bW≤now) →
  (iT (lo b s ids).ax∧oW f now (lo b s ids).ax b.cv)∧∀ t∈(lo b s ids).told,t.og=2→t.bW≤now
 |[],s,h,aR=>⟨h,aR⟩
 |id::ids,s,h,aR=>by
  have ao:=Q8 h.1 h.2 ag aK;have I:(iT (rA b s id).ax∧oW f now (rA b s id).ax b.cv)∧∀ t∈(rA b s id).told,t.og=2→t.bW≤now:=by
   unfold rA;split
   ·rename_i p aF;unfold oK;split
    ·exact⟨h,aR⟩
    ·split
     ·split
      ·exact⟨⟨(h.1.now _).1,ao.1⟩,aR⟩
      ·rename_i U;refine⟨⟨(h.1.now _).1,ao.1⟩,fun t hm am=>?_⟩;rcases List.mem_append.1 hm with hm | hm
       ·exact aR t hm am
       ·rw[List.mem_singleton.1 hm];have U:(e3 s.ax b.cv).2.2=0∧p.at_<(e3 s.ax b.cv).2.1.gO:=by simpa using U
        have:=(ao.2 U.1).1;show p.at_≤now
        omega
     ·rename_i yc;refine⟨h,fun t hm am=>?_⟩;rcases List.mem_append.1 hm with hm | hm
      ·exact aR t hm am
      ·rw[List.mem_singleton.1 hm] at am;exact absurd am yc
   ·exact⟨h,aR⟩
  exact ae5 ag aK ids (rA b s id) I.1 I.2
theorem aH7(t:ol o)(a:aL):ol (gk o a).1:=by
 unfold gk;by_cases c:a.x.Kind=0
 ·rw[if_pos c];unfold wX;split
  ·exact t
  ·rename_i bY;have aK:=t.now;refine⟨fun b a0=>?_,fun x F am=>by have:=t.told x F am; show _≤o.now+a.x.b; omega,⟨by show 0≤o.now+a.x.b; omega,by show o.now+a.x.b≤_; omega⟩,t.kz,t.width⟩;obtain⟨i,aw,rfl⟩:=List.getElem_of_mem a0;show iT ((o.N.mapIdx _)[i]'aw).ax∧_
   rw[List.getElem_mapIdx];obtain⟨I,O⟩:=t.ok (o.N[i]'(by simpa using aw)) (List.getElem_mem _);refine⟨I,O.pass t.kz (by omega) ?_⟩;have hm:=GB (n:=a.x.b) (by omega) (by omega) (Pk t.kz).2;unfold pX;split<;>omega
 rw[if_neg c]; clear c;by_cases c:a.x.Kind=1
 ·rw[if_pos c];unfold vr;split
  ·exact t
  ·exact t.on fun b=>alA
 rw[if_neg c]; clear c;by_cases c:a.x.Kind=2
 ·rw[if_pos c];unfold pQ;split
  ·exact t
  ·exact t.on fun b=>alz
 rw[if_neg c]; clear c;by_cases c:a.x.Kind=3
 ·rw[if_pos c];unfold qz;split
  ·exact t
  ·simp only;split
   ·exact (t.on (f:=nd) fun b=>XY).aY
   ·exact t.on fun b=>XY
 rw[if_neg c]; clear c;by_cases c:a.x.Kind=4
 ·rw[if_pos c];unfold pB;split
  ·exact t
  ·exact (t.aY (aY:=(o.aY.take a.x.aN).1)).on fun b=>alx
 rw[if_neg c]; clear c;by_cases c:a.x.Kind=5
 ·rw[if_pos c];unfold xI;split
  ·exact t
  ·exact t.aY
 rw[if_neg c]; clear c;by_cases c:a.x.Kind=6
 ·rw[if_pos c]; exact t.aY
 rw[if_neg c]; clear c;by_cases c:a.x.Kind=7
 ·rw[if_pos c];unfold nS;split
  ·exact t
  ·exact t.aY
 rw[if_neg c]; clear c;by_cases c:a.x.Kind=8
 ·rw[if_pos c]; exact t.S8 fun b=>⟨rfl,.inl rfl⟩
 rw[if_neg c]; clear c;by_cases c:a.x.Kind=9
 ·rw[if_pos c]; exact t.S8 fun b=>⟨rfl,.inl rfl⟩
 rw[if_neg c]; clear c;by_cases c:a.x.Kind=10
 ·rw[if_pos c]; exact t.S8 fun b=>alB
 rw[if_neg c]; clear c;by_cases c:a.x.Kind=11
 ·rw[if_pos c]; exact t.on fun b=>⟨rfl,.inl rfl⟩
 rw[if_neg c]; clear c;by_cases c:a.x.Kind=12
 ·rw[if_pos c];unfold te;by_cases Y:fP o a.x.aN=0
  ·rw[if_neg (fun e=>e Y)];obtain⟨b,ah,a0,ag⟩:=rO Y;rw[a0];have aq:=ae5 (b:=b) t.kz t.now (eS b.P) ⟨b.ax,o.known,o.told⟩ (t.ok b (List.mem_of_getElem? a0)) t.told;refine⟨fun eA O=>?_,aq.2,t.now,t.kz,t.width⟩;rcases mem_set (N:=o.N) O with rfl | O
   ·exact aq.1
   ·exact t.ok eA O
  ·rw[if_pos Y]; exact t
 rw[if_neg c]; clear c;by_cases c:a.x.Kind=13
 ·rw[if_pos c];show ol (mA o a.x.aN).1
  unfold mA;by_cases Y:fP o a.x.aN=0
  ·rw[if_neg (fun e=>e Y)];obtain⟨b,ah,a0,ag⟩:=rO Y;rw[a0];exact t.node a0 alw
  ·rw[if_pos Y]; exact t
 rw[if_neg c]; clear c;by_cases c:a.x.Kind=14
 ·rw[if_pos c]; exact t.on fun b=>⟨rfl,.inl rfl⟩
 rw[if_neg c]; clear c;by_cases c:a.x.Kind=15
 ·rw[if_pos c];show ol (qG o a.x.aN _).1
  by_cases U:a.x.aN<0∨(o.N.length:Int)≤a.x.aN
  ·rw[CH U];exact t
  ·have a0:o.N[a.x.aN.toNat]?=some (o.N[a.x.aN.toNat]'(by omega)):=List.getElem?_eq_getElem (by omega);rw[zb (by omega) a0];refine⟨fun eA O=>?_,t.told,t.now,t.kz,t.width⟩;rcases mem_set (N:=o.N) O with rfl | O
   ·obtain⟨I,O⟩:=t.ok _ (List.mem_of_getElem? a0);have aK:=t.now;have hw:=t.width;exact⟨I.set ..,O.set aK.1 (by unfold EQ; omega)⟩
   ·exact t.ok eA O
 rw[if_neg c]; clear c;by_cases c:a.x.Kind=16
 ·rw[if_pos c];unfold xA;split
  ·exact t
  ·exact t.on fun b=>alv
 rw[if_neg c];exact t
end
def W5(jm:List (Int×Int))(r:cN):Prop:=r.k=2→∀ y∈jm,y.1=r.x.aD→y.2<r.t
theorem aFh{jm:List (Int×Int)}{o:bv}(t:ol o)(h:∀ y∈jm,y.2≤o.now):∀ b∈o.N,C7 (W5 jm) b:=fun b a0=>by
 obtain⟨I,O⟩:=t.ok b a0;refine⟨fun r ab O=>absurd O ab,fun x N ah _ y hm _=>?_⟩;have:=(aHw (src:=b.src) (N:=N) I O t.kz t.now).2 ah;have:=h y hm;show y.2<(gw b.ax b.cv b.src N).2.2.1
 omega
structure pt(jm:List (Int×Int))(k:Nat)(o:bv):Prop where
 ci:∃ ay,gU (W5 jm) k o ay
 LM:ol o
 jm:∀ y∈jm,y.2≤o.now
theorem Ad{o:bv}{i:Int}{f:bi→bi×Int}:(m2 o i f).1.now=o.now:=by
 unfold m2;split
 ·rfl
 ·split<;>rfl
theorem L3{o:bv}{i:Int}{f:bi→bi×Int}:(qG o i f).1.now=o.now:=by
 unfold qG;split<;>rfl
theorem aC2(o:bv)(a:aL):o.now≤(gk o a).1.now:=by
 unfold gk;by_cases c:a.x.Kind=0
 ·rw[if_pos c];unfold wX;split
  ·exact Int.le_refl _
  ·show o.now≤o.now+a.x.b; omega
 rw[if_neg c]; clear c;by_cases c:a.x.Kind=1
 ·rw[if_pos c];unfold vr;split
  ·exact Int.le_refl _
  ·rw[Ad]; exact Int.le_refl _
 rw[if_neg c]; clear c;by_cases c:a.x.Kind=2
 ·rw[if_pos c];unfold pQ;split
  ·exact Int.le_refl _
  ·rw[Ad]; exact Int.le_refl _
 rw[if_neg c]; clear c;by_cases c:a.x.Kind=3
 ·rw[if_pos c];unfold qz;split
  ·exact Int.le_refl _
  ·simp only;split
   ·show o.now≤(m2 o a.x.aN nd).1.now; rw[Ad]; exact Int.le_refl _
   ·rw[Ad]; exact Int.le_refl _
 rw[if_neg c]; clear c;by_cases c:a.x.Kind=4
 ·rw[if_pos c];unfold pB;split
  ·exact Int.le_refl _
  ·rw[Ad]; exact Int.le_refl _
 rw[if_neg c]; clear c;by_cases c:a.x.Kind=5
 ·rw[if_pos c];unfold xI;split<;>exact Int.le_refl _
 rw[if_neg c]; clear c;by_cases c:a.x.Kind=6
 ·rw[if_pos c];exact Int.le_refl _
 rw[if_neg c]; clear c;by_cases c:a.x.Kind=7
 ·rw[if_pos c];unfold nS;split<;>exact Int.le_refl _
 rw[if_neg c]; clear c;by_cases c:a.x.Kind=8
 ·rw[if_pos c];unfold pz; rw[L3]; exact Int.le_refl _
 rw[if_neg c]; clear c;by_cases c:a.x.Kind=9
 ·rw[if_pos c];unfold wi; rw[L3]; exact Int.le_refl _
 rw[if_neg c]; clear c;by_cases c:a.x.Kind=10
 ·rw[if_pos c];show o.now≤(nJ o a.x.aN).1.now
  unfold nJ; rw[L3]; exact Int.le_refl _
 rw[if_neg c]; clear c;by_cases c:a.x.Kind=11
 ·rw[if_pos c];unfold t_; rw[Ad]; exact Int.le_refl _
 rw[if_neg c]; clear c;by_cases c:a.x.Kind=12
 ·rw[if_pos c];unfold te;split
  ·exact Int.le_refl _
  ·split<;>exact Int.le_refl _
 rw[if_neg c]; clear c;by_cases c:a.x.Kind=13
 ·rw[if_pos c];show o.now≤(mA o a.x.aN).1.now
  unfold mA;split
  ·exact Int.le_refl _
  ·split<;>exact Int.le_refl _
 rw[if_neg c]; clear c;by_cases c:a.x.Kind=14
 ·rw[if_pos c];unfold EG; rw[Ad]; exact Int.le_refl _
 rw[if_neg c]; clear c;by_cases c:a.x.Kind=15
 ·rw[if_pos c];unfold EP; rw[L3]; exact Int.le_refl _
 rw[if_neg c]; clear c;by_cases c:a.x.Kind=16
 ·rw[if_pos c];unfold xA;split
  ·exact Int.le_refl _
  ·rw[Ad]; exact Int.le_refl _
 rw[if_neg c]; clear c;exact Int.le_refl _
theorem pt.act{jm:List (Int×Int)}{k:Nat}{o:bv}(h:pt jm k o)(aq:k≤49000){a:aL}(ok:tk a.x):pt jm (k+2) (gk o a).1:=by
 obtain⟨ay,a4⟩:=h.ci;obtain⟨l0,I,_⟩:=XV a4 (aFh h.LM h.jm) aq ok;exact⟨⟨l0,I⟩,aH7 h.LM a,fun y hm=>Int.le_trans (h.jm y hm) (aC2 o a)⟩
theorem pt.lE{jm:List (Int×Int)}:∀ {cf:List aL} {k:Nat} {o:bv},pt jm k o→qL cf→k+2*cf.length≤49000→pt jm (k+2*cf.length) (ql o cf)
 |[],k,o,h,_,_=>h
 |a::cf,k,o,h,ok,aq=>by
  rw[List.length_cons] at aq ⊢;have:=pt.lE (cf:=cf) (h.act (by omega) (ok a (List.mem_cons_self ..))) (fun l ao=>ok l (List.mem_cons_of_mem _ ao)) (by omega);rw[show k+2*(cf.length+1)=k+2+2*cf.length from by omega];exact this
theorem aeU:∀ (an:List cN) (s:Int→Bool) (id:Int),(s id=true∨∃ r∈an,r.k≠1∧r.x.aD=id)→(an.foldl w1 s) id=true
 |[],s,id,h=>by
  rcases h with h | ⟨r,ab,_⟩
  ·exact h
  ·cases ab
 |r::an,s,id,h=>by
  refine aeU an (w1 s r) id ?_;unfold w1;rcases h with h | ⟨oD,ab,aq,hF⟩
  ·left;split
   ·exact h
   ·show (id==r.x.aD||s id)=true
    rw[h,Bool.or_true]
  ·rcases List.mem_cons.1 ab with rfl | ab
   ·left;rw[if_neg aq];show (id==oD.x.aD||s id)=true
    rw[hF]; simp
   ·exact .inr ⟨oD,ab,aq,hF⟩
theorem gU.imp{Q W4:cN→Prop}{k:Nat}{o:bv}{ay:List e9}(h:gU Q k o ay)(f:∀ (i:Nat) (g:e9),ay[i]?=some g→∀ r∈g.an,Q r→W4 r):gU W4 k o ay:=
 ⟨h.len,h.pos,h.iJ,fun i b g a0 R=>by
  have n:=h.nodes i b g a0 R
  exact⟨n.bQ,⟨fun r ab=>f i g R r ab (n.cs.q r ab),n.cs.p2,n.cs.na,n.cs.ours,n.cs.vJ,n.cs.yC,n.cs.wO,n.cs.tV,n.cs.nZ⟩,n.ba⟩,h.B7,h.s5,h.aY,h.told,h.vq,h.w7,h.now,h.width,h.ey,h.kz⟩
theorem pt.add{jm:List (Int×Int)}{k:Nat}{o:bv}(h:pt jm k o){id:Int}{b:bi}{p:bF}(a0:o.N[(Int.tmod id o.N.length).toNat]?=some b)(ah:0≤Int.tmod id o.N.length)(ag:b.K.down=false)(aF:b.P.lookup id=some p)(am:p.bV=0):pt ((id,o.now)::jm) k o:=by
 obtain⟨ay,a4⟩:=h.ci;refine⟨⟨ay,a4.imp fun i g R r ab a5 O y hm e=>?_⟩,h.LM,fun y hm=>?_⟩
 ·rcases List.mem_cons.1 hm with rfl | hm
  ·exfalso;have aw:=(List.getElem?_eq_some_iff.1 R).1;have O8:o.N[i]?=some (o.N[i]'(by rw[a4.len]; exact aw)):=List.getElem?_eq_getElem _;have aK:=a4.nodes i _ g O8 R;have ai:=aK.cs.ours r ab;have e:id=r.x.aD:=e;rw[← e,← a4.len] at ai;rw[ai,Int.toNat_natCast] at a0;rw[a0] at O8;rw[← Option.some.inj O8] at aK;have m:=aK.live ag;obtain⟨q,rY,he⟩:=(m.P id).1 p aF;have aG:=aeU g.an (fun _=>false) id (.inr ⟨r,ab,by omega,e.symm⟩);have zX:=aeT aK.cs.na aK.cs.vJ g.an.length (Nat.le_refl _) id;rw[List.take_length] at zX;obtain⟨d,wu⟩:=zX aG;unfold kl at wu;rw[rY] at wu;have wu:lg q=some d:=wu;unfold lg at wu;rw[if_pos (by rw[← he.2.1]; exact am)] at wu;cases wu
  ·exact a5 O y hm e
 ·rcases List.mem_cons.1 hm with rfl | hm
  ·exact Int.le_refl _
  ·exact h.jm y hm
theorem gU.plain{Q:cN→Prop}{k:Nat}{o:bv}{ay:List e9}(h:gU Q k o ay):kQ k o ay:=h.imp fun _ _ _ _ _ _=>trivial
end Cluster
section
open bb
end
end Go.Proofs.YthaobmpdjcoheaaGreat
