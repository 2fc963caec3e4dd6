/- Own texts of this claim, part 13: short, merged. -/
import Derived.Test.YthaobmpdjcoheaaGreatZ12
set_option exponentiation.threshold 4000
set_option maxRecDepth 100000
set_option maxHeartbeats 40000000
set_option linter.defProp false
set_option linter.unusedVariables false
set_option linter.unusedSimpArgs false
namespace Go.Proofs.YthaobmpdjcoheaaGreat
namespace Cluster
open bf Wire Disk Vault Clock Shard Num Store
def uX(v:dc)(t:Int):Int:=(gp v).foldl (fun t h=>min t (h.b5-1)) t
def Dw(b:bn)(t:Int)(z:cR×qU×Int):bn×Int×Int:=
 if z.2.2≠0 then ({ b with K:=z.1,W:=z.2.1 },0,z.2.2) else ({ b with K:=z.1,W:=z.2.1,src:=(oz b.src t).1 },t,0)
def xI(b:bn)(s:hk×lC×Int):bn×Int×Int:=
 if s.2.2≠0 then ({ b with aw:=s.1 },0,s.2.2) else Dw { b with aw:=s.1 } (uX b.W.v s.2.1.gS) (fP b.K b.W ⟨5,uX b.W.v s.2.1.gS,0,0,0,false⟩)
def rS(b:bn):bn×Int×Int:=xI b (e6 b.aw b.cG)
def mC(o:bD)(i:Int):bD×Int×Int:=if fR o i≠0 then (o,0,fR o i) else match o.N[i.toNat]? with
 |some b=>(kO o i.toNat (rS b).1,(rS b).2)
 |none=>(o,0,202)
def EG(b:bn)(t:Int):bn×Int:=({ b with K:=(fP b.K b.W ⟨6,t,0,0,0,false⟩).1,W:=(fP b.K b.W ⟨6,t,0,0,0,false⟩).2.1 },(fP b.K b.W ⟨6,t,0,0,0,false⟩).2.2)
def EF(o:bD)(i t:Int):bD×Int:=m5 o i fun b=>EG b t
def p0(gq:Int)(xs:List Int)(i:Nat):Int:=match xs[i]? with
 |some k=>min (max k (0-gq)) gq
 |none=>0
def vw(d gq:Int)(xs:List Int)(i:Nat)(b:bn):bn:={ b with cG:=b.cG+(d-p0 gq xs i) }
def tb(d gq:Int)(xs:List Int)(D:Nat)(N:List bn):List bn:=N.mapIdx fun i b=>if i<D then vw d gq xs i b else b
def w1(o:bD)(d:Int)(xs:List Int):bD×Int:=
 if d<0∨1048576<d∨1099511627776<o.now+d then (o,201) else ({ o with now:=o.now+d,N:=o.N.mapIdx (vw d (j8 d (nW o.eu.kX)) xs) },0)
def EO(o:bD)(off:Int):Int:=max (o.now+min (max off (0-o.eu.jA)) o.eu.jA) 0
def EN(o:bD)(i off:Int):bD×Int:=qK o i fun b=>({ b with aw:=(sp b.aw b.cG (EO o off) o.eu.jA).1 },(sp b.aw b.cG (EO o off) o.eu.jA).2)
theorem Oe{v:dc}(aU:Fit v){t:Int}(ah:0≤t)(I:t≤1125899906842624):0≤uX v t∧uX v t≤1125899906842624:=by
 have cD:∀ h∈gp v,1≤h.b5:=by
  intro h hm;unfold gp at hm;obtain⟨id,hJ,rfl⟩:=List.mem_map.1 hm;obtain⟨j,he,rfl⟩:=List.mem_map.1 ((oa _).mem_iff.1 hJ);have al:=z9 aU.rv he;rw[DY al];have:=aU.ids _ _ al;have:=aU.eY.mark;omega
 unfold uX;revert cD;generalize gp v=N;induction N generalizing t with
 |nil=>intro _; exact⟨ah,I⟩
 |cons h N ck=>
  intro cD;have O:=cD h (List.mem_cons_self ..);exact ck (t:=min t (h.b5-1)) (by omega) (by omega) fun x F=>cD x (List.mem_cons_of_mem _ F)
theorem aHv{Z:Type}{f:Nat→Z→Z}{N:List Z}{D:Nat}{x:Z}(h:N[D]?=some x):(N.mapIdx fun i S=>if i<D+1 then f i S else S)=(N.mapIdx fun i S=>if i<D then f i S else S).set D (f D x):=by
 apply List.ext_getElem?;intro y;rw[List.getElem?_mapIdx,List.getElem?_set,List.getElem?_mapIdx,List.length_mapIdx];by_cases j:D=y
 ·subst j;have:=(List.getElem?_eq_some_iff.1 h).1;rw[h]; simp[this]
 ·rw[if_neg j];cases N[y]? with
  |none=>rfl
  |some S=>
   simp only[Option.map_some];by_cases c:y<D
   ·rw[if_pos (by omega),if_pos c]
   ·rw[if_neg (by omega),if_neg c]
theorem aAE{Z:Type}{f:Nat→Z→Z}(N:List Z):(N.mapIdx fun i S=>if i<0 then f i S else S)=N:=by
 apply List.ext_getElem?;intro y;rw[List.getElem?_mapIdx];cases N[y]?<;>simp
theorem aAF{Z:Type}{f:Nat→Z→Z}(N:List Z):(N.mapIdx fun i S=>if i<N.length then f i S else S)=N.mapIdx f:=by
 apply List.ext_getElem?;intro y;rw[List.getElem?_mapIdx,List.getElem?_mapIdx];cases h:N[y]? with
 |none=>rfl
 |some S=>
  have:=(List.getElem?_eq_some_iff.1 h).1;simp[this]
section
variable {A w:World} {m bT:List bC}
theorem XW{au:Nat}{o:bD}{i:Int}(k:kV o)(H:E A (ch au o::m) w):M Pg 25 [.pointer (some ⟨au,0,none⟩),.int .i64 i] (bw (B .i64) (B .i64)) w fun r J=>r=(mC o i).2∧E A (ch au (mC o i).1::m) J:=by
 obtain⟨p,am,H⟩:=k2 H;refine ah8 ?_;unfold Vs;refine ap (sG am k.len.2 H) ?_;rintro r w (⟨I,rfl,H⟩ | ⟨I,a0,b,O,a8,a1,ag,rfl,H⟩)
 ·have j:mC o i=(o,0,fR o i):=by unfold mC; rw[if_pos I]
  rw[if_pos (by simpa using I),j];exact⟨rfl,fI am H⟩
 ·have j:mC o i=(kO o i.toNat (rS b).1,(rS b).2):=by unfold mC; rw[if_neg (fun h=>h I),a1]
  rw[if_neg (by simp),j];clear j;have ok:=k.at a1;obtain⟨q,R,H⟩:=lS H;have fin:∀ (cL:bn) (gx:kB) (w:World),Fits cL gx→E A (eX a0 cL gx (hT au o p i.toNat m)) w→E A (ch au (kO o i.toNat cL)::m) w:=by
   intro cL gx w R H;obtain⟨bA,H⟩:=ry am a8 (g_ R H);exact fI bA H
  refine dp H fun w H=>?_;refine cb rfl ?_;refine aj (x:=some ⟨q.aw,0,none⟩) 0 H rfl rfl rfl ?_;refine aj (x:=b.cG) 0 H rfl rfl rfl ?_;have tT:=ok.hz.aw.now b.cG;have g4:∀ (l:Nat) (w:World),E A (aH l (pw.cells (e6 b.aw b.cG).2.1) 137::eX a0 { b with aw:=(e6 b.aw b.cG).1 } q (hT au o p i.toNat m)) w →
    Fy (some ⟨a0,0,none⟩,0) (e6 b.aw b.cG).2.2 ⟨l,0,none⟩ w fun r J=>r=(rS b).2∧E A (ch au (kO o i.toNat (rS b).1)::m) J:=by
   intro l w H;unfold Fy;have Yr:rS b=xI b (e6 b.aw b.cG):=rfl;rw[Yr];clear Yr;generalize e6 b.aw b.cG=s at *;obtain⟨hd,vG,j⟩:=s;simp only at H tT ⊢;by_cases ce:j=0
   ·subst ce;have GM:=tT.2 rfl;unfold nv e1 at GM;rw[if_neg (by simp)];have aR:xI b (hd,vG,0)=Dw { b with aw:=hd } (uX b.W.v vG.gS) (fP b.K b.W ⟨5,uX b.W.v vG.gS,0,0,0,false⟩):=by unfold xI; rw[if_neg (by simp)]
    rw[aR];clear aR;refine aj (x:=vG.gS) 0 H rfl rfl rfl ?_;refine cb rfl ?_;have H:=H.drop;refine aj (x:=some ⟨q.iN,0,none⟩) 0 H rfl rfl rfl ?_;refine ap (y8 (H.front 4)) ?_;rintro r w ⟨rfl,H⟩;refine ap (ZQ ok.hz.v (H.front 6)) ?_;intro r w H;have ab:=gr H;have apn:=Pp ok.hz.v;have H:E A (row la 135 6 r (gp b.W.v)::eX a0 { b with aw:=hd } q (hT au o p i.toNat m)) w:=H.ord [0,3,4,5,6,2,7,1];have rY:∀ h∈gp b.W.v,1≤h.b5∧h.b5≤1125899906842624:=by
     intro h hm;unfold gp at hm;obtain⟨id,hJ,rfl⟩:=List.mem_map.1 hm;obtain⟨j,he,rfl⟩:=List.mem_map.1 ((oa _).mem_iff.1 hJ);have al:=z9 ok.hz.v.rv he;rw[DY al];have:=ok.hz.v.ids _ _ al;have:=ok.hz.v.eY.mark;have:=ok.hz.v.fD;omega
    refine hY (fun s w=>∃ D:Nat,s.2=(D:Int)∧D≤(gp b.W.v).length∧s.1=((gp b.W.v).take D).foldl (fun t h=>min t (h.b5-1)) vG.gS∧E A (row la 135 6 r (gp b.W.v)::eX a0 { b with aw:=hd } q (hT au o p i.toNat m)) w) (fun s=>((gp b.W.v).length-s.2).toNat) ⟨0,rfl,by omega,rfl,H⟩ ?_;clear H;rintro⟨t,aBg⟩ w ⟨D,GP,bR,aS,H⟩ aa ca;simp only at GP aS;subst GP;unfold MZ;simp only;rw[ab];split
    ·rename_i U;have U:D<(gp b.W.v).length:=by
      have:(D:Int)<(gp b.W.v).length:=by simpa using U
      omega
     have aR:IntKind.i64.wrap ((D:Int)+1)=((D+1:Nat):Int):=by rw[wrap_i64 (by omega) (by omega)]; omega
     obtain⟨a,Y⟩:=kM (i:=(D:Int)) H (by omega) (by omega);have F:(gp b.W.v)[((D:Int)).toNat]?=some ((gp b.W.v)[D]'U):=by rw[Int.toNat_natCast]; exact List.getElem?_eq_getElem U
     have iG:(gp b.W.v).take (D+1)=(gp b.W.v).take D++[(gp b.W.v)[D]'U]:=List.take_succ_eq_append_getElem U;have aow:=rY _ (List.getElem_mem U);generalize (gp b.W.v)[D]'U=h at F iG aow;refine aP a Y ?_;refine aP h (mj (fun _=>rfl) Y F H) ?_;refine bP H fun aJy w H=>?_;refine c5 (x:=qV) (S:=h) Ed 0 H rfl fun w H=>?_;refine aj (x:=h.b5) 0 H rfl rfl rfl ?_;rw[aR,wrap_i64 (x:=h.b5-1) (by omega) (by omega)];refine ca _ _ ⟨D+1,rfl,by omega,?_,H.drop⟩ (by simp only; omega);simp only;rw[iG,List.foldl_append,aS];rfl
    ·rename_i U;have U:D=(gp b.W.v).length:=by
      have:¬ (D:Int)<(gp b.W.v).length:=by simpa using U
      omega
     subst U;rw[List.take_length] at aS;have aS:t=uX b.W.v vG.gS:=aS;subst aS;have aah:=Oe ok.hz.v (t:=vG.gS) (by omega) (by omega);generalize uX b.W.v vG.gS=t at *;have H:=H.drop;refine aj (x:=some ⟨q.iN,0,none⟩) 0 H rfl rfl rfl ?_;refine ap (DA (W:=b.W) ok.hz.K ok.hz.v (x:=⟨5,t,0,0,0,false⟩) ⟨by simp,by simp only; omega,by simp,by simp,by simp⟩ (H.ord [4,5,6,2])) ?_;rintro r w ⟨rfl,H⟩;generalize fP b.K b.W ⟨5,t,0,0,0,false⟩=z at *;obtain⟨ee,iZ,j⟩:=z;simp only at H ⊢;have H:E A (eX a0 { b with aw:=hd,K:=ee,W:=iZ } q (hT au o p i.toNat m)) w:=H.ord [4,5,3,6,0,1,2];unfold Dw;by_cases ce:j=0
     ·subst ce;rw[if_neg (by simp)];simp only[ne_eq,not_true_eq_false,if_false];refine aj (x:=some ⟨q.src,0,none⟩) 0 H rfl rfl rfl ?_;refine ap (Kl (H.front 3)) ?_;rintro r w ⟨_,H⟩;exact⟨by trivial,fin { b with aw:=hd,K:=ee,W:=iZ,src:=(oz b.src t).1 } q w R (H.ord [1,2,3,0])⟩
     ·rw[if_pos (by simpa using ce)];simp only[if_pos ce];exact⟨by trivial,fin { b with aw:=hd,K:=ee,W:=iZ } q w R H⟩
   ·rw[if_pos (by simpa using ce)];have aR:xI b (hd,vG,j)=({ b with aw:=hd },0,j):=by unfold xI; rw[if_pos ce]
    rw[aR];exact⟨rfl,fin { b with aw:=hd } q w R H.drop⟩
  refine⟨?_,?_⟩
  ·refine ap (HB ok.hz.aw ok.hz.rd (H.front 1)) ?_;rintro r w ⟨rfl,H⟩;refine bP H fun l w H=>?_;refine c5 (x:=jB) (S:=(e6 b.aw b.cG).2.1) pc 0 H rfl fun w H=>?_;exact g4 l w (H.ord [0,2,1])
  ·refine bP H fun l w H=>?_;refine ap (HB ok.hz.aw ok.hz.rd (H.front 2)) ?_;rintro r w ⟨rfl,H⟩;refine c5 (x:=jB) (S:=(e6 b.aw b.cG).2.1) pc 1 H rfl fun w H=>?_;exact g4 l w (H.ord [0,2,1])
theorem aEM{au:Nat}{o:bD}{i t:Int}(k:kV o)(aS:-9223372036854775808≤t∧t≤9223372036854775807)(H:E A (ch au o::m) w):M Pg 50 [.pointer (some ⟨au,0,none⟩),.int .i64 i,.int .i64 t] (B .i64) w fun r J=>r=(EF o i t).2∧E A (ch au (EF o i t).1::m) J:=by
 obtain⟨p,am,H⟩:=k2 H;refine aiB ?_;unfold V5 EF;refine ap (sG am k.len.2 H) ?_;rintro r w (⟨I,rfl,H⟩ | ⟨I,a0,b,O,a8,a1,ag,rfl,H⟩)
 ·rw[if_pos (by simpa using I),vt I];exact⟨rfl,fI am H⟩
 ·rw[if_neg (by simp),pV O a1 ag];have ok:=k.at a1;obtain⟨q,R,H⟩:=lS H;refine cb rfl ?_;refine aj (x:=some ⟨q.iN,0,none⟩) 0 H rfl rfl rfl ?_;refine ap (DA (W:=b.W) ok.hz.K ok.hz.v (x:=⟨6,t,0,0,0,false⟩) ⟨by simp,aS,by simp,by simp,by simp⟩ (H.ord [4,5,6,2])) ?_;rintro r w ⟨rfl,H⟩;obtain⟨bA,H⟩:=ry (cL:=(EG b t).1) am a8 (g_ (b:=(EG b t).1) (q:=q) R (H.ord [4,5,3,6,0,1,2]));exact⟨rfl,fI bA H⟩
theorem acs{au:Nat}{o:bD}{d:Int}{s:af}{xs:List Int}(k:kV o)(fy:di 1 m (B .i64) s xs)(rl:xs.length≤1000000)(H:E A (ch au o::m) w):M Pg 43 [.pointer (some ⟨au,0,none⟩),.int .i64 d,X.enc s] (B .i64) w fun r J=>r=(w1 o d xs).2∧E A (ch au (w1 o d xs).1::m) J:=by
 obtain⟨p,am,H⟩:=k2 H;refine ait ?_;unfold VY w1;have tT:=k.now;refine aP ⟨au,0,none⟩ (fun _=>rfl) ?_;refine aP o.now (fun _=>bM (B .i64) H rfl rfl) ?_;by_cases c:d<0∨1048576<d∨1099511627776<o.now+d
 ·have Gq:(((decide (d<(0:Int)))||(decide (d>(1048576:Int))))||(decide ((IntKind.i64.wrap (o.now+d))>(1099511627776:Int))))=true:=by
   simp only[Bool.or_eq_true,decide_eq_true_eq];rcases c with c | c | c
   ·exact .inl (.inl c)
   ·exact .inl (.inr c)
   ·by_cases bI:d<0∨1048576<d
    ·exact .inl bI
    ·right; rw[wrap_i64 (by omega) (by omega)]; exact c
  rw[if_pos Gq,if_pos c];exact⟨rfl,fI am H⟩
 ·have hw:IntKind.i64.wrap (o.now+d)=o.now+d:=wrap_i64 (by omega) (by omega);rw[if_neg (by rw[hw]; simp only[Bool.or_eq_true,decide_eq_true_eq]; omega),if_neg c];refine cb rfl ?_;refine aj (x:=o.now) 0 H rfl rfl rfl ?_;rw[hw];refine dD (x:=o.now+d) 0 H rfl rfl (Nat.le_of_ble_eq_true rfl) fun w H=>?_;refine aj (x:=o.eu.kX) 0 H rfl rfl rfl ?_;obtain⟨cD,ZX⟩:=Pf k.kC;refine aP (nW o.eu.kX) cD ?_;refine ap (ae4 (n:=d) (by omega) (by omega) ZX H) ?_;rintro r w ⟨rfl,H⟩;have aJV:=Gz (n:=d) (f:=nW o.eu.kX) (by omega) (by omega) ZX;refine aj (x:=p.nodes) 0 H rfl rfl rfl ?_;generalize j8 d (nW o.eu.kX)=gq at *;have D5:=fy.len (A:=A) (w:=w) (by exact Om 6 H);have aL:=zE am (o:=o) (m:=m) (au:=au) (w:=w) (A:=A);have mE:p.nodes.len=o.N.length:=by
   have aL:=gr (H.front 1);rw[List.length_map] at aL;rw[← am.1,List.length_map];exact aL
  have O3:=k.len.2;have H:∃ h0:kj,h0.nodes=p.nodes∧oR { o with now:=o.now+d,N:=tb d gq xs 0 o.N } h0∧E A (hF au { o with now:=o.now+d,N:=tb d gq xs 0 o.N } h0 m) w:=⟨p,rfl,⟨by unfold tb; rw[aAE]; exact am.1,am.2⟩,H⟩
  refine hY (fun t w=>∃ D:Nat,t=(D:Int)∧D≤o.N.length∧∃ h0:kj,h0.nodes=p.nodes∧oR { o with now:=o.now+d,N:=tb d gq xs D o.N } h0∧E A (hF au { o with now:=o.now+d,N:=tb d gq xs D o.N } h0 m) w) (fun t=>(o.N.length-t).toNat) ⟨0,rfl,by omega,H⟩ ?_;clear H;rintro t w ⟨D,rfl,bR,h0,PL,D0,H⟩ aa ca;unfold M9;rw[mE];split
  ·rename_i U;have U:D<o.N.length:=by
    have:(D:Int)<o.N.length:=by simpa using U
    omega
   have aR:IntKind.i64.wrap ((D:Int)+1)=((D+1:Nat):Int):=by rw[wrap_i64 (by omega) (by omega)]; omega
   have xY:o.N[D]?=some (o.N[D]'U):=List.getElem?_eq_getElem U;have HJ:=k.at xY;generalize o.N[D]'U=b at xY HJ;have aos:(tb d gq xs D o.N)[D]?=some b:=by unfold tb; rw[List.getElem?_mapIdx,xY]; simp
   have O6:h0.Q.length=o.N.length:=by rw[← List.length_map (f:=Prod.snd),D0.1]; unfold tb; simp
   have qe:h0.Q[D]?=some (h0.Q[D]'(by omega)):=List.getElem?_eq_getElem (by omega);generalize h0.Q[D]'(by omega)=t at qe;obtain⟨a0,eF⟩:=t;have:eF=b:=by
    have aJ:(h0.Q.map Prod.snd)[D]?=some eF:=by rw[List.getElem?_map,qe]; rfl
    have bl:=D0.1;simp only at bl;rw[bl,aos] at aJ;cases aJ; rfl
   subst this;have z0:tb d gq xs (D+1) o.N=(tb d gq xs D o.N).set D (vw d gq xs D eF):=aHv (f:=vw d gq xs) xY;obtain⟨a,Y⟩:=kM (i:=(D:Int)) (H.front 1) (by omega) (by rw[List.length_map]; omega);rw[PL] at Y;refine aP a Y ?_;refine aP (some ⟨a0,0,none⟩) (by rw[← PL] at Y; exact mj (fun _=>rfl) Y (by rw[Int.toNat_natCast,List.getElem?_map,qe]; rfl) (H.front 1)) ?_;have vj:∀ w,E A (hF au { o with now:=o.now+d,N:=tb d gq xs D o.N } h0 m) w→FB d (D:Int) (some ⟨a0,0,none⟩) (p0 gq xs D) w aa fun r J=>r=(0:Int)∧E A (ch au { o with now:=o.now+d,N:=o.N.mapIdx (vw d gq xs) }::m) J:=by
    intro w H;unfold FB;refine cb rfl ?_;obtain⟨q,R,H⟩:=lS (Eo qe H);refine aj (x:=eF.cG) 0 H rfl rfl rfl ?_;have aJ9:-2097152≤p0 gq xs D∧p0 gq xs D≤2097152:=by unfold p0; split<;>omega
    have qf:=HJ.hz.rd;rw[wrap_i64 (x:=d-p0 gq xs D) (by omega) (by omega),wrap_i64 (x:=eF.cG+(d-p0 gq xs D)) (by omega) (by omega)];refine dD (x:=eF.cG+(d-p0 gq xs D)) 0 H rfl rfl (Nat.le_of_ble_eq_true rfl) fun w H=>?_;obtain⟨bA,H⟩:=ry (o:={ o with now:=o.now+d,N:=tb d gq xs D o.N }) (cL:=vw d gq xs D eF) D0 qe (g_ (b:=vw d gq xs D eF) (q:=q) R H);rw[aR];refine ca _ _ ⟨D+1,rfl,by omega,{ h0 with Q:=h0.Q.set D (a0,vw d gq xs D eF) },PL,?_,?_⟩ (by omega)
    ·rw[z0]; exact bA
    ·rw[z0]; exact H
   rw[D5];split
   ·rename_i hx;have hx:D<xs.length:=by
     have:(D:Int)<xs.length:=by simpa using hx
     omega
    have e0:E A m w:=Om 6 H;obtain⟨aY,pG⟩:=fy.iw (i:=(D:Int)) e0 (by omega) (by omega);refine aP aY pG ?_;have arY:xs[((D:Int)).toNat]?=some (xs[D]'hx):=by rw[Int.toNat_natCast]; exact List.getElem?_eq_getElem hx
    refine aP (xs[D]'hx) (fy.rd pG arY e0) ?_;have es:p0 gq xs D=min (max (xs[D]'hx) (0-gq)) gq:=by unfold p0; rw[List.getElem?_eq_getElem hx]
    rw[wrap_i64 (x:=0-gq) (by omega) (by omega)];have:=vj w H;rw[es] at this;exact this
   ·rename_i hx;have hx:xs.length≤D:=by
     have:¬ (D:Int)<xs.length:=by simpa using hx
     omega
    have es:p0 gq xs D=0:=by unfold p0; rw[List.getElem?_eq_none hx]
    have:=vj w H;rw[es] at this;exact this
  ·rename_i U;have U:D=o.N.length:=by
    have:¬ (D:Int)<o.N.length:=by simpa using U
    omega
   subst U;unfold tb at D0 H;rw[aAF] at D0 H;exact⟨rfl,fI D0 H⟩
theorem aGV{au:Nat}{o:bD}{i off:Int}(k:kV o)(H:E A (ch au o::m) w):M Pg 51 [.pointer (some ⟨au,0,none⟩),.int .i64 i,.int .i64 off] (B .i64) w fun r J=>r=(EN o i off).2∧E A (ch au (EN o i off).1::m) J:=by
 obtain⟨p,am,H⟩:=k2 H;refine aiC ?_;unfold V6 EN qK;have tT:=k.now;have aKb:=k.width;have aL:=zE am H;have aL:p.nodes.len=o.N.length:=aL;refine aP ⟨au,0,none⟩ (fun _=>rfl) ?_;refine aP p.nodes (fun _=>bM X H rfl rfl) ?_;rw[aL];by_cases c:i<0∨(o.N.length:Int)≤i
 ·rw[if_pos (by simp only[Bool.or_eq_true,decide_eq_true_eq]; omega)];have j:(if i<0 then none else o.N[i.toNat]?)=none:=by
   by_cases ah:i<0
   ·rw[if_pos ah]
   ·rw[if_neg ah,List.getElem?_eq_none (by omega)]
  rw[j];exact⟨rfl,fI am H⟩
 ·rw[if_neg (by simp only[Bool.or_eq_true,decide_eq_true_eq]; omega)];have F:o.N[i.toNat]?=some (o.N[i.toNat]'(by omega)):=List.getElem?_eq_getElem (by omega);generalize o.N[i.toNat]'(by omega)=b at F;have j:(if i<0 then none else o.N[i.toNat]?)=some b:=by rw[if_neg (by omega),F]
  rw[j];have O6:p.Q.length=o.N.length:=by rw[← am.1,List.length_map]
  have qe:p.Q[i.toNat]?=some (p.Q[i.toNat]'(by omega)):=List.getElem?_eq_getElem (by omega);generalize p.Q[i.toNat]'(by omega)=t at qe;obtain⟨a0,eF⟩:=t;have:eF=b:=by
   have aJ:(p.Q.map Prod.snd)[i.toNat]?=some eF:=by rw[List.getElem?_map,qe]; rfl
   rw[am.1,F] at aJ;cases aJ; rfl
  subst this;refine cb rfl ?_;refine aj (x:=o.eu.jA) 0 H rfl rfl rfl ?_;refine dp H fun w H=>?_;obtain⟨a,Y⟩:=kM (i:=i) (H.front 1) (by omega) (by rw[List.length_map]; omega);obtain⟨q,R,H⟩:=lS (Eo qe H);have qf:∀ {w:World} {b:bn},E A (eX a0 b q (hT au o p i.toNat m)) w→L aD a w (some ⟨a0,0,none⟩):=fun H=>mj (fun _=>rfl) Y (by rw[List.getElem?_map,qe]; rfl) (H.front 13);refine aj (x:=p.nodes) 12 H rfl rfl rfl ?_;refine aP a Y ?_;refine aP _ (qf H) ?_;refine cb rfl ?_;refine aj (x:=some ⟨q.aw,0,none⟩) 0 H rfl rfl rfl ?_;refine aj (x:=p.nodes) 12 H rfl rfl rfl ?_;refine aP a Y ?_;refine aP _ (qf H) ?_;refine cb rfl ?_;refine aj (x:=eF.cG) 0 H rfl rfl rfl ?_;refine aj (x:=o.now) 12 H rfl rfl rfl ?_;rw[wrap_i64 (x:=0-o.eu.jA) (by omega) (by omega),wrap_i64 (x:=o.now+min (max off (0-o.eu.jA)) o.eu.jA) (by omega) (by omega)];refine ap (aez (h:=eF.cG) (t:=EO o off) (j:=o.eu.jA) (H.front 1)) ?_
  rintro r w ⟨rfl,H⟩;have H:E A (eX a0 { eF with aw:=(sp eF.aw eF.cG (EO o off) o.eu.jA).1 } q (hT au o p i.toNat m)) w:=H.ord [1,0];refine⟨bM X (H.front 12) rfl rfl,qf H,bM X (H.front 12) rfl rfl,qf H,bM (B .i64) (H.front 12) rfl rfl,?_⟩;obtain⟨bA,H⟩:=ry (cL:={ eF with aw:=(sp eF.aw eF.cG (EO o off) o.eu.jA).1 }) am qe (g_ R H);exact⟨rfl,fI bA H⟩
end
def ET(v:List fc)(i:Nat):Int:=((v[i]?).map fun x=>x.aW).getD 0
def Gj(l:List UInt8):cV:=⟨ET (jL l).1 0,⟨ET (jL l).1 1,ET (jL l).1 2,ET (jL l).1 3,ET (jL l).1 4⟩,ET (jL l).1 5⟩
theorem X9{r:cV}(h:oS r):Gj (fJ r)=r:=by
 unfold Gj;rw[afd h];rfl
def ub(K:cR)(n:Nat):dW:=(K.cS[n]?).getD ⟨[],0⟩
def IT(K:cR):Prop:=∃ cX bA xs an,K.cS[0]?=some cX∧K.cS[1]?=some bA∧sL (scan cX.l).1=some xs∧(scan bA.l).1=an.map fJ∧qS an
def y7(f:Nat)(b:bn)(xs:List dO)(an:List cV)(z:cR×Int):bn×Int:=if z.2≠0 then ({ b with K:=z.1 },z.2) else (zb b.aw b.cG z.1 f xs an,0)
def y6(f:Nat)(b:bn)(xs:List dO)(an:List cV)(bA:dW)(z:cR×Int):bn×Int:=if z.2≠0 then ({ b with K:=z.1 },z.2) else y7 f b xs an (dh z.1 1 bA)
def h6(K:cR):cR:={ K with down:=false }
def oM(f:Nat)(b:bn):bn×Int:=if b.K.down=true then
  y6 f b ((sL (scan (ub b.K 0).l).1).getD []) ((scan (ub b.K 1).l).1.map Gj) (ub b.K 1) (dh (h6 b.K) 0 (ub b.K 0))
 else (b,0)
def nM(o:bD)(i:Int):bD×Int:=qK o i (oM o.eu.gD)
def nT(o:bD)(i:Int)(q:Bool):bD×Int:=if i<0∨(o.N.length:Int)≤i then (o,202) else
 ({ o with aZ:=if o.aZ.has i=true then { o.aZ with off:=fun S=>if S==i then q else o.aZ.off S } else o.aZ },0)
def pB(o:bD)(i act:Int)(bG:List Int):bD×Int:=qK o i fun b=>({ b with K:={ b.K with ef:=max act 0,bG:=bG } },0)
def wo(o:bD)(i:Int)(bG:List Int):bD×Int:=qK o i fun b=>({ b with K:=hG bG b.K },0)
theorem CG{o:bD}{i:Int}{f:bn→bn×Int}(h:i<0∨(o.N.length:Int)≤i):qK o i f=(o,202):=by
 unfold qK;have j:(if i<0 then none else o.N[i.toNat]?)=none:=by
  by_cases ah:i<0
  ·rw[if_pos ah]
  ·rw[if_neg ah,List.getElem?_eq_none (by omega)]
 rw[j]
theorem zc{o:bD}{i:Int}{f:bn→bn×Int}{b:bn}(ah:0≤i)(h:o.N[i.toNat]?=some b):qK o i f=(kO o i.toNat (f b).1,(f b).2):=by
 unfold qK;rw[if_neg (by omega),h]
section
variable {A w:World} {m bT:List bC}
theorem L1{au:Nat}{o:bD}{p:kj}{i:Int}{hI:cm}{aa:World→Prop}(am:oR o p)
  (U:∀ a0 b w,0≤i→p.Q[i.toNat]?=some (a0,b)→o.N[i.toNat]?=some b→E A (hF au o p m) w→sJ Pg hI [.pointer (some (⟨a0,0,none⟩:Addr))] dZ w fun _ J=>aa J) (H:E A (hF au o p m) w) :
  M Pg 67 [.pointer (some ⟨au,0,none⟩),.int .i64 i,hI.enc] (B .i64) w fun r J=>((i<0∨(o.N.length:Int)≤i)∧r=202∧E A (hF au o p m) J)∨((0≤i∧i<o.N.length)∧r=0∧aa J):=by
 refine aiS ?_;unfold Wj;have aL:p.nodes.len=o.N.length:=zE am H;refine aP ⟨au,0,none⟩ (fun _=>rfl) ?_;refine aP p.nodes (fun _=>bM X H rfl rfl) ?_;rw[aL];by_cases c:i<0∨(o.N.length:Int)≤i
 ·rw[if_pos (by simp only[Bool.or_eq_true,decide_eq_true_eq]; omega)];exact .inl ⟨c,rfl,H⟩
 ·rw[if_neg (by simp only[Bool.or_eq_true,decide_eq_true_eq]; omega)];have F:o.N[i.toNat]?=some (o.N[i.toNat]'(by omega)):=List.getElem?_eq_getElem (by omega);generalize o.N[i.toNat]'(by omega)=b at F;have O6:p.Q.length=o.N.length:=by rw[← am.1,List.length_map]
  have qe:p.Q[i.toNat]?=some (p.Q[i.toNat]'(by omega)):=List.getElem?_eq_getElem (by omega);generalize p.Q[i.toNat]'(by omega)=t at qe;obtain⟨a0,eF⟩:=t;have:eF=b:=by
   have aJ:(p.Q.map Prod.snd)[i.toNat]?=some eF:=by rw[List.getElem?_map,qe]; rfl
   rw[am.1,F] at aJ;cases aJ; rfl
  subst this;refine cb rfl ?_;refine aj (x:=p.nodes) 0 H rfl rfl rfl ?_;obtain⟨a,Y⟩:=kM (i:=i) (H.front 1) (by omega) (by rw[List.length_map]; omega);refine aP a Y ?_;refine aP (some ⟨a0,0,none⟩) (mj (fun _=>rfl) Y (by rw[List.getElem?_map,qe]; rfl) (H.front 1)) ?_;refine Of (U a0 eF w (by omega) qe F H) ?_;intro _ w ca;exact .inr ⟨by omega,rfl,ca⟩
theorem X0{au:Nat}{o:bD}{i:Int}{q:Bool}(k:kV o)(H:E A (ch au o::m) w):M Pg 31 [.pointer (some ⟨au,0,none⟩),.int .i64 i,.bool q] (B .i64) w fun r J=>r=(nT o i q).2∧E A (ch au (nT o i q).1::m) J:=by
 obtain⟨p,am,H⟩:=k2 H;refine aig ?_;unfold VL;refine bP H fun a6 w H=>?_;refine bP H fun bY w H=>?_;refine bP H fun cP w H=>?_;refine aj (x:=(some ⟨au,0,none⟩:Option Addr)) 2 H rfl rfl rfl ?_;refine aj (x:=i) 1 H rfl rfl rfl ?_;have H:E A (hF au o p (aH cP (bk.cells q) 4::aH bY ((B .i64).cells i) 3::aH a6 (aD.cells (some ⟨au,0,none⟩)) 26::m)) w:=H.ord [3,4,5,6,7,8];refine ap (L1 (hI:=cm.mk (.func 68) (List.toArray []) (List.toArray [.pointer (some ⟨a6,0,none⟩),.pointer (some ⟨bY,0,none⟩),.pointer (some ⟨cP,0,none⟩)])) (aa:=fun w=>∃ fX,fX={ o with aZ:=if o.aZ.has i=true then { o.aZ with off:=fun S=>if S==i then q else o.aZ.off S } else o.aZ }∧E A (ch au fX::m) w) am ?_ H) ?_
 ·intro a0 b w ah a8 a1 H;refine⟨68,[],[.pointer (some ⟨a6,0,none⟩),.pointer (some ⟨bY,0,none⟩),.pointer (some ⟨cP,0,none⟩)],rfl,anf,?_⟩;refine aiT ?_;unfold Wk;refine dp H fun w H=>?_;refine aj (x:=(some ⟨au,0,none⟩:Option Addr)) 8 H rfl rfl rfl ?_;refine cb rfl ?_;refine aj (x:=some ⟨p.aZ,0,none⟩) 0 H rfl rfl rfl ?_;refine aj (x:=i) 7 H rfl rfl rfl ?_;refine aj (x:=q) 6 H rfl rfl rfl ?_;refine ap (Post.alZ (H.front 3) i q) ?_;rintro r w ⟨_,H⟩;refine⟨bM aD (H.front 8) rfl rfl,?_⟩;refine⟨_,rfl,fI (o:={ o with aZ:=if o.aZ.has i=true then { o.aZ with off:=fun S=>if S==i then q else o.aZ.off S } else o.aZ }) am ((H.ord [6,7,8]).drop.drop.drop.ord [1,2,3])⟩
 ·rintro r w (⟨I,rfl,H⟩ | ⟨I,rfl,fX,rfl,H⟩)
  ·have j:nT o i q=(o,202):=by unfold nT; rw[if_pos I]
   rw[j];exact⟨rfl,fI am ((H.ord [6,7,8]).drop.drop.drop)⟩
  ·have j:nT o i q=({ o with aZ:=if o.aZ.has i=true then { o.aZ with off:=fun S=>if S==i then q else o.aZ.off S } else o.aZ },0):=by unfold nT; rw[if_neg (by omega)]
   rw[j];exact⟨rfl,H⟩
theorem Xr{au:Nat}{o:bD}{i act:Int}{s:af}{bG:List Int}(k:kV o)(fy:di 1 m (B .i64) s bG)(aq:bG.length≤1000000)(H:E A (ch au o::m) w):M Pg 32 [.pointer (some ⟨au,0,none⟩),.int .i64 i,.int .i64 act,X.enc s] (B .i64) w fun r J=>r=(pB o i act bG).2∧E A (ch au (pB o i act bG).1::m) J:=by
 obtain⟨p,am,H⟩:=k2 H;refine aih ?_;unfold VM;refine bP H fun b1 w H=>?_;refine bP H fun cg w H=>?_;have H:E A (hF au o p (aH cg (X.cells s) 33::aH b1 ((B .i64).cells act) 3::m)) w:=H.ord [2,3,4,5,6,7];refine ap (L1 (hI:=cm.mk (.func 70) (List.toArray []) (List.toArray [.pointer (some ⟨b1,0,none⟩),.pointer (some ⟨cg,0,none⟩)])) (aa:=fun w=>E A (ch au (pB o i act bG).1::m) w∧(pB o i act bG).2=0) am ?_ H) ?_
 ·intro a0 b w ah a8 a1 H;refine⟨70,[],[.pointer (some ⟨b1,0,none⟩),.pointer (some ⟨cg,0,none⟩)],rfl,ang,?_⟩;refine aiW ?_;unfold Wn;refine dp H fun w H=>?_;refine cb rfl ?_;have H:=(H.ord [6,7]).ord [2,3,4,5,6,7,0,1];obtain⟨q,R,H⟩:=lS (Eo a8 H);refine aj (x:=some ⟨q.d,0,none⟩) 0 H rfl rfl rfl ?_;refine aj (x:=act) 19 H rfl rfl rfl ?_;refine aj (x:=s) 18 H rfl rfl rfl ?_;refine ap (akf (n:=act) aq (fy.l7 [_,_,_,_,_,_,_,_,_,_,_,_,_,_,_,_,_,_,_]) (H.front 2)) ?_;rintro r w H;have j:pB o i act bG=(kO o i.toNat { b with K:={ b.K with ef:=max act 0,bG:=bG } },0):=by unfold pB; rw[zc ah a1]
  rw[j];obtain⟨bA,H⟩:=ry (cL:={ b with K:={ b.K with ef:=max act 0,bG:=bG } }) am a8 (g_ (q:=q) R (H.ord [1,2,0]));exact⟨fI bA ((H.ord [6,7]).drop.drop),rfl⟩
 ·rintro r w (⟨I,rfl,H⟩ | ⟨I,rfl,H,O⟩)
  ·have j:pB o i act bG=(o,202):=CG I;rw[j];exact⟨rfl,fI am ((H.ord [6,7]).drop.drop)⟩
  ·exact⟨O.symm,H⟩
theorem alV{au:Nat}{o:bD}{i:Int}{s:af}{bG:List Int}(k:kV o)(fy:di 1 m (B .i64) s bG)(H:E A (ch au o::m) w):M Pg 48 [.pointer (some ⟨au,0,none⟩),.int .i64 i,X.enc s] (B .i64) w fun r J=>r=(wo o i bG).2∧E A (ch au (wo o i bG).1::m) J:=by
 obtain⟨p,am,H⟩:=k2 H;refine aiy ?_;unfold V3;refine bP H fun a6 w H=>?_;have H:E A (hF au o p (aH a6 (X.cells s) 33::m)) w:=H.ord [1,2,3,4,5,6];refine ap (L1 (hI:=cm.mk (.func 102) (List.toArray []) (List.toArray [.pointer (some ⟨a6,0,none⟩)])) (aa:=fun w=>E A (ch au (wo o i bG).1::m) w∧(wo o i bG).2=0) am ?_ H) ?_
 ·intro a0 b w ah a8 a1 H;refine⟨102,[],[.pointer (some ⟨a6,0,none⟩)],rfl,amy,?_⟩;refine afZ ?_;unfold Tv;refine dp H fun w H=>?_;refine cb rfl ?_;obtain⟨q,R,H⟩:=lS (Eo a8 H);refine aj (x:=some ⟨q.d,0,none⟩) 0 H rfl rfl rfl ?_;refine aj (x:=s) 18 H rfl rfl rfl ?_;refine ap (Disk.alW (k.at a1).hz.K (fy.l7 [_,_,_,_,_,_,_,_,_,_,_,_,_,_,_,_,_,_]) (H.front 2)) ?_;rintro r w H;have j:wo o i bG=(kO o i.toNat { b with K:=hG bG b.K },0):=by unfold wo; rw[zc ah a1]
  rw[j];obtain⟨bA,H⟩:=ry (cL:={ b with K:=hG bG b.K }) am a8 (g_ (q:=q) R (H.ord [1,2,0]));exact⟨fI bA ((H.ord [6]).drop),rfl⟩
 ·rintro r w (⟨I,rfl,H⟩ | ⟨I,rfl,H,O⟩)
  ·have j:wo o i bG=(o,202):=CG I;rw[j];exact⟨rfl,fI am ((H.ord [6]).drop)⟩
  ·exact⟨O.symm,H⟩
end
theorem Kw{K:cR}{n:Nat}{g:dW}(h:K.cS[n]?=some g):ub K n=g:=by unfold ub; rw[h]; rfl
abbrev zt:=mA
abbrev sF:=p_
abbrev kk:=fw
abbrev Df:=hP
def oU(an:List zt)(at_:Int)(uG:List (List kk))(aW:cv):Prop:=an.length=uG.length∧∀ (i:Nat) (r:zt) (N:List kk),an[i]?=some r→uG[i]?=some N→r.vW=at_∧c3 Df r.N N aW
theorem oU.mono{an:List zt}{at_:Int}{uG:List (List kk)}{aW g8:cv}(h:cv.le aW g8):oU an at_ uG aW→oU an at_ uG g8:=fun ⟨I,O⟩=>⟨I,fun i r N ab kE=>⟨(O i r N ab kE).1,c3.mono h (O i r N ab kE).2⟩⟩
def uq(an:List zt)(at_:Int)(uG:List (List kk)):bC:=rU (oU an at_ uG) oU.mono
theorem oU.push{an:List zt}{at_:Int}{uG:List (List kk)}{q:af}{N:List kk}{aW:cv}(h:oU an at_ uG aW)(ab:c3 Df q N aW):oU (an++[⟨at_,q⟩]) at_ (uG++[N]) aW:=by
 refine⟨by simp[h.1],fun i r WZ tU GC=>?_⟩;by_cases c:i<an.length
 ·rw[List.getElem?_append_left c] at tU;rw[List.getElem?_append_left (by rw[← h.1]; exact c)] at GC;exact h.2 i r WZ tU GC
 ·rw[List.getElem?_append_right (by omega)] at tU;rw[List.getElem?_append_right (by rw[← h.1]; omega)] at GC;have hH:i-an.length=0:=by
   rcases Nat.eq_zero_or_pos (i-an.length) with j | j
   ·exact j
   ·rw[List.getElem?_eq_none (by simp; omega)] at tU; cases tU
  have aR:i-uG.length=0:=by rw[← h.1]; exact hH
  rw[hH] at tU;rw[aR] at GC;cases tU; cases GC;exact⟨rfl,ab⟩
noncomputable def nI(at_:Int):List bn→List (List kk)×Int
 |[]=>([],0)
 |b::N=>if b.K.down=true then ([],203) else if xc (rE b.W.v.W at_)≠0 then ([],xc (rE b.W.v.W at_)) else
  if (nI at_ N).2≠0 then ([],(nI at_ N).2) else (nf b.W.v.W at_::(nI at_ N).1,0)
noncomputable def vC(o:bD)(at_:Int):List (List kk)×Int:=nI at_ o.N
theorem Se{at_:Int}{aT:List bn}:∀ {aO:List bn},(∀ b∈aO,b.K.down=false∧xc (rE b.W.v.W at_)=0)→nI at_ (aO++aT)=if (nI at_ aT).2≠0 then ([],(nI at_ aT).2) else (aO.map (fun b=>nf b.W.v.W at_)++(nI at_ aT).1,0)
 |[],_=>by
  have key:∀ N:List bn,(nI at_ N).2≠0→(nI at_ N).1=[]:=by
   intro N h;cases N with
   |nil=>exact absurd rfl h
   |cons b N=>
    unfold nI at h ⊢;split
    ·rfl
    ·rename_i I;rw[if_neg I] at h;split
     ·rfl
     ·rename_i O;rw[if_neg O] at h;split
      ·rfl
      ·rename_i aJ;rw[if_neg aJ] at h;exact absurd rfl h
  simp only[List.nil_append,List.map_nil];split
  ·rename_i h;rw[← key aT h]
  ·rename_i h;have h:=Classical.not_not.1 h;rw[← h]
 |b::aO,h=>by
  obtain⟨I,O⟩:=h b (List.mem_cons_self ..);have ck:=Se (aT:=aT) (aO:=aO) fun x F=>h x (List.mem_cons_of_mem _ F);rw[List.cons_append]
  conv=>lhs; unfold nI
  rw[if_neg (by simp[I]),if_neg (by simp[O]),ck];by_cases c:(nI at_ aT).2≠0
  ·simp only[if_pos c]
  ·simp only[if_neg c,ne_eq,not_true_eq_false,if_false];rfl
section
variable {A w:World} {m bT:List bC}
theorem afh{au:Nat}{o:bD}{i:Int}(k:kV o)(PA:∀ b∈o.N,IT b.K)(H:E A (ch au o::m) w):M Pg 33 [.pointer (some ⟨au,0,none⟩),.int .i64 i] (B .i64) w fun r J=>r=max (nM o i).2 0∧E A (ch au (nM o i).1::m) J:=by
 obtain⟨p,am,H⟩:=k2 H;refine aii ?_;unfold VN;refine bP H fun aA w H=>?_;refine bP H fun b1 w H=>?_;refine dD (x:=(0:Int)) 0 H rfl rfl (Nat.le_of_ble_eq_true rfl) fun w H=>?_;refine aj (x:=(some ⟨au,0,none⟩:Option Addr)) 1 H rfl rfl rfl ?_;have H:E A (hF au o p (aH b1 ((B .i64).cells 0) 43::aH aA (aD.cells (some ⟨au,0,none⟩)) 26::m)) w:=H.ord [2,3,4,5,6,7];refine ap (L1 (hI:=cm.mk (.func 72) (List.toArray []) (List.toArray [.pointer (some ⟨aA,0,none⟩),.pointer (some ⟨b1,0,none⟩)])) (aa:=fun w=>E A (aH b1 ((B .i64).cells (nM o i).2) 43::ch au (nM o i).1::m) w) am ?_ H) ?_
 ·intro a0 b w ah a8 a1 H;refine⟨72,[],[.pointer (some ⟨aA,0,none⟩),.pointer (some ⟨b1,0,none⟩)],rfl,anh,?_⟩;refine aiY ?_;unfold Wp;refine cb rfl ?_;obtain⟨q,R,H⟩:=lS (Eo a8 H);have ok:=k.at a1;have j:nM o i=(kO o i.toNat (oM o.eu.gD b).1,(oM o.eu.gD b).2):=by unfold nM; rw[zc ah a1]
  rw[j];clear j;have fin:∀ (cL:bn) (j:Int) (w:World),E A (ka a0 cL::aH au (gK.cells (iE o p)) 114::row aD 89 1 p.nodes (p.Q.map kI)::dA ((p.Q.eraseIdx i.toNat).map hn)::Post.hN p.aZ o.aZ::c_ fq .i64 p.kH p.rr::row kl 53 3 p.told o.told::aH b1 ((B .i64).cells j) 43::aH aA (aD.cells (some ⟨au,0,none⟩)) 26::m) w→E A (aH b1 ((B .i64).cells j) 43::ch au (kO o i.toNat cL)::m) w:=by
   intro cL j w H;obtain⟨bA,H⟩:=ry am a8 H;have H:=fI bA ((H.ord [7]).drop);exact H.front 1
  refine aj (x:=some ⟨q.d,0,none⟩) 0 H rfl rfl rfl ?_;refine ap (DB (H.front 2)) ?_;rintro r w ⟨rfl,H⟩;by_cases ag:b.K.down=true
  ·rw[if_pos ag];obtain⟨cX,bA,xs,an,yh,ri,rl,J4,o6⟩:=PA b (List.mem_of_getElem? a1);have kt:∀ r∈an,oS r:=by
    intro r ab;obtain⟨D,bR,rfl⟩:=List.getElem_of_mem ab;exact (o6 D _ (List.getElem?_eq_getElem bR)).1
   have Ow:(scan bA.l).1.map Gj=an:=by
    rw[J4,List.map_map]
    conv=>rhs; rw[← List.map_id an]
    exact List.map_congr_left fun r ab=>X9 (kt r ab)
   have j:oM o.eu.gD b=y6 o.eu.gD b xs an bA (dh (h6 b.K) 0 cX):=by
    unfold oM;rw[if_pos ag,Kw yh,Kw ri,rl,Ow];rfl
   rw[j];clear j;refine aj (x:=some ⟨q.d,0,none⟩) 1 H rfl rfl rfl ?_;refine ap (aIg H) ?_;intro _ w H;refine aj (x:=(some ⟨au,0,none⟩:Option Addr)) 19 H rfl rfl rfl ?_;have dr:(h6 b.K).hD:=⟨ok.hz.K.len,ok.hz.K.log⟩
   refine ap (afF (au:=au) (a0:=a0) (c:=iE o p) (x:=n2 b q) (aw:=b.aw) (K:=h6 b.K) (cX:=cX) (bA:=bA) (xs:=xs) (an:=an) rfl rfl k.eD dr rfl yh rl ri J4 o6 (H.ord [12,1,2,0])) ?_;rintro r w ⟨dF,cB,bm⟩;have old:∀ (ee:cR) (w:World),E A (aH au (gK.cells (iE o p)) 114::aH a0 (j4.cells (n2 b q)) 101::j7 q.aw b.aw::ez q.d ee::oI q.src b.src::kw q.iN q.e_ q.dv::h8 q.e_ q.d b.W.V::eU q.dv b.W.v::h8 q.cF q.d b.A::c_ aD .i64 q.jJ (q.Q.map iV)::dA (q.Q.map lU)::c_ fq .i64 q.pk q.qB::row mB 161 8 q.out b.out::row aD 89 1 p.nodes (p.Q.map kI)::dA ((p.Q.eraseIdx i.toNat).map hn)::Post.hN p.aZ o.aZ::c_ fq .i64 p.kH p.rr::row kl 53 3 p.told o.told::aH b1 ((B .i64).cells 0) 43::aH aA (aD.cells (some ⟨au,0,none⟩)) 26::m) w →
     ∀ j:Int,bd (B .i64) ⟨b1,0,none⟩ j w fun J=>E A (aH b1 ((B .i64).cells j) 43::ch au (kO o i.toNat { b with K:=ee })::m) J:=by
    intro ee w H j;have H:=g_ (b:={ b with K:=ee }) (q:=q) R (H.ord [1,2,3,4,5,6,7,8,9,10,11,12]);refine c5 (x:=(0:Int)) (S:=j) (n:=1) (fun _=>rfl) 7 H rfl fun w H=>?_;exact fin { b with K:=ee } j w (H.ord [1,2,3,4,5,6,7,0])
   by_cases b7:(dh (h6 b.K) 0 cX).2=0
   ·have aR:y6 o.eu.gD b xs an bA (dh (h6 b.K) 0 cX)=y7 o.eu.gD b xs an (dh (dh (h6 b.K) 0 cX).1 1 bA):=by unfold y6; rw[if_neg (fun h=>h b7)]
    rw[aR];by_cases bt:(dh (dh (h6 b.K) 0 cX).1 1 bA).2=0
    ·obtain⟨rfl,H⟩:=bm b7 bt;have a9:y7 o.eu.gD b xs an (dh (dh (h6 b.K) 0 cX).1 1 bA)=(zb b.aw b.cG (dh (dh (h6 b.K) 0 cX).1 1 bA).1 o.eu.gD xs an,0):=by unfold y7; rw[if_neg (fun h=>h bt)]
     rw[a9];have H:=(H.ord [2,3,4,5,6,7,8,9,10]).drop.drop.drop.drop.drop.drop.drop.drop.drop;refine c5 (x:=(0:Int)) (S:=(0:Int)) (n:=1) (fun _=>rfl) 7 H rfl fun w H=>?_;exact fin _ 0 w (H.ord [2,1,3,4,5,6,7,0])
    ·obtain⟨rfl,H⟩:=cB b7 bt;have a9:y7 o.eu.gD b xs an (dh (dh (h6 b.K) 0 cX).1 1 bA)=({ b with K:=(dh (dh (h6 b.K) 0 cX).1 1 bA).1 },(dh (dh (h6 b.K) 0 cX).1 1 bA).2):=by unfold y7; rw[if_pos bt]
     rw[a9];exact old _ w H _
   ·obtain⟨rfl,H⟩:=dF b7;have aR:y6 o.eu.gD b xs an bA (dh (h6 b.K) 0 cX)=({ b with K:=(dh (h6 b.K) 0 cX).1 },(dh (h6 b.K) 0 cX).2):=by unfold y6; rw[if_pos b7]
    rw[aR];exact old _ w H _
  ·rw[if_neg ag];have j:oM o.eu.gD b=(b,0):=by unfold oM; rw[if_neg ag]
   rw[j];have H:=g_ R (H.ord [1,2,0]);exact fin b 0 w H
 ·rintro r w (⟨I,rfl,H⟩ | ⟨I,rfl,H⟩)
  ·have j:nM o i=(o,202):=CG I;rw[j];refine aj (x:=(0:Int)) 6 H rfl rfl rfl ?_;exact⟨rfl,fI am ((H.ord [6,7]).drop.drop)⟩
  ·refine aj (x:=(nM o i).2) 0 H rfl rfl rfl ?_;exact⟨rfl,H.drop⟩
theorem LR{au:Nat}{o:bD}{i:Int}{p:kj}(am:oR o p)(k:kV o)(H:E A (hF au o p m) w):M Pg 9 [.pointer (some ⟨au,0,none⟩),.int .i64 i] aD w fun r J=>
  (fR o i≠0∧r=none∧E A (hF au o p m) J)∨(fR o i=0∧∃ a0 b q,0≤i∧p.Q[i.toNat]?=some (a0,b)∧o.N[i.toNat]?=some b∧Fits b q∧r=some ⟨q.dv,0,none⟩∧E A (eX a0 b q (hT au o p i.toNat m)) J):=by
 refine WP ?_;unfold Ns;refine ap (sG am k.len.2 H) ?_;rintro r w (⟨I,rfl,H⟩ | ⟨I,a0,b,O,a8,a1,ag,rfl,H⟩)
 ·rw[if_pos (by simpa using I)];exact .inl ⟨I,rfl,H⟩
 ·rw[if_neg (by simp)];obtain⟨q,R,H⟩:=lS H;refine cb rfl ?_;refine aj (x:=some ⟨q.iN,0,none⟩) 0 H rfl rfl rfl ?_;refine ap (y8 (H.front 4)) ?_;rintro r w ⟨rfl,H⟩;exact .inr ⟨I,a0,b,q,O,a8,a1,R,rfl,H.ord [1,2,3,4,0]⟩
theorem aGh{au:Nat}{o:bD}{at_:Int}(k:kV o)(H:E A (ch au o::m) w):M Pg 26 [.pointer (some ⟨au,0,none⟩),.int .i64 at_] (bw X (B .i64)) w fun r J=>
  r.2=(vC o at_).2∧∃ iM,E A (row sF 85 2 r.1 iM::uq iM at_ (vC o at_).1::ch au o::m) J:=by
 obtain⟨p,am,H⟩:=k2 H;refine aic ?_;unfold VC;have aL:p.nodes.len=o.N.length:=zE am H;have O3:=k.len.2;refine cb rfl ?_;refine aj (x:=p.nodes) 0 H rfl rfl rfl ?_;have fail:∀ (j:Int) (w:World),vC o at_=([],j)→E A (hF au o p m) w→(j=(vC o at_).2∧∃ iM,E A (row sF 85 2 fz iM::uq iM at_ (vC o at_).1::ch au o::m) w):=by
  intro j w he H;rw[he];refine⟨rfl,[],?_⟩;have H:=fI am H;have H:=H.z7 (y:=oU.mono) (fa:=oU [] at_ []) (fun _ _ _=>⟨rfl,fun i r N ab _=>by simp at ab⟩);exact kN _ _ _ H
 have lz:E A (row sF 85 2 fz []::uq [] at_ []::hF au o p m) w:=kN _ _ _ (H.z7 (y:=oU.mono) (fa:=oU [] at_ []) (fun _ _ _=>⟨rfl,fun i r N ab _=>by simp at ab⟩))
 refine hY (fun s w=>∃ (D:Nat) (iM:List zt),s.2=(D:Int)∧D≤o.N.length∧iM.length=D∧(∀ b∈o.N.take D,b.K.down=false∧xc (rE b.W.v.W at_)=0) ∧
  E A (row sF 85 2 s.1 iM::uq iM at_ ((o.N.take D).map fun b=>nf b.W.v.W at_)::hF au o p m) w) (fun s=>(o.N.length-s.2).toNat) ⟨0,[],rfl,by omega,rfl,(fun b a1=>by simp at a1),lz⟩ ?_
 clear H lz;rintro⟨s,t⟩ w ⟨D,iM,aS,bR,tV,re,H⟩ aa ca;simp only at aS H;subst aS;unfold M1;simp only;rw[aL];split
 ·rename_i U;have U:D<o.N.length:=by
   have:(D:Int)<o.N.length:=by simpa using U
   omega
  have aR:IntKind.i64.wrap ((D:Int)+1)=((D+1:Nat):Int):=by rw[wrap_i64 (by omega) (by omega)]; omega
  have xY:o.N[D]?=some (o.N[D]'U):=List.getElem?_eq_getElem U;have aaf:o.N=o.N.take D++(o.N[D]'U)::o.N.drop (D+1):=by rw[← List.drop_eq_getElem_cons U,List.take_append_drop]
  have iG:o.N.take (D+1)=o.N.take D++[o.N[D]'U]:=List.take_succ_eq_append_getElem U;have HJ:=k.at xY;generalize o.N[D]'U=b at xY aaf iG HJ;have nX:=Se (at_:=at_) (aT:=b::o.N.drop (D+1)) re;rw[← aaf] at nX;have gY:E A (hF au o p (row sF 85 2 s iM::uq iM at_ ((o.N.take D).map fun b=>nf b.W.v.W at_)::m)) w:=H.ord [2,3,4,5,6,7];refine ap (sG am k.len.2 gY) ?_;have kF:fR o (D:Int)=if b.K.down=true then 203 else 0:=by
   unfold fR;rw[if_neg (by omega),Int.toNat_natCast,xY]
  rintro r w (⟨I,rfl,H⟩ | ⟨I,a0,eF,O,a8,a1,ag,rfl,H⟩)
  ·rw[if_pos (by simpa using I)];have DX:b.K.down=true:=by
    rw[kF] at I;by_cases c:b.K.down=true
    ·exact c
    ·rw[if_neg c] at I; exact absurd rfl I
   refine fail _ w ?_ ((H.ord [6,7]).drop.drop);have a9:nI at_ (b::o.N.drop (D+1))=([],203):=by unfold nI; rw[if_pos DX]
   unfold vC;rw[nX,a9,kF,if_pos DX];rfl
  ·rw[if_neg (by simp)];have:eF=b:=by rw[Int.toNat_natCast,xY] at a1; cases a1; rfl
   subst this;obtain⟨q,R,H⟩:=lS H;refine cb rfl ?_;refine aj (x:=some ⟨q.iN,0,none⟩) 0 H rfl rfl rfl ?_;refine ap (y8 (H.front 4)) ?_;rintro r w ⟨rfl,H⟩;refine ap (aIx (t:=at_) HJ.hz.v (H.front 6)) ?_;rintro⟨gN,bv⟩ w ⟨aJ,H⟩;simp only at aJ H;subst aJ;have H:E A (row Df 87 2 gN (nf eF.W.v.W at_)::eX a0 eF q (hT au o p ((D:Int)).toNat (row sF 85 2 s iM::uq iM at_ ((o.N.take D).map fun b=>nf b.W.v.W at_)::m))) w:=H.ord [0,3,4,5,6,2,7,1];by_cases ct:xc (rE eF.W.v.W at_)=0
   ·rw[if_neg (by simp[ct])];have H:=vD H;have H:E A (ka a0 eF::ro Df gN (nf eF.W.v.W at_)::hT au o p ((D:Int)).toNat (row sF 85 2 s iM::uq iM at_ ((o.N.take D).map fun b=>nf b.W.v.W at_)::m)) w:=g_ R (H.ord [1,2,3,4,5,6,7,8,9,10,11,12]);have H:=wX a8 (H.ord [0,2,3,4,5,6,7]);refine nu (fun _=>rfl) 7 H rfl (by simp; omega) fun r w H=>?_;have H:E A (ro Df gN (nf eF.W.v.W at_)::uq iM at_ ((o.N.take D).map fun b=>nf b.W.v.W at_)::row sF 85 2 r (iM++[⟨at_,gN⟩])::hF au o p m) w:=H.ord [7,8];have tZ:b6 (ro Df gN (nf eF.W.v.W at_)::uq iM at_ ((o.N.take D).map fun b=>nf b.W.v.W at_)::row sF 85 2 r (iM++[⟨at_,gN⟩])::hF au o p m) (oU (iM++[⟨at_,gN⟩]) at_ (((o.N.take D).map fun b=>nf b.W.v.W at_)++[nf eF.W.v.W at_])):=((b6.tail (b6.here (y:=oU.mono))).and (b6.here (y:=c3.mono))).imp fun aW h=>oU.push h.1 h.2;have H:=H.z7 (y:=oU.mono) tZ;rw[aR]
    refine ca _ _ ⟨D+1,iM++[⟨at_,gN⟩],rfl,by omega,by simp[tV],?_,?_⟩ (by simp only; omega)
    ·intro ajx Zv;rw[iG] at Zv;rcases List.mem_append.1 Zv with h | h
     ·exact re ajx h
     ·rw[List.mem_singleton.1 h]; exact⟨ag,ct⟩
    ·rw[iG,List.map_append];exact ((H.ord [1,2]).drop.drop.front 1)
   ·rw[if_pos (by simpa using ct)];have H:=H.drop;have H:=wX a8 (g_ R H);refine fail _ w ?_ ((H.ord [6,7]).drop.drop);have a9:nI at_ (eF::o.N.drop (D+1))=([],xc (rE eF.W.v.W at_)):=by unfold nI; rw[if_neg (by simp[ag]),if_pos ct]
    unfold vC;rw[nX,a9];simp only[if_pos ct]
 ·rename_i U;have U:D=o.N.length:=by
   have:¬ (D:Int)<o.N.length:=by simpa using U
   omega
  subst U;rw[List.take_length] at re H;have a9:vC o at_=(o.N.map fun b=>nf b.W.v.W at_,0):=by
   unfold vC;have:=Se (at_:=at_) (aT:=[]) re;rw[List.append_nil] at this;rw[this];simp[nI]
  rw[a9];exact⟨rfl,iM,(fI am (H.ord [2,3,4,5,6,7])).ord [1,2]⟩
end
instance (f:Nat):Decidable (ju f):=by unfold ju; infer_instance
instance (f:Nat):Decidable (jc f):=by unfold jc; infer_instance
abbrev rI:=kZ
abbrev gl:=ha
structure p6(c:rI):Prop where
 n:1≤c.hE∧c.hE≤8
 eD:ju c.gD
 kC:jc c.kX
 width:0≤c.jA∧c.jA≤1000
def nm:cR:=⟨[⟨[],0⟩,⟨[],0⟩],0,false,0,[]⟩
def yJ(c:rI):bn:=zb (sp (Gh c.kX) 0 1000 c.jA).1 0 nm c.gD [] []
def xJ(c:rI)(D:Nat):bD:=⟨c,1000,List.replicate D (yJ c),Post.dH.new c.hE,fun _=>false,[]⟩
def lR(c:rI):bD:=xJ c c.hE.toNat
theorem Mc:nm.hD:=⟨by simp[nm],fun g R=>by simp[nm] at R; subst R; simp⟩
theorem KE(n:Int):dh nm n ⟨[],0⟩=(nm,0):=by
 have aG:scan []=([],0):=by rfl
 unfold dh;rw[aG];simp
section
variable {A w:World} {m bT:List bC}
theorem QZ{c:rI}(ab:c.gD<18446744073709551616)(ag:c.kX<18446744073709551616)(H:E A m w):M Pg 12 [gl.enc c] (bw aD (B .i64)) w fun r J=>
  (¬ p6 c→r=(none,200)∧E A m J)∧(p6 c→r.2=0∧∃ au:Nat,r.1=some ⟨au,0,none⟩∧E A (ch au (lR c)::m) J):=by
 refine agq ?_;unfold Ml;refine bP H fun aY w H=>?_;refine aj (x:=c.kX) 0 H rfl rfl rfl ?_;refine ap (abH ag H) ?_;rintro⟨gN,bv⟩ w ⟨dn,dY⟩;have g4:∀ (t:Bool) (w:World),((t||(bv != 0))||gN.isNone)=(if 1≤c.hE∧c.hE≤8∧ju c.gD∧jc c.kX then false else true)→E A (aH aY (gl.cells c) 24::m) w→CQ ⟨aY,0,none⟩ (gN,bv) t w fun r J=>(¬ p6 c→r=(none,200)∧E A m J)∧(p6 c→r.2=0∧∃ au:Nat,r.1=some ⟨au,0,none⟩∧E A (ch au (lR c)::m) J):=by
  intro t w aS H;unfold CQ;refine aP c.jA (fun _=>bM (B .i64) H rfl rfl) ?_;refine aP c.jA (fun _=>bM (B .i64) H rfl rfl) ?_;simp only;rw[aS];by_cases ok:p6 c
  ·rw[if_neg (by rw[if_pos ⟨ok.n.1,ok.n.2,ok.eD,ok.kC⟩]; simp only[Bool.false_or,Bool.or_eq_true,decide_eq_true_eq]; have:=ok.width; omega)];refine eh (x:=c) 0 H rfl ?_;refine wY H fun kH w H=>?_;have H:=wU fq .i64 H;refine bP H fun au w H=>?_;refine aj (x:=c.hE) 2 H rfl rfl rfl ?_;refine ap (Post.ajy H c.hE) ?_;rintro r w (⟨h,_⟩ | ⟨_,a0,rfl,H⟩)
   ·have:=ok.n; omega
   ·refine dD (x:=(some ⟨a0,0,none⟩:Option Addr)) 1 H rfl rfl (Nat.le_of_ble_eq_true rfl) fun w H=>?_;refine aj (x:=c.hE) 3 H rfl rfl rfl ?_;have lz:∃ p:kj,oR (xJ c 0) p∧E A (hF au (xJ c 0) p (aH aY (gl.cells c) 24::m)) w:=by
     refine⟨⟨fz,a0,kH,fz,[],[]⟩,⟨rfl,fun _=>rfl⟩,?_⟩;have H:=kN kl 53 3 (kN aD 89 1 (E.shut (bT:=([]:List bC)) H));exact H.ord [3,1,2,4,5,0]
    have qg:=ok.n;refine hY (fun t w=>∃ D:Nat,t=(D:Int)∧(D:Int)≤c.hE∧∃ p:kj,oR (xJ c D) p∧E A (hF au (xJ c D) p (aH aY (gl.cells c) 24::m)) w) (fun t=>(c.hE-t).toNat) ⟨0,rfl,by omega,lz⟩ ?_;clear H lz;rintro t w ⟨D,rfl,bR,p,am,H⟩ aa ca;unfold Mo;split
    ·rename_i U;have U:(D:Int)<c.hE:=by simpa using U
     have aR:IntKind.i64.wrap ((D:Int)+1)=((D+1:Nat):Int):=by rw[wrap_i64 (by omega) (by omega)]; omega
     refine bP H fun l w H=>?_;refine aj (x:=c.kX) 7 H rfl rfl rfl ?_;refine ap (abH ag H) ?_;rintro⟨gF,gd⟩ w ⟨bA,_⟩;obtain⟨_,uW,wC,H⟩:=bA ok.kC;simp only at wC;subst wC;refine dD (x:=(some ⟨uW,0,none⟩:Option Addr)) 1 H rfl rfl (Nat.le_of_ble_eq_true rfl) fun w H=>?_;refine dp H fun w H=>?_;refine aj (x:=(some ⟨uW,0,none⟩:Option Addr)) 0 H rfl rfl rfl ?_;refine aj (x:=(1000:Int)) 2 H rfl rfl rfl ?_;refine aj (x:=c.jA) 8 H rfl rfl rfl ?_;refine ap (aez (h:=0) (t:=1000) (j:=c.jA) (H.front 1)) ?_;rintro r w ⟨_,H⟩;refine ap (Disk.Q0 (n:=2) (by omega) (by omega) H) ?_;rintro⟨gN,bv⟩ w ⟨_,d,zQ,H⟩;simp only at zQ;subst zQ;refine dD (x:=(some ⟨d,0,none⟩:Option Addr)) 2 H rfl rfl (Nat.le_of_ble_eq_true rfl) fun w H=>?_
     have H:E A (aH au (gK.cells (iE (xJ c D) p)) 114::aH l (j4.cells ⟨some ⟨uW,0,none⟩,0,some ⟨d,0,none⟩,none,none,none,none,none,fz⟩) 101::j7 uW (sp (Gh c.kX) 0 1000 c.jA).1::ez d nm::row aD 89 1 p.nodes (p.Q.map kI)::dA (p.Q.map hn)::Post.hN p.aZ (xJ c D).aZ::c_ fq .i64 p.kH p.rr::row kl 53 3 p.told (xJ c D).told::aH aY (gl.cells c) 24::m) w:=H.ord [3,0,2,1];refine ap (afF (cX:=⟨[],0⟩) (bA:=⟨[],0⟩) (xs:=[]) (an:=[]) rfl rfl ok.eD Mc rfl rfl rfl rfl rfl (fun i r h=>by simp at h) H) ?_;rintro r w ⟨_,_,bm⟩;rw[KE] at bm;simp only at bm;rw[KE] at bm;obtain⟨_,H⟩:=bm (by trivial) (by first | rfl | trivial);refine aj (x:=p.nodes) 0 H rfl rfl rfl ?_;have wD:p.Q.length=D:=by rw[← List.length_map (f:=Prod.snd),am.1]; show (List.replicate D _).length=D; simp
     refine nu (fun _=>rfl) 2 H rfl (by simp; omega) fun r w H=>?_;refine dD (x:=r) 1 H rfl rfl (Nat.le_of_ble_eq_true rfl) fun w H=>?_;rw[aR];refine ca _ _ ⟨D+1,rfl,by omega,{ p with nodes:=r,Q:=p.Q++[(l,yJ c)] },⟨?_,am.2⟩,?_⟩ (by omega)
     ·show (p.Q++[(l,yJ c)]).map Prod.snd=List.replicate (D+1) (yJ c)
      rw[List.map_append,am.1,List.replicate_succ'];rfl
     ·have H:E A (hn (l,yJ c)::dA (p.Q.map hn)::_) w:=H.ord [2,3];rw[show p.Q.map hn=(p.Q++[]).map hn from by rw[List.append_nil]] at H;have H:=(wj (f:=hn) H).ord [1,2,0];have j:(p.Q++[(l,yJ c)]).map kI=p.Q.map kI++[some ⟨l,0,none⟩]:=by rw[List.map_append]; rfl
      show E A (hF au (xJ c (D+1)) { p with nodes:=r,Q:=p.Q++[(l,yJ c)] } (aH aY (gl.cells c) 24::m)) w
      unfold hF;rw[j];exact H
    ·rename_i U;have U:¬ (D:Int)<c.hE:=by simpa using U
     have vb:c.hE.toNat=D:=by omega
     refine⟨fun h=>absurd ok h,fun _=>⟨rfl,au,rfl,?_⟩⟩;unfold lR;rw[vb];exact fI am ((H.ord [6]).drop)
  ·have:(((if 1≤c.hE∧c.hE≤8∧ju c.gD∧jc c.kX then false else true)||(decide (c.jA<(0:Int))))||(decide (c.jA>(1000:Int))))=true:=by
    by_cases h:1≤c.hE∧c.hE≤8∧ju c.gD∧jc c.kX
    ·rw[if_pos h];simp only[Bool.false_or,Bool.or_eq_true,decide_eq_true_eq];by_cases O:0≤c.jA∧c.jA≤1000
     ·exact absurd ⟨⟨h.1,h.2.1⟩,h.2.2.1,h.2.2.2,O⟩ ok
     ·omega
    ·rw[if_neg h]; simp
   rw[if_pos this];exact⟨fun _=>⟨by trivial,H.drop⟩,fun h=>absurd h ok⟩
 have ZN:(jc c.kX∧bv=0∧gN.isNone=false∧E A (aH aY (gl.cells c) 24::m) w)∨(¬ jc c.kX∧bv=60∧gN.isNone=true∧E A (aH aY (gl.cells c) 24::m) w):=by
  by_cases h:jc c.kX
  ·obtain⟨I,l,O,H⟩:=dn h;simp only at I O;exact .inl ⟨h,I,by rw[O]; rfl,H.drop⟩
  ·obtain⟨I,H⟩:=dY h;cases I;exact .inr ⟨h,rfl,rfl,H⟩
 have H:E A (aH aY (gl.cells c) 24::m) w:=by rcases ZN with h | h<;>exact h.2.2.2
 refine aj (x:=c.hE) 0 H rfl rfl rfl ?_;refine aP c.hE (fun _=>bM (B .i64) H rfl rfl) ?_;by_cases ba:1≤c.hE∧c.hE≤8
 ·rw[if_neg (by simp only[Bool.or_eq_true,decide_eq_true_eq]; omega)];refine aj (x:=c.gD) 0 H rfl rfl rfl ?_;refine ap (Ll ab H) ?_;rintro r w ⟨I,_,H⟩;refine g4 _ w ?_ H;rcases ZN with ⟨h,a9,df,_⟩ | ⟨h,a9,df,_⟩
  ·rw[a9,df];by_cases hrt:ju c.gD
   ·rw[if_pos ⟨ba.1,ba.2,hrt,h⟩,I.2 hrt]; rfl
   ·rw[if_neg (fun cD=>hrt cD.2.2.1)];have:r≠0:=fun j=>hrt (I.1 j);simp[this]
  ·rw[if_neg (fun cD=>h cD.2.2.2),df]; simp
 ·rw[if_pos (by simp only[Bool.or_eq_true,decide_eq_true_eq]; omega)];refine g4 true w ?_ H;rw[if_neg (fun cD=>ba ⟨cD.1,cD.2.1⟩)];simp
end
abbrev nq:=List (List UInt8)
structure Live(K:cR)(aO:nq)(a:Nat)(aT:nq)(l:Nat):Prop where
 ok:K.hD
 up:K.down=false
 cS:K.cS=[⟨cy aO,(cy (aO.take a)).length⟩,⟨cy aT,(cy (aT.take l)).length⟩]
 t_:a≤aO.length
 n0:l≤aT.length
 n_:Small aO
 lp:Small aT
structure pt(K:cR)(aO aT:nq):Prop where
 ok:K.hD
 off:K.down=true
 cS:∃ p q,(∃ j,nD p=.error j)∧(∃ j,nD q=.error j)∧K.cS=[⟨cy aO++p,(cy aO++p).length⟩,⟨cy aT++q,(cy aT++q).length⟩]
 n_:Small aO
 lp:Small aT
theorem aeJ{aO:nq}{x:List UInt8}(h:Small aO)(F:x.length≤65536):Small (aO++[x]):=by
 intro S aB;rcases List.mem_append.1 aB with aB | aB
 ·exact h S aB
 ·rw[List.mem_singleton.1 aB]; exact F
theorem aeK{aO:nq}(h:Small aO)(i:Nat):Small (aO.take i):=fun S aB=>h S (List.mem_of_mem_take aB)
theorem Zh(aO:nq)(x:List UInt8):cy (aO++[x])=cy aO++g2 x:=by rw[Ze]; simp[cy]
theorem Br(aO:nq)(k:Nat):(cy (aO.take k)).length≤(cy aO).length:=by
 have:cy aO=cy (aO.take k)++cy (aO.drop k):=by rw[← Ze,List.take_append_drop]
 rw[this,List.length_append]; omega
def If(K:cR)(cS:List dW):cR:={ K with ef:=if 1<K.ef then IntKind.i64.wrap (K.ef-1) else K.ef,lH:=IntKind.i64.wrap (K.lH+1),cS:=cS }
theorem Do{K:cR}{cX bA:dW}(al:K.cS=[cX,bA])(ag:K.down=false){size:Int}(aG:size≤4194304)(f:dW→dW) :
  (K.ef≠1→j6 K 0 size f=(If K [f cX,bA],0)∧j6 K 1 size f=(If K [cX,f bA],0))∧(K.ef=1→j6 K 0 size f=(hG K.bG K,71)∧j6 K 1 size f=(hG K.bG K,71)):=by
 refine⟨fun Y=>⟨?_,?_⟩,fun Y=>⟨?_,?_⟩⟩
 ·unfold j6;rw[if_neg (by rw[al]; simp),if_neg (by simp[ag]),if_neg (by omega),if_neg Y,al];rfl
 ·unfold j6;rw[if_neg (by rw[al]; simp),if_neg (by simp[ag]),if_neg (by omega),if_neg Y,al];rfl
 ·unfold j6;rw[if_neg (by rw[al]; simp),if_neg (by simp[ag]),if_neg (by omega),if_pos Y]
 ·unfold j6;rw[if_neg (by rw[al]; simp),if_neg (by simp[ag]),if_neg (by omega),if_pos Y]
theorem aeG{K:cR}{cX bA:dW}(al:K.cS=[cX,bA]):Disk.sizeOf K 0=cX.l.length∧Disk.sizeOf K 1=bA.l.length:=by
 unfold Disk.sizeOf;rw[al];exact⟨rfl,rfl⟩
theorem ER{K:cR}(a l:dW)(Y:a.sure≤a.l.length∧a.l.length≤4194304)(ao:l.sure≤l.l.length∧l.l.length≤4194304):(If K [a,l]).hD:=by
 refine⟨by show [a,l].length≤16; simp,fun g R=>?_⟩;have R:g∈[a,l]:=R;simp only[List.mem_cons,List.mem_nil_iff,or_false] at R;rcases R with rfl | rfl
 ·exact Y
 ·exact ao
theorem Live.LD{K:cR}{aO aT:nq}{a l:Nat}(N:Live K aO a aT l):(cy aO).length≤4194304∧(cy aT).length≤4194304:=by
 have h:=N.ok.log;rw[N.cS] at h;exact⟨(h ⟨cy aO,(cy (aO.take a)).length⟩ (by simp)).2,(h ⟨cy aT,(cy (aT.take l)).length⟩ (by simp)).2⟩
theorem Live.aj9{K:cR}{aO aT:nq}{a l:Nat}{x:List UInt8}(N:Live K aO a aT l)(F:x.length≤65536)(aG:(cy aO).length+(8+x.length)≤4194304) :
  (K.ef≠1→∃ ee,ot K 0 (g2 x)=(ee,0)∧Live ee (aO++[x]) a aT l)∧(K.ef=1→ot K 0 (g2 x)=(hG K.bG K,71)):=by
 have O:=Do (size:=(((g2 x).length+Disk.sizeOf K 0:Nat):Int)) N.cS N.up (by rw[(aeG N.cS).1,u1]; simp only; omega) (fun g=>⟨g.l++g2 x,g.sure⟩);refine⟨fun Y=>⟨_,(O.1 Y).1,?_,N.up,?_,by rw[List.length_append]; have:=N.t_; omega,N.n0,aeJ N.n_ F,N.lp⟩,fun Y=>(O.2 Y).1⟩
 ·have:=Br aO a;have:=Br aT l;have:=N.LD;refine ER _ _ ?_ ?_
  ·simp only[List.length_append,u1]; omega
  ·simp only; omega
 ·show [_,_]=_
  rw[Zh,List.take_append_of_le_length N.t_]
theorem Live.aka{K:cR}{aO aT:nq}{a l:Nat}{x:List UInt8}(N:Live K aO a aT l)(F:x.length≤65536)(aG:(cy aT).length+(8+x.length)≤4194304) :
  (K.ef≠1→∃ ee,ot K 1 (g2 x)=(ee,0)∧Live ee aO a (aT++[x]) l)∧(K.ef=1→ot K 1 (g2 x)=(hG K.bG K,71)):=by
 have O:=Do (size:=(((g2 x).length+Disk.sizeOf K 1:Nat):Int)) N.cS N.up (by rw[(aeG N.cS).2,u1]; simp only; omega) (fun g=>⟨g.l++g2 x,g.sure⟩);refine⟨fun Y=>⟨_,(O.1 Y).2,?_,N.up,?_,N.t_,by rw[List.length_append]; have:=N.n0; omega,N.n_,aeJ N.lp F⟩,fun Y=>(O.2 Y).2⟩
 ·have:=Br aO a;have:=Br aT l;have:=N.LD;refine ER _ _ ?_ ?_
  ·simp only; omega
  ·simp only[List.length_append,u1]; omega
 ·show [_,_]=_
  rw[Zh,List.take_append_of_le_length N.n0]
theorem Live.aHH{K:cR}{aO aT:nq}{a l:Nat}(N:Live K aO a aT l) :
  (K.ef≠1→∃ ee,oJ K 0=(ee,0)∧Live ee aO aO.length aT l)∧(K.ef=1→oJ K 0=(hG K.bG K,71)):=by
 have O:=Do (size:=0) N.cS N.up (by omega) (fun g=>⟨g.l,g.l.length⟩);refine⟨fun Y=>⟨_,(O.1 Y).1,?_,N.up,?_,Nat.le_refl _,N.n0,N.n_,N.lp⟩,fun Y=>(O.2 Y).1⟩
 ·have:=Br aT l;have:=N.LD;exact ER _ _ (by simp only; omega) (by simp only; omega)
 ·show [_,_]=_
  rw[List.take_length]
theorem Live.aHI{K:cR}{aO aT:nq}{a l:Nat}(N:Live K aO a aT l) :
  (K.ef≠1→∃ ee,oJ K 1=(ee,0)∧Live ee aO a aT aT.length)∧(K.ef=1→oJ K 1=(hG K.bG K,71)):=by
 have O:=Do (size:=0) N.cS N.up (by omega) (fun g=>⟨g.l,g.l.length⟩);refine⟨fun Y=>⟨_,(O.1 Y).2,?_,N.up,?_,N.t_,Nat.le_refl _,N.n_,N.lp⟩,fun Y=>(O.2 Y).2⟩
 ·have:=Br aO a;have:=N.LD;exact ER _ _ (by simp only; omega) (by simp only; omega)
 ·show [_,_]=_
  rw[List.take_length]
theorem X2{aO:nq}{a:Nat}(aG:Small aO)(Y:a≤aO.length)(bG:List Int)(n:Nat):∃ i p,a≤i∧i≤aO.length∧(∃ j,nD p=.error j)∧li bG n ⟨cy aO,(cy (aO.take a)).length⟩=⟨cy (aO.take i)++p,(cy (aO.take i)++p).length⟩:=by
 have JY:=Hm (bG:=bG) (i:=n) (g:=⟨cy aO,(cy (aO.take a)).length⟩) (Br aO a);simp only at JY;obtain⟨i,p,I,O,aJ,bl⟩:=Zf aO (kept bG n ⟨cy aO,(cy (aO.take a)).length⟩) aG JY.2;refine⟨i,p,bl a JY.1 Y,I,aJ,?_⟩;unfold li;simp only;rw[O,← O,List.length_take,Nat.min_eq_left JY.2]
theorem Live.hG{K:cR}{aO aT:nq}{a l:Nat}(N:Live K aO a aT l)(bG:List Int):∃ i D,a≤i∧i≤aO.length∧l≤D∧D≤aT.length∧pt (hG bG K) (aO.take i) (aT.take D)∧(Disk.hG bG K).ef=0:=by
 obtain⟨i,p,I,O,aJ,bl⟩:=X2 N.n_ N.t_ bG 0;obtain⟨D,q,bA,eR,je,nx⟩:=X2 N.lp N.n0 bG 1;have j:(Disk.hG bG K).cS=[⟨cy (aO.take i)++p,(cy (aO.take i)++p).length⟩,⟨cy (aT.take D)++q,(cy (aT.take D)++q).length⟩]:=by
  unfold Disk.hG;rw[if_neg (by simp[N.up])];show K.cS.mapIdx (li bG)=_
  rw[N.cS];simp only[List.mapIdx_cons,List.mapIdx_nil,Nat.zero_add];rw[bl,nx]
 refine⟨i,D,I,O,bA,eR,⟨Gi N.ok,by unfold Disk.hG; rw[if_neg (by simp[N.up])],⟨p,q,aJ,je,j⟩,aeK N.n_ i,aeK N.lp D⟩,by unfold Disk.hG; rw[if_neg (by simp[N.up])]⟩
theorem pt.hG{K:cR}{aO aT:nq}(d:pt K aO aT)(bG:List Int):Disk.hG bG K=K:=by unfold Disk.hG; rw[if_pos d.off]
theorem Live.Bg{K:cR}{aO aT:nq}{a l:Nat}(N:Live K aO a aT l)(n:Int)(bG:List Int):Live { K with ef:=n,bG:=bG } aO a aT l:=⟨⟨N.ok.len,N.ok.log⟩,N.up,N.cS,N.t_,N.n0,N.n_,N.lp⟩
theorem pt.Bg{K:cR}{aO aT:nq}(d:pt K aO aT)(n:Int)(bG:List Int):pt { K with ef:=n,bG:=bG } aO aT:=⟨⟨d.ok.len,d.ok.log⟩,d.off,d.cS,d.n_,d.lp⟩
structure NB(K:cR)(aO aT:nq):Prop where
 ok:K.hD
 up:K.down=false
 cS:∃ q,(∃ j,nD q=.error j)∧K.cS=[⟨cy aO,(cy aO).length⟩,⟨cy aT++q,(cy aT++q).length⟩]
 n_:Small aO
 lp:Small aT
theorem Ab{aO:nq}{p:List UInt8}(aG:Small aO)(aE:∃ j,nD p=.error j):scan (cy aO++p)=(aO,(cy aO).length):=aGK aG aE
theorem acl{p:List UInt8}(h:p.length=0):p=[]:=List.eq_nil_of_length_eq_zero h
theorem pt.KE{K:cR}{aO aT:nq}(d:pt K aO aT):∃ cX bA,K.cS=[cX,bA]∧(scan cX.l).1=aO∧(scan bA.l).1=aT ∧
  ((dh (h6 K) 0 cX).2=0∧NB (dh (h6 K) 0 cX).1 aO aT∨(dh (h6 K) 0 cX).2=71∧pt (dh (h6 K) 0 cX).1 aO aT):=by
 obtain⟨p,q,aE,a8,al⟩:=d.cS;have dr:=d.ok.log;rw[al] at dr;have ah:=(dr _ (List.mem_cons_self ..)).2;have I:=(dr ⟨cy aT++q,(cy aT++q).length⟩ (by simp)).2;simp only at ah I;refine⟨_,_,al,by rw[Ab d.n_ aE],by rw[Ab d.lp a8],?_⟩;have pL:(h6 K).cS=[⟨cy aO++p,(cy aO++p).length⟩,⟨cy aT++q,(cy aT++q).length⟩]:=al;unfold dh;simp only[Ab d.n_ aE];by_cases c:(cy aO).length<(cy aO++p).length
 ·rw[if_pos c];have aR:(cy aO++p).take (cy aO).length=cy aO:=by simp
  rw[aR];have O:=Do (size:=((cy aO).length:Int)) pL rfl (by omega) (fun _=>⟨cy aO,(cy aO).length⟩);by_cases Y:K.ef=1
  ·right;have a9:Av (h6 K) 0 (cy aO)=(Disk.hG (h6 K).bG (h6 K),71):=(O.2 Y).1;rw[a9];refine⟨rfl,Gi (K:=h6 K) ⟨d.ok.len,d.ok.log⟩,by unfold Disk.hG; rw[if_neg (by simp[h6])],⟨p,q,aE,a8,?_⟩,d.n_,d.lp⟩;unfold Disk.hG;rw[if_neg (by simp[h6])];show (h6 K).cS.mapIdx (li (h6 K).bG)=_
   rw[pL];have aw:∀ (l:List UInt8) (n:Nat),li (h6 K).bG n ⟨l,l.length⟩=⟨l,l.length⟩:=by
    intro l n;have aq:=Hm (bG:=(h6 K).bG) (i:=n) (g:=⟨l,l.length⟩) (Nat.le_refl _);simp only at aq;have j:kept (h6 K).bG n ⟨l,l.length⟩=l.length:=Nat.le_antisymm aq.2 aq.1;unfold li;rw[j]; simp
   simp only[List.mapIdx_cons,List.mapIdx_nil,Nat.zero_add,aw]
  ·left;have a9:Av (h6 K) 0 (cy aO)=(If (h6 K) [⟨cy aO,(cy aO).length⟩,⟨cy aT++q,(cy aT++q).length⟩],0):=(O.1 Y).1;rw[a9];refine⟨rfl,ER _ _ ?_ ?_,rfl,⟨q,a8,rfl⟩,d.n_,d.lp⟩
   ·simp only; omega
   ·simp only; omega
 ·rw[if_neg c,if_neg (by rw[List.length_append]; omega)];have PI:p=[]:=acl (by rw[List.length_append] at c; omega);subst PI;refine .inl ⟨rfl,⟨d.ok.len,d.ok.log⟩,rfl,⟨q,a8,?_⟩,d.n_,d.lp⟩;rw[List.append_nil] at pL;exact pL
theorem NB.aCs{K:cR}{aO aT:nq}(d:NB K aO aT){bA:dW}(R:K.cS[1]?=some bA) :
  ((dh K 1 bA).2=0∧Live (dh K 1 bA).1 aO aO.length aT aT.length∨(dh K 1 bA).2=71∧pt (dh K 1 bA).1 aO aT):=by
 obtain⟨q,a8,al⟩:=d.cS;have dr:=d.ok.log;rw[al] at dr;have ah:=(dr _ (List.mem_cons_self ..)).2;have I:=(dr ⟨cy aT++q,(cy aT++q).length⟩ (by simp)).2;simp only at ah I;rw[al] at R;have R:bA=⟨cy aT++q,(cy aT++q).length⟩:=by simpa using R.symm
 subst R;unfold dh;simp only[Ab d.lp a8];by_cases c:(cy aT).length<(cy aT++q).length
 ·rw[if_pos c];have aR:(cy aT++q).take (cy aT).length=cy aT:=by simp
  rw[aR];have O:=Do (size:=((cy aT).length:Int)) al d.up (by omega) (fun _=>⟨cy aT,(cy aT).length⟩);by_cases Y:K.ef=1
  ·right;have a9:Av K 1 (cy aT)=(Disk.hG K.bG K,71):=(O.2 Y).2;rw[a9];refine⟨rfl,Gi d.ok,by unfold Disk.hG; rw[if_neg (by simp[d.up])],⟨[],q,⟨31,rfl⟩,a8,?_⟩,d.n_,d.lp⟩;unfold Disk.hG;rw[if_neg (by simp[d.up])];show K.cS.mapIdx (li K.bG)=_
   rw[al];have aw:∀ (l:List UInt8) (n:Nat),li K.bG n ⟨l,l.length⟩=⟨l,l.length⟩:=by
    intro l n;have aq:=Hm (bG:=K.bG) (i:=n) (g:=⟨l,l.length⟩) (Nat.le_refl _);simp only at aq;have j:kept K.bG n ⟨l,l.length⟩=l.length:=Nat.le_antisymm aq.2 aq.1;unfold li;rw[j]; simp
   simp only[List.mapIdx_cons,List.mapIdx_nil,Nat.zero_add,aw,List.append_nil]
  ·left;have a9:Av K 1 (cy aT)=(If K [⟨cy aO,(cy aO).length⟩,⟨cy aT,(cy aT).length⟩],0):=(O.1 Y).2;rw[a9];refine⟨rfl,ER _ _ ?_ ?_,d.up,?_,Nat.le_refl _,Nat.le_refl _,d.n_,d.lp⟩
   ·simp only; omega
   ·simp only; omega
   ·show [_,_]=_
    rw[List.take_length,List.take_length]
 ·rw[if_neg c,if_neg (by rw[List.length_append]; omega)];have j_:q=[]:=acl (by rw[List.length_append] at c; omega);subst j_;refine .inl ⟨rfl,d.ok,d.up,?_,Nat.le_refl _,Nat.le_refl _,d.n_,d.lp⟩;rw[List.append_nil] at al;rw[al,List.take_length,List.take_length]
structure fb where
 xs:List dO
 a:Nat
 an:List cV
 l:Nat
abbrev gA:=Int→Option (Int×Int)
def lj(p:bN):Option (Int×Int):=if p.b4=0 then none else some (p.b4,p.at_)
def iK(an:List cV):List (Int×bN):=an.foldl nc []
def kp(an:List cV):gA:=fun id=>((iK an).lookup id).bind lj
def p7(W:gA)(x:dO):Prop:=nO x∧qh x.Kind∧x.aC≤2000000∧(x.Kind=3→W (gH x.aC)=some (2,x.b5))∧(x.Kind=4→∃ t,W (gH x.aC)=some (3,t))
def k9(W:gA)(y:hM):Prop:=NJ y∧(y.Kind=3→(y.jP=true→W (gH y.Part.aC)=some (2,y.b5))∧(y.jP=false→∃ t,W (gH y.Part.aC)=some (3,t)))
def gA.le(W T:gA):Prop:=∀ id d,W id=some d→T id=some d
theorem p7.mono{W T:gA}(h:W.le T){x:dO}(d:p7 W x):p7 T x:=⟨d.1,d.2.1,d.2.2.1,fun k=>h _ _ (d.2.2.2.1 k),fun k=>by obtain⟨t,aS⟩:=d.2.2.2.2 k; exact⟨t,h _ _ aS⟩⟩
theorem k9.mono{W T:gA}(h:W.le T){y:hM}(d:k9 W y):k9 T y:=⟨d.1,fun k=>⟨fun S=>h _ _ ((d.2 k).1 S),fun S=>by obtain⟨t,aS⟩:=(d.2 k).2 S; exact⟨t,h _ _ aS⟩⟩⟩
def own(n c:Nat)(an:List cV):gA:=fun id=>if Int.tmod id n=c then kp an id else none
def AX(p q:bN):Prop:=p.x=q.x∧p.b4=q.b4∧p.at_=q.at_
def C5(P:List (Int×bN))(an:List cV):Prop:=∀ id,(∀ p,P.lookup id=some p→∃ q,(iK an).lookup id=some q∧AX p q)∧(P.lookup id=none→(iK an).lookup id=none)
structure xq(f n c:Nat)(b:bn)(g:fb):Prop where
 N:Live b.K (g.xs.map jd) g.a (g.an.map fJ) g.l
 V:b.W.V=⟨g.xs.length,g.a,0,false⟩
 v:b.W.v=qn (ux f) g.xs
 A:b.A=⟨g.an.length,g.l,1,false⟩
 P:C5 b.P g.an
 outs:∀ s∈b.out,k9 (own n c g.an) s.y∧0≤s.h5∧s.h5<n
 sure:∀ id,b.sure id=true→∃ d,kp (g.an.take g.l) id=some d
structure bK(k:Nat)(b:bn):Prop where
 aw:iY b.aw
 rd:-(4194304*(k:Int))≤b.cG∧b.cG≤4194304*(k:Int)
 src:-9223372036854775808≤b.src∧b.src≤1125899906842624
 K:b.K.hD
 fit:Fit b.W.v
 ids:∀ j∈b.W.v.held,j.1≤2000000
 lV:sA b.P
 lJ:b.P.length≤k
 out:b.out.length≤300000*k
structure np(n c k:Nat)(W:gA)(Q:cV→Prop)(g:fb):Prop where
 q:∀ r∈g.an,Q r
 p5:∀ x∈g.xs,p7 W x
 nd:qS g.an
 ours:∀ r∈g.an,Int.tmod r.x.aC n=c
 vN:∀ r∈g.an,r.k=2→jF r.t
 yE:g.xs.length≤k
 wS:g.an.length≤k
 t_:g.a≤g.xs.length
 n0:g.l≤g.an.length
structure eB(f n c k:Nat)(W:gA)(Q:cV→Prop)(b:bn)(g:fb):Prop where
 bZ:bK k b
 cF:np n c k W Q g
 bd:xq f n c b g∨pt b.K (g.xs.map jd) (g.an.map fJ)
structure C6(Q:cV→Prop)(b:bn):Prop where
 one:∀ r:cV,r.k≠2→Q r
 two:∀ x N,(gz b.aw b.cG b.src N).2.2.2=0→Q ⟨2,x,(gz b.aw b.cG b.src N).2.2.1⟩
def k8(g cI:fb):Prop:=gA.le (kp (g.an.take g.l)) (kp (cI.an.take cI.l))
theorem bK.mono{k fS:Nat}{b:bn}(h:bK k b)(aq:k≤fS):bK fS b:=
 ⟨h.aw,by have:=h.rd; omega,h.src,h.K,h.fit,h.ids,h.lV,Nat.le_trans h.lJ aq,Nat.le_trans h.out (Nat.mul_le_mul_left _ aq)⟩
theorem np.mono{n c k fS:Nat}{W iZ:gA}{Q:cV→Prop}{g:fb}(h:np n c k W Q g)(e0:W.le iZ)(aq:k≤fS):np n c fS iZ Q g:=
 ⟨h.q,fun x F=>(h.p5 x F).mono e0,h.nd,h.ours,h.vN,Nat.le_trans h.yE aq,Nat.le_trans h.wS aq,h.t_,h.n0⟩
theorem gA.le_refl(W:gA):W.le W:=fun _ _ h=>h
theorem gA.le_trans{W T c6:gA}(h:W.le T)(fr:T.le c6):W.le c6:=fun i d j=>fr i d (h i d j)
section
variable {f n c k:Nat} {W:gA} {Q:cV→Prop} {b:bn} {g:fb}
theorem eB.live(h:eB f n c k W Q b g)(ag:b.K.down=false):xq f n c b g:=by
 rcases h.bd with h | h
 ·exact h
 ·rw[h.off] at ag; cases ag
theorem eB.mono{iZ:gA}{fS:Nat}(h:eB f n c k W Q b g)(e0:W.le iZ)(aq:k≤fS):eB f n c fS iZ Q b g:=⟨h.bZ.mono aq,h.cF.mono e0 aq,h.bd⟩
theorem bK.node(h:bK k b)(aq:k≤50000):NK b:=
 ⟨⟨h.aw,by have:=h.rd; omega,h.K,h.fit,h.src⟩,h.lV,by have:=h.out; omega,by have:=h.lJ; omega,fun j he=>by have:=h.ids j he; omega⟩
end
theorem OQ{Z:Type}{j:Z→List UInt8}{y:Nat}:∀ {m:List Z},(∀ x∈m,(j x).length≤y)→(cy (m.map j)).length≤(8+y)*m.length
 |[],_=>by simp[cy]
 |x::m,h=>by
  have I:=h x (List.mem_cons_self ..);have O:=OQ (m:=m) fun S aB=>h S (List.mem_cons_of_mem _ aB);have aR:cy ((x::m).map j)=g2 (j x)++cy (m.map j):=by simp[cy]
  rw[aR,List.length_append,u1,List.length_cons,Nat.mul_add,Nat.mul_one];omega
theorem adZ{an:List cV}(h:qS an):∀ r∈an,oS r:=by
 intro r ab;obtain⟨D,bR,rfl⟩:=List.getElem_of_mem ab;exact (h D _ (List.getElem?_eq_getElem bR)).1
theorem ad0{an:List cV}(h:qS an)(D:Nat):qS (an.take D):=by
 intro i r ab;rw[List.getElem?_take] at ab;split at ab
 ·rename_i ax;have:=h i r ab;rw[List.take_take,Nat.min_eq_left (by omega)];exact this
 ·cases ab
theorem aFU{an:List cV}{r:cV}(h:qS an)(ab:oS r)(Y:v4 (iK an) r):qS (an++[r]):=by
 intro i x F;by_cases c:i<an.length
 ·rw[List.getElem?_append_left c] at F;rw[List.take_append_of_le_length (by omega)];exact h i x F
 ·rw[List.getElem?_append_right (by omega)] at F;have j:i=an.length:=by
   rcases Nat.lt_or_ge (i-an.length) 1 with I | I
   ·omega
   ·rw[List.getElem?_eq_none (by simpa using I)] at F; cases F
  subst j;simp at F;subst F;rw[List.take_append_of_le_length (Nat.le_refl _),List.take_length];exact⟨ab,Y⟩
theorem Cg(an:List cV)(r:cV):iK (an++[r])=nc (iK an) r:=by unfold iK; rw[List.foldl_append]; rfl
theorem wR{P:List (Int×bN)}{id x:Int}{p:bN}:(iO P id p).lookup x=if x=id then (P.lookup x).map fun _=>p else P.lookup x:=by
 induction P with
 |nil=>simp[iO]
 |cons t P ck=>
  obtain⟨a,v⟩:=t;unfold iO at ck ⊢;rw[List.map_cons];by_cases j:x=a
  ·subst j;by_cases a9:x=id
   ·subst a9; simp
   ·simp[a9]
  ·by_cases a9:a=id
   ·subst a9;have I:(x==a)=false:=by simpa using j
    simp[List.lookup,I,j] at ck ⊢;exact ck
   ·have I:(x==a)=false:=by simpa using j
    rw[if_neg a9];simp only[List.lookup,I];exact ck
theorem LN(P:List (Int×bN))(id:Int)(p:bN):(iO P id p).length=P.length:=by unfold iO; simp
theorem Rv{P:List (Int×bN)}{id:Int}{p q:bN}(h:sA P)(aE:P.lookup id=some p)(a8:q.x=p.x):sA (iO P id q):=by
 intro x r ab;rw[wR] at ab;split at ab
 ·rename_i j;subst j;rw[aE] at ab;cases ab;rw[a8];exact h x p aE
 ·exact h x r ab
theorem aEH{P:List (Int×bN)}{x:oo}(h:sA P)(F:jw x=0):sA (P++[(x.aC,jI x)]):=by
 intro id r ab;rw[List.lookup_append] at ab;cases al:P.lookup id with
 |some p=>rw[al] at ab; cases ab; exact h id _ al
 |none=>
  rw[al] at ab;simp only[Option.none_or,List.lookup] at ab;cases he:id==x.aC with
  |true=>
   rw[he] at ab;cases ab;exact⟨(eq_of_beq he).symm,F⟩
  |false=>rw[he] at ab; cases ab
def AV(p:bN):Prop:=(p.b4=0∨p.b4=2∨p.b4=3)∧(0≤p.at_∧p.at_≤1125899906842624)∧(p.b4=0→p=jI p.x)
theorem SU{p:bN}(a l:Bool)(t:Int):((g6 p a l t).1.b4=p.b4∧(g6 p a l t).1.at_=p.at_)∨(p.b4=0∧l=false∧(g6 p a l t).1.b4=3∧(g6 p a l t).1.at_=p.at_):=by
 unfold g6 bN.hB
 repeat' split
 all_goals first
  |exact .inl ⟨rfl,rfl⟩
  |(rename_i U; exact .inr ⟨U.2,U.1,rfl,rfl⟩)
  |(rename_i U _; exact .inr ⟨U.2,U.1,rfl,rfl⟩)
theorem alR{p:bN}(t:Int):((oZ p t).1.b4=p.b4∧(oZ p t).1.at_=p.at_)∨(p.b4≠2∧p.b4≠3∧(oZ p t).1.b4=2∧(oZ p t).1.at_=t∧jF t):=by
 unfold oZ;split
 ·exact .inl ⟨rfl,rfl⟩
 ·split
  ·exact .inl ⟨rfl,rfl⟩
  ·split
   ·exact .inl ⟨rfl,rfl⟩
   ·split
    ·exact .inl ⟨rfl,rfl⟩
    ·split
     ·exact .inl ⟨rfl,rfl⟩
     ·rename_i ah I O _ _;exact .inr ⟨O,fun j=>I (.inl j),rfl,rfl,Classical.not_not.1 ah⟩
theorem Xk(p:bN):((pA p).1.b4=p.b4∧p.b4=2∧(pA p).1.at_=p.at_)∨(p.b4≠2∧(pA p).1.b4=3∧(pA p).1.at_=p.at_):=by
 unfold pA;split
 ·rename_i h; exact .inl ⟨rfl,h,rfl⟩
 ·rename_i h; exact .inr ⟨h,rfl,rfl⟩
theorem Lq{p:bN}{r:cV}(h:p.b4=2∨p.b4=3):(ke p r).b4=p.b4∧(ke p r).at_=p.at_:=by
 unfold ke;split
 ·rcases Xk p with ⟨I,O,aJ⟩ | ⟨I,O,aJ⟩
  ·exact⟨I,aJ⟩
  ·exact⟨by rw[O]; omega,aJ⟩
 ·have I:(g6 p true true r.t).1.b4=p.b4∧(g6 p true true r.t).1.at_=p.at_:=by
   rcases SU (p:=p) true true r.t with I | I
   ·exact I
   ·omega
  have O:(g6 (g6 p true true r.t).1 false true r.t).1.b4=p.b4∧(g6 (g6 p true true r.t).1 false true r.t).1.at_=p.at_:=by
   rcases SU (p:=(g6 p true true r.t).1) false true r.t with O | O
   ·rw[O.1,O.2]; exact I
   ·rw[I.1] at O; omega
  rcases alR (p:=(g6 (g6 p true true r.t).1 false true r.t).1) r.t with aJ | aJ
  ·rw[aJ.1,aJ.2]; exact O
  ·rw[O.1] at aJ; omega
theorem afx{p:bN}{a:Bool}{t:Int}(h:jF t)(aG:(p.side a).said=false):g6 p a true t=(p.hB a ⟨true,true,t⟩,0):=by
 unfold g6;rw[if_neg (by simp[h]),if_neg (by simp[aG])];simp
theorem afv{p:bN}{a:Bool}{t:Int}(h:¬ jF t):g6 p a true t=(p,174):=by
 unfold g6;rw[if_pos ⟨rfl,h⟩]
theorem Lr{x:oo}{r:cV}(aq:r.k≠3):(jF r.t→(ke (jI x) r).b4=2∧(ke (jI x) r).at_=r.t)∧(¬ jF r.t→ke (jI x) r=jI x):=by
 refine⟨fun h=>?_,fun h=>?_⟩
 ·unfold ke;rw[if_neg aq,afx (p:=jI x) (a:=true) h rfl];have a9:g6 (bN.hB (jI x) true ⟨true,true,r.t⟩) false true r.t=(bN.hB (bN.hB (jI x) true ⟨true,true,r.t⟩) false ⟨true,true,r.t⟩,0):=afx h rfl;simp only;rw[a9];unfold oZ;rw[if_neg (fun cD=>cD h)];have Jr:(bN.hB (bN.hB (jI x) true ⟨true,true,r.t⟩) false ⟨true,true,r.t⟩).b4=0:=rfl;have Gp:(bN.hB (bN.hB (jI x) true ⟨true,true,r.t⟩) false ⟨true,true,r.t⟩).both=true:=rfl;have Ov:(bN.hB (bN.hB (jI x) true ⟨true,true,r.t⟩) false ⟨true,true,r.t⟩).a.gQ=r.t:=rfl;have Gq:(bN.hB (bN.hB (jI x) true ⟨true,true,r.t⟩) false ⟨true,true,r.t⟩).l.gQ=r.t:=rfl;simp only;rw[if_neg (by rw[Jr]; omega),if_neg (by rw[Jr]; omega),if_neg (by rw[Gp]; simp),if_neg (by rw[Ov,Gq]; omega)];exact⟨rfl,rfl⟩
 ·unfold ke;rw[if_neg aq,afv (p:=jI x) (a:=true) h];simp only;rw[afv h];unfold oZ;rw[if_pos h]
theorem aGf{p:bN}{r:cV}(h:AV p):AV (ke p r):=by
 by_cases b7:p.b4=0
 ·have aE:=h.2.2 b7;generalize p.x=x at aE;subst aE;by_cases cc:r.k=3
  ·unfold ke;rw[if_pos cc];exact⟨.inr (.inr rfl),by show (0:Int)≤0∧(0:Int)≤_; omega,fun j=>by cases j⟩
  ·obtain⟨I,O⟩:=Lr (x:=x) cc;by_cases ct:jF r.t
   ·obtain⟨aJ,bl⟩:=I ct;refine⟨.inr (.inl aJ),by rw[bl]; unfold jF at ct; omega,fun j=>by rw[aJ] at j; cases j⟩
   ·rw[O ct]; exact h
 ·have I:=Lq (r:=r) (p:=p) (by have:=h.1; omega);exact⟨by rw[I.1]; exact h.1,by rw[I.2]; exact h.2.1,fun j=>absurd (I.1▸j) b7⟩
def C1(P:List (Int×bN)):Prop:=∀ id p,P.lookup id=some p→AV p
theorem anX{P:List (Int×bN)}{r:cV}(h:C1 P):C1 (nc P r):=by
 intro id p aE;unfold nc at aE;split at aE
 ·rw[List.lookup_append] at aE;cases al:P.lookup id with
  |some q=>rw[al] at aE; cases aE; exact h id _ al
  |none=>
   rw[al] at aE;simp only[Option.none_or,List.lookup] at aE;split at aE
   ·cases aE; exact⟨.inl rfl,by show (0:Int)≤0∧(0:Int)≤_; omega,fun _=>rfl⟩
   ·cases aE
 ·split at aE
  ·exact h id p aE
  ·rename_i q a8;rw[wR] at aE;split at aE
   ·rename_i j;subst j;rw[a8] at aE;cases aE;exact aGf (h _ _ a8)
   ·exact h id p aE
theorem Y9:∀ {an:List cV} {P:List (Int×bN)},C1 P→C1 (an.foldl nc P)
 |[],_,h=>h
 |r::an,P,h=>Y9 (an:=an) (anX h)
theorem Bp(an:List cV):C1 (iK an):=Y9 fun id p h=>by cases h
theorem Y_{p:bN}(h:AV p){d:Int×Int}(ag:lj p=some d):p.b4=2∨p.b4=3:=by
 unfold lj at ag;split at ag
 ·cases ag
 ·unfold AV at h; omega
theorem Oh{P:List (Int×bN)}{r:cV}{id:Int}{d:Int×Int}(am:C1 P)(ab:v4 P r)(h:(P.lookup id).bind lj=some d):((nc P r).lookup id).bind lj=some d:=by
 cases aE:P.lookup id with
 |none=>rw[aE] at h; cases h
 |some p=>
  rw[aE] at h;have h:lj p=some d:=h;unfold nc;rcases ab with ⟨aq,_,al⟩ | ⟨aq,al⟩
  ·rw[if_pos aq,List.lookup_append,aE];exact h
  ·rw[if_neg (by omega)];obtain⟨q,a8⟩:=Option.isSome_iff_exists.1 al;rw[a8];simp only;rw[wR];by_cases j:id=r.x.aC
   ·subst j;rw[if_pos rfl,aE];rw[aE] at a8;cases a8;have I:=Lq (r:=r) (Y_ (am _ _ aE) h);show lj (ke p r)=some d
    unfold lj at h ⊢;rw[I.1,I.2];exact h
   ·rw[if_neg j,aE];exact h
def IW(n c:Nat)(P:List (Int×bN)):Prop:=∀ id p,P.lookup id=some p→Int.tmod id n=c∧p.x.aC=id∧jw p.x=0
theorem aec(p:bN)(r:cV):(ke p r).x=p.x:=by
 unfold ke;split
 ·unfold pA; split<;>rfl
 ·have c:∀ (p:bN) (t:Int),(oZ p t).1.x=p.x:=by
   intro p t;unfold oZ
   repeat' split
   all_goals rfl
  rw[c,LS,LS]
theorem aD3{n c:Nat}{P:List (Int×bN)}{r:cV}(h:IW n c P)(ab:v4 P r)(U:Int.tmod r.x.aC n=c):IW n c (nc P r):=by
 intro id p aE;unfold nc at aE;rcases ab with ⟨aq,F,al⟩ | ⟨aq,al⟩
 ·rw[if_pos aq,List.lookup_append] at aE;cases al:P.lookup id with
  |some q=>rw[al] at aE; cases aE; exact h id _ al
  |none=>
   rw[al] at aE;simp only[Option.none_or,List.lookup] at aE;split at aE
   ·rename_i j;cases aE;have j:=eq_of_beq j;subst j;exact⟨U,rfl,F⟩
   ·cases aE
 ·rw[if_neg (by omega)] at aE;obtain⟨q,a8⟩:=Option.isSome_iff_exists.1 al;rw[a8] at aE;simp only at aE;rw[wR] at aE;split at aE
  ·rename_i j;subst j;rw[a8] at aE;cases aE;rw[aec];exact h _ _ a8
  ·exact h id p aE
theorem aco{n c:Nat}{an:List cV}(h:qS an)(U:∀ r∈an,Int.tmod r.x.aC n=c):∀ i,i≤an.length→IW n c (iK (an.take i))
 |0,_=>fun id p aE=>by simp[iK] at aE
 |i+1,ax=>by
  have F:an[i]?=some an[i]:=List.getElem?_eq_getElem (by omega);rw[List.take_succ_eq_append_getElem (by omega),Cg];exact aD3 (aco h U i (by omega)) (h _ _ F).2 (U _ (List.getElem_mem _))
theorem acn{n c:Nat}{an:List cV}(h:qS an)(U:∀ r∈an,Int.tmod r.x.aC n=c):IW n c (iK an):=by
 have:=aco h U an.length (Nat.le_refl _);rwa [List.take_length] at this
theorem X7{an:List cV}(h:qS an){i D:Nat}(GO:i≤D){id:Int}{d:Int×Int}(ag:kp (an.take i) id=some d):kp (an.take D) id=some d:=by
 obtain⟨y,rfl⟩:=Nat.exists_eq_add_of_le GO;induction y with
 |zero=>exact ag
 |succ y ck=>
  have ck:=ck (by omega);by_cases c:i+y<an.length
  ·have F:an[i+y]?=some an[i+y]:=List.getElem?_eq_getElem c;have j:an.take (i+(y+1))=an.take (i+y)++[an[i+y]]:=List.take_succ_eq_append_getElem c;rw[j];unfold kp at ck ⊢;rw[Cg];exact Oh (Bp _) (h _ _ F).2 ck
  ·rw[List.take_of_length_le (by omega)];rw[List.take_of_length_le (by omega)] at ck;exact ck
theorem Jm{an:List cV}(h:qS an){i:Nat}{id:Int}{d:Int×Int}(ag:kp (an.take i) id=some d):kp an id=some d:=by
 by_cases c:i≤an.length
 ·have:=X7 h c ag;rwa [List.take_length] at this
 ·rwa [List.take_of_length_le (by omega)] at ag
section
variable {f n c k:Nat} {W:gA} {Q:cV→Prop} {b cL:bn} {g:fb}
theorem np.cut(h:np n c k W Q g){i D:Nat}(ax:i≤g.xs.length)(bR:D≤g.an.length)(ao:g.l≤D):np n c k W Q ⟨g.xs.take i,i,g.an.take D,D⟩∧k8 g ⟨g.xs.take i,i,g.an.take D,D⟩:=by
 refine⟨⟨fun r ab=>h.q r (List.mem_of_mem_take ab),fun x F=>h.p5 x (List.mem_of_mem_take F),ad0 h.nd D,fun r ab=>h.ours r (List.mem_of_mem_take ab),fun r ab=>h.vN r (List.mem_of_mem_take ab),?_,?_,?_,?_⟩,fun id d ag=>?_⟩
 ·have:=h.yE; simp only[List.length_take]; omega
 ·have:=h.wS; simp only[List.length_take]; omega
 ·simp only[List.length_take]; omega
 ·simp only[List.length_take]; omega
 ·show kp ((g.an.take D).take D) id=some d
  rw[List.take_take,Nat.min_self];exact X7 h.nd ao ag
theorem k8.refl(g:fb):k8 g g:=fun _ _ h=>h
theorem k8.trans{g h i:fb}(a:k8 g h)(l:k8 h i):k8 g i:=gA.le_trans a l
theorem xq.gone(m:xq f n c b g)(cF:np n c k W Q g)(bG:List Int):∃ cI,np n c k W Q cI∧k8 g cI∧pt (Disk.hG bG b.K) (cI.xs.map jd) (cI.an.map fJ):=by
 obtain⟨i,D,I,O,aJ,bl,ag,_⟩:=m.N.hG bG;rw[List.length_map] at O bl;obtain⟨bA,eR⟩:=cF.cut (i:=i) (D:=D) O bl aJ;rw[← List.map_take,← List.map_take] at ag;exact⟨_,bA,eR,ag⟩
theorem amu{xs:List dO}(h:∀ x∈xs,nO x):(cy (xs.map jd)).length≤74*xs.length:=OQ fun x F=>Yt (h x F)
theorem amt{an:List cV}(h:∀ r∈an,oS r):(cy (an.map fJ)).length≤74*an.length:=OQ fun r ab=>DF (h r ab)
theorem Yj(m:xq f n c b g)(cF:np n c k W Q g)(aq:k≤50000){x:dO}(F:p7 W x) :
  (∃ ee,fP b.K b.W x=(ee,⟨⟨g.xs.length+1,g.a,0,false⟩,(mW b.W.v x).1⟩,(mW b.W.v x).2)∧Live ee ((g.xs++[x]).map jd) g.a (g.an.map fJ) g.l) ∨
  (∃ cI,np n c k W Q cI∧k8 g cI∧pt (fP b.K b.W x).1 (cI.xs.map jd) (cI.an.map fJ)∧(fP b.K b.W x).2.1.v=b.W.v∧(fP b.K b.W x).2.2=71):=by
 have g3:=Yt F.1;have G6:=amu fun S aB=>(cF.p5 S aB).1;have aqm:=cF.yE;obtain⟨I,O⟩:=m.N.aj9 (x:=jd x) (by omega) (by omega);have o0:∀ kW j,ot b.K 0 (g2 (jd x))=(kW,j)→gm b.K b.W.V (jd x)=(kW,⟨if j=0 then g.xs.length+1 else g.xs.length,g.a,0,j==71⟩,j):=by
  intro kW j he;unfold gm;rw[m.V];simp only;rw[if_neg (by simp),if_neg (by omega),he];simp only;rw[wrap_i64 (by omega) (by omega)];simp
 by_cases Y:b.K.ef=1
 ·right;obtain⟨cI,ri,ks,sX⟩:=m.gone cF b.K.bG;have j:=o0 _ _ (O Y);have Bn:fP b.K b.W x=(Disk.hG b.K.bG b.K,⟨⟨if (71:Int)=0 then g.xs.length+1 else g.xs.length,g.a,0,(71:Int)==71⟩,b.W.v⟩,71):=by
   unfold fP;rw[if_pos F.2.1,j,if_neg (by simp)]
  rw[Bn];exact⟨cI,ri,ks,sX,rfl,rfl⟩
 ·left;obtain⟨ee,aJ,bl⟩:=I Y;have j:=o0 _ _ aJ;refine⟨ee,?_,by rw[List.map_append]; exact bl⟩;unfold fP;rw[if_pos F.2.1,j,if_pos rfl];simp
theorem np.al6(h:np n c k W Q g){x:dO}(F:p7 W x):np n c (k+1) W Q ⟨g.xs++[x],g.a,g.an,g.l⟩∧k8 g ⟨g.xs++[x],g.a,g.an,g.l⟩:=by
 refine⟨⟨h.q,fun S aB=>?_,h.nd,h.ours,h.vN,?_,Nat.le_trans h.wS (Nat.le_succ k),?_,h.n0⟩,fun _ _ j=>j⟩
 ·rcases List.mem_append.1 aB with aB | aB
  ·exact h.p5 S aB
  ·rw[List.mem_singleton.1 aB]; exact F
 ·have:=h.yE; simp; omega
 ·have:=h.t_; simp; omega
theorem aBy(v:dc)(x:dO):∀ S∈(mW v x).1.held.map (·.1),S∈v.held.map (·.1)∨S=x.aC:=by
 have Yd:∀ (id:Int) (es:List (Int×mu)) (S:Int),S∈(del id es).map (·.1)→S∈es.map (·.1):=fun id es S h=>QG.mem h;intro S aB;unfold mW at aB;split at aB
 ·left;unfold yQ at aB
  repeat' split at aB
  all_goals exact aB
 ·split at aB
  ·unfold zW at aB;split at aB
   ·exact .inl aB
   ·split at aB
    ·exact .inl aB
    ·have aB:S∈(eM x.aC _ v.held).map (·.1):=aB;rw[Km] at aB;split at aB
     ·exact .inl aB
     ·rcases List.mem_append.1 aB with h | h
      ·exact .inl h
      ·exact .inr (List.mem_singleton.1 h)
  ·left;unfold oq at aB;split at aB
   ·unfold xK at aB;split at aB
    ·exact aB
    ·split at aB
     ·split at aB<;>exact aB
     ·split at aB
      ·split at aB
       ·exact aB
       ·exact Yd _ _ S aB
      ·exact aB
   ·split at aB
    ·unfold xN at aB;split at aB
     ·exact aB
     ·split at aB
      ·exact aB
      ·split at aB
       ·exact aB
       ·have aB:S∈(rW v x.aC).held.map (·.1):=aB;unfold rW at aB;split at aB
        ·exact Yd _ _ S aB
        ·exact aB
    ·split at aB
     ·unfold q5 at aB
      repeat' split at aB
      all_goals exact aB
     ·exact aB
theorem ZO{v:dc}{x:dO}(F:x.aC≤2000000)(h:∀ j∈v.held,j.1≤2000000):∀ j∈(mW v x).1.held,j.1≤2000000:=by
 intro j he;rcases aBy v x j.1 (List.mem_map.2 ⟨j,he,rfl⟩) with I | I
 ·obtain⟨hU,oy,O⟩:=List.mem_map.1 I;have:=h hU oy;omega
 ·omega
theorem ape{xs:List dO}(F:∀ x∈xs,x.aC≤2000000):∀ {v:dc},(∀ j∈v.held,j.1≤2000000)→∀ j∈(qn v xs).held,j.1≤2000000:=by
 induction xs with
 |nil=>intro v h; exact h
 |cons x xs ck=>
  intro v h;exact ck (fun S aB=>F S (List.mem_cons_of_mem _ aB)) (ZO (F x (List.mem_cons_self ..)) h)
theorem HA(h:eB f n c k W Q b g)(ag:b.K.down=false)(aq:k≤50000){x:dO}(F:p7 W x) :
  ∃ cI,eB f n c (k+1) W Q { b with K:=(fP b.K b.W x).1,W:=(fP b.K b.W x).2.1 } cI∧k8 g cI∧((fP b.K b.W x).1.down=true∨(fP b.K b.W x).1.down=false∧cI.xs=g.xs++[x]∧(fP b.K b.W x).2.2=(mW b.W.v x).2):=by
 have m:=h.live ag;have bZ:bK (k+1) { b with K:=(fP b.K b.W x).1,W:=(fP b.K b.W x).2.1 }:=by
  have y:=h.bZ.mono (Nat.le_succ k);refine⟨y.aw,y.rd,y.src,Yh h.bZ.K,ama h.bZ.fit (by have:=F.2.2.1; omega),?_,y.lV,y.lJ,y.out⟩;show ∀ j∈(fP b.K b.W x).2.1.v.held,_
  unfold fP;split
  ·split
   ·exact ZO F.2.2.1 h.bZ.ids
   ·exact h.bZ.ids
  ·exact h.bZ.ids
 rcases Yj m h.cF aq F with ⟨ee,j,al⟩ | ⟨cI,I,O,aJ,bl,dq⟩
 ·obtain⟨bA,eR⟩:=h.cF.al6 F;rw[j] at bZ ⊢;refine⟨_,⟨bZ,bA,.inl ⟨al,?_,?_,m.A,m.P,m.outs,m.sure⟩⟩,eR,.inr ⟨al.up,rfl,rfl⟩⟩
  ·simp
  ·show (mW b.W.v x).1=_
   rw[acE,m.v]
 ·exact⟨cI,⟨bZ,I.mono (gA.le_refl W) (Nat.le_succ k),.inr aJ⟩,O,.inl aJ.off⟩
end
section
variable {f n c k:Nat} {W:gA} {Q:cV→Prop} {b cL:bn} {g:fb}
def mR(f n c k:Nat)(W:gA)(Q:cV→Prop)(cL:bn)(g:fb):Prop:=∃ cI,eB f n c k W Q cL cI∧k8 g cI
theorem mR.mono{fS:Nat}(h:mR f n c k W Q cL g)(aq:k≤fS):mR f n c fS W Q cL g:=by
 obtain⟨cI,I,O⟩:=h;exact⟨cI,I.mono (gA.le_refl W) aq,O⟩
theorem eB.k4(h:eB f n c k W Q b g):mR f n c k W Q b g:=⟨g,h,k8.refl g⟩
theorem abK(h:eB f n c k W Q b g)(bZ:bK k cL)(ak:cL.K=b.K)(e0:cL.W=b.W)(o6:cL.A=b.A)(fj:cL.P=b.P)(ai:cL.out=b.out)(aG:cL.sure=b.sure):eB f n c k W Q cL g:=by
 refine⟨bZ,h.cF,?_⟩;rcases h.bd with m | d
 ·exact .inl ⟨by rw[ak]; exact m.N,by rw[e0]; exact m.V,by rw[e0]; exact m.v,by rw[o6]; exact m.A,by rw[fj]; exact m.P,by rw[ai]; exact m.outs,by rw[aG]; exact m.sure⟩
 ·exact .inr (by rw[ak]; exact d)
theorem aCE(h:bK k b){aw:hk}{src:Int}(I:iY aw)(O:-9223372036854775808≤src∧src≤1125899906842624):bK k { b with aw:=aw,src:=src }:=⟨I,h.rd,O,h.K,h.fit,h.ids,h.lV,h.lJ,h.out⟩
theorem wW(h:eB f n c k W Q b g){aw:hk}{src:Int}(I:iY aw)(O:-9223372036854775808≤src∧src≤1125899906842624):eB f n c k W Q { b with aw:=aw,src:=src } g:=abK h (aCE h.bZ I O) rfl rfl rfl rfl rfl rfl
theorem LF{aw:hk}{rd src:Int}{N:List Int}(k:iY aw)(h:-9223372036854775808≤src∧src≤1125899906842624):iY (gz aw rd src N).1∧-9223372036854775808≤(gz aw rd src N).2.1∧(gz aw rd src N).2.1≤1125899906842624:=by
 have I:=At (aw:=aw) (rd:=rd) (N:=N) h.2;have O:=(k.now rd).1;refine⟨?_,?_,I.1⟩
 ·unfold gz; split<;>exact O
 ·unfold gz;split
  ·exact h.1
  ·unfold Ac;split
   ·exact h.1
   ·have aJ:=foldl_max N (max src (e6 aw rd).2.1.jx);split
    ·exact h.1
    ·simp only; omega
theorem Hl{src t:Int}(h:-9223372036854775808≤src∧src≤1125899906842624):-9223372036854775808≤(oz src t).1∧(oz src t).1≤1125899906842624:=by
 unfold oz;by_cases c:jF t
 ·rw[if_pos c];unfold jF at c;simp only; omega
 ·rw[if_neg c]; exact h
theorem k9.plain{W:gA}{y:hM}(h:NJ y)(aq:y.Kind≠3):k9 W y:=⟨h,fun j=>absurd j aq⟩
theorem abL(h:eB f n c k W Q b g){m:List p8}(al:∀ s∈m,b.K.down=false→k9 (own n c g.an) s.y∧0≤s.h5∧s.h5<n)(g3:m.length≤300000):eB f n c (k+1) W Q { b with out:=b.out++m } g:=by
 have y:=h.bZ.mono (Nat.le_succ k);refine⟨⟨y.aw,y.rd,y.src,y.K,y.fit,y.ids,y.lV,y.lJ,?_⟩,h.cF.mono (gA.le_refl W) (Nat.le_succ k),?_⟩
 ·have:=h.bZ.out;show (b.out++m).length≤_
  rw[List.length_append,Nat.mul_add]; omega
 ·rcases h.bd with q | d
  ·refine .inl ⟨q.N,q.V,q.v,q.A,q.P,fun s aG=>?_,q.sure⟩;rcases List.mem_append.1 aG with aG | aG
   ·exact q.outs s aG
   ·exact al s aG q.N.up
  ·exact .inr d
theorem B6(h:eB f n c k W Q b g){h5:Int}{y:hM}(hm:b.K.down=false→k9 (own n c g.an) y)(aS:0≤h5∧h5<n):eB f n c (k+1) W Q (nK b h5 y) g:=
 abL (m:=[⟨h5,y⟩]) h (fun s aG ag=>by rw[List.mem_singleton.1 aG]; exact⟨hm ag,aS⟩) (by simp)
theorem abM(h:eB f n c k W Q b g)(ag:b.K.down=false):∃ cI,eB f n c k W Q { b with K:=(gu b.K b.W.V).1,W:=⟨(gu b.K b.W.V).2.1,b.W.v⟩ } cI∧k8 g cI∧((gu b.K b.W.V).1.down=true∧(gu b.K b.W.V).2.2=71∨(gu b.K b.W.V).1.down=false∧(gu b.K b.W.V).2.2=0∧cI.xs=g.xs∧cI.an=g.an∧cI.l=g.l):=by
 have m:=h.live ag;have bZ:bK k { b with K:=(gu b.K b.W.V).1,W:=⟨(gu b.K b.W.V).2.1,b.W.v⟩ }:=⟨h.bZ.aw,h.bZ.rd,h.bZ.src,LH h.bZ.K,h.bZ.fit,h.bZ.ids,h.bZ.lV,h.bZ.lJ,h.bZ.out⟩
 obtain⟨I,O⟩:=m.N.aHH;have j:∀ kW a9,oJ b.K 0=(kW,a9)→gu b.K b.W.V=(kW,⟨g.xs.length,if a9=0 then g.xs.length else g.a,0,a9==71⟩,a9):=by
  intro kW a9 he;unfold gu;rw[m.V];simp only;rw[if_neg (by simp),he];simp
 by_cases Y:b.K.ef=1
 ·obtain⟨cI,ri,ks,sX⟩:=m.gone h.cF b.K.bG;have es:=j _ _ (O Y);rw[es] at bZ ⊢;exact⟨cI,⟨bZ,ri,.inr sX⟩,ks,.inl ⟨sX.off,rfl⟩⟩
 ·obtain⟨ee,aJ,bl⟩:=I Y;have es:=j _ _ aJ;rw[es] at bZ ⊢;rw[List.length_map] at bl;refine⟨⟨g.xs,g.xs.length,g.an,g.l⟩,⟨bZ,⟨h.cF.q,h.cF.p5,h.cF.nd,h.cF.ours,h.cF.vN,h.cF.yE,h.cF.wS,Nat.le_refl _,h.cF.n0⟩,.inl ⟨bl,rfl,m.v,m.A,m.P,m.outs,m.sure⟩⟩,fun _ _ j=>j,.inr ⟨bl.up,rfl,rfl,rfl,rfl⟩⟩
theorem aCX(h:eB f n c k W Q b g)(ag:b.K.down=false):∃ cI,eB f n c k W Q { b with K:=(gu b.K b.A).1,A:=(gu b.K b.A).2.1 } cI∧k8 g cI∧((gu b.K b.A).1.down=true∧(gu b.K b.A).2.2=71∨(gu b.K b.A).1.down=false∧(gu b.K b.A).2.2=0∧cI.xs=g.xs∧cI.an=g.an∧cI.l=g.an.length):=by
 have m:=h.live ag;have bZ:bK k { b with K:=(gu b.K b.A).1,A:=(gu b.K b.A).2.1 }:=⟨h.bZ.aw,h.bZ.rd,h.bZ.src,LH h.bZ.K,h.bZ.fit,h.bZ.ids,h.bZ.lV,h.bZ.lJ,h.bZ.out⟩
 obtain⟨I,O⟩:=m.N.aHI;have j:∀ kW a9,oJ b.K 1=(kW,a9)→gu b.K b.A=(kW,⟨g.an.length,if a9=0 then g.an.length else g.l,1,a9==71⟩,a9):=by
  intro kW a9 he;unfold gu;rw[m.A];simp only;rw[if_neg (by simp),he];simp
 by_cases Y:b.K.ef=1
 ·obtain⟨cI,ri,ks,sX⟩:=m.gone h.cF b.K.bG;have es:=j _ _ (O Y);rw[es] at bZ ⊢;exact⟨cI,⟨bZ,ri,.inr sX⟩,ks,.inl ⟨sX.off,rfl⟩⟩
 ·obtain⟨ee,aJ,bl⟩:=I Y;have es:=j _ _ aJ;rw[es] at bZ ⊢;rw[List.length_map] at bl;have ao:k8 g ⟨g.xs,g.a,g.an,g.an.length⟩:=fun id d ag=>by
   show kp (g.an.take g.an.length) id=some d
   rw[List.take_length];exact Jm h.cF.nd ag
  exact⟨⟨g.xs,g.a,g.an,g.an.length⟩,⟨bZ,⟨h.cF.q,h.cF.p5,h.cF.nd,h.cF.ours,h.cF.vN,h.cF.yE,h.cF.wS,h.cF.t_,Nat.le_refl _⟩,.inl ⟨bl,m.V,m.v,rfl,m.P,m.outs,fun id aG=>by obtain⟨d,ag⟩:=m.sure id aG; exact⟨d,ao _ _ ag⟩⟩⟩,ao,.inr ⟨bl.up,rfl,rfl,rfl,rfl⟩⟩
theorem akb(m:xq f n c b g)(cF:np n c k W Q g)(aq:k≤50000){r:cV}(ab:oS r) :
  (∃ ee,gm b.K b.A (fJ r)=(ee,⟨g.an.length+1,g.l,1,false⟩,0)∧Live ee (g.xs.map jd) g.a ((g.an++[r]).map fJ) g.l) ∨
  (∃ cI,np n c k W Q cI∧k8 g cI∧pt (gm b.K b.A (fJ r)).1 (cI.xs.map jd) (cI.an.map fJ)∧(gm b.K b.A (fJ r)).2.2=71):=by
 have g3:=DF ab;have G6:=amt (adZ cF.nd);have aqm:=cF.wS;obtain⟨I,O⟩:=m.N.aka (x:=fJ r) (by omega) (by omega);have o0:∀ kW j,ot b.K 1 (g2 (fJ r))=(kW,j)→gm b.K b.A (fJ r)=(kW,⟨if j=0 then g.an.length+1 else g.an.length,g.l,1,j==71⟩,j):=by
  intro kW j he;unfold gm;rw[m.A];simp only;rw[if_neg (by simp),if_neg (by omega),he];simp only;rw[wrap_i64 (by omega) (by omega)];simp
 by_cases Y:b.K.ef=1
 ·right;obtain⟨cI,ri,ks,sX⟩:=m.gone cF b.K.bG;have j:=o0 _ _ (O Y);rw[j];exact⟨cI,ri,ks,sX,rfl⟩
 ·left;obtain⟨ee,aJ,bl⟩:=I Y;have j:=o0 _ _ aJ;refine⟨ee,?_,by rw[List.map_append]; exact bl⟩;rw[j];simp
theorem np.aF5(h:np n c k W Q g){r:cV}(ab:oS r)(Y:v4 (iK g.an) r)(U:Int.tmod r.x.aC n=c)(aS:r.k=2→jF r.t)(a8:Q r):np n c (k+1) W Q ⟨g.xs,g.a,g.an++[r],g.l⟩∧k8 g ⟨g.xs,g.a,g.an++[r],g.l⟩:=by
 refine⟨⟨fun S aB=>?_,h.p5,aFU h.nd ab Y,fun S aB=>?_,fun S aB=>?_,Nat.le_trans h.yE (Nat.le_succ k),?_,h.t_,?_⟩,fun id d j=>?_⟩
 ·rcases List.mem_append.1 aB with aB | aB
  ·exact h.q S aB
  ·rw[List.mem_singleton.1 aB]; exact a8
 ·rcases List.mem_append.1 aB with aB | aB
  ·exact h.ours S aB
  ·rw[List.mem_singleton.1 aB]; exact U
 ·rcases List.mem_append.1 aB with aB | aB
  ·exact h.vN S aB
  ·rw[List.mem_singleton.1 aB]; exact aS
 ·have:=h.wS; simp; omega
 ·have:=h.n0; simp; omega
 ·show kp ((g.an++[r]).take g.l) id=some d
  rw[List.take_append_of_le_length h.n0];exact j
theorem aD6{an:List cV}{r:cV}(Y:v4 (iK an) r):gA.le (own n c an) (own n c (an++[r])):=by
 intro id d h;unfold own at h ⊢;split at h
 ·rename_i j;rw[if_pos j];unfold kp at h ⊢;rw[Cg];exact Oh (Bp _) Y h
 ·cases h
theorem abJ(h:eB f n c k W Q b g)(ag:b.K.down=false)(aq:k≤50000){r:cV}(ab:oS r)(Y:v4 (iK g.an) r)(U:Int.tmod r.x.aC n=c)(aS:r.k=2→jF r.t)(a8:Q r){jk mx:List (Int×bN)}{m:List p8}
  (I:sA jk∧jk.length≤k+1) (O:sA mx∧mx.length≤k+1) (iF:C5 jk (g.an++[r])) (al:∀ s∈m,k9 (own n c (g.an++[r])) s.y∧0≤s.h5∧s.h5<n) (g3:m.length≤300000) :
  ((gm b.K b.A (fJ r)).2.2=0→mR f n c (k+1) W Q { b with K:=(gm b.K b.A (fJ r)).1,A:=(gm b.K b.A (fJ r)).2.1,P:=jk,out:=b.out++m } g) ∧
  ((gm b.K b.A (fJ r)).2.2≠0→mR f n c (k+1) W Q { b with K:=(gm b.K b.A (fJ r)).1,A:=(gm b.K b.A (fJ r)).2.1,P:=mx } g∧(gm b.K b.A (fJ r)).1.down=true∧(gm b.K b.A (fJ r)).2.2=71):=by
 have q:=h.live ag;have y:=h.bZ.mono (Nat.le_succ k);rcases akb q h.cF aq ab with ⟨ee,j,kE⟩ | ⟨cI,bA,eR,je,nx⟩
 ·obtain⟨cQ,cU⟩:=h.cF.aF5 ab Y U aS a8;refine⟨fun _=>⟨_,⟨⟨y.aw,y.rd,y.src,I7 h.bZ.K,y.fit,y.ids,I.1,I.2,?_⟩,cQ,.inl ⟨?_,q.V,q.v,?_,iF,?_,fun id aG=>?_⟩⟩,cU⟩,fun ah=>absurd (by rw[j]) ah⟩
  ·have:=h.bZ.out;show (b.out++m).length≤_
   rw[List.length_append,Nat.mul_add]; omega
  ·show Live (gm b.K b.A (fJ r)).1 _ _ _ _
   rw[j]; exact kE
  ·show (gm b.K b.A (fJ r)).2.1=_
   rw[j]; simp
  ·intro s aG;rcases List.mem_append.1 aG with aG | aG
   ·obtain⟨a,l⟩:=q.outs s aG;exact⟨a.mono (aD6 Y),l⟩
   ·exact al s aG
  ·obtain⟨d,ag⟩:=q.sure id aG;exact⟨d,cU _ _ ag⟩
 ·refine⟨fun ah=>(by rw[nx] at ah; cases ah),fun _=>⟨⟨cI,⟨⟨y.aw,y.rd,y.src,I7 h.bZ.K,y.fit,y.ids,O.1,O.2,y.out⟩,bA.mono (gA.le_refl W) (Nat.le_succ k),.inr je⟩,eR⟩,je.off,nx⟩⟩
end
theorem aIa{i:Int}(h:1≤i):gH (2*i-1)=i∧gH (2*i)=i:=by
 unfold gH;rw[Int.tdiv_eq_ediv_of_nonneg (by omega),Int.tdiv_eq_ediv_of_nonneg (by omega)];omega
theorem aH9{i:Int}(h:1≤i∧i≤2000000):1≤gH i∧gH i≤1000000:=by
 unfold gH;rw[Int.tdiv_eq_ediv_of_nonneg (by omega)];omega
theorem ae7{a:Int}{n:Nat}(h:0<n)(ah:0≤a):0≤Int.tmod a n∧Int.tmod a n<n:=⟨Int.tmod_nonneg _ ah,Int.tmod_lt_of_pos _ (by omega)⟩
theorem Ii{W:gA}{id t:Int}{cq:Bool}(h:1≤id∧id≤2000000)(aS:0≤t∧t≤1125899906842624):k9 W (rF id cq t):=
 k9.plain ⟨h,by show (0:Int)≤0∧(0:Int)<_; omega,by show (0:Int)≤0∧(0:Int)≤_; omega,aS⟩ (by show (2:Int)≠3; omega)
theorem X6{W:gA}{id:Int}{p:bN}(h:1≤id∧id≤2000000)(e0:W (gH id)=lj p)(ah:p.b4=2∨p.b4=3)(Y:0≤p.at_∧p.at_≤1125899906842624):k9 W ⟨3,⟨id,0,0,false⟩,p.b4==2,p.at_⟩:=by
 refine⟨⟨h,by show (0:Int)≤0∧(0:Int)<_; omega,by show (0:Int)≤0∧(0:Int)≤_; omega,Y⟩,fun _=>?_⟩;have j:lj p=some (p.b4,p.at_):=by unfold lj; rw[if_neg (by omega)]
 rw[j] at e0;refine⟨fun aB=>?_,fun aB=>?_⟩
 ·have aB:p.b4=2:=by simpa using aB
  rw[aB] at e0; exact e0
 ·have aB:p.b4≠2:=by simpa using aB
  have:p.b4=3:=by omega
  rw[this] at e0; exact⟨_,e0⟩
theorem N2{W:gA}{n:Nat}{p:bN}(aL:0<n)(F:jw p.x=0)(ik:p.b4=0∨p.b4=2∨p.b4=3)(Y:0≤p.at_∧p.at_≤1125899906842624)(e0:p.b4≠0→W p.x.aC=lj p):∀ s∈jQ n p,k9 W s.y∧0≤s.h5∧s.h5<n:=by
 intro s aG;unfold jQ at aG;obtain⟨dK,_,rfl⟩:=List.mem_map.1 aG;have I:=Ay F;have hJ:1≤(k5 p dK).aC∧(k5 p dK).aC≤2000000∧gH (k5 p dK).aC=p.x.aC:=by
  have:=aIa I.1.1;unfold k5;split
  ·exact⟨by simp only; omega,by simp only; omega,this.1⟩
  ·exact⟨by simp only; omega,by simp only; omega,this.2⟩
 have ZA:0≤(k5 p dK).cd∧(k5 p dK).cd<4096:=by
  unfold k5;split
  ·exact I.2.1
  ·exact I.2.2.1
 have a1:0≤(k5 p dK).b∧(k5 p dK).b≤1000000000000000:=by
  unfold k5;split<;>(simp only; omega)
 unfold Dq;refine⟨?_,ae7 aL ZA.1⟩;simp only;by_cases b7:p.b4=0
 ·rw[if_neg (fun h=>h b7)];exact k9.plain ⟨⟨hJ.1,hJ.2.1⟩,ZA,a1,by show (0:Int)≤0∧(0:Int)≤_; omega⟩ (by show (1:Int)≠3; omega)
 ·rw[if_pos b7];exact X6 ⟨hJ.1,hJ.2.1⟩ (by rw[hJ.2.2]; exact e0 b7) (by omega) Y
theorem anN{v:dc}(aU:Fit v)(id:Int):0≤(ff v id).gQ∧(ff v id).gQ≤1125899906842624:=by
 unfold ff;cases h:v.dX.lookup id with
 |none=>show (0:Int)≤0∧(0:Int)≤_; omega
 |some t=>
  show 0≤t.gQ∧t.gQ≤_
  have I:=aU.wu _ _ h;rcases I.2 with ⟨_,q,a8,j⟩ | ⟨_,O,aJ⟩ | ⟨_,O⟩
  ·have:=aU.ids _ _ a8;have:=aU.eY.mark;have:=aU.fD;omega
  ·omega
  ·omega
section
variable {f n c k:Nat} {W:gA} {Q:cV→Prop} {b cL:bn} {g:fb}
theorem xq.pl(m:xq f n c b g)(cF:np n c k W Q g){id:Int}{p:bN}(h:b.P.lookup id=some p):∃ q,(iK g.an).lookup id=some q∧AX p q∧AV q∧Int.tmod id n=c∧p.x.aC=id∧jw p.x=0:=by
 obtain⟨q,a8,he⟩:=(m.P id).1 p h;have I:=acn cF.nd cF.ours id q a8;exact⟨q,a8,he,Bp _ _ _ a8,I.1,by rw[he.1]; exact I.2.1,by rw[he.1]; exact I.2.2⟩
theorem anM{p q:bN}(h:AX p q):lj p=lj q:=by unfold lj; rw[h.2.1,h.2.2]
theorem Rq{an:List cV}{id:Int}{p q:bN}(U:Int.tmod id n=c)(a8:(iK an).lookup id=some q)(he:AX p q):own n c an id=lj p:=by
 unfold own kp;rw[if_pos U,a8,anM he];rfl
theorem aEJ{P:List (Int×bN)}{an:List cV}{id:Int}{p h0:bN}(h:C5 P an)(aE:P.lookup id=some p)(he:AX h0 p):C5 (iO P id h0) an:=by
 intro x;rw[wR];by_cases j:x=id
 ·subst j;rw[if_pos rfl,aE];refine⟨fun r ab=>?_,fun ab=>by cases ab⟩;cases ab;obtain⟨q,a8,O⟩:=(h x).1 p aE;exact⟨q,a8,he.1.trans O.1,he.2.1.trans O.2.1,he.2.2.trans O.2.2⟩
 ·rw[if_neg j];exact h x
theorem KK(h:eB f n c k W Q b g){id:Int}{p h0:bN}(aE:b.P.lookup id=some p)(he:AX h0 p):eB f n c k W Q { b with P:=iO b.P id h0 } g:=by
 refine⟨⟨h.bZ.aw,h.bZ.rd,h.bZ.src,h.bZ.K,h.bZ.fit,h.bZ.ids,Rv h.bZ.lV aE he.1,by show (iO _ _ _).length≤_; rw[LN]; exact h.bZ.lJ,h.bZ.out⟩,h.cF,?_⟩;rcases h.bd with m | d
 ·exact .inl ⟨m.N,m.V,m.v,m.A,aEJ m.P aE he,m.outs,m.sure⟩
 ·exact .inr d
theorem aCP(h:eB f n c k W Q b g)(ag:b.K.down=false)(aq:k≤49000){from_:Int}{y:hM}(hm:k9 W y)(am:0≤from_∧from_<n):mR f n c (k+2) W Q (rk b from_ y.Part) g:=by
 have hJ:=hm.1.id;unfold rk;split
 ·exact (B6 h (fun _=>Ii hJ (anN h.bZ.fit _)) am).k4.mono (by omega)
 ·split
  ·exact (B6 h (fun _=>Ii hJ (by omega)) am).k4.mono (by omega)
  ·split
   ·have aG:=LF (rd:=b.cG) (N:=[]) h.bZ.aw h.bZ.src;have al:=At (aw:=b.aw) (rd:=b.cG) (N:=[]) h.bZ.src.2;generalize gz b.aw b.cG b.src []=s at aG al;have I:=wW h aG.1 aG.2;unfold yk;split
    ·exact I.k4.mono (by omega)
    ·rename_i ah;have ah:=Classical.not_not.1 ah;have aS:=al.2 ah;have F:p7 W ⟨2,s.2.2.1,y.Part.aC,y.Part.cd,y.Part.b,y.Part.ib⟩:=by
      refine⟨⟨by simp,by simp only; omega,by simp only; omega,by have:=hm.1.ac; simp only; omega,by have:=hm.1.n; simp only; omega⟩,⟨by show (1:Int)≤2; omega,by show (2:Int)≤6; omega⟩,by simp only; omega,fun j=>absurd j (by show (2:Int)≠3; omega),fun j=>absurd j (by show (2:Int)≠4; omega)⟩
     obtain⟨cI,O,aJ,_⟩:=HA I ag (by omega) F;unfold vd;split
     ·exact⟨cI,B6 O (fun _=>Ii hJ (by omega)) am,aJ⟩
     ·split
      ·exact⟨cI,B6 O (fun _=>Ii hJ (by omega)) am,aJ⟩
      ·exact mR.mono ⟨cI,O,aJ⟩ (by omega)
   ·exact h.k4.mono (by omega)
theorem aCO(h:eB f n c k W Q b g)(ag:b.K.down=false)(aq:k≤49000){from_:Int}{y:hM}(hm:k9 W y)(aJ:y.Kind=3)(am:0≤from_∧from_<n):mR f n c (k+2) W Q (tM b from_ y) g:=by
 have hJ:=hm.1.id;have ZB:k9 (own n c g.an) (Bf y.Part.aC):=k9.plain ⟨hJ,by show (0:Int)≤0∧(0:Int)<_; omega,by show (0:Int)≤0∧(0:Int)≤_; omega,by show (0:Int)≤0∧(0:Int)≤_; omega⟩ (by show (4:Int)≠3; omega);have aoR:∀ T,k9 T (Bf y.Part.aC):=fun T=>k9.plain ZB.1 (by show (4:Int)≠3; omega);unfold tM;split
 ·exact (B6 h (fun _=>ZB) am).k4.mono (by omega)
 ·have F:p7 W (q6 y):=by
   have aS:=hm.1.t;have e0:=hm.2 aJ;unfold q6;cases aB:y.jP with
   |true=>
    rw[if_pos rfl];exact⟨⟨by simp,by simp only; omega,by simp only; omega,by simp,by simp⟩,⟨by show (1:Int)≤3; omega,by show (3:Int)≤6; omega⟩,by simp only; omega,fun _=>e0.1 aB,fun j=>absurd j (by show (3:Int)≠4; omega)⟩
   |false=>
    rw[if_neg (by simp)];exact⟨⟨by simp,by simp,by simp only; omega,by simp,by simp⟩,⟨by show (1:Int)≤4; omega,by show (4:Int)≤6; omega⟩,by simp only; omega,fun j=>absurd j (by show (4:Int)≠3; omega),fun _=>e0.2 aB⟩
  obtain⟨cI,I,O,_⟩:=HA h ag (by omega) F;unfold ih;split
  ·exact mR.mono ⟨cI,I,O⟩ (by omega)
  ·refine⟨cI,?_,O⟩;have aq1:-9223372036854775808≤(if y.jP=true then (oz b.src y.b5).1 else b.src)∧(if y.jP=true then (oz b.src y.b5).1 else b.src)≤1125899906842624:=by
    split
    ·exact Hl h.bZ.src
    ·exact h.bZ.src
   exact B6 (b:={ b with K:=(fP b.K b.W (q6 y)).1,W:=(fP b.K b.W (q6 y)).2.1,src:=if y.jP=true then (oz b.src y.b5).1 else b.src }) (wW I I.bZ.aw aq1) (fun _=>aoR _) am
theorem aCJ(h:eB f n c k W Q b g){y:hM}:eB f n c k W Q (xF b y) g:=by
 unfold xF;cases al:b.P.lookup (gH y.Part.aC) with
 |none=>exact h
 |some p=>
  refine KK h al ?_;unfold F5;split
  ·exact⟨rfl,rfl,rfl⟩
  ·simp only;split<;>exact⟨rfl,rfl,rfl⟩
end
section
variable {f n c k:Nat} {W:gA} {Q:cV→Prop} {b cL:bn} {g:fb}
theorem acF{an:List cV}{r:cV}{q:bN}(aq:r.k≠1)(a8:(iK an).lookup r.x.aC=some q):iK (an++[r])=iO (iK an) r.x.aC (ke q r):=by
 rw[Cg];unfold nc;rw[if_neg aq,a8]
theorem aIq(p:bN)(a l:Bool)(t:Int):(g6 p a l t).2≠0→(g6 p a l t).1=p:=by
 unfold g6;by_cases bt:l=true∧¬ jF t
 ·rw[if_pos bt]; exact fun _=>rfl
 ·rw[if_neg bt];by_cases bI:(p.side a).said=true∧lA.cs (p.side a) ⟨true,l,if l then t else 0⟩=false
  ·rw[if_pos bI]; exact fun _=>rfl
  ·rw[if_neg bI]; exact fun j=>absurd rfl j
theorem Q1(aL:0<n)(h:eB f n c k W Q b g)(ag:b.K.down=false)(aq:k≤49000){id jU t:Int}{p cY:bN}(al:b.P.lookup id=some p)(ah:p.b4=0)(F:cY.x=p.x)(kF:cY.at_=p.at_)
  (JW:(jU=3∧cY.b4≠2)∨(jU=2∧(kq cY 2 t).b4=2∧(kq cY 2 t).at_=t∧jF t)) (aS:0≤t∧t≤1125899906842624) (s0:Q ⟨jU,cY.x,t⟩) :
  mR f n c (k+1) W Q (nU n b id cY jU t).1 g∧((nU n b id cY jU t).2≠0→(nU n b id cY jU t).1.K.down=true∧(nU n b id cY jU t).2=71):=by
 have m:=h.live ag;obtain⟨q,a8,he,ik,U,J1,D8⟩:=m.pl h.cF al;have j_:q.b4=0:=by rw[← he.2.1]; exact ah
 have zX:=ik.2.2 j_;have Hd:cY.x.aC=id:=by rw[F]; exact J1
 have aaj:jw cY.x=0:=by rw[F]; exact D8
 have ab:oS ⟨jU,cY.x,t⟩:=Ea (by omega) aaj aS;have Y:v4 (iK g.an) ⟨jU,cY.x,t⟩:=.inr ⟨by rcases JW with h | h<;>simp[h.1],by show ((iK g.an).lookup cY.x.aC).isSome=true; rw[Hd,a8]; rfl⟩;have BE:(kq cY jU t).x=cY.x:=X8 cY jU t;have aot:sA (iO b.P id (kq cY jU t)):=Rv h.bZ.lV al (by rw[BE,F]);have Zw:sA (iO b.P id cY):=Rv h.bZ.lV al F;have sV:=h.bZ.lJ;have DD:iK (g.an++[⟨jU,cY.x,t⟩])=iO (iK g.an) id (ke q ⟨jU,cY.x,t⟩):=by
  have:=acF (r:=⟨jU,cY.x,t⟩) (an:=g.an) (q:=q) (by show jU≠1; rcases JW with h | h<;>omega) (by show (iK g.an).lookup cY.x.aC=_; rw[Hd]; exact a8);rw[this];show iO (iK g.an) cY.x.aC _=_
  rw[Hd]
 have DZ:AX (kq cY jU t) (ke q ⟨jU,cY.x,t⟩):=by
  refine⟨by rw[BE,aec,F,he.1],?_⟩;rcases JW with ⟨rfl,BL⟩ | ⟨rfl,O,aJ,bl⟩
  ·have aR:kq cY 3 t=(pA cY).1:=by unfold kq; rw[if_neg (by omega)]
   have a9:ke q ⟨3,cY.x,t⟩=(pA q).1:=by unfold ke; rw[if_pos rfl]
   rw[aR,a9];unfold pA;rw[if_neg BL,if_neg (by omega)];exact⟨rfl,by show cY.at_=q.at_; rw[kF,he.2.2]⟩
  ·have dq:=(Lr (x:=q.x) (r:=⟨2,cY.x,t⟩) (by show (2:Int)≠3; omega)).1 bl;rw[← zX] at dq;exact⟨by rw[O,dq.1],by rw[aJ,dq.2]⟩
 have iF:C5 (iO b.P id (kq cY jU t)) (g.an++[⟨jU,cY.x,t⟩]):=by
  intro x;rw[DD,wR,wR];by_cases j:x=id
  ·subst j;rw[if_pos rfl,if_pos rfl,al,a8];exact⟨fun r ab=>by cases ab; exact⟨_,rfl,DZ⟩,fun ab=>by cases ab⟩
  ·rw[if_neg j,if_neg j];exact m.P x
 have aJW:AV (kq cY jU t)∨True:=.inr trivial;have G2:(iK (g.an++[⟨jU,cY.x,t⟩])).lookup id=some (ke q ⟨jU,cY.x,t⟩):=by rw[DD,wR,if_pos rfl,a8]; rfl
 have ZU:=Bp (g.an++[⟨jU,cY.x,t⟩]) _ _ G2;have PH:∀ s∈jQ n (kq cY jU t),k9 (own n c (g.an++[⟨jU,cY.x,t⟩])) s.y∧0≤s.h5∧s.h5<n:=by
  refine N2 aL (by rw[BE]; exact aaj) (by rw[DZ.2.1]; exact ZU.1) (by rw[DZ.2.2]; exact ZU.2.1) fun _=>?_;rw[BE,Hd];exact Rq U G2 DZ
 obtain⟨gN,bv⟩:=abJ h ag (by omega) ab Y (by show Int.tmod cY.x.aC n=c; rw[Hd]; exact U) (fun j=>by have j:jU=2:=j; rcases JW with h | h; (have:=h.1; omega); exact h.2.2.2) s0 (jk:=iO b.P id (kq cY jU t)) (mx:=iO b.P id cY) (m:=jQ n (kq cY jU t)) ⟨aot,by rw[LN]; omega⟩ ⟨Zw,by rw[LN]; omega⟩ iF PH (by have:=F_ n (kq cY jU t); omega);unfold nU;simp only;by_cases cz:(gm b.K b.A (fJ ⟨jU,cY.x,t⟩)).2.2=0
 ·rw[if_pos cz];exact⟨gN cz,fun j=>absurd rfl j⟩
 ·rw[if_neg cz];exact⟨(bv cz).1,fun _=>(bv cz).2⟩
theorem aF3{p:bN}(h:(n4 p).2=true):p.b4=0∧p.both=true∧(n4 p).1=max p.a.gQ p.l.gQ:=by
 unfold n4 at h ⊢;split
 ·rename_i U; exact⟨U.2,U.1,rfl⟩
 ·rename_i U; rw[if_neg U] at h; cases h
theorem aHs{aw:hk}{rd src a:Int}(h:(gz aw rd src [a]).2.2.2=0):a<(gz aw rd src [a]).2.2.1∧jF (gz aw rd src [a]).2.2.1:=by
 unfold gz at h ⊢;split
 ·rename_i U; rw[if_pos U] at h; exact absurd h U
 ·rename_i U;rw[if_neg U] at h;unfold Ac at h ⊢;split
  ·rename_i am; rw[if_pos am] at h; cases h
  ·rename_i am;rw[if_neg am] at h;split
   ·rename_i R; rw[if_pos R] at h; cases h
   ·rename_i R;have am:=(Classical.not_not.1 am).2.1.1;simp only[List.foldl_cons,List.foldl_nil] at R ⊢;unfold jF;omega
theorem aCY(ec:C6 Q b)(aL:0<n)(h:eB f n c k W Q b g)(ag:b.K.down=false)(aq:k≤49000){from_:Int}{y:hM}(hm:k9 W y)(am:0≤from_∧from_<n):mR f n c (k+2) W Q (vS n b from_ y) g:=by
 have hJ:=hm.1.id;unfold vS;cases al:b.P.lookup (gH y.Part.aC) with
 |none=>exact h.k4.mono (by omega)
 |some p=>
  simp only;have m:=h.live ag;obtain⟨q,a8,he,ik,U,J1,D8⟩:=m.pl h.cF al;unfold y9;by_cases b7:p.b4≠0
  ·rw[if_pos b7];refine (B6 h (fun _=>X6 hJ (Rq U a8 he) ?_ ?_) am).k4.mono (by omega)
   ·have:=ik.1; rw[← he.2.1] at this; omega
   ·rw[he.2.2]; exact ik.2.1
  ·rw[if_neg b7];have b7:=Classical.not_not.1 b7;have aK:=SU (p:=p) (Int.tmod y.Part.aC 2==1) y.jP y.b5;have D9:=LS p (Int.tmod y.Part.aC 2==1) y.jP y.b5;have PU:=aIq p (Int.tmod y.Part.aC 2==1) y.jP y.b5;generalize g6 p (Int.tmod y.Part.aC 2==1) y.jP y.b5=z at aK D9 PU;obtain⟨cY,aR⟩:=z;simp only at aK D9 PU ⊢;by_cases ce:aR≠0
   ·rw[if_pos ce];have:=PU ce;subst this;exact (KK h al ⟨rfl,rfl,rfl⟩).k4.mono (by omega)
   ·rw[if_neg ce];have kF:cY.at_=p.at_:=by rcases aK with h | h; exact h.2; exact h.2.2.2
    unfold vR;by_cases cc:cY.b4=3
    ·rw[if_pos cc];exact (Q1 aL h ag aq al b7 D9 kF (.inl ⟨rfl,by omega⟩) (by omega) (ec.one _ (by show (3:Int)≠2; omega))).1.mono (by omega)
    ·rw[if_neg cc];have u6:cY.b4=p.b4:=by rcases aK with h | h; exact h.1; exact absurd h.2.2.1 cc
     by_cases cr:(n4 cY).2=true
     ·rw[if_pos cr];obtain⟨gN,bv,gf⟩:=aF3 cr;have aG:=LF (rd:=b.cG) (N:=[(n4 cY).1]) h.bZ.aw h.bZ.src;have pL:=At (aw:=b.aw) (rd:=b.cG) (N:=[(n4 cY).1]) h.bZ.src.2;have xZ:=aHs (aw:=b.aw) (rd:=b.cG) (src:=b.src) (a:=(n4 cY).1);have r1:=ec.two cY.x [(n4 cY).1];generalize gz b.aw b.cG b.src [(n4 cY).1]=s at aG pL xZ r1;have I:=wW h aG.1 aG.2;unfold y_;by_cases ba:s.2.2.2=0
      ·rw[if_pos ba];have ao:=xZ ba;have aS:=pL.2 ba;have sU:kq cY 2 s.2.2.1={ cY with b4:=2,at_:=s.2.2.1 }:=by
        unfold kq oZ;rw[if_pos rfl,if_neg (fun cD=>cD ao.2),if_neg (by omega),if_neg (by omega),if_neg (by simp[bv]),if_neg (by omega)]
       exact (Q1 aL I ag aq al b7 D9 kF (.inr ⟨rfl,by rw[sU],by rw[sU],ao.2⟩) (by omega) (r1 ba)).1.mono (by omega)
      ·rw[if_neg ba];exact (KK I al ⟨D9,u6,kF⟩).k4.mono (by omega)
     ·rw[if_neg cr];exact (KK h al ⟨D9,u6,kF⟩).k4.mono (by omega)
theorem aCM(ec:C6 Q b)(aL:0<n)(h:eB f n c k W Q b g)(ag:b.K.down=false)(aq:k≤49000){from_:Int}{y:hM}(hm:k9 W y)(am:0≤from_∧from_<n):mR f n c (k+2) W Q (mY n b from_ y) g:=by
 unfold mY;split
 ·exact aCP h ag aq hm am
 ·split
  ·exact aCY ec aL h ag aq hm am
  ·split
   ·rename_i aJ; exact aCO h ag aq hm aJ am
   ·split
    ·exact (aCJ h).k4.mono (by omega)
    ·exact h.k4.mono (by omega)
theorem aCT(h:eB f n c k W Q b g)(ag:b.K.down=false)(aq:k≤49000){a y:Int}(Y:0≤a∧a<4096)(hm:-9223372036854775808≤y∧y≤9223372036854775807):mR f n c (k+1) W Q (yP b a y).1 g:=by
 unfold yP;have aG:=LF (rd:=b.cG) (N:=[]) h.bZ.aw h.bZ.src;have al:=At (aw:=b.aw) (rd:=b.cG) (N:=[]) h.bZ.src.2;generalize gz b.aw b.cG b.src []=s at aG al;have I:=wW h aG.1 aG.2;unfold yO;split
 ·exact I.k4.mono (by omega)
 ·rename_i ah;have aS:=al.2 (Classical.not_not.1 ah);have F:p7 W ⟨1,s.2.2.1,0,a,y,false⟩:=⟨⟨by simp,by simp only; omega,by simp,by simp only; omega,hm⟩,⟨by show (1:Int)≤1; omega,by show (1:Int)≤6; omega⟩,by show (0:Int)≤_; omega,fun j=>absurd j (by show (1:Int)≠3; omega),fun j=>absurd j (by show (1:Int)≠4; omega)⟩
  obtain⟨cI,O,aJ,bl⟩:=HA I ag (by omega) F;unfold EB;split
  ·exact⟨cI,O,aJ⟩
  ·rename_i bL;have bL:=Classical.not_not.1 bL;rcases bl with bl | ⟨bl,_⟩
   ·
    have lN:(gu (fP b.K b.W ⟨1,s.2.2.1,0,a,y,false⟩).1 (fP b.K b.W ⟨1,s.2.2.1,0,a,y,false⟩).2.1.V).1=(fP b.K b.W ⟨1,s.2.2.1,0,a,y,false⟩).1:=by
     unfold gu;split
     ·rfl
     ·simp only;unfold oJ j6;split
      ·rfl
      ·first | rfl | rw[if_pos bl]
    refine⟨cI,?_,aJ⟩;have bZ:=O.bZ;refine⟨⟨bZ.aw,bZ.rd,bZ.src,LH bZ.K,bZ.fit,bZ.ids,bZ.lV,bZ.lJ,bZ.out⟩,O.cF,.inr ?_⟩;rcases O.bd with m | d
    ·have:=m.N.up;simp only at this;rw[this] at bl; cases bl
    ·show pt (gu _ _).1 _ _
     rw[lN];exact d
   ·obtain⟨an1,dq,iu,_⟩:=abM O bl;exact⟨an1,dq,aJ.trans iu⟩
theorem aCQ(ec:∀ r:cV,r.k≠2→Q r)(aL:0<n)(h:eB f n c k W Q b g)(ag:b.K.down=false)(aq:k≤49000){x:oo}(F:jw x=0)(U:Int.tmod x.aC n=c):mR f n c (k+1) W Q (s9 n b x).1 g:=by
 unfold s9;split
 ·exact h.k4.mono (by omega)
 ·rename_i vc;have m:=h.live ag;have al:b.P.lookup x.aC=none:=by
   cases j:b.P.lookup x.aC with
   |none=>rfl
   |some p=>rw[j] at vc; exact absurd rfl vc
  have aqD:=(m.P x.aC).2 al;have ab:oS ⟨1,x,0⟩:=Ea (by omega) F (by omega);have Y:v4 (iK g.an) ⟨1,x,0⟩:=.inl ⟨rfl,F,aqD⟩;have DD:iK (g.an++[⟨1,x,0⟩])=iK g.an++[(x.aC,jI x)]:=by rw[Cg]; rfl
  have sV:=h.bZ.lJ;have iF:C5 (b.P++[(x.aC,jI x)]) (g.an++[⟨1,x,0⟩]):=by
   intro S;rw[DD,List.lookup_append,List.lookup_append];cases aB:b.P.lookup S with
   |some p=>
    obtain⟨q,a8,he⟩:=(m.P S).1 p aB;rw[a8];exact⟨fun r ab=>by cases ab; exact⟨q,rfl,he⟩,fun ab=>by cases ab⟩
   |none=>
    rw[(m.P S).2 aB];exact⟨fun r ab=>⟨r,ab,rfl,rfl,rfl⟩,fun ab=>ab⟩
  have PH:∀ s∈jQ n (jI x),k9 (own n c (g.an++[⟨1,x,0⟩])) s.y∧0≤s.h5∧s.h5<n:=N2 aL F (.inl rfl) (by show (0:Int)≤0∧(0:Int)≤_; omega) fun j=>absurd rfl j;obtain⟨gN,bv⟩:=abJ h ag (by omega) ab Y U (by show (1:Int)=2→_; intro j; omega) (ec _ (by show (1:Int)≠2; omega)) (jk:=b.P++[(x.aC,jI x)]) (mx:=b.P) (m:=jQ n (jI x)) ⟨aEH h.bZ.lV F,by simp; omega⟩ ⟨h.bZ.lV,by omega⟩ iF PH (by have:=F_ n (jI x); omega);unfold B5;by_cases cz:(gm b.K b.A (fJ ⟨1,x,0⟩)).2.2=0
  ·rw[if_neg (fun j=>j cz)];exact gN cz
  ·rw[if_pos cz];exact (bv cz).1
theorem aCI(ec:∀ r:cV,r.k≠2→Q r)(aL:0<n)(h:eB f n c k W Q b g)(ag:b.K.down=false)(aq:k≤49000){id:Int}:mR f n c (k+1) W Q (rQ n b id).1 g:=by
 unfold rQ;cases al:b.P.lookup id with
 |none=>exact h.k4.mono (by omega)
 |some p=>
  simp only;split
  ·exact h.k4.mono (by omega)
  ·rename_i ah;exact (Q1 aL h ag aq al (Classical.not_not.1 ah) rfl rfl (.inl ⟨rfl,by have:=Classical.not_not.1 ah; omega⟩) (by omega) (ec _ (by show (3:Int)≠2; omega))).1
end
section
variable {f n c k:Nat} {W:gA} {Q:cV→Prop} {b cL:bn} {g:fb}
theorem Q2(h:eB f n c k W Q b g)(ag:b.K.down=false):∃ cI,eB f n c k W Q (nh b).1 cI∧k8 g cI ∧
  ((nh b).2=71∧(nh b).1.K.down=true∨(nh b).2=0∧(nh b).1.K.down=false∧cI.an=g.an∧cI.l=g.an.length∧cI.xs=g.xs):=by
 obtain⟨bA,I,cQ,bt⟩:=abM h ag;have es:nh b=vH b (gu b.K b.W.V):=rfl;rw[es];unfold vH;rcases bt with ⟨d1,aR⟩ | ⟨d1,aR,cj,gN,e9⟩
 ·rw[if_pos (by rw[aR]; omega)];exact⟨bA,I,cQ,.inl ⟨aR,d1⟩⟩
 ·rw[if_neg (by rw[aR]; omega)];obtain⟨eR,O,cU,bI⟩:=aCX I d1;unfold y3;simp only at bI;rcases bI with ⟨d2,a9⟩ | ⟨d2,a9,fp,bv,eb⟩
  ·rw[if_pos (by rw[a9]; omega)];exact⟨eR,O,cQ.trans cU,.inl ⟨a9,d2⟩⟩
  ·rw[if_neg (by rw[a9]; omega)];have m:=O.live d2;refine⟨eR,⟨⟨O.bZ.aw,O.bZ.rd,O.bZ.src,O.bZ.K,O.bZ.fit,O.bZ.ids,O.bZ.lV,O.bZ.lJ,by show ([]:List p8).length≤_; simp⟩,O.cF,.inl ⟨m.N,m.V,m.v,m.A,m.P,fun s aG=>(by cases aG),fun id aG=>?_⟩⟩,cQ.trans cU,.inr ⟨rfl,d2,bv.trans gN,by rw[eb,gN],fp.trans cj⟩⟩;have aG:(b.sure id||sK b.P id)=true:=aG;rcases Bool.or_eq_true_iff.1 aG with aG | aG
   ·exact m.sure id aG
   ·unfold sK at aG;cases al:b.P.lookup id with
    |none=>rw[al] at aG; cases aG
    |some p=>
     rw[al] at aG;have PI:p.b4≠0:=by simpa using aG
     obtain⟨q,a8,he⟩:=(m.P id).1 p al;refine⟨(q.b4,q.at_),?_⟩;rw[eb,← bv,List.take_length];unfold kp;rw[a8];show lj q=_
     unfold lj;rw[if_neg (by rw[← he.2.1]; exact PI)]
theorem aCS(aL:0<n)(h:eB f n c k W Q b g)(ag:b.K.down=false)(aq:k≤49000):eB f n c (k+1) W Q (HC n b) g:=by
 have m:=h.live ag;have sV:=h.bZ.lJ;have s0:(eW b.P).length≤50000:=by unfold eW; rw[(oa _).length_eq,List.length_map]; omega
 have I:=N3 n b.P (eW b.P);have O:=Pp h.bZ.fit;have aJ:(rZ n b.W.v).length=(gp b.W.v).length:=by unfold rZ; rw[List.length_map]
 have j:HC n b={ b with out:=b.out++(ql n b.P (eW b.P)++rZ n b.W.v) }:=by unfold HC; rw[List.append_assoc]
 rw[j];refine abL h (fun s aG _=>?_) (by rw[List.length_append]; omega);rcases List.mem_append.1 aG with aG | aG
 ·unfold ql at aG;obtain⟨id,_,aG⟩:=List.mem_flatMap.1 aG;cases al:b.P.lookup id with
  |none=>rw[al] at aG; cases aG
  |some p=>
   rw[al] at aG;obtain⟨q,a8,he,ik,U,J1,D8⟩:=m.pl h.cF al;refine N2 aL D8 (by rw[he.2.1]; exact ik.1) (by rw[he.2.2]; exact ik.2.1) (fun _=>?_) s aG;rw[J1];exact Rq U a8 he
 ·unfold rZ at aG;obtain⟨q,a8,rfl⟩:=List.mem_map.1 aG;unfold gp at a8;obtain⟨id,hJ,rfl⟩:=List.mem_map.1 a8;obtain⟨hU,oy,rfl⟩:=List.mem_map.1 ((oa _).mem_iff.1 hJ);have al:=z9 h.bZ.fit.rv oy;rw[DY al];have bl:=h.bZ.fit.ids _ _ al;have dq:=h.bZ.ids _ oy;have iu:=h.bZ.fit.eY.mark;have rX:=h.bZ.fit.fD;have ZY:1≤hU.2.Part.aC∧hU.2.Part.aC≤2000000:=by rw[bl.1]; omega
  exact⟨Ii ZY (by omega),ae7 aL (by have:=aH9 ZY; omega)⟩
theorem aCL(h:eB f n c k W Q b g)(ag:b.K.down=false)(aq:k≤49000):mR f n c (k+1) W Q (rS b).1 g:=by
 unfold rS;have tT:=h.bZ.aw.now b.cG;generalize e6 b.aw b.cG=s at tT;have I:=wW h tT.1 h.bZ.src;unfold xI;split
 ·exact I.k4.mono (by omega)
 ·rename_i ah;have GM:=tT.2 (Classical.not_not.1 ah);unfold nv e1 at GM;have rY:=Oe h.bZ.fit (t:=s.2.1.gS) (by omega) (by omega);generalize uX b.W.v s.2.1.gS=t at rY;have F:p7 W ⟨5,t,0,0,0,false⟩:=⟨⟨by simp,by simp only; omega,by simp,by simp,by simp⟩,⟨by show (1:Int)≤5; omega,by show (5:Int)≤6; omega⟩,by show (0:Int)≤_; omega,fun j=>absurd j (by show (5:Int)≠3; omega),fun j=>absurd j (by show (5:Int)≠4; omega)⟩
  obtain⟨cI,O,aJ,_⟩:=HA I ag (by omega) F;unfold Dw;split
  ·exact⟨cI,O,aJ⟩
  ·exact⟨cI,wW O O.bZ.aw (Hl h.bZ.src),aJ⟩
theorem aCV(h:eB f n c k W Q b g)(ag:b.K.down=false)(aq:k≤49000){t:Int}(aS:-9223372036854775808≤t∧t≤9223372036854775807):mR f n c (k+1) W Q (EG b t).1 g:=by
 have F:p7 W ⟨6,t,0,0,0,false⟩:=⟨⟨by simp,aS,by simp,by simp,by simp⟩,⟨by show (1:Int)≤6; omega,by show (6:Int)≤6; omega⟩,by show (0:Int)≤_; omega,fun j=>absurd j (by show (6:Int)≠3; omega),fun j=>absurd j (by show (6:Int)≠4; omega)⟩
 obtain⟨cI,O,aJ,_⟩:=HA h ag (by omega) F;exact⟨cI,O,aJ⟩
theorem aCU(h:eB f n c k W Q b g){d gq:Int}{xs:List Int}{i:Nat}(ag:0≤d∧d≤1048576)(hm:0≤gq∧gq≤2*d):eB f n c (k+1) W Q (vw d gq xs i b) g:=by
 have y:=h.bZ.mono (Nat.le_succ k);have aG:-gq≤p0 gq xs i∧p0 gq xs i≤gq:=by unfold p0; split<;>omega
 have ab:=h.bZ.rd;refine abK (h.mono (gA.le_refl W) (Nat.le_succ k)) ⟨y.aw,?_,y.src,y.K,y.fit,y.ids,y.lV,y.lJ,y.out⟩ rfl rfl rfl rfl rfl rfl;show _≤b.cG+(d-p0 gq xs i)∧_
 unfold vw
 push_cast
 constructor<;>omega
theorem aCW(h:eB f n c k W Q b g){a l j:Int}:eB f n c k W Q { b with aw:=(sp b.aw a l j).1 } g:=wW h (h.bZ.aw.set a l j) h.bZ.src
theorem aCK(h:eB f n c k W Q b g){a:Int}{bG:List Int}:eB f n c k W Q { b with K:={ b.K with ef:=a,bG:=bG } } g:=by
 refine⟨⟨h.bZ.aw,h.bZ.rd,h.bZ.src,⟨h.bZ.K.len,h.bZ.K.log⟩,h.bZ.fit,h.bZ.ids,h.bZ.lV,h.bZ.lJ,h.bZ.out⟩,h.cF,?_⟩;rcases h.bd with m | d
 ·exact .inl ⟨m.N.Bg a bG,m.V,m.v,m.A,m.P,m.outs,m.sure⟩
 ·exact .inr (d.Bg a bG)
theorem aCN(h:eB f n c k W Q b g){bG:List Int}:mR f n c k W Q { b with K:=Disk.hG bG b.K } g:=by
 have bZ:bK k { b with K:=Disk.hG bG b.K }:=⟨h.bZ.aw,h.bZ.rd,h.bZ.src,Gi h.bZ.K,h.bZ.fit,h.bZ.ids,h.bZ.lV,h.bZ.lJ,h.bZ.out⟩
 rcases h.bd with m | d
 ·obtain⟨cI,I,O,aJ⟩:=m.gone h.cF bG;exact⟨cI,⟨bZ,I,.inr aJ⟩,O⟩
 ·exact⟨g,⟨bZ,h.cF,.inr (by show pt (Disk.hG bG b.K) _ _; rw[d.hG bG]; exact d)⟩,k8.refl g⟩
theorem Oi{xs:List dO}(h:∀ x∈xs,nO x∧qh x.Kind):sL (xs.map jd)=some xs:=Yc h
theorem eB.cS(h:eB f n c k W Q b g):IT b.K:=by
 have F:∀ x∈g.xs,nO x∧qh x.Kind:=fun x F=>⟨(h.cF.p5 x F).1,(h.cF.p5 x F).2.1⟩
 rcases h.bd with m | d
 ·refine⟨_,_,g.xs,g.an,by rw[m.N.cS]; rfl,by rw[m.N.cS]; rfl,?_,?_,h.cF.nd⟩
  ·have:=Ab (p:=[]) m.N.n_ ⟨31,rfl⟩;rw[List.append_nil] at this;simp only;rw[this]; exact Oi F
  ·have:=Ab (p:=[]) m.N.lp ⟨31,rfl⟩;rw[List.append_nil] at this;simp only;rw[this]
 ·obtain⟨p,q,aE,a8,al⟩:=d.cS;refine⟨_,_,g.xs,g.an,by rw[al]; rfl,by rw[al]; rfl,?_,?_,h.cF.nd⟩
  ·simp only;rw[Ab d.n_ aE]; exact Oi F
  ·simp only;rw[Ab d.lp a8]
theorem Lp(an:List cV):∀ b:bn,(an.foldl vB b)={ b with P:=an.foldl nc b.P,sure:=an.foldl w5 b.sure,src:=an.foldl uo b.src }:=by
 induction an with
 |nil=>intro b; rfl
 |cons r an ck=>
  intro b;rw[List.foldl_cons,ck];rfl
theorem aHr(an:List cV):∀ s:Int,-9223372036854775808≤s∧s≤1125899906842624→-9223372036854775808≤an.foldl uo s∧an.foldl uo s≤1125899906842624:=by
 induction an with
 |nil=>intro s h; exact h
 |cons r an ck=>
  intro s h;rw[List.foldl_cons];refine ck _ ?_;unfold uo;split
  ·exact Hl h
  ·exact h
theorem aeQ{an:List cV}(ab:qS an)(aS:∀ r∈an,r.k=2→jF r.t):∀ i,i≤an.length→∀ id,((an.take i).foldl w5 fun _=>false) id=true→∃ d,kp (an.take i) id=some d:=by
 intro i;induction i with
 |zero=>intro _ id h; simp at h
 |succ i ck=>
  intro ax id h;have F:an[i]?=some an[i]:=List.getElem?_eq_getElem (by omega);have j:an.take (i+1)=an.take i++[an[i]]:=List.take_succ_eq_append_getElem (by omega);have kF:=(ab _ _ F).2;have J8:=aS _ (List.getElem_mem (by omega:i<an.length));generalize an[i]=r at F j kF J8;rw[j] at h ⊢;rw[List.foldl_append,List.foldl_cons,List.foldl_nil] at h;have bG:(∃ d,kp (an.take i) id=some d)→∃ d,kp (an.take i++[r]) id=some d:=by
   rintro⟨d,ag⟩;refine⟨d,?_⟩;unfold kp at ag ⊢;rw[Cg];exact Oh (Bp _) kF ag
  unfold w5 at h;split at h
  ·exact bG (ck (by omega) id h)
  ·rename_i ma;rcases Bool.or_eq_true_iff.1 h with h | h
   ·have h:=eq_of_beq h;rcases kF with ⟨aq,_⟩ | ⟨aq,al⟩
    ·exact absurd aq ma
    ·obtain⟨q,a8⟩:=Option.isSome_iff_exists.1 al;have ik:=Bp (an.take i) _ _ a8;unfold kp;have r1:(iK (an.take i)).lookup r.x.aC=some q:=a8;rw[acF ma r1,wR,if_pos h,h,r1];show ∃ d,lj (ke q r)=some d
     unfold lj;have:(ke q r).b4≠0:=by
      by_cases b7:q.b4=0
      ·have zX:=ik.2.2 b7;generalize q.x=x at zX;subst zX;rcases aq with aq | aq
       ·rw[((Lr (x:=x) (r:=r) (by omega)).1 (J8 aq)).1]; omega
       ·unfold ke;rw[if_pos aq];show (3:Int)≠0
        omega
      ·rw[(Lq (r:=r) (p:=q) (by have:=ik.1; omega)).1]; exact b7
     rw[if_neg this];exact⟨_,rfl⟩
   ·exact bG (ck (by omega) id h)
theorem Q3(am:ju f)(h:eB f n c k W Q b g):∃ cI,eB f n c k W Q (oM f b).1 cI∧k8 g cI∧((oM f b).2=71∧(oM f b).1.K.down=true∨(oM f b).2=0∧(oM f b).1.K.down=false):=by
 unfold oM;by_cases ag:b.K.down=true
 ·rw[if_pos ag];rcases h.bd with m | d
  ·rw[m.N.up] at ag; cases ag
  ·obtain⟨cX,bA,al,o5,aog,hm⟩:=d.KE;have hH:ub b.K 0=cX:=Kw (by rw[al]; rfl);have aR:ub b.K 1=bA:=Kw (by rw[al]; rfl);have F:∀ x∈g.xs,nO x∧qh x.Kind:=fun x F=>⟨(h.cF.p5 x F).1,(h.cF.p5 x F).2.1⟩
   have Ow:(g.an.map fJ).map Gj=g.an:=by
    rw[List.map_map]
    conv=>rhs; rw[← List.map_id g.an]
    exact List.map_congr_left fun r ab=>X9 (adZ h.cF.nd r ab)
   rw[hH,aR,o5,aog,Oi F,Ow];simp only[Option.getD_some];have gone:∀ ee,pt ee (g.xs.map jd) (g.an.map fJ)→eB f n c k W Q { b with K:=ee } g:=fun ee zJ=>⟨⟨h.bZ.aw,h.bZ.rd,h.bZ.src,zJ.ok,h.bZ.fit,h.bZ.ids,h.bZ.lV,h.bZ.lJ,h.bZ.out⟩,h.cF,.inr zJ⟩
   unfold y6;rcases hm with ⟨j1,cD⟩ | ⟨j1,zJ⟩
   ·rw[if_neg (fun j=>j j1)];have ri:(dh (h6 b.K) 0 cX).1.cS[1]?=some bA:=by
     have:=(abD (K:=h6 b.K) (n:=0) (g:=cX) ⟨d.ok.len,d.ok.log⟩ rfl (by show b.K.cS[0]?=_; rw[al]; rfl)).2 j1;refine (this.2 1 (by omega)).trans ?_;show b.K.cS[1]?=_
     rw[al]; rfl
    have Z2:=cD.aCs ri;generalize dh (dh (h6 b.K) 0 cX).1 1 bA=z at Z2;unfold y7;rcases Z2 with ⟨uA,kE⟩ | ⟨uA,zJ⟩
    ·rw[if_neg (fun j=>j uA)];rw[List.length_map,List.length_map] at kE;refine⟨⟨g.xs,g.xs.length,g.an,g.an.length⟩,?_,fun id d ag=>(by show kp (g.an.take g.an.length) id=_; rw[List.take_length]; exact Jm h.cF.nd ag),.inr ⟨rfl,?_⟩⟩
     ·have ws:zb b.aw b.cG z.1 f g.xs g.an={ E0 b.aw b.cG z.1 f g.xs g.an.length with P:=iK g.an,sure:=g.an.foldl w5 fun _=>false,src:=g.an.foldl uo (oz 0 (qn (ux f) g.xs).fD).1 }:=by unfold zb; rw[Lp]; rfl
      rw[ws];have tR:=acn h.cF.nd h.cF.ours;have sV:(iK g.an).length≤g.an.length:=by
       have key:∀ (an:List cV) (P:List (Int×bN)),(an.foldl nc P).length≤P.length+an.length:=by
        intro an;induction an with
        |nil=>intro P; simp
        |cons r an ck=>
         intro P;rw[List.foldl_cons,List.length_cons];have I:=ck (nc P r);have O:(nc P r).length≤P.length+1:=by
          unfold nc;split
          ·simp
          ·split
           ·omega
           ·rw[LN]; omega
         omega
       have:=key g.an [];unfold iK;simpa using this
      refine⟨⟨h.bZ.aw,h.bZ.rd,aHr _ _ (Hl ⟨by omega,by omega⟩),kE.ok,Y6 (Fit.new am) (fun x F=>by have:=(h.cF.p5 x F).2.2.1; omega),ape (fun x F=>(h.cF.p5 x F).2.2.1) (fun j he=>by cases he),fun id p aE=>(tR id p aE).2,Nat.le_trans sV h.cF.wS,by show ([]:List p8).length≤_; simp⟩,⟨h.cF.q,h.cF.p5,h.cF.nd,h.cF.ours,h.cF.vN,h.cF.yE,h.cF.wS,Nat.le_refl _,Nat.le_refl _⟩,.inl ⟨kE,rfl,rfl,rfl,fun id=>⟨fun p aE=>⟨p,aE,rfl,rfl,rfl⟩,fun aE=>aE⟩,fun s aG=>(by cases aG),fun id aG=>?_⟩⟩;show ∃ d,kp (g.an.take g.an.length) id=some d
      have:=aeQ h.cF.nd h.cF.vN g.an.length (Nat.le_refl _) id;rw[List.take_length] at this ⊢;exact this aG
     ·unfold zb;rw[Lp];exact kE.up
    ·rw[if_pos (by rw[uA]; omega)];exact⟨g,gone _ zJ,k8.refl g,.inl ⟨uA,zJ.off⟩⟩
   ·rw[if_pos (by rw[j1]; omega)];exact⟨g,gone _ zJ,k8.refl g,.inl ⟨j1,zJ.off⟩⟩
 ·rw[if_neg ag];exact⟨g,h,k8.refl g,.inr ⟨rfl,by simpa using ag⟩⟩
end
def k0(ay:List fb):gA:=fun id=>(ay[(Int.tmod id ay.length).toNat]?).bind fun g=>kp (g.an.take g.l) id
structure gX(Q:cV→Prop)(k:Nat)(o:bD)(ay:List fb):Prop where
 len:o.N.length=ay.length
 pos:0<ay.length∧ay.length≤8
 iN:o.eu.hE=ay.length
 nodes:∀ (i:Nat) b g,o.N[i]?=some b→ay[i]?=some g→eB o.eu.gD ay.length i k (k0 ay) Q b g
 B7:o.aZ.nodes=ay.length
 s_:o.aZ.m.length≤1000
 aZ:∀ x∈o.aZ.m,k9 (k0 ay) x.o∧(0≤x.fF∧x.fF<ay.length)∧(0≤x.fx∧x.fx<ay.length)
 told:∀ t∈o.told,k0 ay t.aC=some (t.oh,t.b5)∧o.known t.aC=true
 vu:(o.told.map fun t=>t.aC).Nodup
 xa:o.told.length≤50000*k
 now:0≤o.now∧o.now≤1099511627776
 width:0≤o.eu.jA∧o.eu.jA≤1000
 eD:ju o.eu.gD
 kC:jc o.eu.kX
theorem gX.ok{Q:cV→Prop}{k:Nat}{o:bD}{ay:List fb}(h:gX Q k o ay)(aq:k≤50000):kV o:=
 ⟨by rw[h.len]; exact h.pos,h.s_,fun x F=>(h.aZ x F).1.1,fun b a1=>by
  obtain⟨i,ax,rfl⟩:=List.getElem_of_mem a1
  exact (h.nodes i _ (ay[i]'(by rw[← h.len]; exact ax)) (List.getElem?_eq_getElem ax) (List.getElem?_eq_getElem (by rw[← h.len]; exact ax))).bZ.node aq,by have:=h.xa; omega,h.now,h.width,h.eD,h.kC⟩
theorem gX.cS{Q:cV→Prop}{k:Nat}{o:bD}{ay:List fb}(h:gX Q k o ay):∀ b∈o.N,IT b.K:=fun b a1=>by
 obtain⟨i,ax,rfl⟩:=List.getElem_of_mem a1;exact (h.nodes i _ (ay[i]'(by rw[← h.len]; exact ax)) (List.getElem?_eq_getElem ax) (List.getElem?_eq_getElem (by rw[← h.len]; exact ax))).cS
theorem gX.sN{Q:cV→Prop}{k:Nat}{o:bD}{ay:List fb}(h:gX Q k o ay){i:Nat}{b:bn}(a1:o.N[i]?=some b):∃ g,ay[i]?=some g∧eB o.eu.gD ay.length i k (k0 ay) Q b g:=by
 have ax:=(List.getElem?_eq_some_iff.1 a1).1;have R:ay[i]?=some (ay[i]'(by rw[← h.len]; exact ax)):=List.getElem?_eq_getElem (by rw[← h.len]; exact ax);exact⟨_,R,h.nodes i b _ a1 R⟩
theorem ajB{ay:List fb}{i:Nat}{g cI:fb}(R:ay[i]?=some g)(h:k8 g cI):gA.le (k0 ay) (k0 (ay.set i cI)):=by
 intro id d ag;unfold k0 at ag ⊢;rw[List.length_set];by_cases j:i=(Int.tmod id ay.length).toNat
 ·subst j;rw[R] at ag;have ax:=(List.getElem?_eq_some_iff.1 R).1;rw[List.getElem?_set_self ax];exact h id d ag
 ·rw[List.getElem?_set_ne j];exact ag
theorem gX.mono{Q:cV→Prop}{k fS:Nat}{o:bD}{ay:List fb}(h:gX Q k o ay)(aq:k≤fS):gX Q fS o ay:=
 ⟨h.len,h.pos,h.iN,fun i b g a l=>(h.nodes i b g a l).mono (gA.le_refl _) aq,h.B7,h.s_,h.aZ,h.told,h.vu,Nat.le_trans h.xa (Nat.mul_le_mul_left _ aq),h.now,h.width,h.eD,h.kC⟩
def kY(Q:cV→Prop)(k:Nat)(fX:bD)(o:bD)(ay:List fb):Prop:=∃ l3,gX Q k fX l3∧gA.le (k0 ay) (k0 l3)∧l3.length=ay.length∧fX.eu=o.eu∧(∃ m,fX.told=o.told++m)
theorem gX.kJ{Q:cV→Prop}{k:Nat}{o:bD}{ay:List fb}(h:gX Q k o ay){fS:Nat}(aq:k≤fS):kY Q fS o o ay:=⟨ay,h.mono aq,gA.le_refl _,rfl,rfl,[],(List.append_nil _).symm⟩
theorem XT{Q:cV→Prop}{k fS:Nat}{o:bD}{ay:List fb}(h:gX Q k o ay)(aq:k≤fS){i:Nat}{g cI:fb}{cL:bn}{vp:Post.dH}(R:ay[i]?=some g)(a1:eB o.eu.gD ay.length i fS (k0 ay) Q cL cI)(k3:k8 g cI)
  (aL:vp.nodes=o.aZ.nodes) (al:vp.m.length≤1000) (hm:∀ x∈vp.m,x∈o.aZ.m∨(k9 (k0 (ay.set i cI)) x.o∧(0≤x.fF∧x.fF<ay.length)∧(0≤x.fx∧x.fx<ay.length))):kY Q fS { kO o i cL with aZ:=vp } o ay:=by
 have k3:=ajB R k3;have ax:=(List.getElem?_eq_some_iff.1 R).1;have g3:(ay.set i cI).length=ay.length:=List.length_set ..;refine⟨ay.set i cI,⟨by show (o.N.set i cL).length=_; rw[List.length_set,g3]; exact h.len,by rw[g3]; exact h.pos,by rw[g3]; exact h.iN,?_,by rw[g3]; exact aL.trans h.B7,al,?_,fun t aS=>⟨k3 _ _ (h.told t aS).1,(h.told t aS).2⟩,h.vu,Nat.le_trans h.xa (Nat.mul_le_mul_left _ aq),h.now,h.width,h.eD,h.kC⟩,k3,g3,rfl,[],(List.append_nil _).symm⟩
 ·intro D eF eR rc ks;rw[g3];have rc:(o.N.set i cL)[D]?=some eF:=rc;by_cases j:i=D
  ·subst j;rw[List.getElem?_set_self (by rw[h.len]; exact ax)] at rc;rw[List.getElem?_set_self ax] at ks;cases rc; cases ks;exact a1.mono k3 (Nat.le_refl _)
  ·rw[List.getElem?_set_ne j] at rc ks;exact (h.nodes D eF eR rc ks).mono k3 aq
 ·intro x F;rw[g3];rcases hm x F with F | F
  ·obtain⟨a,l,c⟩:=h.aZ x F;exact⟨a.mono k3,l,c⟩
  ·exact F
theorem Gg{Q:cV→Prop}{k fS:Nat}{o:bD}{ay:List fb}(h:gX Q k o ay)(aq:k≤fS){i:Nat}{g:fb}{cL:bn}(R:ay[i]?=some g)(a1:mR o.eu.gD ay.length i fS (k0 ay) Q cL g):kY Q fS (kO o i cL) o ay:=by
 obtain⟨cI,I,O⟩:=a1;exact XT (vp:=o.aZ) h aq R I O rfl h.s_ fun x F=>.inl F
theorem Jh{Q:cV→Prop}{k:Nat}{o:bD}{ay:List fb}(h:gX Q k o ay){vp:Post.dH}(aL:vp.nodes=o.aZ.nodes)(al:vp.m.length≤1000)(hm:∀ x∈vp.m,∃ S∈o.aZ.m,x.o=S.o∧x.fF=S.fF∧x.fx=S.fx):gX Q k { o with aZ:=vp } ay:=
 ⟨h.len,h.pos,h.iN,h.nodes,aL.trans h.B7,al,fun x F=>by obtain⟨S,aB,aR,a9,df⟩:=hm x F; rw[aR,a9,df]; exact h.aZ S aB,h.told,h.vu,h.xa,h.now,h.width,h.eD,h.kC⟩
theorem Xt{o:bD}{i:Int}{b:bn}(ah:0≤i)(h:o.N[i.toNat]?=some b)(ag:b.K.down=false):fR o i=0:=by
 unfold fR;rw[if_neg (by omega),h];simp[ag]
theorem rR{o:bD}{i:Int}(h:fR o i=0):∃ b,0≤i∧o.N[i.toNat]?=some b∧b.K.down=false:=by
 unfold fR at h;split at h
 ·cases h
 ·rename_i b a1;split at a1
  ·cases a1
  ·rename_i ah;refine⟨b,by omega,a1,?_⟩;split at h
   ·cases h
   ·rename_i ag; simpa using ag
theorem Du{Q:cV→Prop}{k fS:Nat}{o:bD}{ay:List fb}(h:gX Q k o ay)(aq:k≤fS){i:Int}{f:bn→bn×Int}(am:∀ b g,0≤i→o.N[i.toNat]?=some b→ay[i.toNat]?=some g→b.K.down=false→eB o.eu.gD ay.length i.toNat k (k0 ay) Q b g→mR o.eu.gD ay.length i.toNat fS (k0 ay) Q (f b).1 g):kY Q fS (m5 o i f).1 o ay:=by
 by_cases Y:fR o i=0
 ·obtain⟨b,ah,a1,ag⟩:=rR Y;rw[pV ah a1 ag];obtain⟨g,R,a7⟩:=h.sN a1;exact Gg h aq R (am b g ah a1 R ag a7)
 ·rw[vt Y];exact h.kJ aq
theorem Ji{Q:cV→Prop}{k fS:Nat}{o:bD}{ay:List fb}(h:gX Q k o ay)(aq:k≤fS){i:Int}{f:bn→bn×Int}(am:∀ b g,eB o.eu.gD ay.length i.toNat k (k0 ay) Q b g→mR o.eu.gD ay.length i.toNat fS (k0 ay) Q (f b).1 g):kY Q fS (qK o i f).1 o ay:=by
 by_cases U:i<0∨(o.N.length:Int)≤i
 ·rw[CG U];exact h.kJ aq
 ·have a1:o.N[i.toNat]?=some (o.N[i.toNat]'(by omega)):=List.getElem?_eq_getElem (by omega);rw[zc (by omega) a1];obtain⟨g,R,a7⟩:=h.sN a1;exact Gg h aq R (am _ g a7)
theorem aGQ{aZ:Post.dH}{f t:Int}{y:hM}:(aZ.send f t y).1.nodes=aZ.nodes∧∀ x∈(aZ.send f t y).1.m,x∈aZ.m∨(x.o=y∧x.fF=f∧x.fx=t∧aZ.has f=true∧aZ.has t=true):=by
 unfold Post.dH.send;by_cases c:(!aZ.has f||!aZ.has t)=true
 ·rw[if_pos c]; exact⟨rfl,fun x F=>.inl F⟩
 ·rw[if_neg c];split
  ·exact⟨rfl,fun x F=>.inl F⟩
  ·unfold Post.dH.put;split
   ·exact⟨rfl,fun x F=>.inl F⟩
   ·refine⟨rfl,fun x F=>?_⟩;rcases List.mem_append.1 F with F | F
    ·exact .inl F
    ·rw[List.mem_singleton.1 F];have c:¬ (aZ.has f=false∨aZ.has t=false):=by simpa using c
     refine .inr ⟨rfl,rfl,rfl,?_,?_⟩
     ·cases j:aZ.has f; exact absurd (.inl j) c; rfl
     ·cases j:aZ.has t; exact absurd (.inr j) c; rfl
theorem aew{i:Int}:∀ {out:List p8} {aZ:Post.dH},(so aZ i out).nodes=aZ.nodes∧∀ x∈(so aZ i out).m,x∈aZ.m∨∃ s∈out,x.o=s.y∧x.fF=i∧x.fx=s.h5
 |[],aZ=>⟨rfl,fun x F=>.inl F⟩
 |s::out,aZ=>by
  have I:=aGQ (aZ:=aZ) (f:=i) (t:=s.h5) (y:=s.y);have O:=aew (i:=i) (out:=out) (aZ:=(aZ.send i s.h5 s.y).1);refine⟨O.1.trans I.1,fun x F=>?_⟩;rcases O.2 x F with F | ⟨fB,yn,j⟩
  ·rcases I.2 x F with F | ⟨aR,a9,df,_⟩
   ·exact .inl F
   ·exact .inr ⟨s,List.mem_cons_self ..,aR,a9,df⟩
  ·exact .inr ⟨fB,List.mem_cons_of_mem _ yn,j⟩
theorem alp{Q:cV→Prop}{k:Nat}{o:bD}{ay:List fb}(h:gX Q k o ay){i:Int}:kY Q k (qD o i).1 o ay:=by
 unfold qD;by_cases Y:fR o i=0
 ·rw[if_neg (fun j=>j Y)];obtain⟨b,ah,a1,ag⟩:=rR Y;rw[pV ah a1 ag,a1];obtain⟨g,R,a7⟩:=h.sN a1;obtain⟨cI,I,O,aJ⟩:=Q2 a7 ag;have m:=a7.live ag;have ax:=(List.getElem?_eq_some_iff.1 R).1;rcases aJ with ⟨j,_⟩ | ⟨j,_,Gw,Gp,_⟩
  ·rw[if_neg (by rw[j]; omega)];exact Gg h (Nat.le_refl _) R ⟨cI,I,O⟩
  ·rw[if_pos j];have aG:=aew (i:=i) (out:=b.out) (aZ:=o.aZ);refine XT (vp:=so o.aZ i b.out) h (Nat.le_refl _) R I O aG.1 (Sn h.s_) fun x F=>?_;rcases aG.2 x F with F | ⟨s,yn,aR,a9,df⟩
   ·exact .inl F
   ·obtain⟨a,l⟩:=m.outs s yn;rw[aR,a9,df];refine .inr ⟨a.mono fun id d ag=>?_,by omega,l⟩;unfold own at ag;split at ag
    ·rename_i U;unfold k0;rw[List.length_set,U,Int.toNat_natCast,List.getElem?_set_self ax];show kp (cI.an.take cI.l) id=some d
     rw[Gw,Gp,List.take_length];exact ag
    ·cases ag
 ·rw[if_pos Y];exact h.kJ (Nat.le_refl _)
theorem alh{Q:cV→Prop}{k:Nat}{o:bD}{ay:List fb}(h:gX Q k o ay)(ec:∀ b∈o.N,C6 Q b)(aq:k≤49000){i:Int}:kY Q (k+2) (pD o i).1 o ay:=by
 unfold pD;by_cases b7:(o.aZ.take i).2.2=0
 ·rw[if_neg (fun j=>j b7)];obtain⟨hm,D6⟩:=SD b7;have F:=h.aZ _ hm;have a7:gX Q k { o with aZ:=(o.aZ.take i).1 } ay:=Jh h (by rw[D6]) (by rw[D6]; have:=h.s_; show (o.aZ.m.eraseIdx _).length≤_; rw[List.length_eraseIdx]; split<;>omega) fun x F=>⟨x,by rw[D6] at F; exact List.mem_of_mem_eraseIdx F,rfl,rfl,rfl⟩
  have:=Du (i:=(o.aZ.take i).2.1.fx) a7 (Nat.le_add_right k 2) (f:=fun b=>(mY o.N.length b (o.aZ.take i).2.1.fF (o.aZ.take i).2.1.o,0)) fun b g ah a1 R ag aor=>by
   have:=aCM (ec b (List.mem_of_getElem? a1)) h.pos.1 aor ag aq F.1 F.2.1;rw[h.len];exact this
  exact this
 ·rw[if_pos b7];exact h.kJ (by omega)
theorem ale{Q:cV→Prop}{k:Nat}{o:bD}{ay:List fb}(h:gX Q k o ay){i:Int}:kY Q k (xL o i).1 o ay:=by
 unfold xL;by_cases c:(o.aZ.at_ i).2≠0
 ·rw[if_pos c]; exact h.kJ (Nat.le_refl _)
 ·rw[if_neg c];have c:=Classical.not_not.1 c;have bL:=o.aZ.I9 c;have F:o.aZ.m[i.toNat]?=some (o.aZ.m[i.toNat]'(by omega)):=List.getElem?_eq_getElem (by omega);rw[o.aZ.I8 bL.1 F];refine (Jh h ?_ (acK h.s_) fun x F=>?_).kJ (Nat.le_refl _) |> fun ⟨l3,a,l,c,d,j⟩=>⟨l3,a,l,c,d,j⟩
  ·unfold Post.dH.put; split<;>rfl
  ·unfold Post.dH.put at F;split at F
   ·exact⟨x,F,rfl,rfl,rfl⟩
   ·rcases List.mem_append.1 F with F | F
    ·exact⟨x,F,rfl,rfl,rfl⟩
    ·rw[List.mem_singleton.1 F]; exact⟨_,List.getElem_mem _,rfl,rfl,rfl⟩
theorem ali{Q:cV→Prop}{k:Nat}{o:bD}{ay:List fb}(h:gX Q k o ay){i:Int}:kY Q k (B0 o i).1 o ay:=by
 unfold B0;refine (Jh h ?_ ?_ fun x F=>?_).kJ (Nat.le_refl _) |> fun ⟨l3,a,l,c,d,j⟩=>⟨l3,a,l,c,d,j⟩
 ·split<;>rfl
 ·have:=h.s_;split
  ·show (o.aZ.m.eraseIdx _).length≤_; rw[List.length_eraseIdx]; split<;>omega
  ·exact this
 ·refine⟨x,?_,rfl,rfl,rfl⟩;split at F
  ·exact List.mem_of_mem_eraseIdx F
  ·exact F
theorem alg{Q:cV→Prop}{k:Nat}{o:bD}{ay:List fb}(h:gX Q k o ay){i:Int}{q:Bool}:kY Q k (nT o i q).1 o ay:=by
 unfold nT;split
 ·exact h.kJ (Nat.le_refl _)
 ·refine (Jh h ?_ ?_ fun x F=>?_).kJ (Nat.le_refl _) |> fun ⟨l3,a,l,c,d,j⟩=>⟨l3,a,l,c,d,j⟩
  ·split<;>rfl
  ·have:=h.s_; split<;>exact this
  ·refine⟨x,?_,rfl,rfl,rfl⟩;split at F<;>exact F
abbrev kU:=gX fun _=>True
abbrev zq:=kY fun _=>True
section
variable {Q:cV→Prop} {k:Nat} {o:bD} {ay:List fb}
theorem alm(h:gX Q k o ay)(aq:k≤49000){a y:Int}(hm:-9223372036854775808≤y∧y≤9223372036854775807):kY Q (k+2) (vv o a y).1 o ay:=by
 unfold vv;split
 ·exact h.kJ (by omega)
 ·rename_i c;exact Du h (by omega) fun b g ah a1 R ag a7=>(aCT a7 ag aq (by omega) hm).mono (by omega)
theorem alj(h:gX Q k o ay)(ec:∀ r:cV,r.k≠2→Q r)(aq:k≤49000){x:oo}:kY Q (k+2) (pT o x).1 o ay:=by
 unfold pT;split
 ·exact h.kJ (by omega)
 ·rename_i c;refine Du h (by omega) fun b g ah a1 R ag a7=>?_;rw[h.len] at a7 ah ⊢;exact (aCQ ec h.pos.1 a7 ag aq (Classical.not_not.1 c) (by omega)).mono (by omega)
theorem ala(h:gX Q k o ay)(ec:∀ r:cV,r.k≠2→Q r)(aq:k≤49000){id:Int}:kY Q (k+2) (xD o id).1 o ay:=by
 unfold xD;split
 ·exact h.kJ (by omega)
 ·refine Du h (by omega) fun b g ah a1 R ag a7=>?_;rw[h.len] at a7 ah ⊢;exact (aCI ec h.pos.1 a7 ag aq).mono (by omega)
theorem alk(h:gX Q k o ay)(aq:k≤49000){i:Int}:kY Q (k+2) (ue o i).1 o ay:=by
 unfold ue;refine Du h (by omega) fun b g ah a1 R ag a7=>?_;rw[h.len];exact ((aCS h.pos.1 a7 ag aq).k4).mono (by omega)
theorem alo(h:gX Q k o ay)(aq:k≤49000){i t:Int}(aS:-9223372036854775808≤t∧t≤9223372036854775807):kY Q (k+2) (EF o i t).1 o ay:=
 Du h (by omega) fun b g ah a1 R ag a7=>(aCV a7 ag aq aS).mono (by omega)
theorem ald(h:gX Q k o ay)(aq:k≤49000){i:Int}:kY Q (k+2) (mC o i).1 o ay:=by
 unfold mC;by_cases Y:fR o i=0
 ·rw[if_neg (fun j=>j Y)];obtain⟨b,ah,a1,ag⟩:=rR Y;rw[a1];obtain⟨g,R,a7⟩:=h.sN a1;exact Gg h (by omega) R ((aCL a7 ag aq).mono (by omega))
 ·rw[if_pos Y];exact h.kJ (by omega)
theorem alc(h:gX Q k o ay){i off:Int}:kY Q k (EN o i off).1 o ay:=
 Ji h (Nat.le_refl _) fun b g a7=>(aCW a7).k4
theorem alb(h:gX Q k o ay){i a:Int}{bG:List Int}:kY Q k (pB o i a bG).1 o ay:=
 Ji h (Nat.le_refl _) fun b g a7=>(aCK a7).k4
theorem alf(h:gX Q k o ay){i:Int}{bG:List Int}:kY Q k (wo o i bG).1 o ay:=
 Ji h (Nat.le_refl _) fun b g a7=>aCN a7
theorem alr(h:gX Q k o ay){i:Int}:kY Q k (nM o i).1 o ay:=
 Ji h (Nat.le_refl _) fun b g a7=>by
  obtain⟨cI,a,l,_⟩:=Q3 h.eD a7;exact⟨cI,a,l⟩
theorem aln(h:gX Q k o ay){d:Int}{xs:List Int}:kY Q (k+2) (w1 o d xs).1 o ay:=by
 unfold w1;split
 ·exact h.kJ (by omega)
 ·rename_i c;have aL:=h.now;have hm:=Gz (n:=d) (by omega) (by omega) (Pf h.kC).2;refine⟨ay,⟨(List.length_mapIdx ..).trans h.len,h.pos,h.iN,fun i b g a1 R=>?_,h.B7,h.s_,h.aZ,h.told,h.vu,Nat.le_trans h.xa (Nat.mul_le_mul_left _ (by omega)),⟨by show 0≤o.now+d; omega,by show o.now+d≤_; omega⟩,h.width,h.eD,h.kC⟩,gA.le_refl _,rfl,rfl,[],(List.append_nil _).symm⟩;have a1:(o.N.mapIdx (vw d (j8 d (nW o.eu.kX)) xs))[i]?=some b:=a1;rw[List.getElem?_mapIdx] at a1;cases kE:o.N[i]? with
  |none=>rw[kE] at a1; cases a1
  |some FX=>
   rw[kE] at a1;cases a1;exact (aCU (h.nodes i FX g kE R) (by omega) hm).mono (gA.le_refl _) (by omega)
structure tC(ay:List fb)(o:bD)(s:km):Prop where
 aw:iY s.aw
 told:∀ t∈s.told,k0 ay t.aC=some (t.oh,t.b5)∧s.known t.aC=true
 vu:(s.told.map fun t=>t.aC).Nodup
 more:∃ m,s.told=o.told++m
theorem tC.hB{s:km}{id:Int}{p:bN}(h:tC ay o s)(aq:s.known id=false)(aG:k0 ay id=some (p.b4,p.at_)):tC ay o (s.hB id p):=by
 refine⟨h.aw,fun t aS=>?_,?_,?_⟩
 ·rcases List.mem_append.1 aS with aS | aS
  ·have:=h.told t aS;exact⟨this.1,by show (t.aC==id||s.known t.aC)=true; rw[this.2]; simp⟩
  ·rw[List.mem_singleton.1 aS];exact⟨aG,by show (id==id||s.known id)=true; simp⟩
 ·show ((s.told++[(⟨id,p.b4,p.at_⟩:Told)]).map fun t=>t.aC).Nodup
  rw[List.map_append,List.nodup_append];refine⟨h.vu,by simp,fun a Y l ao=>?_⟩;obtain⟨t,aS,rfl⟩:=List.mem_map.1 Y;have ao:l=id:=by simpa using ao
  subst ao;intro j;have:=(h.told t aS).2;rw[j,aq] at this;cases this
 ·obtain⟨m,al⟩:=h.more;exact⟨m++[⟨id,p.b4,p.at_⟩],by show s.told++_=_; rw[al,List.append_assoc]⟩
theorem aGM{f n k:Nat}{i:Nat}{W:gA}{Q:cV→Prop}{b:bn}{g:fb}(wx:ay.length=n)(R:ay[i]?=some g)(a7:eB f n i k W Q b g)(ag:b.K.down=false){id:Int}{p:bN}(al:b.P.lookup id=some p)(aG:b.sure id=true):k0 ay id=some (p.b4,p.at_):=by
 have m:=a7.live ag;obtain⟨q,a8,he,ik,U,_⟩:=m.pl a7.cF al;obtain⟨d,wz⟩:=m.sure id aG;have I:=Jm a7.cF.nd wz;unfold k0;rw[wx,U,Int.toNat_natCast,R];show kp (g.an.take g.l) id=_
 rw[wz];unfold kp at I;rw[a8] at I;have I:lj q=some d:=I;unfold lj at I;split at I
 ·cases I
 ·cases I;rw[he.2.1,he.2.2]
theorem tC.step{f n k:Nat}{i:Nat}{W:gA}{Q:cV→Prop}{b:bn}{g:fb}{s:km}{id:Int}(h:tC ay o s)(wx:ay.length=n)(R:ay[i]?=some g)(a7:eB f n i k W Q b g)(ag:b.K.down=false):tC ay o (rD b s id):=by
 unfold rD;cases al:b.P.lookup id with
 |none=>exact h
 |some p=>
  unfold oL;simp only;split
  ·exact h
  ·rename_i c;have aq:s.known id=false:=by
    cases j:s.known id
    ·rfl
    ·rw[j] at c; simp at c
   have aG:b.sure id=true:=by
    cases j:b.sure id
    ·rw[j] at c; simp at c
    ·rfl
   have aab:=aGM wx R a7 ag al aG;have O:tC ay o { s with aw:=(e6 s.aw b.cG).1 }:=⟨(h.aw.now _).1,h.told,h.vu,h.more⟩
   split
   ·split
    ·exact O
    ·exact O.hB aq aab
   ·exact h.hB aq aab
theorem tC.all{f n k:Nat}{i:Nat}{W:gA}{Q:cV→Prop}{b:bn}{g:fb}(wx:ay.length=n)(R:ay[i]?=some g)(a7:eB f n i k W Q b g)(ag:b.K.down=false):∀ (ids:List Int) (s:km),tC ay o s→tC ay o (lr b s ids)
 |[],s,h=>h
 |id::ids,s,h=>tC.all wx R a7 ag ids (rD b s id) (h.step wx R a7 ag)
theorem alq(h:gX Q k o ay)(aq:k≤49000){i:Int}:kY Q (k+2) (tj o i).1 o ay:=by
 unfold tj;by_cases Y:fR o i=0
 ·rw[if_neg (fun j=>j Y)];obtain⟨b,ah,a1,ag⟩:=rR Y;rw[a1];obtain⟨g,R,a7⟩:=h.sN a1;have t:=tC.all (o:=o) rfl R a7 ag (eW b.P) ⟨b.aw,o.known,o.told⟩ ⟨a7.bZ.aw,h.told,h.vu,[],(List.append_nil _).symm⟩;have g3:=(SG (b:=b) (eW b.P) ⟨b.aw,o.known,o.told⟩ a7.bZ.aw).2;have s0:(eW b.P).length=b.P.length:=by unfold eW; rw[(oa _).length_eq,List.length_map]
  have sV:=a7.bZ.lJ;have yo:=h.xa;simp only at g3;show kY Q (k+2) (SF o i.toNat b (lr b ⟨b.aw,o.known,o.told⟩ (eW b.P))) o ay
  generalize lr b ⟨b.aw,o.known,o.told⟩ (eW b.P)=s at t g3;obtain⟨l3,a,l,c,d,j⟩:=Gg (fS:=k+2) h (by omega) R (((wW a7 t.aw a7.bZ.src).k4).mono (by omega));exact⟨l3,⟨a.len,a.pos,a.iN,a.nodes,a.B7,a.s_,a.aZ,fun x F=>⟨l _ _ (t.told x F).1,(t.told x F).2⟩,t.vu,by show s.told.length≤_; omega,a.now,a.width,a.eD,a.kC⟩,l,c,d,t.more⟩
 ·rw[if_pos Y];exact h.kJ (by omega)
end
theorem aCR{c:rI}(ok:p6 c){n i:Nat}{W:gA}{Q:cV→Prop}:eB c.gD n i 0 W Q (yJ c) ⟨[],0,[],0⟩:=by
 have kE:Live nm [] 0 [] 0:=⟨Mc,rfl,rfl,Nat.le_refl _,Nat.le_refl _,fun x F=>(by cases F),fun x F=>(by cases F)⟩
 refine⟨⟨(XU ok.kC).set 0 1000 c.jA,(by show -(4194304*((0:Nat):Int))≤0∧(0:Int)≤_; omega),Hl ⟨by omega,by omega⟩,Mc,Fit.new ok.eD,fun j he=>(by cases he),fun id p aE=>(by cases aE),Nat.le_refl _,Nat.le_refl _⟩,⟨fun r ab=>(by cases ab),fun x F=>(by cases F),fun i r ab=>(by simp at ab),fun r ab=>(by cases ab),fun r ab=>(by cases ab),Nat.le_refl _,Nat.le_refl _,Nat.le_refl _,Nat.le_refl _⟩,.inl ⟨kE,rfl,rfl,rfl,fun id=>⟨fun p aE=>(by cases aE),fun _=>rfl⟩,fun s aG=>(by cases aG),fun id aG=>(by cases aG)⟩⟩
theorem Dt{Q:cV→Prop}{c:rI}(ok:p6 c):gX Q 0 (lR c) (List.replicate c.hE.toNat ⟨[],0,[],0⟩):=by
 have aL:=ok.n;refine⟨(by show (List.replicate c.hE.toNat (yJ c)).length=_; simp),(by rw[List.length_replicate]; omega),(by rw[List.length_replicate]; show c.hE=_; omega),fun i b g a1 R=>?_,?_,(by show ([]:List Nat).length≤_; simp),fun x F=>(by cases F),fun t aS=>(by cases aS),(by show ([]:List Int).Nodup; simp),(by show ([]:List Told).length≤_; simp),⟨(by show (0:Int)≤1000; omega),(by show (1000:Int)≤_; omega)⟩,ok.width,ok.eD,ok.kC⟩
 ·have a1:=(List.mem_replicate.1 (List.mem_of_getElem? a1)).2;have R:=(List.mem_replicate.1 (List.mem_of_getElem? R)).2;subst a1; subst R;exact aCR ok
 ·rw[List.length_replicate];show c.hE=_
  omega
abbrev qN:=oj
abbrev k1:=hO
structure aM where
 x:qN
 N:List Int
 aa:List Int
def o4(a:aM):aM:=⟨a.x,a.N.take 10,a.aa.take 4⟩
def gn(o:bD)(a:aM):bD×Int:=
 if a.x.Kind=0 then w1 o a.x.b a.N
 else if a.x.Kind=1 then vv o a.x.aO a.x.b
 else if a.x.Kind=2 then pT o a.x.cf
 else if a.x.Kind=3 then qD o a.x.aO
 else if a.x.Kind=4 then pD o a.x.aO
 else if a.x.Kind=5 then xL o a.x.aO
 else if a.x.Kind=6 then B0 o a.x.aO
 else if a.x.Kind=7 then nT o a.x.aO (bits .and .i64 a.x.aT 1==1)
 else if a.x.Kind=8 then pB o a.x.aO a.x.aT a.aa
 else if a.x.Kind=9 then wo o a.x.aO a.aa
 else if a.x.Kind=10 then ((nM o a.x.aO).1,max (nM o a.x.aO).2 0)
 else if a.x.Kind=11 then ue o a.x.aO
 else if a.x.Kind=12 then tj o a.x.aO
 else if a.x.Kind=13 then ((mC o a.x.aO).1,(mC o a.x.aO).2.2)
 else if a.x.Kind=14 then EF o a.x.aO a.x.b
 else if a.x.Kind=15 then EN o a.x.aO a.x.b
 else if a.x.Kind=16 then xD o a.x.aO
 else (o,0)
structure tp(x:qN):Prop where
 n:-9223372036854775808≤x.b∧x.b≤9223372036854775807
theorem XS{Q:cV→Prop}{k:Nat}{o:bD}{ay:List fb}(h:gX Q k o ay)(ec:∀ b∈o.N,C6 Q b)(aq:k≤49000){a:aM}(ok:tp a.x):kY Q (k+2) (gn o a).1 o ay:=by
 have Zx:∀ r:cV,r.k≠2→Q r:=(ec (o.N[0]'(by have:=h.len; have:=h.pos; omega)) (List.getElem_mem _)).one;have up:∀ {fX},kY Q k fX o ay→kY Q (k+2) fX o ay:=fun ⟨l3,a,l,c⟩=>⟨l3,a.mono (by omega),l,c⟩
 unfold gn;by_cases c:a.x.Kind=0
 ·rw[if_pos c]; exact aln h
 rw[if_neg c]; clear c;by_cases c:a.x.Kind=1
 ·rw[if_pos c]; exact alm h aq ok.n
 rw[if_neg c]; clear c;by_cases c:a.x.Kind=2
 ·rw[if_pos c]; exact alj h Zx aq
 rw[if_neg c]; clear c;by_cases c:a.x.Kind=3
 ·rw[if_pos c]; exact up (alp h)
 rw[if_neg c]; clear c;by_cases c:a.x.Kind=4
 ·rw[if_pos c]; exact alh h ec aq
 rw[if_neg c]; clear c;by_cases c:a.x.Kind=5
 ·rw[if_pos c]; exact up (ale h)
 rw[if_neg c]; clear c;by_cases c:a.x.Kind=6
 ·rw[if_pos c]; exact up (ali h)
 rw[if_neg c]; clear c;by_cases c:a.x.Kind=7
 ·rw[if_pos c]; exact up (alg h)
 rw[if_neg c]; clear c;by_cases c:a.x.Kind=8
 ·rw[if_pos c]; exact up (alb h)
 rw[if_neg c]; clear c;by_cases c:a.x.Kind=9
 ·rw[if_pos c]; exact up (alf h)
 rw[if_neg c]; clear c;by_cases c:a.x.Kind=10
 ·rw[if_pos c]; exact up (alr h)
 rw[if_neg c]; clear c;by_cases c:a.x.Kind=11
 ·rw[if_pos c]; exact alk h aq
 rw[if_neg c]; clear c;by_cases c:a.x.Kind=12
 ·rw[if_pos c]; exact alq h aq
 rw[if_neg c]; clear c;by_cases c:a.x.Kind=13
 ·rw[if_pos c]; exact ald h aq
 rw[if_neg c]; clear c;by_cases c:a.x.Kind=14
 ·rw[if_pos c]; exact alo h aq ok.n
 rw[if_neg c]; clear c;by_cases c:a.x.Kind=15
 ·rw[if_pos c]; exact up (alc h)
 rw[if_neg c]; clear c;by_cases c:a.x.Kind=16
 ·rw[if_pos c]; exact ala h Zx aq
 rw[if_neg c];exact h.kJ (by omega)
theorem aFf(b:bn):C6 (fun _=>True) b:=⟨fun _ _=>trivial,fun _ _ _=>trivial⟩
theorem Od{k:Nat}{o:bD}{ay:List fb}(h:kU k o ay)(aq:k≤49000){a:aM}(ok:tp a.x):zq (k+2) (gn o a).1 o ay:=XS h (fun b _=>aFf b) aq ok
section
variable {A w:World} {m bT:List bC}
theorem OM{x:qN}{N aa:List Int}(kE:x.N.len≤x.N.cap)(ca:x.gC.len≤x.gC.cap)(dn:b6 m (c3 (B .i64) x.N N))(dY:b6 m (c3 (B .i64) x.gC aa))(H:E A m w) :
  M Pg 13 [k1.enc x] k1 w fun r J=>∃ s1 s2,r={ x with N:=s1,gC:=s2 }∧E A (ro (B .i64) s1 (N.take 10)::ro (B .i64) s2 (aa.take 4)::m) J:=by
 have aR:=dn.len H;have a9:=dY.len H;refine agz ?_;unfold TV;refine bP H fun eb dF H=>?_;refine bP H fun iD cB H=>?_;refine aj (x:=x.N) 1 H rfl rfl rfl ?_;have bR:∀ (s1:af) (w:World),E A (aH eb (k1.cells { x with N:=s1 }) 35::aH iD (k1.cells Ba) 35::ro (B .i64) s1 (N.take 10)::m) w →
   Fg ⟨eb,0,none⟩ ⟨iD,0,none⟩ w fun r J=>∃ s1 s2,r={ x with N:=s1,gC:=s2 }∧E A (ro (B .i64) s1 (N.take 10)::ro (B .i64) s2 (aa.take 4)::m) J:=by
  intro s1 w H;have vb:∀ (s2:af) (w:World),E A (aH eb (k1.cells { x with N:=s1,gC:=s2 }) 35::aH iD (k1.cells Ba) 35::ro (B .i64) s1 (N.take 10)::ro (B .i64) s2 (aa.take 4)::m) w →
    Fh ⟨eb,0,none⟩ ⟨iD,0,none⟩ w fun r J=>∃ s1 s2,r={ x with N:=s1,gC:=s2 }∧E A (ro (B .i64) s1 (N.take 10)::ro (B .i64) s2 (aa.take 4)::m) J:=by
   intro s2 w H;unfold Fh;refine eh (x:=({ x with N:=s1,gC:=s2 }:qN)) 0 H rfl ?_;refine c5 (x:=Ba) (S:=({ x with N:=s1,gC:=s2 }:qN)) QJ 1 H rfl fun bm H=>?_;refine eh (x:=({ x with N:=s1,gC:=s2 }:qN)) 0 H rfl ?_;exact⟨s1,s2,rfl,H.drop.drop⟩
  unfold Fg;refine aj (x:=x.gC) 0 H rfl rfl rfl ?_;rw[a9];split
  ·rename_i U;have U:4<aa.length:=by simp at U; omega
   refine aj (x:=x.gC) 0 H rfl rfl rfl ?_;refine ob (by omega) (by omega) (by omega) (by omega) fun s2 aG=>?_;have gM:=dY.sub (fun _=>rfl) aG (by omega);simp only[show ((4:Int)).toNat=4 from rfl,show ((0:Int)).toNat=0 from rfl,List.drop_zero] at gM;refine dD (x:=s2) 0 H rfl rfl (Nat.le_of_ble_eq_true rfl) fun bm H=>?_;have H:=E.ro gM.tail.tail.tail H;exact vb s2 _ (H.ord [1,2,3,0])
  ·rename_i U;have U:aa.length≤4:=by simp at U; omega
   have j:aa.take 4=aa:=List.take_of_length_le U;have H:=E.ro dY.tail.tail.tail H;rw[← j] at H;exact vb x.gC _ (H.ord [1,2,3,0])
 rw[aR];split
 ·rename_i U;have U:10<N.length:=by simp at U; omega
  refine aj (x:=x.N) 1 H rfl rfl rfl ?_;refine ob (by omega) (by omega) (by omega) (by omega) fun s1 aG=>?_;have gM:=dn.sub (fun _=>rfl) aG (by omega);simp only[show ((10:Int)).toNat=10 from rfl,show ((0:Int)).toNat=0 from rfl,List.drop_zero] at gM;refine dD (x:=s1) 1 H rfl rfl (Nat.le_of_ble_eq_true rfl) fun bm H=>?_;have H:=E.ro gM.tail.tail H;exact bR s1 _ (H.ord [1,2,0])
 ·rename_i U;have U:N.length≤10:=by simp at U; omega
  have j:N.take 10=N:=List.take_of_length_le U;have H:=E.ro dn.tail.tail H;rw[← j] at H;exact bR x.N _ (H.ord [2,1,0])
theorem Jp{au:Nat}{o:bD}{x:qN}{N aa:List Int}(k:kV o)(PA:∀ b∈o.N,IT b.K)(ok:tp x)(dn:di 1 m (B .i64) x.N N)(dY:di 1 m (B .i64) x.gC aa)(kE:N.length≤1000)(ca:aa.length≤1000)(H:E A (ch au o::m) w) :
  M Pg 14 [.pointer (some ⟨au,0,none⟩),k1.enc x] (B .i64) w fun r J=>r=(gn o ⟨x,N,aa⟩).2∧E A (ch au (gn o ⟨x,N,aa⟩).1::m) J:=by
 refine agJ ?_;unfold T5 gn;simp only;refine bP H fun l w H=>?_;have gF:di 1 (aH l (k1.cells x) 35::m) (B .i64) x.N N:=dn.tail;have gd:di 1 (aH l (k1.cells x) 35::m) (B .i64) x.gC aa:=dY.tail;have fin:∀ {r:Int} {w:World} {z:bD×Int},(r=z.2∧E A (ch au z.1::aH l (k1.cells x) 35::m) w)→r=z.2∧E A (ch au z.1::m) w:=fun h=>⟨h.1,(h.2.front 1).drop⟩
 refine aj (x:=x.Kind) 0 H rfl rfl rfl ?_;by_cases c:x.Kind=0
 ·rw[if_pos (by simpa using c),if_pos c];refine aj (x:=x.b) 0 H rfl rfl rfl ?_;refine aj (x:=x.N) 0 H rfl rfl rfl ?_;exact ap (acs k gF (by omega) (H.front 1)) fun r w h=>fin h
 rw[if_neg (by simpa using c),if_neg c]; clear c;by_cases c:x.Kind=1
 ·rw[if_pos (by simpa using c),if_pos c];refine aj (x:=x.aO) 0 H rfl rfl rfl ?_;refine aj (x:=x.b) 0 H rfl rfl rfl ?_;exact ap (Rl k ok.n (H.front 1)) fun r w h=>fin h
 rw[if_neg (by simpa using c),if_neg c]; clear c;by_cases c:x.Kind=2
 ·rw[if_pos (by simpa using c),if_pos c];refine aj (x:=x.cf) 0 H rfl rfl rfl ?_;exact ap (abF k (H.front 1)) fun r w h=>fin h
 rw[if_neg (by simpa using c),if_neg c]; clear c;by_cases c:x.Kind=3
 ·rw[if_pos (by simpa using c),if_pos c];refine aj (x:=x.aO) 0 H rfl rfl rfl ?_;exact ap (Sy k (H.front 1)) fun r w h=>fin h
 rw[if_neg (by simpa using c),if_neg c]; clear c;by_cases c:x.Kind=4
 ·rw[if_pos (by simpa using c),if_pos c];refine aj (x:=x.aO) 0 H rfl rfl rfl ?_;exact ap (Ok k (H.front 1)) fun r w h=>fin h
 rw[if_neg (by simpa using c),if_neg c]; clear c;by_cases c:x.Kind=5
 ·rw[if_pos (by simpa using c),if_pos c];refine aj (x:=x.aO) 0 H rfl rfl rfl ?_;exact ap (alT k (H.front 1)) fun r w h=>fin h
 rw[if_neg (by simpa using c),if_neg c]; clear c;by_cases c:x.Kind=6
 ·rw[if_pos (by simpa using c),if_pos c];refine aj (x:=x.aO) 0 H rfl rfl rfl ?_;exact ap (aCe k (H.front 1)) fun r w h=>fin h
 rw[if_neg (by simpa using c),if_neg c]; clear c;by_cases c:x.Kind=7
 ·rw[if_pos (by simpa using c),if_pos c];refine aj (x:=x.aO) 0 H rfl rfl rfl ?_;refine aj (x:=x.aT) 0 H rfl rfl rfl ?_;exact ap (X0 k (H.front 1)) fun r w h=>fin h
 rw[if_neg (by simpa using c),if_neg c]; clear c;by_cases c:x.Kind=8
 ·rw[if_pos (by simpa using c),if_pos c];refine aj (x:=x.aO) 0 H rfl rfl rfl ?_;refine aj (x:=x.aT) 0 H rfl rfl rfl ?_;refine aj (x:=x.gC) 0 H rfl rfl rfl ?_;exact ap (Xr k gd (by omega) (H.front 1)) fun r w h=>fin h
 rw[if_neg (by simpa using c),if_neg c]; clear c;by_cases c:x.Kind=9
 ·rw[if_pos (by simpa using c),if_pos c];refine aj (x:=x.aO) 0 H rfl rfl rfl ?_;refine aj (x:=x.gC) 0 H rfl rfl rfl ?_;exact ap (alV k gd (H.front 1)) fun r w h=>fin h
 rw[if_neg (by simpa using c),if_neg c]; clear c;by_cases c:x.Kind=10
 ·rw[if_pos (by simpa using c),if_pos c];refine aj (x:=x.aO) 0 H rfl rfl rfl ?_;exact ap (afh k PA (H.front 1)) fun r w h=>fin (z:=((nM o x.aO).1,max (nM o x.aO).2 0)) h
 rw[if_neg (by simpa using c),if_neg c]; clear c;by_cases c:x.Kind=11
 ·rw[if_pos (by simpa using c),if_pos c];refine aj (x:=x.aO) 0 H rfl rfl rfl ?_;exact ap (abO k (H.front 1)) fun r w h=>fin h
 rw[if_neg (by simpa using c),if_neg c]; clear c;by_cases c:x.Kind=12
 ·rw[if_pos (by simpa using c),if_pos c];refine aj (x:=x.aO) 0 H rfl rfl rfl ?_;exact ap (ae1 k (H.front 1)) fun r w h=>fin h
 rw[if_neg (by simpa using c),if_neg c]; clear c;by_cases c:x.Kind=13
 ·rw[if_pos (by simpa using c),if_pos c];refine aj (x:=x.aO) 0 H rfl rfl rfl ?_;exact ap (XW k (H.front 1)) fun r w h=>fin (z:=((mC o x.aO).1,(mC o x.aO).2.2)) ⟨congrArg Prod.snd h.1,h.2⟩
 rw[if_neg (by simpa using c),if_neg c]; clear c;by_cases c:x.Kind=14
 ·rw[if_pos (by simpa using c),if_pos c];refine aj (x:=x.aO) 0 H rfl rfl rfl ?_;refine aj (x:=x.b) 0 H rfl rfl rfl ?_;exact ap (aEM k ok.n (H.front 1)) fun r w h=>fin h
 rw[if_neg (by simpa using c),if_neg c]; clear c;by_cases c:x.Kind=15
 ·rw[if_pos (by simpa using c),if_pos c];refine aj (x:=x.aO) 0 H rfl rfl rfl ?_;refine aj (x:=x.b) 0 H rfl rfl rfl ?_;exact ap (aGV k (H.front 1)) fun r w h=>fin h
 rw[if_neg (by simpa using c),if_neg c]; clear c;by_cases c:x.Kind=16
 ·rw[if_pos (by simpa using c),if_pos c];refine aj (x:=x.aO) 0 H rfl rfl rfl ?_;exact ap (ajU k (H.front 1)) fun r w h=>fin h
 rw[if_neg (by simpa using c),if_neg c];exact⟨rfl,H.drop⟩
end
def Calm(K:cR):Prop:=K.ef=0∧K.down=false
theorem Je{K:cR}{n s:Int}{f:dW→dW}(h:Calm K):Calm (j6 K n s f).1:=by
 unfold j6;split
 ·exact h
 ·split
  ·exact h
  ·split
   ·exact h
   ·split
    ·rename_i j; rw[h.1] at j; cases j
    ·exact⟨by show (if 1<K.ef then _ else K.ef)=0; rw[if_neg (by rw[h.1]; omega)]; exact h.1,h.2⟩
theorem Jf{K:cR}{V:nr}{x:List UInt8}(h:Calm K):Calm (gm K V x).1:=by
 unfold gm ot;split
 ·exact h
 ·split
  ·exact h
  ·exact Je h
theorem XQ{K:cR}{V:nr}(h:Calm K):Calm (gu K V).1:=by
 unfold gu oJ;split
 ·exact h
 ·exact Je h
theorem XP{K:cR}{n:Int}{g:dW}(h:Calm K):Calm (dh K n g).1:=by
 unfold dh Av oJ;split
 ·exact Je h
 ·split
  ·exact Je h
  ·exact h
theorem XO{K:cR}{W:qU}{x:dO}(h:Calm K):Calm (fP K W x).1:=by
 unfold fP;split
 ·split
  ·exact Jf h
  ·exact Jf h
 ·exact h
theorem XN{n:Nat}{b:bn}{id k t:Int}{p:bN}(h:Calm b.K):Calm (nU n b id p k t).1.K:=by
 unfold nU;simp only;split
 ·exact Jf h
 ·exact Jf h
theorem akU{n:Nat}{b:bn}{from_:Int}{y:hM}(h:Calm b.K):Calm (mY n b from_ y).K:=by
 unfold mY;split
 ·unfold rk yk vd nK
  repeat' split
  all_goals first
   |exact h
   |exact XO h
 ·split
  ·unfold vS;split
   ·exact h
   ·unfold y9;split
    ·exact h
    ·split
     ·exact h
     ·unfold vR;split
      ·exact XN h
      ·split
       ·unfold y_;split
        ·exact XN h
        ·exact h
       ·exact h
  ·split
   ·unfold tM ih nK
    repeat' split
    all_goals first
     |exact h
     |exact XO h
   ·split
    ·unfold xF;split
     ·exact h
     ·exact h
    ·exact h
theorem akV{b:bn}(h:Calm b.K):Calm (nh b).1.K:=by
 have I:Calm (gu b.K b.W.V).1:=XQ h;have j:nh b=vH b (gu b.K b.W.V):=rfl;rw[j];generalize gu b.K b.W.V=z at I;unfold vH;split
 ·exact I
 ·have O:Calm (gu z.1 b.A).1:=XQ I;generalize gu z.1 b.A=S at O;unfold y3;split
  ·exact O
  ·exact O
theorem akW{f:Nat}{b:bn}(h:b.K.ef=0):Calm (oM f b).1.K:=by
 unfold oM;split
 ·have I:Calm (dh (h6 b.K) 0 (ub b.K 0)).1:=XP ⟨h,rfl⟩;generalize dh (h6 b.K) 0 (ub b.K 0)=z at I;unfold y6;split
  ·exact I
  ·have O:Calm (dh z.1 1 (ub b.K 1)).1:=XP I;generalize dh z.1 1 (ub b.K 1)=S at O;unfold y7;split
   ·exact O
   ·unfold zb;rw[Lp];exact O
 ·rename_i ag;exact⟨h,by simpa using ag⟩
structure Rest(o:bD)(D:Nat):Prop where
 calm:∀ i b,i<D→o.N[i]?=some b→Calm b.K
 on:∀ i:Int,0≤i→i<D→o.aZ.off i=false
theorem Lt{o:bD}{D i:Nat}{b:bn}(h:Rest o D)(a1:i<D→Calm b.K):Rest (kO o i b) D:=
 ⟨fun y cL hm rb=>by
  have rb:(o.N.set i b)[y]?=some cL:=rb;by_cases j:i=y
  ·subst j;by_cases al:i<o.N.length
   ·rw[List.getElem?_set_self al] at rb;cases rb;exact a1 hm
   ·rw[List.getElem?_eq_none (by rw[List.length_set]; omega)] at rb;cases rb
  ·rw[List.getElem?_set_ne j] at rb
   exact h.calm y cL hm rb,h.on⟩
theorem Rest.aZ{o:bD}{D:Nat}(h:Rest o D){t:Post.dH}(aS:t.off=o.aZ.off):Rest { o with aZ:=t } D:=⟨h.calm,fun i a l=>by show t.off i=false; rw[aS]; exact h.on i a l⟩
def ld(k i:Int):aM:=⟨⟨k,i,0,0,⟨0,0,0,0⟩,fz,fz⟩,[],[]⟩
theorem Dm(k i:Int):tp (ld k i).x:=⟨by show -9223372036854775808≤(0:Int)∧(0:Int)≤_; omega⟩
theorem amc(o:bD)(i:Int):gn o (ld 7 i)=nT o i false:=by
 have j:(bits .and .i64 0 1==1)=false:=by kernel_rfl
 have a9:gn o (ld 7 i)=nT o i (bits .and .i64 0 1==1):=by unfold gn; rfl
 rw[a9,j]
theorem amb(o:bD)(i:Int):gn o (ld 8 i)=pB o i 0 []:=by unfold gn; rfl
theorem ame(o:bD)(i:Int):gn o (ld 10 i)=((nM o i).1,max (nM o i).2 0):=by unfold gn; rfl
theorem amd(o:bD)(i:Int):gn o (ld 11 i)=ue o i:=by unfold gn; rfl
theorem Yk(o:bD)(i:Int):gn o (ld 3 i)=qD o i:=by unfold gn; rfl
theorem Yi(o:bD)(i:Int):gn o (ld 4 i)=pD o i:=by unfold gn; rfl
section
variable {k:Nat} {o:bD} {ay:List fb}
theorem aGj{D:Nat}(h:kU k o ay)(ab:Rest o D)(bR:D<ay.length):Rest (nT o D false).1 D∧(nT o D false).1.aZ.off D=false∧(nT o D false).1.N=o.N:=by
 have al:=h.len;have cD:o.aZ.has D=true:=by unfold Post.dH.has; rw[h.B7]; simp; omega
 have j:nT o D false=({ o with aZ:={ o.aZ with off:=fun S=>if S==(D:Int) then false else o.aZ.off S } },0):=by
  unfold nT;rw[if_neg (by omega),if_pos cD]
 rw[j];refine⟨⟨ab.calm,fun i a l=>?_⟩,?_,rfl⟩
 ·show (if i==(D:Int) then false else o.aZ.off i)=false
  split
  ·rfl
  ·exact ab.on i a l
 ·show (if (D:Int)==(D:Int) then false else o.aZ.off D)=false
  simp
theorem aGi{D:Nat}(h:kU k o ay)(ab:Rest o D)(bR:D<ay.length):(pB o D 0 []).2=0∧Rest (pB o D 0 []).1 D∧(pB o D 0 []).1.aZ=o.aZ∧∃ b,(pB o D 0 []).1.N[D]?=some b∧b.K.ef=0:=by
 have al:=h.len;have a1:o.N[((D:Nat):Int).toNat]?=some (o.N[D]'(by omega)):=by rw[Int.toNat_natCast]; exact List.getElem?_eq_getElem (by omega)
 unfold pB;rw[zc (by omega) a1,Int.toNat_natCast];refine⟨rfl,Lt ab (by omega),rfl,?_⟩;refine⟨{ o.N[D]'(by omega) with K:={ (o.N[D]'(by omega)).K with ef:=max 0 0,bG:=[] } },?_,by show max (0:Int) 0=0; omega⟩;exact List.getElem?_set_self (by omega)
theorem aGn{D:Nat}(h:kU k o ay)(ab:Rest o D)(bR:D<ay.length)(ai:o.aZ.off D=false)(Y:∃ b,o.N[D]?=some b∧b.K.ef=0):max (nM o D).2 0=0∧Rest (nM o D).1 (D+1):=by
 obtain⟨b,a1,Y⟩:=Y;obtain⟨g,R,a7⟩:=h.sN a1;have rb:o.N[((D:Nat):Int).toNat]?=some b:=by rw[Int.toNat_natCast]; exact a1
 unfold nM;rw[zc (by omega) rb,Int.toNat_natCast];have U:=akW (f:=o.eu.gD) Y;obtain⟨cI,_,_,bL⟩:=Q3 h.eD a7;refine⟨?_,?_⟩
 ·rcases bL with ⟨_,ag⟩ | ⟨ah,_⟩
  ·rw[U.2] at ag; cases ag
  ·simp only; rw[ah]; omega
 ·refine⟨fun i eF ax rc=>?_,fun i a l=>?_⟩
  ·have rc:(o.N.set D (oM o.eu.gD b).1)[i]?=some eF:=rc;by_cases j:D=i
   ·subst j;rw[List.getElem?_set_self (by have:=(List.getElem?_eq_some_iff.1 a1).1; omega)] at rc;cases rc;exact U
   ·rw[List.getElem?_set_ne j] at rc;exact ab.calm i eF (by omega) rc
  ·by_cases j:i=D
   ·subst j; exact ai
   ·exact ab.on i a (by omega)
theorem Sf(h:kU k o ay)(ab:Rest o ay.length){i:Int}(ah:0≤i)(I:i<ay.length):∃ b g,o.N[i.toNat]?=some b∧ay[i.toNat]?=some g∧b.K.down=false∧Calm b.K∧eB o.eu.gD ay.length i.toNat k (k0 ay) (fun _=>True) b g:=by
 have al:=h.len;have a1:o.N[i.toNat]?=some (o.N[i.toNat]'(by omega)):=List.getElem?_eq_getElem (by omega);obtain⟨g,R,a7⟩:=h.sN a1;have U:=ab.calm _ _ (by omega) a1;exact⟨_,g,a1,R,U.2,U,a7⟩
theorem aGl(h:kU k o ay)(ab:Rest o ay.length){i:Int}(ah:0≤i)(I:i<ay.length):(ue o i).2=0∧Rest (ue o i).1 ay.length:=by
 obtain⟨b,g,a1,R,ag,U,a7⟩:=Sf h ab ah I;unfold ue;rw[pV ah a1 ag];exact⟨rfl,Lt ab fun _=>U⟩
theorem aGS{aZ:Post.dH}{f t:Int}{y:hM}:(aZ.send f t y).1.off=aZ.off:=by
 unfold Post.dH.send Post.dH.put
 repeat' split
 all_goals rfl
theorem aex{i:Int}:∀ {out:List p8} {aZ:Post.dH},(so aZ i out).off=aZ.off
 |[],aZ=>rfl
 |s::out,aZ=>(aex (i:=i) (out:=out) (aZ:=(aZ.send i s.h5 s.y).1)).trans aGS
theorem aGm(h:kU k o ay)(ab:Rest o ay.length){i:Int}(ah:0≤i)(I:i<ay.length):(qD o i).2=0∧Rest (qD o i).1 ay.length:=by
 obtain⟨b,g,a1,R,ag,U,a7⟩:=Sf h ab ah I;obtain⟨cI,_,_,bL⟩:=Q2 a7 ag;have aG:=akV U;have j:(nh b).2=0:=by
  rcases bL with ⟨_,BD⟩ | ⟨j,_⟩
  ·rw[aG.2] at BD; cases BD
  ·exact j
 unfold qD;rw[if_neg (by rw[Xt ah a1 ag]; simp),pV ah a1 ag];simp only;rw[if_pos j];refine⟨j,?_⟩;exact (Lt ab fun _=>aG).aZ aex
theorem aGk(h:kU k o ay)(ab:Rest o ay.length)(aL:0<o.aZ.m.length):(pD o 0).2=0∧Rest (pD o 0).1 ay.length∧(pD o 0).1.aZ.m.length+1=o.aZ.m.length:=by
 have F:o.aZ.m[(0:Int).toNat]?=some (o.aZ.m[0]'aL):=List.getElem?_eq_getElem (by simpa using aL);have Y:=o.aZ.I8 (Int.le_refl 0) F;obtain⟨_,am,aS⟩:=h.aZ _ (List.getElem_mem aL);generalize o.aZ.m[0]'aL=x at Y am aS;have j:o.aZ.take 0=({ o.aZ with m:=o.aZ.m.eraseIdx 0 },x,0):=by
  unfold Post.dH.take;rw[Y];simp only;rw[if_neg (by simp),if_neg (by rw[ab.on _ am.1 am.2,ab.on _ aS.1 aS.2]; simp)];rfl
 obtain⟨b,g,a1,R,ag,U,a7⟩:=Sf h ab aS.1 aS.2;unfold pD;rw[j,if_neg (by simp)];simp only;rw[pV (o:={ o with aZ:={ o.aZ with m:=o.aZ.m.eraseIdx 0 } }) aS.1 a1 ag];refine⟨rfl,?_,?_⟩
 ·exact Lt (o:={ o with aZ:={ o.aZ with m:=o.aZ.m.eraseIdx 0 } }) (ab.aZ rfl) fun _=>akU U
 ·show (o.aZ.m.eraseIdx 0).length+1=_
  rw[List.length_eraseIdx,if_pos aL];omega
end
def qo(o:bD)(cp:List aM):bD:=cp.foldl (fun o a=>(gn o a).1) o
theorem Ru(o:bD)(cp:List aM)(a:aM):qo o (cp++[a])=(gn (qo o cp) a).1:=by unfold qo; rw[List.foldl_append]; rfl
def qO(cp:List aM):Prop:=∀ a∈cp,tp a.x
theorem qO.snoc{cp:List aM}{a:aM}(h:qO cp)(Y:tp a.x):qO (cp++[a]):=fun l ao=>by
 rcases List.mem_append.1 ao with ao | ao
 ·exact h l ao
 ·rw[List.mem_singleton.1 ao]; exact Y
theorem qO.l7{cp av:List aM}(h:qO cp)(fr:qO av):qO (cp++av):=fun l ao=>by
 rcases List.mem_append.1 ao with ao | ao
 ·exact h l ao
 ·exact fr l ao
theorem zq.trans{dn dY:Nat}{o kA NH:bD}{ay:List fb}(h:zq dn kA o ay)(f:∀ k7,k7.length=ay.length→kU dn kA k7→zq dY NH kA k7):zq dY NH o ay:=by
 obtain⟨k7,a,l,c,d,m,j⟩:=h;obtain⟨vZ,aY,eb,bI,d2,cU,a9⟩:=f k7 c a;exact⟨vZ,aY,gA.le_trans l eb,bI.trans c,d2.trans d,m++cU,by rw[a9,j,List.append_assoc]⟩
theorem Bk:∀ {cp:List aM} {k:Nat} {o:bD} {ay:List fb},kU k o ay→qO cp→k+2*cp.length≤49000→zq (k+2*cp.length) (qo o cp) o ay
 |[],k,o,ay,h,_,_=>h.kJ (Nat.le_refl _)
 |a::cp,k,o,ay,h,ok,aq=>by
  rw[List.length_cons] at aq ⊢;refine zq.trans (Od h (by omega) (ok a (List.mem_cons_self ..))) fun k7 al I=>?_;have:=Bk (cp:=cp) I (fun l ao=>ok l (List.mem_cons_of_mem _ ao)) (by omega);rw[show k+2*(cp.length+1)=k+2+2*cp.length from by omega];exact this
def kD(cp:List aM):List aM:=cp.map o4
theorem JA{cp:List aM}(h:qO cp):qO (kD cp):=fun l ao=>by
 obtain⟨a,Y,rfl⟩:=List.mem_map.1 ao;exact h a Y
def uD(s:af)(cp:List aM)(aW:cv):Prop:=c3 k1 s (cp.map (·.x)) aW∧∀ p∈cp,(p.x.N.len≤p.x.N.cap∧c3 (B .i64) p.x.N p.N aW)∧p.x.gC.len≤p.x.gC.cap∧c3 (B .i64) p.x.gC p.aa aW
theorem uD.mono{s:af}{cp:List aM}{aW g8:cv}(h:cv.le aW g8):uD s cp aW→uD s cp g8:=fun ⟨I,O⟩=>⟨c3.mono h I,fun p aE=>⟨⟨(O p aE).1.1,c3.mono h (O p aE).1.2⟩,(O p aE).2.1,c3.mono h (O p aE).2.2⟩⟩
theorem abv{P:qN→aM→Prop}:∀ {xs:List qN},(∀ x∈xs,∃ S:aM,S.x=x∧P x S)→∃ eG:List aM,eG.map (·.x)=xs∧∀ p∈eG,P p.x p
 |[],_=>⟨[],rfl,fun p h=>by cases h⟩
 |x::xs,h=>by
  obtain⟨S,aB,aE⟩:=h x (List.mem_cons_self ..);obtain⟨eG,I,O⟩:=abv fun x F=>h x (List.mem_cons_of_mem _ F);refine⟨S::eG,by rw[List.map_cons,I,aB],fun p a8=>?_⟩;rcases List.mem_cons.1 a8 with rfl | a8
  ·rw[aB]; exact aE
  ·exact O p a8
theorem Xn{A:World}{x:qN}(g:FT A x):∃ S:aM,S.x=x∧tp x∧(x.N.len≤x.N.cap∧c3 (B .i64) x.N S.N fun l=>A.heap[l]?)∧x.gC.len≤x.gC.cap∧c3 (B .i64) x.gC S.aa fun l=>A.heap[l]?:=by
 obtain⟨_,_,_,an2,_,⟨bt,xs,_,gN⟩,⟨bI,gJ,_,bv⟩⟩:=g;exact⟨⟨x,xs,gJ⟩,rfl,⟨an2⟩,⟨bt.1,gN⟩,bI.1,bv⟩
theorem F6{A:World}{s:af}(g:ts A s):∃ cp,qO cp∧uD s cp fun l=>A.heap[l]?:=by
 obtain⟨_,xs,I,O⟩:=g;obtain⟨eG,j,aE⟩:=abv (P:=fun (x:qN) (S:aM)=>tp x∧(x.N.len≤x.N.cap∧c3 (B .i64) x.N S.N fun l=>A.heap[l]?)∧x.gC.len≤x.gC.cap∧c3 (B .i64) x.gC S.aa fun l=>A.heap[l]?) (xs:=xs) fun x F=>Xn (I x F);exact⟨eG,fun a Y=>(aE a Y).1,by rw[j]; exact O,fun p a8=>(aE p a8).2⟩
theorem wN(A:World):b6 [old A] fun aW=>cv.le (fun l=>A.heap[l]?) aW:=b6.here (y:=fun h k=>cv.le_trans k h)
theorem Hp{A:World}{m:List bC}{s:af}{cp:List aM}(k:b6 m fun aW=>cv.le (fun l=>A.heap[l]?) aW)(h:uD s cp fun l=>A.heap[l]?):b6 m (uD s cp):=k.imp fun _ a7=>uD.mono a7 h
theorem SI(x S:Told):bg.cs x S=true↔x=S:=by
 obtain⟨a,l,c⟩:=x;obtain⟨d,j,f⟩:=S;unfold bg.cs;simp only[Bool.and_eq_true,beq_iff_eq,bg.mk.injEq,and_assoc,and_true]
section
variable {A w:World} {m bT:List bC}
theorem Ig{s u:af}{aO aT:List Told}(o5:aO.length≤1000000000000)(tX:b6 m (c3 ic s aO))(z6:b6 m (c3 ic u aT))(H:E A m w):M Pg 17 [X.enc s,X.enc u] bk w fun r J=>(aO=aT→r=true)∧E A m J:=by
 have aR:=tX.len H;have a9:=z6.len H;refine ag8 ?_;unfold Uv;rw[aR,a9];by_cases al:aO.length=aT.length
 ·rw[if_neg (by simp[al])];refine vo (fun i w=>0≤i∧i≤aO.length∧E A m w) (fun i=>((aO.length:Int)-i).toNat) ⟨Int.le_refl 0,by omega,H⟩ ?_;rintro i w ⟨ah,I,H⟩;unfold MB;rw[aR];split
  ·rename_i U;have U:i<aO.length:=by simpa using U
   have ws:IntKind.i64.wrap (i+1)=i+1:=wrap_i64 (by omega) (by omega);refine dp H fun w H=>?_;obtain⟨a,Y⟩:=tX.iw (ar:=3) H ah U;obtain⟨l,ao⟩:=z6.iw (ar:=3) H ah (by omega);have F:aO[i.toNat]?=some (aO[i.toNat]'(by omega)):=List.getElem?_eq_getElem (by omega);have aB:aT[i.toNat]?=some (aT[i.toNat]'(by omega)):=List.getElem?_eq_getElem (by omega);generalize aO[i.toNat]'(by omega)=x at F;generalize aT[i.toNat]'(by omega)=S at aB;refine aP a Y ?_;refine aP l ao ?_;refine aP x (tX.rd (fun _=>rfl) Y F H) ?_;refine aP S (z6.rd (fun _=>rfl) ao aB H) ?_;by_cases j:x=S
   ·rw[if_neg (by rw[(SI x S).2 j]; simp),ws];exact⟨⟨by omega,by omega,H⟩,by omega⟩
   ·rw[if_pos (by rw[Bool.not_eq_true']; exact Bool.eq_false_iff.2 fun h=>j ((SI x S).1 h))];refine⟨fun h=>?_,H⟩;rw[h,aB] at F;cases F;exact absurd rfl j
  ·exact⟨fun _=>rfl,H⟩
 ·rw[if_pos (by simp; omega)];exact⟨fun h=>absurd (congrArg List.length h) al,H⟩
theorem HN{c:rI}{s:af}{cp:List aM}(ab:c.gD<18446744073709551616)(ag:c.kX<18446744073709551616)(ok:qO cp)(k:b6 m (uD s cp))(H:E A m w) :
  M Pg 7 [gl.enc c,X.enc s] (mm aD (B .i64) bk) w fun r J=>(¬ p6 c→r.1=none∧E A m J)∧(p6 c→∃ au:Nat,r.1=some ⟨au,0,none⟩∧E A (ch au (qo (lR c) (kD (cp.take 60)))::m) J):=by
 have dn:b6 m (c3 k1 s (cp.map (·.x))):=k.imp fun _ h=>h.1;have aG:=dn.len H;rw[List.length_map] at aG;refine ai6 ?_;unfold Wm;refine bP H fun l w H=>?_;refine eh (x:=c) 0 H rfl ?_;refine ap (QZ ab ag H.drop) ?_;rintro⟨gN,bv⟩ w ⟨bA,eR⟩;by_cases U:p6 c
 ·obtain⟨I,au,O,H⟩:=eR U;simp only at I O;subst I; subst O;rw[if_neg (by simp)];have zP:kU 0 (lR c) _:=Dt U;refine hY (fun s w=>∃ D:Nat,s.2.2=(D:Int)∧D≤cp.length∧D≤60∧E A (ch au (qo (lR c) (kD (cp.take D)))::m) w) (fun s=>(60-s.2.2).toNat) ⟨0,rfl,by omega,by omega,H⟩ ?_;clear H;rintro⟨sum,sure,aBg⟩ w ⟨D,GP,bR,D2,H⟩ aa ca;simp only at GP;subst GP;unfold No;simp only;rw[aG];split
  ·rename_i dS;have dS:D<cp.length∧D<60:=by
    simp at dS; omega
   have aR:IntKind.i64.wrap ((D:Int)+1)=((D+1:Nat):Int):=by rw[wrap_i64 (by omega) (by omega)]; omega
   obtain⟨a,Y⟩:=dn.tail.iw (ar:=10) (i:=(D:Int)) H (by omega) (by rw[List.length_map]; omega);have F:(cp.map (·.x))[((D:Int)).toNat]?=some (cp[D]'dS.1).x:=by rw[Int.toNat_natCast,List.getElem?_map,List.getElem?_eq_getElem dS.1]; rfl
   have aE:b6 m fun aW=>((cp[D]'dS.1).x.N.len≤(cp[D]'dS.1).x.N.cap∧c3 (B .i64) (cp[D]'dS.1).x.N (cp[D]'dS.1).N aW)∧(cp[D]'dS.1).x.gC.len≤(cp[D]'dS.1).x.gC.cap∧c3 (B .i64) (cp[D]'dS.1).x.gC (cp[D]'dS.1).aa aW:=k.imp fun _ h=>h.2 _ (List.getElem_mem _);have iG:kD (cp.take (D+1))=kD (cp.take D)++[o4 (cp[D]'dS.1)]:=by unfold kD; rw[List.take_succ_eq_append_getElem dS.1,List.map_append]; rfl
   have dr:=ok _ (List.getElem_mem dS.1);have JQ:=Bk (cp:=kD (cp.take D)) zP (JA fun a Y=>ok a (List.mem_of_mem_take Y)) (by unfold kD; rw[List.length_map,List.length_take]; omega);obtain⟨l3,JQ,_⟩:=JQ;have g3:0+2*(kD (cp.take D)).length≤49000:=by unfold kD; rw[List.length_map,List.length_take]; omega
   generalize cp[D]'dS.1=p at F aE iG dr;generalize iF:qo (lR c) (kD (cp.take D))=o at *;refine aP a Y ?_;refine aP p.x (dn.tail.rd (fun _=>rfl) Y F H) ?_;have l_:p.x.N.len≤p.x.N.cap∧p.x.gC.len≤p.x.gC.cap:=by
    obtain⟨aW,_,h⟩:=b6.pF aE H.drop;exact⟨h.1.1,h.2.1⟩
   refine ap (OM l_.1 l_.2 (aE.tail.imp fun _ h=>h.1.2) (aE.tail.imp fun _ h=>h.2.2) H) ?_;rintro r w ⟨s1,s2,rfl,H⟩;have H:E A (ch au o::ro (B .i64) s1 (p.N.take 10)::ro (B .i64) s2 (p.aa.take 4)::m) w:=H.front 2;have gF:di 1 (ro (B .i64) s1 (p.N.take 10)::ro (B .i64) s2 (p.aa.take 4)::m) (B .i64) s1 (p.N.take 10):=di.ro (fun _=>rfl) (b6.here (y:=c3.mono));have gd:di 1 (ro (B .i64) s1 (p.N.take 10)::ro (B .i64) s2 (p.aa.take 4)::m) (B .i64) s2 (p.aa.take 4):=di.ro (fun _=>rfl) (b6.here (y:=c3.mono)).tail;refine ap (Jp (JQ.ok (by omega)) JQ.cS ⟨dr.n⟩ gF gd (by rw[List.length_take]; omega) (by rw[List.length_take]; omega) H) ?_;rintro r w ⟨_,H⟩;have H:E A (ch au (qo (lR c) (kD (cp.take (D+1))))::m) w:=by
    have j:qo (lR c) (kD (cp.take (D+1)))=(gn o ⟨{ p.x with N:=s1,gC:=s2 },p.N.take 10,p.aa.take 4⟩).1:=by
     rw[iG,Ru,iF];rfl
    rw[j];exact ((H.ord [1,2]).drop.drop)
   have vb:∀ (x:Int) (l:Bool) (e:Option Addr×Int×Bool→World→Prop),AS (D:Int) x l w aa e:=fun x l e=>by
    unfold AS;rw[aR];exact ca _ _ ⟨D+1,rfl,by omega,by omega,H⟩ (by simp only; omega)
   refine aP a Y ?_;refine aP p.x.Kind (dn.tail.m2 (fun _=>rfl) Y F rfl H) ?_;split
   ·exact vb _ _ _
   ·split
    ·refine aP a Y ?_;refine aP p.x.b (dn.tail.m2 (fun _=>rfl) Y F rfl H) ?_;exact vb _ _ _
    ·split
     ·exact vb _ _ _
     ·exact vb _ _ _
  ·rename_i dS;have dS:¬ (D<cp.length∧D<60):=by
    intro h;exact dS (by simp; omega)
   have j:cp.take D=cp.take 60:=by
    by_cases h:D=60
    ·subst h; rfl
    ·rw[List.take_of_length_le (by omega),List.take_of_length_le (by omega)]
   rw[j] at H;exact⟨fun h=>absurd U h,fun _=>⟨au,rfl,H⟩⟩
 ·obtain⟨I,H⟩:=bA U;cases I;rw[if_pos (by simp)];exact⟨fun _=>⟨rfl,H⟩,fun h=>absurd h U⟩
end
def nl(j2:bD)(y:Nat)(o:bD):Prop:=∃ av,qO av∧av.length≤y∧o=qo j2 av
theorem nl.zero(j2:bD):nl j2 0 j2:=⟨[],fun a h=>(by cases h),Nat.le_refl _,rfl⟩
theorem nl.act{j2 o:bD}{y:Nat}(h:nl j2 y o){a:aM}(ok:tp a.x):nl j2 (y+1) (gn o a).1:=by
 obtain⟨av,I,O,rfl⟩:=h;exact⟨av++[a],I.snoc ok,by simp; omega,(Ru ..).symm⟩
theorem nl.mono{j2 o:bD}{y yF:Nat}(h:nl j2 y o)(hm:y≤yF):nl j2 yF o:=by
 obtain⟨av,I,O,aJ⟩:=h;exact⟨av,I,by omega,aJ⟩
theorem nl.kJ{j2 o:bD}{y k:Nat}{ay:List fb}(h:nl j2 y o)(ah:kU k j2 ay)(aq:k+2*y≤49000):zq (k+2*y) o j2 ay:=by
 obtain⟨av,I,O,rfl⟩:=h;obtain⟨l3,a,l⟩:=Bk ah I (by omega);exact⟨l3,a.mono (by omega),l⟩
theorem nl.ci{j2 o:bD}{y k:Nat}{ay:List fb}(h:nl j2 y o)(ah:kU k j2 ay)(aq:k+2*y≤49000):∃ l3,kU (k+2*y) o l3∧l3.length=ay.length:=by
 obtain⟨l3,a,_,l,_⟩:=h.kJ ah aq;exact⟨l3,a,l⟩
section
variable {A w:World} {m bT:List bC}
theorem So{au k:Nat}{j2:bD}{ay:List fb}(ah:kU k j2 ay)(aq:k≤2000)(H:E A (ch au j2::m) w):M Pg 11 [.pointer (some ⟨au,0,none⟩),.int .i64 (ay.length:Int)] bk w fun r J=>r=true∧∃ o,nl j2 20000 o∧Rest o ay.length∧E A (ch au o::m) J:=by
 have aL:=ah.pos;refine age ?_;unfold TB;refine hY (fun i w=>∃ D:Nat,i=(D:Int)∧D≤ay.length∧∃ o,nl j2 (3*D) o∧Rest o D∧E A (ch au o::m) w) (fun i=>((ay.length:Int)-i).toNat) ⟨0,rfl,by omega,j2,nl.zero j2,⟨fun i b ax=>absurd ax (by omega),fun i a l=>absurd l (by omega)⟩,H⟩ ?_;clear H;rintro i w ⟨D,rfl,bR,o,iF,jn,H⟩ aa ca;unfold Mh;split
 ·rename_i U;have U:D<ay.length:=by
   have:(D:Int)<ay.length:=by simpa using U
   omega
  have aR:IntKind.i64.wrap ((D:Int)+1)=((D+1:Nat):Int):=by rw[wrap_i64 (by omega) (by omega)]; omega
  obtain⟨k7,a7,al⟩:=iF.ci ah (by omega);refine ap (X0 (a7.ok (by omega)) H) ?_;rintro r w ⟨_,H⟩;obtain⟨zL,zV,_⟩:=aGj a7 jn (by omega);have wy:=iF.act (Dm 7 D);rw[amc] at wy;generalize (nT o D false).1=kA at *;clear a7;obtain⟨k7,a7,al⟩:=wy.ci ah (by omega);refine ap (Xr (bG:=[]) (a7.ok (by omega)) Lz (by simp) H) ?_;rintro r w ⟨ab,H⟩;obtain⟨bL,JK,D6,a1⟩:=aGi a7 zL (by omega);have DP:=wy.act (Dm 8 D);rw[amb] at DP;rw[bL] at ab;subst ab;rw[← D6] at zV;generalize (pB kA D 0 []).1=NH at *;clear a7;obtain⟨k7,a7,al⟩:=DP.ci ah (by omega);rw[if_neg (by simp)];refine ap (afh (a7.ok (by omega)) a7.cS H) ?_;rintro r w ⟨ab,H⟩;obtain⟨bL,DR⟩:=aGn a7 JK (by omega) zV a1;have zK:=DP.act (Dm 10 D);rw[ame] at zK;rw[bL] at ab;subst ab;unfold IA;rw[if_neg (by simp),aR];exact ca _ _ ⟨D+1,rfl,by omega,_,zK.mono (by omega),DR,H⟩ (by omega)
 ·rename_i U;have U:D=ay.length:=by
   have:¬ (D:Int)<ay.length:=by simpa using U
   omega
  subst U
  replace iF:=iF.mono (yF:=24) (by omega)
  refine hY (fun i w=>∃ r:Nat,i=(r:Int)∧r≤14∧∃ o,nl j2 (24+r*1016) o∧Rest o ay.length∧E A (ch au o::m) w) (fun i=>((14:Int)-i).toNat) ⟨0,rfl,by omega,o,iF.mono (by omega),jn,H⟩ ?_;clear ca aa iF jn H;clear o;rintro i w ⟨r,rfl,ab,o,iF,jn,H⟩ aa ca;unfold Mi;split
  ·rename_i U;have U:r<14:=by
    have:(r:Int)<14:=by simpa using U
    omega
   have Gw:IntKind.i64.wrap ((r:Int)+1)=((r+1:Nat):Int):=by rw[wrap_i64 (by omega) (by omega)]; omega
   refine hY (fun i w=>∃ D:Nat,i=(D:Int)∧D≤ay.length∧∃ o,nl j2 (24+r*1016+2*D) o∧Rest o ay.length∧E A (ch au o::m) w) (fun i=>((ay.length:Int)-i).toNat) ⟨0,rfl,by omega,o,iF.mono (by omega),jn,H⟩ ?_;clear iF jn H;clear o;rintro i w ⟨D,rfl,bR,o,iF,jn,H⟩ FU tQ;unfold Mj;split
   ·rename_i U;have U:D<ay.length:=by
     have:(D:Int)<ay.length:=by simpa using U
     omega
    have aR:IntKind.i64.wrap ((D:Int)+1)=((D+1:Nat):Int):=by rw[wrap_i64 (by omega) (by omega)]; omega
    obtain⟨k7,a7,al⟩:=iF.ci ah (by omega);rw[← al] at jn;refine ap (abO (a7.ok (by omega)) H) ?_;rintro q w ⟨a8,H⟩;obtain⟨bL,zL⟩:=aGl a7 jn (i:=(D:Int)) (by omega) (by omega);have wy:=iF.act (Dm 11 D);rw[amd] at wy;rw[bL] at a8;subst a8;generalize (ue o D).1=kA at *;rw[al] at zL;clear a7;obtain⟨k7,a7,al⟩:=wy.ci ah (by omega);rw[← al] at zL;rw[if_neg (by simp)];refine ap (Sy (a7.ok (by omega)) H) ?_;rintro q w ⟨a8,H⟩;obtain⟨bL,JK⟩:=aGm a7 zL (i:=(D:Int)) (by omega) (by omega);have DP:=wy.act (Dm 3 D);rw[Yk] at DP;rw[bL] at a8;subst a8;rw[al] at JK;unfold IB;rw[if_neg (by simp),aR];exact tQ _ _ ⟨D+1,rfl,by omega,_,DP.mono (by omega),JK,H⟩ (by omega)
   ·rename_i U;have U:D=ay.length:=by
     have:¬ (D:Int)<ay.length:=by simpa using U
     omega
    subst U;obtain⟨k7,a7,al⟩:=iF.ci ah (by omega);have mE:=a7.s_;refine Ej (fun n _ w=>∃ o,o.aZ.m.length=n∧n≤1000∧nl j2 (24+r*1016+2*ay.length+(1000-n)) o∧Rest o ay.length∧E A (ch au o::m) w) o.aZ.m.length ⟨o,rfl,mE,iF.mono (by omega),jn,H⟩ ?_;clear iF jn H mE a7 al tQ;clear o k7;rintro n _ w ⟨o,aL,BL,iF,jn,H⟩ aJs aoo;obtain⟨k7,a7,al⟩:=iF.ci ah (by omega);unfold Mk;refine ap (Kv (a7.ok (by omega)) H) ?_;intro q w H;have a8:=gr H;rw[a8];split
    ·rename_i U;have U:0<o.aZ.m.length:=by
      have:(0:Int)<o.aZ.m.length:=by simpa using U
      omega
     refine ap (Ok (a7.ok (by omega)) H.drop) ?_;rintro q w ⟨a8,H⟩;rw[← al] at jn;obtain⟨bL,zL,g3⟩:=aGk a7 jn U;have wy:=iF.act (Dm 4 0);rw[Yi] at wy;rw[bL] at a8;subst a8;rw[al] at zL;rw[if_neg (by simp)];exact aoo _ _ _ (by omega) ⟨_,rfl,by omega,wy.mono (by omega),zL,H⟩
    ·rw[Gw];exact ca _ _ ⟨r+1,rfl,by omega,o,iF.mono (by omega),jn,H.drop⟩ (by omega)
  ·exact⟨rfl,o,iF.mono (by omega),jn,H⟩
end
end Cluster
namespace Audit
open bf
section
variable {A w:World} {m:List bC}
def gq(k:Int):Int:=if k<4096 then 1000000000000000 else 4611686018427387904
theorem aCy(H:E A m w)(k:Int):M Pg 123 [.int .i64 k] (B .i64) w fun r J=>r=gq k∧E A m J:=by
 refine agj ?_;unfold TO gq;split
 ·rename_i h; rw[if_pos (by simpa using h)]; exact⟨rfl,H⟩
 ·rename_i h; rw[if_neg (by simpa using h)]; exact⟨rfl,H⟩
def mo(es:List (Int×Int))(sum:Int)(x:fw):Int:=
 if x.Key<0∨x.Key≥8192 then 181 else if (es.lookup x.Key).isSome=true then 182 else if x.V<0∨x.V>gq x.Key then 183 else if x.V>4611686018427387904-sum then 184 else 0
def vm(eQ av r:Nat)(es:List (Int×Int))(sum:Int):List bC:=[aH eQ [.map (some r)] 146,aH av [.int .i64 sum] 2,c_ (B .i64) .i64 r es]
theorem SE{eQ av r:Nat}{es:List (Int×Int)}{sum:Int}(ah:0≤sum)(I:sum≤4611686018427387904)(x:fw)(H:E A (vm eQ av r es sum++m) w) :
  M Pg 122 [hP.enc x,.pointer (some ⟨eQ,0,none⟩),.pointer (some ⟨av,0,none⟩)] (B .i64) w fun j J=>j=mo es sum x ∧
   E A (vm eQ av r (if mo es sum x=0 then eM x.Key x.V es else es) (if mo es sum x=0 then sum+x.V else sum)++m) J:=by
 have H:E A (aH eQ [.map (some r)] 146::aH av [.int .i64 sum] 2::c_ (B .i64) .i64 r es::m) w:=H;refine agi ?_;unfold TN;refine bP H fun l dF H=>?_;refine aj (x:=some r) 1 H rfl rfl rfl ?_;refine aj (x:=x.Key) 0 H rfl rfl rfl ?_;refine mc 3 H rfl rfl ?_;refine aj (x:=x.Key) 0 H rfl rfl rfl ?_;refine aP x.Key (fun _=>bM (B .i64) H rfl rfl) ?_;by_cases bt:x.Key<0∨x.Key≥8192
 ·have j:mo es sum x=181:=by unfold mo; rw[if_pos bt]
  rw[if_pos (by simpa using bt),j];exact⟨rfl,H.drop⟩
 rw[if_neg (by simpa using bt)];by_cases bI:(es.lookup x.Key).isSome=true
 ·have j:mo es sum x=182:=by unfold mo; rw[if_neg bt,if_pos bI]
  rw[if_pos bI,j];exact⟨rfl,H.drop⟩
 rw[if_neg bI];refine dp H fun cB H=>?_;refine aj (x:=x.V) 0 H rfl rfl rfl ?_;have tail:∀ (q:Bool) (cB:World),q=(decide (x.V<0)||decide (x.V>gq x.Key))→E A (aH l (hP.cells x) 87::aH eQ [.map (some r)] 146::aH av [.int .i64 sum] 2::c_ (B .i64) .i64 r es::m) cB →
   Fa ⟨eQ,0,none⟩ ⟨av,0,none⟩ ⟨l,0,none⟩ q cB fun j J=>j=mo es sum x ∧
    E A (vm eQ av r (if mo es sum x=0 then eM x.Key x.V es else es) (if mo es sum x=0 then sum+x.V else sum)++m) J:=by
  intro q cB a8 H;unfold Fa;by_cases cc:x.V<0∨x.V>gq x.Key
  ·have j:mo es sum x=183:=by unfold mo; rw[if_neg bt,if_neg bI,if_pos cc]
   rw[if_pos (by rw[a8]; simpa using cc),j];exact⟨rfl,H.drop⟩
  rw[if_neg (by rw[a8]; simpa using cc)];refine aj (x:=x.V) 0 H rfl rfl rfl ?_;refine aj (x:=sum) 2 H rfl rfl rfl ?_;have ws:IntKind.i64.wrap (4611686018427387904-sum)=4611686018427387904-sum:=wrap_i64 (by omega) (by omega);rw[ws];by_cases fe:x.V>4611686018427387904-sum
  ·have j:mo es sum x=184:=by unfold mo; rw[if_neg bt,if_neg bI,if_neg cc,if_pos fe]
   rw[if_pos (by simpa using fe),j];exact⟨rfl,H.drop⟩
  have j:mo es sum x=0:=by unfold mo; rw[if_neg bt,if_neg bI,if_neg cc,if_neg fe]
  rw[if_neg (by simpa using fe),j];refine dp H fun bm H=>?_;refine aj (x:=some r) 1 H rfl rfl rfl ?_;refine aj (x:=x.Key) 0 H rfl rfl rfl ?_;refine aj (x:=x.V) 0 H rfl rfl rfl ?_;refine aj (x:=sum) 2 H rfl rfl rfl ?_;refine aj (x:=x.V) 0 H rfl rfl rfl ?_;refine r8 3 H rfl rfl fun aV H=>?_;refine⟨bM (B .i64) (H.front 3) rfl rfl,?_⟩;refine⟨bM (B .i64) (H.front 1) rfl rfl,?_⟩;have Jy:IntKind.i64.wrap (sum+x.V)=sum+x.V:=wrap_i64 (by omega) (by omega);rw[Jy];refine dD (x:=sum+x.V) 3 H rfl rfl (Nat.le_of_ble_eq_true rfl) fun a_ H=>?_;exact⟨rfl,(H.ord [2,3,0,1]).drop⟩
 split
 ·rename_i cc;exact tail true _ (by simp at cc; simp[cc]) H
 ·rename_i cc;refine aj (x:=x.V) 0 H rfl rfl rfl ?_;refine aj (x:=x.Key) 0 H rfl rfl rfl ?_;refine ap (aCy H _) ?_;rintro q bm ⟨rfl,H⟩;refine⟨bM (B .i64) H rfl rfl,?_⟩;refine⟨bM (B .i64) H rfl rfl,?_⟩;exact tail _ _ (by rw[show decide (x.V<0)=false from by simpa using cc]; rfl) H
end
section
variable {A w:World} {m:List bC}
def uH(s:af)(an:List (mA×List fw))(aW:cv):Prop:=c3 p_ s (an.map (·.1)) aW∧∀ p∈an,c3 hP p.1.N p.2 aW
theorem uH.mono{s:af}{an:List (mA×List fw)}{aW g8:cv}(h:cv.le aW g8):uH s an aW→uH s an g8:=fun ⟨I,O⟩=>⟨c3.mono h I,fun p aE=>c3.mono h (O p aE)⟩
def nJ(s:af)(an:List (mA×List fw)):bC:=rU (uH s an) uH.mono
theorem H1{s:af}{an:List (mA×List fw)}(H:E A (nJ s an::m) w):E A (ro p_ s (an.map (·.1))::nJ s an::m) w:=
 E.Qk (y:=uH.mono) (fun aW h=>h.1) (E.dup (y:=uH.mono) H)
theorem aeh{s:af}{an:List (mA×List fw)}{p:mA×List fw}(aE:p∈an)(H:E A (nJ s an::m) w):E A (ro hP p.1.N p.2::nJ s an::m) w:=
 E.Qk (y:=uH.mono) (fun aW h=>h.2 p aE) (E.dup (y:=uH.mono) H)
def goes:List (Int×Int)→Int→List fw→List (Int×Int)×Int×Int
 |es,sum,[]=>(es,sum,0)
 |es,sum,x::xs=>if mo es sum x=0 then goes (eM x.Key x.V es) (sum+x.V) xs else (es,sum,mo es sum x)
theorem JG(es:List (Int×Int))(sum:Int)(xs gJ:List fw):goes es sum (xs++gJ)=if (goes es sum xs).2.2=0 then goes (goes es sum xs).1 (goes es sum xs).2.1 gJ else goes es sum xs:=by
 induction xs generalizing es sum with
 |nil=>simp[goes]
 |cons x xs ck=>
  simp only[List.cons_append,goes];split
  ·exact ck _ _
  ·rfl
end
section
variable {A w:World} {m:List bC}
def DN(sum:Int):Prop:=0≤sum∧sum≤4611686018427387904
theorem an5{es:List (Int×Int)}{sum:Int}{x:fw}(R:DN sum)(h:mo es sum x=0):DN (sum+x.V):=by
 obtain⟨ah,I⟩:=R;unfold mo at h;split at h
 ·omega
 ·split at h
  ·omega
  ·split at h
   ·omega
   ·split at h
    ·omega
    ·constructor<;>omega
theorem Zl{xs:List fw}:∀ {es:List (Int×Int)} {sum:Int},DN sum→DN (goes es sum xs).2.1:=by
 induction xs with
 |nil=>intro es sum h; exact h
 |cons x xs ck=>
  intro es sum h;simp only[goes];split
  ·rename_i hw; exact ck (an5 h hw)
  ·exact h
abbrev ae0(eQ av:Nat):cm:=cm.mk (.func 122) (List.toArray []) (List.toArray [.pointer (some ⟨eQ,0,none⟩),.pointer (some ⟨av,0,none⟩)])
theorem an4{es:List (Int×Int)}{sum:Int}{N:List fw}{i:Nat}{x:fw}(F:N[i]?=some x)(h:(goes es sum (N.take i)).2.2=0) :
  goes es sum (N.take (i+1))=if mo (goes es sum (N.take i)).1 (goes es sum (N.take i)).2.1 x=0 then (eM x.Key x.V (goes es sum (N.take i)).1,(goes es sum (N.take i)).2.1+x.V,0) else ((goes es sum (N.take i)).1,(goes es sum (N.take i)).2.1,mo (goes es sum (N.take i)).1 (goes es sum (N.take i)).2.1 x):=by
 obtain⟨ax,rfl⟩:=List.getElem?_eq_some_iff.1 F;rw[List.take_succ_eq_append_getElem ax,JG,if_pos h];simp only[goes]
theorem an3{es:List (Int×Int)}{sum:Int}{N:List fw}{i:Nat}(h:(goes es sum (N.take i)).2.2≠0):goes es sum N=goes es sum (N.take i):=by
 conv=>lhs; rw[← List.take_append_drop i N]
 rw[JG,if_neg h]
theorem aDT{eQ av r:Nat}{es:List (Int×Int)}{sum:Int}{pj:af}{N:List fw}{t3:Int}{gB:Int→World→Prop}{e:Int→World→Prop}(R:DN sum)(hm:N.length≤1000000)
  (H:E A (vm eQ av r es sum++(ro hP pj N::m)) w)
  (dr:∀ J,(goes es sum N).2.2=0→E A (vm eQ av r (goes es sum N).1 (goes es sum N).2.1++m) J→gB (IntKind.i64.wrap (t3+1)) J)
  (vc:∀ J,(goes es sum N).2.2≠0→E A (vm eQ av r (goes es sum N).1 (goes es sum N).2.1++m) J→e (goes es sum N).2.2 J) :
  e2 (fun (s:Int) w aa=>IC (ae0 eQ av) t3 pj s w gB aa e) ((0:Int)) w:=by
 have aG:=EK (H.front 3);refine vo (fun i w=>0≤i∧i≤N.length∧(goes es sum (N.take i.toNat)).2.2=0∧E A (vm eQ av r (goes es sum (N.take i.toNat)).1 (goes es sum (N.take i.toNat)).2.1++(ro hP pj N::m)) w) (fun i=>(N.length-i).toNat) ⟨Int.le_refl 0,by omega,rfl,H⟩ ?_;rintro i w ⟨ah,I,bL,H⟩;unfold IC;split
 ·rename_i U;have U:i<N.length:=by simp at U; omega
  have aR:IntKind.i64.wrap (i+1)=i+1:=wrap_i64 (by omega) (by omega);have F:N[i.toNat]?=some N[i.toNat]:=List.getElem?_eq_getElem (by omega);obtain⟨a,Y⟩:=y0 (ar:=2) (i:=i) (H.front 3) ah U;refine aP a Y ?_;refine aP N[i.toNat] (Ap (fun _=>rfl) Y F (H.front 3)) ?_;generalize N[i.toNat]=x at F;refine bP H fun l dF H=>?_;refine dD (x:=x) 0 H rfl rfl (Nat.le_of_ble_eq_true rfl) fun cB H=>?_;refine aj (x:=x) 0 H rfl rfl rfl ?_;have H:=(E.drop H)
  have ks:=Zl (xs:=N.take i.toNat) (es:=es) R;have lN:=an4 F bL;refine⟨122,[.pointer (some ⟨eQ,0,none⟩),.pointer (some ⟨av,0,none⟩)],rfl,amF,ap (SE ks.1 ks.2 x H) ?_⟩;rintro j bm ⟨rfl,H⟩;rw[show i.toNat+1=(i+1).toNat from by omega] at lN;split
  ·rename_i dT;have dT:mo (goes es sum (N.take i.toNat)).1 (goes es sum (N.take i.toNat)).2.1 x≠0:=by simpa using dT
   rw[if_neg dT] at lN;rw[if_neg dT,if_neg dT] at H;have re:=an3 (es:=es) (sum:=sum) (N:=N) (i:=(i+1).toNat) (by rw[lN]; exact dT);rw[lN] at re;have:=vc bm (by rw[re]; exact dT) (by rw[re]; exact ((H.front 3).drop));rw[re] at this;exact this
  ·rename_i dT;have dT:mo (goes es sum (N.take i.toNat)).1 (goes es sum (N.take i.toNat)).2.1 x=0:=by simpa using dT
   rw[if_pos dT] at lN;rw[if_pos dT,if_pos dT] at H;rw[aR];exact⟨⟨by omega,by omega,by rw[lN],by rw[lN]; exact H⟩,by omega⟩
 ·rename_i U;have U:i=N.length:=by simp at U; omega
  subst U;have j:N.take ((N.length:Int)).toNat=N:=by simp
  rw[j] at bL H;exact dr w bL ((H.front 3).drop)
end
section
variable {A w:World} {m:List bC}
def flat(an:List (mA×List fw)):List fw:=an.flatMap (·.2)
theorem aj2{eQ av r:Nat}{es:List (Int×Int)}{sum:Int}{s:af}{an:List (mA×List fw)}(R:DN sum)(hm:an.length≤100000)(GW:∀ p∈an,p.2.length≤100000)
  (H:E A (vm eQ av r es sum++(nJ s an::m)) w) :
  M Pg 121 [X.enc s,(ae0 eQ av).enc] (B .i64) w fun j J=>j=(goes es sum (flat an)).2.2∧E A (vm eQ av r (goes es sum (flat an)).1 (goes es sum (flat an)).2.1++(nJ s an::m)) J:=by
 have aG:=EK (H1 (H.front 3));rw[List.length_map] at aG;refine agh ?_;unfold TM;refine vo (fun i w=>0≤i∧i≤an.length∧(goes es sum (flat (an.take i.toNat))).2.2=0∧E A (vm eQ av r (goes es sum (flat (an.take i.toNat))).1 (goes es sum (flat (an.take i.toNat))).2.1++(nJ s an::m)) w) (fun i=>(an.length-i).toNat) ⟨Int.le_refl 0,by omega,rfl,H⟩ ?_;rintro i w ⟨ah,I,bL,H⟩;unfold Mm;split
 ·rename_i U;have U:i<an.length:=by simp at U; omega
  have aR:IntKind.i64.wrap (i+1)=i+1:=wrap_i64 (by omega) (by omega);have F:an[i.toNat]?=some an[i.toNat]:=List.getElem?_eq_getElem (by omega);have sZ:=List.mem_of_getElem? F;have aS:flat (an.take (i+1).toNat)=flat (an.take i.toNat)++an[i.toNat].2:=by
   rw[show (i+1).toNat=i.toNat+1 from by omega,List.take_succ_eq_append_getElem (by omega)];unfold flat; rw[List.flatMap_append,List.flatMap_cons,List.flatMap_nil,List.append_nil]
  have re:flat an=flat (an.take (i+1).toNat)++flat (an.drop (i+1).toNat):=by
   unfold flat; rw[← List.flatMap_append,List.take_append_drop]
  generalize an[i.toNat]=p at F sZ aS;have Qi:(an.map (·.1))[i.toNat]?=some p.1:=by rw[List.getElem?_map,F]; rfl
  have v0:=H1 (H.front 3);obtain⟨a,Y⟩:=y0 (ar:=2) (i:=i) v0 ah (by rw[List.length_map]; omega);refine aP a Y ?_;refine aP p.1 (Ap (fun _=>rfl) Y Qi v0) ?_;refine bP H fun l dF H=>?_;refine dD (x:=p.1) 0 H rfl rfl (Nat.le_of_ble_eq_true rfl) fun cB H=>?_;refine aj (x:=p.1.N) 0 H rfl rfl rfl ?_;have H:=(E.drop H)
  have H:=aeh sZ (H.front 3);have ks:=Zl (xs:=flat (an.take i.toNat)) (es:=es) R;have J7:goes es sum (flat (an.take (i+1).toNat))=goes (goes es sum (flat (an.take i.toNat))).1 (goes es sum (flat (an.take i.toNat))).2.1 p.2:=by
   rw[aS,JG,if_pos bL]
  refine aDT ks (Nat.le_trans (GW p sZ) (by omega)) (m:=nJ s an::m) (H.ord [2,3,4,0,1]) ?_ ?_
  ·intro bm Hf H;rw[← J7] at Hf H;rw[aR];exact⟨⟨by omega,by omega,Hf,H⟩,by omega⟩
  ·intro bm Hf H;rw[← J7] at Hf H ⊢;have:goes es sum (flat an)=goes es sum (flat (an.take (i+1).toNat)):=by rw[re,JG,if_neg Hf]
   rw[this];exact⟨rfl,H⟩
 ·rename_i U;have U:i=an.length:=by simp at U; omega
  subst U;have j:an.take ((an.length:Int)).toNat=an:=by simp
  rw[j] at bL H;exact⟨bL.symm,H⟩
end
section
variable {A w:World} {m:List bC}
theorem aD2{l:Nat}{at_:Int}{s:af}{an:List (mA×List fw)}(hm:an.length≤100000)(H:E A (aH l [.int .i64 at_] 2::nJ s an::m) w) :
  M Pg 119 [X.enc s,(cm.mk (.func 120) (List.toArray []) (List.toArray [.pointer (some ⟨l,0,none⟩)])).enc] bk w fun q J=>q=an.any (fun p=>p.1.vW != at_)∧E A (aH l [.int .i64 at_] 2::nJ s an::m) J:=by
 have aG:=EK (H1 (H.front 1));rw[List.length_map] at aG;refine agd ?_;unfold TK;refine ag4 ?_;unfold UB;refine vo (fun i w=>0≤i∧i≤an.length∧(∀ p∈an.take i.toNat,p.1.vW=at_)∧E A (aH l [.int .i64 at_] 2::nJ s an::m) w) (fun i=>(an.length-i).toNat) ⟨Int.le_refl 0,by omega,by simp,H⟩ ?_;rintro i w ⟨ah,I,O,H⟩;unfold MA;split
 ·rename_i U;have U:i<an.length:=by simp at U; omega
  have aR:IntKind.i64.wrap (i+1)=i+1:=wrap_i64 (by omega) (by omega);have F:an[i.toNat]?=some an[i.toNat]:=List.getElem?_eq_getElem (by omega);have sZ:=List.mem_of_getElem? F;have Qi:(an.map (·.1))[i.toNat]?=some an[i.toNat].1:=by rw[List.getElem?_map,F]; rfl
  have v0:=H1 (H.front 1);obtain⟨a,Y⟩:=y0 (ar:=2) (i:=i) v0 ah (by rw[List.length_map]; omega);refine aP a Y ?_;refine aP an[i.toNat].1 (Ap (fun _=>rfl) Y Qi v0) ?_;refine⟨120,[.pointer (some ⟨l,0,none⟩)],rfl,amE,agf ?_⟩;unfold TL;refine bP H fun e9 dF H=>?_;refine aj (x:=an[i.toNat].1.vW) 0 H rfl rfl rfl ?_;refine aj (x:=at_) 1 H rfl rfl rfl ?_;have H:=E.drop H;show if (an[i.toNat].1.vW != at_)=true then _ else _
  split
  ·rename_i hw;refine⟨?_,H⟩;have:an.any (fun p=>p.1.vW != at_)=true:=List.any_eq_true.2 ⟨_,sZ,hw⟩;rw[this]; simp[ah]
  ·rename_i hw;rw[aR];refine⟨⟨by omega,by omega,?_,H⟩,by omega⟩;intro p aE;rw[show (i+1).toNat=i.toNat+1 from by omega,List.take_succ_eq_append_getElem (by omega),List.mem_append] at aE;rcases aE with aE | aE
   ·exact O p aE
   ·rw[List.mem_singleton.1 aE]; simpa using hw
 ·rename_i U;have U:i=an.length:=by simp at U; omega
  subst U;refine⟨?_,H⟩;have:an.any (fun p=>p.1.vW != at_)=false:=by
   rw[List.any_eq_false];intro p aE;simp[O p (by simpa using aE)]
  rw[this]; rfl
def ra(at_:Int)(an:List (mA×List fw)):Option (List (Int×Int))×Int×Int:=
 if (decide (at_<0)||decide (at_>1125899906842624)||an.any fun p=>p.1.vW != at_)=true then (none,0,180)
 else (some (goes [] 0 (flat an)).1,(goes [] 0 (flat an)).2.1,(goes [] 0 (flat an)).2.2)
theorem alK{at_:Int}{s:af}{an:List (mA×List fw)}(hm:an.length≤100000)(GW:∀ p∈an,p.2.length≤100000)(H:E A (nJ s an::m) w) :
  M Pg 65 [.int .i64 at_,X.enc s] (mm ek (B .i64) (B .i64)) w fun q J=>q.2=(ra at_ an).2 ∧
   match (ra at_ an).1 with
   |none=>q.1=none∧E A (nJ s an::m) J
   |some es=>∃ r,q.1=some r∧E A (c_ (B .i64) .i64 r es::nJ s an::m) J:=by
 refine aiQ ?_;unfold Wh;refine bP H fun l dF H=>?_;refine aj (x:=at_) 0 H rfl rfl rfl ?_;refine aP at_ (fun _=>bM (B .i64) H rfl rfl) ?_;have tail:∀ (q:Bool) (dF:World),q=(decide (at_<0)||decide (at_>1125899906842624)||an.any fun p=>p.1.vW != at_)→E A (aH l [.int .i64 at_] 2::nJ s an::m) dF →
   FF s q dF fun q J=>q.2=(ra at_ an).2 ∧
   match (ra at_ an).1 with
   |none=>q.1=none∧E A (nJ s an::m) J
   |some es=>∃ r,q.1=some r∧E A (c_ (B .i64) .i64 r es::nJ s an::m) J:=by
  intro q dF a8 H;unfold FF;cases ao:q with
  |true=>
   have j:ra at_ an=(none,0,180):=by unfold ra; rw[if_pos (by rw[← a8,ao])]
   rw[if_pos rfl,j];exact⟨rfl,rfl,H.drop⟩
  |false=>
   have j:ra at_ an=(some (goes [] 0 (flat an)).1,(goes [] 0 (flat an)).2.1,(goes [] 0 (flat an)).2.2):=by unfold ra; rw[if_neg (by rw[← a8,ao]; decide)]
   rw[if_neg (by decide),j];refine wY H fun r cB H=>?_;refine bP H fun eQ bm H=>?_;refine bP H fun av aV H=>?_;refine dD (x:=some r) 1 H rfl rfl (Nat.le_of_ble_eq_true rfl) fun a_ H=>?_;refine dD (x:=(0:Int)) 1 H rfl rfl (Nat.le_of_ble_eq_true rfl) fun b2 H=>?_;have H:=wU (B .i64) .i64 (H.front 2);have H:E A (vm eQ av r [] 0++(nJ s an::aH l [.int .i64 at_] 2::m)) b2:=(H.ord [2,1,0,4])
   refine ap (aj2 (es:=[]) (sum:=0) ⟨by omega,by omega⟩ hm GW H) ?_;rintro gd bV ⟨rfl,H⟩;refine dp H fun bH H=>?_;refine aj (x:=some r) 0 H rfl rfl rfl ?_;refine aj (x:=(goes [] 0 (flat an)).2.1) 1 H rfl rfl rfl ?_;exact⟨rfl,r,rfl,(H.ord [2,3]).ord [2,3,4,0,1] |> fun H=>((H.drop).drop).drop⟩
 split
 ·rename_i U;refine tail true _ ?_ H;simp at U; rcases U with h | h<;>simp[h]
 ·rename_i U;refine ap (aD2 hm H) ?_;rintro q cB ⟨rfl,H⟩;refine tail _ _ ?_ H;rw[show (decide (at_<0)||decide (at_>1125899906842624))=false from by simpa using U]; rfl
theorem uV{at_:Int}{s:af}{an:List (mA×List fw)}(hm:an.length≤100000)(GW:∀ p∈an,p.2.length≤100000)(H:E A (nJ s an::m) w) :
  M Pg 27 [.int .i64 at_,X.enc s] (bw (B .i64) (B .i64)) w fun q J=>q=(if (ra at_ an).2.2=0 then ((ra at_ an).2.1,0) else (0,(ra at_ an).2.2))∧E A (nJ s an::m) J:=by
 refine aid ?_;unfold VG;refine ap (alK hm GW H) ?_;rintro⟨gF,gd,Ak⟩ w ⟨I,O⟩;have aJ:gd=(ra at_ an).2.1:=congrArg Prod.fst I;have bl:Ak=(ra at_ an).2.2:=congrArg Prod.snd I;subst aJ; subst bl;have H:E A (nJ s an::m) w:=by
  cases R:(ra at_ an).1 with
  |none=>rw[R] at O; exact O.2
  |some es=>
   rw[R] at O;obtain⟨r,_,H⟩:=O;exact H.drop
 simp only;by_cases c:(ra at_ an).2.2=0
 ·rw[if_neg (by simp[c]),if_pos c];exact⟨rfl,H⟩
 ·rw[if_pos (by simpa using c),if_neg c];exact⟨rfl,H⟩
end
end Audit
namespace Cluster
open bf Wire Disk Vault Clock Shard Num Store
def Gx:rI:=⟨2,0,0,5⟩
def NV(k i n:Int):aM:=⟨⟨k,i,0,n,⟨0,0,0,0⟩,fz,fz⟩,[],[]⟩
def ajW:aM:=⟨⟨2,0,0,0,⟨1,0,1,40⟩,fz,fz⟩,[],[]⟩
def hX:List aM:=[NV 1 0 100,NV 1 1 0,ajW,ld 3 1,ld 4 0,ld 4 0,ld 3 0,ld 3 1,ld 4 0,ld 4 0,ld 3 1,ld 4 0,ld 4 0,ld 12 1,NV 0 0 20,ld 12 1,ld 13 0,ld 13 1]
def OH(o:bD):List aM→List Int
 |[]=>[]
 |a::cp=>(gn o a).2::OH (gn o a).1 cp
def fK(i:Nat):bD:=qo (lR Gx) (hX.take i)
theorem anD:OH (lR Gx) hX=List.replicate 18 0:=by kernel_rfl
theorem YN:∀ {cp:List aM} {o:bD} {i:Nat} {a:aM},cp[i]?=some a→(OH o cp)[i]?=some (gn (qo o (cp.take i)) a).2
 |[],o,i,a,h=>by cases h
 |l::cp,o,0,a,h=>by cases h; rfl
 |l::cp,o,i+1,a,h=>YN (cp:=cp) (o:=(gn o l).1) (i:=i) h
theorem zH{i:Nat}{a:aM}(h:hX[i]?=some a):gn (fK i) a=(fK (i+1),0):=by
 have I:=YN (o:=lR Gx) h;rw[anD] at I;have O:=(List.mem_replicate.1 (List.mem_of_getElem? I)).2;have ax:=(List.getElem?_eq_some_iff.1 h).1;have j:fK (i+1)=(gn (fK i) a).1:=by
  unfold fK;rw[List.take_succ_eq_append_getElem ax,Ru,(List.getElem?_eq_some_iff.1 h).2]
 rw[j];exact Prod.ext rfl O
theorem YR:p6 Gx:=⟨⟨by decide,by decide⟩,of_decide_eq_true (by kernel_rfl),of_decide_eq_true (by kernel_rfl),by decide,by decide⟩
theorem anr:qO hX:=fun a Y=>by
 unfold hX at Y;simp only[List.mem_cons,List.mem_nil_iff,or_false] at Y;rcases Y with rfl | rfl | rfl | rfl | rfl | rfl | rfl | rfl | rfl | rfl | rfl | rfl | rfl | rfl | rfl | rfl | rfl | rfl<;>exact⟨by decide,by decide⟩
theorem q_(i:Nat):kV (fK i):=by
 obtain⟨l3,h,_⟩:=Bk (cp:=hX.take i) (Dt YR) (fun a Y=>anr a (List.mem_of_mem_take Y)) (by rw[List.length_take]; show 0+2*min i 18≤_; omega);exact h.ok (by rw[List.length_take]; show 0+2*min i 18≤_; omega)
def FV:ht:=⟨[⟨1006,⟨0,100⟩⟩,⟨1008,⟨0,60⟩⟩],1015,0⟩
def FW:ht:=⟨[⟨1006,⟨1,0⟩⟩,⟨1008,⟨1,40⟩⟩],1015,0⟩
theorem QC:Keys FV.rows [0]:=by
 refine⟨by decide,fun k=>?_⟩;simp only[FV,za,CC,List.mem_cons,List.not_mem_nil,or_false];by_cases I:k=0
 ·subst I; simp
 ·simp[I,Ne.symm I]
theorem QD:Keys FW.rows [1]:=by
 refine⟨by decide,fun k=>?_⟩;simp only[FW,za,CC,List.mem_cons,List.not_mem_nil,or_false];by_cases I:k=1
 ·subst I; simp
 ·simp[I,Ne.symm I]
theorem aG9:nf FV 1010=[⟨0,60⟩]:=by
 unfold nf;rw[if_pos (by rfl),QF QC]; rfl
theorem aHa:nf FW 1010=[⟨1,40⟩]:=by
 unfold nf;rw[if_pos (by rfl),QF QD]; rfl
theorem anw:(fK 18).N.map (fun b=>(b.K.down,b.W.v.W))=[(false,FV),(false,FW)]:=by kernel_rfl
theorem anA:vC (fK 18) 1010=([[⟨0,60⟩],[⟨1,40⟩]],0):=by
 have h:=anw;unfold vC;generalize (fK 18).N=N at h;obtain⟨FX,N,rfl,ah,h⟩:=List.map_eq_cons_iff.1 h;obtain⟨tw,N,rfl,I,h⟩:=List.map_eq_cons_iff.1 h;rw[List.map_eq_nil_iff.1 h];have d0:FX.K.down=false:=congrArg Prod.fst ah;have d1:tw.K.down=false:=congrArg Prod.fst I;have ml:FX.W.v.W=FV:=congrArg Prod.snd ah;have s1:tw.W.v.W=FW:=congrArg Prod.snd I;unfold nI;rw[d0,ml,aG9];unfold nI;rw[d1,s1,aHa];unfold nI;rfl
theorem anB:(fK 14).told=[]:=by kernel_rfl
theorem anC:(fK 16).told=[⟨1,2,1008⟩]:=by kernel_rfl
theorem anz:(fK 18).now=1020:=by kernel_rfl
theorem anx:(fK 18).aZ.m=[]:=by kernel_rfl
theorem ans:fR (fK 18) 1=0:=by kernel_rfl
theorem YQ:fR (fK 18) 2=202:=by kernel_rfl
theorem anv:((fK 16).N.length,fR (fK 16) 1,((fK 16).N[1]?).bind (fun b=>(b.P.lookup 1).map fun p=>(p.b4,p.at_)))=(2,0,some (2,1008)):=by kernel_rfl
theorem ant:(mC (fK 16) 0).2=(1015,0):=by kernel_rfl
theorem anu:(mC (fK 17) 1).2=(1015,0):=by kernel_rfl
section
variable {A w:World} {m bT:List bC}
theorem DK{au i:Nat}(h:hX[i]?=some (ld 4 0))(H:E A (ch au (fK i)::m) w):M Pg 36 [.pointer (some ⟨au,0,none⟩),.int .i64 0] (B .i64) w fun r J=>r=0∧E A (ch au (fK (i+1))::m) J:=by
 have j:=zH h;rw[Yi] at j;have:=Ok (q_ i) (i:=0) H;rw[j] at this;exact this
theorem Jz{au i:Nat}{D:Int}(h:hX[i]?=some (ld 3 D))(H:E A (ch au (fK i)::m) w):M Pg 35 [.pointer (some ⟨au,0,none⟩),.int .i64 D] (B .i64) w fun r J=>r=0∧E A (ch au (fK (i+1))::m) J:=by
 have j:=zH h;rw[Yk] at j;have:=Sy (q_ i) (i:=D) H;rw[j] at this;exact this
theorem YT{au i:Nat}(h:hX[i]?=some (ld 12 1))(H:E A (ch au (fK i)::m) w):M Pg 49 [.pointer (some ⟨au,0,none⟩),.int .i64 1] (B .i64) w fun r J=>r=0∧E A (ch au (fK (i+1))::m) J:=by
 have j:tj (fK i) 1=_:=zH h;have:=ae1 (q_ i) (i:=1) H;rw[j] at this;exact this
theorem aHf(H:E A m w):M Pg 24 [] aD w fun r J=>∃ au:Nat,r=some ⟨au,0,none⟩∧E A (ch au (fK 16)::m) J:=by
 refine ahY ?_;unfold MT;refine ap (QZ (c:=Gx) (by decide) (by decide) H) ?_;rintro⟨gN,bv⟩ w ⟨_,eR⟩;obtain⟨I,au,O,H⟩:=eR YR;simp only at I O;subst I; subst O;rw[if_neg (by simp)];have H:E A (ch au (fK 0)::m) w:=H;have j:vv (fK 0) 0 100=(fK 1,0):=zH (i:=0) rfl;have q:=Rl (q_ 0) (a:=0) (n:=100) (by omega) H;rw[j] at q;refine ap q ?_;rintro r w ⟨rfl,H⟩;unfold Fp;rw[if_neg (by simp)];have j:vv (fK 1) 1 0=(fK 2,0):=zH (i:=1) rfl;have q:=Rl (q_ 1) (a:=1) (n:=0) (by omega) H;rw[j] at q;refine ap q ?_;rintro r w ⟨rfl,H⟩;unfold Fu;rw[if_neg (by simp)];have j:pT (fK 2) ⟨1,0,1,40⟩=(fK 3,0):=zH (i:=2) rfl;have q:=abF (q_ 2) (x:=⟨1,0,1,40⟩) H;rw[j] at q;refine ap q ?_;rintro r w ⟨rfl,H⟩;unfold Fv;rw[if_neg (by simp)];refine ap (Jz (i:=3) rfl H) ?_;rintro r w ⟨rfl,H⟩;unfold Fw;rw[if_neg (by simp)]
 refine hY (fun i w=>∃ D:Nat,i=(D:Int)∧(D=0∧E A (ch au (fK 4)::m) w∨D=1∧E A (ch au (fK 8)::m) w∨D=2∧E A (ch au (fK 11)::m) w∨D=3∧E A (ch au (fK 13)::m) w)) (fun i=>((3:Int)-i).toNat) ⟨0,rfl,.inl ⟨rfl,H⟩⟩ ?_;clear H;rintro i w ⟨D,rfl,bR⟩ aa ca;have aR:D≤3→IntKind.i64.wrap ((D:Int)+1)=((D+1:Nat):Int):=fun h=>by rw[wrap_i64 (by omega) (by omega)]; omega
 unfold MV;rcases bR with ⟨rfl,H⟩ | ⟨rfl,H⟩ | ⟨rfl,H⟩ | ⟨rfl,H⟩
 ·rw[if_pos (by simp)];refine ap (DK (i:=4) rfl H) ?_;rintro r w ⟨rfl,H⟩;rw[if_neg (by simp)];refine ap (DK (i:=5) rfl H) ?_;rintro r w ⟨rfl,H⟩;unfold AR;rw[if_neg (by simp),if_pos (by simp)];refine ap (Jz (i:=6) rfl H) ?_;rintro r w ⟨rfl,H⟩;unfold zj;rw[if_neg (by simp),if_pos (by simp)];refine ap (Jz (i:=7) rfl H) ?_;rintro r w ⟨rfl,H⟩;unfold zk;rw[if_neg (by simp),if_neg (by simp)];unfold zl;rw[if_neg (by simp),aR (by omega)];exact ca _ _ ⟨1,rfl,.inr (.inl ⟨rfl,H⟩)⟩ (by omega)
 ·rw[if_pos (by simp)];refine ap (DK (i:=8) rfl H) ?_;rintro r w ⟨rfl,H⟩;rw[if_neg (by simp)];refine ap (DK (i:=9) rfl H) ?_;rintro r w ⟨rfl,H⟩;unfold AR;rw[if_neg (by simp),if_neg (by simp)];unfold zj;rw[if_neg (by simp),if_neg (by simp)];unfold zk;rw[if_neg (by simp),if_pos (by simp)];refine ap (Jz (i:=10) rfl H) ?_;rintro r w ⟨rfl,H⟩;unfold zl;rw[if_neg (by simp),aR (by omega)];exact ca _ _ ⟨2,rfl,.inr (.inr (.inl ⟨rfl,H⟩))⟩ (by omega)
 ·rw[if_pos (by simp)];refine ap (DK (i:=11) rfl H) ?_;rintro r w ⟨rfl,H⟩;rw[if_neg (by simp)];refine ap (DK (i:=12) rfl H) ?_;rintro r w ⟨rfl,H⟩;unfold AR;rw[if_neg (by simp),if_neg (by simp)];unfold zj;rw[if_neg (by simp),if_neg (by simp)];unfold zk;rw[if_neg (by simp),if_neg (by simp)];unfold zl;rw[if_neg (by simp),aR (by omega)];exact ca _ _ ⟨3,rfl,.inr (.inr (.inr ⟨rfl,H⟩))⟩ (by omega)
 ·rw[if_neg (by simp)];refine ap (YT (i:=13) rfl H) ?_;rintro r w ⟨rfl,H⟩;rw[if_neg (by simp)];refine ap (CB (q_ 14) H) ?_;intro r w H;have ab:=gr H;rw[anB] at ab;unfold Fq;rw[if_neg (by rw[ab]; simp)];have H:=H.drop;have j:w1 (fK 14) 20 []=(fK 15,0):=zH (i:=14) rfl;have q:=acs (q_ 14) (d:=20) (s:=fz) (xs:=[]) Lz (by simp) H;rw[j] at q;refine ap q ?_;rintro r w ⟨rfl,H⟩;unfold Fs;rw[if_neg (by simp)];refine ap (YT (i:=15) rfl H) ?_;rintro r w ⟨rfl,H⟩;unfold Ft;rw[if_neg (by simp)];exact⟨au,rfl,H⟩
theorem YS{au i:Nat}{D:Int}{a:Int}(h:hX[i]?=some (ld 13 D))(Y:(mC (fK i) D).2=(a,0))(H:E A (ch au (fK i)::m) w):M Pg 25 [.pointer (some ⟨au,0,none⟩),.int .i64 D] (bw (B .i64) (B .i64)) w fun r J=>r=(a,0)∧E A (ch au (fK (i+1))::m) J:=by
 have j:((mC (fK i) D).1,(mC (fK i) D).2.2)=(fK (i+1),0):=zH h;have aR:(mC (fK i) D).1=fK (i+1):=congrArg Prod.fst j;have:=XW (q_ i) (i:=D) H;rw[aR,Y] at this;exact this
theorem tG(H:E A m w):M Pg 8 [] bk w fun r J=>r=true∧E A m J:=by
 refine ajg ?_;unfold Np;refine ap (aHf H) ?_;rintro r w ⟨au,rfl,H⟩;rw[if_neg (by simp)];refine ap (CB (q_ 16) H) ?_;intro t w H;rw[anC] at H;have aS:=gr H;obtain⟨p,am,H⟩:=k2 (H.front 1);have BF:=anv;have aop:(fK 16).N.length=2:=congrArg Prod.fst BF;have o5:fR (fK 16) 1=0:=congrArg (fun z=>z.2.1) BF;have fj:=congrArg (fun z=>z.2.2) BF;simp only at fj;refine ap (YW (id:=1) am (by omega) (by omega) H) ?_;rintro r w ⟨ab,H⟩;have ab:r=(2,1008):=by
  rw[ab,if_neg (by omega),aop];have aR:Int.tmod 1 ((2:Nat):Int)=1:=by rfl
  rw[aR,if_neg (by rw[o5]; omega)];have a9:(1:Int).toNat=1:=rfl;rw[a9];cases a1:(fK 16).N[1]? with
  |none=>rw[a1] at fj; cases fj
  |some b=>
   rw[a1] at fj;have fj:(b.P.lookup 1).map (fun p=>(p.b4,p.at_))=some (2,1008):=fj;show (match b.P.lookup 1 with | none=>((0:Int),(0:Int)) | some p=>(p.b4,p.at_))=_
   cases ec:b.P.lookup 1 with
   |none=>rw[ec] at fj; cases fj
   |some q=>rw[ec] at fj; exact Option.some.inj fj
 subst ab;have H:=fI am H;refine ap (YS (i:=16) rfl ant H) ?_;rintro r w ⟨rfl,H⟩;refine ap (YS (i:=17) rfl anu H) ?_;rintro r w ⟨rfl,H⟩;refine ap (aGh (at_:=1010) (q_ 18) H) ?_;rintro r w ⟨PN,iM,H⟩;rw[anA] at PN H;have tV:=gr H;have H:=vD H;have dn:b6 (ro sF r.1 iM::uq iM 1010 [[⟨0,60⟩],[⟨1,40⟩]]::ch au (fK 18)::row ic 53 3 t [⟨1,2,1008⟩]::m) (c3 sF r.1 iM):=b6.here (y:=c3.mono);have dY:b6 (ro sF r.1 iM::uq iM 1010 [[⟨0,60⟩],[⟨1,40⟩]]::ch au (fK 18)::row ic 53 3 t [⟨1,2,1008⟩]::m) (oU iM 1010 [[⟨0,60⟩],[⟨1,40⟩]]):=(b6.here (y:=oU.mono)).tail;obtain⟨aW,_,PO⟩:=b6.pF dY H;have g3:iM.length=2:=PO.1;obtain⟨nG,gF,rfl⟩:∃ nG gF,iM=[⟨1010,nG⟩,⟨1010,gF⟩]:=by
  match iM,g3 with
  |[⟨nt,nG⟩,⟨lG,gF⟩],_=>
   have ah:nt=1010:=(PO.2 0 _ _ rfl rfl).1;have I:lG=1010:=(PO.2 1 _ _ rfl rfl).1;subst ah; subst I;exact⟨nG,gF,rfl⟩
 have gM:b6 (ro sF r.1 [⟨1010,nG⟩,⟨1010,gF⟩]::uq [⟨1010,nG⟩,⟨1010,gF⟩] 1010 [[⟨0,60⟩],[⟨1,40⟩]]::ch au (fK 18)::row ic 53 3 t [⟨1,2,1008⟩]::m) (Audit.uH r.1 [(⟨1010,nG⟩,[⟨0,60⟩]),(⟨1010,gF⟩,[⟨1,40⟩])]):=(dn.and dY).imp fun aW h=>⟨h.1,fun p aE=>by
  simp only[List.mem_cons,List.mem_nil_iff,or_false] at aE;rcases aE with rfl | rfl
  ·exact (h.2.2 0 _ _ rfl rfl).2
  ·exact (h.2.2 1 _ _ rfl rfl).2⟩
 have H:=H.z7 (y:=Audit.uH.mono) gM
 refine ap (Audit.uV (at_:=1010) (s:=r.1) (an:=[(⟨1010,nG⟩,[⟨0,60⟩]),(⟨1010,gF⟩,[⟨1,40⟩])]) (by simp) (fun p aE=>by
  simp only[List.mem_cons,List.mem_nil_iff,or_false] at aE
  rcases aE with rfl | rfl<;>simp) H) ?_
 rintro z w ⟨bL,H⟩;have bL:z=(100,0):=bL;subst bL;have NC:E A (row ic 53 3 t [⟨1,2,1008⟩]::_) w:=H.front 4;obtain⟨gw,JN⟩:=kM (i:=0) NC (by omega) (by simp);refine aP gw (fun _=>JN) ?_;refine aP ⟨1,2,1008⟩ (fun _=>mj (fun _=>rfl) JN rfl NC) ?_;clear NC;have v0:=Audit.H1 H;obtain⟨lc,DT⟩:=y0 (ar:=2) (i:=0) v0 (by omega) (by simp);refine aP lc (fun _=>DT) ?_;refine aP nG (fun _=>JD (x:=(⟨1010,nG⟩:zt)) (fun _=>rfl) DT rfl rfl v0) ?_;refine aP lc (fun _=>DT) ?_;refine aP nG (fun _=>JD (x:=(⟨1010,nG⟩:zt)) (fun _=>rfl) DT rfl rfl v0) ?_;have IP:=Audit.aeh (p:=(⟨1010,nG⟩,[⟨0,60⟩])) (List.mem_cons_self ..) H;have a8:=EK IP;obtain⟨ja,JO⟩:=y0 (ar:=2) (i:=0) IP (by omega) (by simp);refine aP ja (fun _=>JO) ?_;refine aP 60 (fun _=>JD (x:=(⟨0,60⟩:kk)) (fun _=>rfl) JO rfl rfl IP) ?_;clear IP v0;have aR:bg.cs ⟨1,2,1008⟩ ⟨1,2,1008⟩=true:=(SI _ _).2 rfl;have a8:nG.len=1:=a8
 rw[if_pos (by rw[aS,aR,PN,tV,a8]; simp)];obtain⟨p,am,H⟩:=k2 (H.front 3);refine ap (Q6 H) ?_;rintro r w ⟨rfl,H⟩;rw[anz];unfold FL;rw[if_pos (by simp)];refine ap (acH (i:=1) am (q_ 18).len.2 H) ?_;rintro r w ⟨rfl,H⟩;rw[ans];unfold FM;rw[if_pos (by simp)];refine ap (acH (i:=2) am (q_ 18).len.2 H) ?_;rintro r w ⟨rfl,H⟩;rw[YQ];unfold FN;rw[if_pos (by simp)];refine ap (LR (i:=2) am (q_ 18) H) ?_;rintro r w (⟨_,rfl,H⟩ | ⟨h,_⟩)
 ·unfold FO;rw[if_pos (by simp)];have H:=fI am H;refine ap (Kv (q_ 18) H) ?_;intro r w H;have al:=gr H;rw[anx] at al;unfold FP;refine⟨by rw[al]; simp,?_⟩;exact H.drop.drop.drop.drop.drop.drop
 ·rw[YQ] at h; cases h
end
def AN(p:aM)(aW:cv):Prop:=(p.x.N.len≤p.x.N.cap∧c3 (B .i64) p.x.N p.N aW)∧p.x.gC.len≤p.x.gC.cap∧c3 (B .i64) p.x.gC p.aa aW
def xR(o:bD)(id:Int):Int×Int:=if id<1 then (0,0) else if fR o (Int.tmod id o.N.length)≠0 then (0,0) else match (o.N[(Int.tmod id o.N.length).toNat]?).bind fun b=>b.P.lookup id with
 |none=>(0,0)
 |some p=>(p.b4,p.at_)
section
variable {A w:World} {m bT:List bC}
theorem u0{au k:Nat}{o:bD}{ay:List fb}{id:Int}(a7:kU k o ay)(aq:k≤49000)(H:E A (ch au o::m) w):M Pg 16 [.pointer (some ⟨au,0,none⟩),.int .i64 id] (bw (B .i64) (B .i64)) w fun r J=>r=xR o id∧E A (ch au o::m) J:=by
 obtain⟨p,am,H⟩:=k2 H;have aL:=a7.pos;have al:=a7.len;refine ap (YW am (by omega) (by omega) H) ?_;rintro r w ⟨ab,H⟩;exact⟨ab,fI am H⟩
end
end Cluster
section
open bf
end
namespace Cluster
open bf Wire Disk Vault Clock Shard Num Store
def vY(xs:List dO)(aU:List (Int×pu)):Prop:=∀ id f,aU.lookup id=some f→(f.h9=2→∃ x∈xs,x.Kind=3∧x.aC=id∧x.b5=f.gQ)∧(f.h9=3→∃ x∈xs,x.Kind=4∧x.aC=id)
theorem vY.more{xs:List dO}{aU:List (Int×pu)}(h:vY xs aU)(x:dO):vY (xs++[x]) aU:=fun id f am=>by
 obtain⟨a,l⟩:=h id f am;exact⟨fun j=>by obtain⟨S,aB,j⟩:=a j; exact⟨S,List.mem_append_left _ aB,j⟩,fun j=>by obtain⟨S,aB,j⟩:=l j; exact⟨S,List.mem_append_left _ aB,j⟩⟩
theorem vY.put{xs:List dO}{aU:List (Int×pu)}(h:vY xs aU){x:dO}{k:Int}{f:pu}(O:f.h9=2→x.Kind=3∧x.aC=k∧x.b5=f.gQ)(aJ:f.h9=3→x.Kind=4∧x.aC=k):vY (xs++[x]) (eM k f aU):=fun id g R=>by
 rw[s6] at R;split at R
 ·rename_i j;have j:=eq_of_beq j;subst j;cases R;exact⟨fun j=>⟨x,List.mem_append_right _ (List.mem_singleton.2 rfl),O j⟩,fun j=>⟨x,List.mem_append_right _ (List.mem_singleton.2 rfl),aJ j⟩⟩
 ·exact h.more x id g R
theorem anO{xs:List dO}{v:dc}{x:dO}(h:vY xs v.dX):vY (xs++[x]) (mW v x).1.dX:=by
 unfold mW;split
 ·unfold yQ
  repeat' split
  all_goals exact h.more x
 ·split
  ·unfold zW;split
   ·exact h.more x
   ·split
    ·exact h.more x
    ·exact h.put (fun j=>by cases j) (fun j=>by cases j)
  ·unfold oq;split
   ·rename_i gM;unfold xK;split
    ·exact h.more x
    ·split
     ·split<;>exact h.more x
     ·split
      ·split
       ·exact h.more x
       ·exact h.put (fun _=>⟨gM,rfl,rfl⟩) (fun j=>by cases j)
      ·exact h.more x
   ·split
    ·rename_i jG;unfold xN;split
     ·exact h.more x
     ·split
      ·exact h.more x
      ·split
       ·exact h.more x
       ·exact h.put (f:=⟨3,0⟩) (fun j=>by cases j) (fun _=>⟨jG,rfl⟩)
    ·split
     ·unfold q5
      repeat' split
      all_goals exact h.more x
     ·exact h.more x
theorem YY:∀ (xs gJ:List dO) (v:dc),vY gJ v.dX→vY (gJ++xs) (qn v xs).dX
 |[],gJ,v,h=>by rw[List.append_nil]; exact h
 |x::xs,gJ,v,h=>by
  have:=YY xs (gJ++[x]) (mW v x).1 (anO h);rw[List.append_assoc] at this;exact this
theorem YZ{k:Nat}{o:bD}{ay:List fb}(h:kU k o ay){i:Nat}{b:bn}(a1:o.N[i]?=some b)(ag:b.K.down=false)(id:Int) :
  ((ff b.W.v id).h9=2→k0 ay (gH id)=some (2,(ff b.W.v id).gQ))∧((ff b.W.v id).h9=3→∃ t,k0 ay (gH id)=some (3,t)):=by
 obtain⟨g,R,a7⟩:=h.sN a1;have m:=a7.live ag;have ik:=YY g.xs [] (ux o.eu.gD) (fun id f am=>by cases am);rw[← m.v,List.nil_append] at ik;cases al:b.W.v.dX.lookup id with
 |none=>
  have j:ff b.W.v id=⟨0,0⟩:=by unfold ff; rw[al]; rfl
  rw[j];exact⟨fun j=>(by cases j),fun j=>(by cases j)⟩
 |some f=>
  rw[YX al];obtain⟨a,l⟩:=ik id f al;refine⟨fun j=>?_,fun j=>?_⟩
  ·obtain⟨x,F,I,O,aJ⟩:=a j;rw[← O,← aJ];exact (a7.cF.p5 x F).2.2.2.1 I
  ·obtain⟨x,F,I,O⟩:=l j;rw[← O];exact (a7.cF.p5 x F).2.2.2.2 I
theorem XF{k:Nat}{o:bD}{ay:List fb}(h:kU k o ay){i D:Nat}{tw eF:bn}(I:o.N[i]?=some tw)(O:o.N[D]?=some eF)(d1:tw.K.down=false)(d2:eF.K.down=false){p q:Int}(j:gH p=gH q) :
  ((((((ff tw.W.v p).h9==2)&&((ff eF.W.v q).h9==3))||(((ff tw.W.v p).h9==3)&&((ff eF.W.v q).h9==2)))||((((ff tw.W.v p).h9==2)&&((ff eF.W.v q).h9==2))&&((ff tw.W.v p).gQ != (ff eF.W.v q).gQ))))=false:=by
 obtain⟨aY,aA⟩:=YZ h I d1 p;obtain⟨eb,iC⟩:=YZ h O d2 q;rw[← j] at eb iC;generalize ff tw.W.v p=a at *;generalize ff eF.W.v q=l at *;obtain⟨N6,akn⟩:=a;obtain⟨Ob,akD⟩:=l;simp only at *;cases ao:((((N6==2)&&(Ob==3))||((N6==3)&&(Ob==2)))||(((N6==2)&&(Ob==2))&&(akn != akD))) with
 |false=>rfl
 |true=>
  simp only[Bool.or_eq_true,Bool.and_eq_true,beq_iff_eq,bne_iff_ne] at ao;rcases ao with (⟨Y,ao⟩ | ⟨Y,ao⟩) | ⟨⟨Y,ao⟩,dT⟩
  ·obtain⟨t,aS⟩:=iC ao;rw[aY Y] at aS; cases aS
  ·obtain⟨t,aS⟩:=aA Y;rw[eb ao] at aS; cases aS
  ·have I:=aY Y;rw[eb ao] at I;injection I with I
   injection I with _ I
   exact absurd I.symm dT
theorem aIb(x:Int)(h:1≤x):gH (2*x-1)=gH (2*x):=by
 unfold gH;rw[Int.tdiv_eq_ediv_of_nonneg (by omega),Int.tdiv_eq_ediv_of_nonneg (by omega)];omega
section
variable {A w:World} {m bT:List bC}
theorem ako{au a0 i:Nat}{o:bD}{p:kj}{b:bn}{q:kB}{D:Int}(kE:p.Q.length≤8)(a8:p.Q[i]?=some (a0,b))(ag:b.K.down=false)(H:E A (eX a0 b q (hT au o p i m)) w):M Pg 29 [.pointer (some ⟨au,0,none⟩),.int .i64 D] (bw aD (B .i64)) w fun r J=>
  (r.2≠0∧E A (eX a0 b q (hT au o p i m)) J)∨(∃ t,0≤D∧p.Q[D.toNat]?=some t∧t.2.K.down=false∧r=(some ⟨t.1,0,none⟩,0)∧E A (eX a0 b q (hT au o p i m)) J):=by
 refine VI ?_;unfold M2;have aL:=gr (H.front 13);rw[List.length_map] at aL;refine aP ⟨au,0,none⟩ (fun _=>rfl) ?_;refine aP p.nodes (fun _=>bM X (H.front 12) rfl rfl) ?_;by_cases c:D<0∨(p.Q.length:Int)≤D
 ·rw[if_pos (by simp only[Bool.or_eq_true,decide_eq_true_eq]; omega)];exact .inl ⟨by show (202:Int)≠0; omega,H⟩
 ·rw[if_neg (by simp only[Bool.or_eq_true,decide_eq_true_eq]; omega)];have F:p.Q[D.toNat]?=some (p.Q[D.toNat]'(by omega)):=List.getElem?_eq_getElem (by omega);generalize p.Q[D.toNat]'(by omega)=t at F;have He:(p.Q.map kI)[D.toNat]?=some (kI t):=by rw[List.getElem?_map,F]; rfl
  refine cb rfl ?_;refine aj (x:=p.nodes) 12 H rfl rfl rfl ?_;obtain⟨a,Y⟩:=kM (i:=D) (H.front 13) (by omega) (by rw[List.length_map]; omega);refine aP a Y ?_;refine aP (kI t) (mj (fun _=>rfl) Y He (H.front 13)) ?_;refine cb rfl ?_;have fin:∀ w,t.2.K.down=false→E A (eX a0 b q (hT au o p i m)) w→ex (L X ((⟨au,0,none⟩:Addr).add 5) w) fun dU=>ex (cM dU 1 D) fun hQ=>ex (L aD hQ w) fun fu=>(fun r J=>(r.2≠0∧E A (eX a0 b q (hT au o p i m)) J)∨(∃ t,0≤D∧p.Q[D.toNat]?=some t∧t.2.K.down=false∧r=(some ⟨t.1,0,none⟩,0)∧E A (eX a0 b q (hT au o p i m)) J)) (fu,(0:Int)) w:=by
   intro w aS H;refine aj (x:=p.nodes) 12 H rfl rfl rfl ?_;refine aP a Y ?_;refine aP (kI t) (mj (fun _=>rfl) Y He (H.front 13)) ?_;exact .inr ⟨t,by omega,F,aS,rfl,H⟩
  by_cases j:D.toNat=i
  ·rw[j,a8] at F;cases F;refine aj (x:=some ⟨q.d,0,none⟩) 0 H rfl rfl rfl ?_;refine ap (DB (H.front 2)) ?_;rintro r w ⟨rfl,H⟩;rw[if_neg (by simp[ag])];exact fin w ag (H.ord [1,2,0])
  ·have hm:t∈p.Q.eraseIdx i:=List.mem_eraseIdx_iff_getElem?.2 ⟨D.toNat,j,F⟩;obtain⟨aO,aT,xX⟩:=List.append_of_mem hm;have g7:E A (dA ((p.Q.eraseIdx i).map hn)::_) w:=H.front 14;rw[xX] at g7;have g7:=Bi (f:=hn) g7;obtain⟨gd,ye,g7⟩:=lS g7;refine aj (x:=some ⟨gd.d,0,none⟩) 0 g7 rfl rfl rfl ?_;refine ap (DB (g7.front 2)) ?_;rintro r w ⟨rfl,g7⟩;have g7:=g_ ye (g7.ord [1,2,0]);have H:E A (dA ((aO++t::aT).map hn)::_) w:=wj (f:=hn) (j:=t) g7;rw[← xX] at H;have H:E A (eX a0 b q (hT au o p i m)) w:=H.ord [1,2,3,4,5,6,7,8,9,10,11,12,13,14,0];by_cases GJ:t.2.K.down=true
   ·rw[if_pos GJ];exact .inl ⟨by show (203:Int)≠0; omega,H⟩
   ·rw[if_neg GJ];exact fin w (by simpa using GJ) H
theorem aIl{au a0 i:Nat}{o:bD}{p:kj}{b:bn}{q:kB}{D:Int}(am:oR o p)(kE:o.N.length≤8)(a8:p.Q[i]?=some (a0,b))(ag:b.K.down=false)(H:E A (eX a0 b q (hT au o p i m)) w):M Pg 9 [.pointer (some ⟨au,0,none⟩),.int .i64 D] aD w fun r J=>
  (r=none∧E A (eX a0 b q (hT au o p i m)) J)∨(0≤D∧D.toNat=i∧r=some ⟨q.dv,0,none⟩∧E A (eX a0 b q (hT au o p i m)) J) ∨
  (∃ KJ eF gd aO aT, 0 ≤ D ∧ o.N[D.toNat]? = some eF ∧ eF.K.down = false ∧ Fits eF gd ∧ p.Q.eraseIdx i = aO ++ (KJ, eF) :: aT ∧ r = some ⟨gd.dv, 0, none⟩ ∧
   E A (eX KJ eF gd (eX a0 b q (aH au (gK.cells (iE o p)) 114::row aD 89 1 p.nodes (p.Q.map kI)::dA ((aO++aT).map hn)::Post.hN p.aZ o.aZ::c_ fq .i64 p.kH p.rr::row kl 53 3 p.told o.told::m))) J):=by
 have al:p.Q.length=o.N.length:=by rw[← am.1,List.length_map]
 refine WP ?_;unfold Ns;refine ap (ako (by omega) a8 ag H) ?_;rintro r w (⟨I,H⟩ | ⟨t,ah,F,GJ,rfl,H⟩)
 ·rw[if_pos (by simpa using I)];exact .inl ⟨rfl,H⟩
 ·rw[if_neg (by simp)];refine cb rfl ?_;by_cases j:D.toNat=i
  ·rw[j,a8] at F;cases F;refine aj (x:=some ⟨q.iN,0,none⟩) 0 H rfl rfl rfl ?_;refine ap (y8 (H.front 4)) ?_;rintro r w ⟨rfl,H⟩;exact .inr (.inl ⟨ah,j,rfl,H.ord [1,2,3,4,0]⟩)
  ·have hm:t∈p.Q.eraseIdx i:=List.mem_eraseIdx_iff_getElem?.2 ⟨D.toNat,j,F⟩;obtain⟨aO,aT,xX⟩:=List.append_of_mem hm;have g7:E A (dA ((p.Q.eraseIdx i).map hn)::_) w:=H.front 14;rw[xX] at g7;have g7:=Bi (f:=hn) g7;obtain⟨gd,ye,g7⟩:=lS g7;refine aj (x:=some ⟨gd.iN,0,none⟩) 0 g7 rfl rfl rfl ?_;refine ap (y8 (g7.front 4)) ?_;rintro r w ⟨rfl,H⟩;have aoq:o.N[D.toNat]?=some t.2:=by rw[← am.1,List.getElem?_map,F]; rfl
   refine .inr (.inr ⟨t.1,t.2,gd,aO,aT,ah,aoq,GJ,ye,xX,rfl,?_⟩);exact H.ord [1,2,3,4,0,5,6,7,8,9,10,11,13,14,15,16,17,18,19,20,21,22,23,24,25,26,12]
end
theorem akC(A:World)(c:rI)(s:af)(gc:xp A c)(bA:ts A s) :
  M Pg 3 [gl.enc c,X.enc s] bk A fun r lE=>r=true∧RowKit.Below A.heap.size A lE:=by
 obtain⟨cp,ug,cY⟩:=F6 bA;have dn:=Hp (wN A) cY;have H:=E.start A;have done:∀ {r:Bool} {w:World} {N:List bC},r=true→E A (N++[old A]) w→r=true∧RowKit.Below A.heap.size A w:=fun {r w N} ab H=>⟨ab,b6.below ((wN A).l7 N) H⟩
 refine aip ?_;unfold VJ;refine bP H fun l w H=>?_;refine eh (x:=c) 0 H rfl ?_;refine ap (HN gc.2.1 gc.2.2.1 ug dn.tail H) ?_;rintro⟨gN,bv,gf⟩ w ⟨I,O⟩;by_cases U:p6 c
 ·obtain⟨au,ab,H⟩:=O U;simp only at ab;subst ab;refine ap (tG H) ?_;rintro r w ⟨rfl,H⟩;rw[if_neg (by simp)];have zP:kU 0 (lR c) _:=Dt U;obtain⟨k7,lK,_,Zs,DW,_⟩:=Bk (cp:=kD (cp.take 60)) zP (JA fun a Y=>ug a (List.mem_of_mem_take Y)) (by unfold kD; rw[List.length_map,List.length_take]; omega);have ma:0+2*(kD (cp.take 60)).length≤120:=by unfold kD; rw[List.length_map,List.length_take]; omega
  have lK:=lK.mono ma;have qg:c.hE=(k7.length:Int):=by rw[← lK.iN,DW]; rfl
  have PD:=lK.pos;generalize qo (lR c) (kD (cp.take 60))=kA at *;have yu:b6 (aH l (gl.cells c) 24::[old A]) (c3 k1 s (cp.map (·.x))):=(dn.imp fun _ h=>h.1).tail;have aG:=yu.len H.drop;rw[List.length_map] at aG;refine hY (fun i w=>∃ j:Nat,i=(j:Int)∧j≤2∧∃ k o ay,kU k o ay∧ay.length=k7.length∧(j=0→k≤120)∧k≤48000∧E A (ch au o::aH l (gl.cells c) 24::[old A]) w) (fun i=>((2:Int)-i).toNat) ⟨0,rfl,by omega,120,kA,k7,lK,rfl,fun _=>by omega,by omega,H⟩ ?_;clear H lK zP ma DW I O;rintro i w ⟨j,rfl,he,k,o,ay,a7,wx,JU,aq,H⟩ aa ca;unfold M6;split
  ·rename_i ZH;have ZH:j<2:=by
    have:(j:Int)<2:=by simpa using ZH
    omega
   have DE:IntKind.i64.wrap ((j:Int)+1)=((j+1:Nat):Int):=by rw[wrap_i64 (by omega) (by omega)]; omega
   have yN:=a7.ok (by omega);have O3:=yN.len.2;refine hY (fun i w=>∃ D:Nat,i=(D:Int)∧D≤cp.length∧D≤60∧E A (ch au o::aH l (gl.cells c) 24::[old A]) w) (fun i=>((60:Int)-i).toNat) ⟨0,rfl,by omega,by omega,H⟩ ?_;clear H;rintro i w ⟨D,rfl,bR,D2,H⟩ FU tQ;unfold M7;rw[aG];split
   ·rename_i dS;have dS:D<cp.length∧D<60:=by simp at dS; omega
    have aR:IntKind.i64.wrap ((D:Int)+1)=((D+1:Nat):Int):=by rw[wrap_i64 (by omega) (by omega)]; omega
    obtain⟨a,Y⟩:=yu.tail.iw (ar:=10) (i:=(D:Int)) H (by omega) (by rw[List.length_map]; omega);have F:(cp.map (·.x))[((D:Int)).toNat]?=some (cp[D]'dS.1).x:=by rw[Int.toNat_natCast,List.getElem?_map,List.getElem?_eq_getElem dS.1]; rfl
    generalize (cp[D]'dS.1).x=x at F;refine aP a Y ?_;refine aP x.cf (yu.tail.m2 (fun _=>rfl) Y F rfl H) ?_;refine bP H fun eb w H=>?_;refine c5 (x:=A_) (S:=x.cf) Kr 0 H rfl fun w H=>?_;refine aP a Y ?_;refine aP x.Kind (yu.tail.tail.m2 (fun _=>rfl) Y F rfl H) ?_;refine aP x.cf.aC (fun _=>bM (B .i64) H rfl rfl) ?_;refine aP x.cf.aC (fun _=>bM (B .i64) H rfl rfl) ?_;refine aP x.cf.fF (fun _=>bM (B .i64) H rfl rfl) ?_;refine aP x.cf.fx (fun _=>bM (B .i64) H rfl rfl) ?_;have next:∀ (w:World) (e:Bool→World→Prop),E A (ch au o::aH eb (gk.cells x.cf) 31::aH l (gl.cells c) 24::[old A]) w→CT (D:Int) w FU e:=by
     intro w e H;unfold CT;rw[aR];exact tQ _ _ ⟨D+1,rfl,by omega,by omega,(H.front 1).drop⟩ (by omega)
    generalize x.cf=cf at *;split
    ·exact next _ _ (H.front 1)
    ·rename_i Pn;have Pn:1≤cf.aC∧cf.aC≤1000000∧0≤cf.fF∧0≤cf.fx:=by
      simp only[Bool.or_eq_true,decide_eq_true_eq,not_or] at Pn;omega
     have YP:IntKind.i64.wrap (IntKind.i64.wrap (2*cf.aC)-1)=2*cf.aC-1:=by rw[wrap_i64 (x:=2*cf.aC) (by omega) (by omega),wrap_i64 (by omega) (by omega)]
     have Jy:IntKind.i64.wrap (2*cf.aC)=2*cf.aC:=wrap_i64 (by omega) (by omega);have YO:=aIb cf.aC Pn.1;refine dp H fun w H=>?_;refine aj (x:=cf.fF) 0 H rfl rfl rfl ?_;refine aj (x:=c.hE) 2 H rfl rfl rfl ?_;refine aP (Int.tmod cf.fF c.hE) ⟨by omega,rfl⟩ ?_;refine aj (x:=cf.fx) 0 H rfl rfl rfl ?_;refine aj (x:=c.hE) 2 H rfl rfl rfl ?_;refine aP (Int.tmod cf.fx c.hE) ⟨by omega,rfl⟩ ?_;obtain⟨p,am,H⟩:=k2 (H.front 1);refine ap (LR am yN H) ?_;rintro r w (⟨_,rfl,H⟩ | ⟨kF,a0,b,q,ah,a8,a1,R,rfl,H⟩)
     ·refine⟨bM (B .i64) (H.front 6) rfl rfl,bM (B .i64) (H.front 7) rfl rfl,bM (B .i64) (H.front 6) rfl rfl,bM (B .i64) (H.front 7) rfl rfl,?_⟩;refine ap (LR am yN H) ?_;rintro r w (⟨_,rfl,H⟩ | ⟨kF,a0,b,q,ah,a8,a1,R,rfl,H⟩)
      ·refine⟨bM (B .i64) (H.front 6) rfl rfl,bM (B .i64) (H.front 7) rfl rfl,bM (B .i64) (H.front 6) rfl rfl,bM (B .i64) (H.front 7) rfl rfl,?_⟩;rw[if_pos (by simp)];exact next _ _ (fI am H)
      ·refine⟨bM (B .i64) (H.front 18) rfl rfl,bM (B .i64) (H.front 19) rfl rfl,bM (B .i64) (H.front 18) rfl rfl,bM (B .i64) (H.front 19) rfl rfl,?_⟩;rw[if_pos (by simp)];exact next _ _ (fI am (wX a8 (g_ R H)))
     ·obtain⟨cL,_,rb,ag⟩:=rR kF;rw[a1] at rb;cases rb;refine⟨bM (B .i64) (H.front 18) rfl rfl,bM (B .i64) (H.front 19) rfl rfl,bM (B .i64) (H.front 18) rfl rfl,bM (B .i64) (H.front 19) rfl rfl,?_⟩;refine ap (aIl am O3 a8 ag H) ?_;rintro r w (⟨rfl,H⟩ | ⟨aBd,yj,rfl,H⟩ | ⟨KJ,eF,gd,aO,aT,aBd,rc,BD,ks,xX,rfl,H⟩)
      ·refine⟨bM (B .i64) (H.front 18) rfl rfl,bM (B .i64) (H.front 19) rfl rfl,bM (B .i64) (H.front 18) rfl rfl,bM (B .i64) (H.front 19) rfl rfl,?_⟩;rw[if_pos (by simp)];exact next _ _ (fI am (wX a8 (g_ R H)))
      ·refine⟨bM (B .i64) (H.front 18) rfl rfl,bM (B .i64) (H.front 19) rfl rfl,bM (B .i64) (H.front 18) rfl rfl,bM (B .i64) (H.front 19) rfl rfl,?_⟩;rw[if_neg (by simp)];refine aj (x:=cf.aC) 18 H rfl rfl rfl ?_;rw[YP];refine ap (Vault.u0 (H.front 6)) ?_;rintro r w ⟨rfl,H⟩;refine aj (x:=cf.aC) 18 H rfl rfl rfl ?_;rw[Jy];refine ap (Vault.u0 H) ?_;rintro r w ⟨rfl,H⟩;rw[if_neg (by rw[XF a7 a1 a1 ag ag YO]; simp)];exact next _ _ (fI am (wX a8 (g_ R (H.ord [1,2,3,4,5,6,0]))))
      ·refine⟨bM (B .i64) (H.front 30) rfl rfl,bM (B .i64) (H.front 31) rfl rfl,bM (B .i64) (H.front 30) rfl rfl,bM (B .i64) (H.front 31) rfl rfl,?_⟩;rw[if_neg (by simp)];refine aj (x:=cf.aC) 30 H rfl rfl rfl ?_;rw[YP];refine ap (Vault.u0 (H.front 18)) ?_;rintro r w ⟨rfl,H⟩;refine aj (x:=cf.aC) 30 H rfl rfl rfl ?_;rw[Jy];refine ap (Vault.u0 (H.front 7)) ?_;rintro r w ⟨rfl,H⟩;rw[if_neg (by rw[XF a7 a1 rc ag BD YO]; simp)];have H:=g_ ks (H.ord [2,3,4,5,6,7,0,8,9,10,11,12]);have H:=g_ R (H.ord [2,3,4,5,6,7,1,8,9,10,11,12]);have H:E A (hn (KJ,eF)::dA ((aO++aT).map hn)::_) w:=H.ord [1,4];have H:=wj (f:=hn) H;rw[← xX] at H;exact next _ _ (fI am (wX a8 (H.ord [1,2,3,0])))
   ·split
    ·rename_i bL;have bL:j=0:=by
      have:(j:Int)=0:=by simpa using bL
      omega
     subst bL;refine aj (x:=c.hE) 1 H rfl rfl rfl ?_;rw[qg,← wx];refine ap (So a7 (by have:=JU rfl; omega) H) ?_;rintro r w ⟨rfl,jy,zK,DR,H⟩;unfold Fz;rw[if_neg (by simp),DE];obtain⟨rJ,sP,O0⟩:=zK.ci a7 (by have:=JU rfl; omega);have jp:=JU rfl;exact ca _ _ ⟨1,rfl,by omega,_,jy,rJ,sP,O0.trans wx,fun h=>by omega,by omega,H⟩ (by omega)
    ·unfold Fz;rw[if_neg (by simp),DE];exact ca _ _ ⟨j+1,rfl,by omega,k,o,ay,a7,wx,fun h=>by omega,aq,H⟩ (by omega)
  ·exact done (N:=[_,_]) rfl H
 ·obtain⟨ab,H⟩:=I U;simp only at ab;subst ab;refine ap (tG H) ?_;rintro r w ⟨rfl,H⟩;rw[if_pos (by simp)];refine ap (tG H) ?_;rintro r w ⟨rfl,H⟩;exact done (N:=[_]) rfl H
end Cluster
section
open bf
theorem aIE(A:World)(c:kZ)(s:af)(gc:xp A c)(bA:ts A s) :
  M Pg 3 [ha.enc c,X.enc s] bk A fun r lE=>r=true∧RowKit.Below A.heap.size A lE:=Cluster.akC A c s gc bA
end
namespace Cluster
open bf Wire Disk Vault Clock Shard Num Store
def nk(j:Int):Prop:=j=0∨(70≤j∧j≤81)
theorem XA{K:cR}{n s:Int}{f:dW→dW}:nk (j6 K n s f).2:=by
 unfold j6 nk
 repeat' split
 all_goals simp
theorem Gc{K:cR}{V:nr}{x:List UInt8}(h:x.length≤65536):nk (gm K V x).2.2:=by
 unfold gm;split
 ·exact .inr ⟨by show (70:Int)≤81; omega,by show (81:Int)≤81; omega⟩
 ·rw[if_neg (by omega)];exact XA
def xr(b cL:bn):Prop:=cL.K.down=b.K.down∧cL.P=b.P∧cL.W.v=b.W.v
structure lB(o fX:bD):Prop where
 now:fX.now=o.now
 aZ:fX.aZ.m=o.aZ.m
 told:fX.told=o.told
 len:fX.N.length=o.N.length
 nodes:∀ (i:Nat) (cL:bn),fX.N[i]?=some cL→∃ b,o.N[i]?=some b∧xr b cL
section
variable {k:Nat} {o:bD} {ay:List fb}
theorem lB.fR{o fX:bD}(h:lB o fX)(i:Int):Cluster.fR fX i=Cluster.fR o i:=by
 unfold Cluster.fR;by_cases ah:i<0
 ·rw[if_pos ah,if_pos ah]
 ·rw[if_neg ah,if_neg ah];cases a1:fX.N[i.toNat]? with
  |none=>
   have I:=h.len;have O:=List.getElem?_eq_none_iff.1 a1;rw[List.getElem?_eq_none (by omega)]
  |some cL=>
   obtain⟨b,I,O⟩:=h.nodes _ _ a1;rw[I];simp only;rw[O.1]
theorem lB.b4{o fX:bD}(h:lB o fX)(id:Int):xR fX id=xR o id:=by
 unfold xR;rw[h.len,h.fR];split
 ·rfl
 ·split
  ·rfl
  ·cases a1:fX.N[(Int.tmod id o.N.length).toNat]? with
   |none=>
    have I:=h.len;have O:=List.getElem?_eq_none_iff.1 a1;rw[List.getElem?_eq_none (by omega)]
   |some cL=>
    obtain⟨b,I,O⟩:=h.nodes _ _ a1;rw[I];show (match cL.P.lookup id with | none=>((0:Int),(0:Int)) | some p=>(p.b4,p.at_))=(match b.P.lookup id with | none=>((0:Int),(0:Int)) | some p=>(p.b4,p.at_))
    rw[O.2.1]
end
theorem AN.mono{p:aM}{aW g8:cv}(h:cv.le aW g8):AN p aW→AN p g8:=fun O=>⟨⟨O.1.1,c3.mono h O.1.2⟩,O.2.1,c3.mono h O.2.2⟩
end Cluster
section
open bf
end
namespace Cluster
open bf Wire Disk Vault Clock Shard Num Store
structure oX(f:Nat)(now:Int)(aw:hk)(rd:Int):Prop where
 rV:aw.floor≤now
 eD:aw.eD=f
 sound:aw.dk.set=true→∃ (T aO:Nat) (W:Int),-(aO:Int)≤W∧W≤aO∧v7 f T aO∧rd=aw.dk.at_+(T-W)∧(T:Int)≤now∧now-T-aw.dk.width≤aw.dk.h4∧aw.dk.h4≤now-T+aw.dk.width
theorem aF2{f:Nat}{now rd:Int}{aw:hk}(k:iY aw)(s:oX f now aw rd)(ag:jc f)(aL:0≤now∧now≤1099511627776)(aG:aw.dk.set=true)(al:aw.last≤rd)(ab:e1 rd)(aS:aw.dk.h4+(rd-aw.dk.at_)≤1125899906842624):(sm aw rd).gS≤now∧now≤(sm aw rd).jx:=by
 obtain⟨T,aO,W,I,O,aJ,bl,dq,iu,rX⟩:=s.sound aG;have dn:=k.at_;have dY:=k.h4;have gM:=k.width;have jG:=k.le;unfold e1 at dn dY gM ab;have jn:T≤(rd-aw.dk.at_).toNat+aO:=by omega
 obtain⟨o5,rY⟩:=aJ.within ag jn;have DD:(((rd-aw.dk.at_).toNat:Nat):Int)=rd-aw.dk.at_:=by omega
 rw[DD] at o5;have U:=Jg (n:=rd-aw.dk.at_) (f:=f) (by omega) ag.eD;unfold sm DC;have G8:mM ⟨aw.dk.h4+(rd-aw.dk.at_),aw.dk.h4+(rd-aw.dk.at_)⟩ aw.dk.width=(⟨max (aw.dk.h4+(rd-aw.dk.at_)-aw.dk.width) 0,min (aw.dk.h4+(rd-aw.dk.at_)+aw.dk.width) 1125899906842624⟩,0):=by
  unfold mM;rw[if_neg (fun h=>h (by unfold nv e1; simp only; omega)),if_neg (fun h=>h (by unfold e1; omega))]
 rw[G8,s.eD];simp only;rw[if_neg (fun h=>h (by unfold nv e1; simp only; omega)),if_neg (fun h=>h (by unfold e1; omega))];unfold mM;rw[if_neg (fun h=>h (by unfold nv e1; simp only; omega)),if_neg (fun h=>h (by unfold e1; omega))];simp only;omega
theorem Q5{f:Nat}{now rd:Int}{aw:hk}(k:iY aw)(s:oX f now aw rd)(ag:jc f)(aL:0≤now∧now≤1099511627776):oX f now (e6 aw rd).1 rd∧((e6 aw rd).2.2=0→(e6 aw rd).2.1.gS≤now∧now≤(e6 aw rd).2.1.jx):=by
 unfold e6;split
 ·exact⟨s,fun h=>by cases h⟩
 ·rename_i bt;split
  ·exact⟨s,fun h=>by cases h⟩
  ·rename_i bI;split
   ·exact⟨s,fun h=>by cases h⟩
   ·split
    ·exact⟨s,fun h=>by cases h⟩
    ·have ab:=aF2 k s ag aL (by simpa using bI) (by omega) (Classical.not_not.1 bt) (by omega);have am:=s.rV;exact⟨⟨by unfold st; simp only; omega,s.eD,s.sound⟩,fun _=>by unfold st; simp only; omega⟩
theorem oX.set{f:Nat}{now rd t j:Int}{aw:hk}(s:oX f now aw rd)(aL:0≤now)(aS:now-j≤t∧t≤now+j):oX f now (sp aw rd t j).1 rd:=by
 unfold sp;split
 ·exact s
 ·split
  ·exact s
  ·exact⟨s.rV,s.eD,fun _=>⟨0,0,0,by omega,by omega,aG7 f 0,by simp only; omega,by omega,by simp only; omega,by simp only; omega⟩⟩
theorem oX.pass{f:Nat}{now rd d s:Int}{aw:hk}(h:oX f now aw rd)(ag:jc f)(ah:0≤d∧d≤1048576)(aG:-(j8 d (nW f))≤s∧s≤j8 d (nW f)):oX f (now+d) aw (rd+(d-s)):=by
 refine⟨by have:=h.rV; omega,h.eD,fun ao=>?_⟩;obtain⟨T,aO,W,I,O,aJ,bl,dq,iu,rX⟩:=h.sound ao;have Bn:((d.toNat:Nat):Int)=d:=by omega
 have tP:=aJ.add (d:=d.toNat) (s:=s.natAbs) ag (by omega) (by rw[Bn]; omega);exact⟨T+d.toNat,aO+s.natAbs,W+s,by omega,by omega,tP,by omega,by omega,by omega,by omega⟩
theorem aHt{f:Nat}{now rd src:Int}{aw:hk}{N:List Int}(k:iY aw)(s:oX f now aw rd)(ag:jc f)(aL:0≤now∧now≤1099511627776):oX f now (gz aw rd src N).1 rd∧((gz aw rd src N).2.2.2=0→now<(gz aw rd src N).2.2.1):=by
 obtain⟨I,O⟩:=Q5 k s ag aL;unfold gz;split
 ·rename_i ah;exact⟨I,fun h=>absurd h ah⟩
 ·rename_i ah;have ah:=O (Classical.not_not.1 ah);refine⟨I,fun h=>?_⟩;revert h;unfold Ac;split
  ·intro h; cases h
  ·have aJ:=foldl_max N (max src (e6 aw rd).2.1.jx);split
   ·intro h; cases h
   ·intro _;simp only;omega
def sx(b cL:bn):Prop:=cL.cG=b.cG∧(cL.aw=b.aw∨cL.aw=(e6 b.aw b.cG).1)
theorem y1(aw:hk)(rd src:Int)(N:List Int):(gz aw rd src N).1=(e6 aw rd).1:=by unfold gz; split<;>rfl
theorem Dv{n:Nat}{b:bn}{id k t:Int}{p:bN}:(nU n b id p k t).1.aw=b.aw∧(nU n b id p k t).1.cG=b.cG:=by
 unfold nU;simp only;split<;>exact⟨rfl,rfl⟩
theorem alu{n:Nat}{b:bn}{from_:Int}{y:hM}:sx b (mY n b from_ y):=by
 unfold mY;split
 ·unfold rk;split
  ·exact⟨rfl,.inl rfl⟩
  ·split
   ·exact⟨rfl,.inl rfl⟩
   ·split
    ·unfold yk;split
     ·exact⟨rfl,.inr (y1 ..)⟩
     ·unfold vd;split
      ·exact⟨rfl,.inr (y1 ..)⟩
      ·split
       ·exact⟨rfl,.inr (y1 ..)⟩
       ·exact⟨rfl,.inr (y1 ..)⟩
    ·exact⟨rfl,.inl rfl⟩
 ·split
  ·unfold vS;split
   ·exact⟨rfl,.inl rfl⟩
   ·unfold y9;split
    ·exact⟨rfl,.inl rfl⟩
    ·split
     ·exact⟨rfl,.inl rfl⟩
     ·unfold vR;split
      ·exact⟨Dv.2,.inl Dv.1⟩
      ·split
       ·unfold y_;split
        ·refine⟨Dv.2,.inr ?_⟩;rw[Dv.1];exact y1 ..
        ·exact⟨rfl,.inr (y1 ..)⟩
       ·exact⟨rfl,.inl rfl⟩
  ·split
   ·unfold tM ih;split
    ·exact⟨rfl,.inl rfl⟩
    ·split
     ·exact⟨rfl,.inl rfl⟩
     ·exact⟨rfl,.inl rfl⟩
   ·split
    ·unfold xF;split
     ·exact⟨rfl,.inl rfl⟩
     ·exact⟨rfl,.inl rfl⟩
    ·exact⟨rfl,.inl rfl⟩
theorem alx{b:bn}{a y:Int}:sx b (yP b a y).1:=by
 unfold yP yO;split
 ·exact⟨rfl,.inr (y1 ..)⟩
 ·unfold EB;split
  ·exact⟨rfl,.inr (y1 ..)⟩
  ·exact⟨rfl,.inr (y1 ..)⟩
theorem alw{n:Nat}{b:bn}{x:oo}:sx b (s9 n b x).1:=by
 unfold s9 B5;split
 ·exact⟨rfl,.inl rfl⟩
 ·split<;>exact⟨rfl,.inl rfl⟩
theorem als{n:Nat}{b:bn}{id:Int}:sx b (rQ n b id).1:=by
 unfold rQ;split
 ·exact⟨rfl,.inl rfl⟩
 ·split
  ·exact⟨rfl,.inl rfl⟩
  ·exact⟨Dv.2,.inl Dv.1⟩
theorem alt{b:bn}:sx b (rS b).1:=by
 unfold rS xI;split
 ·exact⟨rfl,.inr rfl⟩
 ·unfold Dw;split
  ·exact⟨rfl,.inr rfl⟩
  ·exact⟨rfl,.inr rfl⟩
theorem XV{b:bn}:sx b (nh b).1:=by
 unfold nh vH;split
 ·exact⟨rfl,.inl rfl⟩
 ·unfold y3;split
  ·exact⟨rfl,.inl rfl⟩
  ·exact⟨rfl,.inl rfl⟩
theorem aly{f:Nat}{b:bn}:sx b (oM f b).1:=by
 unfold oM;split
 ·unfold y6;split
  ·exact⟨rfl,.inl rfl⟩
  ·unfold y7;split
   ·exact⟨rfl,.inl rfl⟩
   ·unfold zb;rw[Lp];exact⟨rfl,.inl rfl⟩
 ·exact⟨rfl,.inl rfl⟩
structure om(o:bD):Prop where
 ok:∀ b∈o.N,iY b.aw∧oX o.eu.kX o.now b.aw b.cG
 told:∀ t∈o.told,t.oh=2→t.b5≤o.now
 now:0≤o.now∧o.now≤1099511627776
 kC:jc o.eu.kX
 width:0≤o.eu.jA
theorem alv{f:Nat}{now:Int}{b cL:bn}(ag:jc f)(aL:0≤now∧now≤1099511627776)(h:iY b.aw∧oX f now b.aw b.cG)(s:sx b cL):iY cL.aw∧oX f now cL.aw cL.cG:=by
 rw[s.1];rcases s.2 with j | j
 ·rw[j]; exact h
 ·rw[j]; exact⟨(h.1.now _).1,(Q5 h.1 h.2 ag aL).1⟩
section
variable {o:bD}
theorem mem_set{Z:Type}{N:List Z}{i:Nat}{x S:Z}(h:S∈N.set i x):S=x∨S∈N:=by
 rcases List.mem_or_eq_of_mem_set h with h | h
 ·exact .inr h
 ·exact .inl h
theorem om.node(t:om o){i:Nat}{b cL:bn}(a1:o.N[i]?=some b)(s:sx b cL):om (kO o i cL):=
 ⟨fun eF O=>by
  rcases mem_set (N:=o.N) O with rfl | O
  ·exact alv t.kC t.now (t.ok b (List.mem_of_getElem? a1)) s
  ·exact t.ok eF O,t.told,t.now,t.kC,t.width⟩
theorem om.aZ(t:om o){aZ:Post.dH}:om { o with aZ:=aZ }:=⟨t.ok,t.told,t.now,t.kC,t.width⟩
theorem om.on(t:om o){i:Int}{f:bn→bn×Int}(am:∀ b,sx b (f b).1):om (m5 o i f).1:=by
 by_cases Y:fR o i=0
 ·obtain⟨b,ah,a1,ag⟩:=rR Y;rw[pV ah a1 ag];exact t.node a1 (am b)
 ·rw[vt Y];exact t
theorem om.S5(t:om o){i:Int}{f:bn→bn×Int}(am:∀ b,sx b (f b).1):om (qK o i f).1:=by
 by_cases U:i<0∨(o.N.length:Int)≤i
 ·rw[CG U];exact t
 ·have a1:o.N[i.toNat]?=some (o.N[i.toNat]'(by omega)):=List.getElem?_eq_getElem (by omega);rw[zc (by omega) a1];exact t.node a1 (am _)
theorem ae2{f:Nat}{now:Int}{b:bn}(ag:jc f)(aL:0≤now∧now≤1099511627776):∀ (ids:List Int) (s:km),(iY s.aw∧oX f now s.aw b.cG)→(∀ t∈s.told,t.oh=2→t.b5≤now) →
  (iY (lr b s ids).aw∧oX f now (lr b s ids).aw b.cG)∧∀ t∈(lr b s ids).told,t.oh=2→t.b5≤now
 |[],s,h,aS=>⟨h,aS⟩
 |id::ids,s,h,aS=>by
  have ao:=Q5 h.1 h.2 ag aL;have I:(iY (rD b s id).aw∧oX f now (rD b s id).aw b.cG)∧∀ t∈(rD b s id).told,t.oh=2→t.b5≤now:=by
   unfold rD;split
   ·rename_i p aE;unfold oL;split
    ·exact⟨h,aS⟩
    ·split
     ·split
      ·exact⟨⟨(h.1.now _).1,ao.1⟩,aS⟩
      ·rename_i U;refine⟨⟨(h.1.now _).1,ao.1⟩,fun t hm am=>?_⟩;rcases List.mem_append.1 hm with hm | hm
       ·exact aS t hm am
       ·rw[List.mem_singleton.1 hm];have U:(e6 s.aw b.cG).2.2=0∧p.at_<(e6 s.aw b.cG).2.1.gS:=by simpa using U
        have:=(ao.2 U.1).1;show p.at_≤now
        omega
     ·rename_i ye;refine⟨h,fun t hm am=>?_⟩;rcases List.mem_append.1 hm with hm | hm
      ·exact aS t hm am
      ·rw[List.mem_singleton.1 hm] at am;exact absurd am ye
   ·exact⟨h,aS⟩
  exact ae2 ag aL ids (rD b s id) I.1 I.2
theorem aH4(t:om o)(a:aM):om (gn o a).1:=by
 unfold gn;by_cases c:a.x.Kind=0
 ·rw[if_pos c];unfold w1;split
  ·exact t
  ·rename_i b7;have aL:=t.now;refine⟨fun b a1=>?_,fun x F am=>by have:=t.told x F am; show _≤o.now+a.x.b; omega,⟨by show 0≤o.now+a.x.b; omega,by show o.now+a.x.b≤_; omega⟩,t.kC,t.width⟩;obtain⟨i,ax,rfl⟩:=List.getElem_of_mem a1;show iY ((o.N.mapIdx _)[i]'ax).aw∧_
   rw[List.getElem_mapIdx];obtain⟨I,O⟩:=t.ok (o.N[i]'(by simpa using ax)) (List.getElem_mem _);refine⟨I,O.pass t.kC (by omega) ?_⟩;have hm:=Gz (n:=a.x.b) (by omega) (by omega) (Pf t.kC).2;unfold p0;split<;>omega
 rw[if_neg c]; clear c;by_cases c:a.x.Kind=1
 ·rw[if_pos c];unfold vv;split
  ·exact t
  ·exact t.on fun b=>alx
 rw[if_neg c]; clear c;by_cases c:a.x.Kind=2
 ·rw[if_pos c];unfold pT;split
  ·exact t
  ·exact t.on fun b=>alw
 rw[if_neg c]; clear c;by_cases c:a.x.Kind=3
 ·rw[if_pos c];unfold qD;split
  ·exact t
  ·simp only;split
   ·exact (t.on (f:=nh) fun b=>XV).aZ
   ·exact t.on fun b=>XV
 rw[if_neg c]; clear c;by_cases c:a.x.Kind=4
 ·rw[if_pos c];unfold pD;split
  ·exact t
  ·exact (t.aZ (aZ:=(o.aZ.take a.x.aO).1)).on fun b=>alu
 rw[if_neg c]; clear c;by_cases c:a.x.Kind=5
 ·rw[if_pos c];unfold xL;split
  ·exact t
  ·exact t.aZ
 rw[if_neg c]; clear c;by_cases c:a.x.Kind=6
 ·rw[if_pos c]; exact t.aZ
 rw[if_neg c]; clear c;by_cases c:a.x.Kind=7
 ·rw[if_pos c];unfold nT;split
  ·exact t
  ·exact t.aZ
 rw[if_neg c]; clear c;by_cases c:a.x.Kind=8
 ·rw[if_pos c]; exact t.S5 fun b=>⟨rfl,.inl rfl⟩
 rw[if_neg c]; clear c;by_cases c:a.x.Kind=9
 ·rw[if_pos c]; exact t.S5 fun b=>⟨rfl,.inl rfl⟩
 rw[if_neg c]; clear c;by_cases c:a.x.Kind=10
 ·rw[if_pos c]; exact t.S5 fun b=>aly
 rw[if_neg c]; clear c;by_cases c:a.x.Kind=11
 ·rw[if_pos c]; exact t.on fun b=>⟨rfl,.inl rfl⟩
 rw[if_neg c]; clear c;by_cases c:a.x.Kind=12
 ·rw[if_pos c];unfold tj;by_cases Y:fR o a.x.aO=0
  ·rw[if_neg (fun j=>j Y)];obtain⟨b,ah,a1,ag⟩:=rR Y;rw[a1];have aq:=ae2 (b:=b) t.kC t.now (eW b.P) ⟨b.aw,o.known,o.told⟩ (t.ok b (List.mem_of_getElem? a1)) t.told;refine⟨fun eF O=>?_,aq.2,t.now,t.kC,t.width⟩;rcases mem_set (N:=o.N) O with rfl | O
   ·exact aq.1
   ·exact t.ok eF O
  ·rw[if_pos Y]; exact t
 rw[if_neg c]; clear c;by_cases c:a.x.Kind=13
 ·rw[if_pos c];show om (mC o a.x.aO).1
  unfold mC;by_cases Y:fR o a.x.aO=0
  ·rw[if_neg (fun j=>j Y)];obtain⟨b,ah,a1,ag⟩:=rR Y;rw[a1];exact t.node a1 alt
  ·rw[if_pos Y]; exact t
 rw[if_neg c]; clear c;by_cases c:a.x.Kind=14
 ·rw[if_pos c]; exact t.on fun b=>⟨rfl,.inl rfl⟩
 rw[if_neg c]; clear c;by_cases c:a.x.Kind=15
 ·rw[if_pos c];show om (qK o a.x.aO _).1
  by_cases U:a.x.aO<0∨(o.N.length:Int)≤a.x.aO
  ·rw[CG U];exact t
  ·have a1:o.N[a.x.aO.toNat]?=some (o.N[a.x.aO.toNat]'(by omega)):=List.getElem?_eq_getElem (by omega);rw[zc (by omega) a1];refine⟨fun eF O=>?_,t.told,t.now,t.kC,t.width⟩;rcases mem_set (N:=o.N) O with rfl | O
   ·obtain⟨I,O⟩:=t.ok _ (List.mem_of_getElem? a1);have aL:=t.now;have hw:=t.width;exact⟨I.set ..,O.set aL.1 (by unfold EO; omega)⟩
   ·exact t.ok eF O
 rw[if_neg c]; clear c;by_cases c:a.x.Kind=16
 ·rw[if_pos c];unfold xD;split
  ·exact t
  ·exact t.on fun b=>als
 rw[if_neg c];exact t
end
def W2(js:List (Int×Int))(r:cV):Prop:=r.k=2→∀ y∈js,y.1=r.x.aC→y.2<r.t
theorem aFe{js:List (Int×Int)}{o:bD}(t:om o)(h:∀ y∈js,y.2≤o.now):∀ b∈o.N,C6 (W2 js) b:=fun b a1=>by
 obtain⟨I,O⟩:=t.ok b a1;refine⟨fun r ab O=>absurd O ab,fun x N ah _ y hm _=>?_⟩;have:=(aHt (src:=b.src) (N:=N) I O t.kC t.now).2 ah;have:=h y hm;show y.2<(gz b.aw b.cG b.src N).2.2.1
 omega
structure pv(js:List (Int×Int))(k:Nat)(o:bD):Prop where
 ci:∃ ay,gX (W2 js) k o ay
 LJ:om o
 js:∀ y∈js,y.2≤o.now
theorem Ae{o:bD}{i:Int}{f:bn→bn×Int}:(m5 o i f).1.now=o.now:=by
 unfold m5;split
 ·rfl
 ·split<;>rfl
theorem L0{o:bD}{i:Int}{f:bn→bn×Int}:(qK o i f).1.now=o.now:=by
 unfold qK;split<;>rfl
theorem aCZ(o:bD)(a:aM):o.now≤(gn o a).1.now:=by
 unfold gn;by_cases c:a.x.Kind=0
 ·rw[if_pos c];unfold w1;split
  ·exact Int.le_refl _
  ·show o.now≤o.now+a.x.b; omega
 rw[if_neg c]; clear c;by_cases c:a.x.Kind=1
 ·rw[if_pos c];unfold vv;split
  ·exact Int.le_refl _
  ·rw[Ae]; exact Int.le_refl _
 rw[if_neg c]; clear c;by_cases c:a.x.Kind=2
 ·rw[if_pos c];unfold pT;split
  ·exact Int.le_refl _
  ·rw[Ae]; exact Int.le_refl _
 rw[if_neg c]; clear c;by_cases c:a.x.Kind=3
 ·rw[if_pos c];unfold qD;split
  ·exact Int.le_refl _
  ·simp only;split
   ·show o.now≤(m5 o a.x.aO nh).1.now; rw[Ae]; exact Int.le_refl _
   ·rw[Ae]; exact Int.le_refl _
 rw[if_neg c]; clear c;by_cases c:a.x.Kind=4
 ·rw[if_pos c];unfold pD;split
  ·exact Int.le_refl _
  ·rw[Ae]; exact Int.le_refl _
 rw[if_neg c]; clear c;by_cases c:a.x.Kind=5
 ·rw[if_pos c];unfold xL;split<;>exact Int.le_refl _
 rw[if_neg c]; clear c;by_cases c:a.x.Kind=6
 ·rw[if_pos c];exact Int.le_refl _
 rw[if_neg c]; clear c;by_cases c:a.x.Kind=7
 ·rw[if_pos c];unfold nT;split<;>exact Int.le_refl _
 rw[if_neg c]; clear c;by_cases c:a.x.Kind=8
 ·rw[if_pos c];unfold pB; rw[L0]; exact Int.le_refl _
 rw[if_neg c]; clear c;by_cases c:a.x.Kind=9
 ·rw[if_pos c];unfold wo; rw[L0]; exact Int.le_refl _
 rw[if_neg c]; clear c;by_cases c:a.x.Kind=10
 ·rw[if_pos c];show o.now≤(nM o a.x.aO).1.now
  unfold nM; rw[L0]; exact Int.le_refl _
 rw[if_neg c]; clear c;by_cases c:a.x.Kind=11
 ·rw[if_pos c];unfold ue; rw[Ae]; exact Int.le_refl _
 rw[if_neg c]; clear c;by_cases c:a.x.Kind=12
 ·rw[if_pos c];unfold tj;split
  ·exact Int.le_refl _
  ·split<;>exact Int.le_refl _
 rw[if_neg c]; clear c;by_cases c:a.x.Kind=13
 ·rw[if_pos c];show o.now≤(mC o a.x.aO).1.now
  unfold mC;split
  ·exact Int.le_refl _
  ·split<;>exact Int.le_refl _
 rw[if_neg c]; clear c;by_cases c:a.x.Kind=14
 ·rw[if_pos c];unfold EF; rw[Ae]; exact Int.le_refl _
 rw[if_neg c]; clear c;by_cases c:a.x.Kind=15
 ·rw[if_pos c];unfold EN; rw[L0]; exact Int.le_refl _
 rw[if_neg c]; clear c;by_cases c:a.x.Kind=16
 ·rw[if_pos c];unfold xD;split
  ·exact Int.le_refl _
  ·rw[Ae]; exact Int.le_refl _
 rw[if_neg c]; clear c;exact Int.le_refl _
theorem pv.act{js:List (Int×Int)}{k:Nat}{o:bD}(h:pv js k o)(aq:k≤49000){a:aM}(ok:tp a.x):pv js (k+2) (gn o a).1:=by
 obtain⟨ay,a7⟩:=h.ci;obtain⟨l3,I,_⟩:=XS a7 (aFe h.LJ h.js) aq ok;exact⟨⟨l3,I⟩,aH4 h.LJ a,fun y hm=>Int.le_trans (h.js y hm) (aCZ o a)⟩
theorem pv.lH{js:List (Int×Int)}:∀ {cp:List aM} {k:Nat} {o:bD},pv js k o→qO cp→k+2*cp.length≤49000→pv js (k+2*cp.length) (qo o cp)
 |[],k,o,h,_,_=>h
 |a::cp,k,o,h,ok,aq=>by
  rw[List.length_cons] at aq ⊢;have:=pv.lH (cp:=cp) (h.act (by omega) (ok a (List.mem_cons_self ..))) (fun l ao=>ok l (List.mem_cons_of_mem _ ao)) (by omega);rw[show k+2*(cp.length+1)=k+2+2*cp.length from by omega];exact this
theorem aeR:∀ (an:List cV) (s:Int→Bool) (id:Int),(s id=true∨∃ r∈an,r.k≠1∧r.x.aC=id)→(an.foldl w5 s) id=true
 |[],s,id,h=>by
  rcases h with h | ⟨r,ab,_⟩
  ·exact h
  ·cases ab
 |r::an,s,id,h=>by
  refine aeR an (w5 s r) id ?_;unfold w5;rcases h with h | ⟨oE,ab,aq,hJ⟩
  ·left;split
   ·exact h
   ·show (id==r.x.aC||s id)=true
    rw[h,Bool.or_true]
  ·rcases List.mem_cons.1 ab with rfl | ab
   ·left;rw[if_neg aq];show (id==oE.x.aC||s id)=true
    rw[hJ]; simp
   ·exact .inr ⟨oE,ab,aq,hJ⟩
theorem gX.imp{Q W1:cV→Prop}{k:Nat}{o:bD}{ay:List fb}(h:gX Q k o ay)(f:∀ (i:Nat) (g:fb),ay[i]?=some g→∀ r∈g.an,Q r→W1 r):gX W1 k o ay:=
 ⟨h.len,h.pos,h.iN,fun i b g a1 R=>by
  have n:=h.nodes i b g a1 R
  exact⟨n.bZ,⟨fun r ab=>f i g R r ab (n.cF.q r ab),n.cF.p5,n.cF.nd,n.cF.ours,n.cF.vN,n.cF.yE,n.cF.wS,n.cF.t_,n.cF.n0⟩,n.bd⟩,h.B7,h.s_,h.aZ,h.told,h.vu,h.xa,h.now,h.width,h.eD,h.kC⟩
theorem pv.add{js:List (Int×Int)}{k:Nat}{o:bD}(h:pv js k o){id:Int}{b:bn}{p:bN}(a1:o.N[(Int.tmod id o.N.length).toNat]?=some b)(ah:0≤Int.tmod id o.N.length)(ag:b.K.down=false)(aE:b.P.lookup id=some p)(am:p.b4=0):pv ((id,o.now)::js) k o:=by
 obtain⟨ay,a7⟩:=h.ci;refine⟨⟨ay,a7.imp fun i g R r ab a8 O y hm j=>?_⟩,h.LJ,fun y hm=>?_⟩
 ·rcases List.mem_cons.1 hm with rfl | hm
  ·exfalso;have ax:=(List.getElem?_eq_some_iff.1 R).1;have O5:o.N[i]?=some (o.N[i]'(by rw[a7.len]; exact ax)):=List.getElem?_eq_getElem _;have aL:=a7.nodes i _ g O5 R;have ai:=aL.cF.ours r ab;have j:id=r.x.aC:=j;rw[← j,← a7.len] at ai;rw[ai,Int.toNat_natCast] at a1;rw[a1] at O5;rw[← Option.some.inj O5] at aL;have m:=aL.live ag;obtain⟨q,r1,he⟩:=(m.P id).1 p aE;have aG:=aeR g.an (fun _=>false) id (.inr ⟨r,ab,by omega,j.symm⟩);have zY:=aeQ aL.cF.nd aL.cF.vN g.an.length (Nat.le_refl _) id;rw[List.take_length] at zY;obtain⟨d,wz⟩:=zY aG;unfold kp at wz;rw[r1] at wz;have wz:lj q=some d:=wz;unfold lj at wz;rw[if_pos (by rw[← he.2.1]; exact am)] at wz;cases wz
  ·exact a8 O y hm j
 ·rcases List.mem_cons.1 hm with rfl | hm
  ·exact Int.le_refl _
  ·exact h.js y hm
theorem gX.plain{Q:cV→Prop}{k:Nat}{o:bD}{ay:List fb}(h:gX Q k o ay):kU k o ay:=h.imp fun _ _ _ _ _ _=>trivial
end Cluster
section
open bf
end
end Go.Proofs.YthaobmpdjcoheaaGreat
