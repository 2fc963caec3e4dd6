/- Own texts of this claim, part 13: short, merged. -/
import Derived.Test.YthaobmpdjcoheaaGreatZ12
set_option exponentiation.threshold 4000
set_option maxRecDepth 100000
set_option maxHeartbeats 40000000
set_option linter.defProp false
set_option linter.unusedVariables false
set_option linter.unusedSimpArgs false
namespace Go.Proofs.YthaobmpdjcoheaaGreat
namespace Cluster
open bj Wire Disk Vault Clock Shard Num Store
def u6(v:dl)(t:Int):Int:=(gE v).foldl (fun t h=>min t (h.b9-1)) t
def DO(b:br)(t:Int)(z:c1×q0×Int):br×Int×Int:=
 if z.2.2≠0 then ({ b with K:=z.1,W:=z.2.1 },0,z.2.2) else ({ b with K:=z.1,W:=z.2.1,src:=(oO b.src t).1 },t,0)
def xX(b:br)(s:hz×lU×Int):br×Int×Int:=
 if s.2.2≠0 then ({ b with ax:=s.1 },0,s.2.2) else DO { b with ax:=s.1 } (u6 b.W.v s.2.1.g7) (f_ b.K b.W ⟨5,u6 b.W.v s.2.1.g7,0,0,0,false⟩)
def rZ(b:br):br×Int×Int:=xX b (fj b.ax b.cO)
def mN(y:bF)(i:Int):bF×Int×Int:=if gd y i≠0 then (y,0,gd y i) else match y.N[i.toNat]? with
 |some b=>(k5 y i.toNat (rZ b).1,(rZ b).2)
 |none=>(y,0,202)
def EW(b:br)(t:Int):br×Int:=({ b with K:=(f_ b.K b.W ⟨6,t,0,0,0,false⟩).1,W:=(f_ b.K b.W ⟨6,t,0,0,0,false⟩).2.1 },(f_ b.K b.W ⟨6,t,0,0,0,false⟩).2.2)
def EV(y:bF)(i t:Int):bF×Int:=nh y i fun b=>EW b t
def p8(gF:Int)(xs:List Int)(i:Nat):Int:=match xs[i]? with
 |some k=>min (max k (0-gF)) gF
 |none=>0
def vH(d gF:Int)(xs:List Int)(i:Nat)(b:br):br:={ b with cO:=b.cO+(d-p8 gF xs i) }
def tl(d gF:Int)(xs:List Int)(D:Nat)(N:List br):List br:=N.mapIdx fun i b=>if i<D then vH d gF xs i b else b
def xf(y:bF)(d:Int)(xs:List Int):bF×Int:=
 if d<0∨1048576<d∨1099511627776<y.now+d then (y,201) else ({ y with now:=y.now+d,N:=y.N.mapIdx (vH d (ko d (oa y.eH.lc)) xs) },0)
def E4(y:bF)(off:Int):Int:=max (y.now+min (max off (0-y.eH.jQ)) y.eH.jQ) 0
def E3(y:bF)(i off:Int):bF×Int:=qR y i fun b=>({ b with ax:=(sB b.ax b.cO (E4 y off) y.eH.jQ).1 },(sB b.ax b.cO (E4 y off) y.eH.jQ).2)
theorem OJ{v:dl}(aW:Fit v){t:Int}(ah:0≤t)(I:t≤1125899906842624):0≤u6 v t∧u6 v t≤1125899906842624:=by
 have cK:∀ h∈gE v,1≤h.b9:=by
  intro h hm;unfold gE at hm;obtain⟨id,hW,rfl⟩:=List.mem_map.1 hm;obtain⟨l,he,rfl⟩:=List.mem_map.1 ((oq _).mem_iff.1 hW);have al:=Aq aW.rF he;rw[Ee al];have:=aW.ids _ _ al;have:=aW.e_.mark;omega
 unfold u6;revert cK;generalize gE v=N;induction N generalizing t with
 |nil=>intro _; exact⟨ah,I⟩
 |cons h N cq=>
  intro cK;have R:=cK h (List.mem_cons_self ..);exact cq (t:=min t (h.b9-1)) (by omega) (by omega) fun x F=>cK x (List.mem_cons_of_mem _ F)
theorem aH0{Z:Type}{f:Nat→Z→Z}{N:List Z}{D:Nat}{x:Z}(h:N[D]?=some x):(N.mapIdx fun i S=>if i<D+1 then f i S else S)=(N.mapIdx fun i S=>if i<D then f i S else S).set D (f D x):=by
 apply List.ext_getElem?;intro o;rw[List.getElem?_mapIdx,List.getElem?_set,List.getElem?_mapIdx,List.length_mapIdx];by_cases l:D=o
 ·subst l;have:=(List.getElem?_eq_some_iff.1 h).1;rw[h]; simp[this]
 ·rw[if_neg l];cases N[o]? with
  |none=>rfl
  |some S=>
   simp only[Option.map_some];by_cases c:o<D
   ·rw[if_pos (by omega),if_pos c]
   ·rw[if_neg (by omega),if_neg c]
theorem aBd{Z:Type}{f:Nat→Z→Z}(N:List Z):(N.mapIdx fun i S=>if i<0 then f i S else S)=N:=by
 apply List.ext_getElem?;intro o;rw[List.getElem?_mapIdx];cases N[o]?<;>simp
theorem aBe{Z:Type}{f:Nat→Z→Z}(N:List Z):(N.mapIdx fun i S=>if i<N.length then f i S else S)=N.mapIdx f:=by
 apply List.ext_getElem?;intro o;rw[List.getElem?_mapIdx,List.getElem?_mapIdx];cases h:N[o]? with
 |none=>rfl
 |some S=>
  have:=(List.getElem?_eq_some_iff.1 h).1;simp[this]
section
variable {A w:World} {m bX:List bE}
theorem Yg{au:Nat}{y:bF}{i:Int}(k:la y)(H:E A (cn au y::m) w):M Pg 25 [.pointer (some ⟨au,0,none⟩),.int .i64 i] (bB (B .i64) (B .i64)) w fun r J=>r=(mN y i).2∧E A (cn au (mN y i).1::m) J:=by
 obtain⟨p,am,H⟩:=lh H;refine aiy ?_;unfold VO;refine ap (sS am k.len.2 H) ?_;rintro r w (⟨I,rfl,H⟩ | ⟨I,a3,b,R,ba,a5,ag,rfl,H⟩)
 ·have l:mN y i=(y,0,gd y i):=by unfold mN; rw[if_pos I]
  rw[if_pos (by simpa using I),l];exact⟨rfl,fU am H⟩
 ·have l:mN y i=(k5 y i.toNat (rZ b).1,(rZ b).2):=by unfold mN; rw[if_neg (fun h=>h I),a5]
  rw[if_neg (by simp),l];clear l;have ok:=k.at a5;obtain⟨q,O,H⟩:=l_ H;have fin:∀ (cR:br) (gK:kT) (w:World),Fits cR gK→E A (e9 a3 cR gK (h5 au y p i.toNat m)) w→E A (cn au (k5 y i.toNat cR)::m) w:=by
   intro cR gK w O H;obtain⟨bD,H⟩:=rG am ba (hq O H);exact fU bD H
  refine dy H fun w H=>?_;refine ch rfl ?_;refine ak (x:=some ⟨q.ax,0,none⟩) 0 H rfl rfl rfl ?_;refine ak (x:=b.cO) 0 H rfl rfl rfl ?_;have ud:=ok.hK.ax.now b.cO;have hj:∀ (e:Nat) (w:World),E A (aJ e (pF.cells (fj b.ax b.cO).2.1) 137::e9 a3 { b with ax:=(fj b.ax b.cO).1 } q (h5 au y p i.toNat m)) w →
    FN (some ⟨a3,0,none⟩,0) (fj b.ax b.cO).2.2 ⟨e,0,none⟩ w fun r J=>r=(rZ b).2∧E A (cn au (k5 y i.toNat (rZ b).1)::m) J:=by
   intro e w H;unfold FN;have YM:rZ b=xX b (fj b.ax b.cO):=rfl;rw[YM];clear YM;generalize fj b.ax b.cO=s at *;obtain⟨hv,vT,l⟩:=s;simp only at H ud ⊢;by_cases ce:l=0
   ·subst ce;have G1:=ud.2 rfl;unfold nG fg at G1;rw[if_neg (by simp)];have aS:xX b (hv,vT,0)=DO { b with ax:=hv } (u6 b.W.v vT.g7) (f_ b.K b.W ⟨5,u6 b.W.v vT.g7,0,0,0,false⟩):=by unfold xX; rw[if_neg (by simp)]
    rw[aS];clear aS;refine ak (x:=vT.g7) 0 H rfl rfl rfl ?_;refine ch rfl ?_;have H:=H.drop;refine ak (x:=some ⟨q.jb,0,none⟩) 0 H rfl rfl rfl ?_;refine ap (zm (H.front 4)) ?_;rintro r w ⟨rfl,H⟩;refine ap (aad ok.hK.v (H.front 6)) ?_;intro r w H;have aa:=gG H;have apV:=PS ok.hK.v;have H:E A (row lv 135 6 r (gE b.W.v)::e9 a3 { b with ax:=hv } q (h5 au y p i.toNat m)) w:=H.ord [0,3,4,5,6,2,7,1];have r5:∀ h∈gE b.W.v,1≤h.b9∧h.b9≤1125899906842624:=by
     intro h hm;unfold gE at hm;obtain⟨id,hW,rfl⟩:=List.mem_map.1 hm;obtain⟨l,he,rfl⟩:=List.mem_map.1 ((oq _).mem_iff.1 hW);have al:=Aq ok.hK.v.rF he;rw[Ee al];have:=ok.hK.v.ids _ _ al;have:=ok.hK.v.e_.mark;have:=ok.hK.v.fQ;omega
    refine ia (fun s w=>∃ D:Nat,s.2=(D:Int)∧D≤(gE b.W.v).length∧s.1=((gE b.W.v).take D).foldl (fun t h=>min t (h.b9-1)) vT.g7∧E A (row lv 135 6 r (gE b.W.v)::e9 a3 { b with ax:=hv } q (h5 au y p i.toNat m)) w) (fun s=>((gE b.W.v).length-s.2).toNat) ⟨0,rfl,by omega,rfl,H⟩ ?_;clear H;rintro⟨t,aBP⟩ w ⟨D,G4,bT,aT,H⟩ ab cg;simp only at G4 aT;subst G4;unfold Ns;simp only;rw[aa];split
    ·rename_i U;have U:D<(gE b.W.v).length:=by
      have:(D:Int)<(gE b.W.v).length:=by simpa using U
      omega
     have aS:IntKind.i64.wrap ((D:Int)+1)=((D+1:Nat):Int):=by rw[wrap_i64 (by omega) (by omega)]; omega
     obtain⟨a,Y⟩:=k3 (i:=(D:Int)) H (by omega) (by omega);have F:(gE b.W.v)[((D:Int)).toNat]?=some ((gE b.W.v)[D]'U):=by rw[Int.toNat_natCast]; exact List.getElem?_eq_getElem U
     have iW:(gE b.W.v).take (D+1)=(gE b.W.v).take D++[(gE b.W.v)[D]'U]:=List.take_succ_eq_append_getElem U;have ao2:=r5 _ (List.getElem_mem U);generalize (gE b.W.v)[D]'U=h at F iW ao2;refine aR a Y ?_;refine aR h (my (fun _=>rfl) Y F H) ?_;refine bR H fun aJ0 w H=>?_;refine de (x:=q1) (S:=h) Ev 0 H rfl fun w H=>?_;refine ak (x:=h.b9) 0 H rfl rfl rfl ?_;rw[aS,wrap_i64 (x:=h.b9-1) (by omega) (by omega)];refine cg _ _ ⟨D+1,rfl,by omega,?_,H.drop⟩ (by simp only; omega);simp only;rw[iW,List.foldl_append,aT];rfl
    ·rename_i U;have U:D=(gE b.W.v).length:=by
      have:¬ (D:Int)<(gE b.W.v).length:=by simpa using U
      omega
     subst U;rw[List.take_length] at aT;have aT:t=u6 b.W.v vT.g7:=aT;subst aT;have aaF:=OJ ok.hK.v (t:=vT.g7) (by omega) (by omega);generalize u6 b.W.v vT.g7=t at *;have H:=H.drop;refine ak (x:=some ⟨q.jb,0,none⟩) 0 H rfl rfl rfl ?_;refine ap (DS (W:=b.W) ok.hK.K ok.hK.v (x:=⟨5,t,0,0,0,false⟩) ⟨by simp,by simp only; omega,by simp,by simp,by simp⟩ (H.ord [4,5,6,2])) ?_;rintro r w ⟨rfl,H⟩;generalize f_ b.K b.W ⟨5,t,0,0,0,false⟩=z at *;obtain⟨er,jm,l⟩:=z;simp only at H ⊢;have H:E A (e9 a3 { b with ax:=hv,K:=er,W:=jm } q (h5 au y p i.toNat m)) w:=H.ord [4,5,3,6,0,1,2];unfold DO;by_cases ce:l=0
     ·subst ce;rw[if_neg (by simp)];simp only[ne_eq,not_true_eq_false,if_false];refine ak (x:=some ⟨q.src,0,none⟩) 0 H rfl rfl rfl ?_;refine ap (KM (H.front 3)) ?_;rintro r w ⟨_,H⟩;exact⟨by trivial,fin { b with ax:=hv,K:=er,W:=jm,src:=(oO b.src t).1 } q w O (H.ord [1,2,3,0])⟩
     ·rw[if_pos (by simpa using ce)];simp only[if_pos ce];exact⟨by trivial,fin { b with ax:=hv,K:=er,W:=jm } q w O H⟩
   ·rw[if_pos (by simpa using ce)];have aS:xX b (hv,vT,l)=({ b with ax:=hv },0,l):=by unfold xX; rw[if_pos ce]
    rw[aS];exact⟨rfl,fin { b with ax:=hv } q w O H.drop⟩
  refine⟨?_,?_⟩
  ·refine ap (HT ok.hK.ax ok.hK.rd (H.front 1)) ?_;rintro r w ⟨rfl,H⟩;refine bR H fun e w H=>?_;refine de (x:=jR) (S:=(fj b.ax b.cO).2.1) po 0 H rfl fun w H=>?_;exact hj e w (H.ord [0,2,1])
  ·refine bR H fun e w H=>?_;refine ap (HT ok.hK.ax ok.hK.rd (H.front 2)) ?_;rintro r w ⟨rfl,H⟩;refine de (x:=jR) (S:=(fj b.ax b.cO).2.1) po 1 H rfl fun w H=>?_;exact hj e w (H.ord [0,2,1])
theorem aFj{au:Nat}{y:bF}{i t:Int}(k:la y)(aT:-9223372036854775808≤t∧t≤9223372036854775807)(H:E A (cn au y::m) w):M Pg 50 [.pointer (some ⟨au,0,none⟩),.int .i64 i,.int .i64 t] (B .i64) w fun r J=>r=(EV y i t).2∧E A (cn au (EV y i t).1::m) J:=by
 obtain⟨p,am,H⟩:=lh H;refine ai1 ?_;unfold Wp EV;refine ap (sS am k.len.2 H) ?_;rintro r w (⟨I,rfl,H⟩ | ⟨I,a3,b,R,ba,a5,ag,rfl,H⟩)
 ·rw[if_pos (by simpa using I),vE I];exact⟨rfl,fU am H⟩
 ·rw[if_neg (by simp),p2 R a5 ag];have ok:=k.at a5;obtain⟨q,O,H⟩:=l_ H;refine ch rfl ?_;refine ak (x:=some ⟨q.jb,0,none⟩) 0 H rfl rfl rfl ?_;refine ap (DS (W:=b.W) ok.hK.K ok.hK.v (x:=⟨6,t,0,0,0,false⟩) ⟨by simp,aT,by simp,by simp,by simp⟩ (H.ord [4,5,6,2])) ?_;rintro r w ⟨rfl,H⟩;obtain⟨bD,H⟩:=rG (cR:=(EW b t).1) am ba (hq (b:=(EW b t).1) (q:=q) O (H.ord [4,5,3,6,0,1,2]));exact⟨rfl,fU bD H⟩
theorem acS{au:Nat}{y:bF}{d:Int}{s:af}{xs:List Int}(k:la y)(fM:dr 1 m (B .i64) s xs)(rs:xs.length≤1000000)(H:E A (cn au y::m) w):M Pg 43 [.pointer (some ⟨au,0,none⟩),.int .i64 d,X.enc s] (B .i64) w fun r J=>r=(xf y d xs).2∧E A (cn au (xf y d xs).1::m) J:=by
 obtain⟨p,am,H⟩:=lh H;refine aiT ?_;unfold Wi xf;have ud:=k.now;refine aR ⟨au,0,none⟩ (fun _=>rfl) ?_;refine aR y.now (fun _=>bO (B .i64) H rfl rfl) ?_;by_cases c:d<0∨1048576<d∨1099511627776<y.now+d
 ·have GD:(((decide (d<(0:Int)))||(decide (d>(1048576:Int))))||(decide ((IntKind.i64.wrap (y.now+d))>(1099511627776:Int))))=true:=by
   simp only[Bool.or_eq_true,decide_eq_true_eq];rcases c with c | c | c
   ·exact .inl (.inl c)
   ·exact .inl (.inr c)
   ·by_cases bK:d<0∨1048576<d
    ·exact .inl bK
    ·right; rw[wrap_i64 (by omega) (by omega)]; exact c
  rw[if_pos GD,if_pos c];exact⟨rfl,fU am H⟩
 ·have hw:IntKind.i64.wrap (y.now+d)=y.now+d:=wrap_i64 (by omega) (by omega);rw[if_neg (by rw[hw]; simp only[Bool.or_eq_true,decide_eq_true_eq]; omega),if_neg c];refine ch rfl ?_;refine ak (x:=y.now) 0 H rfl rfl rfl ?_;rw[hw];refine dK (x:=y.now+d) 0 H rfl rfl (Nat.le_of_ble_eq_true rfl) fun w H=>?_;refine ak (x:=y.eH.lc) 0 H rfl rfl rfl ?_;obtain⟨cK,aak⟩:=PK k.kV;refine aR (oa y.eH.lc) cK ?_;refine ap (afu (n:=d) (by omega) (by omega) aak H) ?_;rintro r w ⟨rfl,H⟩;have aKn:=GO (n:=d) (f:=oa y.eH.lc) (by omega) (by omega) aak;refine ak (x:=p.nodes) 0 H rfl rfl rfl ?_;generalize ko d (oa y.eH.lc)=gF at *;have El:=fM.len (A:=A) (w:=w) (by exact OR 6 H);have aM:=zU am (y:=y) (m:=m) (au:=au) (w:=w) (A:=A);have mP:p.nodes.len=y.N.length:=by
   have aM:=gG (H.front 1);rw[List.length_map] at aM;rw[← am.1,List.length_map];exact aM
  have Pu:=k.len.2;have H:∃ ic:kz,ic.nodes=p.nodes∧o4 { y with now:=y.now+d,N:=tl d gF xs 0 y.N } ic∧E A (hS au { y with now:=y.now+d,N:=tl d gF xs 0 y.N } ic m) w:=⟨p,rfl,⟨by unfold tl; rw[aBd]; exact am.1,am.2⟩,H⟩
  refine ia (fun t w=>∃ D:Nat,t=(D:Int)∧D≤y.N.length∧∃ ic:kz,ic.nodes=p.nodes∧o4 { y with now:=y.now+d,N:=tl d gF xs D y.N } ic∧E A (hS au { y with now:=y.now+d,N:=tl d gF xs D y.N } ic m) w) (fun t=>(y.N.length-t).toNat) ⟨0,rfl,by omega,H⟩ ?_;clear H;rintro t w ⟨D,rfl,bT,ic,Qe,Eg,H⟩ ab cg;unfold ND;rw[mP];split
  ·rename_i U;have U:D<y.N.length:=by
    have:(D:Int)<y.N.length:=by simpa using U
    omega
   have aS:IntKind.i64.wrap ((D:Int)+1)=((D+1:Nat):Int):=by rw[wrap_i64 (by omega) (by omega)]; omega
   have yc:y.N[D]?=some (y.N[D]'U):=List.getElem?_eq_getElem U;have H1:=k.at yc;generalize y.N[D]'U=b at yc H1;have aoY:(tl d gF xs D y.N)[D]?=some b:=by unfold tl; rw[List.getElem?_mapIdx,yc]; simp
   have Px:ic.Q.length=y.N.length:=by rw[← List.length_map (f:=Prod.snd),Eg.1]; unfold tl; simp
   have qm:ic.Q[D]?=some (ic.Q[D]'(by omega)):=List.getElem?_eq_getElem (by omega);generalize ic.Q[D]'(by omega)=t at qm;obtain⟨a3,eS⟩:=t;have:eS=b:=by
    have aK:(ic.Q.map Prod.snd)[D]?=some eS:=by rw[List.getElem?_map,qm]; rfl
    have bp:=Eg.1;simp only at bp;rw[bp,aoY] at aK;cases aK; rfl
   subst this;have Ah:tl d gF xs (D+1) y.N=(tl d gF xs D y.N).set D (vH d gF xs D eS):=aH0 (f:=vH d gF xs) yc;obtain⟨a,Y⟩:=k3 (i:=(D:Int)) (H.front 1) (by omega) (by rw[List.length_map]; omega);rw[Qe] at Y;refine aR a Y ?_;refine aR (some ⟨a3,0,none⟩) (by rw[← Qe] at Y; exact my (fun _=>rfl) Y (by rw[Int.toNat_natCast,List.getElem?_map,qm]; rfl) (H.front 1)) ?_;have vt:∀ w,E A (hS au { y with now:=y.now+d,N:=tl d gF xs D y.N } ic m) w→FP d (D:Int) (some ⟨a3,0,none⟩) (p8 gF xs D) w ab fun r J=>r=(0:Int)∧E A (cn au { y with now:=y.now+d,N:=y.N.mapIdx (vH d gF xs) }::m) J:=by
    intro w H;unfold FP;refine ch rfl ?_;obtain⟨q,O,H⟩:=l_ (EF qm H);refine ak (x:=eS.cO) 0 H rfl rfl rfl ?_;have aKB:-2097152≤p8 gF xs D∧p8 gF xs D≤2097152:=by unfold p8; split<;>omega
    have qn:=H1.hK.rd;rw[wrap_i64 (x:=d-p8 gF xs D) (by omega) (by omega),wrap_i64 (x:=eS.cO+(d-p8 gF xs D)) (by omega) (by omega)];refine dK (x:=eS.cO+(d-p8 gF xs D)) 0 H rfl rfl (Nat.le_of_ble_eq_true rfl) fun w H=>?_;obtain⟨bD,H⟩:=rG (y:={ y with now:=y.now+d,N:=tl d gF xs D y.N }) (cR:=vH d gF xs D eS) Eg qm (hq (b:=vH d gF xs D eS) (q:=q) O H);rw[aS];refine cg _ _ ⟨D+1,rfl,by omega,{ ic with Q:=ic.Q.set D (a3,vH d gF xs D eS) },Qe,?_,?_⟩ (by omega)
    ·rw[Ah]; exact bD
    ·rw[Ah]; exact H
   rw[El];split
   ·rename_i hI;have hI:D<xs.length:=by
     have:(D:Int)<xs.length:=by simpa using hI
     omega
    have ff:E A m w:=OR 6 H;obtain⟨a1,oM⟩:=fM.iH (i:=(D:Int)) ff (by omega) (by omega);refine aR a1 oM ?_;have asA:xs[((D:Int)).toNat]?=some (xs[D]'hI):=by rw[Int.toNat_natCast]; exact List.getElem?_eq_getElem hI
    refine aR (xs[D]'hI) (fM.rd oM asA ff) ?_;have es:p8 gF xs D=min (max (xs[D]'hI) (0-gF)) gF:=by unfold p8; rw[List.getElem?_eq_getElem hI]
    rw[wrap_i64 (x:=0-gF) (by omega) (by omega)];have:=vt w H;rw[es] at this;exact this
   ·rename_i hI;have hI:xs.length≤D:=by
     have:¬ (D:Int)<xs.length:=by simpa using hI
     omega
    have es:p8 gF xs D=0:=by unfold p8; rw[List.getElem?_eq_none hI]
    have:=vt w H;rw[es] at this;exact this
  ·rename_i U;have U:D=y.N.length:=by
    have:¬ (D:Int)<y.N.length:=by simpa using U
    omega
   subst U;unfold tl at Eg H;rw[aBe] at Eg H;exact⟨rfl,fU Eg H⟩
theorem aHq{au:Nat}{y:bF}{i off:Int}(k:la y)(H:E A (cn au y::m) w):M Pg 51 [.pointer (some ⟨au,0,none⟩),.int .i64 i,.int .i64 off] (B .i64) w fun r J=>r=(E3 y i off).2∧E A (cn au (E3 y i off).1::m) J:=by
 obtain⟨p,am,H⟩:=lh H;refine ai2 ?_;unfold Wq E3 qR;have ud:=k.now;have aKD:=k.width;have aM:=zU am H;have aM:p.nodes.len=y.N.length:=aM;refine aR ⟨au,0,none⟩ (fun _=>rfl) ?_;refine aR p.nodes (fun _=>bO X H rfl rfl) ?_;rw[aM];by_cases c:i<0∨(y.N.length:Int)≤i
 ·rw[if_pos (by simp only[Bool.or_eq_true,decide_eq_true_eq]; omega)];have l:(if i<0 then none else y.N[i.toNat]?)=none:=by
   by_cases ah:i<0
   ·rw[if_pos ah]
   ·rw[if_neg ah,List.getElem?_eq_none (by omega)]
  rw[l];exact⟨rfl,fU am H⟩
 ·rw[if_neg (by simp only[Bool.or_eq_true,decide_eq_true_eq]; omega)];have F:y.N[i.toNat]?=some (y.N[i.toNat]'(by omega)):=List.getElem?_eq_getElem (by omega);generalize y.N[i.toNat]'(by omega)=b at F;have l:(if i<0 then none else y.N[i.toNat]?)=some b:=by rw[if_neg (by omega),F]
  rw[l];have Px:p.Q.length=y.N.length:=by rw[← am.1,List.length_map]
  have qm:p.Q[i.toNat]?=some (p.Q[i.toNat]'(by omega)):=List.getElem?_eq_getElem (by omega);generalize p.Q[i.toNat]'(by omega)=t at qm;obtain⟨a3,eS⟩:=t;have:eS=b:=by
   have aK:(p.Q.map Prod.snd)[i.toNat]?=some eS:=by rw[List.getElem?_map,qm]; rfl
   rw[am.1,F] at aK;cases aK; rfl
  subst this;refine ch rfl ?_;refine ak (x:=y.eH.jQ) 0 H rfl rfl rfl ?_;refine dy H fun w H=>?_;obtain⟨a,Y⟩:=k3 (i:=i) (H.front 1) (by omega) (by rw[List.length_map]; omega);obtain⟨q,O,H⟩:=l_ (EF qm H);have qn:∀ {w:World} {b:br},E A (e9 a3 b q (h5 au y p i.toNat m)) w→L aE a w (some ⟨a3,0,none⟩):=fun H=>my (fun _=>rfl) Y (by rw[List.getElem?_map,qm]; rfl) (H.front 13);refine ak (x:=p.nodes) 12 H rfl rfl rfl ?_;refine aR a Y ?_;refine aR _ (qn H) ?_;refine ch rfl ?_;refine ak (x:=some ⟨q.ax,0,none⟩) 0 H rfl rfl rfl ?_;refine ak (x:=p.nodes) 12 H rfl rfl rfl ?_;refine aR a Y ?_;refine aR _ (qn H) ?_;refine ch rfl ?_;refine ak (x:=eS.cO) 0 H rfl rfl rfl ?_;refine ak (x:=y.now) 12 H rfl rfl rfl ?_;rw[wrap_i64 (x:=0-y.eH.jQ) (by omega) (by omega),wrap_i64 (x:=y.now+min (max off (0-y.eH.jQ)) y.eH.jQ) (by omega) (by omega)];refine ap (aeX (h:=eS.cO) (t:=E4 y off) (l:=y.eH.jQ) (H.front 1)) ?_
  rintro r w ⟨rfl,H⟩;have H:E A (e9 a3 { eS with ax:=(sB eS.ax eS.cO (E4 y off) y.eH.jQ).1 } q (h5 au y p i.toNat m)) w:=H.ord [1,0];refine⟨bO X (H.front 12) rfl rfl,qn H,bO X (H.front 12) rfl rfl,qn H,bO (B .i64) (H.front 12) rfl rfl,?_⟩;obtain⟨bD,H⟩:=rG (cR:={ eS with ax:=(sB eS.ax eS.cO (E4 y off) y.eH.jQ).1 }) am qm (hq O H);exact⟨rfl,fU bD H⟩
end
def E9(v:List fu)(i:Nat):Int:=((v[i]?).map fun x=>x.aZ).getD 0
def Gx(e:List UInt8):c5:=⟨E9 (j1 e).1 0,⟨E9 (j1 e).1 1,E9 (j1 e).1 2,E9 (j1 e).1 3,E9 (j1 e).1 4⟩,E9 (j1 e).1 5⟩
theorem Yt{r:c5}(h:o5 r):Gx (fV r)=r:=by
 unfold Gx;rw[afD h];rfl
def um(K:c1)(n:Nat):ed:=(K.c3[n]?).getD ⟨[],0⟩
def Je(K:c1):Prop:=∃ cX bD xs an,K.c3[0]?=some cX∧K.c3[1]?=some bD∧sX (scan cX.e).1=some xs∧(scan bD.e).1=an.map fV∧qY an
def zl(f:Nat)(b:br)(xs:List dW)(an:List c5)(z:c1×Int):br×Int:=if z.2≠0 then ({ b with K:=z.1 },z.2) else (zr b.ax b.cO z.1 f xs an,0)
def zk(f:Nat)(b:br)(xs:List dW)(an:List c5)(bD:ed)(z:c1×Int):br×Int:=if z.2≠0 then ({ b with K:=z.1 },z.2) else zl f b xs an (dq z.1 1 bD)
def ik(K:c1):c1:={ K with down:=false }
def o0(f:Nat)(b:br):br×Int:=if b.K.down=true then
  zk f b ((sX (scan (um b.K 0).e).1).getD []) ((scan (um b.K 1).e).1.map Gx) (um b.K 1) (dq (ik b.K) 0 (um b.K 0))
 else (b,0)
def nX(y:bF)(i:Int):bF×Int:=qR y i (o0 y.eH.gP)
def n4(y:bF)(i:Int)(q:Bool):bF×Int:=if i<0∨(y.N.length:Int)≤i then (y,202) else
 ({ y with a2:=if y.a2.has i=true then { y.a2 with off:=fun S=>if S==i then q else y.a2.off S } else y.a2 },0)
def pL(y:bF)(i act:Int)(bI:List Int):bF×Int:=qR y i fun b=>({ b with K:={ b.K with et:=max act 0,bI:=bI } },0)
def wH(y:bF)(i:Int)(bI:List Int):bF×Int:=qR y i fun b=>({ b with K:=hT bI b.K },0)
theorem CZ{y:bF}{i:Int}{f:br→br×Int}(h:i<0∨(y.N.length:Int)≤i):qR y i f=(y,202):=by
 unfold qR;have l:(if i<0 then none else y.N[i.toNat]?)=none:=by
  by_cases ah:i<0
  ·rw[if_pos ah]
  ·rw[if_neg ah,List.getElem?_eq_none (by omega)]
 rw[l]
theorem zs{y:bF}{i:Int}{f:br→br×Int}{b:br}(ah:0≤i)(h:y.N[i.toNat]?=some b):qR y i f=(k5 y i.toNat (f b).1,(f b).2):=by
 unfold qR;rw[if_neg (by omega),h]
section
variable {A w:World} {m bX:List bE}
theorem Mq{au:Nat}{y:bF}{p:kz}{i:Int}{hV:cw}{ab:World→Prop}(am:o4 y p)
  (U:∀ a3 b w,0≤i→p.Q[i.toNat]?=some (a3,b)→y.N[i.toNat]?=some b→E A (hS au y p m) w→sV Pg hV [.pointer (some (⟨a3,0,none⟩:Addr))] eh w fun _ J=>ab J) (H:E A (hS au y p m) w) :
  M Pg 67 [.pointer (some ⟨au,0,none⟩),.int .i64 i,hV.enc] (B .i64) w fun r J=>((i<0∨(y.N.length:Int)≤i)∧r=202∧E A (hS au y p m) J)∨((0≤i∧i<y.N.length)∧r=0∧ab J):=by
 refine aji ?_;unfold WE;have aM:p.nodes.len=y.N.length:=zU am H;refine aR ⟨au,0,none⟩ (fun _=>rfl) ?_;refine aR p.nodes (fun _=>bO X H rfl rfl) ?_;rw[aM];by_cases c:i<0∨(y.N.length:Int)≤i
 ·rw[if_pos (by simp only[Bool.or_eq_true,decide_eq_true_eq]; omega)];exact .inl ⟨c,rfl,H⟩
 ·rw[if_neg (by simp only[Bool.or_eq_true,decide_eq_true_eq]; omega)];have F:y.N[i.toNat]?=some (y.N[i.toNat]'(by omega)):=List.getElem?_eq_getElem (by omega);generalize y.N[i.toNat]'(by omega)=b at F;have Px:p.Q.length=y.N.length:=by rw[← am.1,List.length_map]
  have qm:p.Q[i.toNat]?=some (p.Q[i.toNat]'(by omega)):=List.getElem?_eq_getElem (by omega);generalize p.Q[i.toNat]'(by omega)=t at qm;obtain⟨a3,eS⟩:=t;have:eS=b:=by
   have aK:(p.Q.map Prod.snd)[i.toNat]?=some eS:=by rw[List.getElem?_map,qm]; rfl
   rw[am.1,F] at aK;cases aK; rfl
  subst this;refine ch rfl ?_;refine ak (x:=p.nodes) 0 H rfl rfl rfl ?_;obtain⟨a,Y⟩:=k3 (i:=i) (H.front 1) (by omega) (by rw[List.length_map]; omega);refine aR a Y ?_;refine aR (some ⟨a3,0,none⟩) (my (fun _=>rfl) Y (by rw[List.getElem?_map,qm]; rfl) (H.front 1)) ?_;refine OK (U a3 eS w (by omega) qm F H) ?_;intro _ w cg;exact .inr ⟨by omega,rfl,cg⟩
theorem Yk{au:Nat}{y:bF}{i:Int}{q:Bool}(k:la y)(H:E A (cn au y::m) w):M Pg 31 [.pointer (some ⟨au,0,none⟩),.int .i64 i,.bool q] (B .i64) w fun r J=>r=(n4 y i q).2∧E A (cn au (n4 y i q).1::m) J:=by
 obtain⟨p,am,H⟩:=lh H;refine aiG ?_;unfold V6;refine bR H fun a9 w H=>?_;refine bR H fun b2 w H=>?_;refine bR H fun cZ w H=>?_;refine ak (x:=(some ⟨au,0,none⟩:Option Addr)) 2 H rfl rfl rfl ?_;refine ak (x:=i) 1 H rfl rfl rfl ?_;have H:E A (hS au y p (aJ cZ (bo.cells q) 4::aJ b2 ((B .i64).cells i) 3::aJ a9 (aE.cells (some ⟨au,0,none⟩)) 26::m)) w:=H.ord [3,4,5,6,7,8];refine ap (Mq (hV:=cw.mk (.func 68) (List.toArray []) (List.toArray [.pointer (some ⟨a9,0,none⟩),.pointer (some ⟨b2,0,none⟩),.pointer (some ⟨cZ,0,none⟩)])) (ab:=fun w=>∃ gl,gl={ y with a2:=if y.a2.has i=true then { y.a2 with off:=fun S=>if S==i then q else y.a2.off S } else y.a2 }∧E A (cn au gl::m) w) am ?_ H) ?_
 ·intro a3 b w ah ba a5 H;refine⟨68,[],[.pointer (some ⟨a9,0,none⟩),.pointer (some ⟨b2,0,none⟩),.pointer (some ⟨cZ,0,none⟩)],rfl,anL,?_⟩;refine ajj ?_;unfold WG;refine dy H fun w H=>?_;refine ak (x:=(some ⟨au,0,none⟩:Option Addr)) 8 H rfl rfl rfl ?_;refine ch rfl ?_;refine ak (x:=some ⟨p.a2,0,none⟩) 0 H rfl rfl rfl ?_;refine ak (x:=i) 7 H rfl rfl rfl ?_;refine ak (x:=q) 6 H rfl rfl rfl ?_;refine ap (Post.amp (H.front 3) i q) ?_;rintro r w ⟨_,H⟩;refine⟨bO aE (H.front 8) rfl rfl,?_⟩;refine⟨_,rfl,fU (y:={ y with a2:=if y.a2.has i=true then { y.a2 with off:=fun S=>if S==i then q else y.a2.off S } else y.a2 }) am ((H.ord [6,7,8]).drop.drop.drop.ord [1,2,3])⟩
 ·rintro r w (⟨I,rfl,H⟩ | ⟨I,rfl,gl,rfl,H⟩)
  ·have l:n4 y i q=(y,202):=by unfold n4; rw[if_pos I]
   rw[l];exact⟨rfl,fU am ((H.ord [6,7,8]).drop.drop.drop)⟩
  ·have l:n4 y i q=({ y with a2:=if y.a2.has i=true then { y.a2 with off:=fun S=>if S==i then q else y.a2.off S } else y.a2 },0):=by unfold n4; rw[if_neg (by omega)]
   rw[l];exact⟨rfl,H⟩
theorem XM{au:Nat}{y:bF}{i act:Int}{s:af}{bI:List Int}(k:la y)(fM:dr 1 m (B .i64) s bI)(aq:bI.length≤1000000)(H:E A (cn au y::m) w):M Pg 32 [.pointer (some ⟨au,0,none⟩),.int .i64 i,.int .i64 act,X.enc s] (B .i64) w fun r J=>r=(pL y i act bI).2∧E A (cn au (pL y i act bI).1::m) J:=by
 obtain⟨p,am,H⟩:=lh H;refine aiH ?_;unfold V7;refine bR H fun b1 w H=>?_;refine bR H fun cj w H=>?_;have H:E A (hS au y p (aJ cj (X.cells s) 33::aJ b1 ((B .i64).cells act) 3::m)) w:=H.ord [2,3,4,5,6,7];refine ap (Mq (hV:=cw.mk (.func 70) (List.toArray []) (List.toArray [.pointer (some ⟨b1,0,none⟩),.pointer (some ⟨cj,0,none⟩)])) (ab:=fun w=>E A (cn au (pL y i act bI).1::m) w∧(pL y i act bI).2=0) am ?_ H) ?_
 ·intro a3 b w ah ba a5 H;refine⟨70,[],[.pointer (some ⟨b1,0,none⟩),.pointer (some ⟨cj,0,none⟩)],rfl,anM,?_⟩;refine ajm ?_;unfold WJ;refine dy H fun w H=>?_;refine ch rfl ?_;have H:=(H.ord [6,7]).ord [2,3,4,5,6,7,0,1];obtain⟨q,O,H⟩:=l_ (EF ba H);refine ak (x:=some ⟨q.d,0,none⟩) 0 H rfl rfl rfl ?_;refine ak (x:=act) 19 H rfl rfl rfl ?_;refine ak (x:=s) 18 H rfl rfl rfl ?_;refine ap (akF (n:=act) aq (fM.mo [_,_,_,_,_,_,_,_,_,_,_,_,_,_,_,_,_,_,_]) (H.front 2)) ?_;rintro r w H;have l:pL y i act bI=(k5 y i.toNat { b with K:={ b.K with et:=max act 0,bI:=bI } },0):=by unfold pL; rw[zs ah a5]
  rw[l];obtain⟨bD,H⟩:=rG (cR:={ b with K:={ b.K with et:=max act 0,bI:=bI } }) am ba (hq (q:=q) O (H.ord [1,2,0]));exact⟨fU bD ((H.ord [6,7]).drop.drop),rfl⟩
 ·rintro r w (⟨I,rfl,H⟩ | ⟨I,rfl,H,R⟩)
  ·have l:pL y i act bI=(y,202):=CZ I;rw[l];exact⟨rfl,fU am ((H.ord [6,7]).drop.drop)⟩
  ·exact⟨R.symm,H⟩
theorem aml{au:Nat}{y:bF}{i:Int}{s:af}{bI:List Int}(k:la y)(fM:dr 1 m (B .i64) s bI)(H:E A (cn au y::m) w):M Pg 48 [.pointer (some ⟨au,0,none⟩),.int .i64 i,X.enc s] (B .i64) w fun r J=>r=(wH y i bI).2∧E A (cn au (wH y i bI).1::m) J:=by
 obtain⟨p,am,H⟩:=lh H;refine aiY ?_;unfold Wn;refine bR H fun a9 w H=>?_;have H:E A (hS au y p (aJ a9 (X.cells s) 33::m)) w:=H.ord [1,2,3,4,5,6];refine ap (Mq (hV:=cw.mk (.func 102) (List.toArray []) (List.toArray [.pointer (some ⟨a9,0,none⟩)])) (ab:=fun w=>E A (cn au (wH y i bI).1::m) w∧(wH y i bI).2=0) am ?_ H) ?_
 ·intro a3 b w ah ba a5 H;refine⟨102,[],[.pointer (some ⟨a9,0,none⟩)],rfl,amX,?_⟩;refine agq ?_;unfold TT;refine dy H fun w H=>?_;refine ch rfl ?_;obtain⟨q,O,H⟩:=l_ (EF ba H);refine ak (x:=some ⟨q.d,0,none⟩) 0 H rfl rfl rfl ?_;refine ak (x:=s) 18 H rfl rfl rfl ?_;refine ap (Disk.amm (k.at a5).hK.K (fM.mo [_,_,_,_,_,_,_,_,_,_,_,_,_,_,_,_,_,_]) (H.front 2)) ?_;rintro r w H;have l:wH y i bI=(k5 y i.toNat { b with K:=hT bI b.K },0):=by unfold wH; rw[zs ah a5]
  rw[l];obtain⟨bD,H⟩:=rG (cR:={ b with K:=hT bI b.K }) am ba (hq (q:=q) O (H.ord [1,2,0]));exact⟨fU bD ((H.ord [6]).drop),rfl⟩
 ·rintro r w (⟨I,rfl,H⟩ | ⟨I,rfl,H,R⟩)
  ·have l:wH y i bI=(y,202):=CZ I;rw[l];exact⟨rfl,fU am ((H.ord [6]).drop)⟩
  ·exact⟨R.symm,H⟩
end
theorem KW{K:c1}{n:Nat}{g:ed}(h:K.c3[n]?=some g):um K n=g:=by unfold um; rw[h]; rfl
abbrev zJ:=mL
abbrev sR:=qj
abbrev kA:=fK
abbrev Dx:=h2
def o7(an:List zJ)(at_:Int)(uP:List (List kA))(aZ:cD):Prop:=an.length=uP.length∧∀ (i:Nat) (r:zJ) (N:List kA),an[i]?=some r→uP[i]?=some N→r.wa=at_∧dd Dx r.N N aZ
theorem o7.mono{an:List zJ}{at_:Int}{uP:List (List kA)}{aZ ho:cD}(h:cD.le aZ ho):o7 an at_ uP aZ→o7 an at_ uP ho:=fun ⟨I,R⟩=>⟨I,fun i r N aa kX=>⟨(R i r N aa kX).1,dd.mono h (R i r N aa kX).2⟩⟩
def uz(an:List zJ)(at_:Int)(uP:List (List kA)):bE:=r1 (o7 an at_ uP) o7.mono
theorem o7.push{an:List zJ}{at_:Int}{uP:List (List kA)}{q:af}{N:List kA}{aZ:cD}(h:o7 an at_ uP aZ)(aa:dd Dx q N aZ):o7 (an++[⟨at_,q⟩]) at_ (uP++[N]) aZ:=by
 refine⟨by simp[h.1],fun i r Xj ue GR=>?_⟩;by_cases c:i<an.length
 ·rw[List.getElem?_append_left c] at ue;rw[List.getElem?_append_left (by rw[← h.1]; exact c)] at GR;exact h.2 i r Xj ue GR
 ·rw[List.getElem?_append_right (by omega)] at ue;rw[List.getElem?_append_right (by rw[← h.1]; omega)] at GR;have hU:i-an.length=0:=by
   rcases Nat.eq_zero_or_pos (i-an.length) with l | l
   ·exact l
   ·rw[List.getElem?_eq_none (by simp; omega)] at ue; cases ue
  have aS:i-uP.length=0:=by rw[← h.1]; exact hU
  rw[hU] at ue;rw[aS] at GR;cases ue; cases GR;exact⟨rfl,aa⟩
noncomputable def nT(at_:Int):List br→List (List kA)×Int
 |[]=>([],0)
 |b::N=>if b.K.down=true then ([],203) else if xr (rL b.W.v.W at_)≠0 then ([],xr (rL b.W.v.W at_)) else
  if (nT at_ N).2≠0 then ([],(nT at_ N).2) else (ns b.W.v.W at_::(nT at_ N).1,0)
noncomputable def vO(y:bF)(at_:Int):List (List kA)×Int:=nT at_ y.N
theorem SD{at_:Int}{aV:List br}:∀ {aQ:List br},(∀ b∈aQ,b.K.down=false∧xr (rL b.W.v.W at_)=0)→nT at_ (aQ++aV)=if (nT at_ aV).2≠0 then ([],(nT at_ aV).2) else (aQ.map (fun b=>ns b.W.v.W at_)++(nT at_ aV).1,0)
 |[],_=>by
  have key:∀ N:List br,(nT at_ N).2≠0→(nT at_ N).1=[]:=by
   intro N h;cases N with
   |nil=>exact absurd rfl h
   |cons b N=>
    unfold nT at h ⊢;split
    ·rfl
    ·rename_i I;rw[if_neg I] at h;split
     ·rfl
     ·rename_i R;rw[if_neg R] at h;split
      ·rfl
      ·rename_i aK;rw[if_neg aK] at h;exact absurd rfl h
  simp only[List.nil_append,List.map_nil];split
  ·rename_i h;rw[← key aV h]
  ·rename_i h;have h:=Classical.not_not.1 h;rw[← h]
 |b::aQ,h=>by
  obtain⟨I,R⟩:=h b (List.mem_cons_self ..);have cq:=SD (aV:=aV) (aQ:=aQ) fun x F=>h x (List.mem_cons_of_mem _ F);rw[List.cons_append]
  conv=>lhs; unfold nT
  rw[if_neg (by simp[I]),if_neg (by simp[R]),cq];by_cases c:(nT at_ aV).2≠0
  ·simp only[if_pos c]
  ·simp only[if_neg c,ne_eq,not_true_eq_false,if_false];rfl
section
variable {A w:World} {m bX:List bE}
theorem afH{au:Nat}{y:bF}{i:Int}(k:la y)(P4:∀ b∈y.N,Je b.K)(H:E A (cn au y::m) w):M Pg 33 [.pointer (some ⟨au,0,none⟩),.int .i64 i] (B .i64) w fun r J=>r=max (nX y i).2 0∧E A (cn au (nX y i).1::m) J:=by
 obtain⟨p,am,H⟩:=lh H;refine aiI ?_;unfold V8;refine bR H fun aA w H=>?_;refine bR H fun b1 w H=>?_;refine dK (x:=(0:Int)) 0 H rfl rfl (Nat.le_of_ble_eq_true rfl) fun w H=>?_;refine ak (x:=(some ⟨au,0,none⟩:Option Addr)) 1 H rfl rfl rfl ?_;have H:E A (hS au y p (aJ b1 ((B .i64).cells 0) 43::aJ aA (aE.cells (some ⟨au,0,none⟩)) 26::m)) w:=H.ord [2,3,4,5,6,7];refine ap (Mq (hV:=cw.mk (.func 72) (List.toArray []) (List.toArray [.pointer (some ⟨aA,0,none⟩),.pointer (some ⟨b1,0,none⟩)])) (ab:=fun w=>E A (aJ b1 ((B .i64).cells (nX y i).2) 43::cn au (nX y i).1::m) w) am ?_ H) ?_
 ·intro a3 b w ah ba a5 H;refine⟨72,[],[.pointer (some ⟨aA,0,none⟩),.pointer (some ⟨b1,0,none⟩)],rfl,anN,?_⟩;refine ajo ?_;unfold WL;refine ch rfl ?_;obtain⟨q,O,H⟩:=l_ (EF ba H);have ok:=k.at a5;have l:nX y i=(k5 y i.toNat (o0 y.eH.gP b).1,(o0 y.eH.gP b).2):=by unfold nX; rw[zs ah a5]
  rw[l];clear l;have fin:∀ (cR:br) (l:Int) (w:World),E A (kr a3 cR::aJ au (gY.cells (iU y p)) 114::row aE 89 1 p.nodes (p.Q.map k0)::dH ((p.Q.eraseIdx i.toNat).map hB)::Post.h0 p.a2 y.a2::dh fF .i64 p.kZ p.rB::row kB 53 3 p.told y.told::aJ b1 ((B .i64).cells l) 43::aJ aA (aE.cells (some ⟨au,0,none⟩)) 26::m) w→E A (aJ b1 ((B .i64).cells l) 43::cn au (k5 y i.toNat cR)::m) w:=by
   intro cR l w H;obtain⟨bD,H⟩:=rG am ba H;have H:=fU bD ((H.ord [7]).drop);exact H.front 1
  refine ak (x:=some ⟨q.d,0,none⟩) 0 H rfl rfl rfl ?_;refine ap (DT (H.front 2)) ?_;rintro r w ⟨rfl,H⟩;by_cases ag:b.K.down=true
  ·rw[if_pos ag];obtain⟨cX,bD,xs,an,yw,rp,rs,Ks,ph⟩:=P4 b (List.mem_of_getElem? a5);have kK:∀ r∈an,o5 r:=by
    intro r aa;obtain⟨D,bT,rfl⟩:=List.getElem_of_mem aa;exact (ph D _ (List.getElem?_eq_getElem bT)).1
   have OX:(scan bD.e).1.map Gx=an:=by
    rw[Ks,List.map_map]
    conv=>rhs; rw[← List.map_id an]
    exact List.map_congr_left fun r aa=>Yt (kK r aa)
   have l:o0 y.eH.gP b=zk y.eH.gP b xs an bD (dq (ik b.K) 0 cX):=by
    unfold o0;rw[if_pos ag,KW yw,KW rp,rs,OX];rfl
   rw[l];clear l;refine ak (x:=some ⟨q.d,0,none⟩) 1 H rfl rfl rfl ?_;refine ap (aIJ H) ?_;intro _ w H;refine ak (x:=(some ⟨au,0,none⟩:Option Addr)) 19 H rfl rfl rfl ?_;have dA:(ik b.K).hP:=⟨ok.hK.K.len,ok.hK.K.log⟩
   refine ap (af5 (au:=au) (a3:=a3) (c:=iU y p) (x:=oh b q) (ax:=b.ax) (K:=ik b.K) (cX:=cX) (bD:=bD) (xs:=xs) (an:=an) rfl rfl k.eR dA rfl yw rs rp Ks ph (H.ord [12,1,2,0])) ?_;rintro r w ⟨dL,cG,bl⟩;have old:∀ (er:c1) (w:World),E A (aJ au (gY.cells (iU y p)) 114::aJ a3 (kk.cells (oh b q)) 101::kn q.ax b.ax::eN q.d er::oX q.src b.src::kN q.jb q.fr q.dC::il q.fr q.d b.W.V::e6 q.dC b.W.v::il q.cN q.d b.A::dh aE .i64 q.jY (q.Q.map jj)::dH (q.Q.map mb)::dh fF .i64 q.pv q.qJ::row mM 161 8 q.out b.out::row aE 89 1 p.nodes (p.Q.map k0)::dH ((p.Q.eraseIdx i.toNat).map hB)::Post.h0 p.a2 y.a2::dh fF .i64 p.kZ p.rB::row kB 53 3 p.told y.told::aJ b1 ((B .i64).cells 0) 43::aJ aA (aE.cells (some ⟨au,0,none⟩)) 26::m) w →
     ∀ l:Int,bi (B .i64) ⟨b1,0,none⟩ l w fun J=>E A (aJ b1 ((B .i64).cells l) 43::cn au (k5 y i.toNat { b with K:=er })::m) J:=by
    intro er w H l;have H:=hq (b:={ b with K:=er }) (q:=q) O (H.ord [1,2,3,4,5,6,7,8,9,10,11,12]);refine de (x:=(0:Int)) (S:=l) (n:=1) (fun _=>rfl) 7 H rfl fun w H=>?_;exact fin { b with K:=er } l w (H.ord [1,2,3,4,5,6,7,0])
   by_cases cb:(dq (ik b.K) 0 cX).2=0
   ·have aS:zk y.eH.gP b xs an bD (dq (ik b.K) 0 cX)=zl y.eH.gP b xs an (dq (dq (ik b.K) 0 cX).1 1 bD):=by unfold zk; rw[if_neg (fun h=>h cb)]
    rw[aS];by_cases bx:(dq (dq (ik b.K) 0 cX).1 1 bD).2=0
    ·obtain⟨rfl,H⟩:=bl cb bx;have bb:zl y.eH.gP b xs an (dq (dq (ik b.K) 0 cX).1 1 bD)=(zr b.ax b.cO (dq (dq (ik b.K) 0 cX).1 1 bD).1 y.eH.gP xs an,0):=by unfold zl; rw[if_neg (fun h=>h bx)]
     rw[bb];have H:=(H.ord [2,3,4,5,6,7,8,9,10]).drop.drop.drop.drop.drop.drop.drop.drop.drop;refine de (x:=(0:Int)) (S:=(0:Int)) (n:=1) (fun _=>rfl) 7 H rfl fun w H=>?_;exact fin _ 0 w (H.ord [2,1,3,4,5,6,7,0])
    ·obtain⟨rfl,H⟩:=cG cb bx;have bb:zl y.eH.gP b xs an (dq (dq (ik b.K) 0 cX).1 1 bD)=({ b with K:=(dq (dq (ik b.K) 0 cX).1 1 bD).1 },(dq (dq (ik b.K) 0 cX).1 1 bD).2):=by unfold zl; rw[if_pos bx]
     rw[bb];exact old _ w H _
   ·obtain⟨rfl,H⟩:=dL cb;have aS:zk y.eH.gP b xs an bD (dq (ik b.K) 0 cX)=({ b with K:=(dq (ik b.K) 0 cX).1 },(dq (ik b.K) 0 cX).2):=by unfold zk; rw[if_pos cb]
    rw[aS];exact old _ w H _
  ·rw[if_neg ag];have l:o0 y.eH.gP b=(b,0):=by unfold o0; rw[if_neg ag]
   rw[l];have H:=hq O (H.ord [1,2,0]);exact fin b 0 w H
 ·rintro r w (⟨I,rfl,H⟩ | ⟨I,rfl,H⟩)
  ·have l:nX y i=(y,202):=CZ I;rw[l];refine ak (x:=(0:Int)) 6 H rfl rfl rfl ?_;exact⟨rfl,fU am ((H.ord [6,7]).drop.drop)⟩
  ·refine ak (x:=(nX y i).2) 0 H rfl rfl rfl ?_;exact⟨rfl,H.drop⟩
theorem Mi{au:Nat}{y:bF}{i:Int}{p:kz}(am:o4 y p)(k:la y)(H:E A (hS au y p m) w):M Pg 9 [.pointer (some ⟨au,0,none⟩),.int .i64 i] aE w fun r J=>
  (gd y i≠0∧r=none∧E A (hS au y p m) J)∨(gd y i=0∧∃ a3 b q,0≤i∧p.Q[i.toNat]?=some (a3,b)∧y.N[i.toNat]?=some b∧Fits b q∧r=some ⟨q.dC,0,none⟩∧E A (e9 a3 b q (h5 au y p i.toNat m)) J):=by
 refine W_ ?_;unfold NW;refine ap (sS am k.len.2 H) ?_;rintro r w (⟨I,rfl,H⟩ | ⟨I,a3,b,R,ba,a5,ag,rfl,H⟩)
 ·rw[if_pos (by simpa using I)];exact .inl ⟨I,rfl,H⟩
 ·rw[if_neg (by simp)];obtain⟨q,O,H⟩:=l_ H;refine ch rfl ?_;refine ak (x:=some ⟨q.jb,0,none⟩) 0 H rfl rfl rfl ?_;refine ap (zm (H.front 4)) ?_;rintro r w ⟨rfl,H⟩;exact .inr ⟨I,a3,b,q,R,ba,a5,O,rfl,H.ord [1,2,3,4,0]⟩
theorem aGM{au:Nat}{y:bF}{at_:Int}(k:la y)(H:E A (cn au y::m) w):M Pg 26 [.pointer (some ⟨au,0,none⟩),.int .i64 at_] (bB X (B .i64)) w fun r J=>
  r.2=(vO y at_).2∧∃ ja,E A (row sR 85 2 r.1 ja::uz ja at_ (vO y at_).1::cn au y::m) J:=by
 obtain⟨p,am,H⟩:=lh H;refine aiC ?_;unfold VY;have aM:p.nodes.len=y.N.length:=zU am H;have Pu:=k.len.2;refine ch rfl ?_;refine ak (x:=p.nodes) 0 H rfl rfl rfl ?_;have fail:∀ (l:Int) (w:World),vO y at_=([],l)→E A (hS au y p m) w→(l=(vO y at_).2∧∃ ja,E A (row sR 85 2 fN ja::uz ja at_ (vO y at_).1::cn au y::m) w):=by
  intro l w he H;rw[he];refine⟨rfl,[],?_⟩;have H:=fU am H;have H:=H.Ao (o:=o7.mono) (fs:=o7 [] at_ []) (fun _ _ _=>⟨rfl,fun i r N aa _=>by simp at aa⟩);exact k4 _ _ _ H
 have lR:E A (row sR 85 2 fN []::uz [] at_ []::hS au y p m) w:=k4 _ _ _ (H.Ao (o:=o7.mono) (fs:=o7 [] at_ []) (fun _ _ _=>⟨rfl,fun i r N aa _=>by simp at aa⟩))
 refine ia (fun s w=>∃ (D:Nat) (ja:List zJ),s.2=(D:Int)∧D≤y.N.length∧ja.length=D∧(∀ b∈y.N.take D,b.K.down=false∧xr (rL b.W.v.W at_)=0) ∧
  E A (row sR 85 2 s.1 ja::uz ja at_ ((y.N.take D).map fun b=>ns b.W.v.W at_)::hS au y p m) w) (fun s=>(y.N.length-s.2).toNat) ⟨0,[],rfl,by omega,rfl,(fun b a5=>by simp at a5),lR⟩ ?_
 clear H lR;rintro⟨s,t⟩ w ⟨D,ja,aT,bT,uf,rl,H⟩ ab cg;simp only at aT H;subst aT;unfold Nu;simp only;rw[aM];split
 ·rename_i U;have U:D<y.N.length:=by
   have:(D:Int)<y.N.length:=by simpa using U
   omega
  have aS:IntKind.i64.wrap ((D:Int)+1)=((D+1:Nat):Int):=by rw[wrap_i64 (by omega) (by omega)]; omega
  have yc:y.N[D]?=some (y.N[D]'U):=List.getElem?_eq_getElem U;have aaD:y.N=y.N.take D++(y.N[D]'U)::y.N.drop (D+1):=by rw[← List.drop_eq_getElem_cons U,List.take_append_drop]
  have iW:y.N.take (D+1)=y.N.take D++[y.N[D]'U]:=List.take_succ_eq_append_getElem U;have H1:=k.at yc;generalize y.N[D]'U=b at yc aaD iW H1;have ob:=SD (at_:=at_) (aV:=b::y.N.drop (D+1)) rl;rw[← aaD] at ob;have hb:E A (hS au y p (row sR 85 2 s ja::uz ja at_ ((y.N.take D).map fun b=>ns b.W.v.W at_)::m)) w:=H.ord [2,3,4,5,6,7];refine ap (sS am k.len.2 hb) ?_;have kY:gd y (D:Int)=if b.K.down=true then 203 else 0:=by
   unfold gd;rw[if_neg (by omega),Int.toNat_natCast,yc]
  rintro r w (⟨I,rfl,H⟩ | ⟨I,a3,eS,R,ba,a5,ag,rfl,H⟩)
  ·rw[if_pos (by simpa using I)];have Ed:b.K.down=true:=by
    rw[kY] at I;by_cases c:b.K.down=true
    ·exact c
    ·rw[if_neg c] at I; exact absurd rfl I
   refine fail _ w ?_ ((H.ord [6,7]).drop.drop);have bb:nT at_ (b::y.N.drop (D+1))=([],203):=by unfold nT; rw[if_pos Ed]
   unfold vO;rw[ob,bb,kY,if_pos Ed];rfl
  ·rw[if_neg (by simp)];have:eS=b:=by rw[Int.toNat_natCast,yc] at a5; cases a5; rfl
   subst this;obtain⟨q,O,H⟩:=l_ H;refine ch rfl ?_;refine ak (x:=some ⟨q.jb,0,none⟩) 0 H rfl rfl rfl ?_;refine ap (zm (H.front 4)) ?_;rintro r w ⟨rfl,H⟩;refine ap (aI0 (t:=at_) H1.hK.v (H.front 6)) ?_;rintro⟨g2,bA⟩ w ⟨aK,H⟩;simp only at aK H;subst aK;have H:E A (row Dx 87 2 g2 (ns eS.W.v.W at_)::e9 a3 eS q (h5 au y p ((D:Int)).toNat (row sR 85 2 s ja::uz ja at_ ((y.N.take D).map fun b=>ns b.W.v.W at_)::m))) w:=H.ord [0,3,4,5,6,2,7,1];by_cases ct:xr (rL eS.W.v.W at_)=0
   ·rw[if_neg (by simp[ct])];have H:=vP H;have H:E A (kr a3 eS::ro Dx g2 (ns eS.W.v.W at_)::h5 au y p ((D:Int)).toNat (row sR 85 2 s ja::uz ja at_ ((y.N.take D).map fun b=>ns b.W.v.W at_)::m)) w:=hq O (H.ord [1,2,3,4,5,6,7,8,9,10,11,12]);have H:=xb ba (H.ord [0,2,3,4,5,6,7]);refine nF (fun _=>rfl) 7 H rfl (by simp; omega) fun r w H=>?_;have H:E A (ro Dx g2 (ns eS.W.v.W at_)::uz ja at_ ((y.N.take D).map fun b=>ns b.W.v.W at_)::row sR 85 2 r (ja++[⟨at_,g2⟩])::hS au y p m) w:=H.ord [7,8];have uj:ca (ro Dx g2 (ns eS.W.v.W at_)::uz ja at_ ((y.N.take D).map fun b=>ns b.W.v.W at_)::row sR 85 2 r (ja++[⟨at_,g2⟩])::hS au y p m) (o7 (ja++[⟨at_,g2⟩]) at_ (((y.N.take D).map fun b=>ns b.W.v.W at_)++[ns eS.W.v.W at_])):=((ca.tail (ca.here (o:=o7.mono))).and (ca.here (o:=dd.mono))).imp fun aZ h=>o7.push h.1 h.2;have H:=H.Ao (o:=o7.mono) uj;rw[aS]
    refine cg _ _ ⟨D+1,ja++[⟨at_,g2⟩],rfl,by omega,by simp[uf],?_,?_⟩ (by simp only; omega)
    ·intro ajX ZU;rw[iW] at ZU;rcases List.mem_append.1 ZU with h | h
     ·exact rl ajX h
     ·rw[List.mem_singleton.1 h]; exact⟨ag,ct⟩
    ·rw[iW,List.map_append];exact ((H.ord [1,2]).drop.drop.front 1)
   ·rw[if_pos (by simpa using ct)];have H:=H.drop;have H:=xb ba (hq O H);refine fail _ w ?_ ((H.ord [6,7]).drop.drop);have bb:nT at_ (eS::y.N.drop (D+1))=([],xr (rL eS.W.v.W at_)):=by unfold nT; rw[if_neg (by simp[ag]),if_pos ct]
    unfold vO;rw[ob,bb];simp only[if_pos ct]
 ·rename_i U;have U:D=y.N.length:=by
   have:¬ (D:Int)<y.N.length:=by simpa using U
   omega
  subst U;rw[List.take_length] at rl H;have bb:vO y at_=(y.N.map fun b=>ns b.W.v.W at_,0):=by
   unfold vO;have:=SD (at_:=at_) (aV:=[]) rl;rw[List.append_nil] at this;rw[this];simp[nT]
  rw[bb];exact⟨rfl,ja,(fU am (H.ord [2,3,4,5,6,7])).ord [1,2]⟩
end
instance (f:Nat):Decidable (jL f):=by unfold jL; infer_instance
instance (f:Nat):Decidable (jo f):=by unfold jo; infer_instance
abbrev rP:=kU
abbrev gA:=hr
structure qf(c:rP):Prop where
 n:1≤c.hQ∧c.hQ≤8
 eR:jL c.gP
 kV:jo c.lc
 width:0≤c.jQ∧c.jQ≤1000
def ny:c1:=⟨[⟨[],0⟩,⟨[],0⟩],0,false,0,[]⟩
def yY(c:rP):br:=zr (sB (Gv c.lc) 0 1000 c.jQ).1 0 ny c.gP [] []
def xY(c:rP)(D:Nat):bF:=⟨c,1000,List.replicate D (yY c),Post.dN.new c.hQ,fun _=>false,[]⟩
def l9(c:rP):bF:=xY c c.hQ.toNat
theorem MD:ny.hP:=⟨by simp[ny],fun g O=>by simp[ny] at O; subst O; simp⟩
theorem K4(n:Int):dq ny n ⟨[],0⟩=(ny,0):=by
 have aH:scan []=([],0):=by rfl
 unfold dq;rw[aH];simp
section
variable {A w:World} {m bX:List bE}
theorem Rr{c:rP}(aa:c.gP<18446744073709551616)(ag:c.lc<18446744073709551616)(H:E A m w):M Pg 12 [gA.enc c] (bB aE (B .i64)) w fun r J=>
  (¬ qf c→r=(none,200)∧E A m J)∧(qf c→r.2=0∧∃ au:Nat,r.1=some ⟨au,0,none⟩∧E A (cn au (l9 c)::m) J):=by
 refine agQ ?_;unfold MM;refine bR H fun a1 w H=>?_;refine ak (x:=c.lc) 0 H rfl rfl rfl ?_;refine ap (ab5 ag H) ?_;rintro⟨g2,bA⟩ w ⟨dx,ef⟩;have hj:∀ (t:Bool) (w:World),((t||(bA != 0))||g2.isNone)=(if 1≤c.hQ∧c.hQ≤8∧jL c.gP∧jo c.lc then false else true)→E A (aJ a1 (gA.cells c) 24::m) w→C9 ⟨a1,0,none⟩ (g2,bA) t w fun r J=>(¬ qf c→r=(none,200)∧E A m J)∧(qf c→r.2=0∧∃ au:Nat,r.1=some ⟨au,0,none⟩∧E A (cn au (l9 c)::m) J):=by
  intro t w aT H;unfold C9;refine aR c.jQ (fun _=>bO (B .i64) H rfl rfl) ?_;refine aR c.jQ (fun _=>bO (B .i64) H rfl rfl) ?_;simp only;rw[aT];by_cases ok:qf c
  ·rw[if_neg (by rw[if_pos ⟨ok.n.1,ok.n.2,ok.eR,ok.kV⟩]; simp only[Bool.false_or,Bool.or_eq_true,decide_eq_true_eq]; have:=ok.width; omega)];refine ez (x:=c) 0 H rfl ?_;refine xc H fun kZ w H=>?_;have H:=w9 fF .i64 H;refine bR H fun au w H=>?_;refine ak (x:=c.hQ) 2 H rfl rfl rfl ?_;refine ap (Post.ajY H c.hQ) ?_;rintro r w (⟨h,_⟩ | ⟨_,a3,rfl,H⟩)
   ·have:=ok.n; omega
   ·refine dK (x:=(some ⟨a3,0,none⟩:Option Addr)) 1 H rfl rfl (Nat.le_of_ble_eq_true rfl) fun w H=>?_;refine ak (x:=c.hQ) 3 H rfl rfl rfl ?_;have lR:∃ p:kz,o4 (xY c 0) p∧E A (hS au (xY c 0) p (aJ a1 (gA.cells c) 24::m)) w:=by
     refine⟨⟨fN,a3,kZ,fN,[],[]⟩,⟨rfl,fun _=>rfl⟩,?_⟩;have H:=k4 kB 53 3 (k4 aE 89 1 (E.shut (bX:=([]:List bE)) H));exact H.ord [3,1,2,4,5,0]
    have qo:=ok.n;refine ia (fun t w=>∃ D:Nat,t=(D:Int)∧(D:Int)≤c.hQ∧∃ p:kz,o4 (xY c D) p∧E A (hS au (xY c D) p (aJ a1 (gA.cells c) 24::m)) w) (fun t=>(c.hQ-t).toNat) ⟨0,rfl,by omega,lR⟩ ?_;clear H lR;rintro t w ⟨D,rfl,bT,p,am,H⟩ ab cg;unfold MP;split
    ·rename_i U;have U:(D:Int)<c.hQ:=by simpa using U
     have aS:IntKind.i64.wrap ((D:Int)+1)=((D+1:Nat):Int):=by rw[wrap_i64 (by omega) (by omega)]; omega
     refine bR H fun e w H=>?_;refine ak (x:=c.lc) 7 H rfl rfl rfl ?_;refine ap (ab5 ag H) ?_;rintro⟨gS,gu⟩ w ⟨bD,_⟩;obtain⟨_,u5,wR,H⟩:=bD ok.kV;simp only at wR;subst wR;refine dK (x:=(some ⟨u5,0,none⟩:Option Addr)) 1 H rfl rfl (Nat.le_of_ble_eq_true rfl) fun w H=>?_;refine dy H fun w H=>?_;refine ak (x:=(some ⟨u5,0,none⟩:Option Addr)) 0 H rfl rfl rfl ?_;refine ak (x:=(1000:Int)) 2 H rfl rfl rfl ?_;refine ak (x:=c.jQ) 8 H rfl rfl rfl ?_;refine ap (aeX (h:=0) (t:=1000) (l:=c.jQ) (H.front 1)) ?_;rintro r w ⟨_,H⟩;refine ap (Disk.Rs (n:=2) (by omega) (by omega) H) ?_;rintro⟨g2,bA⟩ w ⟨_,d,z8,H⟩;simp only at z8;subst z8;refine dK (x:=(some ⟨d,0,none⟩:Option Addr)) 2 H rfl rfl (Nat.le_of_ble_eq_true rfl) fun w H=>?_
     have H:E A (aJ au (gY.cells (iU (xY c D) p)) 114::aJ e (kk.cells ⟨some ⟨u5,0,none⟩,0,some ⟨d,0,none⟩,none,none,none,none,none,fN⟩) 101::kn u5 (sB (Gv c.lc) 0 1000 c.jQ).1::eN d ny::row aE 89 1 p.nodes (p.Q.map k0)::dH (p.Q.map hB)::Post.h0 p.a2 (xY c D).a2::dh fF .i64 p.kZ p.rB::row kB 53 3 p.told (xY c D).told::aJ a1 (gA.cells c) 24::m) w:=H.ord [3,0,2,1];refine ap (af5 (cX:=⟨[],0⟩) (bD:=⟨[],0⟩) (xs:=[]) (an:=[]) rfl rfl ok.eR MD rfl rfl rfl rfl rfl (fun i r h=>by simp at h) H) ?_;rintro r w ⟨_,_,bl⟩;rw[K4] at bl;simp only at bl;rw[K4] at bl;obtain⟨_,H⟩:=bl (by trivial) (by first | rfl | trivial);refine ak (x:=p.nodes) 0 H rfl rfl rfl ?_;have wS:p.Q.length=D:=by rw[← List.length_map (f:=Prod.snd),am.1]; show (List.replicate D _).length=D; simp
     refine nF (fun _=>rfl) 2 H rfl (by simp; omega) fun r w H=>?_;refine dK (x:=r) 1 H rfl rfl (Nat.le_of_ble_eq_true rfl) fun w H=>?_;rw[aS];refine cg _ _ ⟨D+1,rfl,by omega,{ p with nodes:=r,Q:=p.Q++[(e,yY c)] },⟨?_,am.2⟩,?_⟩ (by omega)
     ·show (p.Q++[(e,yY c)]).map Prod.snd=List.replicate (D+1) (yY c)
      rw[List.map_append,am.1,List.replicate_succ'];rfl
     ·have H:E A (hB (e,yY c)::dH (p.Q.map hB)::_) w:=H.ord [2,3];rw[show p.Q.map hB=(p.Q++[]).map hB from by rw[List.append_nil]] at H;have H:=(wE (f:=hB) H).ord [1,2,0];have l:(p.Q++[(e,yY c)]).map k0=p.Q.map k0++[some ⟨e,0,none⟩]:=by rw[List.map_append]; rfl
      show E A (hS au (xY c (D+1)) { p with nodes:=r,Q:=p.Q++[(e,yY c)] } (aJ a1 (gA.cells c) 24::m)) w
      unfold hS;rw[l];exact H
    ·rename_i U;have U:¬ (D:Int)<c.hQ:=by simpa using U
     have vl:c.hQ.toNat=D:=by omega
     refine⟨fun h=>absurd ok h,fun _=>⟨rfl,au,rfl,?_⟩⟩;unfold l9;rw[vl];exact fU am ((H.ord [6]).drop)
  ·have:(((if 1≤c.hQ∧c.hQ≤8∧jL c.gP∧jo c.lc then false else true)||(decide (c.jQ<(0:Int))))||(decide (c.jQ>(1000:Int))))=true:=by
    by_cases h:1≤c.hQ∧c.hQ≤8∧jL c.gP∧jo c.lc
    ·rw[if_pos h];simp only[Bool.false_or,Bool.or_eq_true,decide_eq_true_eq];by_cases R:0≤c.jQ∧c.jQ≤1000
     ·exact absurd ⟨⟨h.1,h.2.1⟩,h.2.2.1,h.2.2.2,R⟩ ok
     ·omega
    ·rw[if_neg h]; simp
   rw[if_pos this];exact⟨fun _=>⟨by trivial,H.drop⟩,fun h=>absurd h ok⟩
 have aaa:(jo c.lc∧bA=0∧g2.isNone=false∧E A (aJ a1 (gA.cells c) 24::m) w)∨(¬ jo c.lc∧bA=60∧g2.isNone=true∧E A (aJ a1 (gA.cells c) 24::m) w):=by
  by_cases h:jo c.lc
  ·obtain⟨I,e,R,H⟩:=dx h;simp only at I R;exact .inl ⟨h,I,by rw[R]; rfl,H.drop⟩
  ·obtain⟨I,H⟩:=ef h;cases I;exact .inr ⟨h,rfl,rfl,H⟩
 have H:E A (aJ a1 (gA.cells c) 24::m) w:=by rcases aaa with h | h<;>exact h.2.2.2
 refine ak (x:=c.hQ) 0 H rfl rfl rfl ?_;refine aR c.hQ (fun _=>bO (B .i64) H rfl rfl) ?_;by_cases bd:1≤c.hQ∧c.hQ≤8
 ·rw[if_neg (by simp only[Bool.or_eq_true,decide_eq_true_eq]; omega)];refine ak (x:=c.gP) 0 H rfl rfl rfl ?_;refine ap (LN aa H) ?_;rintro r w ⟨I,_,H⟩;refine hj _ w ?_ H;rcases aaa with ⟨h,bb,dn,_⟩ | ⟨h,bb,dn,_⟩
  ·rw[bb,dn];by_cases hrt:jL c.gP
   ·rw[if_pos ⟨bd.1,bd.2,hrt,h⟩,I.2 hrt]; rfl
   ·rw[if_neg (fun cK=>hrt cK.2.2.1)];have:r≠0:=fun l=>hrt (I.1 l);simp[this]
  ·rw[if_neg (fun cK=>h cK.2.2.2),dn]; simp
 ·rw[if_pos (by simp only[Bool.or_eq_true,decide_eq_true_eq]; omega)];refine hj true w ?_ H;rw[if_neg (fun cK=>bd ⟨cK.1,cK.2.1⟩)];simp
end
abbrev nB:=List (List UInt8)
structure Live(K:c1)(aQ:nB)(a:Nat)(aV:nB)(e:Nat):Prop where
 ok:K.hP
 up:K.down=false
 c3:K.c3=[⟨cF aQ,(cF (aQ.take a)).length⟩,⟨cF aV,(cF (aV.take e)).length⟩]
 uk:a≤aQ.length
 oe:e≤aV.length
 oo:Small aQ
 lJ:Small aV
structure pC(K:c1)(aQ aV:nB):Prop where
 ok:K.hP
 off:K.down=true
 c3:∃ p q,(∃ l,nO p=.error l)∧(∃ l,nO q=.error l)∧K.c3=[⟨cF aQ++p,(cF aQ++p).length⟩,⟨cF aV++q,(cF aV++q).length⟩]
 oo:Small aQ
 lJ:Small aV
theorem ae7{aQ:nB}{x:List UInt8}(h:Small aQ)(F:x.length≤65536):Small (aQ++[x]):=by
 intro S aB;rcases List.mem_append.1 aB with aB | aB
 ·exact h S aB
 ·rw[List.mem_singleton.1 aB]; exact F
theorem ae8{aQ:nB}(h:Small aQ)(i:Nat):Small (aQ.take i):=fun S aB=>h S (List.mem_of_mem_take aB)
theorem ZG(aQ:nB)(x:List UInt8):cF (aQ++[x])=cF aQ++hh x:=by rw[ZD]; simp[cF]
theorem BK(aQ:nB)(k:Nat):(cF (aQ.take k)).length≤(cF aQ).length:=by
 have:cF aQ=cF (aQ.take k)++cF (aQ.drop k):=by rw[← ZD,List.take_append_drop]
 rw[this,List.length_append]; omega
def IA(K:c1)(c3:List ed):c1:={ K with et:=if 1<K.et then IntKind.i64.wrap (K.et-1) else K.et,lZ:=IntKind.i64.wrap (K.lZ+1),c3:=c3 }
theorem DG{K:c1}{cX bD:ed}(al:K.c3=[cX,bD])(ag:K.down=false){size:Int}(aH:size≤4194304)(f:ed→ed) :
  (K.et≠1→km K 0 size f=(IA K [f cX,bD],0)∧km K 1 size f=(IA K [cX,f bD],0))∧(K.et=1→km K 0 size f=(hT K.bI K,71)∧km K 1 size f=(hT K.bI K,71)):=by
 refine⟨fun Y=>⟨?_,?_⟩,fun Y=>⟨?_,?_⟩⟩
 ·unfold km;rw[if_neg (by rw[al]; simp),if_neg (by simp[ag]),if_neg (by omega),if_neg Y,al];rfl
 ·unfold km;rw[if_neg (by rw[al]; simp),if_neg (by simp[ag]),if_neg (by omega),if_neg Y,al];rfl
 ·unfold km;rw[if_neg (by rw[al]; simp),if_neg (by simp[ag]),if_neg (by omega),if_pos Y]
 ·unfold km;rw[if_neg (by rw[al]; simp),if_neg (by simp[ag]),if_neg (by omega),if_pos Y]
theorem ae4{K:c1}{cX bD:ed}(al:K.c3=[cX,bD]):Disk.sizeOf K 0=cX.e.length∧Disk.sizeOf K 1=bD.e.length:=by
 unfold Disk.sizeOf;rw[al];exact⟨rfl,rfl⟩
theorem E7{K:c1}(a e:ed)(Y:a.sure≤a.e.length∧a.e.length≤4194304)(ao:e.sure≤e.e.length∧e.e.length≤4194304):(IA K [a,e]).hP:=by
 refine⟨by show [a,e].length≤16; simp,fun g O=>?_⟩;have O:g∈[a,e]:=O;simp only[List.mem_cons,List.mem_nil_iff,or_false] at O;rcases O with rfl | rfl
 ·exact Y
 ·exact ao
theorem Live.L6{K:c1}{aQ aV:nB}{a e:Nat}(N:Live K aQ a aV e):(cF aQ).length≤4194304∧(cF aV).length≤4194304:=by
 have h:=N.ok.log;rw[N.c3] at h;exact⟨(h ⟨cF aQ,(cF (aQ.take a)).length⟩ (by simp)).2,(h ⟨cF aV,(cF (aV.take e)).length⟩ (by simp)).2⟩
theorem Live.akz{K:c1}{aQ aV:nB}{a e:Nat}{x:List UInt8}(N:Live K aQ a aV e)(F:x.length≤65536)(aH:(cF aQ).length+(8+x.length)≤4194304) :
  (K.et≠1→∃ er,oG K 0 (hh x)=(er,0)∧Live er (aQ++[x]) a aV e)∧(K.et=1→oG K 0 (hh x)=(hT K.bI K,71)):=by
 have R:=DG (size:=(((hh x).length+Disk.sizeOf K 0:Nat):Int)) N.c3 N.up (by rw[(ae4 N.c3).1,va]; simp only; omega) (fun g=>⟨g.e++hh x,g.sure⟩);refine⟨fun Y=>⟨_,(R.1 Y).1,?_,N.up,?_,by rw[List.length_append]; have:=N.uk; omega,N.oe,ae7 N.oo F,N.lJ⟩,fun Y=>(R.2 Y).1⟩
 ·have:=BK aQ a;have:=BK aV e;have:=N.L6;refine E7 _ _ ?_ ?_
  ·simp only[List.length_append,va]; omega
  ·simp only; omega
 ·show [_,_]=_
  rw[ZG,List.take_append_of_le_length N.uk]
theorem Live.akA{K:c1}{aQ aV:nB}{a e:Nat}{x:List UInt8}(N:Live K aQ a aV e)(F:x.length≤65536)(aH:(cF aV).length+(8+x.length)≤4194304) :
  (K.et≠1→∃ er,oG K 1 (hh x)=(er,0)∧Live er aQ a (aV++[x]) e)∧(K.et=1→oG K 1 (hh x)=(hT K.bI K,71)):=by
 have R:=DG (size:=(((hh x).length+Disk.sizeOf K 1:Nat):Int)) N.c3 N.up (by rw[(ae4 N.c3).2,va]; simp only; omega) (fun g=>⟨g.e++hh x,g.sure⟩);refine⟨fun Y=>⟨_,(R.1 Y).2,?_,N.up,?_,N.uk,by rw[List.length_append]; have:=N.oe; omega,N.oo,ae7 N.lJ F⟩,fun Y=>(R.2 Y).2⟩
 ·have:=BK aQ a;have:=BK aV e;have:=N.L6;refine E7 _ _ ?_ ?_
  ·simp only; omega
  ·simp only[List.length_append,va]; omega
 ·show [_,_]=_
  rw[ZG,List.take_append_of_le_length N.oe]
theorem Live.aIc{K:c1}{aQ aV:nB}{a e:Nat}(N:Live K aQ a aV e) :
  (K.et≠1→∃ er,oY K 0=(er,0)∧Live er aQ aQ.length aV e)∧(K.et=1→oY K 0=(hT K.bI K,71)):=by
 have R:=DG (size:=0) N.c3 N.up (by omega) (fun g=>⟨g.e,g.e.length⟩);refine⟨fun Y=>⟨_,(R.1 Y).1,?_,N.up,?_,Nat.le_refl _,N.oe,N.oo,N.lJ⟩,fun Y=>(R.2 Y).1⟩
 ·have:=BK aV e;have:=N.L6;exact E7 _ _ (by simp only; omega) (by simp only; omega)
 ·show [_,_]=_
  rw[List.take_length]
theorem Live.aId{K:c1}{aQ aV:nB}{a e:Nat}(N:Live K aQ a aV e) :
  (K.et≠1→∃ er,oY K 1=(er,0)∧Live er aQ a aV aV.length)∧(K.et=1→oY K 1=(hT K.bI K,71)):=by
 have R:=DG (size:=0) N.c3 N.up (by omega) (fun g=>⟨g.e,g.e.length⟩);refine⟨fun Y=>⟨_,(R.1 Y).2,?_,N.up,?_,N.uk,Nat.le_refl _,N.oo,N.lJ⟩,fun Y=>(R.2 Y).2⟩
 ·have:=BK aQ a;have:=N.L6;exact E7 _ _ (by simp only; omega) (by simp only; omega)
 ·show [_,_]=_
  rw[List.take_length]
theorem Ym{aQ:nB}{a:Nat}(aH:Small aQ)(Y:a≤aQ.length)(bI:List Int)(n:Nat):∃ i p,a≤i∧i≤aQ.length∧(∃ l,nO p=.error l)∧lA bI n ⟨cF aQ,(cF (aQ.take a)).length⟩=⟨cF (aQ.take i)++p,(cF (aQ.take i)++p).length⟩:=by
 have Kl:=HD (bI:=bI) (i:=n) (g:=⟨cF aQ,(cF (aQ.take a)).length⟩) (BK aQ a);simp only at Kl;obtain⟨i,p,I,R,aK,bp⟩:=ZE aQ (kept bI n ⟨cF aQ,(cF (aQ.take a)).length⟩) aH Kl.2;refine⟨i,p,bp a Kl.1 Y,I,aK,?_⟩;unfold lA;simp only;rw[R,← R,List.length_take,Nat.min_eq_left Kl.2]
theorem Live.hT{K:c1}{aQ aV:nB}{a e:Nat}(N:Live K aQ a aV e)(bI:List Int):∃ i D,a≤i∧i≤aQ.length∧e≤D∧D≤aV.length∧pC (hT bI K) (aQ.take i) (aV.take D)∧(Disk.hT bI K).et=0:=by
 obtain⟨i,p,I,R,aK,bp⟩:=Ym N.oo N.uk bI 0;obtain⟨D,q,bD,e4,jr,nI⟩:=Ym N.lJ N.oe bI 1;have l:(Disk.hT bI K).c3=[⟨cF (aQ.take i)++p,(cF (aQ.take i)++p).length⟩,⟨cF (aV.take D)++q,(cF (aV.take D)++q).length⟩]:=by
  unfold Disk.hT;rw[if_neg (by simp[N.up])];show K.c3.mapIdx (lA bI)=_
  rw[N.c3];simp only[List.mapIdx_cons,List.mapIdx_nil,Nat.zero_add];rw[bp,nI]
 refine⟨i,D,I,R,bD,e4,⟨Gw N.ok,by unfold Disk.hT; rw[if_neg (by simp[N.up])],⟨p,q,aK,jr,l⟩,ae8 N.oo i,ae8 N.lJ D⟩,by unfold Disk.hT; rw[if_neg (by simp[N.up])]⟩
theorem pC.hT{K:c1}{aQ aV:nB}(d:pC K aQ aV)(bI:List Int):Disk.hT bI K=K:=by unfold Disk.hT; rw[if_pos d.off]
theorem Live.Bz{K:c1}{aQ aV:nB}{a e:Nat}(N:Live K aQ a aV e)(n:Int)(bI:List Int):Live { K with et:=n,bI:=bI } aQ a aV e:=⟨⟨N.ok.len,N.ok.log⟩,N.up,N.c3,N.uk,N.oe,N.oo,N.lJ⟩
theorem pC.Bz{K:c1}{aQ aV:nB}(d:pC K aQ aV)(n:Int)(bI:List Int):pC { K with et:=n,bI:=bI } aQ aV:=⟨⟨d.ok.len,d.ok.log⟩,d.off,d.c3,d.oo,d.lJ⟩
structure N3(K:c1)(aQ aV:nB):Prop where
 ok:K.hP
 up:K.down=false
 c3:∃ q,(∃ l,nO q=.error l)∧K.c3=[⟨cF aQ,(cF aQ).length⟩,⟨cF aV++q,(cF aV++q).length⟩]
 oo:Small aQ
 lJ:Small aV
theorem At{aQ:nB}{p:List UInt8}(aH:Small aQ)(aF:∃ l,nO p=.error l):scan (cF aQ++p)=(aQ,(cF aQ).length):=aHf aH aF
theorem acK{p:List UInt8}(h:p.length=0):p=[]:=List.eq_nil_of_length_eq_zero h
theorem pC.K4{K:c1}{aQ aV:nB}(d:pC K aQ aV):∃ cX bD,K.c3=[cX,bD]∧(scan cX.e).1=aQ∧(scan bD.e).1=aV ∧
  ((dq (ik K) 0 cX).2=0∧N3 (dq (ik K) 0 cX).1 aQ aV∨(dq (ik K) 0 cX).2=71∧pC (dq (ik K) 0 cX).1 aQ aV):=by
 obtain⟨p,q,aF,ba,al⟩:=d.c3;have dA:=d.ok.log;rw[al] at dA;have ah:=(dA _ (List.mem_cons_self ..)).2;have I:=(dA ⟨cF aV++q,(cF aV++q).length⟩ (by simp)).2;simp only at ah I;refine⟨_,_,al,by rw[At d.oo aF],by rw[At d.lJ ba],?_⟩;have pU:(ik K).c3=[⟨cF aQ++p,(cF aQ++p).length⟩,⟨cF aV++q,(cF aV++q).length⟩]:=al;unfold dq;simp only[At d.oo aF];by_cases c:(cF aQ).length<(cF aQ++p).length
 ·rw[if_pos c];have aS:(cF aQ++p).take (cF aQ).length=cF aQ:=by simp
  rw[aS];have R:=DG (size:=((cF aQ).length:Int)) pU rfl (by omega) (fun _=>⟨cF aQ,(cF aQ).length⟩);by_cases Y:K.et=1
  ·right;have bb:AM (ik K) 0 (cF aQ)=(Disk.hT (ik K).bI (ik K),71):=(R.2 Y).1;rw[bb];refine⟨rfl,Gw (K:=ik K) ⟨d.ok.len,d.ok.log⟩,by unfold Disk.hT; rw[if_neg (by simp[ik])],⟨p,q,aF,ba,?_⟩,d.oo,d.lJ⟩;unfold Disk.hT;rw[if_neg (by simp[ik])];show (ik K).c3.mapIdx (lA (ik K).bI)=_
   rw[pU];have ax:∀ (e:List UInt8) (n:Nat),lA (ik K).bI n ⟨e,e.length⟩=⟨e,e.length⟩:=by
    intro e n;have aq:=HD (bI:=(ik K).bI) (i:=n) (g:=⟨e,e.length⟩) (Nat.le_refl _);simp only at aq;have l:kept (ik K).bI n ⟨e,e.length⟩=e.length:=Nat.le_antisymm aq.2 aq.1;unfold lA;rw[l]; simp
   simp only[List.mapIdx_cons,List.mapIdx_nil,Nat.zero_add,ax]
  ·left;have bb:AM (ik K) 0 (cF aQ)=(IA (ik K) [⟨cF aQ,(cF aQ).length⟩,⟨cF aV++q,(cF aV++q).length⟩],0):=(R.1 Y).1;rw[bb];refine⟨rfl,E7 _ _ ?_ ?_,rfl,⟨q,ba,rfl⟩,d.oo,d.lJ⟩
   ·simp only; omega
   ·simp only; omega
 ·rw[if_neg c,if_neg (by rw[List.length_append]; omega)];have Qb:p=[]:=acK (by rw[List.length_append] at c; omega);subst Qb;refine .inl ⟨rfl,⟨d.ok.len,d.ok.log⟩,rfl,⟨q,ba,?_⟩,d.oo,d.lJ⟩;rw[List.append_nil] at pU;exact pU
theorem N3.aC1{K:c1}{aQ aV:nB}(d:N3 K aQ aV){bD:ed}(O:K.c3[1]?=some bD) :
  ((dq K 1 bD).2=0∧Live (dq K 1 bD).1 aQ aQ.length aV aV.length∨(dq K 1 bD).2=71∧pC (dq K 1 bD).1 aQ aV):=by
 obtain⟨q,ba,al⟩:=d.c3;have dA:=d.ok.log;rw[al] at dA;have ah:=(dA _ (List.mem_cons_self ..)).2;have I:=(dA ⟨cF aV++q,(cF aV++q).length⟩ (by simp)).2;simp only at ah I;rw[al] at O;have O:bD=⟨cF aV++q,(cF aV++q).length⟩:=by simpa using O.symm
 subst O;unfold dq;simp only[At d.lJ ba];by_cases c:(cF aV).length<(cF aV++q).length
 ·rw[if_pos c];have aS:(cF aV++q).take (cF aV).length=cF aV:=by simp
  rw[aS];have R:=DG (size:=((cF aV).length:Int)) al d.up (by omega) (fun _=>⟨cF aV,(cF aV).length⟩);by_cases Y:K.et=1
  ·right;have bb:AM K 1 (cF aV)=(Disk.hT K.bI K,71):=(R.2 Y).2;rw[bb];refine⟨rfl,Gw d.ok,by unfold Disk.hT; rw[if_neg (by simp[d.up])],⟨[],q,⟨31,rfl⟩,ba,?_⟩,d.oo,d.lJ⟩;unfold Disk.hT;rw[if_neg (by simp[d.up])];show K.c3.mapIdx (lA K.bI)=_
   rw[al];have ax:∀ (e:List UInt8) (n:Nat),lA K.bI n ⟨e,e.length⟩=⟨e,e.length⟩:=by
    intro e n;have aq:=HD (bI:=K.bI) (i:=n) (g:=⟨e,e.length⟩) (Nat.le_refl _);simp only at aq;have l:kept K.bI n ⟨e,e.length⟩=e.length:=Nat.le_antisymm aq.2 aq.1;unfold lA;rw[l]; simp
   simp only[List.mapIdx_cons,List.mapIdx_nil,Nat.zero_add,ax,List.append_nil]
  ·left;have bb:AM K 1 (cF aV)=(IA K [⟨cF aQ,(cF aQ).length⟩,⟨cF aV,(cF aV).length⟩],0):=(R.1 Y).2;rw[bb];refine⟨rfl,E7 _ _ ?_ ?_,d.up,?_,Nat.le_refl _,Nat.le_refl _,d.oo,d.lJ⟩
   ·simp only; omega
   ·simp only; omega
   ·show [_,_]=_
    rw[List.take_length,List.take_length]
 ·rw[if_neg c,if_neg (by rw[List.length_append]; omega)];have kq:q=[]:=acK (by rw[List.length_append] at c; omega);subst kq;refine .inl ⟨rfl,d.ok,d.up,?_,Nat.le_refl _,Nat.le_refl _,d.oo,d.lJ⟩;rw[List.append_nil] at al;rw[al,List.take_length,List.take_length]
structure ft where
 xs:List dW
 a:Nat
 an:List c5
 e:Nat
abbrev gM:=Int→Option (Int×Int)
def lB(p:bP):Option (Int×Int):=if p.b8=0 then none else some (p.b8,p.at_)
def iZ(an:List c5):List (Int×bP):=an.foldl nq []
def kG(an:List c5):gM:=fun id=>((iZ an).lookup id).bind lB
def qg(W:gM)(x:dW):Prop:=nZ x∧qp x.Kind∧x.aD≤2000000∧(x.Kind=3→W (gU x.aD)=some (2,x.b9))∧(x.Kind=4→∃ t,W (gU x.aD)=some (3,t))
def ls(W:gM)(o:hZ):Prop:=Oa o∧(o.Kind=3→(o.j5=true→W (gU o.Part.aD)=some (2,o.b9))∧(o.j5=false→∃ t,W (gU o.Part.aD)=some (3,t)))
def gM.le(W T:gM):Prop:=∀ id d,W id=some d→T id=some d
theorem qg.mono{W T:gM}(h:W.le T){x:dW}(d:qg W x):qg T x:=⟨d.1,d.2.1,d.2.2.1,fun k=>h _ _ (d.2.2.2.1 k),fun k=>by obtain⟨t,aT⟩:=d.2.2.2.2 k; exact⟨t,h _ _ aT⟩⟩
theorem ls.mono{W T:gM}(h:W.le T){o:hZ}(d:ls W o):ls T o:=⟨d.1,fun k=>⟨fun S=>h _ _ ((d.2 k).1 S),fun S=>by obtain⟨t,aT⟩:=(d.2 k).2 S; exact⟨t,h _ _ aT⟩⟩⟩
def own(n c:Nat)(an:List c5):gM:=fun id=>if Int.tmod id n=c then kG an id else none
def Bf(p q:bP):Prop:=p.x=q.x∧p.b8=q.b8∧p.at_=q.at_
def Dm(P:List (Int×bP))(an:List c5):Prop:=∀ id,(∀ p,P.lookup id=some p→∃ q,(iZ an).lookup id=some q∧Bf p q)∧(P.lookup id=none→(iZ an).lookup id=none)
structure xG(f n c:Nat)(b:br)(g:ft):Prop where
 N:Live b.K (g.xs.map jq) g.a (g.an.map fV) g.e
 V:b.W.V=⟨g.xs.length,g.a,0,false⟩
 v:b.W.v=qw (uG f) g.xs
 A:b.A=⟨g.an.length,g.e,1,false⟩
 P:Dm b.P g.an
 outs:∀ s∈b.out,ls (own n c g.an) s.o∧0≤s.ij∧s.ij<n
 sure:∀ id,b.sure id=true→∃ d,kG (g.an.take g.e) id=some d
structure bM(k:Nat)(b:br):Prop where
 ax:jl b.ax
 rd:-(4194304*(k:Int))≤b.cO∧b.cO≤4194304*(k:Int)
 src:-9223372036854775808≤b.src∧b.src≤1125899906842624
 K:b.K.hP
 fit:Fit b.W.v
 ids:∀ l∈b.W.v.held,l.1≤2000000
 mc:sM b.P
 l1:b.P.length≤k
 out:b.out.length≤300000*k
structure nA(n c k:Nat)(W:gM)(Q:c5→Prop)(g:ft):Prop where
 q:∀ r∈g.an,Q r
 qe:∀ x∈g.xs,qg W x
 nr:qY g.an
 ours:∀ r∈g.an,Int.tmod r.x.aD n=c
 v0:∀ r∈g.an,r.k=2→jU r.t
 yT:g.xs.length≤k
 w7:g.an.length≤k
 uk:g.a≤g.xs.length
 oe:g.e≤g.an.length
structure eP(f n c k:Nat)(W:gM)(Q:c5→Prop)(b:br)(g:ft):Prop where
 b4:bM k b
 cN:nA n c k W Q g
 bi:xG f n c b g∨pC b.K (g.xs.map jq) (g.an.map fV)
structure Dn(Q:c5→Prop)(b:br):Prop where
 one:∀ r:c5,r.k≠2→Q r
 two:∀ x N,(gL b.ax b.cO b.src N).2.2.2=0→Q ⟨2,x,(gL b.ax b.cO b.src N).2.2.1⟩
def lr(g cP:ft):Prop:=gM.le (kG (g.an.take g.e)) (kG (cP.an.take cP.e))
theorem bM.mono{k gf:Nat}{b:br}(h:bM k b)(aq:k≤gf):bM gf b:=
 ⟨h.ax,by have:=h.rd; omega,h.src,h.K,h.fit,h.ids,h.mc,Nat.le_trans h.l1 aq,Nat.le_trans h.out (Nat.mul_le_mul_left _ aq)⟩
theorem nA.mono{n c k gf:Nat}{W jm:gM}{Q:c5→Prop}{g:ft}(h:nA n c k W Q g)(ff:W.le jm)(aq:k≤gf):nA n c gf jm Q g:=
 ⟨h.q,fun x F=>(h.qe x F).mono ff,h.nr,h.ours,h.v0,Nat.le_trans h.yT aq,Nat.le_trans h.w7 aq,h.uk,h.oe⟩
theorem gM.le_refl(W:gM):W.le W:=fun _ _ h=>h
theorem gM.le_trans{W T dg:gM}(h:W.le T)(fG:T.le dg):W.le dg:=fun i d l=>fG i d (h i d l)
section
variable {f n c k:Nat} {W:gM} {Q:c5→Prop} {b:br} {g:ft}
theorem eP.live(h:eP f n c k W Q b g)(ag:b.K.down=false):xG f n c b g:=by
 rcases h.bi with h | h
 ·exact h
 ·rw[h.off] at ag; cases ag
theorem eP.mono{jm:gM}{gf:Nat}(h:eP f n c k W Q b g)(ff:W.le jm)(aq:k≤gf):eP f n c gf jm Q b g:=⟨h.b4.mono aq,h.cN.mono ff aq,h.bi⟩
theorem bM.node(h:bM k b)(aq:k≤50000):Ob b:=
 ⟨⟨h.ax,by have:=h.rd; omega,h.K,h.fit,h.src⟩,h.mc,by have:=h.out; omega,by have:=h.l1; omega,fun l he=>by have:=h.ids l he; omega⟩
end
theorem Pf{Z:Type}{l:Z→List UInt8}{o:Nat}:∀ {m:List Z},(∀ x∈m,(l x).length≤o)→(cF (m.map l)).length≤(8+o)*m.length
 |[],_=>by simp[cF]
 |x::m,h=>by
  have I:=h x (List.mem_cons_self ..);have R:=Pf (m:=m) fun S aB=>h S (List.mem_cons_of_mem _ aB);have aS:cF ((x::m).map l)=hh (l x)++cF (m.map l):=by simp[cF]
  rw[aS,List.length_append,va,List.length_cons,Nat.mul_add,Nat.mul_one];omega
theorem aen{an:List c5}(h:qY an):∀ r∈an,o5 r:=by
 intro r aa;obtain⟨D,bT,rfl⟩:=List.getElem_of_mem aa;exact (h D _ (List.getElem?_eq_getElem bT)).1
theorem aeo{an:List c5}(h:qY an)(D:Nat):qY (an.take D):=by
 intro i r aa;rw[List.getElem?_take] at aa;split at aa
 ·rename_i ay;have:=h i r aa;rw[List.take_take,Nat.min_eq_left (by omega)];exact this
 ·cases aa
theorem aGp{an:List c5}{r:c5}(h:qY an)(aa:o5 r)(Y:wk (iZ an) r):qY (an++[r]):=by
 intro i x F;by_cases c:i<an.length
 ·rw[List.getElem?_append_left c] at F;rw[List.take_append_of_le_length (by omega)];exact h i x F
 ·rw[List.getElem?_append_right (by omega)] at F;have l:i=an.length:=by
   rcases Nat.lt_or_ge (i-an.length) 1 with I | I
   ·omega
   ·rw[List.getElem?_eq_none (by simpa using I)] at F; cases F
  subst l;simp at F;subst F;rw[List.take_append_of_le_length (Nat.le_refl _),List.take_length];exact⟨aa,Y⟩
theorem Cz(an:List c5)(r:c5):iZ (an++[r])=nq (iZ an) r:=by unfold iZ; rw[List.foldl_append]; rfl
theorem w6{P:List (Int×bP)}{id x:Int}{p:bP}:(jc P id p).lookup x=if x=id then (P.lookup x).map fun _=>p else P.lookup x:=by
 induction P with
 |nil=>simp[jc]
 |cons t P cq=>
  obtain⟨a,v⟩:=t;unfold jc at cq ⊢;rw[List.map_cons];by_cases l:x=a
  ·subst l;by_cases bb:x=id
   ·subst bb; simp
   ·simp[bb]
  ·by_cases bb:a=id
   ·subst bb;have I:(x==a)=false:=by simpa using l
    simp[List.lookup,I,l] at cq ⊢;exact cq
   ·have I:(x==a)=false:=by simpa using l
    rw[if_neg bb];simp only[List.lookup,I];exact cq
theorem Me(P:List (Int×bP))(id:Int)(p:bP):(jc P id p).length=P.length:=by unfold jc; simp
theorem RX{P:List (Int×bP)}{id:Int}{p q:bP}(h:sM P)(aF:P.lookup id=some p)(ba:q.x=p.x):sM (jc P id q):=by
 intro x r aa;rw[w6] at aa;split at aa
 ·rename_i l;subst l;rw[aF] at aa;cases aa;rw[ba];exact h x p aF
 ·exact h x r aa
theorem aFe{P:List (Int×bP)}{x:oE}(h:sM P)(F:jN x=0):sM (P++[(x.aD,jX x)]):=by
 intro id r aa;rw[List.lookup_append] at aa;cases al:P.lookup id with
 |some p=>rw[al] at aa; cases aa; exact h id _ al
 |none=>
  rw[al] at aa;simp only[Option.none_or,List.lookup] at aa;cases he:id==x.aD with
  |true=>
   rw[he] at aa;cases aa;exact⟨(eq_of_beq he).symm,F⟩
  |false=>rw[he] at aa; cases aa
def Bd(p:bP):Prop:=(p.b8=0∨p.b8=2∨p.b8=3)∧(0≤p.at_∧p.at_≤1125899906842624)∧(p.b8=0→p=jX p.x)
theorem Ti{p:bP}(a e:Bool)(t:Int):((hl p a e t).1.b8=p.b8∧(hl p a e t).1.at_=p.at_)∨(p.b8=0∧e=false∧(hl p a e t).1.b8=3∧(hl p a e t).1.at_=p.at_):=by
 unfold hl bP.hN
 repeat' split
 all_goals first
  |exact .inl ⟨rfl,rfl⟩
  |(rename_i U; exact .inr ⟨U.2,U.1,rfl,rfl⟩)
  |(rename_i U _; exact .inr ⟨U.2,U.1,rfl,rfl⟩)
theorem amh{p:bP}(t:Int):((pb p t).1.b8=p.b8∧(pb p t).1.at_=p.at_)∨(p.b8≠2∧p.b8≠3∧(pb p t).1.b8=2∧(pb p t).1.at_=t∧jU t):=by
 unfold pb;split
 ·exact .inl ⟨rfl,rfl⟩
 ·split
  ·exact .inl ⟨rfl,rfl⟩
  ·split
   ·exact .inl ⟨rfl,rfl⟩
   ·split
    ·exact .inl ⟨rfl,rfl⟩
    ·split
     ·exact .inl ⟨rfl,rfl⟩
     ·rename_i ah I R _ _;exact .inr ⟨R,fun l=>I (.inl l),rfl,rfl,Classical.not_not.1 ah⟩
theorem XF(p:bP):((pK p).1.b8=p.b8∧p.b8=2∧(pK p).1.at_=p.at_)∨(p.b8≠2∧(pK p).1.b8=3∧(pK p).1.at_=p.at_):=by
 unfold pK;split
 ·rename_i h; exact .inl ⟨rfl,h,rfl⟩
 ·rename_i h; exact .inr ⟨h,rfl,rfl⟩
theorem LS{p:bP}{r:c5}(h:p.b8=2∨p.b8=3):(ku p r).b8=p.b8∧(ku p r).at_=p.at_:=by
 unfold ku;split
 ·rcases XF p with ⟨I,R,aK⟩ | ⟨I,R,aK⟩
  ·exact⟨I,aK⟩
  ·exact⟨by rw[R]; omega,aK⟩
 ·have I:(hl p true true r.t).1.b8=p.b8∧(hl p true true r.t).1.at_=p.at_:=by
   rcases Ti (p:=p) true true r.t with I | I
   ·exact I
   ·omega
  have R:(hl (hl p true true r.t).1 false true r.t).1.b8=p.b8∧(hl (hl p true true r.t).1 false true r.t).1.at_=p.at_:=by
   rcases Ti (p:=(hl p true true r.t).1) false true r.t with R | R
   ·rw[R.1,R.2]; exact I
   ·rw[I.1] at R; omega
  rcases amh (p:=(hl (hl p true true r.t).1 false true r.t).1) r.t with aK | aK
  ·rw[aK.1,aK.2]; exact R
  ·rw[R.1] at aK; omega
theorem afX{p:bP}{a:Bool}{t:Int}(h:jU t)(aH:(p.side a).said=false):hl p a true t=(p.hN a ⟨true,true,t⟩,0):=by
 unfold hl;rw[if_neg (by simp[h]),if_neg (by simp[aH])];simp
theorem afV{p:bP}{a:Bool}{t:Int}(h:¬ jU t):hl p a true t=(p,174):=by
 unfold hl;rw[if_pos ⟨rfl,h⟩]
theorem LU{x:oE}{r:c5}(aq:r.k≠3):(jU r.t→(ku (jX x) r).b8=2∧(ku (jX x) r).at_=r.t)∧(¬ jU r.t→ku (jX x) r=jX x):=by
 refine⟨fun h=>?_,fun h=>?_⟩
 ·unfold ku;rw[if_neg aq,afX (p:=jX x) (a:=true) h rfl];have bb:hl (bP.hN (jX x) true ⟨true,true,r.t⟩) false true r.t=(bP.hN (bP.hN (jX x) true ⟨true,true,r.t⟩) false ⟨true,true,r.t⟩,0):=afX h rfl;simp only;rw[bb];unfold pb;rw[if_neg (fun cK=>cK h)];have JO:(bP.hN (bP.hN (jX x) true ⟨true,true,r.t⟩) false ⟨true,true,r.t⟩).b8=0:=rfl;have GC:(bP.hN (bP.hN (jX x) true ⟨true,true,r.t⟩) false ⟨true,true,r.t⟩).both=true:=rfl;have OW:(bP.hN (bP.hN (jX x) true ⟨true,true,r.t⟩) false ⟨true,true,r.t⟩).a.g5=r.t:=rfl;have GD:(bP.hN (bP.hN (jX x) true ⟨true,true,r.t⟩) false ⟨true,true,r.t⟩).e.g5=r.t:=rfl;simp only;rw[if_neg (by rw[JO]; omega),if_neg (by rw[JO]; omega),if_neg (by rw[GC]; simp),if_neg (by rw[OW,GD]; omega)];exact⟨rfl,rfl⟩
 ·unfold ku;rw[if_neg aq,afV (p:=jX x) (a:=true) h];simp only;rw[afV h];unfold pb;rw[if_pos h]
theorem aGK{p:bP}{r:c5}(h:Bd p):Bd (ku p r):=by
 by_cases cb:p.b8=0
 ·have aF:=h.2.2 cb;generalize p.x=x at aF;subst aF;by_cases ck:r.k=3
  ·unfold ku;rw[if_pos ck];exact⟨.inr (.inr rfl),by show (0:Int)≤0∧(0:Int)≤_; omega,fun l=>by cases l⟩
  ·obtain⟨I,R⟩:=LU (x:=x) ck;by_cases ct:jU r.t
   ·obtain⟨aK,bp⟩:=I ct;refine⟨.inr (.inl aK),by rw[bp]; unfold jU at ct; omega,fun l=>by rw[aK] at l; cases l⟩
   ·rw[R ct]; exact h
 ·have I:=LS (r:=r) (p:=p) (by have:=h.1; omega);exact⟨by rw[I.1]; exact h.1,by rw[I.2]; exact h.2.1,fun l=>absurd (I.1▸l) cb⟩
def Di(P:List (Int×bP)):Prop:=∀ id p,P.lookup id=some p→Bd p
theorem aot{P:List (Int×bP)}{r:c5}(h:Di P):Di (nq P r):=by
 intro id p aF;unfold nq at aF;split at aF
 ·rw[List.lookup_append] at aF;cases al:P.lookup id with
  |some q=>rw[al] at aF; cases aF; exact h id _ al
  |none=>
   rw[al] at aF;simp only[Option.none_or,List.lookup] at aF;split at aF
   ·cases aF; exact⟨.inl rfl,by show (0:Int)≤0∧(0:Int)≤_; omega,fun _=>rfl⟩
   ·cases aF
 ·split at aF
  ·exact h id p aF
  ·rename_i q ba;rw[w6] at aF;split at aF
   ·rename_i l;subst l;rw[ba] at aF;cases aF;exact aGK (h _ _ ba)
   ·exact h id p aF
theorem Zx:∀ {an:List c5} {P:List (Int×bP)},Di P→Di (an.foldl nq P)
 |[],_,h=>h
 |r::an,P,h=>Zx (an:=an) (aot h)
theorem BI(an:List c5):Di (iZ an):=Zx fun id p h=>by cases h
theorem Zy{p:bP}(h:Bd p){d:Int×Int}(ag:lB p=some d):p.b8=2∨p.b8=3:=by
 unfold lB at ag;split at ag
 ·cases ag
 ·unfold Bd at h; omega
theorem OM{P:List (Int×bP)}{r:c5}{id:Int}{d:Int×Int}(am:Di P)(aa:wk P r)(h:(P.lookup id).bind lB=some d):((nq P r).lookup id).bind lB=some d:=by
 cases aF:P.lookup id with
 |none=>rw[aF] at h; cases h
 |some p=>
  rw[aF] at h;have h:lB p=some d:=h;unfold nq;rcases aa with ⟨aq,_,al⟩ | ⟨aq,al⟩
  ·rw[if_pos aq,List.lookup_append,aF];exact h
  ·rw[if_neg (by omega)];obtain⟨q,ba⟩:=Option.isSome_iff_exists.1 al;rw[ba];simp only;rw[w6];by_cases l:id=r.x.aD
   ·subst l;rw[if_pos rfl,aF];rw[aF] at ba;cases ba;have I:=LS (r:=r) (Zy (am _ _ aF) h);show lB (ku p r)=some d
    unfold lB at h ⊢;rw[I.1,I.2];exact h
   ·rw[if_neg l,aF];exact h
def Jh(n c:Nat)(P:List (Int×bP)):Prop:=∀ id p,P.lookup id=some p→Int.tmod id n=c∧p.x.aD=id∧jN p.x=0
theorem aeA(p:bP)(r:c5):(ku p r).x=p.x:=by
 unfold ku;split
 ·unfold pK; split<;>rfl
 ·have c:∀ (p:bP) (t:Int),(pb p t).1.x=p.x:=by
   intro p t;unfold pb
   repeat' split
   all_goals rfl
  rw[c,Mj,Mj]
theorem aEA{n c:Nat}{P:List (Int×bP)}{r:c5}(h:Jh n c P)(aa:wk P r)(U:Int.tmod r.x.aD n=c):Jh n c (nq P r):=by
 intro id p aF;unfold nq at aF;rcases aa with ⟨aq,F,al⟩ | ⟨aq,al⟩
 ·rw[if_pos aq,List.lookup_append] at aF;cases al:P.lookup id with
  |some q=>rw[al] at aF; cases aF; exact h id _ al
  |none=>
   rw[al] at aF;simp only[Option.none_or,List.lookup] at aF;split at aF
   ·rename_i l;cases aF;have l:=eq_of_beq l;subst l;exact⟨U,rfl,F⟩
   ·cases aF
 ·rw[if_neg (by omega)] at aF;obtain⟨q,ba⟩:=Option.isSome_iff_exists.1 al;rw[ba] at aF;simp only at aF;rw[w6] at aF;split at aF
  ·rename_i l;subst l;rw[ba] at aF;cases aF;rw[aeA];exact h _ _ ba
  ·exact h id p aF
theorem acO{n c:Nat}{an:List c5}(h:qY an)(U:∀ r∈an,Int.tmod r.x.aD n=c):∀ i,i≤an.length→Jh n c (iZ (an.take i))
 |0,_=>fun id p aF=>by simp[iZ] at aF
 |i+1,ay=>by
  have F:an[i]?=some an[i]:=List.getElem?_eq_getElem (by omega);rw[List.take_succ_eq_append_getElem (by omega),Cz];exact aEA (acO h U i (by omega)) (h _ _ F).2 (U _ (List.getElem_mem _))
theorem acN{n c:Nat}{an:List c5}(h:qY an)(U:∀ r∈an,Int.tmod r.x.aD n=c):Jh n c (iZ an):=by
 have:=acO h U an.length (Nat.le_refl _);rwa [List.take_length] at this
theorem Yr{an:List c5}(h:qY an){i D:Nat}(G3:i≤D){id:Int}{d:Int×Int}(ag:kG (an.take i) id=some d):kG (an.take D) id=some d:=by
 obtain⟨o,rfl⟩:=Nat.exists_eq_add_of_le G3;induction o with
 |zero=>exact ag
 |succ o cq=>
  have cq:=cq (by omega);by_cases c:i+o<an.length
  ·have F:an[i+o]?=some an[i+o]:=List.getElem?_eq_getElem c;have l:an.take (i+(o+1))=an.take (i+o)++[an[i+o]]:=List.take_succ_eq_append_getElem c;rw[l];unfold kG at cq ⊢;rw[Cz];exact OM (BI _) (h _ _ F).2 cq
  ·rw[List.take_of_length_le (by omega)];rw[List.take_of_length_le (by omega)] at cq;exact cq
theorem JI{an:List c5}(h:qY an){i:Nat}{id:Int}{d:Int×Int}(ag:kG (an.take i) id=some d):kG an id=some d:=by
 by_cases c:i≤an.length
 ·have:=Yr h c ag;rwa [List.take_length] at this
 ·rwa [List.take_of_length_le (by omega)] at ag
section
variable {f n c k:Nat} {W:gM} {Q:c5→Prop} {b cR:br} {g:ft}
theorem nA.cut(h:nA n c k W Q g){i D:Nat}(ay:i≤g.xs.length)(bT:D≤g.an.length)(ao:g.e≤D):nA n c k W Q ⟨g.xs.take i,i,g.an.take D,D⟩∧lr g ⟨g.xs.take i,i,g.an.take D,D⟩:=by
 refine⟨⟨fun r aa=>h.q r (List.mem_of_mem_take aa),fun x F=>h.qe x (List.mem_of_mem_take F),aeo h.nr D,fun r aa=>h.ours r (List.mem_of_mem_take aa),fun r aa=>h.v0 r (List.mem_of_mem_take aa),?_,?_,?_,?_⟩,fun id d ag=>?_⟩
 ·have:=h.yT; simp only[List.length_take]; omega
 ·have:=h.w7; simp only[List.length_take]; omega
 ·simp only[List.length_take]; omega
 ·simp only[List.length_take]; omega
 ·show kG ((g.an.take D).take D) id=some d
  rw[List.take_take,Nat.min_self];exact Yr h.nr ao ag
theorem lr.refl(g:ft):lr g g:=fun _ _ h=>h
theorem lr.trans{g h i:ft}(a:lr g h)(e:lr h i):lr g i:=gM.le_trans a e
theorem xG.gone(m:xG f n c b g)(cN:nA n c k W Q g)(bI:List Int):∃ cP,nA n c k W Q cP∧lr g cP∧pC (Disk.hT bI b.K) (cP.xs.map jq) (cP.an.map fV):=by
 obtain⟨i,D,I,R,aK,bp,ag,_⟩:=m.N.hT bI;rw[List.length_map] at R bp;obtain⟨bD,e4⟩:=cN.cut (i:=i) (D:=D) R bp aK;rw[← List.map_take,← List.map_take] at ag;exact⟨_,bD,e4,ag⟩
theorem amU{xs:List dW}(h:∀ x∈xs,nZ x):(cF (xs.map jq)).length≤74*xs.length:=Pf fun x F=>YO (h x F)
theorem amT{an:List c5}(h:∀ r∈an,o5 r):(cF (an.map fV)).length≤74*an.length:=Pf fun r aa=>DX (h r aa)
theorem YE(m:xG f n c b g)(cN:nA n c k W Q g)(aq:k≤50000){x:dW}(F:qg W x) :
  (∃ er,f_ b.K b.W x=(er,⟨⟨g.xs.length+1,g.a,0,false⟩,(m8 b.W.v x).1⟩,(m8 b.W.v x).2)∧Live er ((g.xs++[x]).map jq) g.a (g.an.map fV) g.e) ∨
  (∃ cP,nA n c k W Q cP∧lr g cP∧pC (f_ b.K b.W x).1 (cP.xs.map jq) (cP.an.map fV)∧(f_ b.K b.W x).2.1.v=b.W.v∧(f_ b.K b.W x).2.2=71):=by
 have hi:=YO F.1;have Hj:=amU fun S aB=>(cN.qe S aB).1;have aq0:=cN.yT;obtain⟨I,R⟩:=m.N.akz (x:=jq x) (by omega) (by omega);have oJ:∀ lb l,oG b.K 0 (hh (jq x))=(lb,l)→gB b.K b.W.V (jq x)=(lb,⟨if l=0 then g.xs.length+1 else g.xs.length,g.a,0,l==71⟩,l):=by
  intro lb l he;unfold gB;rw[m.V];simp only;rw[if_neg (by simp),if_neg (by omega),he];simp only;rw[wrap_i64 (by omega) (by omega)];simp
 by_cases Y:b.K.et=1
 ·right;obtain⟨cP,rp,kJ,s_⟩:=m.gone cN b.K.bI;have l:=oJ _ _ (R Y);have BG:f_ b.K b.W x=(Disk.hT b.K.bI b.K,⟨⟨if (71:Int)=0 then g.xs.length+1 else g.xs.length,g.a,0,(71:Int)==71⟩,b.W.v⟩,71):=by
   unfold f_;rw[if_pos F.2.1,l,if_neg (by simp)]
  rw[BG];exact⟨cP,rp,kJ,s_,rfl,rfl⟩
 ·left;obtain⟨er,aK,bp⟩:=I Y;have l:=oJ _ _ aK;refine⟨er,?_,by rw[List.map_append]; exact bp⟩;unfold f_;rw[if_pos F.2.1,l,if_pos rfl];simp
theorem nA.amw(h:nA n c k W Q g){x:dW}(F:qg W x):nA n c (k+1) W Q ⟨g.xs++[x],g.a,g.an,g.e⟩∧lr g ⟨g.xs++[x],g.a,g.an,g.e⟩:=by
 refine⟨⟨h.q,fun S aB=>?_,h.nr,h.ours,h.v0,?_,Nat.le_trans h.w7 (Nat.le_succ k),?_,h.oe⟩,fun _ _ l=>l⟩
 ·rcases List.mem_append.1 aB with aB | aB
  ·exact h.qe S aB
  ·rw[List.mem_singleton.1 aB]; exact F
 ·have:=h.yT; simp; omega
 ·have:=h.uk; simp; omega
theorem aB7(v:dl)(x:dW):∀ S∈(m8 v x).1.held.map (·.1),S∈v.held.map (·.1)∨S=x.aD:=by
 have Yy:∀ (id:Int) (es:List (Int×mF)) (S:Int),S∈(del id es).map (·.1)→S∈es.map (·.1):=fun id es S h=>Q9.mem h;intro S aB;unfold m8 at aB;split at aB
 ·left;unfold y6 at aB
  repeat' split at aB
  all_goals exact aB
 ·split at aB
  ·unfold Ad at aB;split at aB
   ·exact .inl aB
   ·split at aB
    ·exact .inl aB
    ·have aB:S∈(eZ x.aD _ v.held).map (·.1):=aB;rw[KN] at aB;split at aB
     ·exact .inl aB
     ·rcases List.mem_append.1 aB with h | h
      ·exact .inl h
      ·exact .inr (List.mem_singleton.1 h)
  ·left;unfold oF at aB;split at aB
   ·unfold xZ at aB;split at aB
    ·exact aB
    ·split at aB
     ·split at aB<;>exact aB
     ·split at aB
      ·split at aB
       ·exact aB
       ·exact Yy _ _ S aB
      ·exact aB
   ·split at aB
    ·unfold x2 at aB;split at aB
     ·exact aB
     ·split at aB
      ·exact aB
      ·split at aB
       ·exact aB
       ·have aB:S∈(r3 v x.aD).held.map (·.1):=aB;unfold r3 at aB;split at aB
        ·exact Yy _ _ S aB
        ·exact aB
    ·split at aB
     ·unfold q_ at aB
      repeat' split at aB
      all_goals exact aB
     ·exact aB
theorem aab{v:dl}{x:dW}(F:x.aD≤2000000)(h:∀ l∈v.held,l.1≤2000000):∀ l∈(m8 v x).1.held,l.1≤2000000:=by
 intro l he;rcases aB7 v x l.1 (List.mem_map.2 ⟨l,he,rfl⟩) with I | I
 ·obtain⟨h6,oN,R⟩:=List.mem_map.1 I;have:=h h6 oN;omega
 ·omega
theorem apM{xs:List dW}(F:∀ x∈xs,x.aD≤2000000):∀ {v:dl},(∀ l∈v.held,l.1≤2000000)→∀ l∈(qw v xs).held,l.1≤2000000:=by
 induction xs with
 |nil=>intro v h; exact h
 |cons x xs cq=>
  intro v h;exact cq (fun S aB=>F S (List.mem_cons_of_mem _ aB)) (aab (F x (List.mem_cons_self ..)) h)
theorem HS(h:eP f n c k W Q b g)(ag:b.K.down=false)(aq:k≤50000){x:dW}(F:qg W x) :
  ∃ cP,eP f n c (k+1) W Q { b with K:=(f_ b.K b.W x).1,W:=(f_ b.K b.W x).2.1 } cP∧lr g cP∧((f_ b.K b.W x).1.down=true∨(f_ b.K b.W x).1.down=false∧cP.xs=g.xs++[x]∧(f_ b.K b.W x).2.2=(m8 b.W.v x).2):=by
 have m:=h.live ag;have b4:bM (k+1) { b with K:=(f_ b.K b.W x).1,W:=(f_ b.K b.W x).2.1 }:=by
  have o:=h.b4.mono (Nat.le_succ k);refine⟨o.ax,o.rd,o.src,YC h.b4.K,amA h.b4.fit (by have:=F.2.2.1; omega),?_,o.mc,o.l1,o.out⟩;show ∀ l∈(f_ b.K b.W x).2.1.v.held,_
  unfold f_;split
  ·split
   ·exact aab F.2.2.1 h.b4.ids
   ·exact h.b4.ids
  ·exact h.b4.ids
 rcases YE m h.cN aq F with ⟨er,l,al⟩ | ⟨cP,I,R,aK,bp,dz⟩
 ·obtain⟨bD,e4⟩:=h.cN.amw F;rw[l] at b4 ⊢;refine⟨_,⟨b4,bD,.inl ⟨al,?_,?_,m.A,m.P,m.outs,m.sure⟩⟩,e4,.inr ⟨al.up,rfl,rfl⟩⟩
  ·simp
  ·show (m8 b.W.v x).1=_
   rw[ac3,m.v]
 ·exact⟨cP,⟨b4,I.mono (gM.le_refl W) (Nat.le_succ k),.inr aK⟩,R,.inl aK.off⟩
end
section
variable {f n c k:Nat} {W:gM} {Q:c5→Prop} {b cR:br} {g:ft}
def m3(f n c k:Nat)(W:gM)(Q:c5→Prop)(cR:br)(g:ft):Prop:=∃ cP,eP f n c k W Q cR cP∧lr g cP
theorem m3.mono{gf:Nat}(h:m3 f n c k W Q cR g)(aq:k≤gf):m3 f n c gf W Q cR g:=by
 obtain⟨cP,I,R⟩:=h;exact⟨cP,I.mono (gM.le_refl W) aq,R⟩
theorem eP.lm(h:eP f n c k W Q b g):m3 f n c k W Q b g:=⟨g,h,lr.refl g⟩
theorem ab8(h:eP f n c k W Q b g)(b4:bM k cR)(ai:cR.K=b.K)(ff:cR.W=b.W)(ph:cR.A=b.A)(fA:cR.P=b.P)(aj:cR.out=b.out)(aH:cR.sure=b.sure):eP f n c k W Q cR g:=by
 refine⟨b4,h.cN,?_⟩;rcases h.bi with m | d
 ·exact .inl ⟨by rw[ai]; exact m.N,by rw[ff]; exact m.V,by rw[ff]; exact m.v,by rw[ph]; exact m.A,by rw[fA]; exact m.P,by rw[aj]; exact m.outs,by rw[aH]; exact m.sure⟩
 ·exact .inr (by rw[ai]; exact d)
theorem aDb(h:bM k b){ax:hz}{src:Int}(I:jl ax)(R:-9223372036854775808≤src∧src≤1125899906842624):bM k { b with ax:=ax,src:=src }:=⟨I,h.rd,R,h.K,h.fit,h.ids,h.mc,h.l1,h.out⟩
theorem xa(h:eP f n c k W Q b g){ax:hz}{src:Int}(I:jl ax)(R:-9223372036854775808≤src∧src≤1125899906842624):eP f n c k W Q { b with ax:=ax,src:=src } g:=ab8 h (aDb h.b4 I R) rfl rfl rfl rfl rfl rfl
theorem L7{ax:hz}{rd src:Int}{N:List Int}(k:jl ax)(h:-9223372036854775808≤src∧src≤1125899906842624):jl (gL ax rd src N).1∧-9223372036854775808≤(gL ax rd src N).2.1∧(gL ax rd src N).2.1≤1125899906842624:=by
 have I:=AK (ax:=ax) (rd:=rd) (N:=N) h.2;have R:=(k.now rd).1;refine⟨?_,?_,I.1⟩
 ·unfold gL; split<;>exact R
 ·unfold gL;split
  ·exact h.1
  ·unfold Au;split
   ·exact h.1
   ·have aK:=foldl_max N (max src (fj ax rd).2.1.jO);split
    ·exact h.1
    ·simp only; omega
theorem HC{src t:Int}(h:-9223372036854775808≤src∧src≤1125899906842624):-9223372036854775808≤(oO src t).1∧(oO src t).1≤1125899906842624:=by
 unfold oO;by_cases c:jU t
 ·rw[if_pos c];unfold jU at c;simp only; omega
 ·rw[if_neg c]; exact h
theorem ls.plain{W:gM}{o:hZ}(h:Oa o)(aq:o.Kind≠3):ls W o:=⟨h,fun l=>absurd l aq⟩
theorem ab9(h:eP f n c k W Q b g){m:List qh}(al:∀ s∈m,b.K.down=false→ls (own n c g.an) s.o∧0≤s.ij∧s.ij<n)(hi:m.length≤300000):eP f n c (k+1) W Q { b with out:=b.out++m } g:=by
 have o:=h.b4.mono (Nat.le_succ k);refine⟨⟨o.ax,o.rd,o.src,o.K,o.fit,o.ids,o.mc,o.l1,?_⟩,h.cN.mono (gM.le_refl W) (Nat.le_succ k),?_⟩
 ·have:=h.b4.out;show (b.out++m).length≤_
  rw[List.length_append,Nat.mul_add]; omega
 ·rcases h.bi with q | d
  ·refine .inl ⟨q.N,q.V,q.v,q.A,q.P,fun s aH=>?_,q.sure⟩;rcases List.mem_append.1 aH with aH | aH
   ·exact q.outs s aH
   ·exact al s aH q.N.up
  ·exact .inr d
theorem Cp(h:eP f n c k W Q b g){ij:Int}{o:hZ}(hm:b.K.down=false→ls (own n c g.an) o)(aT:0≤ij∧ij<n):eP f n c (k+1) W Q (nV b ij o) g:=
 ab9 (m:=[⟨ij,o⟩]) h (fun s aH ag=>by rw[List.mem_singleton.1 aH]; exact⟨hm ag,aT⟩) (by simp)
theorem aca(h:eP f n c k W Q b g)(ag:b.K.down=false):∃ cP,eP f n c k W Q { b with K:=(gH b.K b.W.V).1,W:=⟨(gH b.K b.W.V).2.1,b.W.v⟩ } cP∧lr g cP∧((gH b.K b.W.V).1.down=true∧(gH b.K b.W.V).2.2=71∨(gH b.K b.W.V).1.down=false∧(gH b.K b.W.V).2.2=0∧cP.xs=g.xs∧cP.an=g.an∧cP.e=g.e):=by
 have m:=h.live ag;have b4:bM k { b with K:=(gH b.K b.W.V).1,W:=⟨(gH b.K b.W.V).2.1,b.W.v⟩ }:=⟨h.b4.ax,h.b4.rd,h.b4.src,L9 h.b4.K,h.b4.fit,h.b4.ids,h.b4.mc,h.b4.l1,h.b4.out⟩
 obtain⟨I,R⟩:=m.N.aIc;have l:∀ lb bb,oY b.K 0=(lb,bb)→gH b.K b.W.V=(lb,⟨g.xs.length,if bb=0 then g.xs.length else g.a,0,bb==71⟩,bb):=by
  intro lb bb he;unfold gH;rw[m.V];simp only;rw[if_neg (by simp),he];simp
 by_cases Y:b.K.et=1
 ·obtain⟨cP,rp,kJ,s_⟩:=m.gone h.cN b.K.bI;have es:=l _ _ (R Y);rw[es] at b4 ⊢;exact⟨cP,⟨b4,rp,.inr s_⟩,kJ,.inl ⟨s_.off,rfl⟩⟩
 ·obtain⟨er,aK,bp⟩:=I Y;have es:=l _ _ aK;rw[es] at b4 ⊢;rw[List.length_map] at bp;refine⟨⟨g.xs,g.xs.length,g.an,g.e⟩,⟨b4,⟨h.cN.q,h.cN.qe,h.cN.nr,h.cN.ours,h.cN.v0,h.cN.yT,h.cN.w7,Nat.le_refl _,h.cN.oe⟩,.inl ⟨bp,rfl,m.v,m.A,m.P,m.outs,m.sure⟩⟩,fun _ _ l=>l,.inr ⟨bp.up,rfl,rfl,rfl,rfl⟩⟩
theorem aDu(h:eP f n c k W Q b g)(ag:b.K.down=false):∃ cP,eP f n c k W Q { b with K:=(gH b.K b.A).1,A:=(gH b.K b.A).2.1 } cP∧lr g cP∧((gH b.K b.A).1.down=true∧(gH b.K b.A).2.2=71∨(gH b.K b.A).1.down=false∧(gH b.K b.A).2.2=0∧cP.xs=g.xs∧cP.an=g.an∧cP.e=g.an.length):=by
 have m:=h.live ag;have b4:bM k { b with K:=(gH b.K b.A).1,A:=(gH b.K b.A).2.1 }:=⟨h.b4.ax,h.b4.rd,h.b4.src,L9 h.b4.K,h.b4.fit,h.b4.ids,h.b4.mc,h.b4.l1,h.b4.out⟩
 obtain⟨I,R⟩:=m.N.aId;have l:∀ lb bb,oY b.K 1=(lb,bb)→gH b.K b.A=(lb,⟨g.an.length,if bb=0 then g.an.length else g.e,1,bb==71⟩,bb):=by
  intro lb bb he;unfold gH;rw[m.A];simp only;rw[if_neg (by simp),he];simp
 by_cases Y:b.K.et=1
 ·obtain⟨cP,rp,kJ,s_⟩:=m.gone h.cN b.K.bI;have es:=l _ _ (R Y);rw[es] at b4 ⊢;exact⟨cP,⟨b4,rp,.inr s_⟩,kJ,.inl ⟨s_.off,rfl⟩⟩
 ·obtain⟨er,aK,bp⟩:=I Y;have es:=l _ _ aK;rw[es] at b4 ⊢;rw[List.length_map] at bp;have ao:lr g ⟨g.xs,g.a,g.an,g.an.length⟩:=fun id d ag=>by
   show kG (g.an.take g.an.length) id=some d
   rw[List.take_length];exact JI h.cN.nr ag
  exact⟨⟨g.xs,g.a,g.an,g.an.length⟩,⟨b4,⟨h.cN.q,h.cN.qe,h.cN.nr,h.cN.ours,h.cN.v0,h.cN.yT,h.cN.w7,h.cN.uk,Nat.le_refl _⟩,.inl ⟨bp,m.V,m.v,rfl,m.P,m.outs,fun id aH=>by obtain⟨d,ag⟩:=m.sure id aH; exact⟨d,ao _ _ ag⟩⟩⟩,ao,.inr ⟨bp.up,rfl,rfl,rfl,rfl⟩⟩
theorem akB(m:xG f n c b g)(cN:nA n c k W Q g)(aq:k≤50000){r:c5}(aa:o5 r) :
  (∃ er,gB b.K b.A (fV r)=(er,⟨g.an.length+1,g.e,1,false⟩,0)∧Live er (g.xs.map jq) g.a ((g.an++[r]).map fV) g.e) ∨
  (∃ cP,nA n c k W Q cP∧lr g cP∧pC (gB b.K b.A (fV r)).1 (cP.xs.map jq) (cP.an.map fV)∧(gB b.K b.A (fV r)).2.2=71):=by
 have hi:=DX aa;have Hj:=amT (aen cN.nr);have aq0:=cN.w7;obtain⟨I,R⟩:=m.N.akA (x:=fV r) (by omega) (by omega);have oJ:∀ lb l,oG b.K 1 (hh (fV r))=(lb,l)→gB b.K b.A (fV r)=(lb,⟨if l=0 then g.an.length+1 else g.an.length,g.e,1,l==71⟩,l):=by
  intro lb l he;unfold gB;rw[m.A];simp only;rw[if_neg (by simp),if_neg (by omega),he];simp only;rw[wrap_i64 (by omega) (by omega)];simp
 by_cases Y:b.K.et=1
 ·right;obtain⟨cP,rp,kJ,s_⟩:=m.gone cN b.K.bI;have l:=oJ _ _ (R Y);rw[l];exact⟨cP,rp,kJ,s_,rfl⟩
 ·left;obtain⟨er,aK,bp⟩:=I Y;have l:=oJ _ _ aK;refine⟨er,?_,by rw[List.map_append]; exact bp⟩;rw[l];simp
theorem nA.aGA(h:nA n c k W Q g){r:c5}(aa:o5 r)(Y:wk (iZ g.an) r)(U:Int.tmod r.x.aD n=c)(aT:r.k=2→jU r.t)(ba:Q r):nA n c (k+1) W Q ⟨g.xs,g.a,g.an++[r],g.e⟩∧lr g ⟨g.xs,g.a,g.an++[r],g.e⟩:=by
 refine⟨⟨fun S aB=>?_,h.qe,aGp h.nr aa Y,fun S aB=>?_,fun S aB=>?_,Nat.le_trans h.yT (Nat.le_succ k),?_,h.uk,?_⟩,fun id d l=>?_⟩
 ·rcases List.mem_append.1 aB with aB | aB
  ·exact h.q S aB
  ·rw[List.mem_singleton.1 aB]; exact ba
 ·rcases List.mem_append.1 aB with aB | aB
  ·exact h.ours S aB
  ·rw[List.mem_singleton.1 aB]; exact U
 ·rcases List.mem_append.1 aB with aB | aB
  ·exact h.v0 S aB
  ·rw[List.mem_singleton.1 aB]; exact aT
 ·have:=h.w7; simp; omega
 ·have:=h.oe; simp; omega
 ·show kG ((g.an++[r]).take g.e) id=some d
  rw[List.take_append_of_le_length h.oe];exact l
theorem aED{an:List c5}{r:c5}(Y:wk (iZ an) r):gM.le (own n c an) (own n c (an++[r])):=by
 intro id d h;unfold own at h ⊢;split at h
 ·rename_i l;rw[if_pos l];unfold kG at h ⊢;rw[Cz];exact OM (BI _) Y h
 ·cases h
theorem ab7(h:eP f n c k W Q b g)(ag:b.K.down=false)(aq:k≤50000){r:c5}(aa:o5 r)(Y:wk (iZ g.an) r)(U:Int.tmod r.x.aD n=c)(aT:r.k=2→jU r.t)(ba:Q r){jA mI:List (Int×bP)}{m:List qh}
  (I:sM jA∧jA.length≤k+1) (R:sM mI∧mI.length≤k+1) (iV:Dm jA (g.an++[r])) (al:∀ s∈m,ls (own n c (g.an++[r])) s.o∧0≤s.ij∧s.ij<n) (hi:m.length≤300000) :
  ((gB b.K b.A (fV r)).2.2=0→m3 f n c (k+1) W Q { b with K:=(gB b.K b.A (fV r)).1,A:=(gB b.K b.A (fV r)).2.1,P:=jA,out:=b.out++m } g) ∧
  ((gB b.K b.A (fV r)).2.2≠0→m3 f n c (k+1) W Q { b with K:=(gB b.K b.A (fV r)).1,A:=(gB b.K b.A (fV r)).2.1,P:=mI } g∧(gB b.K b.A (fV r)).1.down=true∧(gB b.K b.A (fV r)).2.2=71):=by
 have q:=h.live ag;have o:=h.b4.mono (Nat.le_succ k);rcases akB q h.cN aq aa with ⟨er,l,kX⟩ | ⟨cP,bD,e4,jr,nI⟩
 ·obtain⟨c0,c4⟩:=h.cN.aGA aa Y U aT ba;refine⟨fun _=>⟨_,⟨⟨o.ax,o.rd,o.src,Js h.b4.K,o.fit,o.ids,I.1,I.2,?_⟩,c0,.inl ⟨?_,q.V,q.v,?_,iV,?_,fun id aH=>?_⟩⟩,c4⟩,fun ah=>absurd (by rw[l]) ah⟩
  ·have:=h.b4.out;show (b.out++m).length≤_
   rw[List.length_append,Nat.mul_add]; omega
  ·show Live (gB b.K b.A (fV r)).1 _ _ _ _
   rw[l]; exact kX
  ·show (gB b.K b.A (fV r)).2.1=_
   rw[l]; simp
  ·intro s aH;rcases List.mem_append.1 aH with aH | aH
   ·obtain⟨a,e⟩:=q.outs s aH;exact⟨a.mono (aED Y),e⟩
   ·exact al s aH
  ·obtain⟨d,ag⟩:=q.sure id aH;exact⟨d,c4 _ _ ag⟩
 ·refine⟨fun ah=>(by rw[nI] at ah; cases ah),fun _=>⟨⟨cP,⟨⟨o.ax,o.rd,o.src,Js h.b4.K,o.fit,o.ids,R.1,R.2,o.out⟩,bD.mono (gM.le_refl W) (Nat.le_succ k),.inr jr⟩,e4⟩,jr.off,nI⟩⟩
end
theorem aID{i:Int}(h:1≤i):gU (2*i-1)=i∧gU (2*i)=i:=by
 unfold gU;rw[Int.tdiv_eq_ediv_of_nonneg (by omega),Int.tdiv_eq_ediv_of_nonneg (by omega)];omega
theorem aIC{i:Int}(h:1≤i∧i≤2000000):1≤gU i∧gU i≤1000000:=by
 unfold gU;rw[Int.tdiv_eq_ediv_of_nonneg (by omega)];omega
theorem afx{a:Int}{n:Nat}(h:0<n)(ah:0≤a):0≤Int.tmod a n∧Int.tmod a n<n:=⟨Int.tmod_nonneg _ ah,Int.tmod_lt_of_pos _ (by omega)⟩
theorem ID{W:gM}{id t:Int}{b7:Bool}(h:1≤id∧id≤2000000)(aT:0≤t∧t≤1125899906842624):ls W (rM id b7 t):=
 ls.plain ⟨h,by show (0:Int)≤0∧(0:Int)<_; omega,by show (0:Int)≤0∧(0:Int)≤_; omega,aT⟩ (by show (2:Int)≠3; omega)
theorem Yq{W:gM}{id:Int}{p:bP}(h:1≤id∧id≤2000000)(ff:W (gU id)=lB p)(ah:p.b8=2∨p.b8=3)(Y:0≤p.at_∧p.at_≤1125899906842624):ls W ⟨3,⟨id,0,0,false⟩,p.b8==2,p.at_⟩:=by
 refine⟨⟨h,by show (0:Int)≤0∧(0:Int)<_; omega,by show (0:Int)≤0∧(0:Int)≤_; omega,Y⟩,fun _=>?_⟩;have l:lB p=some (p.b8,p.at_):=by unfold lB; rw[if_neg (by omega)]
 rw[l] at ff;refine⟨fun aB=>?_,fun aB=>?_⟩
 ·have aB:p.b8=2:=by simpa using aB
  rw[aB] at ff; exact ff
 ·have aB:p.b8≠2:=by simpa using aB
  have:p.b8=3:=by omega
  rw[this] at ff; exact⟨_,ff⟩
theorem Ow{W:gM}{n:Nat}{p:bP}(aM:0<n)(F:jN p.x=0)(iy:p.b8=0∨p.b8=2∨p.b8=3)(Y:0≤p.at_∧p.at_≤1125899906842624)(ff:p.b8≠0→W p.x.aD=lB p):∀ s∈j6 n p,ls W s.o∧0≤s.ij∧s.ij<n:=by
 intro s aH;unfold j6 at aH;obtain⟨dS,_,rfl⟩:=List.mem_map.1 aH;have I:=AP F;have hW:1≤(ln p dS).aD∧(ln p dS).aD≤2000000∧gU (ln p dS).aD=p.x.aD:=by
  have:=aID I.1.1;unfold ln;split
  ·exact⟨by simp only; omega,by simp only; omega,this.1⟩
  ·exact⟨by simp only; omega,by simp only; omega,this.2⟩
 have ZY:0≤(ln p dS).cl∧(ln p dS).cl<4096:=by
  unfold ln;split
  ·exact I.2.1
  ·exact I.2.2.1
 have a5:0≤(ln p dS).b∧(ln p dS).b≤1000000000000000:=by
  unfold ln;split<;>(simp only; omega)
 unfold DI;refine⟨?_,afx aM ZY.1⟩;simp only;by_cases cb:p.b8=0
 ·rw[if_neg (fun h=>h cb)];exact ls.plain ⟨⟨hW.1,hW.2.1⟩,ZY,a5,by show (0:Int)≤0∧(0:Int)≤_; omega⟩ (by show (1:Int)≠3; omega)
 ·rw[if_pos cb];exact Yq ⟨hW.1,hW.2.1⟩ (by rw[hW.2.2]; exact ff cb) (by omega) Y
theorem aoj{v:dl}(aW:Fit v)(id:Int):0≤(fw v id).g5∧(fw v id).g5≤1125899906842624:=by
 unfold fw;cases h:v.ee.lookup id with
 |none=>show (0:Int)≤0∧(0:Int)≤_; omega
 |some t=>
  show 0≤t.g5∧t.g5≤_
  have I:=aW.wK _ _ h;rcases I.2 with ⟨_,q,ba,l⟩ | ⟨_,R,aK⟩ | ⟨_,R⟩
  ·have:=aW.ids _ _ ba;have:=aW.e_.mark;have:=aW.fQ;omega
  ·omega
  ·omega
section
variable {f n c k:Nat} {W:gM} {Q:c5→Prop} {b cR:br} {g:ft}
theorem xG.pl(m:xG f n c b g)(cN:nA n c k W Q g){id:Int}{p:bP}(h:b.P.lookup id=some p):∃ q,(iZ g.an).lookup id=some q∧Bf p q∧Bd q∧Int.tmod id n=c∧p.x.aD=id∧jN p.x=0:=by
 obtain⟨q,ba,he⟩:=(m.P id).1 p h;have I:=acN cN.nr cN.ours id q ba;exact⟨q,ba,he,BI _ _ _ ba,I.1,by rw[he.1]; exact I.2.1,by rw[he.1]; exact I.2.2⟩
theorem aoi{p q:bP}(h:Bf p q):lB p=lB q:=by unfold lB; rw[h.2.1,h.2.2]
theorem RS{an:List c5}{id:Int}{p q:bP}(U:Int.tmod id n=c)(ba:(iZ an).lookup id=some q)(he:Bf p q):own n c an id=lB p:=by
 unfold own kG;rw[if_pos U,ba,aoi he];rfl
theorem aFg{P:List (Int×bP)}{an:List c5}{id:Int}{p ic:bP}(h:Dm P an)(aF:P.lookup id=some p)(he:Bf ic p):Dm (jc P id ic) an:=by
 intro x;rw[w6];by_cases l:x=id
 ·subst l;rw[if_pos rfl,aF];refine⟨fun r aa=>?_,fun aa=>by cases aa⟩;cases aa;obtain⟨q,ba,R⟩:=(h x).1 p aF;exact⟨q,ba,he.1.trans R.1,he.2.1.trans R.2.1,he.2.2.trans R.2.2⟩
 ·rw[if_neg l];exact h x
theorem K_(h:eP f n c k W Q b g){id:Int}{p ic:bP}(aF:b.P.lookup id=some p)(he:Bf ic p):eP f n c k W Q { b with P:=jc b.P id ic } g:=by
 refine⟨⟨h.b4.ax,h.b4.rd,h.b4.src,h.b4.K,h.b4.fit,h.b4.ids,RX h.b4.mc aF he.1,by show (jc _ _ _).length≤_; rw[Me]; exact h.b4.l1,h.b4.out⟩,h.cN,?_⟩;rcases h.bi with m | d
 ·exact .inl ⟨m.N,m.V,m.v,m.A,aFg m.P aF he,m.outs,m.sure⟩
 ·exact .inr d
theorem aDm(h:eP f n c k W Q b g)(ag:b.K.down=false)(aq:k≤49000){from_:Int}{o:hZ}(hm:ls W o)(am:0≤from_∧from_<n):m3 f n c (k+2) W Q (rr b from_ o.Part) g:=by
 have hW:=hm.1.id;unfold rr;split
 ·exact (Cp h (fun _=>ID hW (aoj h.b4.fit _)) am).lm.mono (by omega)
 ·split
  ·exact (Cp h (fun _=>ID hW (by omega)) am).lm.mono (by omega)
  ·split
   ·have aH:=L7 (rd:=b.cO) (N:=[]) h.b4.ax h.b4.src;have al:=AK (ax:=b.ax) (rd:=b.cO) (N:=[]) h.b4.src.2;generalize gL b.ax b.cO b.src []=s at aH al;have I:=xa h aH.1 aH.2;unfold yz;split
    ·exact I.lm.mono (by omega)
    ·rename_i ah;have ah:=Classical.not_not.1 ah;have aT:=al.2 ah;have F:qg W ⟨2,s.2.2.1,o.Part.aD,o.Part.cl,o.Part.b,o.Part.ir⟩:=by
      refine⟨⟨by simp,by simp only; omega,by simp only; omega,by have:=hm.1.ac; simp only; omega,by have:=hm.1.n; simp only; omega⟩,⟨by show (1:Int)≤2; omega,by show (2:Int)≤6; omega⟩,by simp only; omega,fun l=>absurd l (by show (2:Int)≠3; omega),fun l=>absurd l (by show (2:Int)≠4; omega)⟩
     obtain⟨cP,R,aK,_⟩:=HS I ag (by omega) F;unfold vn;split
     ·exact⟨cP,Cp R (fun _=>ID hW (by omega)) am,aK⟩
     ·split
      ·exact⟨cP,Cp R (fun _=>ID hW (by omega)) am,aK⟩
      ·exact m3.mono ⟨cP,R,aK⟩ (by omega)
   ·exact h.lm.mono (by omega)
theorem aDl(h:eP f n c k W Q b g)(ag:b.K.down=false)(aq:k≤49000){from_:Int}{o:hZ}(hm:ls W o)(aK:o.Kind=3)(am:0≤from_∧from_<n):m3 f n c (k+2) W Q (tW b from_ o) g:=by
 have hW:=hm.1.id;have ZZ:ls (own n c g.an) (By o.Part.aD):=ls.plain ⟨hW,by show (0:Int)≤0∧(0:Int)<_; omega,by show (0:Int)≤0∧(0:Int)≤_; omega,by show (0:Int)≤0∧(0:Int)≤_; omega⟩ (by show (4:Int)≠3; omega);have apl:∀ T,ls T (By o.Part.aD):=fun T=>ls.plain ZZ.1 (by show (4:Int)≠3; omega);unfold tW;split
 ·exact (Cp h (fun _=>ZZ) am).lm.mono (by omega)
 ·have F:qg W (ra o):=by
   have aT:=hm.1.t;have ff:=hm.2 aK;unfold ra;cases aB:o.j5 with
   |true=>
    rw[if_pos rfl];exact⟨⟨by simp,by simp only; omega,by simp only; omega,by simp,by simp⟩,⟨by show (1:Int)≤3; omega,by show (3:Int)≤6; omega⟩,by simp only; omega,fun _=>ff.1 aB,fun l=>absurd l (by show (3:Int)≠4; omega)⟩
   |false=>
    rw[if_neg (by simp)];exact⟨⟨by simp,by simp,by simp only; omega,by simp,by simp⟩,⟨by show (1:Int)≤4; omega,by show (4:Int)≤6; omega⟩,by simp only; omega,fun l=>absurd l (by show (4:Int)≠3; omega),fun _=>ff.2 aB⟩
  obtain⟨cP,I,R,_⟩:=HS h ag (by omega) F;unfold iw;split
  ·exact m3.mono ⟨cP,I,R⟩ (by omega)
  ·refine⟨cP,?_,R⟩;have arG:-9223372036854775808≤(if o.j5=true then (oO b.src o.b9).1 else b.src)∧(if o.j5=true then (oO b.src o.b9).1 else b.src)≤1125899906842624:=by
    split
    ·exact HC h.b4.src
    ·exact h.b4.src
   exact Cp (b:={ b with K:=(f_ b.K b.W (ra o)).1,W:=(f_ b.K b.W (ra o)).2.1,src:=if o.j5=true then (oO b.src o.b9).1 else b.src }) (xa I I.b4.ax arG) (fun _=>apl _) am
theorem aDg(h:eP f n c k W Q b g){o:hZ}:eP f n c k W Q (xU b o) g:=by
 unfold xU;cases al:b.P.lookup (gU o.Part.aD) with
 |none=>exact h
 |some p=>
  refine K_ h al ?_;unfold Gh;split
  ·exact⟨rfl,rfl,rfl⟩
  ·simp only;split<;>exact⟨rfl,rfl,rfl⟩
end
section
variable {f n c k:Nat} {W:gM} {Q:c5→Prop} {b cR:br} {g:ft}
theorem ac4{an:List c5}{r:c5}{q:bP}(aq:r.k≠1)(ba:(iZ an).lookup r.x.aD=some q):iZ (an++[r])=jc (iZ an) r.x.aD (ku q r):=by
 rw[Cz];unfold nq;rw[if_neg aq,ba]
theorem aIT(p:bP)(a e:Bool)(t:Int):(hl p a e t).2≠0→(hl p a e t).1=p:=by
 unfold hl;by_cases bx:e=true∧¬ jU t
 ·rw[if_pos bx]; exact fun _=>rfl
 ·rw[if_neg bx];by_cases bK:(p.side a).said=true∧lS.cB (p.side a) ⟨true,e,if e then t else 0⟩=false
  ·rw[if_pos bK]; exact fun _=>rfl
  ·rw[if_neg bK]; exact fun l=>absurd rfl l
theorem Rt(aM:0<n)(h:eP f n c k W Q b g)(ag:b.K.down=false)(aq:k≤49000){id j9 t:Int}{p c6:bP}(al:b.P.lookup id=some p)(ah:p.b8=0)(F:c6.x=p.x)(kY:c6.at_=p.at_)
  (Kj:(j9=3∧c6.b8≠2)∨(j9=2∧(kH c6 2 t).b8=2∧(kH c6 2 t).at_=t∧jU t)) (aT:0≤t∧t≤1125899906842624) (tc:Q ⟨j9,c6.x,t⟩) :
  m3 f n c (k+1) W Q (n8 n b id c6 j9 t).1 g∧((n8 n b id c6 j9 t).2≠0→(n8 n b id c6 j9 t).1.K.down=true∧(n8 n b id c6 j9 t).2=71):=by
 have m:=h.live ag;obtain⟨q,ba,he,iy,U,Ko,Eo⟩:=m.pl h.cN al;have kq:q.b8=0:=by rw[← he.2.1]; exact ah
 have Ae:=iy.2.2 kq;have Hv:c6.x.aD=id:=by rw[F]; exact Ko
 have aaH:jN c6.x=0:=by rw[F]; exact Eo
 have aa:o5 ⟨j9,c6.x,t⟩:=Es (by omega) aaH aT;have Y:wk (iZ g.an) ⟨j9,c6.x,t⟩:=.inr ⟨by rcases Kj with h | h<;>simp[h.1],by show ((iZ g.an).lookup c6.x.aD).isSome=true; rw[Hv,ba]; rfl⟩;have BW:(kH c6 j9 t).x=c6.x:=Ys c6 j9 t;have aoZ:sM (jc b.P id (kH c6 j9 t)):=RX h.b4.mc al (by rw[BW,F]);have ZV:sM (jc b.P id c6):=RX h.b4.mc al F;have s8:=h.b4.l1;have DV:iZ (g.an++[⟨j9,c6.x,t⟩])=jc (iZ g.an) id (ku q ⟨j9,c6.x,t⟩):=by
  have:=ac4 (r:=⟨j9,c6.x,t⟩) (an:=g.an) (q:=q) (by show j9≠1; rcases Kj with h | h<;>omega) (by show (iZ g.an).lookup c6.x.aD=_; rw[Hv]; exact ba);rw[this];show jc (iZ g.an) c6.x.aD _=_
  rw[Hv]
 have Ef:Bf (kH c6 j9 t) (ku q ⟨j9,c6.x,t⟩):=by
  refine⟨by rw[BW,aeA,F,he.1],?_⟩;rcases Kj with ⟨rfl,B3⟩ | ⟨rfl,R,aK,bp⟩
  ·have aS:kH c6 3 t=(pK c6).1:=by unfold kH; rw[if_neg (by omega)]
   have bb:ku q ⟨3,c6.x,t⟩=(pK q).1:=by unfold ku; rw[if_pos rfl]
   rw[aS,bb];unfold pK;rw[if_neg B3,if_neg (by omega)];exact⟨rfl,by show c6.at_=q.at_; rw[kY,he.2.2]⟩
  ·have dz:=(LU (x:=q.x) (r:=⟨2,c6.x,t⟩) (by show (2:Int)≠3; omega)).1 bp;rw[← Ae] at dz;exact⟨by rw[R,dz.1],by rw[aK,dz.2]⟩
 have iV:Dm (jc b.P id (kH c6 j9 t)) (g.an++[⟨j9,c6.x,t⟩]):=by
  intro x;rw[DV,w6,w6];by_cases l:x=id
  ·subst l;rw[if_pos rfl,if_pos rfl,al,ba];exact⟨fun r aa=>by cases aa; exact⟨_,rfl,Ef⟩,fun aa=>by cases aa⟩
  ·rw[if_neg l,if_neg l];exact m.P x
 have aKo:Bd (kH c6 j9 t)∨True:=.inr trivial;have Hf:(iZ (g.an++[⟨j9,c6.x,t⟩])).lookup id=some (ku q ⟨j9,c6.x,t⟩):=by rw[DV,w6,if_pos rfl,ba]; rfl
 have aah:=BI (g.an++[⟨j9,c6.x,t⟩]) _ _ Hf;have Qa:∀ s∈j6 n (kH c6 j9 t),ls (own n c (g.an++[⟨j9,c6.x,t⟩])) s.o∧0≤s.ij∧s.ij<n:=by
  refine Ow aM (by rw[BW]; exact aaH) (by rw[Ef.2.1]; exact aah.1) (by rw[Ef.2.2]; exact aah.2.1) fun _=>?_;rw[BW,Hv];exact RS U Hf Ef
 obtain⟨g2,bA⟩:=ab7 h ag (by omega) aa Y (by show Int.tmod c6.x.aD n=c; rw[Hv]; exact U) (fun l=>by have l:j9=2:=l; rcases Kj with h | h; (have:=h.1; omega); exact h.2.2.2) tc (jA:=jc b.P id (kH c6 j9 t)) (mI:=jc b.P id c6) (m:=j6 n (kH c6 j9 t)) ⟨aoZ,by rw[Me]; omega⟩ ⟨ZV,by rw[Me]; omega⟩ iV Qa (by have:=Gm n (kH c6 j9 t); omega);unfold n8;simp only;by_cases cz:(gB b.K b.A (fV ⟨j9,c6.x,t⟩)).2.2=0
 ·rw[if_pos cz];exact⟨g2 cz,fun l=>absurd rfl l⟩
 ·rw[if_neg cz];exact⟨(bA cz).1,fun _=>(bA cz).2⟩
theorem aGy{p:bP}(h:(ol p).2=true):p.b8=0∧p.both=true∧(ol p).1=max p.a.g5 p.e.g5:=by
 unfold ol at h ⊢;split
 ·rename_i U; exact⟨U.2,U.1,rfl⟩
 ·rename_i U; rw[if_neg U] at h; cases h
theorem aHX{ax:hz}{rd src a:Int}(h:(gL ax rd src [a]).2.2.2=0):a<(gL ax rd src [a]).2.2.1∧jU (gL ax rd src [a]).2.2.1:=by
 unfold gL at h ⊢;split
 ·rename_i U; rw[if_pos U] at h; exact absurd h U
 ·rename_i U;rw[if_neg U] at h;unfold Au at h ⊢;split
  ·rename_i am; rw[if_pos am] at h; cases h
  ·rename_i am;rw[if_neg am] at h;split
   ·rename_i O; rw[if_pos O] at h; cases h
   ·rename_i O;have am:=(Classical.not_not.1 am).2.1.1;simp only[List.foldl_cons,List.foldl_nil] at O ⊢;unfold jU;omega
theorem aDv(en:Dn Q b)(aM:0<n)(h:eP f n c k W Q b g)(ag:b.K.down=false)(aq:k≤49000){from_:Int}{o:hZ}(hm:ls W o)(am:0≤from_∧from_<n):m3 f n c (k+2) W Q (v5 n b from_ o) g:=by
 have hW:=hm.1.id;unfold v5;cases al:b.P.lookup (gU o.Part.aD) with
 |none=>exact h.lm.mono (by omega)
 |some p=>
  simp only;have m:=h.live ag;obtain⟨q,ba,he,iy,U,Ko,Eo⟩:=m.pl h.cN al;unfold zn;by_cases cb:p.b8≠0
  ·rw[if_pos cb];refine (Cp h (fun _=>Yq hW (RS U ba he) ?_ ?_) am).lm.mono (by omega)
   ·have:=iy.1; rw[← he.2.1] at this; omega
   ·rw[he.2.2]; exact iy.2.1
  ·rw[if_neg cb];have cb:=Classical.not_not.1 cb;have aL:=Ti (p:=p) (Int.tmod o.Part.aD 2==1) o.j5 o.b9;have Ep:=Mj p (Int.tmod o.Part.aD 2==1) o.j5 o.b9;have Qn:=aIT p (Int.tmod o.Part.aD 2==1) o.j5 o.b9;generalize hl p (Int.tmod o.Part.aD 2==1) o.j5 o.b9=z at aL Ep Qn;obtain⟨c6,aS⟩:=z;simp only at aL Ep Qn ⊢;by_cases ce:aS≠0
   ·rw[if_pos ce];have:=Qn ce;subst this;exact (K_ h al ⟨rfl,rfl,rfl⟩).lm.mono (by omega)
   ·rw[if_neg ce];have kY:c6.at_=p.at_:=by rcases aL with h | h; exact h.2; exact h.2.2.2
    unfold v4;by_cases ck:c6.b8=3
    ·rw[if_pos ck];exact (Rt aM h ag aq al cb Ep kY (.inl ⟨rfl,by omega⟩) (by omega) (en.one _ (by show (3:Int)≠2; omega))).1.mono (by omega)
    ·rw[if_neg ck];have vg:c6.b8=p.b8:=by rcases aL with h | h; exact h.1; exact absurd h.2.2.1 ck
     by_cases cr:(ol c6).2=true
     ·rw[if_pos cr];obtain⟨g2,bA,gv⟩:=aGy cr;have aH:=L7 (rd:=b.cO) (N:=[(ol c6).1]) h.b4.ax h.b4.src;have pU:=AK (ax:=b.ax) (rd:=b.cO) (N:=[(ol c6).1]) h.b4.src.2;have yd:=aHX (ax:=b.ax) (rd:=b.cO) (src:=b.src) (a:=(ol c6).1);have r8:=en.two c6.x [(ol c6).1];generalize gL b.ax b.cO b.src [(ol c6).1]=s at aH pU yd r8;have I:=xa h aH.1 aH.2;unfold zo;by_cases bd:s.2.2.2=0
      ·rw[if_pos bd];have ao:=yd bd;have aT:=pU.2 bd;have s7:kH c6 2 s.2.2.1={ c6 with b8:=2,at_:=s.2.2.1 }:=by
        unfold kH pb;rw[if_pos rfl,if_neg (fun cK=>cK ao.2),if_neg (by omega),if_neg (by omega),if_neg (by simp[bA]),if_neg (by omega)]
       exact (Rt aM I ag aq al cb Ep kY (.inr ⟨rfl,by rw[s7],by rw[s7],ao.2⟩) (by omega) (r8 bd)).1.mono (by omega)
      ·rw[if_neg bd];exact (K_ I al ⟨Ep,vg,kY⟩).lm.mono (by omega)
     ·rw[if_neg cr];exact (K_ h al ⟨Ep,vg,kY⟩).lm.mono (by omega)
theorem aDj(en:Dn Q b)(aM:0<n)(h:eP f n c k W Q b g)(ag:b.K.down=false)(aq:k≤49000){from_:Int}{o:hZ}(hm:ls W o)(am:0≤from_∧from_<n):m3 f n c (k+2) W Q (m_ n b from_ o) g:=by
 unfold m_;split
 ·exact aDm h ag aq hm am
 ·split
  ·exact aDv en aM h ag aq hm am
  ·split
   ·rename_i aK; exact aDl h ag aq hm aK am
   ·split
    ·exact (aDg h).lm.mono (by omega)
    ·exact h.lm.mono (by omega)
theorem aDq(h:eP f n c k W Q b g)(ag:b.K.down=false)(aq:k≤49000){a o:Int}(Y:0≤a∧a<4096)(hm:-9223372036854775808≤o∧o≤9223372036854775807):m3 f n c (k+1) W Q (y5 b a o).1 g:=by
 unfold y5;have aH:=L7 (rd:=b.cO) (N:=[]) h.b4.ax h.b4.src;have al:=AK (ax:=b.ax) (rd:=b.cO) (N:=[]) h.b4.src.2;generalize gL b.ax b.cO b.src []=s at aH al;have I:=xa h aH.1 aH.2;unfold y4;split
 ·exact I.lm.mono (by omega)
 ·rename_i ah;have aT:=al.2 (Classical.not_not.1 ah);have F:qg W ⟨1,s.2.2.1,0,a,o,false⟩:=⟨⟨by simp,by simp only; omega,by simp,by simp only; omega,hm⟩,⟨by show (1:Int)≤1; omega,by show (1:Int)≤6; omega⟩,by show (0:Int)≤_; omega,fun l=>absurd l (by show (1:Int)≠3; omega),fun l=>absurd l (by show (1:Int)≠4; omega)⟩
  obtain⟨cP,R,aK,bp⟩:=HS I ag (by omega) F;unfold ER;split
  ·exact⟨cP,R,aK⟩
  ·rename_i bN;have bN:=Classical.not_not.1 bN;rcases bp with bp | ⟨bp,_⟩
   ·
    have l5:(gH (f_ b.K b.W ⟨1,s.2.2.1,0,a,o,false⟩).1 (f_ b.K b.W ⟨1,s.2.2.1,0,a,o,false⟩).2.1.V).1=(f_ b.K b.W ⟨1,s.2.2.1,0,a,o,false⟩).1:=by
     unfold gH;split
     ·rfl
     ·simp only;unfold oY km;split
      ·rfl
      ·first | rfl | rw[if_pos bp]
    refine⟨cP,?_,aK⟩;have b4:=R.b4;refine⟨⟨b4.ax,b4.rd,b4.src,L9 b4.K,b4.fit,b4.ids,b4.mc,b4.l1,b4.out⟩,R.cN,.inr ?_⟩;rcases R.bi with m | d
    ·have:=m.N.up;simp only at this;rw[this] at bp; cases bp
    ·show pC (gH _ _).1 _ _
     rw[l5];exact d
   ·obtain⟨aox,dz,iG,_⟩:=aca R bp;exact⟨aox,dz,aK.trans iG⟩
theorem aDn(en:∀ r:c5,r.k≠2→Q r)(aM:0<n)(h:eP f n c k W Q b g)(ag:b.K.down=false)(aq:k≤49000){x:oE}(F:jN x=0)(U:Int.tmod x.aD n=c):m3 f n c (k+1) W Q (ti n b x).1 g:=by
 unfold ti;split
 ·exact h.lm.mono (by omega)
 ·rename_i vm;have m:=h.live ag;have al:b.P.lookup x.aD=none:=by
   cases l:b.P.lookup x.aD with
   |none=>rfl
   |some p=>rw[l] at vm; exact absurd rfl vm
  have ari:=(m.P x.aD).2 al;have aa:o5 ⟨1,x,0⟩:=Es (by omega) F (by omega);have Y:wk (iZ g.an) ⟨1,x,0⟩:=.inl ⟨rfl,F,ari⟩;have DV:iZ (g.an++[⟨1,x,0⟩])=iZ g.an++[(x.aD,jX x)]:=by rw[Cz]; rfl
  have s8:=h.b4.l1;have iV:Dm (b.P++[(x.aD,jX x)]) (g.an++[⟨1,x,0⟩]):=by
   intro S;rw[DV,List.lookup_append,List.lookup_append];cases aB:b.P.lookup S with
   |some p=>
    obtain⟨q,ba,he⟩:=(m.P S).1 p aB;rw[ba];exact⟨fun r aa=>by cases aa; exact⟨q,rfl,he⟩,fun aa=>by cases aa⟩
   |none=>
    rw[(m.P S).2 aB];exact⟨fun r aa=>⟨r,aa,rfl,rfl,rfl⟩,fun aa=>aa⟩
  have Qa:∀ s∈j6 n (jX x),ls (own n c (g.an++[⟨1,x,0⟩])) s.o∧0≤s.ij∧s.ij<n:=Ow aM F (.inl rfl) (by show (0:Int)≤0∧(0:Int)≤_; omega) fun l=>absurd rfl l;obtain⟨g2,bA⟩:=ab7 h ag (by omega) aa Y U (by show (1:Int)=2→_; intro l; omega) (en _ (by show (1:Int)≠2; omega)) (jA:=b.P++[(x.aD,jX x)]) (mI:=b.P) (m:=j6 n (jX x)) ⟨aFe h.b4.mc F,by simp; omega⟩ ⟨h.b4.mc,by omega⟩ iV Qa (by have:=Gm n (jX x); omega);unfold Co;by_cases cz:(gB b.K b.A (fV ⟨1,x,0⟩)).2.2=0
  ·rw[if_neg (fun l=>l cz)];exact g2 cz
  ·rw[if_pos cz];exact (bA cz).1
theorem aDf(en:∀ r:c5,r.k≠2→Q r)(aM:0<n)(h:eP f n c k W Q b g)(ag:b.K.down=false)(aq:k≤49000){id:Int}:m3 f n c (k+1) W Q (rX n b id).1 g:=by
 unfold rX;cases al:b.P.lookup id with
 |none=>exact h.lm.mono (by omega)
 |some p=>
  simp only;split
  ·exact h.lm.mono (by omega)
  ·rename_i ah;exact (Rt aM h ag aq al (Classical.not_not.1 ah) rfl rfl (.inl ⟨rfl,by have:=Classical.not_not.1 ah; omega⟩) (by omega) (en _ (by show (3:Int)≠2; omega))).1
end
section
variable {f n c k:Nat} {W:gM} {Q:c5→Prop} {b cR:br} {g:ft}
theorem Ru(h:eP f n c k W Q b g)(ag:b.K.down=false):∃ cP,eP f n c k W Q (nu b).1 cP∧lr g cP ∧
  ((nu b).2=71∧(nu b).1.K.down=true∨(nu b).2=0∧(nu b).1.K.down=false∧cP.an=g.an∧cP.e=g.an.length∧cP.xs=g.xs):=by
 obtain⟨bD,I,c0,bx⟩:=aca h ag;have es:nu b=vU b (gH b.K b.W.V):=rfl;rw[es];unfold vU;rcases bx with ⟨d1,aS⟩ | ⟨d1,aS,cp,g2,fp⟩
 ·rw[if_pos (by rw[aS]; omega)];exact⟨bD,I,c0,.inl ⟨aS,d1⟩⟩
 ·rw[if_neg (by rw[aS]; omega)];obtain⟨e4,R,c4,bK⟩:=aDu I d1;unfold zh;simp only at bK;rcases bK with ⟨d2,bb⟩ | ⟨d2,bb,fE,bA,ek⟩
  ·rw[if_pos (by rw[bb]; omega)];exact⟨e4,R,c0.trans c4,.inl ⟨bb,d2⟩⟩
  ·rw[if_neg (by rw[bb]; omega)];have m:=R.live d2;refine⟨e4,⟨⟨R.b4.ax,R.b4.rd,R.b4.src,R.b4.K,R.b4.fit,R.b4.ids,R.b4.mc,R.b4.l1,by show ([]:List qh).length≤_; simp⟩,R.cN,.inl ⟨m.N,m.V,m.v,m.A,m.P,fun s aH=>(by cases aH),fun id aH=>?_⟩⟩,c0.trans c4,.inr ⟨rfl,d2,bA.trans g2,by rw[ek,g2],fE.trans cp⟩⟩;have aH:(b.sure id||sW b.P id)=true:=aH;rcases Bool.or_eq_true_iff.1 aH with aH | aH
   ·exact m.sure id aH
   ·unfold sW at aH;cases al:b.P.lookup id with
    |none=>rw[al] at aH; cases aH
    |some p=>
     rw[al] at aH;have Qb:p.b8≠0:=by simpa using aH
     obtain⟨q,ba,he⟩:=(m.P id).1 p al;refine⟨(q.b8,q.at_),?_⟩;rw[ek,← bA,List.take_length];unfold kG;rw[ba];show lB q=_
     unfold lB;rw[if_neg (by rw[← he.2.1]; exact Qb)]
theorem aDp(aM:0<n)(h:eP f n c k W Q b g)(ag:b.K.down=false)(aq:k≤49000):eP f n c (k+1) W Q (HU n b) g:=by
 have m:=h.live ag;have s8:=h.b4.l1;have tc:(e8 b.P).length≤50000:=by unfold e8; rw[(oq _).length_eq,List.length_map]; omega
 have I:=Ox n b.P (e8 b.P);have R:=PS h.b4.fit;have aK:(r6 n b.W.v).length=(gE b.W.v).length:=by unfold r6; rw[List.length_map]
 have l:HU n b={ b with out:=b.out++(qu n b.P (e8 b.P)++r6 n b.W.v) }:=by unfold HU; rw[List.append_assoc]
 rw[l];refine ab9 h (fun s aH _=>?_) (by rw[List.length_append]; omega);rcases List.mem_append.1 aH with aH | aH
 ·unfold qu at aH;obtain⟨id,_,aH⟩:=List.mem_flatMap.1 aH;cases al:b.P.lookup id with
  |none=>rw[al] at aH; cases aH
  |some p=>
   rw[al] at aH;obtain⟨q,ba,he,iy,U,Ko,Eo⟩:=m.pl h.cN al;refine Ow aM Eo (by rw[he.2.1]; exact iy.1) (by rw[he.2.2]; exact iy.2.1) (fun _=>?_) s aH;rw[Ko];exact RS U ba he
 ·unfold r6 at aH;obtain⟨q,ba,rfl⟩:=List.mem_map.1 aH;unfold gE at ba;obtain⟨id,hW,rfl⟩:=List.mem_map.1 ba;obtain⟨h6,oN,rfl⟩:=List.mem_map.1 ((oq _).mem_iff.1 hW);have al:=Aq h.b4.fit.rF oN;rw[Ee al];have bp:=h.b4.fit.ids _ _ al;have dz:=h.b4.ids _ oN;have iG:=h.b4.fit.e_.mark;have r4:=h.b4.fit.fQ;have aal:1≤h6.2.Part.aD∧h6.2.Part.aD≤2000000:=by rw[bp.1]; omega
  exact⟨ID aal (by omega),afx aM (by have:=aIC aal; omega)⟩
theorem aDi(h:eP f n c k W Q b g)(ag:b.K.down=false)(aq:k≤49000):m3 f n c (k+1) W Q (rZ b).1 g:=by
 unfold rZ;have ud:=h.b4.ax.now b.cO;generalize fj b.ax b.cO=s at ud;have I:=xa h ud.1 h.b4.src;unfold xX;split
 ·exact I.lm.mono (by omega)
 ·rename_i ah;have G1:=ud.2 (Classical.not_not.1 ah);unfold nG fg at G1;have r5:=OJ h.b4.fit (t:=s.2.1.g7) (by omega) (by omega);generalize u6 b.W.v s.2.1.g7=t at r5;have F:qg W ⟨5,t,0,0,0,false⟩:=⟨⟨by simp,by simp only; omega,by simp,by simp,by simp⟩,⟨by show (1:Int)≤5; omega,by show (5:Int)≤6; omega⟩,by show (0:Int)≤_; omega,fun l=>absurd l (by show (5:Int)≠3; omega),fun l=>absurd l (by show (5:Int)≠4; omega)⟩
  obtain⟨cP,R,aK,_⟩:=HS I ag (by omega) F;unfold DO;split
  ·exact⟨cP,R,aK⟩
  ·exact⟨cP,xa R R.b4.ax (HC h.b4.src),aK⟩
theorem aDs(h:eP f n c k W Q b g)(ag:b.K.down=false)(aq:k≤49000){t:Int}(aT:-9223372036854775808≤t∧t≤9223372036854775807):m3 f n c (k+1) W Q (EW b t).1 g:=by
 have F:qg W ⟨6,t,0,0,0,false⟩:=⟨⟨by simp,aT,by simp,by simp,by simp⟩,⟨by show (1:Int)≤6; omega,by show (6:Int)≤6; omega⟩,by show (0:Int)≤_; omega,fun l=>absurd l (by show (6:Int)≠3; omega),fun l=>absurd l (by show (6:Int)≠4; omega)⟩
 obtain⟨cP,R,aK,_⟩:=HS h ag (by omega) F;exact⟨cP,R,aK⟩
theorem aDr(h:eP f n c k W Q b g){d gF:Int}{xs:List Int}{i:Nat}(ag:0≤d∧d≤1048576)(hm:0≤gF∧gF≤2*d):eP f n c (k+1) W Q (vH d gF xs i b) g:=by
 have o:=h.b4.mono (Nat.le_succ k);have aH:-gF≤p8 gF xs i∧p8 gF xs i≤gF:=by unfold p8; split<;>omega
 have aa:=h.b4.rd;refine ab8 (h.mono (gM.le_refl W) (Nat.le_succ k)) ⟨o.ax,?_,o.src,o.K,o.fit,o.ids,o.mc,o.l1,o.out⟩ rfl rfl rfl rfl rfl rfl;show _≤b.cO+(d-p8 gF xs i)∧_
 unfold vH
 push_cast
 constructor<;>omega
theorem aDt(h:eP f n c k W Q b g){a e l:Int}:eP f n c k W Q { b with ax:=(sB b.ax a e l).1 } g:=xa h (h.b4.ax.set a e l) h.b4.src
theorem aDh(h:eP f n c k W Q b g){a:Int}{bI:List Int}:eP f n c k W Q { b with K:={ b.K with et:=a,bI:=bI } } g:=by
 refine⟨⟨h.b4.ax,h.b4.rd,h.b4.src,⟨h.b4.K.len,h.b4.K.log⟩,h.b4.fit,h.b4.ids,h.b4.mc,h.b4.l1,h.b4.out⟩,h.cN,?_⟩;rcases h.bi with m | d
 ·exact .inl ⟨m.N.Bz a bI,m.V,m.v,m.A,m.P,m.outs,m.sure⟩
 ·exact .inr (d.Bz a bI)
theorem aDk(h:eP f n c k W Q b g){bI:List Int}:m3 f n c k W Q { b with K:=Disk.hT bI b.K } g:=by
 have b4:bM k { b with K:=Disk.hT bI b.K }:=⟨h.b4.ax,h.b4.rd,h.b4.src,Gw h.b4.K,h.b4.fit,h.b4.ids,h.b4.mc,h.b4.l1,h.b4.out⟩
 rcases h.bi with m | d
 ·obtain⟨cP,I,R,aK⟩:=m.gone h.cN bI;exact⟨cP,⟨b4,I,.inr aK⟩,R⟩
 ·exact⟨g,⟨b4,h.cN,.inr (by show pC (Disk.hT bI b.K) _ _; rw[d.hT bI]; exact d)⟩,lr.refl g⟩
theorem ON{xs:List dW}(h:∀ x∈xs,nZ x∧qp x.Kind):sX (xs.map jq)=some xs:=Yx h
theorem eP.c3(h:eP f n c k W Q b g):Je b.K:=by
 have F:∀ x∈g.xs,nZ x∧qp x.Kind:=fun x F=>⟨(h.cN.qe x F).1,(h.cN.qe x F).2.1⟩
 rcases h.bi with m | d
 ·refine⟨_,_,g.xs,g.an,by rw[m.N.c3]; rfl,by rw[m.N.c3]; rfl,?_,?_,h.cN.nr⟩
  ·have:=At (p:=[]) m.N.oo ⟨31,rfl⟩;rw[List.append_nil] at this;simp only;rw[this]; exact ON F
  ·have:=At (p:=[]) m.N.lJ ⟨31,rfl⟩;rw[List.append_nil] at this;simp only;rw[this]
 ·obtain⟨p,q,aF,ba,al⟩:=d.c3;refine⟨_,_,g.xs,g.an,by rw[al]; rfl,by rw[al]; rfl,?_,?_,h.cN.nr⟩
  ·simp only;rw[At d.oo aF]; exact ON F
  ·simp only;rw[At d.lJ ba]
theorem LR(an:List c5):∀ b:br,(an.foldl vN b)={ b with P:=an.foldl nq b.P,sure:=an.foldl xj b.sure,src:=an.foldl uy b.src }:=by
 induction an with
 |nil=>intro b; rfl
 |cons r an cq=>
  intro b;rw[List.foldl_cons,cq];rfl
theorem aHW(an:List c5):∀ s:Int,-9223372036854775808≤s∧s≤1125899906842624→-9223372036854775808≤an.foldl uy s∧an.foldl uy s≤1125899906842624:=by
 induction an with
 |nil=>intro s h; exact h
 |cons r an cq=>
  intro s h;rw[List.foldl_cons];refine cq _ ?_;unfold uy;split
  ·exact HC h
  ·exact h
theorem afe{an:List c5}(aa:qY an)(aT:∀ r∈an,r.k=2→jU r.t):∀ i,i≤an.length→∀ id,((an.take i).foldl xj fun _=>false) id=true→∃ d,kG (an.take i) id=some d:=by
 intro i;induction i with
 |zero=>intro _ id h; simp at h
 |succ i cq=>
  intro ay id h;have F:an[i]?=some an[i]:=List.getElem?_eq_getElem (by omega);have l:an.take (i+1)=an.take i++[an[i]]:=List.take_succ_eq_append_getElem (by omega);have kY:=(aa _ _ F).2;have Kw:=aT _ (List.getElem_mem (by omega:i<an.length));generalize an[i]=r at F l kY Kw;rw[l] at h ⊢;rw[List.foldl_append,List.foldl_cons,List.foldl_nil] at h;have bI:(∃ d,kG (an.take i) id=some d)→∃ d,kG (an.take i++[r]) id=some d:=by
   rintro⟨d,ag⟩;refine⟨d,?_⟩;unfold kG at ag ⊢;rw[Cz];exact OM (BI _) kY ag
  unfold xj at h;split at h
  ·exact bI (cq (by omega) id h)
  ·rename_i mu;rcases Bool.or_eq_true_iff.1 h with h | h
   ·have h:=eq_of_beq h;rcases kY with ⟨aq,_⟩ | ⟨aq,al⟩
    ·exact absurd aq mu
    ·obtain⟨q,ba⟩:=Option.isSome_iff_exists.1 al;have iy:=BI (an.take i) _ _ ba;unfold kG;have r8:(iZ (an.take i)).lookup r.x.aD=some q:=ba;rw[ac4 mu r8,w6,if_pos h,h,r8];show ∃ d,lB (ku q r)=some d
     unfold lB;have:(ku q r).b8≠0:=by
      by_cases cb:q.b8=0
      ·have Ae:=iy.2.2 cb;generalize q.x=x at Ae;subst Ae;rcases aq with aq | aq
       ·rw[((LU (x:=x) (r:=r) (by omega)).1 (Kw aq)).1]; omega
       ·unfold ku;rw[if_pos aq];show (3:Int)≠0
        omega
      ·rw[(LS (r:=r) (p:=q) (by have:=iy.1; omega)).1]; exact cb
     rw[if_neg this];exact⟨_,rfl⟩
   ·exact bI (cq (by omega) id h)
theorem Rv(am:jL f)(h:eP f n c k W Q b g):∃ cP,eP f n c k W Q (o0 f b).1 cP∧lr g cP∧((o0 f b).2=71∧(o0 f b).1.K.down=true∨(o0 f b).2=0∧(o0 f b).1.K.down=false):=by
 unfold o0;by_cases ag:b.K.down=true
 ·rw[if_pos ag];rcases h.bi with m | d
  ·rw[m.N.up] at ag; cases ag
  ·obtain⟨cX,bD,al,pg,aoM,hm⟩:=d.K4;have hU:um b.K 0=cX:=KW (by rw[al]; rfl);have aS:um b.K 1=bD:=KW (by rw[al]; rfl);have F:∀ x∈g.xs,nZ x∧qp x.Kind:=fun x F=>⟨(h.cN.qe x F).1,(h.cN.qe x F).2.1⟩
   have OX:(g.an.map fV).map Gx=g.an:=by
    rw[List.map_map]
    conv=>rhs; rw[← List.map_id g.an]
    exact List.map_congr_left fun r aa=>Yt (aen h.cN.nr r aa)
   rw[hU,aS,pg,aoM,ON F,OX];simp only[Option.getD_some];have gone:∀ er,pC er (g.xs.map jq) (g.an.map fV)→eP f n c k W Q { b with K:=er } g:=fun er zZ=>⟨⟨h.b4.ax,h.b4.rd,h.b4.src,zZ.ok,h.b4.fit,h.b4.ids,h.b4.mc,h.b4.l1,h.b4.out⟩,h.cN,.inr zZ⟩
   unfold zk;rcases hm with ⟨kh,cK⟩ | ⟨kh,zZ⟩
   ·rw[if_neg (fun l=>l kh)];have rp:(dq (ik b.K) 0 cX).1.c3[1]?=some bD:=by
     have:=(ab1 (K:=ik b.K) (n:=0) (g:=cX) ⟨d.ok.len,d.ok.log⟩ rfl (by show b.K.c3[0]?=_; rw[al]; rfl)).2 kh;refine (this.2 1 (by omega)).trans ?_;show b.K.c3[1]?=_
     rw[al]; rfl
    have aap:=cK.aC1 rp;generalize dq (dq (ik b.K) 0 cX).1 1 bD=z at aap;unfold zl;rcases aap with ⟨uJ,kX⟩ | ⟨uJ,zZ⟩
    ·rw[if_neg (fun l=>l uJ)];rw[List.length_map,List.length_map] at kX;refine⟨⟨g.xs,g.xs.length,g.an,g.an.length⟩,?_,fun id d ag=>(by show kG (g.an.take g.an.length) id=_; rw[List.take_length]; exact JI h.cN.nr ag),.inr ⟨rfl,?_⟩⟩
     ·have wJ:zr b.ax b.cO z.1 f g.xs g.an={ Fg b.ax b.cO z.1 f g.xs g.an.length with P:=iZ g.an,sure:=g.an.foldl xj fun _=>false,src:=g.an.foldl uy (oO 0 (qw (uG f) g.xs).fQ).1 }:=by unfold zr; rw[LR]; rfl
      rw[wJ];have ua:=acN h.cN.nr h.cN.ours;have s8:(iZ g.an).length≤g.an.length:=by
       have key:∀ (an:List c5) (P:List (Int×bP)),(an.foldl nq P).length≤P.length+an.length:=by
        intro an;induction an with
        |nil=>intro P; simp
        |cons r an cq=>
         intro P;rw[List.foldl_cons,List.length_cons];have I:=cq (nq P r);have R:(nq P r).length≤P.length+1:=by
          unfold nq;split
          ·simp
          ·split
           ·omega
           ·rw[Me]; omega
         omega
       have:=key g.an [];unfold iZ;simpa using this
      refine⟨⟨h.b4.ax,h.b4.rd,aHW _ _ (HC ⟨by omega,by omega⟩),kX.ok,Zu (Fit.new am) (fun x F=>by have:=(h.cN.qe x F).2.2.1; omega),apM (fun x F=>(h.cN.qe x F).2.2.1) (fun l he=>by cases he),fun id p aF=>(ua id p aF).2,Nat.le_trans s8 h.cN.w7,by show ([]:List qh).length≤_; simp⟩,⟨h.cN.q,h.cN.qe,h.cN.nr,h.cN.ours,h.cN.v0,h.cN.yT,h.cN.w7,Nat.le_refl _,Nat.le_refl _⟩,.inl ⟨kX,rfl,rfl,rfl,fun id=>⟨fun p aF=>⟨p,aF,rfl,rfl,rfl⟩,fun aF=>aF⟩,fun s aH=>(by cases aH),fun id aH=>?_⟩⟩;show ∃ d,kG (g.an.take g.an.length) id=some d
      have:=afe h.cN.nr h.cN.v0 g.an.length (Nat.le_refl _) id;rw[List.take_length] at this ⊢;exact this aH
     ·unfold zr;rw[LR];exact kX.up
    ·rw[if_pos (by rw[uJ]; omega)];exact⟨g,gone _ zZ,lr.refl g,.inl ⟨uJ,zZ.off⟩⟩
   ·rw[if_pos (by rw[kh]; omega)];exact⟨g,gone _ zZ,lr.refl g,.inl ⟨kh,zZ.off⟩⟩
 ·rw[if_neg ag];exact⟨g,h,lr.refl g,.inr ⟨rfl,by simpa using ag⟩⟩
end
def lf(az:List ft):gM:=fun id=>(az[(Int.tmod id az.length).toNat]?).bind fun g=>kG (g.an.take g.e) id
structure ha(Q:c5→Prop)(k:Nat)(y:bF)(az:List ft):Prop where
 len:y.N.length=az.length
 pos:0<az.length∧az.length≤8
 jb:y.eH.hQ=az.length
 nodes:∀ (i:Nat) b g,y.N[i]?=some b→az[i]?=some g→eP y.eH.gP az.length i k (lf az) Q b g
 Cq:y.a2.nodes=az.length
 tj:y.a2.m.length≤1000
 a2:∀ x∈y.a2.m,ls (lf az) x.y∧(0≤x.fR∧x.fR<az.length)∧(0≤x.fL∧x.fL<az.length)
 told:∀ t∈y.told,lf az t.aD=some (t.oz,t.b9)∧y.known t.aD=true
 vF:(y.told.map fun t=>t.aD).Nodup
 xp:y.told.length≤50000*k
 now:0≤y.now∧y.now≤1099511627776
 width:0≤y.eH.jQ∧y.eH.jQ≤1000
 eR:jL y.eH.gP
 kV:jo y.eH.lc
theorem ha.ok{Q:c5→Prop}{k:Nat}{y:bF}{az:List ft}(h:ha Q k y az)(aq:k≤50000):la y:=
 ⟨by rw[h.len]; exact h.pos,h.tj,fun x F=>(h.a2 x F).1.1,fun b a5=>by
  obtain⟨i,ay,rfl⟩:=List.getElem_of_mem a5
  exact (h.nodes i _ (az[i]'(by rw[← h.len]; exact ay)) (List.getElem?_eq_getElem ay) (List.getElem?_eq_getElem (by rw[← h.len]; exact ay))).b4.node aq,by have:=h.xp; omega,h.now,h.width,h.eR,h.kV⟩
theorem ha.c3{Q:c5→Prop}{k:Nat}{y:bF}{az:List ft}(h:ha Q k y az):∀ b∈y.N,Je b.K:=fun b a5=>by
 obtain⟨i,ay,rfl⟩:=List.getElem_of_mem a5;exact (h.nodes i _ (az[i]'(by rw[← h.len]; exact ay)) (List.getElem?_eq_getElem ay) (List.getElem?_eq_getElem (by rw[← h.len]; exact ay))).c3
theorem ha.sZ{Q:c5→Prop}{k:Nat}{y:bF}{az:List ft}(h:ha Q k y az){i:Nat}{b:br}(a5:y.N[i]?=some b):∃ g,az[i]?=some g∧eP y.eH.gP az.length i k (lf az) Q b g:=by
 have ay:=(List.getElem?_eq_some_iff.1 a5).1;have O:az[i]?=some (az[i]'(by rw[← h.len]; exact ay)):=List.getElem?_eq_getElem (by rw[← h.len]; exact ay);exact⟨_,O,h.nodes i b _ a5 O⟩
theorem aj1{az:List ft}{i:Nat}{g cP:ft}(O:az[i]?=some g)(h:lr g cP):gM.le (lf az) (lf (az.set i cP)):=by
 intro id d ag;unfold lf at ag ⊢;rw[List.length_set];by_cases l:i=(Int.tmod id az.length).toNat
 ·subst l;rw[O] at ag;have ay:=(List.getElem?_eq_some_iff.1 O).1;rw[List.getElem?_set_self ay];exact h id d ag
 ·rw[List.getElem?_set_ne l];exact ag
theorem ha.mono{Q:c5→Prop}{k gf:Nat}{y:bF}{az:List ft}(h:ha Q k y az)(aq:k≤gf):ha Q gf y az:=
 ⟨h.len,h.pos,h.jb,fun i b g a e=>(h.nodes i b g a e).mono (gM.le_refl _) aq,h.Cq,h.tj,h.a2,h.told,h.vF,Nat.le_trans h.xp (Nat.mul_le_mul_left _ aq),h.now,h.width,h.eR,h.kV⟩
def ld(Q:c5→Prop)(k:Nat)(gl:bF)(y:bF)(az:List ft):Prop:=∃ ml,ha Q k gl ml∧gM.le (lf az) (lf ml)∧ml.length=az.length∧gl.eH=y.eH∧(∃ m,gl.told=y.told++m)
theorem ha.k1{Q:c5→Prop}{k:Nat}{y:bF}{az:List ft}(h:ha Q k y az){gf:Nat}(aq:k≤gf):ld Q gf y y az:=⟨az,h.mono aq,gM.le_refl _,rfl,rfl,[],(List.append_nil _).symm⟩
theorem Yd{Q:c5→Prop}{k gf:Nat}{y:bF}{az:List ft}(h:ha Q k y az)(aq:k≤gf){i:Nat}{g cP:ft}{cR:br}{vz:Post.dN}(O:az[i]?=some g)(a5:eP y.eH.gP az.length i gf (lf az) Q cR cP)(ll:lr g cP)
  (aM:vz.nodes=y.a2.nodes) (al:vz.m.length≤1000) (hm:∀ x∈vz.m,x∈y.a2.m∨(ls (lf (az.set i cP)) x.y∧(0≤x.fR∧x.fR<az.length)∧(0≤x.fL∧x.fL<az.length))):ld Q gf { k5 y i cR with a2:=vz } y az:=by
 have ll:=aj1 O ll;have ay:=(List.getElem?_eq_some_iff.1 O).1;have hi:(az.set i cP).length=az.length:=List.length_set ..;refine⟨az.set i cP,⟨by show (y.N.set i cR).length=_; rw[List.length_set,hi]; exact h.len,by rw[hi]; exact h.pos,by rw[hi]; exact h.jb,?_,by rw[hi]; exact aM.trans h.Cq,al,?_,fun t aT=>⟨ll _ _ (h.told t aT).1,(h.told t aT).2⟩,h.vF,Nat.le_trans h.xp (Nat.mul_le_mul_left _ aq),h.now,h.width,h.eR,h.kV⟩,ll,hi,rfl,[],(List.append_nil _).symm⟩
 ·intro D eS e4 rj kJ;rw[hi];have rj:(y.N.set i cR)[D]?=some eS:=rj;by_cases l:i=D
  ·subst l;rw[List.getElem?_set_self (by rw[h.len]; exact ay)] at rj;rw[List.getElem?_set_self ay] at kJ;cases rj; cases kJ;exact a5.mono ll (Nat.le_refl _)
  ·rw[List.getElem?_set_ne l] at rj kJ;exact (h.nodes D eS e4 rj kJ).mono ll aq
 ·intro x F;rw[hi];rcases hm x F with F | F
  ·obtain⟨a,e,c⟩:=h.a2 x F;exact⟨a.mono ll,e,c⟩
  ·exact F
theorem Gu{Q:c5→Prop}{k gf:Nat}{y:bF}{az:List ft}(h:ha Q k y az)(aq:k≤gf){i:Nat}{g:ft}{cR:br}(O:az[i]?=some g)(a5:m3 y.eH.gP az.length i gf (lf az) Q cR g):ld Q gf (k5 y i cR) y az:=by
 obtain⟨cP,I,R⟩:=a5;exact Yd (vz:=y.a2) h aq O I R rfl h.tj fun x F=>.inl F
theorem JD{Q:c5→Prop}{k:Nat}{y:bF}{az:List ft}(h:ha Q k y az){vz:Post.dN}(aM:vz.nodes=y.a2.nodes)(al:vz.m.length≤1000)(hm:∀ x∈vz.m,∃ S∈y.a2.m,x.y=S.y∧x.fR=S.fR∧x.fL=S.fL):ha Q k { y with a2:=vz } az:=
 ⟨h.len,h.pos,h.jb,h.nodes,aM.trans h.Cq,al,fun x F=>by obtain⟨S,aB,aS,bb,dn⟩:=hm x F; rw[aS,bb,dn]; exact h.a2 S aB,h.told,h.vF,h.xp,h.now,h.width,h.eR,h.kV⟩
theorem XO{y:bF}{i:Int}{b:br}(ah:0≤i)(h:y.N[i.toNat]?=some b)(ag:b.K.down=false):gd y i=0:=by
 unfold gd;rw[if_neg (by omega),h];simp[ag]
theorem rY{y:bF}{i:Int}(h:gd y i=0):∃ b,0≤i∧y.N[i.toNat]?=some b∧b.K.down=false:=by
 unfold gd at h;split at h
 ·cases h
 ·rename_i b a5;split at a5
  ·cases a5
  ·rename_i ah;refine⟨b,by omega,a5,?_⟩;split at h
   ·cases h
   ·rename_i ag; simpa using ag
theorem DM{Q:c5→Prop}{k gf:Nat}{y:bF}{az:List ft}(h:ha Q k y az)(aq:k≤gf){i:Int}{f:br→br×Int}(am:∀ b g,0≤i→y.N[i.toNat]?=some b→az[i.toNat]?=some g→b.K.down=false→eP y.eH.gP az.length i.toNat k (lf az) Q b g→m3 y.eH.gP az.length i.toNat gf (lf az) Q (f b).1 g):ld Q gf (nh y i f).1 y az:=by
 by_cases Y:gd y i=0
 ·obtain⟨b,ah,a5,ag⟩:=rY Y;rw[p2 ah a5 ag];obtain⟨g,O,a_⟩:=h.sZ a5;exact Gu h aq O (am b g ah a5 O ag a_)
 ·rw[vE Y];exact h.k1 aq
theorem JE{Q:c5→Prop}{k gf:Nat}{y:bF}{az:List ft}(h:ha Q k y az)(aq:k≤gf){i:Int}{f:br→br×Int}(am:∀ b g,eP y.eH.gP az.length i.toNat k (lf az) Q b g→m3 y.eH.gP az.length i.toNat gf (lf az) Q (f b).1 g):ld Q gf (qR y i f).1 y az:=by
 by_cases U:i<0∨(y.N.length:Int)≤i
 ·rw[CZ U];exact h.k1 aq
 ·have a5:y.N[i.toNat]?=some (y.N[i.toNat]'(by omega)):=List.getElem?_eq_getElem (by omega);rw[zs (by omega) a5];obtain⟨g,O,a_⟩:=h.sZ a5;exact Gu h aq O (am _ g a_)
theorem aHl{a2:Post.dN}{f t:Int}{o:hZ}:(a2.send f t o).1.nodes=a2.nodes∧∀ x∈(a2.send f t o).1.m,x∈a2.m∨(x.y=o∧x.fR=f∧x.fL=t∧a2.has f=true∧a2.has t=true):=by
 unfold Post.dN.send;by_cases c:(!a2.has f||!a2.has t)=true
 ·rw[if_pos c]; exact⟨rfl,fun x F=>.inl F⟩
 ·rw[if_neg c];split
  ·exact⟨rfl,fun x F=>.inl F⟩
  ·unfold Post.dN.put;split
   ·exact⟨rfl,fun x F=>.inl F⟩
   ·refine⟨rfl,fun x F=>?_⟩;rcases List.mem_append.1 F with F | F
    ·exact .inl F
    ·rw[List.mem_singleton.1 F];have c:¬ (a2.has f=false∨a2.has t=false):=by simpa using c
     refine .inr ⟨rfl,rfl,rfl,?_,?_⟩
     ·cases l:a2.has f; exact absurd (.inl l) c; rfl
     ·cases l:a2.has t; exact absurd (.inr l) c; rfl
theorem aeU{i:Int}:∀ {out:List qh} {a2:Post.dN},(sA a2 i out).nodes=a2.nodes∧∀ x∈(sA a2 i out).m,x∈a2.m∨∃ s∈out,x.y=s.o∧x.fR=i∧x.fL=s.ij
 |[],a2=>⟨rfl,fun x F=>.inl F⟩
 |s::out,a2=>by
  have I:=aHl (a2:=a2) (f:=i) (t:=s.ij) (o:=s.o);have R:=aeU (i:=i) (out:=out) (a2:=(a2.send i s.ij s.o).1);refine⟨R.1.trans I.1,fun x F=>?_⟩;rcases R.2 x F with F | ⟨fO,yC,l⟩
  ·rcases I.2 x F with F | ⟨aS,bb,dn,_⟩
   ·exact .inl F
   ·exact .inr ⟨s,List.mem_cons_self ..,aS,bb,dn⟩
  ·exact .inr ⟨fO,List.mem_cons_of_mem _ yC,l⟩
theorem alP{Q:c5→Prop}{k:Nat}{y:bF}{az:List ft}(h:ha Q k y az){i:Int}:ld Q k (qL y i).1 y az:=by
 unfold qL;by_cases Y:gd y i=0
 ·rw[if_neg (fun l=>l Y)];obtain⟨b,ah,a5,ag⟩:=rY Y;rw[p2 ah a5 ag,a5];obtain⟨g,O,a_⟩:=h.sZ a5;obtain⟨cP,I,R,aK⟩:=Ru a_ ag;have m:=a_.live ag;have ay:=(List.getElem?_eq_some_iff.1 O).1;rcases aK with ⟨l,_⟩ | ⟨l,_,GL,GC,_⟩
  ·rw[if_neg (by rw[l]; omega)];exact Gu h (Nat.le_refl _) O ⟨cP,I,R⟩
  ·rw[if_pos l];have aH:=aeU (i:=i) (out:=b.out) (a2:=y.a2);refine Yd (vz:=sA y.a2 i b.out) h (Nat.le_refl _) O I R aH.1 (SM h.tj) fun x F=>?_;rcases aH.2 x F with F | ⟨s,yC,aS,bb,dn⟩
   ·exact .inl F
   ·obtain⟨a,e⟩:=m.outs s yC;rw[aS,bb,dn];refine .inr ⟨a.mono fun id d ag=>?_,by omega,e⟩;unfold own at ag;split at ag
    ·rename_i U;unfold lf;rw[List.length_set,U,Int.toNat_natCast,List.getElem?_set_self ay];show kG (cP.an.take cP.e) id=some d
     rw[GL,GC,List.take_length];exact ag
    ·cases ag
 ·rw[if_pos Y];exact h.k1 (Nat.le_refl _)
theorem alI{Q:c5→Prop}{k:Nat}{y:bF}{az:List ft}(h:ha Q k y az)(en:∀ b∈y.N,Dn Q b)(aq:k≤49000){i:Int}:ld Q (k+2) (pN y i).1 y az:=by
 unfold pN;by_cases cb:(y.a2.take i).2.2=0
 ·rw[if_neg (fun l=>l cb)];obtain⟨hm,Em⟩:=S3 cb;have F:=h.a2 _ hm;have a_:ha Q k { y with a2:=(y.a2.take i).1 } az:=JD h (by rw[Em]) (by rw[Em]; have:=h.tj; show (y.a2.m.eraseIdx _).length≤_; rw[List.length_eraseIdx]; split<;>omega) fun x F=>⟨x,by rw[Em] at F; exact List.mem_of_mem_eraseIdx F,rfl,rfl,rfl⟩
  have:=DM (i:=(y.a2.take i).2.1.fL) a_ (Nat.le_add_right k 2) (f:=fun b=>(m_ y.N.length b (y.a2.take i).2.1.fR (y.a2.take i).2.1.y,0)) fun b g ah a5 O ag aoX=>by
   have:=aDj (en b (List.mem_of_getElem? a5)) h.pos.1 aoX ag aq F.1 F.2.1;rw[h.len];exact this
  exact this
 ·rw[if_pos cb];exact h.k1 (by omega)
theorem alF{Q:c5→Prop}{k:Nat}{y:bF}{az:List ft}(h:ha Q k y az){i:Int}:ld Q k (x0 y i).1 y az:=by
 unfold x0;by_cases c:(y.a2.at_ i).2≠0
 ·rw[if_pos c]; exact h.k1 (Nat.le_refl _)
 ·rw[if_neg c];have c:=Classical.not_not.1 c;have bN:=y.a2.Ju c;have F:y.a2.m[i.toNat]?=some (y.a2.m[i.toNat]'(by omega)):=List.getElem?_eq_getElem (by omega);rw[y.a2.Jt bN.1 F];refine (JD h ?_ (ac9 h.tj) fun x F=>?_).k1 (Nat.le_refl _) |> fun ⟨ml,a,e,c,d,l⟩=>⟨ml,a,e,c,d,l⟩
  ·unfold Post.dN.put; split<;>rfl
  ·unfold Post.dN.put at F;split at F
   ·exact⟨x,F,rfl,rfl,rfl⟩
   ·rcases List.mem_append.1 F with F | F
    ·exact⟨x,F,rfl,rfl,rfl⟩
    ·rw[List.mem_singleton.1 F]; exact⟨_,List.getElem_mem _,rfl,rfl,rfl⟩
theorem alJ{Q:c5→Prop}{k:Nat}{y:bF}{az:List ft}(h:ha Q k y az){i:Int}:ld Q k (Cj y i).1 y az:=by
 unfold Cj;refine (JD h ?_ ?_ fun x F=>?_).k1 (Nat.le_refl _) |> fun ⟨ml,a,e,c,d,l⟩=>⟨ml,a,e,c,d,l⟩
 ·split<;>rfl
 ·have:=h.tj;split
  ·show (y.a2.m.eraseIdx _).length≤_; rw[List.length_eraseIdx]; split<;>omega
  ·exact this
 ·refine⟨x,?_,rfl,rfl,rfl⟩;split at F
  ·exact List.mem_of_mem_eraseIdx F
  ·exact F
theorem alH{Q:c5→Prop}{k:Nat}{y:bF}{az:List ft}(h:ha Q k y az){i:Int}{q:Bool}:ld Q k (n4 y i q).1 y az:=by
 unfold n4;split
 ·exact h.k1 (Nat.le_refl _)
 ·refine (JD h ?_ ?_ fun x F=>?_).k1 (Nat.le_refl _) |> fun ⟨ml,a,e,c,d,l⟩=>⟨ml,a,e,c,d,l⟩
  ·split<;>rfl
  ·have:=h.tj; split<;>exact this
  ·refine⟨x,?_,rfl,rfl,rfl⟩;split at F<;>exact F
abbrev k_:=ha fun _=>True
abbrev zG:=ld fun _=>True
section
variable {Q:c5→Prop} {k:Nat} {y:bF} {az:List ft}
theorem alM(h:ha Q k y az)(aq:k≤49000){a o:Int}(hm:-9223372036854775808≤o∧o≤9223372036854775807):ld Q (k+2) (vG y a o).1 y az:=by
 unfold vG;split
 ·exact h.k1 (by omega)
 ·rename_i c;exact DM h (by omega) fun b g ah a5 O ag a_=>(aDq a_ ag aq (by omega) hm).mono (by omega)
theorem alK(h:ha Q k y az)(en:∀ r:c5,r.k≠2→Q r)(aq:k≤49000){x:oE}:ld Q (k+2) (p1 y x).1 y az:=by
 unfold p1;split
 ·exact h.k1 (by omega)
 ·rename_i c;refine DM h (by omega) fun b g ah a5 O ag a_=>?_;rw[h.len] at a_ ah ⊢;exact (aDn en h.pos.1 a_ ag aq (Classical.not_not.1 c) (by omega)).mono (by omega)
theorem alB(h:ha Q k y az)(en:∀ r:c5,r.k≠2→Q r)(aq:k≤49000){id:Int}:ld Q (k+2) (xS y id).1 y az:=by
 unfold xS;split
 ·exact h.k1 (by omega)
 ·refine DM h (by omega) fun b g ah a5 O ag a_=>?_;rw[h.len] at a_ ah ⊢;exact (aDf en h.pos.1 a_ ag aq).mono (by omega)
theorem alL(h:ha Q k y az)(aq:k≤49000){i:Int}:ld Q (k+2) (uq y i).1 y az:=by
 unfold uq;refine DM h (by omega) fun b g ah a5 O ag a_=>?_;rw[h.len];exact ((aDp h.pos.1 a_ ag aq).lm).mono (by omega)
theorem alO(h:ha Q k y az)(aq:k≤49000){i t:Int}(aT:-9223372036854775808≤t∧t≤9223372036854775807):ld Q (k+2) (EV y i t).1 y az:=
 DM h (by omega) fun b g ah a5 O ag a_=>(aDs a_ ag aq aT).mono (by omega)
theorem alE(h:ha Q k y az)(aq:k≤49000){i:Int}:ld Q (k+2) (mN y i).1 y az:=by
 unfold mN;by_cases Y:gd y i=0
 ·rw[if_neg (fun l=>l Y)];obtain⟨b,ah,a5,ag⟩:=rY Y;rw[a5];obtain⟨g,O,a_⟩:=h.sZ a5;exact Gu h (by omega) O ((aDi a_ ag aq).mono (by omega))
 ·rw[if_pos Y];exact h.k1 (by omega)
theorem alD(h:ha Q k y az){i off:Int}:ld Q k (E3 y i off).1 y az:=
 JE h (Nat.le_refl _) fun b g a_=>(aDt a_).lm
theorem alC(h:ha Q k y az){i a:Int}{bI:List Int}:ld Q k (pL y i a bI).1 y az:=
 JE h (Nat.le_refl _) fun b g a_=>(aDh a_).lm
theorem alG(h:ha Q k y az){i:Int}{bI:List Int}:ld Q k (wH y i bI).1 y az:=
 JE h (Nat.le_refl _) fun b g a_=>aDk a_
theorem alR(h:ha Q k y az){i:Int}:ld Q k (nX y i).1 y az:=
 JE h (Nat.le_refl _) fun b g a_=>by
  obtain⟨cP,a,e,_⟩:=Rv h.eR a_;exact⟨cP,a,e⟩
theorem alN(h:ha Q k y az){d:Int}{xs:List Int}:ld Q (k+2) (xf y d xs).1 y az:=by
 unfold xf;split
 ·exact h.k1 (by omega)
 ·rename_i c;have aM:=h.now;have hm:=GO (n:=d) (by omega) (by omega) (PK h.kV).2;refine⟨az,⟨(List.length_mapIdx ..).trans h.len,h.pos,h.jb,fun i b g a5 O=>?_,h.Cq,h.tj,h.a2,h.told,h.vF,Nat.le_trans h.xp (Nat.mul_le_mul_left _ (by omega)),⟨by show 0≤y.now+d; omega,by show y.now+d≤_; omega⟩,h.width,h.eR,h.kV⟩,gM.le_refl _,rfl,rfl,[],(List.append_nil _).symm⟩;have a5:(y.N.mapIdx (vH d (ko d (oa y.eH.lc)) xs))[i]?=some b:=a5;rw[List.getElem?_mapIdx] at a5;cases kX:y.N[i]? with
  |none=>rw[kX] at a5; cases a5
  |some F_=>
   rw[kX] at a5;cases a5;exact (aDr (h.nodes i F_ g kX O) (by omega) hm).mono (gM.le_refl _) (by omega)
structure tM(az:List ft)(y:bF)(s:kC):Prop where
 ax:jl s.ax
 told:∀ t∈s.told,lf az t.aD=some (t.oz,t.b9)∧s.known t.aD=true
 vF:(s.told.map fun t=>t.aD).Nodup
 more:∃ m,s.told=y.told++m
theorem tM.hN{s:kC}{id:Int}{p:bP}(h:tM az y s)(aq:s.known id=false)(aH:lf az id=some (p.b8,p.at_)):tM az y (s.hN id p):=by
 refine⟨h.ax,fun t aT=>?_,?_,?_⟩
 ·rcases List.mem_append.1 aT with aT | aT
  ·have:=h.told t aT;exact⟨this.1,by show (t.aD==id||s.known t.aD)=true; rw[this.2]; simp⟩
  ·rw[List.mem_singleton.1 aT];exact⟨aH,by show (id==id||s.known id)=true; simp⟩
 ·show ((s.told++[(⟨id,p.b8,p.at_⟩:Told)]).map fun t=>t.aD).Nodup
  rw[List.map_append,List.nodup_append];refine⟨h.vF,by simp,fun a Y e ao=>?_⟩;obtain⟨t,aT,rfl⟩:=List.mem_map.1 Y;have ao:e=id:=by simpa using ao
  subst ao;intro l;have:=(h.told t aT).2;rw[l,aq] at this;cases this
 ·obtain⟨m,al⟩:=h.more;exact⟨m++[⟨id,p.b8,p.at_⟩],by show s.told++_=_; rw[al,List.append_assoc]⟩
theorem aHh{f n k:Nat}{i:Nat}{W:gM}{Q:c5→Prop}{b:br}{g:ft}(wM:az.length=n)(O:az[i]?=some g)(a_:eP f n i k W Q b g)(ag:b.K.down=false){id:Int}{p:bP}(al:b.P.lookup id=some p)(aH:b.sure id=true):lf az id=some (p.b8,p.at_):=by
 have m:=a_.live ag;obtain⟨q,ba,he,iy,U,_⟩:=m.pl a_.cN al;obtain⟨d,wO⟩:=m.sure id aH;have I:=JI a_.cN.nr wO;unfold lf;rw[wM,U,Int.toNat_natCast,O];show kG (g.an.take g.e) id=_
 rw[wO];unfold kG at I;rw[ba] at I;have I:lB q=some d:=I;unfold lB at I;split at I
 ·cases I
 ·cases I;rw[he.2.1,he.2.2]
theorem tM.step{f n k:Nat}{i:Nat}{W:gM}{Q:c5→Prop}{b:br}{g:ft}{s:kC}{id:Int}(h:tM az y s)(wM:az.length=n)(O:az[i]?=some g)(a_:eP f n i k W Q b g)(ag:b.K.down=false):tM az y (rK b s id):=by
 unfold rK;cases al:b.P.lookup id with
 |none=>exact h
 |some p=>
  unfold oZ;simp only;split
  ·exact h
  ·rename_i c;have aq:s.known id=false:=by
    cases l:s.known id
    ·rfl
    ·rw[l] at c; simp at c
   have aH:b.sure id=true:=by
    cases l:b.sure id
    ·rw[l] at c; simp at c
    ·rfl
   have aaz:=aHh wM O a_ ag al aH;have R:tM az y { s with ax:=(fj s.ax b.cO).1 }:=⟨(h.ax.now _).1,h.told,h.vF,h.more⟩
   split
   ·split
    ·exact R
    ·exact R.hN aq aaz
   ·exact h.hN aq aaz
theorem tM.all{f n k:Nat}{i:Nat}{W:gM}{Q:c5→Prop}{b:br}{g:ft}(wM:az.length=n)(O:az[i]?=some g)(a_:eP f n i k W Q b g)(ag:b.K.down=false):∀ (ids:List Int) (s:kC),tM az y s→tM az y (lM b s ids)
 |[],s,h=>h
 |id::ids,s,h=>tM.all wM O a_ ag ids (rK b s id) (h.step wM O a_ ag)
theorem alQ(h:ha Q k y az)(aq:k≤49000){i:Int}:ld Q (k+2) (tt y i).1 y az:=by
 unfold tt;by_cases Y:gd y i=0
 ·rw[if_neg (fun l=>l Y)];obtain⟨b,ah,a5,ag⟩:=rY Y;rw[a5];obtain⟨g,O,a_⟩:=h.sZ a5;have t:=tM.all (y:=y) rfl O a_ ag (e8 b.P) ⟨b.ax,y.known,y.told⟩ ⟨a_.b4.ax,h.told,h.vF,[],(List.append_nil _).symm⟩;have hi:=(S6 (b:=b) (e8 b.P) ⟨b.ax,y.known,y.told⟩ a_.b4.ax).2;have tc:(e8 b.P).length=b.P.length:=by unfold e8; rw[(oq _).length_eq,List.length_map]
  have s8:=a_.b4.l1;have yD:=h.xp;simp only at hi;show ld Q (k+2) (S5 y i.toNat b (lM b ⟨b.ax,y.known,y.told⟩ (e8 b.P))) y az
  generalize lM b ⟨b.ax,y.known,y.told⟩ (e8 b.P)=s at t hi;obtain⟨ml,a,e,c,d,l⟩:=Gu (gf:=k+2) h (by omega) O (((xa a_ t.ax a_.b4.src).lm).mono (by omega));exact⟨ml,⟨a.len,a.pos,a.jb,a.nodes,a.Cq,a.tj,a.a2,fun x F=>⟨e _ _ (t.told x F).1,(t.told x F).2⟩,t.vF,by show s.told.length≤_; omega,a.now,a.width,a.eR,a.kV⟩,e,c,d,t.more⟩
 ·rw[if_pos Y];exact h.k1 (by omega)
end
theorem aDo{c:rP}(ok:qf c){n i:Nat}{W:gM}{Q:c5→Prop}:eP c.gP n i 0 W Q (yY c) ⟨[],0,[],0⟩:=by
 have kX:Live ny [] 0 [] 0:=⟨MD,rfl,rfl,Nat.le_refl _,Nat.le_refl _,fun x F=>(by cases F),fun x F=>(by cases F)⟩
 refine⟨⟨(Ye ok.kV).set 0 1000 c.jQ,(by show -(4194304*((0:Nat):Int))≤0∧(0:Int)≤_; omega),HC ⟨by omega,by omega⟩,MD,Fit.new ok.eR,fun l he=>(by cases he),fun id p aF=>(by cases aF),Nat.le_refl _,Nat.le_refl _⟩,⟨fun r aa=>(by cases aa),fun x F=>(by cases F),fun i r aa=>(by simp at aa),fun r aa=>(by cases aa),fun r aa=>(by cases aa),Nat.le_refl _,Nat.le_refl _,Nat.le_refl _,Nat.le_refl _⟩,.inl ⟨kX,rfl,rfl,rfl,fun id=>⟨fun p aF=>(by cases aF),fun _=>rfl⟩,fun s aH=>(by cases aH),fun id aH=>(by cases aH)⟩⟩
theorem DL{Q:c5→Prop}{c:rP}(ok:qf c):ha Q 0 (l9 c) (List.replicate c.hQ.toNat ⟨[],0,[],0⟩):=by
 have aM:=ok.n;refine⟨(by show (List.replicate c.hQ.toNat (yY c)).length=_; simp),(by rw[List.length_replicate]; omega),(by rw[List.length_replicate]; show c.hQ=_; omega),fun i b g a5 O=>?_,?_,(by show ([]:List Nat).length≤_; simp),fun x F=>(by cases F),fun t aT=>(by cases aT),(by show ([]:List Int).Nodup; simp),(by show ([]:List Told).length≤_; simp),⟨(by show (0:Int)≤1000; omega),(by show (1000:Int)≤_; omega)⟩,ok.width,ok.eR,ok.kV⟩
 ·have a5:=(List.mem_replicate.1 (List.mem_of_getElem? a5)).2;have O:=(List.mem_replicate.1 (List.mem_of_getElem? O)).2;subst a5; subst O;exact aDo ok
 ·rw[List.length_replicate];show c.hQ=_
  omega
abbrev qT:=oB
abbrev lg:=h1
structure aN where
 x:qT
 N:List Int
 ab:List Int
def pf(a:aN):aN:=⟨a.x,a.N.take 10,a.ab.take 4⟩
def gD(y:bF)(a:aN):bF×Int:=
 if a.x.Kind=0 then xf y a.x.b a.N
 else if a.x.Kind=1 then vG y a.x.aQ a.x.b
 else if a.x.Kind=2 then p1 y a.x.cm
 else if a.x.Kind=3 then qL y a.x.aQ
 else if a.x.Kind=4 then pN y a.x.aQ
 else if a.x.Kind=5 then x0 y a.x.aQ
 else if a.x.Kind=6 then Cj y a.x.aQ
 else if a.x.Kind=7 then n4 y a.x.aQ (bits .and .i64 a.x.aV 1==1)
 else if a.x.Kind=8 then pL y a.x.aQ a.x.aV a.ab
 else if a.x.Kind=9 then wH y a.x.aQ a.ab
 else if a.x.Kind=10 then ((nX y a.x.aQ).1,max (nX y a.x.aQ).2 0)
 else if a.x.Kind=11 then uq y a.x.aQ
 else if a.x.Kind=12 then tt y a.x.aQ
 else if a.x.Kind=13 then ((mN y a.x.aQ).1,(mN y a.x.aQ).2.2)
 else if a.x.Kind=14 then EV y a.x.aQ a.x.b
 else if a.x.Kind=15 then E3 y a.x.aQ a.x.b
 else if a.x.Kind=16 then xS y a.x.aQ
 else (y,0)
structure tz(x:qT):Prop where
 n:-9223372036854775808≤x.b∧x.b≤9223372036854775807
theorem Yc{Q:c5→Prop}{k:Nat}{y:bF}{az:List ft}(h:ha Q k y az)(en:∀ b∈y.N,Dn Q b)(aq:k≤49000){a:aN}(ok:tz a.x):ld Q (k+2) (gD y a).1 y az:=by
 have ZW:∀ r:c5,r.k≠2→Q r:=(en (y.N[0]'(by have:=h.len; have:=h.pos; omega)) (List.getElem_mem _)).one;have up:∀ {gl},ld Q k gl y az→ld Q (k+2) gl y az:=fun ⟨ml,a,e,c⟩=>⟨ml,a.mono (by omega),e,c⟩
 unfold gD;by_cases c:a.x.Kind=0
 ·rw[if_pos c]; exact alN h
 rw[if_neg c]; clear c;by_cases c:a.x.Kind=1
 ·rw[if_pos c]; exact alM h aq ok.n
 rw[if_neg c]; clear c;by_cases c:a.x.Kind=2
 ·rw[if_pos c]; exact alK h ZW aq
 rw[if_neg c]; clear c;by_cases c:a.x.Kind=3
 ·rw[if_pos c]; exact up (alP h)
 rw[if_neg c]; clear c;by_cases c:a.x.Kind=4
 ·rw[if_pos c]; exact alI h en aq
 rw[if_neg c]; clear c;by_cases c:a.x.Kind=5
 ·rw[if_pos c]; exact up (alF h)
 rw[if_neg c]; clear c;by_cases c:a.x.Kind=6
 ·rw[if_pos c]; exact up (alJ h)
 rw[if_neg c]; clear c;by_cases c:a.x.Kind=7
 ·rw[if_pos c]; exact up (alH h)
 rw[if_neg c]; clear c;by_cases c:a.x.Kind=8
 ·rw[if_pos c]; exact up (alC h)
 rw[if_neg c]; clear c;by_cases c:a.x.Kind=9
 ·rw[if_pos c]; exact up (alG h)
 rw[if_neg c]; clear c;by_cases c:a.x.Kind=10
 ·rw[if_pos c]; exact up (alR h)
 rw[if_neg c]; clear c;by_cases c:a.x.Kind=11
 ·rw[if_pos c]; exact alL h aq
 rw[if_neg c]; clear c;by_cases c:a.x.Kind=12
 ·rw[if_pos c]; exact alQ h aq
 rw[if_neg c]; clear c;by_cases c:a.x.Kind=13
 ·rw[if_pos c]; exact alE h aq
 rw[if_neg c]; clear c;by_cases c:a.x.Kind=14
 ·rw[if_pos c]; exact alO h aq ok.n
 rw[if_neg c]; clear c;by_cases c:a.x.Kind=15
 ·rw[if_pos c]; exact up (alD h)
 rw[if_neg c]; clear c;by_cases c:a.x.Kind=16
 ·rw[if_pos c]; exact alB h ZW aq
 rw[if_neg c];exact h.k1 (by omega)
theorem aFL(b:br):Dn (fun _=>True) b:=⟨fun _ _=>trivial,fun _ _ _=>trivial⟩
theorem OI{k:Nat}{y:bF}{az:List ft}(h:k_ k y az)(aq:k≤49000){a:aN}(ok:tz a.x):zG (k+2) (gD y a).1 y az:=Yc h (fun b _=>aFL b) aq ok
section
variable {A w:World} {m bX:List bE}
theorem Pb{x:qT}{N ab:List Int}(kX:x.N.len≤x.N.cap)(cg:x.gO.len≤x.gO.cap)(dx:ca m (dd (B .i64) x.N N))(ef:ca m (dd (B .i64) x.gO ab))(H:E A m w) :
  M Pg 13 [lg.enc x] lg w fun r J=>∃ s1 s2,r={ x with N:=s1,gO:=s2 }∧E A (ro (B .i64) s1 (N.take 10)::ro (B .i64) s2 (ab.take 4)::m) J:=by
 have aS:=dx.len H;have bb:=ef.len H;refine agZ ?_;unfold Ui;refine bR H fun ek dL H=>?_;refine bR H fun iT cG H=>?_;refine ak (x:=x.N) 1 H rfl rfl rfl ?_;have bT:∀ (s1:af) (w:World),E A (aJ ek (lg.cells { x with N:=s1 }) 35::aJ iT (lg.cells Bt) 35::ro (B .i64) s1 (N.take 10)::m) w →
   Fx ⟨ek,0,none⟩ ⟨iT,0,none⟩ w fun r J=>∃ s1 s2,r={ x with N:=s1,gO:=s2 }∧E A (ro (B .i64) s1 (N.take 10)::ro (B .i64) s2 (ab.take 4)::m) J:=by
  intro s1 w H;have vl:∀ (s2:af) (w:World),E A (aJ ek (lg.cells { x with N:=s1,gO:=s2 }) 35::aJ iT (lg.cells Bt) 35::ro (B .i64) s1 (N.take 10)::ro (B .i64) s2 (ab.take 4)::m) w →
    Fy ⟨ek,0,none⟩ ⟨iT,0,none⟩ w fun r J=>∃ s1 s2,r={ x with N:=s1,gO:=s2 }∧E A (ro (B .i64) s1 (N.take 10)::ro (B .i64) s2 (ab.take 4)::m) J:=by
   intro s2 w H;unfold Fy;refine ez (x:=({ x with N:=s1,gO:=s2 }:qT)) 0 H rfl ?_;refine de (x:=Bt) (S:=({ x with N:=s1,gO:=s2 }:qT)) Rb 1 H rfl fun bl H=>?_;refine ez (x:=({ x with N:=s1,gO:=s2 }:qT)) 0 H rfl ?_;exact⟨s1,s2,rfl,H.drop.drop⟩
  unfold Fx;refine ak (x:=x.gO) 0 H rfl rfl rfl ?_;rw[bb];split
  ·rename_i U;have U:4<ab.length:=by simp at U; omega
   refine ak (x:=x.gO) 0 H rfl rfl rfl ?_;refine ot (by omega) (by omega) (by omega) (by omega) fun s2 aH=>?_;have g0:=ef.sub (fun _=>rfl) aH (by omega);simp only[show ((4:Int)).toNat=4 from rfl,show ((0:Int)).toNat=0 from rfl,List.drop_zero] at g0;refine dK (x:=s2) 0 H rfl rfl (Nat.le_of_ble_eq_true rfl) fun bl H=>?_;have H:=E.ro g0.tail.tail.tail H;exact vl s2 _ (H.ord [1,2,3,0])
  ·rename_i U;have U:ab.length≤4:=by simp at U; omega
   have l:ab.take 4=ab:=List.take_of_length_le U;have H:=E.ro ef.tail.tail.tail H;rw[← l] at H;exact vl x.gO _ (H.ord [1,2,3,0])
 rw[aS];split
 ·rename_i U;have U:10<N.length:=by simp at U; omega
  refine ak (x:=x.N) 1 H rfl rfl rfl ?_;refine ot (by omega) (by omega) (by omega) (by omega) fun s1 aH=>?_;have g0:=dx.sub (fun _=>rfl) aH (by omega);simp only[show ((10:Int)).toNat=10 from rfl,show ((0:Int)).toNat=0 from rfl,List.drop_zero] at g0;refine dK (x:=s1) 1 H rfl rfl (Nat.le_of_ble_eq_true rfl) fun bl H=>?_;have H:=E.ro g0.tail.tail H;exact bT s1 _ (H.ord [1,2,0])
 ·rename_i U;have U:N.length≤10:=by simp at U; omega
  have l:N.take 10=N:=List.take_of_length_le U;have H:=E.ro dx.tail.tail H;rw[← l] at H;exact bT x.N _ (H.ord [2,1,0])
theorem JL{au:Nat}{y:bF}{x:qT}{N ab:List Int}(k:la y)(P4:∀ b∈y.N,Je b.K)(ok:tz x)(dx:dr 1 m (B .i64) x.N N)(ef:dr 1 m (B .i64) x.gO ab)(kX:N.length≤1000)(cg:ab.length≤1000)(H:E A (cn au y::m) w) :
  M Pg 14 [.pointer (some ⟨au,0,none⟩),lg.enc x] (B .i64) w fun r J=>r=(gD y ⟨x,N,ab⟩).2∧E A (cn au (gD y ⟨x,N,ab⟩).1::m) J:=by
 refine ag9 ?_;unfold Us gD;simp only;refine bR H fun e w H=>?_;have gS:dr 1 (aJ e (lg.cells x) 35::m) (B .i64) x.N N:=dx.tail;have gu:dr 1 (aJ e (lg.cells x) 35::m) (B .i64) x.gO ab:=ef.tail;have fin:∀ {r:Int} {w:World} {z:bF×Int},(r=z.2∧E A (cn au z.1::aJ e (lg.cells x) 35::m) w)→r=z.2∧E A (cn au z.1::m) w:=fun h=>⟨h.1,(h.2.front 1).drop⟩
 refine ak (x:=x.Kind) 0 H rfl rfl rfl ?_;by_cases c:x.Kind=0
 ·rw[if_pos (by simpa using c),if_pos c];refine ak (x:=x.b) 0 H rfl rfl rfl ?_;refine ak (x:=x.N) 0 H rfl rfl rfl ?_;exact ap (acS k gS (by omega) (H.front 1)) fun r w h=>fin h
 rw[if_neg (by simpa using c),if_neg c]; clear c;by_cases c:x.Kind=1
 ·rw[if_pos (by simpa using c),if_pos c];refine ak (x:=x.aQ) 0 H rfl rfl rfl ?_;refine ak (x:=x.b) 0 H rfl rfl rfl ?_;exact ap (RN k ok.n (H.front 1)) fun r w h=>fin h
 rw[if_neg (by simpa using c),if_neg c]; clear c;by_cases c:x.Kind=2
 ·rw[if_pos (by simpa using c),if_pos c];refine ak (x:=x.cm) 0 H rfl rfl rfl ?_;exact ap (ab3 k (H.front 1)) fun r w h=>fin h
 rw[if_neg (by simpa using c),if_neg c]; clear c;by_cases c:x.Kind=3
 ·rw[if_pos (by simpa using c),if_pos c];refine ak (x:=x.aQ) 0 H rfl rfl rfl ?_;exact ap (SY k (H.front 1)) fun r w h=>fin h
 rw[if_neg (by simpa using c),if_neg c]; clear c;by_cases c:x.Kind=4
 ·rw[if_pos (by simpa using c),if_pos c];refine ak (x:=x.aQ) 0 H rfl rfl rfl ?_;exact ap (OP k (H.front 1)) fun r w h=>fin h
 rw[if_neg (by simpa using c),if_neg c]; clear c;by_cases c:x.Kind=5
 ·rw[if_pos (by simpa using c),if_pos c];refine ak (x:=x.aQ) 0 H rfl rfl rfl ?_;exact ap (amj k (H.front 1)) fun r w h=>fin h
 rw[if_neg (by simpa using c),if_neg c]; clear c;by_cases c:x.Kind=6
 ·rw[if_pos (by simpa using c),if_pos c];refine ak (x:=x.aQ) 0 H rfl rfl rfl ?_;exact ap (aCN k (H.front 1)) fun r w h=>fin h
 rw[if_neg (by simpa using c),if_neg c]; clear c;by_cases c:x.Kind=7
 ·rw[if_pos (by simpa using c),if_pos c];refine ak (x:=x.aQ) 0 H rfl rfl rfl ?_;refine ak (x:=x.aV) 0 H rfl rfl rfl ?_;exact ap (Yk k (H.front 1)) fun r w h=>fin h
 rw[if_neg (by simpa using c),if_neg c]; clear c;by_cases c:x.Kind=8
 ·rw[if_pos (by simpa using c),if_pos c];refine ak (x:=x.aQ) 0 H rfl rfl rfl ?_;refine ak (x:=x.aV) 0 H rfl rfl rfl ?_;refine ak (x:=x.gO) 0 H rfl rfl rfl ?_;exact ap (XM k gu (by omega) (H.front 1)) fun r w h=>fin h
 rw[if_neg (by simpa using c),if_neg c]; clear c;by_cases c:x.Kind=9
 ·rw[if_pos (by simpa using c),if_pos c];refine ak (x:=x.aQ) 0 H rfl rfl rfl ?_;refine ak (x:=x.gO) 0 H rfl rfl rfl ?_;exact ap (aml k gu (H.front 1)) fun r w h=>fin h
 rw[if_neg (by simpa using c),if_neg c]; clear c;by_cases c:x.Kind=10
 ·rw[if_pos (by simpa using c),if_pos c];refine ak (x:=x.aQ) 0 H rfl rfl rfl ?_;exact ap (afH k P4 (H.front 1)) fun r w h=>fin (z:=((nX y x.aQ).1,max (nX y x.aQ).2 0)) h
 rw[if_neg (by simpa using c),if_neg c]; clear c;by_cases c:x.Kind=11
 ·rw[if_pos (by simpa using c),if_pos c];refine ak (x:=x.aQ) 0 H rfl rfl rfl ?_;exact ap (acd k (H.front 1)) fun r w h=>fin h
 rw[if_neg (by simpa using c),if_neg c]; clear c;by_cases c:x.Kind=12
 ·rw[if_pos (by simpa using c),if_pos c];refine ak (x:=x.aQ) 0 H rfl rfl rfl ?_;exact ap (afr k (H.front 1)) fun r w h=>fin h
 rw[if_neg (by simpa using c),if_neg c]; clear c;by_cases c:x.Kind=13
 ·rw[if_pos (by simpa using c),if_pos c];refine ak (x:=x.aQ) 0 H rfl rfl rfl ?_;exact ap (Yg k (H.front 1)) fun r w h=>fin (z:=((mN y x.aQ).1,(mN y x.aQ).2.2)) ⟨congrArg Prod.snd h.1,h.2⟩
 rw[if_neg (by simpa using c),if_neg c]; clear c;by_cases c:x.Kind=14
 ·rw[if_pos (by simpa using c),if_pos c];refine ak (x:=x.aQ) 0 H rfl rfl rfl ?_;refine ak (x:=x.b) 0 H rfl rfl rfl ?_;exact ap (aFj k ok.n (H.front 1)) fun r w h=>fin h
 rw[if_neg (by simpa using c),if_neg c]; clear c;by_cases c:x.Kind=15
 ·rw[if_pos (by simpa using c),if_pos c];refine ak (x:=x.aQ) 0 H rfl rfl rfl ?_;refine ak (x:=x.b) 0 H rfl rfl rfl ?_;exact ap (aHq k (H.front 1)) fun r w h=>fin h
 rw[if_neg (by simpa using c),if_neg c]; clear c;by_cases c:x.Kind=16
 ·rw[if_pos (by simpa using c),if_pos c];refine ak (x:=x.aQ) 0 H rfl rfl rfl ?_;exact ap (akk k (H.front 1)) fun r w h=>fin h
 rw[if_neg (by simpa using c),if_neg c];exact⟨rfl,H.drop⟩
end
def Calm(K:c1):Prop:=K.et=0∧K.down=false
theorem JA{K:c1}{n s:Int}{f:ed→ed}(h:Calm K):Calm (km K n s f).1:=by
 unfold km;split
 ·exact h
 ·split
  ·exact h
  ·split
   ·exact h
   ·split
    ·rename_i l; rw[h.1] at l; cases l
    ·exact⟨by show (if 1<K.et then _ else K.et)=0; rw[if_neg (by rw[h.1]; omega)]; exact h.1,h.2⟩
theorem JB{K:c1}{V:nC}{x:List UInt8}(h:Calm K):Calm (gB K V x).1:=by
 unfold gB oG;split
 ·exact h
 ·split
  ·exact h
  ·exact JA h
theorem Ya{K:c1}{V:nC}(h:Calm K):Calm (gH K V).1:=by
 unfold gH oY;split
 ·exact h
 ·exact JA h
theorem X_{K:c1}{n:Int}{g:ed}(h:Calm K):Calm (dq K n g).1:=by
 unfold dq AM oY;split
 ·exact JA h
 ·split
  ·exact JA h
  ·exact h
theorem X9{K:c1}{W:q0}{x:dW}(h:Calm K):Calm (f_ K W x).1:=by
 unfold f_;split
 ·split
  ·exact JB h
  ·exact JB h
 ·exact h
theorem X8{n:Nat}{b:br}{id k t:Int}{p:bP}(h:Calm b.K):Calm (n8 n b id p k t).1.K:=by
 unfold n8;simp only;split
 ·exact JB h
 ·exact JB h
theorem alk{n:Nat}{b:br}{from_:Int}{o:hZ}(h:Calm b.K):Calm (m_ n b from_ o).K:=by
 unfold m_;split
 ·unfold rr yz vn nV
  repeat' split
  all_goals first
   |exact h
   |exact X9 h
 ·split
  ·unfold v5;split
   ·exact h
   ·unfold zn;split
    ·exact h
    ·split
     ·exact h
     ·unfold v4;split
      ·exact X8 h
      ·split
       ·unfold zo;split
        ·exact X8 h
        ·exact h
       ·exact h
  ·split
   ·unfold tW iw nV
    repeat' split
    all_goals first
     |exact h
     |exact X9 h
   ·split
    ·unfold xU;split
     ·exact h
     ·exact h
    ·exact h
theorem alm{b:br}(h:Calm b.K):Calm (nu b).1.K:=by
 have I:Calm (gH b.K b.W.V).1:=Ya h;have l:nu b=vU b (gH b.K b.W.V):=rfl;rw[l];generalize gH b.K b.W.V=z at I;unfold vU;split
 ·exact I
 ·have R:Calm (gH z.1 b.A).1:=Ya I;generalize gH z.1 b.A=S at R;unfold zh;split
  ·exact R
  ·exact R
theorem aln{f:Nat}{b:br}(h:b.K.et=0):Calm (o0 f b).1.K:=by
 unfold o0;split
 ·have I:Calm (dq (ik b.K) 0 (um b.K 0)).1:=X_ ⟨h,rfl⟩;generalize dq (ik b.K) 0 (um b.K 0)=z at I;unfold zk;split
  ·exact I
  ·have R:Calm (dq z.1 1 (um b.K 1)).1:=X_ I;generalize dq z.1 1 (um b.K 1)=S at R;unfold zl;split
   ·exact R
   ·unfold zr;rw[LR];exact R
 ·rename_i ag;exact⟨h,by simpa using ag⟩
structure Rest(y:bF)(D:Nat):Prop where
 calm:∀ i b,i<D→y.N[i]?=some b→Calm b.K
 on:∀ i:Int,0≤i→i<D→y.a2.off i=false
theorem LW{y:bF}{D i:Nat}{b:br}(h:Rest y D)(a5:i<D→Calm b.K):Rest (k5 y i b) D:=
 ⟨fun o cR hm ri=>by
  have ri:(y.N.set i b)[o]?=some cR:=ri;by_cases l:i=o
  ·subst l;by_cases al:i<y.N.length
   ·rw[List.getElem?_set_self al] at ri;cases ri;exact a5 hm
   ·rw[List.getElem?_eq_none (by rw[List.length_set]; omega)] at ri;cases ri
  ·rw[List.getElem?_set_ne l] at ri
   exact h.calm o cR hm ri,h.on⟩
theorem Rest.a2{y:bF}{D:Nat}(h:Rest y D){t:Post.dN}(aT:t.off=y.a2.off):Rest { y with a2:=t } D:=⟨h.calm,fun i a e=>by show t.off i=false; rw[aT]; exact h.on i a e⟩
def lx(k i:Int):aN:=⟨⟨k,i,0,0,⟨0,0,0,0⟩,fN,fN⟩,[],[]⟩
theorem DE(k i:Int):tz (lx k i).x:=⟨by show -9223372036854775808≤(0:Int)∧(0:Int)≤_; omega⟩
theorem amC(y:bF)(i:Int):gD y (lx 7 i)=n4 y i false:=by
 have l:(bits .and .i64 0 1==1)=false:=by kernel_rfl
 have bb:gD y (lx 7 i)=n4 y i (bits .and .i64 0 1==1):=by unfold gD; rfl
 rw[bb,l]
theorem amB(y:bF)(i:Int):gD y (lx 8 i)=pL y i 0 []:=by unfold gD; rfl
theorem amE(y:bF)(i:Int):gD y (lx 10 i)=((nX y i).1,max (nX y i).2 0):=by unfold gD; rfl
theorem amD(y:bF)(i:Int):gD y (lx 11 i)=uq y i:=by unfold gD; rfl
theorem YF(y:bF)(i:Int):gD y (lx 3 i)=qL y i:=by unfold gD; rfl
theorem YD(y:bF)(i:Int):gD y (lx 4 i)=pN y i:=by unfold gD; rfl
section
variable {k:Nat} {y:bF} {az:List ft}
theorem aGO{D:Nat}(h:k_ k y az)(aa:Rest y D)(bT:D<az.length):Rest (n4 y D false).1 D∧(n4 y D false).1.a2.off D=false∧(n4 y D false).1.N=y.N:=by
 have al:=h.len;have cK:y.a2.has D=true:=by unfold Post.dN.has; rw[h.Cq]; simp; omega
 have l:n4 y D false=({ y with a2:={ y.a2 with off:=fun S=>if S==(D:Int) then false else y.a2.off S } },0):=by
  unfold n4;rw[if_neg (by omega),if_pos cK]
 rw[l];refine⟨⟨aa.calm,fun i a e=>?_⟩,?_,rfl⟩
 ·show (if i==(D:Int) then false else y.a2.off i)=false
  split
  ·rfl
  ·exact aa.on i a e
 ·show (if (D:Int)==(D:Int) then false else y.a2.off D)=false
  simp
theorem aGN{D:Nat}(h:k_ k y az)(aa:Rest y D)(bT:D<az.length):(pL y D 0 []).2=0∧Rest (pL y D 0 []).1 D∧(pL y D 0 []).1.a2=y.a2∧∃ b,(pL y D 0 []).1.N[D]?=some b∧b.K.et=0:=by
 have al:=h.len;have a5:y.N[((D:Nat):Int).toNat]?=some (y.N[D]'(by omega)):=by rw[Int.toNat_natCast]; exact List.getElem?_eq_getElem (by omega)
 unfold pL;rw[zs (by omega) a5,Int.toNat_natCast];refine⟨rfl,LW aa (by omega),rfl,?_⟩;refine⟨{ y.N[D]'(by omega) with K:={ (y.N[D]'(by omega)).K with et:=max 0 0,bI:=[] } },?_,by show max (0:Int) 0=0; omega⟩;exact List.getElem?_set_self (by omega)
theorem aGS{D:Nat}(h:k_ k y az)(aa:Rest y D)(bT:D<az.length)(aj:y.a2.off D=false)(Y:∃ b,y.N[D]?=some b∧b.K.et=0):max (nX y D).2 0=0∧Rest (nX y D).1 (D+1):=by
 obtain⟨b,a5,Y⟩:=Y;obtain⟨g,O,a_⟩:=h.sZ a5;have ri:y.N[((D:Nat):Int).toNat]?=some b:=by rw[Int.toNat_natCast]; exact a5
 unfold nX;rw[zs (by omega) ri,Int.toNat_natCast];have U:=aln (f:=y.eH.gP) Y;obtain⟨cP,_,_,bN⟩:=Rv h.eR a_;refine⟨?_,?_⟩
 ·rcases bN with ⟨_,ag⟩ | ⟨ah,_⟩
  ·rw[U.2] at ag; cases ag
  ·simp only; rw[ah]; omega
 ·refine⟨fun i eS ay rj=>?_,fun i a e=>?_⟩
  ·have rj:(y.N.set D (o0 y.eH.gP b).1)[i]?=some eS:=rj;by_cases l:D=i
   ·subst l;rw[List.getElem?_set_self (by have:=(List.getElem?_eq_some_iff.1 a5).1; omega)] at rj;cases rj;exact U
   ·rw[List.getElem?_set_ne l] at rj;exact aa.calm i eS (by omega) rj
  ·by_cases l:i=D
   ·subst l; exact aj
   ·exact aa.on i a (by omega)
theorem SE(h:k_ k y az)(aa:Rest y az.length){i:Int}(ah:0≤i)(I:i<az.length):∃ b g,y.N[i.toNat]?=some b∧az[i.toNat]?=some g∧b.K.down=false∧Calm b.K∧eP y.eH.gP az.length i.toNat k (lf az) (fun _=>True) b g:=by
 have al:=h.len;have a5:y.N[i.toNat]?=some (y.N[i.toNat]'(by omega)):=List.getElem?_eq_getElem (by omega);obtain⟨g,O,a_⟩:=h.sZ a5;have U:=aa.calm _ _ (by omega) a5;exact⟨_,g,a5,O,U.2,U,a_⟩
theorem aGQ(h:k_ k y az)(aa:Rest y az.length){i:Int}(ah:0≤i)(I:i<az.length):(uq y i).2=0∧Rest (uq y i).1 az.length:=by
 obtain⟨b,g,a5,O,ag,U,a_⟩:=SE h aa ah I;unfold uq;rw[p2 ah a5 ag];exact⟨rfl,LW aa fun _=>U⟩
theorem aHn{a2:Post.dN}{f t:Int}{o:hZ}:(a2.send f t o).1.off=a2.off:=by
 unfold Post.dN.send Post.dN.put
 repeat' split
 all_goals rfl
theorem aeV{i:Int}:∀ {out:List qh} {a2:Post.dN},(sA a2 i out).off=a2.off
 |[],a2=>rfl
 |s::out,a2=>(aeV (i:=i) (out:=out) (a2:=(a2.send i s.ij s.o).1)).trans aHn
theorem aGR(h:k_ k y az)(aa:Rest y az.length){i:Int}(ah:0≤i)(I:i<az.length):(qL y i).2=0∧Rest (qL y i).1 az.length:=by
 obtain⟨b,g,a5,O,ag,U,a_⟩:=SE h aa ah I;obtain⟨cP,_,_,bN⟩:=Ru a_ ag;have aH:=alm U;have l:(nu b).2=0:=by
  rcases bN with ⟨_,BV⟩ | ⟨l,_⟩
  ·rw[aH.2] at BV; cases BV
  ·exact l
 unfold qL;rw[if_neg (by rw[XO ah a5 ag]; simp),p2 ah a5 ag];simp only;rw[if_pos l];refine⟨l,?_⟩;exact (LW aa fun _=>aH).a2 aeV
theorem aGP(h:k_ k y az)(aa:Rest y az.length)(aM:0<y.a2.m.length):(pN y 0).2=0∧Rest (pN y 0).1 az.length∧(pN y 0).1.a2.m.length+1=y.a2.m.length:=by
 have F:y.a2.m[(0:Int).toNat]?=some (y.a2.m[0]'aM):=List.getElem?_eq_getElem (by simpa using aM);have Y:=y.a2.Jt (Int.le_refl 0) F;obtain⟨_,am,aT⟩:=h.a2 _ (List.getElem_mem aM);generalize y.a2.m[0]'aM=x at Y am aT;have l:y.a2.take 0=({ y.a2 with m:=y.a2.m.eraseIdx 0 },x,0):=by
  unfold Post.dN.take;rw[Y];simp only;rw[if_neg (by simp),if_neg (by rw[aa.on _ am.1 am.2,aa.on _ aT.1 aT.2]; simp)];rfl
 obtain⟨b,g,a5,O,ag,U,a_⟩:=SE h aa aT.1 aT.2;unfold pN;rw[l,if_neg (by simp)];simp only;rw[p2 (y:={ y with a2:={ y.a2 with m:=y.a2.m.eraseIdx 0 } }) aT.1 a5 ag];refine⟨rfl,?_,?_⟩
 ·exact LW (y:={ y with a2:={ y.a2 with m:=y.a2.m.eraseIdx 0 } }) (aa.a2 rfl) fun _=>alk U
 ·show (y.a2.m.eraseIdx 0).length+1=_
  rw[List.length_eraseIdx,if_pos aM];omega
end
def qx(y:bF)(cy:List aN):bF:=cy.foldl (fun y a=>(gD y a).1) y
theorem RW(y:bF)(cy:List aN)(a:aN):qx y (cy++[a])=(gD (qx y cy) a).1:=by unfold qx; rw[List.foldl_append]; rfl
def qU(cy:List aN):Prop:=∀ a∈cy,tz a.x
theorem qU.snoc{cy:List aN}{a:aN}(h:qU cy)(Y:tz a.x):qU (cy++[a]):=fun e ao=>by
 rcases List.mem_append.1 ao with ao | ao
 ·exact h e ao
 ·rw[List.mem_singleton.1 ao]; exact Y
theorem qU.mo{cy aw:List aN}(h:qU cy)(fG:qU aw):qU (cy++aw):=fun e ao=>by
 rcases List.mem_append.1 ao with ao | ao
 ·exact h e ao
 ·exact fG e ao
theorem zG.trans{dx ef:Nat}{y kS N9:bF}{az:List ft}(h:zG dx kS y az)(f:∀ lq,lq.length=az.length→k_ dx kS lq→zG ef N9 kS lq):zG ef N9 y az:=by
 obtain⟨lq,a,e,c,d,m,l⟩:=h;obtain⟨we,a1,ek,bK,d2,c4,bb⟩:=f lq c a;exact⟨we,a1,gM.le_trans e ek,bK.trans c,d2.trans d,m++c4,by rw[bb,l,List.append_assoc]⟩
theorem BD:∀ {cy:List aN} {k:Nat} {y:bF} {az:List ft},k_ k y az→qU cy→k+2*cy.length≤49000→zG (k+2*cy.length) (qx y cy) y az
 |[],k,y,az,h,_,_=>h.k1 (Nat.le_refl _)
 |a::cy,k,y,az,h,ok,aq=>by
  rw[List.length_cons] at aq ⊢;refine zG.trans (OI h (by omega) (ok a (List.mem_cons_self ..))) fun lq al I=>?_;have:=BD (cy:=cy) I (fun e ao=>ok e (List.mem_cons_of_mem _ ao)) (by omega);rw[show k+2*(cy.length+1)=k+2+2*cy.length from by omega];exact this
def uM(s:af)(cy:List aN)(aZ:cD):Prop:=dd lg s (cy.map (·.x)) aZ∧∀ p∈cy,(p.x.N.len≤p.x.N.cap∧dd (B .i64) p.x.N p.N aZ)∧p.x.gO.len≤p.x.gO.cap∧dd (B .i64) p.x.gO p.ab aZ
theorem uM.mono{s:af}{cy:List aN}{aZ ho:cD}(h:cD.le aZ ho):uM s cy aZ→uM s cy ho:=fun ⟨I,R⟩=>⟨dd.mono h I,fun p aF=>⟨⟨(R p aF).1.1,dd.mono h (R p aF).1.2⟩,(R p aF).2.1,dd.mono h (R p aF).2.2⟩⟩
theorem abT{P:qT→aN→Prop}:∀ {xs:List qT},(∀ x∈xs,∃ S:aN,S.x=x∧P x S)→∃ eT:List aN,eT.map (·.x)=xs∧∀ p∈eT,P p.x p
 |[],_=>⟨[],rfl,fun p h=>by cases h⟩
 |x::xs,h=>by
  obtain⟨S,aB,aF⟩:=h x (List.mem_cons_self ..);obtain⟨eT,I,R⟩:=abT fun x F=>h x (List.mem_cons_of_mem _ F);refine⟨S::eT,by rw[List.map_cons,I,aB],fun p ba=>?_⟩;rcases List.mem_cons.1 ba with rfl | ba
  ·rw[aB]; exact aF
  ·exact R p ba
theorem XI{A:World}{x:qT}(g:F6 A x):∃ S:aN,S.x=x∧tz x∧(x.N.len≤x.N.cap∧dd (B .i64) x.N S.N fun e=>A.heap[e]?)∧x.gO.len≤x.gO.cap∧dd (B .i64) x.gO S.ab fun e=>A.heap[e]?:=by
 obtain⟨_,_,_,aoy,_,⟨bx,xs,_,g2⟩,⟨bK,gX,_,bA⟩⟩:=g;exact⟨⟨x,xs,gX⟩,rfl,⟨aoy⟩,⟨bx.1,g2⟩,bK.1,bA⟩
theorem Gi{A:World}{s:af}(g:tC A s):∃ cy,qU cy∧uM s cy fun e=>A.heap[e]?:=by
 obtain⟨_,xs,I,R⟩:=g;obtain⟨eT,l,aF⟩:=abT (P:=fun (x:qT) (S:aN)=>tz x∧(x.N.len≤x.N.cap∧dd (B .i64) x.N S.N fun e=>A.heap[e]?)∧x.gO.len≤x.gO.cap∧dd (B .i64) x.gO S.ab fun e=>A.heap[e]?) (xs:=xs) fun x F=>XI (I x F);exact⟨eT,fun a Y=>(aF a Y).1,by rw[l]; exact R,fun p ba=>(aF p ba).2⟩
theorem w2(A:World):ca [old A] fun aZ=>cD.le (fun e=>A.heap[e]?) aZ:=ca.here (o:=fun h k=>cD.le_trans k h)
theorem HG{A:World}{m:List bE}{s:af}{cy:List aN}(k:ca m fun aZ=>cD.le (fun e=>A.heap[e]?) aZ)(h:uM s cy fun e=>A.heap[e]?):ca m (uM s cy):=k.imp fun _ a_=>uM.mono a_ h
theorem S8(x S:Told):bk.cB x S=true↔x=S:=by
 obtain⟨a,e,c⟩:=x;obtain⟨d,l,f⟩:=S;unfold bk.cB;simp only[Bool.and_eq_true,beq_iff_eq,bk.mk.injEq,and_assoc,and_true]
section
variable {A w:World} {m bX:List bE}
theorem IB{s u:af}{aQ aV:List Told}(pg:aQ.length≤1000000000000)(uh:ca m (dd is s aQ))(An:ca m (dd is u aV))(H:E A m w):M Pg 17 [X.enc s,X.enc u] bo w fun r J=>(aQ=aV→r=true)∧E A m J:=by
 have aS:=uh.len H;have bb:=An.len H;refine ahy ?_;unfold UR;rw[aS,bb];by_cases al:aQ.length=aV.length
 ·rw[if_neg (by simp[al])];refine vy (fun i w=>0≤i∧i≤aQ.length∧E A m w) (fun i=>((aQ.length:Int)-i).toNat) ⟨Int.le_refl 0,by omega,H⟩ ?_;rintro i w ⟨ah,I,H⟩;unfold M4;rw[aS];split
  ·rename_i U;have U:i<aQ.length:=by simpa using U
   have wJ:IntKind.i64.wrap (i+1)=i+1:=wrap_i64 (by omega) (by omega);refine dy H fun w H=>?_;obtain⟨a,Y⟩:=uh.iH (ar:=3) H ah U;obtain⟨e,ao⟩:=An.iH (ar:=3) H ah (by omega);have F:aQ[i.toNat]?=some (aQ[i.toNat]'(by omega)):=List.getElem?_eq_getElem (by omega);have aB:aV[i.toNat]?=some (aV[i.toNat]'(by omega)):=List.getElem?_eq_getElem (by omega);generalize aQ[i.toNat]'(by omega)=x at F;generalize aV[i.toNat]'(by omega)=S at aB;refine aR a Y ?_;refine aR e ao ?_;refine aR x (uh.rd (fun _=>rfl) Y F H) ?_;refine aR S (An.rd (fun _=>rfl) ao aB H) ?_;by_cases l:x=S
   ·rw[if_neg (by rw[(S8 x S).2 l]; simp),wJ];exact⟨⟨by omega,by omega,H⟩,by omega⟩
   ·rw[if_pos (by rw[Bool.not_eq_true']; exact Bool.eq_false_iff.2 fun h=>l ((S8 x S).1 h))];refine⟨fun h=>?_,H⟩;rw[h,aB] at F;cases F;exact absurd rfl l
  ·exact⟨fun _=>rfl,H⟩
 ·rw[if_pos (by simp; omega)];exact⟨fun h=>absurd (congrArg List.length h) al,H⟩
end
def nx(ki:bF)(o:Nat)(y:bF):Prop:=∃ aw,qU aw∧aw.length≤o∧y=qx ki aw
theorem nx.zero(ki:bF):nx ki 0 ki:=⟨[],fun a h=>(by cases h),Nat.le_refl _,rfl⟩
theorem nx.act{ki y:bF}{o:Nat}(h:nx ki o y){a:aN}(ok:tz a.x):nx ki (o+1) (gD y a).1:=by
 obtain⟨aw,I,R,rfl⟩:=h;exact⟨aw++[a],I.snoc ok,by simp; omega,(RW ..).symm⟩
theorem nx.mono{ki y:bF}{o yU:Nat}(h:nx ki o y)(hm:o≤yU):nx ki yU y:=by
 obtain⟨aw,I,R,aK⟩:=h;exact⟨aw,I,by omega,aK⟩
theorem nx.k1{ki y:bF}{o k:Nat}{az:List ft}(h:nx ki o y)(ah:k_ k ki az)(aq:k+2*o≤49000):zG (k+2*o) y ki az:=by
 obtain⟨aw,I,R,rfl⟩:=h;obtain⟨ml,a,e⟩:=BD ah I (by omega);exact⟨ml,a.mono (by omega),e⟩
theorem nx.ci{ki y:bF}{o k:Nat}{az:List ft}(h:nx ki o y)(ah:k_ k ki az)(aq:k+2*o≤49000):∃ ml,k_ (k+2*o) y ml∧ml.length=az.length:=by
 obtain⟨ml,a,_,e,_⟩:=h.k1 ah aq;exact⟨ml,a,e⟩
section
variable {A w:World} {m bX:List bE}
theorem SN{au k:Nat}{ki:bF}{az:List ft}(ah:k_ k ki az)(aq:k≤2000)(H:E A (cn au ki::m) w):M Pg 11 [.pointer (some ⟨au,0,none⟩),.int .i64 (az.length:Int)] bo w fun r J=>r=true∧∃ y,nx ki 20000 y∧Rest y az.length∧E A (cn au y::m) J:=by
 have aM:=ah.pos;refine agF ?_;unfold TZ;refine ia (fun i w=>∃ D:Nat,i=(D:Int)∧D≤az.length∧∃ y,nx ki (3*D) y∧Rest y D∧E A (cn au y::m) w) (fun i=>((az.length:Int)-i).toNat) ⟨0,rfl,by omega,ki,nx.zero ki,⟨fun i b ay=>absurd ay (by omega),fun i a e=>absurd e (by omega)⟩,H⟩ ?_;clear H;rintro i w ⟨D,rfl,bT,y,iV,jE,H⟩ ab cg;unfold MI;split
 ·rename_i U;have U:D<az.length:=by
   have:(D:Int)<az.length:=by simpa using U
   omega
  have aS:IntKind.i64.wrap ((D:Int)+1)=((D+1:Nat):Int):=by rw[wrap_i64 (by omega) (by omega)]; omega
  obtain⟨lq,a_,al⟩:=iV.ci ah (by omega);refine ap (Yk (a_.ok (by omega)) H) ?_;rintro r w ⟨_,H⟩;obtain⟨z1,Ac,_⟩:=aGO a_ jE (by omega);have wN:=iV.act (DE 7 D);rw[amC] at wN;generalize (n4 y D false).1=kS at *;clear a_;obtain⟨lq,a_,al⟩:=wN.ci ah (by omega);refine ap (XM (bI:=[]) (a_.ok (by omega)) L2 (by simp) H) ?_;rintro r w ⟨aa,H⟩;obtain⟨bN,J7,Em,a5⟩:=aGN a_ z1 (by omega);have D8:=wN.act (DE 8 D);rw[amB] at D8;rw[bN] at aa;subst aa;rw[← Em] at Ac;generalize (pL kS D 0 []).1=N9 at *;clear a_;obtain⟨lq,a_,al⟩:=D8.ci ah (by omega);rw[if_neg (by simp)];refine ap (afH (a_.ok (by omega)) a_.c3 H) ?_;rintro r w ⟨aa,H⟩;obtain⟨bN,D_⟩:=aGS a_ J7 (by omega) Ac a5;have z0:=D8.act (DE 10 D);rw[amE] at z0;rw[bN] at aa;subst aa;unfold IV;rw[if_neg (by simp),aS];exact cg _ _ ⟨D+1,rfl,by omega,_,z0.mono (by omega),D_,H⟩ (by omega)
 ·rename_i U;have U:D=az.length:=by
   have:¬ (D:Int)<az.length:=by simpa using U
   omega
  subst U
  replace iV:=iV.mono (yU:=24) (by omega)
  refine ia (fun i w=>∃ r:Nat,i=(r:Int)∧r≤14∧∃ y,nx ki (24+r*1016) y∧Rest y az.length∧E A (cn au y::m) w) (fun i=>((14:Int)-i).toNat) ⟨0,rfl,by omega,y,iV.mono (by omega),jE,H⟩ ?_;clear cg ab iV jE H;clear y;rintro i w ⟨r,rfl,aa,y,iV,jE,H⟩ ab cg;unfold MJ;split
  ·rename_i U;have U:r<14:=by
    have:(r:Int)<14:=by simpa using U
    omega
   have GL:IntKind.i64.wrap ((r:Int)+1)=((r+1:Nat):Int):=by rw[wrap_i64 (by omega) (by omega)]; omega
   refine ia (fun i w=>∃ D:Nat,i=(D:Int)∧D≤az.length∧∃ y,nx ki (24+r*1016+2*D) y∧Rest y az.length∧E A (cn au y::m) w) (fun i=>((az.length:Int)-i).toNat) ⟨0,rfl,by omega,y,iV.mono (by omega),jE,H⟩ ?_;clear iV jE H;clear y;rintro i w ⟨D,rfl,bT,y,iV,jE,H⟩ F7 t_;unfold MK;split
   ·rename_i U;have U:D<az.length:=by
     have:(D:Int)<az.length:=by simpa using U
     omega
    have aS:IntKind.i64.wrap ((D:Int)+1)=((D+1:Nat):Int):=by rw[wrap_i64 (by omega) (by omega)]; omega
    obtain⟨lq,a_,al⟩:=iV.ci ah (by omega);rw[← al] at jE;refine ap (acd (a_.ok (by omega)) H) ?_;rintro q w ⟨ba,H⟩;obtain⟨bN,z1⟩:=aGQ a_ jE (i:=(D:Int)) (by omega) (by omega);have wN:=iV.act (DE 11 D);rw[amD] at wN;rw[bN] at ba;subst ba;generalize (uq y D).1=kS at *;rw[al] at z1;clear a_;obtain⟨lq,a_,al⟩:=wN.ci ah (by omega);rw[← al] at z1;rw[if_neg (by simp)];refine ap (SY (a_.ok (by omega)) H) ?_;rintro q w ⟨ba,H⟩;obtain⟨bN,J7⟩:=aGR a_ z1 (i:=(D:Int)) (by omega) (by omega);have D8:=wN.act (DE 3 D);rw[YF] at D8;rw[bN] at ba;subst ba;rw[al] at J7;unfold IW;rw[if_neg (by simp),aS];exact t_ _ _ ⟨D+1,rfl,by omega,_,D8.mono (by omega),J7,H⟩ (by omega)
   ·rename_i U;have U:D=az.length:=by
     have:¬ (D:Int)<az.length:=by simpa using U
     omega
    subst U;obtain⟨lq,a_,al⟩:=iV.ci ah (by omega);have mP:=a_.tj;refine EA (fun n _ w=>∃ y,y.a2.m.length=n∧n≤1000∧nx ki (24+r*1016+2*az.length+(1000-n)) y∧Rest y az.length∧E A (cn au y::m) w) y.a2.m.length ⟨y,rfl,mP,iV.mono (by omega),jE,H⟩ ?_;clear iV jE H mP a_ al t_;clear y lq;rintro n _ w ⟨y,aM,B3,iV,jE,H⟩ aJU aoU;obtain⟨lq,a_,al⟩:=iV.ci ah (by omega);unfold ML;refine ap (KV (a_.ok (by omega)) H) ?_;intro q w H;have ba:=gG H;rw[ba];split
    ·rename_i U;have U:0<y.a2.m.length:=by
      have:(0:Int)<y.a2.m.length:=by simpa using U
      omega
     refine ap (OP (a_.ok (by omega)) H.drop) ?_;rintro q w ⟨ba,H⟩;rw[← al] at jE;obtain⟨bN,z1,hi⟩:=aGP a_ jE U;have wN:=iV.act (DE 4 0);rw[YD] at wN;rw[bN] at ba;subst ba;rw[al] at z1;rw[if_neg (by simp)];exact aoU _ _ _ (by omega) ⟨_,rfl,by omega,wN.mono (by omega),z1,H⟩
    ·rw[GL];exact cg _ _ ⟨r+1,rfl,by omega,y,iV.mono (by omega),jE,H.drop⟩ (by omega)
  ·exact⟨rfl,y,iV.mono (by omega),jE,H⟩
end
end Cluster
namespace Audit
open bj
section
variable {A w:World} {m:List bE}
def gF(k:Int):Int:=if k<4096 then 1000000000000000 else 4611686018427387904
theorem aC7(H:E A m w)(k:Int):M Pg 123 [.int .i64 k] (B .i64) w fun r J=>r=gF k∧E A m J:=by
 refine agJ ?_;unfold Ub gF;split
 ·rename_i h; rw[if_pos (by simpa using h)]; exact⟨rfl,H⟩
 ·rename_i h; rw[if_neg (by simpa using h)]; exact⟨rfl,H⟩
def mB(es:List (Int×Int))(sum:Int)(x:fK):Int:=
 if x.Key<0∨x.Key≥8192 then 181 else if (es.lookup x.Key).isSome=true then 182 else if x.V<0∨x.V>gF x.Key then 183 else if x.V>4611686018427387904-sum then 184 else 0
def vw(e3 aw r:Nat)(es:List (Int×Int))(sum:Int):List bE:=[aJ e3 [.map (some r)] 146,aJ aw [.int .i64 sum] 2,dh (B .i64) .i64 r es]
theorem S4{e3 aw r:Nat}{es:List (Int×Int)}{sum:Int}(ah:0≤sum)(I:sum≤4611686018427387904)(x:fK)(H:E A (vw e3 aw r es sum++m) w) :
  M Pg 122 [h2.enc x,.pointer (some ⟨e3,0,none⟩),.pointer (some ⟨aw,0,none⟩)] (B .i64) w fun l J=>l=mB es sum x ∧
   E A (vw e3 aw r (if mB es sum x=0 then eZ x.Key x.V es else es) (if mB es sum x=0 then sum+x.V else sum)++m) J:=by
 have H:E A (aJ e3 [.map (some r)] 146::aJ aw [.int .i64 sum] 2::dh (B .i64) .i64 r es::m) w:=H;refine agI ?_;unfold Ua;refine bR H fun e dL H=>?_;refine ak (x:=some r) 1 H rfl rfl rfl ?_;refine ak (x:=x.Key) 0 H rfl rfl rfl ?_;refine mw 3 H rfl rfl ?_;refine ak (x:=x.Key) 0 H rfl rfl rfl ?_;refine aR x.Key (fun _=>bO (B .i64) H rfl rfl) ?_;by_cases bx:x.Key<0∨x.Key≥8192
 ·have l:mB es sum x=181:=by unfold mB; rw[if_pos bx]
  rw[if_pos (by simpa using bx),l];exact⟨rfl,H.drop⟩
 rw[if_neg (by simpa using bx)];by_cases bK:(es.lookup x.Key).isSome=true
 ·have l:mB es sum x=182:=by unfold mB; rw[if_neg bx,if_pos bK]
  rw[if_pos bK,l];exact⟨rfl,H.drop⟩
 rw[if_neg bK];refine dy H fun cG H=>?_;refine ak (x:=x.V) 0 H rfl rfl rfl ?_;have tail:∀ (q:Bool) (cG:World),q=(decide (x.V<0)||decide (x.V>gF x.Key))→E A (aJ e (h2.cells x) 87::aJ e3 [.map (some r)] 146::aJ aw [.int .i64 sum] 2::dh (B .i64) .i64 r es::m) cG →
   Fs ⟨e3,0,none⟩ ⟨aw,0,none⟩ ⟨e,0,none⟩ q cG fun l J=>l=mB es sum x ∧
    E A (vw e3 aw r (if mB es sum x=0 then eZ x.Key x.V es else es) (if mB es sum x=0 then sum+x.V else sum)++m) J:=by
  intro q cG ba H;unfold Fs;by_cases ck:x.V<0∨x.V>gF x.Key
  ·have l:mB es sum x=183:=by unfold mB; rw[if_neg bx,if_neg bK,if_pos ck]
   rw[if_pos (by rw[ba]; simpa using ck),l];exact⟨rfl,H.drop⟩
  rw[if_neg (by rw[ba]; simpa using ck)];refine ak (x:=x.V) 0 H rfl rfl rfl ?_;refine ak (x:=sum) 2 H rfl rfl rfl ?_;have wJ:IntKind.i64.wrap (4611686018427387904-sum)=4611686018427387904-sum:=wrap_i64 (by omega) (by omega);rw[wJ];by_cases fv:x.V>4611686018427387904-sum
  ·have l:mB es sum x=184:=by unfold mB; rw[if_neg bx,if_neg bK,if_neg ck,if_pos fv]
   rw[if_pos (by simpa using fv),l];exact⟨rfl,H.drop⟩
  have l:mB es sum x=0:=by unfold mB; rw[if_neg bx,if_neg bK,if_neg ck,if_neg fv]
  rw[if_neg (by simpa using fv),l];refine dy H fun bl H=>?_;refine ak (x:=some r) 1 H rfl rfl rfl ?_;refine ak (x:=x.Key) 0 H rfl rfl rfl ?_;refine ak (x:=x.V) 0 H rfl rfl rfl ?_;refine ak (x:=sum) 2 H rfl rfl rfl ?_;refine ak (x:=x.V) 0 H rfl rfl rfl ?_;refine sf 3 H rfl rfl fun aY H=>?_;refine⟨bO (B .i64) (H.front 3) rfl rfl,?_⟩;refine⟨bO (B .i64) (H.front 1) rfl rfl,?_⟩;have JV:IntKind.i64.wrap (sum+x.V)=sum+x.V:=wrap_i64 (by omega) (by omega);rw[JV];refine dK (x:=sum+x.V) 3 H rfl rfl (Nat.le_of_ble_eq_true rfl) fun bc H=>?_;exact⟨rfl,(H.ord [2,3,0,1]).drop⟩
 split
 ·rename_i ck;exact tail true _ (by simp at ck; simp[ck]) H
 ·rename_i ck;refine ak (x:=x.V) 0 H rfl rfl rfl ?_;refine ak (x:=x.Key) 0 H rfl rfl rfl ?_;refine ap (aC7 H _) ?_;rintro q bl ⟨rfl,H⟩;refine⟨bO (B .i64) H rfl rfl,?_⟩;refine⟨bO (B .i64) H rfl rfl,?_⟩;exact tail _ _ (by rw[show decide (x.V<0)=false from by simpa using ck]; rfl) H
end
section
variable {A w:World} {m:List bE}
def uQ(s:af)(an:List (mL×List fK))(aZ:cD):Prop:=dd qj s (an.map (·.1)) aZ∧∀ p∈an,dd h2 p.1.N p.2 aZ
theorem uQ.mono{s:af}{an:List (mL×List fK)}{aZ ho:cD}(h:cD.le aZ ho):uQ s an aZ→uQ s an ho:=fun ⟨I,R⟩=>⟨dd.mono h I,fun p aF=>dd.mono h (R p aF)⟩
def nU(s:af)(an:List (mL×List fK)):bE:=r1 (uQ s an) uQ.mono
theorem Il{s:af}{an:List (mL×List fK)}(H:E A (nU s an::m) w):E A (ro qj s (an.map (·.1))::nU s an::m) w:=
 E.QO (o:=uQ.mono) (fun aZ h=>h.1) (E.dup (o:=uQ.mono) H)
theorem aeF{s:af}{an:List (mL×List fK)}{p:mL×List fK}(aF:p∈an)(H:E A (nU s an::m) w):E A (ro h2 p.1.N p.2::nU s an::m) w:=
 E.QO (o:=uQ.mono) (fun aZ h=>h.2 p aF) (E.dup (o:=uQ.mono) H)
def fz:List (Int×Int)→Int→List fK→List (Int×Int)×Int×Int
 |es,sum,[]=>(es,sum,0)
 |es,sum,x::xs=>if mB es sum x=0 then fz (eZ x.Key x.V es) (sum+x.V) xs else (es,sum,mB es sum x)
theorem J3(es:List (Int×Int))(sum:Int)(xs gX:List fK):fz es sum (xs++gX)=if (fz es sum xs).2.2=0 then fz (fz es sum xs).1 (fz es sum xs).2.1 gX else fz es sum xs:=by
 induction xs generalizing es sum with
 |nil=>simp[fz]
 |cons x xs cq=>
  simp only[List.cons_append,fz];split
  ·exact cq _ _
  ·rfl
end
section
variable {A w:World} {m:List bE}
def D6(sum:Int):Prop:=0≤sum∧sum≤4611686018427387904
theorem aoB{es:List (Int×Int)}{sum:Int}{x:fK}(O:D6 sum)(h:mB es sum x=0):D6 (sum+x.V):=by
 obtain⟨ah,I⟩:=O;unfold mB at h;split at h
 ·omega
 ·split at h
  ·omega
  ·split at h
   ·omega
   ·split at h
    ·omega
    ·constructor<;>omega
theorem ZK{xs:List fK}:∀ {es:List (Int×Int)} {sum:Int},D6 sum→D6 (fz es sum xs).2.1:=by
 induction xs with
 |nil=>intro es sum h; exact h
 |cons x xs cq=>
  intro es sum h;simp only[fz];split
  ·rename_i hw; exact cq (aoB h hw)
  ·exact h
abbrev afq(e3 aw:Nat):cw:=cw.mk (.func 122) (List.toArray []) (List.toArray [.pointer (some ⟨e3,0,none⟩),.pointer (some ⟨aw,0,none⟩)])
theorem aoA{es:List (Int×Int)}{sum:Int}{N:List fK}{i:Nat}{x:fK}(F:N[i]?=some x)(h:(fz es sum (N.take i)).2.2=0) :
  fz es sum (N.take (i+1))=if mB (fz es sum (N.take i)).1 (fz es sum (N.take i)).2.1 x=0 then (eZ x.Key x.V (fz es sum (N.take i)).1,(fz es sum (N.take i)).2.1+x.V,0) else ((fz es sum (N.take i)).1,(fz es sum (N.take i)).2.1,mB (fz es sum (N.take i)).1 (fz es sum (N.take i)).2.1 x):=by
 obtain⟨ay,rfl⟩:=List.getElem?_eq_some_iff.1 F;rw[List.take_succ_eq_append_getElem ay,J3,if_pos h];simp only[fz]
theorem aoz{es:List (Int×Int)}{sum:Int}{N:List fK}{i:Nat}(h:(fz es sum (N.take i)).2.2≠0):fz es sum N=fz es sum (N.take i):=by
 conv=>lhs; rw[← List.take_append_drop i N]
 rw[J3,if_neg h]
theorem aEq{e3 aw r:Nat}{es:List (Int×Int)}{sum:Int}{pu:af}{N:List fK}{t3:Int}{gN:Int→World→Prop}{j:Int→World→Prop}(O:D6 sum)(hm:N.length≤1000000)
  (H:E A (vw e3 aw r es sum++(ro h2 pu N::m)) w)
  (dA:∀ J,(fz es sum N).2.2=0→E A (vw e3 aw r (fz es sum N).1 (fz es sum N).2.1++m) J→gN (IntKind.i64.wrap (t3+1)) J)
  (vm:∀ J,(fz es sum N).2.2≠0→E A (vw e3 aw r (fz es sum N).1 (fz es sum N).2.1++m) J→j (fz es sum N).2.2 J) :
  fh (fun (s:Int) w ab=>IX (afq e3 aw) t3 pu s w gN ab j) ((0:Int)) w:=by
 have aH:=E0 (H.front 3);refine vy (fun i w=>0≤i∧i≤N.length∧(fz es sum (N.take i.toNat)).2.2=0∧E A (vw e3 aw r (fz es sum (N.take i.toNat)).1 (fz es sum (N.take i.toNat)).2.1++(ro h2 pu N::m)) w) (fun i=>(N.length-i).toNat) ⟨Int.le_refl 0,by omega,rfl,H⟩ ?_;rintro i w ⟨ah,I,bN,H⟩;unfold IX;split
 ·rename_i U;have U:i<N.length:=by simp at U; omega
  have aS:IntKind.i64.wrap (i+1)=i+1:=wrap_i64 (by omega) (by omega);have F:N[i.toNat]?=some N[i.toNat]:=List.getElem?_eq_getElem (by omega);obtain⟨a,Y⟩:=ze (ar:=2) (i:=i) (H.front 3) ah U;refine aR a Y ?_;refine aR N[i.toNat] (AH (fun _=>rfl) Y F (H.front 3)) ?_;generalize N[i.toNat]=x at F;refine bR H fun e dL H=>?_;refine dK (x:=x) 0 H rfl rfl (Nat.le_of_ble_eq_true rfl) fun cG H=>?_;refine ak (x:=x) 0 H rfl rfl rfl ?_;have H:=(E.drop H)
  have kJ:=ZK (xs:=N.take i.toNat) (es:=es) O;have l5:=aoA F bN;refine⟨122,[.pointer (some ⟨e3,0,none⟩),.pointer (some ⟨aw,0,none⟩)],rfl,am3,ap (S4 kJ.1 kJ.2 x H) ?_⟩;rintro l bl ⟨rfl,H⟩;rw[show i.toNat+1=(i+1).toNat from by omega] at l5;split
  ·rename_i d_;have d_:mB (fz es sum (N.take i.toNat)).1 (fz es sum (N.take i.toNat)).2.1 x≠0:=by simpa using d_
   rw[if_neg d_] at l5;rw[if_neg d_,if_neg d_] at H;have rl:=aoz (es:=es) (sum:=sum) (N:=N) (i:=(i+1).toNat) (by rw[l5]; exact d_);rw[l5] at rl;have:=vm bl (by rw[rl]; exact d_) (by rw[rl]; exact ((H.front 3).drop));rw[rl] at this;exact this
  ·rename_i d_;have d_:mB (fz es sum (N.take i.toNat)).1 (fz es sum (N.take i.toNat)).2.1 x=0:=by simpa using d_
   rw[if_pos d_] at l5;rw[if_pos d_,if_pos d_] at H;rw[aS];exact⟨⟨by omega,by omega,by rw[l5],by rw[l5]; exact H⟩,by omega⟩
 ·rename_i U;have U:i=N.length:=by simp at U; omega
  subst U;have l:N.take ((N.length:Int)).toNat=N:=by simp
  rw[l] at bN H;exact dA w bN ((H.front 3).drop)
end
section
variable {A w:World} {m:List bE}
def flat(an:List (mL×List fK)):List fK:=an.flatMap (·.2)
theorem aks{e3 aw r:Nat}{es:List (Int×Int)}{sum:Int}{s:af}{an:List (mL×List fK)}(O:D6 sum)(hm:an.length≤100000)(G_:∀ p∈an,p.2.length≤100000)
  (H:E A (vw e3 aw r es sum++(nU s an::m)) w) :
  M Pg 121 [X.enc s,(afq e3 aw).enc] (B .i64) w fun l J=>l=(fz es sum (flat an)).2.2∧E A (vw e3 aw r (fz es sum (flat an)).1 (fz es sum (flat an)).2.1++(nU s an::m)) J:=by
 have aH:=E0 (Il (H.front 3));rw[List.length_map] at aH;refine agH ?_;unfold T_;refine vy (fun i w=>0≤i∧i≤an.length∧(fz es sum (flat (an.take i.toNat))).2.2=0∧E A (vw e3 aw r (fz es sum (flat (an.take i.toNat))).1 (fz es sum (flat (an.take i.toNat))).2.1++(nU s an::m)) w) (fun i=>(an.length-i).toNat) ⟨Int.le_refl 0,by omega,rfl,H⟩ ?_;rintro i w ⟨ah,I,bN,H⟩;unfold MN;split
 ·rename_i U;have U:i<an.length:=by simp at U; omega
  have aS:IntKind.i64.wrap (i+1)=i+1:=wrap_i64 (by omega) (by omega);have F:an[i.toNat]?=some an[i.toNat]:=List.getElem?_eq_getElem (by omega);have tb:=List.mem_of_getElem? F;have aT:flat (an.take (i+1).toNat)=flat (an.take i.toNat)++an[i.toNat].2:=by
   rw[show (i+1).toNat=i.toNat+1 from by omega,List.take_succ_eq_append_getElem (by omega)];unfold flat; rw[List.flatMap_append,List.flatMap_cons,List.flatMap_nil,List.append_nil]
  have rl:flat an=flat (an.take (i+1).toNat)++flat (an.drop (i+1).toNat):=by
   unfold flat; rw[← List.flatMap_append,List.take_append_drop]
  generalize an[i.toNat]=p at F tb aT;have QM:(an.map (·.1))[i.toNat]?=some p.1:=by rw[List.getElem?_map,F]; rfl
  have wg:=Il (H.front 3);obtain⟨a,Y⟩:=ze (ar:=2) (i:=i) wg ah (by rw[List.length_map]; omega);refine aR a Y ?_;refine aR p.1 (AH (fun _=>rfl) Y QM wg) ?_;refine bR H fun e dL H=>?_;refine dK (x:=p.1) 0 H rfl rfl (Nat.le_of_ble_eq_true rfl) fun cG H=>?_;refine ak (x:=p.1.N) 0 H rfl rfl rfl ?_;have H:=(E.drop H)
  have H:=aeF tb (H.front 3);have kJ:=ZK (xs:=flat (an.take i.toNat)) (es:=es) O;have Kv:fz es sum (flat (an.take (i+1).toNat))=fz (fz es sum (flat (an.take i.toNat))).1 (fz es sum (flat (an.take i.toNat))).2.1 p.2:=by
   rw[aT,J3,if_pos bN]
  refine aEq kJ (Nat.le_trans (G_ p tb) (by omega)) (m:=nU s an::m) (H.ord [2,3,4,0,1]) ?_ ?_
  ·intro bl Hx H;rw[← Kv] at Hx H;rw[aS];exact⟨⟨by omega,by omega,Hx,H⟩,by omega⟩
  ·intro bl Hx H;rw[← Kv] at Hx H ⊢;have:fz es sum (flat an)=fz es sum (flat (an.take (i+1).toNat)):=by rw[rl,J3,if_neg Hx]
   rw[this];exact⟨rfl,H⟩
 ·rename_i U;have U:i=an.length:=by simp at U; omega
  subst U;have l:an.take ((an.length:Int)).toNat=an:=by simp
  rw[l] at bN H;exact⟨bN.symm,H⟩
end
section
variable {A w:World} {m:List bE}
theorem aEz{e:Nat}{at_:Int}{s:af}{an:List (mL×List fK)}(hm:an.length≤100000)(H:E A (aJ e [.int .i64 at_] 2::nU s an::m) w) :
  M Pg 119 [X.enc s,(cw.mk (.func 120) (List.toArray []) (List.toArray [.pointer (some ⟨e,0,none⟩)])).enc] bo w fun q J=>q=an.any (fun p=>p.1.wa != at_)∧E A (aJ e [.int .i64 at_] 2::nU s an::m) J:=by
 have aH:=E0 (Il (H.front 1));rw[List.length_map] at aH;refine agE ?_;unfold T8;refine ahu ?_;unfold UX;refine vy (fun i w=>0≤i∧i≤an.length∧(∀ p∈an.take i.toNat,p.1.wa=at_)∧E A (aJ e [.int .i64 at_] 2::nU s an::m) w) (fun i=>(an.length-i).toNat) ⟨Int.le_refl 0,by omega,by simp,H⟩ ?_;rintro i w ⟨ah,I,R,H⟩;unfold M3;split
 ·rename_i U;have U:i<an.length:=by simp at U; omega
  have aS:IntKind.i64.wrap (i+1)=i+1:=wrap_i64 (by omega) (by omega);have F:an[i.toNat]?=some an[i.toNat]:=List.getElem?_eq_getElem (by omega);have tb:=List.mem_of_getElem? F;have QM:(an.map (·.1))[i.toNat]?=some an[i.toNat].1:=by rw[List.getElem?_map,F]; rfl
  have wg:=Il (H.front 1);obtain⟨a,Y⟩:=ze (ar:=2) (i:=i) wg ah (by rw[List.length_map]; omega);refine aR a Y ?_;refine aR an[i.toNat].1 (AH (fun _=>rfl) Y QM wg) ?_;refine⟨120,[.pointer (some ⟨e,0,none⟩)],rfl,am2,agG ?_⟩;unfold T9;refine bR H fun fp dL H=>?_;refine ak (x:=an[i.toNat].1.wa) 0 H rfl rfl rfl ?_;refine ak (x:=at_) 1 H rfl rfl rfl ?_;have H:=E.drop H;show if (an[i.toNat].1.wa != at_)=true then _ else _
  split
  ·rename_i hw;refine⟨?_,H⟩;have:an.any (fun p=>p.1.wa != at_)=true:=List.any_eq_true.2 ⟨_,tb,hw⟩;rw[this]; simp[ah]
  ·rename_i hw;rw[aS];refine⟨⟨by omega,by omega,?_,H⟩,by omega⟩;intro p aF;rw[show (i+1).toNat=i.toNat+1 from by omega,List.take_succ_eq_append_getElem (by omega),List.mem_append] at aF;rcases aF with aF | aF
   ·exact R p aF
   ·rw[List.mem_singleton.1 aF]; simpa using hw
 ·rename_i U;have U:i=an.length:=by simp at U; omega
  subst U;refine⟨?_,H⟩;have:an.any (fun p=>p.1.wa != at_)=false:=by
   rw[List.any_eq_false];intro p aF;simp[R p (by simpa using aF)]
  rw[this]; rfl
def rh(at_:Int)(an:List (mL×List fK)):Option (List (Int×Int))×Int×Int:=
 if (decide (at_<0)||decide (at_>1125899906842624)||an.any fun p=>p.1.wa != at_)=true then (none,0,180)
 else (some (fz [] 0 (flat an)).1,(fz [] 0 (flat an)).2.1,(fz [] 0 (flat an)).2.2)
theorem ama{at_:Int}{s:af}{an:List (mL×List fK)}(hm:an.length≤100000)(G_:∀ p∈an,p.2.length≤100000)(H:E A (nU s an::m) w) :
  M Pg 65 [.int .i64 at_,X.enc s] (mz eC (B .i64) (B .i64)) w fun q J=>q.2=(rh at_ an).2 ∧
   match (rh at_ an).1 with
   |none=>q.1=none∧E A (nU s an::m) J
   |some es=>∃ r,q.1=some r∧E A (dh (B .i64) .i64 r es::nU s an::m) J:=by
 refine ajg ?_;unfold WC;refine bR H fun e dL H=>?_;refine ak (x:=at_) 0 H rfl rfl rfl ?_;refine aR at_ (fun _=>bO (B .i64) H rfl rfl) ?_;have tail:∀ (q:Bool) (dL:World),q=(decide (at_<0)||decide (at_>1125899906842624)||an.any fun p=>p.1.wa != at_)→E A (aJ e [.int .i64 at_] 2::nU s an::m) dL →
   FU s q dL fun q J=>q.2=(rh at_ an).2 ∧
   match (rh at_ an).1 with
   |none=>q.1=none∧E A (nU s an::m) J
   |some es=>∃ r,q.1=some r∧E A (dh (B .i64) .i64 r es::nU s an::m) J:=by
  intro q dL ba H;unfold FU;cases ao:q with
  |true=>
   have l:rh at_ an=(none,0,180):=by unfold rh; rw[if_pos (by rw[← ba,ao])]
   rw[if_pos rfl,l];exact⟨rfl,rfl,H.drop⟩
  |false=>
   have l:rh at_ an=(some (fz [] 0 (flat an)).1,(fz [] 0 (flat an)).2.1,(fz [] 0 (flat an)).2.2):=by unfold rh; rw[if_neg (by rw[← ba,ao]; decide)]
   rw[if_neg (by decide),l];refine xc H fun r cG H=>?_;refine bR H fun e3 bl H=>?_;refine bR H fun aw aY H=>?_;refine dK (x:=some r) 1 H rfl rfl (Nat.le_of_ble_eq_true rfl) fun bc H=>?_;refine dK (x:=(0:Int)) 1 H rfl rfl (Nat.le_of_ble_eq_true rfl) fun b3 H=>?_;have H:=w9 (B .i64) .i64 (H.front 2);have H:E A (vw e3 aw r [] 0++(nU s an::aJ e [.int .i64 at_] 2::m)) b3:=(H.ord [2,1,0,4])
   refine ap (aks (es:=[]) (sum:=0) ⟨by omega,by omega⟩ hm G_ H) ?_;rintro gu bZ ⟨rfl,H⟩;refine dy H fun bJ H=>?_;refine ak (x:=some r) 0 H rfl rfl rfl ?_;refine ak (x:=(fz [] 0 (flat an)).2.1) 1 H rfl rfl rfl ?_;exact⟨rfl,r,rfl,(H.ord [2,3]).ord [2,3,4,0,1] |> fun H=>((H.drop).drop).drop⟩
 split
 ·rename_i U;refine tail true _ ?_ H;simp at U; rcases U with h | h<;>simp[h]
 ·rename_i U;refine ap (aEz hm H) ?_;rintro q cG ⟨rfl,H⟩;refine tail _ _ ?_ H;rw[show (decide (at_<0)||decide (at_>1125899906842624))=false from by simpa using U]; rfl
theorem u4{at_:Int}{s:af}{an:List (mL×List fK)}(hm:an.length≤100000)(G_:∀ p∈an,p.2.length≤100000)(H:E A (nU s an::m) w) :
  M Pg 27 [.int .i64 at_,X.enc s] (bB (B .i64) (B .i64)) w fun q J=>q=(if (rh at_ an).2.2=0 then ((rh at_ an).2.1,0) else (0,(rh at_ an).2.2))∧E A (nU s an::m) J:=by
 refine aiD ?_;unfold V2;refine ap (ama hm G_ H) ?_;rintro⟨gS,gu,AD⟩ w ⟨I,R⟩;have aK:gu=(rh at_ an).2.1:=congrArg Prod.fst I;have bp:AD=(rh at_ an).2.2:=congrArg Prod.snd I;subst aK; subst bp;have H:E A (nU s an::m) w:=by
  cases O:(rh at_ an).1 with
  |none=>rw[O] at R; exact R.2
  |some es=>
   rw[O] at R;obtain⟨r,_,H⟩:=R;exact H.drop
 simp only;by_cases c:(rh at_ an).2.2=0
 ·rw[if_neg (by simp[c]),if_pos c];exact⟨rfl,H⟩
 ·rw[if_pos (by simpa using c),if_neg c];exact⟨rfl,H⟩
end
end Audit
namespace Cluster
open bj Wire Disk Vault Clock Shard Num Store
def GM:rP:=⟨2,0,0,5⟩
def Om(k i n:Int):aN:=⟨⟨k,i,0,n,⟨0,0,0,0⟩,fN,fN⟩,[],[]⟩
def akm:aN:=⟨⟨2,0,0,0,⟨1,0,1,40⟩,fN,fN⟩,[],[]⟩
def h8:List aN:=[Om 1 0 100,Om 1 1 0,akm,lx 3 1,lx 4 0,lx 4 0,lx 3 0,lx 3 1,lx 4 0,lx 4 0,lx 3 1,lx 4 0,lx 4 0,lx 12 1,Om 0 0 20,lx 12 1,lx 13 0,lx 13 1]
def O7(y:bF):List aN→List Int
 |[]=>[]
 |a::cy=>(gD y a).2::O7 (gD y a).1 cy
def fW(i:Nat):bF:=qx (l9 GM) (h8.take i)
theorem an9:O7 (l9 GM) h8=List.replicate 18 0:=by kernel_rfl
theorem Zb:∀ {cy:List aN} {y:bF} {i:Nat} {a:aN},cy[i]?=some a→(O7 y cy)[i]?=some (gD (qx y (cy.take i)) a).2
 |[],y,i,a,h=>by cases h
 |e::cy,y,0,a,h=>by cases h; rfl
 |e::cy,y,i+1,a,h=>Zb (cy:=cy) (y:=(gD y e).1) (i:=i) h
theorem zX{i:Nat}{a:aN}(h:h8[i]?=some a):gD (fW i) a=(fW (i+1),0):=by
 have I:=Zb (y:=l9 GM) h;rw[an9] at I;have R:=(List.mem_replicate.1 (List.mem_of_getElem? I)).2;have ay:=(List.getElem?_eq_some_iff.1 h).1;have l:fW (i+1)=(gD (fW i) a).1:=by
  unfold fW;rw[List.take_succ_eq_append_getElem ay,RW,(List.getElem?_eq_some_iff.1 h).2]
 rw[l];exact Prod.ext rfl R
theorem Zf:qf GM:=⟨⟨by decide,by decide⟩,of_decide_eq_true (by kernel_rfl),of_decide_eq_true (by kernel_rfl),by decide,by decide⟩
theorem anY:qU h8:=fun a Y=>by
 unfold h8 at Y;simp only[List.mem_cons,List.mem_nil_iff,or_false] at Y;rcases Y with rfl | rfl | rfl | rfl | rfl | rfl | rfl | rfl | rfl | rfl | rfl | rfl | rfl | rfl | rfl | rfl | rfl | rfl<;>exact⟨by decide,by decide⟩
theorem rf(i:Nat):la (fW i):=by
 obtain⟨ml,h,_⟩:=BD (cy:=h8.take i) (DL Zf) (fun a Y=>anY a (List.mem_of_mem_take Y)) (by rw[List.length_take]; show 0+2*min i 18≤_; omega);exact h.ok (by rw[List.length_take]; show 0+2*min i 18≤_; omega)
def F8:hG:=⟨[⟨1006,⟨0,100⟩⟩,⟨1008,⟨0,60⟩⟩],1015,0⟩
def F9:hG:=⟨[⟨1006,⟨1,0⟩⟩,⟨1008,⟨1,40⟩⟩],1015,0⟩
theorem Q5:Keys F8.rows [0]:=by
 refine⟨by decide,fun k=>?_⟩;simp only[F8,zp,CV,List.mem_cons,List.not_mem_nil,or_false];by_cases I:k=0
 ·subst I; simp
 ·simp[I,Ne.symm I]
theorem Q6:Keys F9.rows [1]:=by
 refine⟨by decide,fun k=>?_⟩;simp only[F9,zp,CV,List.mem_cons,List.not_mem_nil,or_false];by_cases I:k=1
 ·subst I; simp
 ·simp[I,Ne.symm I]
theorem aHE:ns F8 1010=[⟨0,60⟩]:=by
 unfold ns;rw[if_pos (by rfl),Q8 Q5]; rfl
theorem aHF:ns F9 1010=[⟨1,40⟩]:=by
 unfold ns;rw[if_pos (by rfl),Q8 Q6]; rfl
theorem an3:(fW 18).N.map (fun b=>(b.K.down,b.W.v.W))=[(false,F8),(false,F9)]:=by kernel_rfl
theorem an6:vO (fW 18) 1010=([[⟨0,60⟩],[⟨1,40⟩]],0):=by
 have h:=an3;unfold vO;generalize (fW 18).N=N at h;obtain⟨F_,N,rfl,ah,h⟩:=List.map_eq_cons_iff.1 h;obtain⟨tG,N,rfl,I,h⟩:=List.map_eq_cons_iff.1 h;rw[List.map_eq_nil_iff.1 h];have d0:F_.K.down=false:=congrArg Prod.fst ah;have d1:tG.K.down=false:=congrArg Prod.fst I;have lI:F_.W.v.W=F8:=congrArg Prod.snd ah;have s1:tG.W.v.W=F9:=congrArg Prod.snd I;unfold nT;rw[d0,lI,aHE];unfold nT;rw[d1,s1,aHF];unfold nT;rfl
theorem an7:(fW 14).told=[]:=by kernel_rfl
theorem an8:(fW 16).told=[⟨1,2,1008⟩]:=by kernel_rfl
theorem an5:(fW 18).now=1020:=by kernel_rfl
theorem an4:(fW 18).a2.m=[]:=by kernel_rfl
theorem anZ:gd (fW 18) 1=0:=by kernel_rfl
theorem Ze:gd (fW 18) 2=202:=by kernel_rfl
theorem an2:((fW 16).N.length,gd (fW 16) 1,((fW 16).N[1]?).bind (fun b=>(b.P.lookup 1).map fun p=>(p.b8,p.at_)))=(2,0,some (2,1008)):=by kernel_rfl
theorem an0:(mN (fW 16) 0).2=(1015,0):=by kernel_rfl
theorem an1:(mN (fW 17) 1).2=(1015,0):=by kernel_rfl
section
variable {A w:World} {m bX:List bE}
theorem D3{au i:Nat}(h:h8[i]?=some (lx 4 0))(H:E A (cn au (fW i)::m) w):M Pg 36 [.pointer (some ⟨au,0,none⟩),.int .i64 0] (B .i64) w fun r J=>r=0∧E A (cn au (fW (i+1))::m) J:=by
 have l:=zX h;rw[YD] at l;have:=OP (rf i) (i:=0) H;rw[l] at this;exact this
theorem JW{au i:Nat}{D:Int}(h:h8[i]?=some (lx 3 D))(H:E A (cn au (fW i)::m) w):M Pg 35 [.pointer (some ⟨au,0,none⟩),.int .i64 D] (B .i64) w fun r J=>r=0∧E A (cn au (fW (i+1))::m) J:=by
 have l:=zX h;rw[YF] at l;have:=SY (rf i) (i:=D) H;rw[l] at this;exact this
theorem Zh{au i:Nat}(h:h8[i]?=some (lx 12 1))(H:E A (cn au (fW i)::m) w):M Pg 49 [.pointer (some ⟨au,0,none⟩),.int .i64 1] (B .i64) w fun r J=>r=0∧E A (cn au (fW (i+1))::m) J:=by
 have l:tt (fW i) 1=_:=zX h;have:=afr (rf i) (i:=1) H;rw[l] at this;exact this
theorem aHK(H:E A m w):M Pg 24 [] aE w fun r J=>∃ au:Nat,r=some ⟨au,0,none⟩∧E A (cn au (fW 16)::m) J:=by
 refine aio ?_;unfold Nm;refine ap (Rr (c:=GM) (by decide) (by decide) H) ?_;rintro⟨g2,bA⟩ w ⟨_,e4⟩;obtain⟨I,au,R,H⟩:=e4 Zf;simp only at I R;subst I; subst R;rw[if_neg (by simp)];have H:E A (cn au (fW 0)::m) w:=H;have l:vG (fW 0) 0 100=(fW 1,0):=zX (i:=0) rfl;have q:=RN (rf 0) (a:=0) (n:=100) (by omega) H;rw[l] at q;refine ap q ?_;rintro r w ⟨rfl,H⟩;unfold FF;rw[if_neg (by simp)];have l:vG (fW 1) 1 0=(fW 2,0):=zX (i:=1) rfl;have q:=RN (rf 1) (a:=1) (n:=0) (by omega) H;rw[l] at q;refine ap q ?_;rintro r w ⟨rfl,H⟩;unfold FJ;rw[if_neg (by simp)];have l:p1 (fW 2) ⟨1,0,1,40⟩=(fW 3,0):=zX (i:=2) rfl;have q:=ab3 (rf 2) (x:=⟨1,0,1,40⟩) H;rw[l] at q;refine ap q ?_;rintro r w ⟨rfl,H⟩;unfold FK;rw[if_neg (by simp)];refine ap (JW (i:=3) rfl H) ?_;rintro r w ⟨rfl,H⟩;unfold FL;rw[if_neg (by simp)]
 refine ia (fun i w=>∃ D:Nat,i=(D:Int)∧(D=0∧E A (cn au (fW 4)::m) w∨D=1∧E A (cn au (fW 8)::m) w∨D=2∧E A (cn au (fW 11)::m) w∨D=3∧E A (cn au (fW 13)::m) w)) (fun i=>((3:Int)-i).toNat) ⟨0,rfl,.inl ⟨rfl,H⟩⟩ ?_;clear H;rintro i w ⟨D,rfl,bT⟩ ab cg;have aS:D≤3→IntKind.i64.wrap ((D:Int)+1)=((D+1:Nat):Int):=fun h=>by rw[wrap_i64 (by omega) (by omega)]; omega
 unfold No;rcases bT with ⟨rfl,H⟩ | ⟨rfl,H⟩ | ⟨rfl,H⟩ | ⟨rfl,H⟩
 ·rw[if_pos (by simp)];refine ap (D3 (i:=4) rfl H) ?_;rintro r w ⟨rfl,H⟩;rw[if_neg (by simp)];refine ap (D3 (i:=5) rfl H) ?_;rintro r w ⟨rfl,H⟩;unfold A8;rw[if_neg (by simp),if_pos (by simp)];refine ap (JW (i:=6) rfl H) ?_;rintro r w ⟨rfl,H⟩;unfold zz;rw[if_neg (by simp),if_pos (by simp)];refine ap (JW (i:=7) rfl H) ?_;rintro r w ⟨rfl,H⟩;unfold zA;rw[if_neg (by simp),if_neg (by simp)];unfold zB;rw[if_neg (by simp),aS (by omega)];exact cg _ _ ⟨1,rfl,.inr (.inl ⟨rfl,H⟩)⟩ (by omega)
 ·rw[if_pos (by simp)];refine ap (D3 (i:=8) rfl H) ?_;rintro r w ⟨rfl,H⟩;rw[if_neg (by simp)];refine ap (D3 (i:=9) rfl H) ?_;rintro r w ⟨rfl,H⟩;unfold A8;rw[if_neg (by simp),if_neg (by simp)];unfold zz;rw[if_neg (by simp),if_neg (by simp)];unfold zA;rw[if_neg (by simp),if_pos (by simp)];refine ap (JW (i:=10) rfl H) ?_;rintro r w ⟨rfl,H⟩;unfold zB;rw[if_neg (by simp),aS (by omega)];exact cg _ _ ⟨2,rfl,.inr (.inr (.inl ⟨rfl,H⟩))⟩ (by omega)
 ·rw[if_pos (by simp)];refine ap (D3 (i:=11) rfl H) ?_;rintro r w ⟨rfl,H⟩;rw[if_neg (by simp)];refine ap (D3 (i:=12) rfl H) ?_;rintro r w ⟨rfl,H⟩;unfold A8;rw[if_neg (by simp),if_neg (by simp)];unfold zz;rw[if_neg (by simp),if_neg (by simp)];unfold zA;rw[if_neg (by simp),if_neg (by simp)];unfold zB;rw[if_neg (by simp),aS (by omega)];exact cg _ _ ⟨3,rfl,.inr (.inr (.inr ⟨rfl,H⟩))⟩ (by omega)
 ·rw[if_neg (by simp)];refine ap (Zh (i:=13) rfl H) ?_;rintro r w ⟨rfl,H⟩;rw[if_neg (by simp)];refine ap (CU (rf 14) H) ?_;intro r w H;have aa:=gG H;rw[an7] at aa;unfold FG;rw[if_neg (by rw[aa]; simp)];have H:=H.drop;have l:xf (fW 14) 20 []=(fW 15,0):=zX (i:=14) rfl;have q:=acS (rf 14) (d:=20) (s:=fN) (xs:=[]) L2 (by simp) H;rw[l] at q;refine ap q ?_;rintro r w ⟨rfl,H⟩;unfold FH;rw[if_neg (by simp)];refine ap (Zh (i:=15) rfl H) ?_;rintro r w ⟨rfl,H⟩;unfold FI;rw[if_neg (by simp)];exact⟨au,rfl,H⟩
theorem Zg{au i:Nat}{D:Int}{a:Int}(h:h8[i]?=some (lx 13 D))(Y:(mN (fW i) D).2=(a,0))(H:E A (cn au (fW i)::m) w):M Pg 25 [.pointer (some ⟨au,0,none⟩),.int .i64 D] (bB (B .i64) (B .i64)) w fun r J=>r=(a,0)∧E A (cn au (fW (i+1))::m) J:=by
 have l:((mN (fW i) D).1,(mN (fW i) D).2.2)=(fW (i+1),0):=zX h;have aS:(mN (fW i) D).1=fW (i+1):=congrArg Prod.fst l;have:=Yg (rf i) (i:=D) H;rw[aS,Y] at this;exact this
theorem tQ(H:E A m w):M Pg 8 [] bo w fun r J=>r=true∧E A m J:=by
 refine ajG ?_;unfold NT;refine ap (aHK H) ?_;rintro r w ⟨au,rfl,H⟩;rw[if_neg (by simp)];refine ap (CU (rf 16) H) ?_;intro t w H;rw[an8] at H;have aT:=gG H;obtain⟨p,am,H⟩:=lh (H.front 1);have BX:=an2;have aoV:(fW 16).N.length=2:=congrArg Prod.fst BX;have pg:gd (fW 16) 1=0:=congrArg (fun z=>z.2.1) BX;have fA:=congrArg (fun z=>z.2.2) BX;simp only at fA;refine ap (Zk (id:=1) am (by omega) (by omega) H) ?_;rintro r w ⟨aa,H⟩;have aa:r=(2,1008):=by
  rw[aa,if_neg (by omega),aoV];have aS:Int.tmod 1 ((2:Nat):Int)=1:=by rfl
  rw[aS,if_neg (by rw[pg]; omega)];have bb:(1:Int).toNat=1:=rfl;rw[bb];cases a5:(fW 16).N[1]? with
  |none=>rw[a5] at fA; cases fA
  |some b=>
   rw[a5] at fA;have fA:(b.P.lookup 1).map (fun p=>(p.b8,p.at_))=some (2,1008):=fA;show (match b.P.lookup 1 with | none=>((0:Int),(0:Int)) | some p=>(p.b8,p.at_))=_
   cases en:b.P.lookup 1 with
   |none=>rw[en] at fA; cases fA
   |some q=>rw[en] at fA; exact Option.some.inj fA
 subst aa;have H:=fU am H;refine ap (Zg (i:=16) rfl an0 H) ?_;rintro r w ⟨rfl,H⟩;refine ap (Zg (i:=17) rfl an1 H) ?_;rintro r w ⟨rfl,H⟩;refine ap (aGM (at_:=1010) (rf 18) H) ?_;rintro r w ⟨Qg,ja,H⟩;rw[an6] at Qg H;have uf:=gG H;have H:=vP H;have dx:ca (ro sR r.1 ja::uz ja 1010 [[⟨0,60⟩],[⟨1,40⟩]]::cn au (fW 18)::row is 53 3 t [⟨1,2,1008⟩]::m) (dd sR r.1 ja):=ca.here (o:=dd.mono);have ef:ca (ro sR r.1 ja::uz ja 1010 [[⟨0,60⟩],[⟨1,40⟩]]::cn au (fW 18)::row is 53 3 t [⟨1,2,1008⟩]::m) (o7 ja 1010 [[⟨0,60⟩],[⟨1,40⟩]]):=(ca.here (o:=o7.mono)).tail;obtain⟨aZ,_,Qh⟩:=ca.pP ef H;have hi:ja.length=2:=Qh.1;obtain⟨nR,gS,rfl⟩:∃ nR gS,ja=[⟨1010,nR⟩,⟨1010,gS⟩]:=by
  match ja,hi with
  |[⟨nE,nR⟩,⟨lY,gS⟩],_=>
   have ah:nE=1010:=(Qh.2 0 _ _ rfl rfl).1;have I:lY=1010:=(Qh.2 1 _ _ rfl rfl).1;subst ah; subst I;exact⟨nR,gS,rfl⟩
 have g0:ca (ro sR r.1 [⟨1010,nR⟩,⟨1010,gS⟩]::uz [⟨1010,nR⟩,⟨1010,gS⟩] 1010 [[⟨0,60⟩],[⟨1,40⟩]]::cn au (fW 18)::row is 53 3 t [⟨1,2,1008⟩]::m) (Audit.uQ r.1 [(⟨1010,nR⟩,[⟨0,60⟩]),(⟨1010,gS⟩,[⟨1,40⟩])]):=(dx.and ef).imp fun aZ h=>⟨h.1,fun p aF=>by
  simp only[List.mem_cons,List.mem_nil_iff,or_false] at aF;rcases aF with rfl | rfl
  ·exact (h.2.2 0 _ _ rfl rfl).2
  ·exact (h.2.2 1 _ _ rfl rfl).2⟩
 have H:=H.Ao (o:=Audit.uQ.mono) g0
 refine ap (Audit.u4 (at_:=1010) (s:=r.1) (an:=[(⟨1010,nR⟩,[⟨0,60⟩]),(⟨1010,gS⟩,[⟨1,40⟩])]) (by simp) (fun p aF=>by
  simp only[List.mem_cons,List.mem_nil_iff,or_false] at aF
  rcases aF with rfl | rfl<;>simp) H) ?_
 rintro z w ⟨bN,H⟩;have bN:z=(100,0):=bN;subst bN;have N4:E A (row is 53 3 t [⟨1,2,1008⟩]::_) w:=H.front 4;obtain⟨gJ,J_⟩:=k3 (i:=0) N4 (by omega) (by simp);refine aR gJ (fun _=>J_) ?_;refine aR ⟨1,2,1008⟩ (fun _=>my (fun _=>rfl) J_ rfl N4) ?_;clear N4;have wg:=Audit.Il H;obtain⟨kE,z2⟩:=ze (ar:=2) (i:=0) wg (by omega) (by simp);refine aR kE (fun _=>z2) ?_;refine aR nR (fun _=>J0 (x:=(⟨1010,nR⟩:zJ)) (fun _=>rfl) z2 rfl rfl wg) ?_;refine aR kE (fun _=>z2) ?_;refine aR nR (fun _=>J0 (x:=(⟨1010,nR⟩:zJ)) (fun _=>rfl) z2 rfl rfl wg) ?_;have Ja:=Audit.aeF (p:=(⟨1010,nR⟩,[⟨0,60⟩])) (List.mem_cons_self ..) H;have ba:=E0 Ja;obtain⟨hf,Ka⟩:=ze (ar:=2) (i:=0) Ja (by omega) (by simp);refine aR hf (fun _=>Ka) ?_;refine aR 60 (fun _=>J0 (x:=(⟨0,60⟩:kA)) (fun _=>rfl) Ka rfl rfl Ja) ?_;clear Ja wg;have aS:bk.cB ⟨1,2,1008⟩ ⟨1,2,1008⟩=true:=(S8 _ _).2 rfl;have ba:nR.len=1:=ba
 rw[if_pos (by rw[aT,aS,Qg,uf,ba]; simp)];obtain⟨p,am,H⟩:=lh (H.front 3);refine ap (Ry H) ?_;rintro r w ⟨rfl,H⟩;rw[an5];unfold F0;rw[if_pos (by simp)];refine ap (ac6 (i:=1) am (rf 18).len.2 H) ?_;rintro r w ⟨rfl,H⟩;rw[anZ];unfold F1;rw[if_pos (by simp)];refine ap (ac6 (i:=2) am (rf 18).len.2 H) ?_;rintro r w ⟨rfl,H⟩;rw[Ze];unfold F2;rw[if_pos (by simp)];refine ap (Mi (i:=2) am (rf 18) H) ?_;rintro r w (⟨_,rfl,H⟩ | ⟨h,_⟩)
 ·unfold F3;rw[if_pos (by simp)];have H:=fU am H;refine ap (KV (rf 18) H) ?_;intro r w H;have al:=gG H;rw[an4] at al;unfold F4;refine⟨by rw[al]; simp,?_⟩;exact H.drop.drop.drop.drop.drop.drop
 ·rw[Ze] at h; cases h
end
def A3(p:aN)(aZ:cD):Prop:=(p.x.N.len≤p.x.N.cap∧dd (B .i64) p.x.N p.N aZ)∧p.x.gO.len≤p.x.gO.cap∧dd (B .i64) p.x.gO p.ab aZ
def x6(y:bF)(id:Int):Int×Int:=if id<1 then (0,0) else if gd y (Int.tmod id y.N.length)≠0 then (0,0) else match (y.N[(Int.tmod id y.N.length).toNat]?).bind fun b=>b.P.lookup id with
 |none=>(0,0)
 |some p=>(p.b8,p.at_)
section
variable {A w:World} {m bX:List bE}
theorem u_{au k:Nat}{y:bF}{az:List ft}{id:Int}(a_:k_ k y az)(aq:k≤49000)(H:E A (cn au y::m) w):M Pg 16 [.pointer (some ⟨au,0,none⟩),.int .i64 id] (bB (B .i64) (B .i64)) w fun r J=>r=x6 y id∧E A (cn au y::m) J:=by
 obtain⟨p,am,H⟩:=lh H;have aM:=a_.pos;have al:=a_.len;refine ap (Zk am (by omega) (by omega) H) ?_;rintro r w ⟨aa,H⟩;exact⟨aa,fU am H⟩
theorem abE{s:af}{cy:List aN}(k:ca m (uM s cy)){D:Nat}(h:D<cy.length):ca m (A3 (cy[D]'h)):=k.imp fun _ a_=>a_.2 _ (List.getElem_mem _)
end
end Cluster
section
open bj
end
namespace Cluster
open bj Wire Disk Vault Clock Shard Num Store
def wc(xs:List dW)(aW:List (Int×pD)):Prop:=∀ id f,aW.lookup id=some f→(f.im=2→∃ x∈xs,x.Kind=3∧x.aD=id∧x.b9=f.g5)∧(f.im=3→∃ x∈xs,x.Kind=4∧x.aD=id)
theorem wc.more{xs:List dW}{aW:List (Int×pD)}(h:wc xs aW)(x:dW):wc (xs++[x]) aW:=fun id f am=>by
 obtain⟨a,e⟩:=h id f am;exact⟨fun l=>by obtain⟨S,aB,l⟩:=a l; exact⟨S,List.mem_append_left _ aB,l⟩,fun l=>by obtain⟨S,aB,l⟩:=e l; exact⟨S,List.mem_append_left _ aB,l⟩⟩
theorem wc.put{xs:List dW}{aW:List (Int×pD)}(h:wc xs aW){x:dW}{k:Int}{f:pD}(R:f.im=2→x.Kind=3∧x.aD=k∧x.b9=f.g5)(aK:f.im=3→x.Kind=4∧x.aD=k):wc (xs++[x]) (eZ k f aW):=fun id g O=>by
 rw[tg] at O;split at O
 ·rename_i l;have l:=eq_of_beq l;subst l;cases O;exact⟨fun l=>⟨x,List.mem_append_right _ (List.mem_singleton.2 rfl),R l⟩,fun l=>⟨x,List.mem_append_right _ (List.mem_singleton.2 rfl),aK l⟩⟩
 ·exact h.more x id g O
def nw(l:Int):Prop:=l=0∨(70≤l∧l≤81)
theorem XV{K:c1}{n s:Int}{f:ed→ed}:nw (km K n s f).2:=by
 unfold km nw
 repeat' split
 all_goals simp
theorem Gq{K:c1}{V:nC}{x:List UInt8}(h:x.length≤65536):nw (gB K V x).2.2:=by
 unfold gB;split
 ·exact .inr ⟨by show (70:Int)≤81; omega,by show (81:Int)≤81; omega⟩
 ·rw[if_neg (by omega)];exact XV
def xH(b cR:br):Prop:=cR.K.down=b.K.down∧cR.P=b.P∧cR.W.v=b.W.v
structure lT(y gl:bF):Prop where
 now:gl.now=y.now
 a2:gl.a2.m=y.a2.m
 told:gl.told=y.told
 len:gl.N.length=y.N.length
 nodes:∀ (i:Nat) (cR:br),gl.N[i]?=some cR→∃ b,y.N[i]?=some b∧xH b cR
section
variable {k:Nat} {y:bF} {az:List ft}
theorem lT.gd{y gl:bF}(h:lT y gl)(i:Int):Cluster.gd gl i=Cluster.gd y i:=by
 unfold Cluster.gd;by_cases ah:i<0
 ·rw[if_pos ah,if_pos ah]
 ·rw[if_neg ah,if_neg ah];cases a5:gl.N[i.toNat]? with
  |none=>
   have I:=h.len;have R:=List.getElem?_eq_none_iff.1 a5;rw[List.getElem?_eq_none (by omega)]
  |some cR=>
   obtain⟨b,I,R⟩:=h.nodes _ _ a5;rw[I];simp only;rw[R.1]
theorem lT.b8{y gl:bF}(h:lT y gl)(id:Int):x6 gl id=x6 y id:=by
 unfold x6;rw[h.len,h.gd];split
 ·rfl
 ·split
  ·rfl
  ·cases a5:gl.N[(Int.tmod id y.N.length).toNat]? with
   |none=>
    have I:=h.len;have R:=List.getElem?_eq_none_iff.1 a5;rw[List.getElem?_eq_none (by omega)]
   |some cR=>
    obtain⟨b,I,R⟩:=h.nodes _ _ a5;rw[I];show (match cR.P.lookup id with | none=>((0:Int),(0:Int)) | some p=>(p.b8,p.at_))=(match b.P.lookup id with | none=>((0:Int),(0:Int)) | some p=>(p.b8,p.at_))
    rw[R.2.1]
end
theorem A3.mono{p:aN}{aZ ho:cD}(h:cD.le aZ ho):A3 p aZ→A3 p ho:=fun R=>⟨⟨R.1.1,dd.mono h R.1.2⟩,R.2.1,dd.mono h R.2.2⟩
end Cluster
section
open bj
end
namespace Cluster
open bj Wire Disk Vault Clock Shard Num Store
structure o_(f:Nat)(now:Int)(ax:hz)(rd:Int):Prop where
 r2:ax.floor≤now
 eR:ax.eR=f
 sound:ax.dv.set=true→∃ (T aQ:Nat) (W:Int),-(aQ:Int)≤W∧W≤aQ∧wq f T aQ∧rd=ax.dv.at_+(T-W)∧(T:Int)≤now∧now-T-ax.dv.width≤ax.dv.ih∧ax.dv.ih≤now-T+ax.dv.width
theorem aGx{f:Nat}{now rd:Int}{ax:hz}(k:jl ax)(s:o_ f now ax rd)(ag:jo f)(aM:0≤now∧now≤1099511627776)(aH:ax.dv.set=true)(al:ax.last≤rd)(aa:fg rd)(aT:ax.dv.ih+(rd-ax.dv.at_)≤1125899906842624):(sy ax rd).g7≤now∧now≤(sy ax rd).jO:=by
 obtain⟨T,aQ,W,I,R,aK,bp,dz,iG,r4⟩:=s.sound aH;have dx:=k.at_;have ef:=k.ih;have g0:=k.width;have jV:=k.le;unfold fg at dx ef g0 aa;have jE:T≤(rd-ax.dv.at_).toNat+aQ:=by omega
 obtain⟨pg,r5⟩:=aK.within ag jE;have DV:(((rd-ax.dv.at_).toNat:Nat):Int)=rd-ax.dv.at_:=by omega
 rw[DV] at pg;have U:=JC (n:=rd-ax.dv.at_) (f:=f) (by omega) ag.eR;unfold sy DU;have Hl:mY ⟨ax.dv.ih+(rd-ax.dv.at_),ax.dv.ih+(rd-ax.dv.at_)⟩ ax.dv.width=(⟨max (ax.dv.ih+(rd-ax.dv.at_)-ax.dv.width) 0,min (ax.dv.ih+(rd-ax.dv.at_)+ax.dv.width) 1125899906842624⟩,0):=by
  unfold mY;rw[if_neg (fun h=>h (by unfold nG fg; simp only; omega)),if_neg (fun h=>h (by unfold fg; omega))]
 rw[Hl,s.eR];simp only;rw[if_neg (fun h=>h (by unfold nG fg; simp only; omega)),if_neg (fun h=>h (by unfold fg; omega))];unfold mY;rw[if_neg (fun h=>h (by unfold nG fg; simp only; omega)),if_neg (fun h=>h (by unfold fg; omega))];simp only;omega
theorem Rx{f:Nat}{now rd:Int}{ax:hz}(k:jl ax)(s:o_ f now ax rd)(ag:jo f)(aM:0≤now∧now≤1099511627776):o_ f now (fj ax rd).1 rd∧((fj ax rd).2.2=0→(fj ax rd).2.1.g7≤now∧now≤(fj ax rd).2.1.jO):=by
 unfold fj;split
 ·exact⟨s,fun h=>by cases h⟩
 ·rename_i bx;split
  ·exact⟨s,fun h=>by cases h⟩
  ·rename_i bK;split
   ·exact⟨s,fun h=>by cases h⟩
   ·split
    ·exact⟨s,fun h=>by cases h⟩
    ·have aa:=aGx k s ag aM (by simpa using bK) (by omega) (Classical.not_not.1 bx) (by omega);have am:=s.r2;exact⟨⟨by unfold sF; simp only; omega,s.eR,s.sound⟩,fun _=>by unfold sF; simp only; omega⟩
theorem o_.set{f:Nat}{now rd t l:Int}{ax:hz}(s:o_ f now ax rd)(aM:0≤now)(aT:now-l≤t∧t≤now+l):o_ f now (sB ax rd t l).1 rd:=by
 unfold sB;split
 ·exact s
 ·split
  ·exact s
  ·exact⟨s.r2,s.eR,fun _=>⟨0,0,0,by omega,by omega,aHC f 0,by simp only; omega,by omega,by simp only; omega,by simp only; omega⟩⟩
theorem o_.pass{f:Nat}{now rd d s:Int}{ax:hz}(h:o_ f now ax rd)(ag:jo f)(ah:0≤d∧d≤1048576)(aH:-(ko d (oa f))≤s∧s≤ko d (oa f)):o_ f (now+d) ax (rd+(d-s)):=by
 refine⟨by have:=h.r2; omega,h.eR,fun ao=>?_⟩;obtain⟨T,aQ,W,I,R,aK,bp,dz,iG,r4⟩:=h.sound ao;have BG:((d.toNat:Nat):Int)=d:=by omega
 have tZ:=aK.add (d:=d.toNat) (s:=s.natAbs) ag (by omega) (by rw[BG]; omega);exact⟨T+d.toNat,aQ+s.natAbs,W+s,by omega,by omega,tZ,by omega,by omega,by omega,by omega⟩
theorem aHY{f:Nat}{now rd src:Int}{ax:hz}{N:List Int}(k:jl ax)(s:o_ f now ax rd)(ag:jo f)(aM:0≤now∧now≤1099511627776):o_ f now (gL ax rd src N).1 rd∧((gL ax rd src N).2.2.2=0→now<(gL ax rd src N).2.2.1):=by
 obtain⟨I,R⟩:=Rx k s ag aM;unfold gL;split
 ·rename_i ah;exact⟨I,fun h=>absurd h ah⟩
 ·rename_i ah;have ah:=R (Classical.not_not.1 ah);refine⟨I,fun h=>?_⟩;revert h;unfold Au;split
  ·intro h; cases h
  ·have aK:=foldl_max N (max src (fj ax rd).2.1.jO);split
   ·intro h; cases h
   ·intro _;simp only;omega
def sJ(b cR:br):Prop:=cR.cO=b.cO∧(cR.ax=b.ax∨cR.ax=(fj b.ax b.cO).1)
theorem zf(ax:hz)(rd src:Int)(N:List Int):(gL ax rd src N).1=(fj ax rd).1:=by unfold gL; split<;>rfl
theorem DN{n:Nat}{b:br}{id k t:Int}{p:bP}:(n8 n b id p k t).1.ax=b.ax∧(n8 n b id p k t).1.cO=b.cO:=by
 unfold n8;simp only;split<;>exact⟨rfl,rfl⟩
theorem alU{n:Nat}{b:br}{from_:Int}{o:hZ}:sJ b (m_ n b from_ o):=by
 unfold m_;split
 ·unfold rr;split
  ·exact⟨rfl,.inl rfl⟩
  ·split
   ·exact⟨rfl,.inl rfl⟩
   ·split
    ·unfold yz;split
     ·exact⟨rfl,.inr (zf ..)⟩
     ·unfold vn;split
      ·exact⟨rfl,.inr (zf ..)⟩
      ·split
       ·exact⟨rfl,.inr (zf ..)⟩
       ·exact⟨rfl,.inr (zf ..)⟩
    ·exact⟨rfl,.inl rfl⟩
 ·split
  ·unfold v5;split
   ·exact⟨rfl,.inl rfl⟩
   ·unfold zn;split
    ·exact⟨rfl,.inl rfl⟩
    ·split
     ·exact⟨rfl,.inl rfl⟩
     ·unfold v4;split
      ·exact⟨DN.2,.inl DN.1⟩
      ·split
       ·unfold zo;split
        ·refine⟨DN.2,.inr ?_⟩;rw[DN.1];exact zf ..
        ·exact⟨rfl,.inr (zf ..)⟩
       ·exact⟨rfl,.inl rfl⟩
  ·split
   ·unfold tW iw;split
    ·exact⟨rfl,.inl rfl⟩
    ·split
     ·exact⟨rfl,.inl rfl⟩
     ·exact⟨rfl,.inl rfl⟩
   ·split
    ·unfold xU;split
     ·exact⟨rfl,.inl rfl⟩
     ·exact⟨rfl,.inl rfl⟩
    ·exact⟨rfl,.inl rfl⟩
theorem alX{b:br}{a o:Int}:sJ b (y5 b a o).1:=by
 unfold y5 y4;split
 ·exact⟨rfl,.inr (zf ..)⟩
 ·unfold ER;split
  ·exact⟨rfl,.inr (zf ..)⟩
  ·exact⟨rfl,.inr (zf ..)⟩
theorem alW{n:Nat}{b:br}{x:oE}:sJ b (ti n b x).1:=by
 unfold ti Co;split
 ·exact⟨rfl,.inl rfl⟩
 ·split<;>exact⟨rfl,.inl rfl⟩
theorem alS{n:Nat}{b:br}{id:Int}:sJ b (rX n b id).1:=by
 unfold rX;split
 ·exact⟨rfl,.inl rfl⟩
 ·split
  ·exact⟨rfl,.inl rfl⟩
  ·exact⟨DN.2,.inl DN.1⟩
theorem alT{b:br}:sJ b (rZ b).1:=by
 unfold rZ xX;split
 ·exact⟨rfl,.inr rfl⟩
 ·unfold DO;split
  ·exact⟨rfl,.inr rfl⟩
  ·exact⟨rfl,.inr rfl⟩
theorem Yf{b:br}:sJ b (nu b).1:=by
 unfold nu vU;split
 ·exact⟨rfl,.inl rfl⟩
 ·unfold zh;split
  ·exact⟨rfl,.inl rfl⟩
  ·exact⟨rfl,.inl rfl⟩
theorem alY{f:Nat}{b:br}:sJ b (o0 f b).1:=by
 unfold o0;split
 ·unfold zk;split
  ·exact⟨rfl,.inl rfl⟩
  ·unfold zl;split
   ·exact⟨rfl,.inl rfl⟩
   ·unfold zr;rw[LR];exact⟨rfl,.inl rfl⟩
 ·exact⟨rfl,.inl rfl⟩
structure oD(y:bF):Prop where
 ok:∀ b∈y.N,jl b.ax∧o_ y.eH.lc y.now b.ax b.cO
 told:∀ t∈y.told,t.oz=2→t.b9≤y.now
 now:0≤y.now∧y.now≤1099511627776
 kV:jo y.eH.lc
 width:0≤y.eH.jQ
theorem alV{f:Nat}{now:Int}{b cR:br}(ag:jo f)(aM:0≤now∧now≤1099511627776)(h:jl b.ax∧o_ f now b.ax b.cO)(s:sJ b cR):jl cR.ax∧o_ f now cR.ax cR.cO:=by
 rw[s.1];rcases s.2 with l | l
 ·rw[l]; exact h
 ·rw[l]; exact⟨(h.1.now _).1,(Rx h.1 h.2 ag aM).1⟩
section
variable {y:bF}
theorem mem_set{Z:Type}{N:List Z}{i:Nat}{x S:Z}(h:S∈N.set i x):S=x∨S∈N:=by
 rcases List.mem_or_eq_of_mem_set h with h | h
 ·exact .inr h
 ·exact .inl h
theorem oD.node(t:oD y){i:Nat}{b cR:br}(a5:y.N[i]?=some b)(s:sJ b cR):oD (k5 y i cR):=
 ⟨fun eS R=>by
  rcases mem_set (N:=y.N) R with rfl | R
  ·exact alV t.kV t.now (t.ok b (List.mem_of_getElem? a5)) s
  ·exact t.ok eS R,t.told,t.now,t.kV,t.width⟩
theorem oD.a2(t:oD y){a2:Post.dN}:oD { y with a2:=a2 }:=⟨t.ok,t.told,t.now,t.kV,t.width⟩
theorem oD.on(t:oD y){i:Int}{f:br→br×Int}(am:∀ b,sJ b (f b).1):oD (nh y i f).1:=by
 by_cases Y:gd y i=0
 ·obtain⟨b,ah,a5,ag⟩:=rY Y;rw[p2 ah a5 ag];exact t.node a5 (am b)
 ·rw[vE Y];exact t
theorem oD.Tt(t:oD y){i:Int}{f:br→br×Int}(am:∀ b,sJ b (f b).1):oD (qR y i f).1:=by
 by_cases U:i<0∨(y.N.length:Int)≤i
 ·rw[CZ U];exact t
 ·have a5:y.N[i.toNat]?=some (y.N[i.toNat]'(by omega)):=List.getElem?_eq_getElem (by omega);rw[zs (by omega) a5];exact t.node a5 (am _)
theorem afs{f:Nat}{now:Int}{b:br}(ag:jo f)(aM:0≤now∧now≤1099511627776):∀ (ids:List Int) (s:kC),(jl s.ax∧o_ f now s.ax b.cO)→(∀ t∈s.told,t.oz=2→t.b9≤now) →
  (jl (lM b s ids).ax∧o_ f now (lM b s ids).ax b.cO)∧∀ t∈(lM b s ids).told,t.oz=2→t.b9≤now
 |[],s,h,aT=>⟨h,aT⟩
 |id::ids,s,h,aT=>by
  have ao:=Rx h.1 h.2 ag aM;have I:(jl (rK b s id).ax∧o_ f now (rK b s id).ax b.cO)∧∀ t∈(rK b s id).told,t.oz=2→t.b9≤now:=by
   unfold rK;split
   ·rename_i p aF;unfold oZ;split
    ·exact⟨h,aT⟩
    ·split
     ·split
      ·exact⟨⟨(h.1.now _).1,ao.1⟩,aT⟩
      ·rename_i U;refine⟨⟨(h.1.now _).1,ao.1⟩,fun t hm am=>?_⟩;rcases List.mem_append.1 hm with hm | hm
       ·exact aT t hm am
       ·rw[List.mem_singleton.1 hm];have U:(fj s.ax b.cO).2.2=0∧p.at_<(fj s.ax b.cO).2.1.g7:=by simpa using U
        have:=(ao.2 U.1).1;show p.at_≤now
        omega
     ·rename_i yt;refine⟨h,fun t hm am=>?_⟩;rcases List.mem_append.1 hm with hm | hm
      ·exact aT t hm am
      ·rw[List.mem_singleton.1 hm] at am;exact absurd am yt
   ·exact⟨h,aT⟩
  exact afs ag aM ids (rK b s id) I.1 I.2
theorem aIx(t:oD y)(a:aN):oD (gD y a).1:=by
 unfold gD;by_cases c:a.x.Kind=0
 ·rw[if_pos c];unfold xf;split
  ·exact t
  ·rename_i cb;have aM:=t.now;refine⟨fun b a5=>?_,fun x F am=>by have:=t.told x F am; show _≤y.now+a.x.b; omega,⟨by show 0≤y.now+a.x.b; omega,by show y.now+a.x.b≤_; omega⟩,t.kV,t.width⟩;obtain⟨i,ay,rfl⟩:=List.getElem_of_mem a5;show jl ((y.N.mapIdx _)[i]'ay).ax∧_
   rw[List.getElem_mapIdx];obtain⟨I,R⟩:=t.ok (y.N[i]'(by simpa using ay)) (List.getElem_mem _);refine⟨I,R.pass t.kV (by omega) ?_⟩;have hm:=GO (n:=a.x.b) (by omega) (by omega) (PK t.kV).2;unfold p8;split<;>omega
 rw[if_neg c]; clear c;by_cases c:a.x.Kind=1
 ·rw[if_pos c];unfold vG;split
  ·exact t
  ·exact t.on fun b=>alX
 rw[if_neg c]; clear c;by_cases c:a.x.Kind=2
 ·rw[if_pos c];unfold p1;split
  ·exact t
  ·exact t.on fun b=>alW
 rw[if_neg c]; clear c;by_cases c:a.x.Kind=3
 ·rw[if_pos c];unfold qL;split
  ·exact t
  ·simp only;split
   ·exact (t.on (f:=nu) fun b=>Yf).a2
   ·exact t.on fun b=>Yf
 rw[if_neg c]; clear c;by_cases c:a.x.Kind=4
 ·rw[if_pos c];unfold pN;split
  ·exact t
  ·exact (t.a2 (a2:=(y.a2.take a.x.aQ).1)).on fun b=>alU
 rw[if_neg c]; clear c;by_cases c:a.x.Kind=5
 ·rw[if_pos c];unfold x0;split
  ·exact t
  ·exact t.a2
 rw[if_neg c]; clear c;by_cases c:a.x.Kind=6
 ·rw[if_pos c]; exact t.a2
 rw[if_neg c]; clear c;by_cases c:a.x.Kind=7
 ·rw[if_pos c];unfold n4;split
  ·exact t
  ·exact t.a2
 rw[if_neg c]; clear c;by_cases c:a.x.Kind=8
 ·rw[if_pos c]; exact t.Tt fun b=>⟨rfl,.inl rfl⟩
 rw[if_neg c]; clear c;by_cases c:a.x.Kind=9
 ·rw[if_pos c]; exact t.Tt fun b=>⟨rfl,.inl rfl⟩
 rw[if_neg c]; clear c;by_cases c:a.x.Kind=10
 ·rw[if_pos c]; exact t.Tt fun b=>alY
 rw[if_neg c]; clear c;by_cases c:a.x.Kind=11
 ·rw[if_pos c]; exact t.on fun b=>⟨rfl,.inl rfl⟩
 rw[if_neg c]; clear c;by_cases c:a.x.Kind=12
 ·rw[if_pos c];unfold tt;by_cases Y:gd y a.x.aQ=0
  ·rw[if_neg (fun l=>l Y)];obtain⟨b,ah,a5,ag⟩:=rY Y;rw[a5];have aq:=afs (b:=b) t.kV t.now (e8 b.P) ⟨b.ax,y.known,y.told⟩ (t.ok b (List.mem_of_getElem? a5)) t.told;refine⟨fun eS R=>?_,aq.2,t.now,t.kV,t.width⟩;rcases mem_set (N:=y.N) R with rfl | R
   ·exact aq.1
   ·exact t.ok eS R
  ·rw[if_pos Y]; exact t
 rw[if_neg c]; clear c;by_cases c:a.x.Kind=13
 ·rw[if_pos c];show oD (mN y a.x.aQ).1
  unfold mN;by_cases Y:gd y a.x.aQ=0
  ·rw[if_neg (fun l=>l Y)];obtain⟨b,ah,a5,ag⟩:=rY Y;rw[a5];exact t.node a5 alT
  ·rw[if_pos Y]; exact t
 rw[if_neg c]; clear c;by_cases c:a.x.Kind=14
 ·rw[if_pos c]; exact t.on fun b=>⟨rfl,.inl rfl⟩
 rw[if_neg c]; clear c;by_cases c:a.x.Kind=15
 ·rw[if_pos c];show oD (qR y a.x.aQ _).1
  by_cases U:a.x.aQ<0∨(y.N.length:Int)≤a.x.aQ
  ·rw[CZ U];exact t
  ·have a5:y.N[a.x.aQ.toNat]?=some (y.N[a.x.aQ.toNat]'(by omega)):=List.getElem?_eq_getElem (by omega);rw[zs (by omega) a5];refine⟨fun eS R=>?_,t.told,t.now,t.kV,t.width⟩;rcases mem_set (N:=y.N) R with rfl | R
   ·obtain⟨I,R⟩:=t.ok _ (List.mem_of_getElem? a5);have aM:=t.now;have hw:=t.width;exact⟨I.set ..,R.set aM.1 (by unfold E4; omega)⟩
   ·exact t.ok eS R
 rw[if_neg c]; clear c;by_cases c:a.x.Kind=16
 ·rw[if_pos c];unfold xS;split
  ·exact t
  ·exact t.on fun b=>alS
 rw[if_neg c];exact t
theorem aIy{c:rP}(ok:qf c):oD (l9 c):=by
 refine⟨fun b a5=>?_,fun t aT=>(by cases aT),⟨by show (0:Int)≤1000; omega,by show (1000:Int)≤_; omega⟩,ok.kV,ok.width.1⟩;have a5:=(List.mem_replicate.1 a5).2;subst a5;have s:o_ c.lc 1000 (Gv c.lc) 0:=⟨by show (0:Int)≤1000; omega,rfl,fun h=>by cases h⟩
 have hw:=ok.width;exact⟨(Ye ok.kV).set 0 1000 c.jQ,s.set (by omega) (by omega)⟩
end
def Xm(jJ:List (Int×Int))(r:c5):Prop:=r.k=2→∀ o∈jJ,o.1=r.x.aD→o.2<r.t
theorem aFK{jJ:List (Int×Int)}{y:bF}(t:oD y)(h:∀ o∈jJ,o.2≤y.now):∀ b∈y.N,Dn (Xm jJ) b:=fun b a5=>by
 obtain⟨I,R⟩:=t.ok b a5;refine⟨fun r aa R=>absurd R aa,fun x N ah _ o hm _=>?_⟩;have:=(aHY (src:=b.src) (N:=N) I R t.kV t.now).2 ah;have:=h o hm;show o.2<(gL b.ax b.cO b.src N).2.2.1
 omega
structure pE(jJ:List (Int×Int))(k:Nat)(y:bF):Prop where
 ci:∃ az,ha (Xm jJ) k y az
 Ma:oD y
 jJ:∀ o∈jJ,o.2≤y.now
theorem Aw{y:bF}{i:Int}{f:br→br×Int}:(nh y i f).1.now=y.now:=by
 unfold nh;split
 ·rfl
 ·split<;>rfl
theorem Mp{y:bF}{i:Int}{f:br→br×Int}:(qR y i f).1.now=y.now:=by
 unfold qR;split<;>rfl
theorem aDw(y:bF)(a:aN):y.now≤(gD y a).1.now:=by
 unfold gD;by_cases c:a.x.Kind=0
 ·rw[if_pos c];unfold xf;split
  ·exact Int.le_refl _
  ·show y.now≤y.now+a.x.b; omega
 rw[if_neg c]; clear c;by_cases c:a.x.Kind=1
 ·rw[if_pos c];unfold vG;split
  ·exact Int.le_refl _
  ·rw[Aw]; exact Int.le_refl _
 rw[if_neg c]; clear c;by_cases c:a.x.Kind=2
 ·rw[if_pos c];unfold p1;split
  ·exact Int.le_refl _
  ·rw[Aw]; exact Int.le_refl _
 rw[if_neg c]; clear c;by_cases c:a.x.Kind=3
 ·rw[if_pos c];unfold qL;split
  ·exact Int.le_refl _
  ·simp only;split
   ·show y.now≤(nh y a.x.aQ nu).1.now; rw[Aw]; exact Int.le_refl _
   ·rw[Aw]; exact Int.le_refl _
 rw[if_neg c]; clear c;by_cases c:a.x.Kind=4
 ·rw[if_pos c];unfold pN;split
  ·exact Int.le_refl _
  ·rw[Aw]; exact Int.le_refl _
 rw[if_neg c]; clear c;by_cases c:a.x.Kind=5
 ·rw[if_pos c];unfold x0;split<;>exact Int.le_refl _
 rw[if_neg c]; clear c;by_cases c:a.x.Kind=6
 ·rw[if_pos c];exact Int.le_refl _
 rw[if_neg c]; clear c;by_cases c:a.x.Kind=7
 ·rw[if_pos c];unfold n4;split<;>exact Int.le_refl _
 rw[if_neg c]; clear c;by_cases c:a.x.Kind=8
 ·rw[if_pos c];unfold pL; rw[Mp]; exact Int.le_refl _
 rw[if_neg c]; clear c;by_cases c:a.x.Kind=9
 ·rw[if_pos c];unfold wH; rw[Mp]; exact Int.le_refl _
 rw[if_neg c]; clear c;by_cases c:a.x.Kind=10
 ·rw[if_pos c];show y.now≤(nX y a.x.aQ).1.now
  unfold nX; rw[Mp]; exact Int.le_refl _
 rw[if_neg c]; clear c;by_cases c:a.x.Kind=11
 ·rw[if_pos c];unfold uq; rw[Aw]; exact Int.le_refl _
 rw[if_neg c]; clear c;by_cases c:a.x.Kind=12
 ·rw[if_pos c];unfold tt;split
  ·exact Int.le_refl _
  ·split<;>exact Int.le_refl _
 rw[if_neg c]; clear c;by_cases c:a.x.Kind=13
 ·rw[if_pos c];show y.now≤(mN y a.x.aQ).1.now
  unfold mN;split
  ·exact Int.le_refl _
  ·split<;>exact Int.le_refl _
 rw[if_neg c]; clear c;by_cases c:a.x.Kind=14
 ·rw[if_pos c];unfold EV; rw[Aw]; exact Int.le_refl _
 rw[if_neg c]; clear c;by_cases c:a.x.Kind=15
 ·rw[if_pos c];unfold E3; rw[Mp]; exact Int.le_refl _
 rw[if_neg c]; clear c;by_cases c:a.x.Kind=16
 ·rw[if_pos c];unfold xS;split
  ·exact Int.le_refl _
  ·rw[Aw]; exact Int.le_refl _
 rw[if_neg c]; clear c;exact Int.le_refl _
theorem pE.act{jJ:List (Int×Int)}{k:Nat}{y:bF}(h:pE jJ k y)(aq:k≤49000){a:aN}(ok:tz a.x):pE jJ (k+2) (gD y a).1:=by
 obtain⟨az,a_⟩:=h.ci;obtain⟨ml,I,_⟩:=Yc a_ (aFK h.Ma h.jJ) aq ok;exact⟨⟨ml,I⟩,aIx h.Ma a,fun o hm=>Int.le_trans (h.jJ o hm) (aDw y a)⟩
theorem pE.lZ{jJ:List (Int×Int)}:∀ {cy:List aN} {k:Nat} {y:bF},pE jJ k y→qU cy→k+2*cy.length≤49000→pE jJ (k+2*cy.length) (qx y cy)
 |[],k,y,h,_,_=>h
 |a::cy,k,y,h,ok,aq=>by
  rw[List.length_cons] at aq ⊢;have:=pE.lZ (cy:=cy) (h.act (by omega) (ok a (List.mem_cons_self ..))) (fun e ao=>ok e (List.mem_cons_of_mem _ ao)) (by omega);rw[show k+2*(cy.length+1)=k+2+2*cy.length from by omega];exact this
theorem pE.alo{jJ:List (Int×Int)}{k o:Nat}{ki y:bF}(h:pE jJ k ki)(U:nx ki o y)(aq:k+2*o≤49000):∃ gf,gf≤k+2*o∧pE jJ gf y:=by
 obtain⟨aw,I,R,rfl⟩:=U;exact⟨_,by omega,h.lZ I (by omega)⟩
theorem aff:∀ (an:List c5) (s:Int→Bool) (id:Int),(s id=true∨∃ r∈an,r.k≠1∧r.x.aD=id)→(an.foldl xj s) id=true
 |[],s,id,h=>by
  rcases h with h | ⟨r,aa,_⟩
  ·exact h
  ·cases aa
 |r::an,s,id,h=>by
  refine aff an (xj s r) id ?_;unfold xj;rcases h with h | ⟨oT,aa,aq,hW⟩
  ·left;split
   ·exact h
   ·show (id==r.x.aD||s id)=true
    rw[h,Bool.or_true]
  ·rcases List.mem_cons.1 aa with rfl | aa
   ·left;rw[if_neg aq];show (id==oT.x.aD||s id)=true
    rw[hW]; simp
   ·exact .inr ⟨oT,aa,aq,hW⟩
theorem aHJ{P:List c5→Prop}(ah:P [])(I:∀ m x,P m→P (m++[x])):∀ m,P m:=by
 have key:∀ m,P (List.reverse m):=by
  intro m;induction m with
  |nil=>exact ah
  |cons x m cq=>rw[List.reverse_cons]; exact I _ _ cq
 intro m;have:=key m.reverse;rw[List.reverse_reverse] at this;exact this
theorem aGz:∀ (an:List c5),qY an→(∀ r∈an,r.k=2→jU r.t)→∀ id q,(iZ an).lookup id=some q→q.b8=2→∃ r∈an,r.k=2∧r.x.aD=id∧r.t=q.at_:=by
 refine aHJ (fun _ _ id q h=>by cases h) ?_
 ·intro an r cq aa aT id q h R;have ue:qY an:=by
   have:=aeo aa an.length;rw[List.take_left] at this;exact this
  have kY:=(aa an.length r (by simp)).2;rw[List.take_left] at kY;have cq:=cq ue (fun x F=>aT x (List.mem_append_left _ F));have up:(∃ x∈an,x.k=2∧x.x.aD=id∧x.t=q.at_)→∃ x∈an++[r],x.k=2∧x.x.aD=id∧x.t=q.at_:=fun ⟨x,F,l⟩=>⟨x,List.mem_append_left _ F,l⟩
  rw[Cz] at h;unfold nq at h;split at h
  ·rw[List.lookup_append] at h;cases al:(iZ an).lookup id with
   |some gK=>
    rw[al] at h;have h:some gK=some q:=h;rw[Option.some.inj h] at al;exact up (cq id q al R)
   |none=>
    rw[al] at h;simp only[Option.none_or,List.lookup] at h;split at h
    ·cases h; cases R
    ·cases h
  ·rename_i dx;split at h
   ·exact up (cq id q h R)
   ·rename_i p aF;rw[w6] at h;split at h
    ·rename_i l;rw[← l] at aF;rw[aF] at h;have h:ku p r=q:=Option.some.inj h;have iy:=BI an _ _ aF;by_cases cb:p.b8=0
     ·have Ae:=iy.2.2 cb;rcases kY with ⟨aq,_⟩ | ⟨aq,_⟩
      ·exact absurd aq dx
      ·rcases aq with aq | aq
       ·have hw:=(LU (x:=p.x) (r:=r) (by omega)).1 (aT r (List.mem_append_right _ (List.mem_singleton.2 rfl)) aq);rw[← Ae,h] at hw;exact⟨r,List.mem_append_right _ (List.mem_singleton.2 rfl),aq,l.symm,hw.2.symm⟩
       ·rw[← h] at R;unfold ku at R;rw[if_pos aq] at R;rcases XF p with ⟨_,bb,_⟩ | ⟨_,bb,_⟩
        ·omega
        ·omega
     ·have hw:=LS (r:=r) (p:=p) (by have:=iy.1; omega);rw[h] at hw;have:=cq id p aF (by rw[← hw.1]; exact R);rw[← hw.2] at this;exact up this
    ·exact up (cq id q h R)
theorem ha.imp{Q Xl:c5→Prop}{k:Nat}{y:bF}{az:List ft}(h:ha Q k y az)(f:∀ (i:Nat) (g:ft),az[i]?=some g→∀ r∈g.an,Q r→Xl r):ha Xl k y az:=
 ⟨h.len,h.pos,h.jb,fun i b g a5 O=>by
  have n:=h.nodes i b g a5 O
  exact⟨n.b4,⟨fun r aa=>f i g O r aa (n.cN.q r aa),n.cN.qe,n.cN.nr,n.cN.ours,n.cN.v0,n.cN.yT,n.cN.w7,n.cN.uk,n.cN.oe⟩,n.bi⟩,h.Cq,h.tj,h.a2,h.told,h.vF,h.xp,h.now,h.width,h.eR,h.kV⟩
theorem pE.add{jJ:List (Int×Int)}{k:Nat}{y:bF}(h:pE jJ k y){id:Int}{b:br}{p:bP}(a5:y.N[(Int.tmod id y.N.length).toNat]?=some b)(ah:0≤Int.tmod id y.N.length)(ag:b.K.down=false)(aF:b.P.lookup id=some p)(am:p.b8=0):pE ((id,y.now)::jJ) k y:=by
 obtain⟨az,a_⟩:=h.ci;refine⟨⟨az,a_.imp fun i g O r aa ba R o hm l=>?_⟩,h.Ma,fun o hm=>?_⟩
 ·rcases List.mem_cons.1 hm with rfl | hm
  ·exfalso;have ay:=(List.getElem?_eq_some_iff.1 O).1;have Pw:y.N[i]?=some (y.N[i]'(by rw[a_.len]; exact ay)):=List.getElem?_eq_getElem _;have aM:=a_.nodes i _ g Pw O;have aj:=aM.cN.ours r aa;have l:id=r.x.aD:=l;rw[← l,← a_.len] at aj;rw[aj,Int.toNat_natCast] at a5;rw[a5] at Pw;rw[← Option.some.inj Pw] at aM;have m:=aM.live ag;obtain⟨q,r8,he⟩:=(m.P id).1 p aF;have aH:=aff g.an (fun _=>false) id (.inr ⟨r,aa,by omega,l.symm⟩);have Af:=afe aM.cN.nr aM.cN.v0 g.an.length (Nat.le_refl _) id;rw[List.take_length] at Af;obtain⟨d,wO⟩:=Af aH;unfold kG at wO;rw[r8] at wO;have wO:lB q=some d:=wO;unfold lB at wO;rw[if_pos (by rw[← he.2.1]; exact am)] at wO;cases wO
  ·exact ba R o hm l
 ·rcases List.mem_cons.1 hm with rfl | hm
  ·exact Int.le_refl _
  ·exact h.jJ o hm
theorem aEB{jJ:List (Int×Int)}{k:Nat}{y:bF}(h:pE jJ k y){id t:Int}(am:x6 y id=(2,t)):∀ o∈jJ,o.1=id→o.2<t:=by
 obtain⟨az,a_⟩:=h.ci;unfold x6 at am;split at am
 ·cases am
 ·split at am
  ·cases am
  ·rename_i Y;obtain⟨b,ah,a5,ag⟩:=rY (Classical.not_not.1 Y);rw[a5] at am;have am:(match b.P.lookup id with | none=>((0:Int),(0:Int)) | some p=>(p.b8,p.at_))=(2,t):=am;cases aF:b.P.lookup id with
   |none=>rw[aF] at am; cases am
   |some p=>
    rw[aF] at am;have aS:p.b8=2:=congrArg Prod.fst am;have bb:p.at_=t:=congrArg Prod.snd am;obtain⟨g,O,aM⟩:=a_.sZ a5;have m:=aM.live ag;obtain⟨q,ba,he⟩:=(m.P id).1 p aF;obtain⟨r,aa,aq,hW,aT⟩:=aGz g.an aM.cN.nr aM.cN.v0 id q ba (by rw[← he.2.1]; exact aS);intro o hm l;have:=aM.cN.q r aa aq o hm (l.trans hW.symm);rw[aT,← he.2.2,bb] at this;exact this
theorem akC{K:c1}{V:nC}{x:List UInt8}(h:(gB K V x).2.2=0)(ag:K.down=false):(gB K V x).1.down=false:=by
 unfold gB at h ⊢;split
 ·rename_i c; rw[if_pos c] at h; cases h
 ·rename_i c;rw[if_neg c] at h;split
  ·rename_i bK; rw[if_pos bK] at h; cases h
  ·rename_i bK;rw[if_neg bK] at h;unfold oG km at h ⊢;split
   ·rename_i ck; simp only[if_pos ck] at h; cases h
   ·rename_i ck;simp only[if_neg ck] at h;split
    ·rename_i fv; simp only[if_pos fv] at h; cases h
    ·rename_i fv;simp only[if_neg fv] at h;split
     ·rename_i jC; simp only[if_pos jC] at h; cases h
     ·rename_i jC;simp only[if_neg jC] at h;split
      ·rename_i q8; simp only[if_pos q8] at h; cases h
      ·exact ag
theorem aC8{y:bF}{x:oE}(h:(p1 y x).2=0):∃ b,(p1 y x).1.N[(Int.tmod x.aD y.N.length).toNat]?=some b∧(p1 y x).1.N.length=y.N.length∧0≤Int.tmod x.aD y.N.length∧b.K.down=false∧b.P.lookup x.aD=some (jX x)∧(p1 y x).1.now=y.now:=by
 unfold p1 at h ⊢;split
 ·rename_i c; rw[if_pos c] at h; exact absurd h c
 ·rename_i c;rw[if_neg c] at h;have F:=(AP (Classical.not_not.1 c)).1;by_cases Y:gd y (Int.tmod x.aD y.N.length)=0
  ·obtain⟨b,ah,a5,ag⟩:=rY Y;rw[p2 ah a5 ag] at h ⊢;have ay:=(List.getElem?_eq_some_iff.1 a5).1;refine⟨_,List.getElem?_set_self ay,List.length_set ..,ah,?_⟩;unfold ti at h ⊢;split
   ·rename_i bK; rw[if_pos bK] at h; cases h
   ·rename_i bK;rw[if_neg bK] at h;unfold Co at h ⊢;split
    ·rename_i ck; rw[if_pos ck] at h; exact absurd h ck
    ·rename_i ck;refine⟨akC (Classical.not_not.1 ck) ag,?_,rfl⟩;show (b.P++[(x.aD,jX x)]).lookup x.aD=_
     rw[List.lookup_append];cases l:b.P.lookup x.aD with
     |none=>simp
     |some p=>rw[l] at bK; exact absurd rfl bK
  ·rw[vE Y] at h;exact absurd h Y
def uF(f:Nat→Int)(G:Nat)(v:Int):Nat→Int:=fun D=>if D=G then v else f D
def sa(f:Nat→Int)(n:Nat):List Value:=(List.range n).map fun D=>Value.int .i64 (f D)
theorem akP{f:Nat→Int}{n G:Nat}(h:G<n):at_ (sa f n) G 1=[Value.int .i64 (f G)]:=by
 unfold at_ sa;rw[List.drop_eq_getElem_cons (by simpa using h)];simp
theorem aHS{f:Nat→Int}{n G:Nat}{v:Int}(h:G<n):jM (sa f n) G [Value.int .i64 v]=sa (uF f G v) n:=by
 have l:jM (sa f n) G [Value.int .i64 v]=(sa f n).set G (Value.int .i64 v):=by
  unfold jM;have al:G<(sa f n).length:=by unfold sa; simpa using h
  rw[List.set_eq_take_append_cons_drop,if_pos al];simp
 rw[l];unfold sa;apply List.ext_getElem?;intro D;rw[List.getElem?_set,List.getElem?_map,List.getElem?_map,List.length_map,List.length_range];by_cases c:G=D
 ·subst c;rw[if_pos rfl,if_pos h,List.getElem?_range h];simp[uF]
 ·rw[if_neg c];by_cases bT:D<n
  ·rw[List.getElem?_range bT];simp[uF,Ne.symm c]
  ·rw[List.getElem?_eq_none (by simpa using bT)];rfl
def ly(e:Nat)(t:TypeId)(f:Nat→Int):bE:=aJ e (sa f 60) t
section
variable {A w:World} {m bX:List bE}
theorem Gl{e:Nat}{i:Nat}(h:i<60):oA ⟨e,0,none⟩ 60 1 (i:Int) ⟨e,i,none⟩:=⟨by omega,by omega,by simp[Addr.add]⟩
theorem Ov{e G:Nat}{t:TypeId}{f:Nat→Int}(H:E A (ly e t f::m) w)(aj:G<60):L (B .i64) ⟨e,G,none⟩ w (f G):=
 bO (B .i64) H rfl (akP aj)
theorem XL{e G:Nat}{t:TypeId}{f:Nat→Int}{v:Int}{ab:World→Prop}(i:Nat)(H:E A m w)(ay:front i m=ly e t f::bX)(aj:G<60)(aq:∀ J,E A (ly e t (uF f G v)::bX) J→ab J):bi (B .i64) ⟨e,G,none⟩ v w ab:=by
 refine dK (bd:=sa f 60) (G:=G) i H ay rfl (by unfold sa; simp; omega) fun J H=>aq J ?_;have l:jM (sa f 60) G ((B .i64).cells v)=sa (uF f G v) 60:=aHS aj;rw[l] at H;exact H
end
theorem ha.plain{Q:c5→Prop}{k:Nat}{y:bF}{az:List ft}(h:ha Q k y az):k_ k y az:=h.imp fun _ _ _ _ _ _=>trivial
def N8(jJ:List (Int×Int))(ids pJ:Nat→Int):Prop:=∀ i,i<60→ids i=0∨∃ o∈jJ,o.1=ids i∧pJ i≤o.2
theorem aEC(A:World)(c:rP)(s:af)(gc:xF A c)(bD:tC A s) :
  M Pg 4 [gA.enc c,X.enc s] bo A fun r lW=>r=true∧RowKit.Below A.heap.size A lW:=by
 obtain⟨cy,us,c6⟩:=Gi bD;have dx:=HG (w2 A) c6;have H:=E.start A;have done:∀ {r:Bool} {w:World} {N:List bE},r=true→E A (N++[old A]) w→r=true∧RowKit.Below A.heap.size A w:=fun {r w N} aa H=>⟨aa,ca.below ((w2 A).mo N) H⟩
 refine ai0 ?_;unfold We;refine bR H fun e w H=>?_;refine ez (x:=c) 0 H rfl ?_;refine ap (Rr gc.2.1 gc.2.2.1 H) ?_;rintro⟨g2,bA⟩ w ⟨I,R⟩;by_cases U:qf c
 ·obtain⟨bN,au,aa,H⟩:=R U;simp only at aa bN;subst aa; subst bN;refine ap (tQ H) ?_;rintro r w ⟨rfl,H⟩;rw[if_neg (by simp)];refine bR H fun fp w H=>?_;have H:E A (ly fp 46 (fun _=>0)::cn au (l9 c)::aJ e (gA.cells c) 24::[old A]) w:=H;refine bR H fun ek w H=>?_;have H:E A (ly ek 47 (fun _=>0)::ly fp 46 (fun _=>0)::cn au (l9 c)::aJ e (gA.cells c) 24::[old A]) w:=H;have H:E A (cn au (l9 c)::aJ e (gA.cells c) 24::ly fp 46 (fun _=>0)::ly ek 47 (fun _=>0)::[old A]) w:=H.ord [2,3,1,0];have ua:pE [] 0 (l9 c):=⟨⟨_,DL U⟩,aIy U,fun o hm=>by cases hm⟩
  have ZS:N8 [] (fun _=>0) (fun _=>0):=fun i _=>.inl rfl;refine ia (fun i w=>∃ D:Nat,i=(D:Int)∧D≤cy.length∧D≤60∧∃ y jJ ids pJ,pE jJ (2*D) y∧y.eH=c∧N8 jJ ids pJ∧(∀ i,D≤i→pJ i=0)∧E A (cn au y::aJ e (gA.cells c) 24::ly fp 46 ids::ly ek 47 pJ::[old A]) w) (fun i=>((60:Int)-i).toNat) ⟨0,rfl,by omega,by omega,l9 c,[],_,_,ua,rfl,ZS,fun _ _=>rfl,H⟩ ?_;clear H ua ZS I R;rintro i w ⟨D,rfl,bT,Ei,y,jJ,ids,pJ,ua,Z6,Pv,yd,H⟩ ab cg;have ef:ca (aJ e (gA.cells c) 24::ly fp 46 ids::ly ek 47 pJ::[old A]) (uM s cy):=dx.tail.tail.tail;have Cd:ca (aJ e (gA.cells c) 24::ly fp 46 ids::ly ek 47 pJ::[old A]) (dd lg s (cy.map (·.x))):=ef.imp fun _ h=>h.1;have aH:=Cd.len H.drop;rw[List.length_map] at aH;obtain⟨az,aoT⟩:=ua.ci;have a_:=aoT.plain;unfold NE;rw[aH];split
  ·rename_i dZ;have dZ:D<cy.length∧D<60:=by simp at dZ; omega
   have aS:IntKind.i64.wrap ((D:Int)+1)=((D+1:Nat):Int):=by rw[wrap_i64 (by omega) (by omega)]; omega
   obtain⟨a,Y⟩:=Cd.tail.iH (ar:=10) (i:=(D:Int)) H (by omega) (by rw[List.length_map]; omega);have F:(cy.map (·.x))[((D:Int)).toNat]?=some (cy[D]'dZ.1).x:=by rw[Int.toNat_natCast,List.getElem?_map,List.getElem?_eq_getElem dZ.1]; rfl
   have aF:=abE ef dZ.1;have dA:=us _ (List.getElem_mem dZ.1);generalize cy[D]'dZ.1=p at F aF dA;refine aR a Y ?_;refine aR p.x (Cd.tail.rd (fun _=>rfl) Y F H) ?_;have ms:p.x.N.len≤p.x.N.cap∧p.x.gO.len≤p.x.gO.cap:=by
    obtain⟨aZ,_,h⟩:=ca.pP aF H.drop;exact⟨h.1.1,h.2.1⟩
   refine ap (Pb ms.1 ms.2 (aF.tail.imp fun _ h=>h.1.2) (aF.tail.imp fun _ h=>h.2.2) H) ?_;rintro r w ⟨s1,s2,rfl,H⟩;refine bR H fun iS w H=>?_;refine de (x:=Bt) (S:=({ p.x with N:=s1,gO:=s2 }:qT)) Rb 0 H rfl fun w H=>?_;refine ez (x:=({ p.x with N:=s1,gO:=s2 }:qT)) 0 H rfl ?_;have H:=H.front 3;have gS:dr 1 (aJ iS (lg.cells { p.x with N:=s1,gO:=s2 }) 35::ro (B .i64) s1 (p.N.take 10)::ro (B .i64) s2 (p.ab.take 4)::aJ e (gA.cells c) 24::ly fp 46 ids::ly ek 47 pJ::[old A]) (B .i64) s1 (p.N.take 10):=dr.tail (dr.ro (fun _=>rfl) (ca.here (o:=dd.mono)));have gu:dr 1 (aJ iS (lg.cells { p.x with N:=s1,gO:=s2 }) 35::ro (B .i64) s1 (p.N.take 10)::ro (B .i64) s2 (p.ab.take 4)::aJ e (gA.cells c) 24::ly fp 46 ids::ly ek 47 pJ::[old A]) (B .i64) s2 (p.ab.take 4):=dr.tail (dr.tail (dr.ro (fun _=>rfl) (ca.here (o:=dd.mono))))
   refine ap (JL (a_.ok (by omega)) a_.c3 ⟨dA.n⟩ gS gu (by rw[List.length_take]; omega) (by rw[List.length_take]; omega) H) ?_;rintro r w ⟨aa,H⟩;have l:gD y ⟨{ p.x with N:=s1,gO:=s2 },p.N.take 10,p.ab.take 4⟩=gD y (pf p):=rfl;rw[l] at aa H;subst aa;refine aR p.x.Kind (fun _=>bO (B .i64) (H.front 1) rfl rfl) ?_;have J6:=ua.act (by omega) (a:=pf p) dA;obtain⟨_,_,_,_,GX,_⟩:=OI a_ (by omega) (a:=pf p) dA;have GX:=GX.trans Z6;have jG:2*D+2=2*(D+1):=by omega
   rw[jG] at J6;have next:∀ (w:World) (j:Bool→World→Prop) (gl:bF) (K8:List (Int×Int)) (KC q4:Nat→Int),pE K8 (2*(D+1)) gl→gl.eH=c→N8 K8 KC q4→(∀ i,D+1≤i→q4 i=0)→E A (cn au gl::aJ e (gA.cells c) 24::ly fp 46 KC::ly ek 47 q4::[old A]) w→FQ (D:Int) w ab j:=by
    intro w j gl K8 KC q4 lY a1 aA a9 H;unfold FQ;rw[aS];exact cg _ _ ⟨D+1,rfl,by omega,by omega,gl,K8,KC,q4,lY,a1,aA,a9,H⟩ (by omega)
   split
   ·rename_i Ha;have Ha:(gD y (pf p)).2=0∧p.x.Kind=2:=by simpa using Ha
    have BG:gD y (pf p)=p1 y p.x.cm:=by
     unfold gD pf;simp only;rw[if_neg (by omega),if_neg (by omega),if_pos Ha.2]
    rw[BG] at Ha H J6 GX;obtain⟨b,hp,j_,jW,abY,jI,Rj⟩:=aC8 Ha.1;have D9:=J6.add (id:=p.x.cm.aD) (b:=b) (p:=jX p.x.cm) (by rw[j_]; exact hp) (by rw[j_]; exact jW) abY jI rfl;generalize (p1 y p.x.cm).1=gl at *;refine ak (x:=p.x.cm.aD) 1 H rfl rfl rfl ?_;refine aR ⟨fp,D,none⟩ (Gl dZ.2) ?_;refine XL 5 H rfl dZ.2 fun w H=>?_;have H:E A (cn au gl::aJ e (gA.cells c) 24::ly fp 46 (uF ids D p.x.cm.aD)::ly ek 47 pJ::[old A]) w:=(((H.ord [2,3,4]).drop.drop.drop).ord [1,2,0])
    obtain⟨rQ,Ps⟩:=D9.ci;have s3:=Ps.plain;refine ap (CU (s3.ok (by omega)) H) ?_;intro t w H;have yD:=gG H;have aaF:=s3.xp;refine ia (fun i w=>∃ o:Nat,i=(o:Int)∧o≤gl.told.length∧∃ q4,q4 D≤gl.now∧(∀ i,i≠D→q4 i=pJ i)∧E A (row is 53 3 t gl.told::cn au gl::aJ e (gA.cells c) 24::ly fp 46 (uF ids D p.x.cm.aD)::ly ek 47 q4::[old A]) w) (fun i=>((gl.told.length:Int)-i).toNat) ⟨0,rfl,by omega,pJ,by rw[yd D (Nat.le_refl _)]; exact s3.now.1,fun _ _=>rfl,H⟩ ?_;clear H;rintro i w ⟨o,rfl,hm,q4,Z1,z5,H⟩ F7 t_;unfold NF;rw[yD];split
    ·rename_i s7;have s7:o<gl.told.length:=by
      have:(o:Int)<gl.told.length:=by simpa using s7
      omega
     have dn:IntKind.i64.wrap ((o:Int)+1)=((o+1:Nat):Int):=by rw[wrap_i64 (by omega) (by omega)]; omega
     have r9:gl.told[((o:Int)).toNat]?=some (gl.told[o]'s7):=by rw[Int.toNat_natCast]; exact List.getElem?_eq_getElem s7
     have aaG:=D9.Ma.told _ (List.getElem_mem s7);generalize gl.told[o]'s7=q at r9 aaG;refine dy H fun w H=>?_;obtain⟨a1,oM⟩:=k3 (i:=(o:Int)) H (by omega) (by omega);refine aR a1 oM ?_;refine aR q.oz (ql (fun _=>rfl) oM r9 rfl H) ?_;refine aR a1 (fun _=>oM) ?_;refine aR ⟨ek,D,none⟩ (fun _=>Gl dZ.2) ?_;refine aR q.b9 (fun _=>ql (fun _=>rfl) oM r9 rfl H) ?_;refine aR (q4 D) (fun _=>Ov (H.front 4) dZ.2) ?_;split
     ·rename_i ba;have ba:q.oz=2∧q4 D<q.b9:=by simpa using ba
      refine aR a1 oM ?_;refine aR q.b9 (ql (fun _=>rfl) oM r9 rfl H) ?_;refine aR ⟨ek,D,none⟩ (Gl dZ.2) ?_;refine XL 4 H rfl dZ.2 fun w H=>?_;unfold FR;rw[dn];refine t_ _ _ ⟨o+1,rfl,by omega,uF q4 D q.b9,?_,fun i ay=>?_,H.ord [1,2,3,4,0]⟩ (by omega)
      ·unfold uF;rw[if_pos rfl];exact aaG ba.1
      ·unfold uF;rw[if_neg ay];exact z5 i ay
     ·unfold FR;rw[dn];exact t_ _ _ ⟨o+1,rfl,by omega,q4,Z1,z5,H⟩ (by omega)
    ·refine next _ _ gl _ _ q4 D9 GX (fun i ay=>?_) (fun i ay=>?_) H.drop
     ·by_cases l:i=D
      ·subst l;exact .inr ⟨_,List.mem_cons_self ..,by unfold uF; rw[if_pos rfl],Z1⟩
      ·unfold uF;rw[if_neg l,z5 i l];rcases Pv i ay with h | ⟨x,F,h⟩
       ·exact .inl h
       ·exact .inr ⟨x,List.mem_cons_of_mem _ F,h⟩
     ·rw[z5 i (by omega)];exact yd i (by omega)
   ·have H:=((H.ord [1,2,3]).drop.drop.drop)
    exact next _ _ _ jJ ids pJ J6 GX Pv (fun i ay=>yd i (by omega)) H
  ·have qo:=a_.jb;rw[Z6] at qo;refine ak (x:=c.hQ) 1 H rfl rfl rfl ?_;rw[qo];refine ap (SN a_ (by omega) H) ?_;rintro r w ⟨rfl,jP,z0,D_,H⟩;rw[if_neg (by simp)];obtain⟨g0,Ki,D9⟩:=ua.alo z0 (by omega);have B0:g0≤48000:=by omega
   obtain⟨rQ,Ps⟩:=D9.ci;have s3:=Ps.plain;refine ia (fun i w=>∃ D:Nat,i=(D:Int)∧D≤60∧E A (cn au jP::aJ e (gA.cells c) 24::ly fp 46 ids::ly ek 47 pJ::[old A]) w) (fun i=>((60:Int)-i).toNat) ⟨0,rfl,by omega,H⟩ ?_;clear H cg ab;clear yd bT Ei;rintro i w ⟨D,rfl,bT,H⟩ ab cg;unfold NG;split
   ·rename_i dZ;have dZ:D<60:=by
     have:(D:Int)<60:=by simpa using dZ
     omega
    have aS:IntKind.i64.wrap ((D:Int)+1)=((D+1:Nat):Int):=by rw[wrap_i64 (by omega) (by omega)]; omega
    refine aR ⟨fp,D,none⟩ (Gl dZ) ?_;refine aR (ids D) (Ov (H.front 2) dZ) ?_;refine ap (u_ s3 (by omega) H) ?_;rintro r w ⟨aa,H⟩;refine aR ⟨ek,D,none⟩ (fun _=>Gl dZ) ?_;refine aR (pJ D) (fun _=>Ov (H.front 3) dZ) ?_;rw[if_neg,aS]
    ·exact cg _ _ ⟨D+1,rfl,by omega,H⟩ (by omega)
    ·intro h;have h:r.1=2∧r.2≤pJ D:=by simpa using h
     obtain⟨f,t⟩:=r;simp only at h;obtain⟨rfl,h⟩:=h;rcases Pv D dZ with l | ⟨o,hm,l,ll⟩
     ·rw[l] at aa;unfold x6 at aa;rw[if_pos (by omega)] at aa;cases aa
     ·have:=aEB D9 aa.symm o hm l;omega
   ·exact done (N:=[_,_,_,_]) rfl H
 ·obtain⟨aa,H⟩:=I U;cases aa;refine ap (tQ H) ?_;rintro r w ⟨rfl,H⟩;rw[if_pos (by simp)];refine ap (tQ H) ?_;rintro r w ⟨rfl,H⟩;exact done (N:=[_]) rfl H
end Cluster
section
open bj
theorem aI9(A:World)(c:kU)(s:af)(gc:xF A c)(bD:tC A s) :
  M Pg 4 [hr.enc c,X.enc s] bo A fun r lW=>r=true∧RowKit.Below A.heap.size A lW:=Cluster.aEC A c s gc bD
end
end Go.Proofs.YthaobmpdjcoheaaGreat
