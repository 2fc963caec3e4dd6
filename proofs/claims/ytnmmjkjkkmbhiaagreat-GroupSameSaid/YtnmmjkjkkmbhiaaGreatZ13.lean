/- Own texts of this claim, part 13: short, merged. -/
import Derived.Test.YtnmmjkjkkmbhiaaGreatZ12
set_option exponentiation.threshold 4000
set_option linter.unusedSectionVars false
set_option maxRecDepth 100000
set_option maxHeartbeats 40000000
set_option linter.defProp false
set_option linter.unusedVariables false
set_option linter.unusedSimpArgs false
namespace Go.Proofs.YtnmmjkjkkmbhiaaGreat
namespace dO
open ba Wire Disk Ballot
open Vault (cf Fit dF)
open Shard (dU gq k2 mO kd jx ir)
section
variable {y w:World} {c bx:List bt} [fP]
theorem Se{aB:Nat}{x:zA}{b:Int}(H:E y (aN aB (jD.cells x) 66::c) w) :
  L Pg 48 [.pointer (some ⟨aB,0,none⟩),.int .i64 b] cJ w fun _ I=>∃ n p:Nat,E y (aN aB (jD.cells { x with zL:=b,leads:=false,last:=0,VZ:=some n,WY:=some p }) 66::bR O .i64 n []::bR aM .i64 p []::c) I:=by
 refine acl ?_;unfold QV;refine b2 rfl ?_;refine eg (x:=b) 0 H rfl rfl (Nat.le_of_ble_eq_true rfl) fun w H=>?_;refine eg (x:=false) 0 H rfl rfl (Nat.le_of_ble_eq_true rfl) fun w H=>?_;refine eg (x:=(0:Int)) 0 H rfl rfl (Nat.le_of_ble_eq_true rfl) fun w H=>?_;refine qB H fun n w H=>?_;have H:=qz O .i64 H;refine qB H fun p w H=>?_;have H:=qz aM .i64 H;refine eg (x:=some n) 2 H rfl rfl (Nat.le_of_ble_eq_true rfl) fun w H=>?_;refine eg (x:=some p) 0 H rfl rfl (Nat.le_of_ble_eq_true rfl) fun w H=>?_;exact⟨n,p,H.ord [0,2,1]⟩
theorem ayc{aB:Nat}{x:zA}{out:List RP}{bw:Int}{m:RR}(ab:out.length≤1000000000000)(H:E y (aN aB (jD.cells x) 66::row lJ 147 7 x.out out::c) w) :
  L Pg 54 [.pointer (some ⟨aB,0,none⟩),.int .i64 bw,iK.enc m] cJ w fun _ I=>∃ q:X,E y (aN aB (jD.cells { x with out:=q }) 66::row lJ 147 7 q (out++[⟨bw,m⟩])::c) I:=by
 refine acs ?_;unfold Q2;refine cj H fun mQ w H=>?_;refine dH H fun w H=>?_;refine b2 rfl ?_;refine an (x:=x.out) 1 H rfl rfl rfl ?_;refine gV (x:=m) 0 H rfl ?_;refine me (fun _=>rfl) 2 H rfl (by simp; omega) fun r w H=>?_;refine⟨cW iK (H.front 1) rfl (EW _),?_⟩;refine eg (x:=r) 2 H rfl rfl (Nat.le_of_ble_eq_true rfl) fun w H=>?_;exact⟨r,(H.front 2).drop⟩
theorem zb{R:List (X×List dd)}:cn (jy R::c) (nY R):=cn.here (m:=nY.mono)
theorem AK{aG:b9}:dL fH er [] aG:=⟨rfl,.inl rfl⟩
theorem au1(cP:List (X×Int×dv))(s:X)(bw:Int)(wd:dv):da (cP++[(s,bw,wd)])=da cP++[(s,wd.c)]:=by simp[da]
theorem yw{aB:Nat}{m:bn}{bw:Int}{s:X}{wd:dv}(ab:m.out.length≤1000000000000)(k:cn c (dL fH s wd.c))(H:E y (eM aB m::c) w) :
  L Pg 54 [.pointer (some ⟨aB,0,none⟩),.int .i64 bw,iK.enc (aX s wd)] cJ w fun _ I=>E y (eM aB (pj m bw wd)::c) I:=by
 obtain⟨q,ap,H⟩:=hG H;have m1:(q.cP.map kr).length≤1000000000000:=by
  have:=congrArg List.length ap.A;rw[List.length_map] at this ⊢;omega
 refine aE (ayc (x:=l1 m q) m1 (H.ord [0,7])) ?_;rintro _ w ⟨A,H⟩;have H:=H.ord [8,0,2,3,4,5,6,7,1];have sA:cn (jy (da q.cP++kw q.ar)::aN aB (jD.cells { l1 m q with out:=A }) 66::gp q.a q.d m.ai::bR dT .i64 q.j6 m.bO::nr aB q.v m.V::bR O .i64 q.ju (q.ar.map hy)::bR aM .i64 q.hk (q.P.map jg)::de (q.P.map kO)::row lJ 147 7 A (q.cP.map kr++[⟨bw,aX s wd⟩])::c) (nY (da (q.cP++[(s,bw,wd)])++kw q.ar)):=
  (zb.and (k.k0 [_, _, _, _, _, _, _, _, _])).imp fun aG b6 t ak => by
   rw[au1] at ak;rcases List.mem_append.1 ak with ak | ak
   ·rcases List.mem_append.1 ak with ak | ak
    ·exact b6.1 t (List.mem_append.2 (.inl ak))
    ·rw[List.mem_singleton.1 ak]; exact b6.2
   ·exact b6.1 t (List.mem_append.2 (.inr ak))
 have H:=(E.vh (m:=nY.mono) sA H).ord [1] |>.drop
 refine fl (m:=pj m bw wd) (q:={ q with out:=A,cP:=q.cP++[(s,bw,wd)] }) ⟨?_,ap.n,ap.p⟩ ?_
 ·simp only[List.map_append,ap.A]; rfl
 ·have e:(q.cP++[(s,bw,wd)]).map kr=q.cP.map kr++[⟨bw,aX s wd⟩]:=by simp[kr]
  have H:E y (nH aB (pj m bw wd) { q with out:=A,cP:=q.cP++[(s,bw,wd)] } c) w:=by
   unfold nH;simp only[e];exact H.ord [1,2,3,4,5,6,7,8,0]
  exact H
theorem BL{aw:Nat}{s:X}{gJ:dz}{n:Nat}(aO:n≤1000)(aF:s.len=n)(am:M O ((⟨aw,0,none⟩:Addr).add 1) w s)(eV:Nat→World→Prop)(tj:eV 0 w)
  (step:∀ (k:Nat) w,k<n→eV k w→v9 Pg gJ [.int .i64 (k:Int)] cJ w fun _ I=>eV (k+1) I) :
  L Pg 52 [.pointer (some ⟨aw,0,none⟩),gJ.enc] cJ w fun _ I=>eV n I:=by
 refine acq ?_;unfold Q0;refine b2 rfl ?_;refine aQ s am ?_;refine hU (fun i w=>∃ k:Nat,i=(k:Int)∧k≤n∧eV k w) (fun i=>((n:Int)-i).toNat) ⟨0,rfl,by omega,tj⟩ ?_;rintro i w ⟨k,rfl,al,tj⟩ aa b7;unfold IE;simp only[aF];split
 ·rename_i o;have o:k<n:=by simpa using o
  refine St (step k w o tj) ?_;intro _ w tj;have aT:IntKind.i64.wrap ((k:Int)+1)=((k+1:Nat):Int):=by rw[wrap_i64 (by omega) (by omega)]; omega
  rw[aT];exact b7 _ _ ⟨k+1,rfl,by omega,tj⟩ (by omega)
 ·rename_i o;have o:¬ k<n:=by simpa using o
  have:k=n:=by omega
  subst this;exact tj
theorem L2{aw:Nat}{s:X}{n k:Nat}(aO:n≤1000)(al:k≤1000000)(aF:s.len=n)(am:M O ((⟨aw,0,none⟩:Addr).add 1) w s)(H:E y c w) :
  L Pg 118 [.pointer (some ⟨aw,0,none⟩),.int .i64 (k:Int)] bi w fun r I=>r=decide (n<2*k)∧E y c I:=by
 refine aan ?_;unfold O1;refine b2 rfl ?_;refine aQ s am ?_;refine⟨?_,H⟩;rw[aF,wrap_i64 (by omega) (by omega),Bool.eq_iff_iff,decide_eq_true_eq,decide_eq_true_eq];omega
theorem xV{aw:Nat}{z:cu}{p:ia}(ap:j2 z p)(H:E y (jP aw z p c) w):p.c.len=z.R.length:=by
 have:=ho (H.front 1);rw[List.length_map,Ca ap] at this;exact this
theorem Tu{aw:Nat}{z:cu}{p:ia}(H:E y (jP aw z p c) w):M O ((⟨aw,0,none⟩:Addr).add 1) w p.c:=by
 rw[iN];exact cW O H rfl rfl
theorem Cf{z:cu}{p:ia}(ap:j2 z p){i:Nat}{m:bn}(h:z.R[i]?=some m):∃ aB:Nat,p.Q[i]?=some (aB,m):=by
 rw[← ap.q,List.getElem?_map] at h;cases a5:p.Q[i]? with
 |none=>rw[a5] at h; cases h
 |some t=>
  rw[a5] at h;cases h;exact⟨t.1,rfl⟩
@[reducible] def eD[fP](aw:Nat)(z:cu)(p:ia)(i:Nat)(c:List bt):List bt:=aN aw (lI.cells (qk z p)) 49::row aM 57 1 p.c (p.Q.map na)::de ((p.Q.eraseIdx i).map hV)::Post.gW p.cq (hi z p)::jy (mV p.a2)::c
theorem m9{aw:Nat}{z:cu}{p:ia}{i:Nat}{t:Nat×bn}(h:p.Q[i]?=some t)(H:E y (jP aw z p c) w):E y (eM t.1 t.2::eD aw z p i c) w:=by
 obtain⟨hO,xp,ku,aj⟩:=AR h;have e:p.Q.eraseIdx i=hO++xp:=by rw[ku,← aj,List.eraseIdx_append_of_length_le (Nat.le_refl _)]; simp
 unfold jP at H;have H:=H.front 2;rw[show de (p.Q.map hV)=de ((hO++t::xp).map hV) from by rw[← ku]] at H;have H:=xM H;unfold eD;rw[e];exact H.ord [0,2,3,1]
theorem VQ{aw:Nat}{z:cu}{p:ia}{i:Nat}{aB:Nat}{m dD:bn}(ap:j2 z p)(h:p.Q[i]?=some (aB,m))(H:E y (eM aB dD::eD aw z p i c) w) :
  ∃ wO:ia,j2 (hK z i dD) wO∧wO.c=p.c∧wO.cq=p.cq∧wO.a2=p.a2∧wO.Q[i]?=some (aB,dD)∧(∀ l,l≠i→wO.Q[l]?=p.Q[l]?)∧E y (jP aw (hK z i dD) wO c) w:=by
 obtain⟨hO,xp,ku,aj⟩:=AR h;have e:p.Q.eraseIdx i=hO++xp:=by rw[ku,← aj,List.eraseIdx_append_of_length_le (Nat.le_refl _)]; simp
 have a0:p.Q.set i (aB,dD)=hO++(aB,dD)::xp:=by rw[ku,← aj,List.set_append_right _ _ (Nat.le_refl _)]; simp
 have aq:=(List.getElem?_eq_some_iff.1 h).1;refine⟨{ p with Q:=p.Q.set i (aB,dD) },⟨?_,?_,ap.g⟩,rfl,rfl,rfl,List.getElem?_set_self aq,fun l a7=>List.getElem?_set_ne (fun e=>a7 e.symm),?_⟩
 ·have Z:=ap.r;rw[ku] at Z;show fP.rows ((p.Q.set i (aB,dD)).map Prod.fst)
  rw[a0];simpa using Z
 ·simp only[hK,List.map_set,ap.q]
 ·unfold eD at H;rw[e] at H;have H:E y (hV (aB,dD)::de ((hO++xp).map hV)::aN aw (lI.cells (qk z p)) 49::row aM 57 1 p.c (p.Q.map na)::Post.gW p.cq (hi z p)::jy (mV p.a2)::c) w:=H.ord [0,3,1,2];have H:=xL H;have cS:(hO++(aB,dD)::xp).map na=p.Q.map na:=by rw[ku]; simp[na]
  have j9:∀ K,hi (hK z i dD) { p with Q:=K }=hi z p:=fun K=>by unfold hi hK; simp
  unfold jP;simp only[a0,cS,j9];exact H.ord [1,2,0]
theorem oV{aw:Nat}{z:cu}{p:ia}{i:Int}(ap:j2 z p)(aH:z.R.length≤1000)(H:E y (jP aw z p c) w) :
  L Pg 49 [.pointer (some ⟨aw,0,none⟩),.int .i64 i] (bJ aM (D .i64)) w fun r I=>(match fX z i with
    |.error e=>r=(none,e)∧e≠0
    |.ok m=>∃ aB:Nat,0≤i∧p.Q[i.toNat]?=some (aB,m)∧r=(some ⟨aB,0,none⟩,0))∧E y (jP aw z p c) I:=by
 refine acm ?_;unfold QW;have aO:=xV ap H;refine aQ ⟨aw,0,none⟩ (fun _=>rfl) ?_;refine aQ p.c (fun _=>Tu H) ?_;rw[aO];by_cases o:i<0∨(z.R.length:Int)≤i
 ·rw[if_pos (by simp only[Bool.or_eq_true,decide_eq_true_eq]; omega)];have e:fX z i=.error 251:=by
   unfold fX;by_cases am:i<0
   ·rw[if_pos am]
   ·rw[if_neg am,List.getElem?_eq_none (by omega)]
  rw[e];exact⟨⟨rfl,by omega⟩,H⟩
 ·rw[if_neg (by simp only[Bool.or_eq_true,decide_eq_true_eq]; omega)];have F:z.R[i.toNat]?=some (z.R[i.toNat]'(by omega)):=List.getElem?_eq_getElem (by omega);generalize z.R[i.toNat]'(by omega)=m at F;obtain⟨aB,a5⟩:=Cf ap F;have e:fX z i=if m.ai.ah.down=true then .error 252 else .ok m:=by unfold fX; rw[if_neg (by omega),F]
  rw[e];have Ul:(p.Q.map na)[i.toNat]?=some (some ⟨aB,0,none⟩):=by rw[List.getElem?_map,a5]; rfl
  have aj:=Ca ap;refine b2 rfl ?_;refine an (x:=p.c) 0 H rfl rfl rfl ?_;obtain⟨a,ag⟩:=ih (i:=i) (H.front 1) (by omega) (by rw[List.length_map]; omega);refine aQ a ag ?_;refine aQ (some ⟨aB,0,none⟩) (lz (fun _=>rfl) ag Ul (H.front 1)) ?_;refine b2 rfl ?_;have eL:=m9 a5 H;obtain⟨q,hm,eL⟩:=hG eL;refine an (x:=some ⟨q.d,0,none⟩) 0 eL rfl rfl rfl ?_;obtain⟨gR,f_,lh⟩:=pv (eL.front 1);refine aE (Fc (lh.front 3)) ?_;rintro r w ⟨rfl,lh⟩;have eL:=nw (lh.ord [1,2,3,0]);have eL:=fl hm (eL.front 1);obtain⟨vq,pD,aT,a0,cS,j9,ny,H⟩:=VQ ap a5 eL;have es:hK z i.toNat m=z:=by
   unfold hK;have:z.R.set i.toNat m=z.R:=by
    apply List.ext_getElem?;intro l;by_cases qh:i.toNat=l
    ·subst qh;rw[List.getElem?_set_self (by omega),F]
    ·rw[List.getElem?_set_ne qh]
   rw[this]
  have Fj:vq=p:=by
   have:vq.Q=p.Q:=by
    apply List.ext_getElem?;intro l;by_cases qh:l=i.toNat
    ·subst qh;rw[j9,a5]
    ·exact ny l qh
   cases vq; cases p;simp only at aT a0 cS this;subst aT; subst a0; subst cS; subst this;rfl
  rw[es,Fj] at H;by_cases cd:m.ai.ah.down=true
  ·rw[if_pos cd,if_pos cd];exact⟨⟨rfl,by omega⟩,H⟩
  ·rw[if_neg cd,if_neg cd];refine an (x:=p.c) 0 H rfl rfl rfl ?_;refine aQ a ag ?_;refine aQ (some ⟨aB,0,none⟩) (lz (fun _=>rfl) ag Ul (H.front 1)) ?_;exact⟨⟨aB,by omega,a5,rfl⟩,H⟩
end
end dO
namespace dO
open ba Wire Disk Ballot
open Vault (cf Fit dF)
open Shard (dU gq k2 mO kd jx ir jb C1)
theorem C3{S ev iq:Type}{a:iq→Int×S}{b:iq→Int×ev}(al:∀ t,(a t).1=(b t).1){s:Int}{p:S}:∀ {R:List iq},(R.map a).lookup s=some p→∃ s5 t tU,R=s5++t::tU∧a t=(s,p)∧(R.map b).lookup s=some (b t).2∧∀ u∈s5,(a u).1≠s
 |[],h=>by simp at h
 |t::R,h=>by
  rw[List.map_cons] at h ⊢;by_cases o:s=(a t).1
  ·have e:List.lookup s (a t::R.map a)=some (a t).2:=by
    rw[o]; exact List.lookup_cons_self
   have a0:List.lookup s (b t::R.map b)=some (b t).2:=by
    rw[o,al t]; exact List.lookup_cons_self
   rw[e] at h;refine⟨[],t,R,rfl,?_,a0,by simp⟩;cases h;rw[o]
  ·have e:List.lookup s (a t::R.map a)=(R.map a).lookup s:=by
    rw[show a t=((a t).1,(a t).2) from rfl,List.lookup_cons,show (s==(a t).1)=false from by simpa using o]
   have a0:List.lookup s (b t::R.map b)=(R.map b).lookup s:=by
    rw[show b t=((b t).1,(b t).2) from rfl,List.lookup_cons,← al t,show (s==(a t).1)=false from by simpa using o]
   rw[e] at h;obtain⟨s5,u,tU,B,J,au,a8⟩:=C3 al h;refine⟨t::s5,u,tU,by rw[B]; rfl,J,by rw[a0]; exact au,fun v ax=>?_⟩;rcases List.mem_cons.1 ax with rfl | ax
   ·exact fun e=>o e.symm
   ·exact a8 v ax
theorem F0{S ev iq:Type}{a:iq→Int×S}{b:iq→Int×ev}(al:∀ t,(a t).1=(b t).1){s:Int}:∀ {R:List iq},(R.map a).lookup s=none→(R.map b).lookup s=none
 |[],h=>rfl
 |t::R,h=>by
  rw[List.map_cons] at h ⊢;by_cases o:s=(a t).1
  ·have e:List.lookup s (a t::R.map a)=some (a t).2:=by
    rw[o]; exact List.lookup_cons_self
   rw[e] at h; cases h
  ·have e:List.lookup s (a t::R.map a)=(R.map a).lookup s:=by
    rw[show a t=((a t).1,(a t).2) from rfl,List.lookup_cons,show (s==(a t).1)=false from by simpa using o]
   have a0:List.lookup s (b t::R.map b)=(R.map b).lookup s:=by
    rw[show b t=((b t).1,(b t).2) from rfl,List.lookup_cons,← al t,show (s==(a t).1)=false from by simpa using o]
   rw[e] at h;rw[a0];exact F0 al h
def l8{iq:Type}(key:iq→Int)(t:iq):List iq→List iq
 |[]=>[t]
 |u::R=>if key t==key u then t::R else u::l8 key t R
theorem AU{S iq:Type}{key:iq→Int}{a:iq→Int×S}(al:∀ t,(a t).1=key t){t:iq}:∀ {R:List iq},(l8 key t R).map a=bM (key t) (a t).2 (R.map a)
 |[]=>by simp[l8,bM,← al t]
 |u::R=>by
  unfold l8;rw[List.map_cons,show a u=((a u).1,(a u).2) from rfl];unfold bM;rw[al u];split
  ·rw[List.map_cons,← al t]
  ·rw[List.map_cons,AU al,show a u=((a u).1,(a u).2) from rfl,al u]
theorem Zm{iq:Type}{key:iq→Int}{t u:iq}(h:key t=key u):∀ {s5 tU:List iq},(∀ v∈s5,key v≠key u)→l8 key t (s5++u::tU)=s5++t::tU
 |[],tU,_=>by simp[l8,h]
 |v::s5,tU,ax=>by
  rw[List.cons_append];unfold l8;have:=ax v (by simp);rw[if_neg (by rw[h]; simpa using fun e=>this e.symm),Zm h fun w hw=>ax w (by simp[hw])];rfl
section
variable {y w:World} {c bx:List bt} [fP]
theorem Zl{iq:Type}{key:iq→Int}{cell:iq→bt}{t:iq}:∀ {R:List iq} {c:List bt},E y (cell t::de (R.map cell)::c) w→E y (de ((l8 key t R).map cell)::c) w
 |[],c,H=>by
  have H:=(H.ord [1]).drop;exact E.shut (bx:=[_]) H
 |u::R,c,H=>by
  have eL:=(H.front 1).open_;have eL:E y (cell u::(R.map cell++(cell t::c))) w:=eL;unfold l8;split
  ·have lh:=E.shut (bx:=R.map cell) eL.drop
   exact E.shut (bx:=cell t::R.map cell) ((lh.front 1).perm (List.Perm.cons _ (List.Perm.refl _)) |> fun H=>by
    have:=(H.front 1).open_
    exact this.perm List.perm_middle)
  ·have lh:E y (de (R.map cell)::cell t::cell u::c) w:=by
    refine E.shut (bx:=R.map cell) ?_;exact (eL.perm (List.perm_middle (l₁:=R.map cell) (l₂:=cell t::c) (a:=cell u)).symm).perm ((List.Perm.swap _ _ _).append_left _)
   have adg:=Zl (key:=key) (t:=t) (lh.front 1)
   exact E.shut (bx:=cell u::(l8 key t R).map cell) (by
    have:=(adg.ord [1]).front 1 |>.open_
    exact this.perm List.perm_middle)
def tB(t:Int×Nat×Nat×fG×List (Int×qe)):Int:=t.1
theorem Eg{n k:Nat}(h:k<n):(gd n).take (k+1)=(gd n).take k++[(k:Int)]:=by
 have:k<(gd n).length:=by rw[oH]; exact h
 rw[List.take_succ_eq_append_getElem this];congr 2;simp[gd]
theorem DF(m:bn)(R:List (Int×dv))(bw:Int)(w:dv):pj (e8 m R) bw w=e8 m (R++[(bw,w)]):=by simp[pj,e8,List.append_assoc]
theorem DE(m:bn):e8 m []=m:=by simp[e8]
theorem MU{aB:Nat}{m:bn}{q:vY}{s:Int}{p:fG×List Int}(ap:xm m q)(h:m.bz.lookup s=some p):∃ fs t gX,q.P=fs++t::gX∧yG t=(s,p)∧(q.P.map jg).lookup s=some (some ⟨t.2.1,0,none⟩)∧∀ u∈fs,tB u≠s:=by
 rw[← ap.p] at h;exact C3 (a:=yG) (b:=jg) (fun _=>rfl) h
theorem RZ{aB:Nat}{m:bn}{s:Int}{p:fG×List Int}(aH:m.bz.lookup s=some p)(H:E y (eM aB m::c) w) :
  L Pg 86 [.pointer (some ⟨aB,0,none⟩),.int .i64 s] iK w fun r I=>r=aX er (la s m.b p.1)∧E y (eM aB m::c) I:=by
 refine acZ ?_;unfold IN;refine cj H fun aI w H=>?_;refine dH H fun w H=>?_;obtain⟨q,ap,H⟩:=hG (H.front 1);refine b2 rfl ?_;refine an (x:=m.b) 0 H rfl rfl rfl ?_;refine an (x:=some q.hk) 0 H rfl rfl rfl ?_;refine iV 5 H rfl rfl ?_;obtain⟨fs,t,gX,gA,ak,jc,_⟩:=MU (aB:=aB) ap aH;rw[jc];refine b2 rfl ?_;have ax:t.2.2.2.1=p.1:=congrArg (fun aL=>aL.2.1) ak;have eL:=H.front 6;rw[gA] at eL;have eL:=(xM eL).open_;have eL:E y (aN t.2.1 (xD.cells ⟨t.2.2.2.1,some t.2.2.1⟩) 164::_) w:=eL;refine an (x:=p.1) 0 eL rfl rfl (by rw[← ax]; rfl) ?_;clear eL;refine fb (x:=rR) (N:=aX er (la s m.b p.1)) LQ 9 H rfl fun w H=>?_;refine gV (x:=aX er (la s m.b p.1)) 0 H rfl ?_;exact⟨rfl,fl ap H.drop⟩
theorem WX{aw aB n:Nat}{m:bn}{x:I4}{s:Int}{v:fG}(aO:n≤1000)(aF:x.c.len=n)(ab:m.out.length+n≤1000000000000)(H:E y (eM aB m::aN aw (lI.cells x) 49::c) w) :
  L Pg 55 [.pointer (some ⟨aw,0,none⟩),.pointer (some ⟨aB,0,none⟩),.int .i64 s,.string ⟨v.toArray⟩] cJ w fun _ I=>E y (eM aB (kg n m s v)::aN aw (lI.cells x) 49::c) I:=by
 refine acu ?_;unfold Q3;refine cj H fun aR w H=>?_;refine cj H fun cw w H=>?_;refine dH H fun w H=>?_;refine an (x:=(some ⟨aB,0,none⟩:Option Addr)) 1 H rfl rfl rfl ?_;refine b2 rfl ?_;obtain⟨q,ap,H⟩:=hG (H.front 2);refine an (x:=some q.hk) 0 H rfl rfl rfl ?_;refine an (x:=s) 9 H rfl rfl rfl ?_;refine qB H fun iC w H=>?_;have H:=qz xE .i64 H;refine cj H fun eC w H=>?_;refine pd 7 H rfl rfl fun w H=>?_;refine dH H fun w H=>?_;refine an (x:=(some ⟨aB,0,none⟩:Option Addr)) 12 H rfl rfl rfl ?_;refine an (x:=(some ⟨aB,0,none⟩:Option Addr)) 12 H rfl rfl rfl ?_;refine b2 rfl ?_;refine an (x:=m.c4) 3 H rfl rfl rfl ?_;refine an (x:=s) 11 H rfl rfl rfl ?_;refine b2 rfl ?_;refine eg (x:=max m.c4 s) 3 H rfl rfl (Nat.le_of_ble_eq_true rfl) fun w H=>?_
 have H:E y (kO (s,eC,iC,v,[])::de (q.P.map kO)::aN aB (jD.cells (l1 { m with bz:=bM s (v,[]) m.bz,c4:=max m.c4 s } q)) 66::gp q.a q.d m.ai::bR dT .i64 q.j6 m.bO::nr aB q.v m.V::bR O .i64 q.ju (q.ar.map hy)::bR aM .i64 q.hk (bM s (some ⟨eC,0,none⟩) (q.P.map jg))::row lJ 147 7 q.out (q.cP.map kr)::jy (da q.cP++kw q.ar)::aN cw ((D .i64).cells s) 3::aN aR (aM.cells (some ⟨aB,0,none⟩)) 57::aN aw (lI.cells x) 49::c) w:=
  E.shut (bx:=[_,_]) (H.ord [2,3,8,0,4,5,6,7,1])
 have H:=Zl (key:=tB) H;have aT:bM s (some ⟨eC,0,none⟩) (q.P.map jg)=(l8 tB (s,eC,iC,v,[]) q.P).map jg:=(AU (key:=tB) (a:=jg) (t:=(s,eC,iC,v,[])) (fun _=>rfl)).symm;rw[aT] at H;have pD:xm { m with bz:=bM s (v,[]) m.bz,c4:=max m.c4 s } { q with P:=l8 tB (s,eC,iC,v,[]) q.P }:=by
  refine⟨ap.A,ap.n,?_⟩;rw[AU (key:=tB) (a:=yG) (fun _=>rfl),ap.p];rfl
 have H:=fl (m:={ m with bz:=bM s (v,[]) m.bz,c4:=max m.c4 s }) pD (H.ord [1,2,3,4,5,6,0,7,8]);have jc:∀ R,(e8 { m with bz:=bM s (v,[]) m.bz,c4:=max m.c4 s } R).bz.lookup s=some (v,[]):=fun R=>by
  show (bM s (v,[]) m.bz).lookup s=_
  rw[lZ,if_pos (by simp)]
 have o4:M O ((⟨aw,0,none⟩:Addr).add 1) w x.c:=by rw[iN]; exact cW O (H.front 3) rfl rfl
 refine aE (BL (gJ:=dz.mk (.func 102) (List.toArray []) (List.toArray [.pointer (some ⟨aR,0,none⟩),.pointer (some ⟨cw,0,none⟩)])) aO aF o4
  (fun k w=>E y (eM aB (e8 { m with bz:=bM s (v,[]) m.bz,c4:=max m.c4 s } (((gd n).take k).map fun bw=>(bw,la s m.b v)))::aN cw ((D .i64).cells s) 3::aN aR (aM.cells (some ⟨aB,0,none⟩)) 57::aN aw (lI.cells x) 49::c) w) (by rw[List.take_zero,List.map_nil,DE]; exact H) ?_) ?_
 ·intro k w al H;refine⟨102,[],[.pointer (some ⟨aR,0,none⟩),.pointer (some ⟨cw,0,none⟩)],rfl,afT,?_⟩;refine Z_ ?_;unfold OP;refine dH H fun w H=>?_;refine an (x:=(some ⟨aB,0,none⟩:Option Addr)) 2 H rfl rfl rfl ?_;refine an (x:=(some ⟨aB,0,none⟩:Option Addr)) 2 H rfl rfl rfl ?_;refine an (x:=s) 1 H rfl rfl rfl ?_;refine aE (RZ (jc _) H) ?_;rintro r w ⟨rfl,H⟩;refine⟨cW aM (H.front 2) rfl rfl,?_⟩;have m1:(e8 { m with bz:=bM s (v,[]) m.bz,c4:=max m.c4 s } (((gd n).take k).map fun bw=>(bw,la s m.b v))).out.length≤1000000000000:=by
   simp only[e8,List.length_append,List.length_map,List.length_take,oH];omega
  refine aE (yw m1 (fun _ _ _=>AK) H) ?_;intro _ w H;refine⟨cW aM (H.front 2) rfl rfl,cW (D .i64) (H.front 1) rfl rfl,?_⟩;rw[Eg al,List.map_append];rw[DF] at H;exact H
 ·intro _ w H;have e:(gd n).take n=gd n:=by rw[List.take_of_length_le (by rw[oH]; omega)]
  rw[e] at H;exact (H.ord [0,3]).perm (List.Perm.refl _) |> fun H=>(H.ord [2,3]).drop.drop
end
def EM(R:List dd):Prop:=R.length≤1000∧∀ x∈R,1≤x.bm∧x.bm≤1000∧x.V.length≤1000
structure zx(m:bn):Prop where
 ah:m.ai.ah.j4
 k:Keyed m.ai.es
 v:Fit m.V
 out:m.out.length≤60000000
 bG:m.bG.length≤99
 auS:∀ t∈m.bG,0≤t.1∧t.1≤4∧EM t.2
 bz:m.bz.length≤99099
 MS:∀ t∈m.bz,1≤t.1∧t.1≤1000
 awu:∀ t∈m.bz,t.2.2.length≤5
 awD:∀ t∈m.bz,t.2.1.length≤1000
 bO:m.bO.length≤99
 E3:∀ t∈m.bO,1≤t.1∧t.1≤1000∧t.2.length≤1000
 b:0≤m.b∧m.b≤1099511627776
 p:0≤m.ai.p∧m.ai.p≤1099511627776
 c4:0≤m.c4∧m.c4≤1000
 dh:0≤m.dh∧m.dh≤1000
theorem auO{n:Nat}{R:List Int}(aC:R.Nodup)(h:∀ k∈R,∃ l:Nat,k=l∧l<n):R.length≤n:=by
 have B:(R.map Int.toNat).Nodup:=Ga (fun a ag b aA e=>by
  obtain⟨l,B,_⟩:=h a ag;obtain⟨FN,J,_⟩:=h b aA
  omega) aC
 have:=List.Nodup.length_le_of_subset (l₂:=List.range n) B fun k al=>by
  obtain⟨a,ag,rfl⟩:=List.mem_map.1 al;obtain⟨l,B,J⟩:=h a ag;exact List.mem_range.2 (by omega)
 rwa [List.length_map,List.length_range] at this
theorem Yk{n:Nat}{K:bN}(h:Inv n K){b:Int}{k:Nat}{R:List dd}(r:s8 K b k R):EM R:=⟨r.2.2.2,fun x F=>by
 obtain⟨_,B,J⟩:=r.2.1 x F;have:=h.slot _ _ B;rw[J] at this
 exact this⟩
theorem cL.wJ{n f k:Nat}{z:cu}{K:bN}(g:cL n f k z K)(al:k≤99){i:Int}{m:bn}(h:fX z i=.ok m):zx m:=by
 obtain⟨l,B,J,o,aD⟩:=g.node h;have W:=o.core;have aO:=g.je;have ae:=g.inv.Ft l;have Ub:=g.af l;have aH:m.ai.p=(K.now l).1:=W.acc.p;have slot:∀ s,K.hF s=true→1≤s∧s≤1000∧(K.lL s).length≤1000:=fun s aF=>by
  obtain⟨b,au,a8,_⟩:=g.inv.one s aF;rw[a8];exact g.inv.slot b s au
 refine⟨W.acc.live.ok,?_,g.ag8 h,by have:=aD.out; omega,by have:=aD.bG; omega,fun t ak=>?_,by have:=aD.bz; omega,fun t ak=>?_,fun t ak=>?_,fun t ak=>?_,by have:=aD.bO; omega,fun t ak=>?_,?_,by rw[aH]; exact⟨ae.sJ,ae.kx⟩,W.c4,⟨W.dh.1,?_⟩⟩
 ·rw[W.acc.es];exact atm (g.inv.lr l).1 (by omega)
 ·obtain⟨_,q,au,a8,b_⟩:=W.bG t ak;refine⟨by omega,by omega,Yk g.inv b_⟩
 ·have:=g.inv.slot _ _ (W.bz t ak).1;omega
 ·obtain⟨_,_,b_,hv⟩:=W.bz t ak;have:=auO (n:=n) b_ fun k al=>by
   obtain⟨l,aT,a0,_⟩:=hv k al;exact⟨l,aT,a0⟩
  omega
 ·have b_:=W.bz t ak;have:=g.inv.slot _ _ b_.1;rw[b_.2.1] at this;exact this.2.2
 ·obtain⟨au,a8⟩:=W.bO t ak;have:=slot _ au;rw[a8] at this;exact this
 ·rcases W.mf with e | ⟨_,aT,a0⟩
  ·omega
  ·have:(K.now l).1≤1099511627776:=ae.kx;omega
 ·by_cases dk:m.dh=0
  ·omega
  ·have am:=W.dh.1;have:=slot _ (W.dh.2 m.dh (by omega) (Int.le_refl _));omega
theorem aeP{n:Nat}{i a:Int}(aO:0<n)(T1:n≤5)(aq:0≤i∧i<n)(ag:0≤a∧a≤1099511627776) :
  IntKind.i64.wrap (IntKind.i64.wrap (a+1)+Int.tmod (IntKind.i64.wrap (Int.tmod (IntKind.i64.wrap (IntKind.i64.wrap (i-a)-1)) n+n)) n)=us n i a:=by
 have B:=Int.tmod_lt_of_pos (i-a-1) (b:=(n:Int)) (by omega);have J:-(n:Int)<Int.tmod (i-a-1) n:=by
  rw[Int.tmod_eq_emod];have:=Int.emod_nonneg (i-a-1) (b:=(n:Int)) (by omega);split
  ·omega
  ·rename_i o;have:(i-a-1)%(n:Int)≠0:=fun e=>o (.inr (Int.dvd_of_emod_eq_zero e));omega
 rw[wrap_i64 (x:=i-a) (by omega) (by omega),wrap_i64 (x:=i-a-1) (by omega) (by omega),wrap_i64 (x:=a+1) (by omega) (by omega),wrap_i64 (x:=Int.tmod (i-a-1) n+n) (by omega) (by omega)];have au:=Int.tmod_lt_of_pos (Int.tmod (i-a-1) n+n) (b:=(n:Int)) (by omega);have a8:0≤Int.tmod (Int.tmod (i-a-1) n+n) n:=Int.tmod_nonneg _ (by omega);rw[wrap_i64 (by omega) (by omega)];rfl
section
variable {y w:World} {c bx:List bt} {n f k:Nat} {z:cu} {K:bN} [fP]
theorem DZ{R xo:List (X×List dd)}(h:∀ t∈xo,t∈R)(H:E y (jy R::c) w):E y (jy xo::c) w:=E.Lq (fun aG b6 t ak=>b6 t (h t ak)) H
theorem mW{aw i aB:Nat}{p:ia}{m dD:bn}(ap:j2 z p)(h:p.Q[i]?=some (aB,m))(H:E y (eM aB dD::eD aw z p i c) w):E y (cp aw (hK z i dD)::c) w:=by
 obtain⟨wO,aio,_,_,_,_,_,H⟩:=VQ ap h H;exact jF aio H
theorem GP{aw i:Nat}{p:ia}{b0:bt}(H:E y (b0::eD aw z p i c) w):M O ((⟨aw,0,none⟩:Addr).add 1) w p.c:=by
 rw[iN];exact cW O (H.front 1) rfl rfl
theorem zK{i:Int}{m:bn}(h:fX z i=.ok m):0≤i∧i<z.R.length:=by
 obtain⟨l,B,J,_⟩:=EV h;omega
theorem Sp{aw:Nat}{i:Int}(g:cL n f k z K)(al:k≤99)(H:E y (cp aw z::c) w) :
  L Pg 16 [.pointer (some ⟨aw,0,none⟩),.int .i64 i] (bJ (D .i64) (D .i64)) w fun r I=>r=(rY z i).2∧E y (cp aw (rY z i).1::c) I:=by
 obtain⟨p,ap,H⟩:=ln H;have o6:=g.je;have gg:=g.len;refine aaZ ?_;unfold PB;refine aE (oV ap (by omega) H) ?_;rintro r w ⟨Z,H⟩;refine cj H fun aR w H=>?_;refine eg (x:=r.1) 0 H rfl rfl (Nat.le_of_ble_eq_true rfl) fun w H=>?_;cases dx:fX z i with
 |error e=>
  rw[dx] at Z;obtain⟨rfl,he⟩:=Z;rw[if_pos (by simpa using he)];have aT:rY z i=(z,0,e):=by unfold rY pJ; rw[dx]
  rw[aT];exact⟨rfl,jF ap H.drop⟩
 |ok m=>
  rw[dx] at Z;obtain⟨aB,am,a5,rfl⟩:=Z;have ok:=g.wJ al dx;have aq:=zK dx;have aT:rY z i=(hK z i.toNat (v7 z.R.length i m).1,(v7 z.R.length i m).2):=by unfold rY pJ; rw[dx]
  rw[aT,if_neg (by simp)];have aO:=xV ap (H.ord [1,2,3,4,5]);refine b2 rfl ?_;refine an (x:=p.c) 1 H rfl rfl rfl ?_;rw[aO];refine dH H fun w H=>?_;refine an (x:=(some ⟨aB,0,none⟩:Option Addr)) 0 H rfl rfl rfl ?_;refine b2 rfl ?_;have H:=m9 (c:=aN aR (aM.cells (some ⟨aB,0,none⟩)) 57::c) a5 (H.ord [1,2,3,4,5]);obtain⟨q,hm,H⟩:=hG H;refine an (x:=(some ⟨q.a,0,none⟩:Option Addr)) 0 H rfl rfl rfl ?_;refine an (x:=(some ⟨aB,0,none⟩:Option Addr)) 14 H rfl rfl rfl ?_;refine b2 rfl ?_;refine an (x:=m.b) 0 H rfl rfl rfl ?_;refine aE (Gx (H.front 1)) ?_;rintro r w ⟨rfl,H⟩;refine⟨cW aM (H.front 14) rfl rfl,cW aM (H.front 14) rfl rfl,cW (D .i64) (H.front 1) rfl rfl,?_⟩;refine aQ _ ⟨by omega,rfl⟩ ?_;refine aQ _ ⟨by omega,rfl⟩ ?_;have aH:=ok.p;have aA:=ok.b;have afI:=aeP (n:=z.R.length) (i:=i) (a:=max m.ai.p m.b) (by omega) (by omega) aq (by omega);refine cj H fun pt w H=>?_
  refine eg (x:=us z.R.length i (max m.ai.p m.b)) 0 (a4:=_) H rfl rfl (Nat.le_of_ble_eq_true rfl) ?_ |> fun h=>by rw[afI]; exact h
  intro w H;unfold v7;generalize us z.R.length i (max m.ai.p m.b)=b at *;refine an (x:=b) 0 H rfl rfl rfl ?_;unfold E2;by_cases bF:1099511627776<b
  ·rw[if_pos (by simpa using bF),if_pos bF];have H:=fl hm (H.drop.ord [1,0]);exact⟨rfl,mW ap a5 H |> fun H=>(H.front 1).drop⟩
  ·rw[if_neg (by simpa using bF),if_neg bF];refine dH H fun w H=>?_;refine an (x:=(some ⟨aB,0,none⟩:Option Addr)) 15 H rfl rfl rfl ?_;refine b2 rfl ?_;refine an (x:=(some ⟨q.a,0,none⟩:Option Addr)) 2 H rfl rfl rfl ?_;refine an (x:=b) 0 H rfl rfl rfl ?_;refine aE (WV (b:=b) ok.ah ok.k (H.front 1)) ?_;rintro⟨k8,bs⟩ w ⟨B,J,au⟩;simp only at B J au;subst B;by_cases bP:(h5 m.ai b).2≠0
   ·obtain⟨_,H⟩:=au bP;refine⟨cW aM (H.front 15) rfl rfl,?_⟩;rw[if_pos (by simpa using bP),if_pos bP];have H:=(H.front 1).drop;have H:=fl (m:={ m with ai:=(h5 m.ai b).1 }) (q:=q) ⟨hm.A,hm.n,hm.p⟩ (H.ord [1,0]);exact⟨rfl,mW ap a5 H |> fun H=>(H.front 1).drop⟩
   ·have H:=J (by omega);have H:=H.drop;refine⟨cW aM (H.front 15) rfl rfl,?_⟩;rw[if_neg (by simpa using bP),if_neg bP];refine an (x:=(some ⟨aB,0,none⟩:Option Addr)) 15 H rfl rfl rfl ?_;refine an (x:=b) 1 H rfl rfl rfl ?_;refine aE (Se (x:=l1 m q) (H.front 2)) ?_;rintro _ w ⟨ju,hk,H⟩
    have H:=DZ (xo:=da q.cP++kw []) (fun t ak=>by
     rcases List.mem_append.1 ak with ak | ak
     ·exact List.mem_append.2 (.inl ak)
     ·simp[kw] at ak) (H.front 11)
    have H:=(H.ord [8,9,10]).drop.drop.drop;have H:=E.shut (bx:=[]) H;have H:E y (de (([]:List (Int×Nat×Nat×fG×List (Int×qe))).map kO)::_) w:=H;have H:=H.ord [2,5,7,8,3,4,0,9,1,6];have H:=fl (m:=n2 { m with ai:=(h5 m.ai b).1 } b) (q:={ q with ju:=ju,hk:=hk,ar:=[],P:=[] }) ⟨hm.A,rfl,rfl⟩ H;have H:=H.ord [0,2,3,4,5,6,1];have pF:=GP H
    refine aE (BL (gJ:=dz.mk (.func 53) (List.toArray []) (List.toArray [.pointer (some ⟨aR,0,none⟩),.pointer (some ⟨pt,0,none⟩)])) (n:=z.R.length) (by omega) aO pF
     (fun k w=>E y (eM aB (e8 (n2 { m with ai:=(h5 m.ai b).1 } b) (((gd z.R.length).take k).map fun bw=>(bw,p1 b)))::eD aw z p i.toNat (aN pt ((D .i64).cells b) 2::aN aR (aM.cells (some ⟨aB,0,none⟩)) 57::c)) w) (by rw[List.take_zero,List.map_nil,DE]; exact H) ?_) ?_
    ·intro l w a7 H;refine⟨53,[],[.pointer (some ⟨aR,0,none⟩),.pointer (some ⟨pt,0,none⟩)],rfl,agi,?_⟩;refine acr ?_;unfold Q1;refine an (x:=(some ⟨aB,0,none⟩:Option Addr)) 7 H rfl rfl rfl ?_;refine an (x:=b) 6 H rfl rfl rfl ?_;have rc:=ok.out;have m1:(e8 (n2 { m with ai:=(h5 m.ai b).1 } b) (((gd z.R.length).take l).map fun bw=>(bw,p1 b))).out.length≤1000000000000:=by
      simp only[e8,n2,List.length_append,List.length_map,List.length_take,oH];omega
     refine aE (yw (s:=er) (wd:=p1 b) m1 (fun _ _ _=>AK) H) ?_;intro _ w H;rw[Eg a7,List.map_append];rw[DF] at H;exact H
    ·intro _ w H;have e:(gd z.R.length).take z.R.length=gd z.R.length:=by rw[List.take_of_length_le (by rw[oH]; omega)]
     rw[e] at H;refine an (x:=b) 6 H rfl rfl rfl ?_;exact⟨rfl,mW ap a5 H |> fun H=>(H.ord [1,2]).drop.drop⟩
end
section
variable {y w:World} {c bx:List bt} {n f k:Nat} {z:cu} {K:bN} [fP]
theorem YV{aw:Nat}{i:Int}{x:dU}(g:cL n f k z K)(al:k≤99)(F:ir x)(H:E y (cp aw z::c) w) :
  L Pg 19 [.pointer (some ⟨aw,0,none⟩),.int .i64 i,jb.enc x] (bJ (D .i64) (D .i64)) w fun r I=>r=(vD z i x).2∧E y (cp aw (vD z i x).1::c) I:=by
 obtain⟨p,ap,H⟩:=ln H;have o6:=g.je;have gg:=g.len;refine abn ?_;unfold PT;refine cj H fun bh w H=>?_;have H:E y (jP aw z p (aN bh (jb.cells x) 38::c)) w:=H.ord [1,2,3,4,5];refine aE (oV ap (by omega) H) ?_;rintro r w ⟨Z,H⟩;cases dx:fX z i with
 |error e=>
  rw[dx] at Z;obtain⟨rfl,he⟩:=Z;rw[if_pos (by simpa using he)];have aT:vD z i x=(z,0,e):=by unfold vD pJ; rw[dx]
  rw[aT];exact⟨rfl,jF ap H |> fun H=>(H.front 1).drop⟩
 |ok m=>
  rw[dx] at Z;obtain⟨aB,am,a5,rfl⟩:=Z;have ok:=g.wJ al dx;have aq:=zK dx;have aT:vD z i x=(hK z i.toNat (w5 z.R.length x m).1,(w5 z.R.length x m).2):=by unfold vD pJ; rw[dx]
  rw[aT,if_neg (by simp)];have aO:=xV ap H;refine an (x:=x.Kind) 5 H rfl rfl rfl ?_;refine aQ x.Kind (fun _=>cW (D .i64) (H.front 5) rfl rfl) ?_;unfold w5;have same:∀ w,E y (jP aw z p (aN bh (jb.cells x) 38::c)) w→E y (cp aw (hK z i.toNat m)::c) w:=fun w H=>
   mW ap a5 (m9 a5 H) |> fun H=>(H.front 1).drop
  by_cases bF:¬ kd x.Kind
  ·rw[if_pos bF,if_pos (by unfold kd at bF; simp only[Bool.or_eq_true,decide_eq_true_eq]; omega)];exact⟨rfl,same w H⟩
  ·rw[if_neg bF,if_neg (by unfold kd at bF; simp only[Bool.or_eq_true,decide_eq_true_eq]; omega)];refine b2 rfl ?_;have H:=m9 a5 H;obtain⟨q,hm,H⟩:=hG H;have back:∀ w,E y (nH aB m q (eD aw z p i.toNat (aN bh (jb.cells x) 38::c))) w→E y (cp aw (hK z i.toNat m)::c) w:=fun w H=>
    mW ap a5 (fl hm H) |> fun H=>(H.front 1).drop
   refine an (x:=m.fz) 0 H rfl rfl rfl ?_;by_cases bP:m.fz=false
   ·rw[if_pos bP,if_pos (by simp[bP])];exact⟨rfl,back w H⟩
   ·rw[if_neg bP,if_neg (by simpa using bP)];refine an (x:=m.c4) 0 H rfl rfl rfl ?_;by_cases di:1000≤m.c4
    ·rw[if_pos di,if_pos (by simpa using di)];exact⟨rfl,back w H⟩
    ·rw[if_neg di,if_neg (by simpa using di)];refine dH H fun w H=>?_;refine an (x:=m.c4) 0 H rfl rfl rfl ?_;refine gV (x:=x) 14 H rfl ?_;refine aE (C1 F H) ?_;intro r w H;refine⟨cW (D .i64) (H.front 1) rfl rfl,?_⟩;refine R9 (r:=gq x) (xq H) ?_;have H:=fl hm H.drop;have wy:=ok.c4;rw[wrap_i64 (x:=m.c4+1) (by omega) (by omega)];have rc:=ok.out;refine aE (WX (m:=m) (n:=z.R.length) (x:=qk z p) (s:=m.c4+1) (v:=gq x) (by omega) aO (by omega) H) ?_;intro _ w H;obtain⟨l2,qq,H⟩:=hG H;refine an (x:=(kg z.R.length m (m.c4+1) (gq x)).c4) 0 H rfl rfl rfl ?_;exact⟨rfl,mW ap a5 (fl qq H) |> fun H=>(H.front 1).drop⟩
end
end dO
namespace dO
open ba Wire Disk Ballot
open Vault (cf Fit dF)
def o1(n:Nat)(i:Int)(ad:mK×List (X×kD))(t:X×Int×dv):mK×List (X×kD):=
 (vA n i ad.1 t.2,if ¬ (m2 n i∧m2 n t.2.1)∨1000≤ad.1.c.length then ad.2 else ad.2++[(t.1,⟨IntKind.i64.wrap (ad.1.kl+1),i,t.2.1,t.2.2⟩)])
def kP(n:Nat)(ad:mK×List (X×kD)):Post.eh:=⟨n,ad.1.kl,ad.2.map iP,ad.1.off⟩
def xl(ad:mK×List (X×kD)):Prop:=ad.2.map Prod.snd=ad.1.c∧ad.1.c.length≤1000
theorem ahj{n:Nat}{i:Int}{ad:mK×List (X×kD)}{t:X×Int×dv}(h:xl ad):xl (o1 n i ad t):=by
 refine⟨?_,YG h.2⟩;unfold o1 vA;by_cases o:¬ (m2 n i∧m2 n t.2.1)∨1000≤ad.1.c.length
 ·simp only[if_pos o]; exact h.1
 ·simp only[if_neg o];rw[List.map_append,h.1];rfl
theorem ahl{n:Nat}{i:Int}{ad:mK×List (X×kD)}{t:X×Int×dv}(h:xl ad):((kP n ad).send i t.2.1 (aX t.1 t.2.2)).1=kP n (o1 n i ad t):=by
 have aj:(ad.2.map iP).length=ad.1.c.length:=by rw[← h.1,List.length_map,List.length_map]
 have bV:∀ x:Int,(kP n ad).has x=true↔m2 n x:=fun x=>by
  unfold Post.eh.has kP m2;simp
 unfold Post.eh.send o1 vA;by_cases bF:m2 n i∧m2 n t.2.1
 ·have bP:(!(kP n ad).has i||!(kP n ad).has t.2.1)=false:=by rw[(bV i).2 bF.1,(bV t.2.1).2 bF.2]; rfl
  rw[if_neg (by simp[bP])];by_cases di:1000≤ad.1.c.length
  ·have e:((kP n ad).put ⟨IntKind.i64.wrap ((kP n ad).kl+1),i,t.2.1,aX t.1 t.2.2⟩)=(kP n ad,91):=by
    unfold Post.eh.put;rw[if_pos (by show (ad.2.map iP).length≥1000; omega)]
   rw[e,if_pos (by simp)];simp only[if_pos (show ¬ (m2 n i∧m2 n t.2.1)∨1000≤ad.1.c.length from .inr di)]
  ·have e:((kP n ad).put ⟨IntKind.i64.wrap ((kP n ad).kl+1),i,t.2.1,aX t.1 t.2.2⟩)=({ kP n ad with c:=(kP n ad).c++[⟨IntKind.i64.wrap ((kP n ad).kl+1),i,t.2.1,aX t.1 t.2.2⟩] },0):=by
    unfold Post.eh.put;rw[if_neg (by show ¬ (ad.2.map iP).length≥1000; omega)]
   rw[e,if_neg (by simp)];have hh:¬ (¬ (m2 n i∧m2 n t.2.1)∨1000≤ad.1.c.length):=fun e=>e.elim (fun e=>e bF) di;simp only[if_neg hh];unfold kP;simp only[List.map_append];rfl
 ·have bP:(!(kP n ad).has i||!(kP n ad).has t.2.1)=true:=by
   cases B:(kP n ad).has i with
   |false=>rfl
   |true=>
    cases J:(kP n ad).has t.2.1 with
    |false=>rfl
    |true=>exact absurd ⟨(bV i).1 B,(bV _).1 J⟩ bF
  rw[if_pos bP];simp only[if_pos (show ¬ (m2 n i∧m2 n t.2.1)∨1000≤ad.1.c.length from .inl bF)]
theorem ahk{n:Nat}{i:Int}{ad:mK×List (X×kD)}{t:X×Int×dv}{u:X×kD}(h:u∈(o1 n i ad t).2):u∈ad.2∨(u.1=t.1∧u.2.w=t.2.2):=by
 unfold o1 at h;simp only at h;split at h
 ·exact .inl h
 ·rcases List.mem_append.1 h with h | h
  ·exact .inl h
  ·rw[List.mem_singleton.1 h]; exact .inr ⟨rfl,rfl⟩
theorem Tw{n:Nat}{i:Int}:∀ {cP:List (X×Int×dv)} {ad:mK×List (X×kD)} {u:X×kD},u∈(cP.foldl (o1 n i) ad).2→u∈ad.2∨∃ t∈cP,u.1=t.1∧u.2.w=t.2.2
 |[],_,_,h=>.inl h
 |t::cP,ad,u,h=>by
  rcases Tw (cP:=cP) h with h | ⟨v,ax,e⟩
  ·rcases ahk h with h | h
   ·exact .inl h
   ·exact .inr ⟨t,by simp,h⟩
  ·exact .inr ⟨v,by simp[ax],e⟩
theorem Tv{n:Nat}{i:Int}:∀ {cP:List (X×Int×dv)} {ad:mK×List (X×kD)},(cP.foldl (o1 n i) ad).1=DH n i ad.1 (cP.map Prod.snd)
 |[],_=>rfl
 |t::cP,ad=>by
  rw[List.foldl_cons,Tv (cP:=cP)];rfl
theorem JV{n:Nat}{i:Int}:∀ {cP:List (X×Int×dv)} {ad:mK×List (X×kD)},xl ad→xl (cP.foldl (o1 n i) ad)
 |[],_,h=>h
 |t::cP,ad,h=>JV (cP:=cP) (ahj h)
section
variable {y w:World} {c bx:List bt} {n f k:Nat} {z:cu} {K:bN} [fP]
theorem DN{aw:Nat}{i:Int}(g:cL n f k z K)(al:k≤99)(H:E y (cp aw z::c) w) :
  L Pg 28 [.pointer (some ⟨aw,0,none⟩),.int .i64 i] (D .i64) w fun r I=>r=(pW z i).2∧E y (cp aw (pW z i).1::c) I:=by
 obtain⟨p,ap,H⟩:=ln H;have o6:=g.je;have gg:=g.len;refine ab1 ?_;unfold Qz;refine aE (oV ap (by omega) H) ?_;rintro r w ⟨Z,H⟩;cases dx:fX z i with
 |error e=>
  rw[dx] at Z;obtain⟨rfl,he⟩:=Z;rw[if_pos (by simpa using he)];have aT:pW z i=(z,e):=by unfold pW; rw[dx]
  rw[aT];exact⟨rfl,jF ap H⟩
 |ok m=>
  rw[dx] at Z;obtain⟨aB,am,a5,rfl⟩:=Z;have ok:=g.wJ al dx;have aq:=zK dx;rw[if_neg (by simp)];refine b2 rfl ?_;obtain⟨q,hm,H⟩:=hG (m9 a5 H);refine an (x:=(some ⟨q.a,0,none⟩:Option Addr)) 0 H rfl rfl rfl ?_;refine b2 rfl ?_;obtain⟨Hq,N3,H⟩:=pv (H.front 1);refine an (x:=(some ⟨Hq,0,none⟩:Option Addr)) 0 H rfl rfl rfl ?_;refine aE (ay5 ok.ah (H.ord [2,3])) ?_;rintro r w ⟨rfl,H⟩;have H:=nw (ad:=(ji m.ai).1) (H.ord [2,3,0,1]);have a0:(tK m.ai.ah m.ai.V).2.2=(ji m.ai).2:=rfl;rw[a0];have H:=H.front 1;by_cases o:(ji m.ai).2≠0
  ·rw[if_pos (by simpa using o)];have aT:pW z i=(hK z i.toNat { m with ai:=(ji m.ai).1 },(ji m.ai).2):=by unfold pW; rw[dx]; simp only; rw[if_pos o]
   rw[aT];exact⟨rfl,mW ap a5 (fl (m:={ m with ai:=(ji m.ai).1 }) (q:=q) ⟨hm.A,hm.n,hm.p⟩ H)⟩
  ·rw[if_neg (by simpa using o)];have aT:pW z i=({ hK z i.toNat { m with ai:=(ji m.ai).1,out:=[] } with cq:=DH z.R.length i z.cq m.out },0):=by unfold pW; rw[dx]; simp only; rw[if_neg o]
   rw[aT];refine an (x:=q.out) 0 H rfl rfl rfl ?_;have m1:q.out.len=q.cP.length:=by
    have:=ho (H.front 7);rw[List.length_map] at this;exact this
   have TD:q.cP.length=m.out.length:=by rw[← hm.A,List.length_map]
   have rc:=ok.out;have wq:xl (z.cq,p.a2):=⟨ap.g,g.cap⟩
   have aiq:∀ l,xl ((q.cP.take l).foldl (o1 z.R.length i) (z.cq,p.a2)):=fun l=>JV wq;have H:E y (Post.gW p.cq (kP z.R.length (((q.cP.take 0)).foldl (o1 z.R.length i) (z.cq,p.a2)))::aN aw (lI.cells (qk z p)) 49::row lJ 147 7 q.out (q.cP.map kr)::aN aB (jD.cells (l1 m q)) 66::gp q.a q.d (ji m.ai).1::bR dT .i64 q.j6 m.bO::nr aB q.v m.V::bR O .i64 q.ju (q.ar.map hy)::bR aM .i64 q.hk (q.P.map jg)::de (q.P.map kO)::jy (da q.cP++kw q.ar)::row aM 57 1 p.c (p.Q.map na)::de ((p.Q.eraseIdx i.toNat).map hV)::jy (mV p.a2)::c) w:=H.ord [12,9,7]
   refine hU (fun s w=>∃ l:Nat,s=(l:Int)∧l≤q.cP.length∧E y (Post.gW p.cq (kP z.R.length ((q.cP.take l).foldl (o1 z.R.length i) (z.cq,p.a2)))::aN aw (lI.cells (qk z p)) 49::row lJ 147 7 q.out (q.cP.map kr)::aN aB (jD.cells (l1 m q)) 66::gp q.a q.d (ji m.ai).1::bR dT .i64 q.j6 m.bO::nr aB q.v m.V::bR O .i64 q.ju (q.ar.map hy)::bR aM .i64 q.hk (q.P.map jg)::de (q.P.map kO)::jy (da q.cP++kw q.ar)::row aM 57 1 p.c (p.Q.map na)::de ((p.Q.eraseIdx i.toNat).map hV)::jy (mV p.a2)::c) w) (fun s=>((q.cP.length:Int)-s).toNat) ⟨0,rfl,by omega,H⟩ ?_;clear H;rintro s w ⟨l,rfl,a7,H⟩ aa b7;unfold It;simp only[m1];split
   ·rename_i qh;have qh:l<q.cP.length:=by simpa using qh
    have F:q.cP[l]?=some q.cP[l]:=List.getElem?_eq_getElem qh;have ak:q.cP.take (l+1)=q.cP.take l++[q.cP[l]]:=List.take_succ_eq_append_getElem qh;generalize q.cP[l]=t at F ak;have yg:(q.cP.map kr)[((l:Int)).toNat]?=some (kr t):=by rw[List.getElem?_map,Int.toNat_natCast,F]; rfl
    obtain⟨a,ag⟩:=ih (i:=(l:Int)) (H.front 2) (by omega) (by rw[List.length_map]; omega);refine aQ a ag ?_;refine aQ (kr t) (lz (fun _=>rfl) ag yg (H.front 2)) ?_;refine cj H fun kF w H=>?_;refine fb (x:=I7) (N:=kr t) Vy 0 H rfl fun w H=>?_;refine dH H fun w H=>?_;refine b2 rfl ?_;refine an (x:=(some ⟨p.cq,0,none⟩:Option Addr)) 2 H rfl rfl rfl ?_;refine an (x:=t.2.1) 0 H rfl rfl rfl ?_;refine an (x:=aX t.1 t.2.2) 0 H rfl rfl rfl ?_;have Kd:=aiq l
    refine aE (Post.aym (H.front 1) (by
     show (((q.cP.take l).foldl (o1 z.R.length i) (z.cq,p.a2)).2.map iP).length≤1000
     rw[List.length_map];have:=congrArg List.length Kd.1;rw[List.length_map] at this;have:=Kd.2
     omega) i t.2.1 (aX t.1 t.2.2)) ?_
    rintro r w ⟨_,H⟩;rw[ahl Kd] at H;have cS:IntKind.i64.wrap ((l:Int)+1)=((l+1:Nat):Int):=by rw[wrap_i64 (by omega) (by omega)]; omega
    rw[cS];refine b7 _ _ ⟨l+1,rfl,by omega,?_⟩ (by omega);rw[ak,List.foldl_append];exact (H.front 1).drop
   ·rename_i qh;have qh:¬ l<q.cP.length:=by simpa using qh
    have Jy:q.cP.take l=q.cP:=List.take_of_length_le (by omega);rw[Jy] at H;refine eg (x:=er) 3 H rfl rfl (Nat.le_of_ble_eq_true rfl) fun w H=>?_;have aip:=JV (n:=z.R.length) (i:=i) (cP:=q.cP) wq;have j9:=Tv (n:=z.R.length) (i:=i) (cP:=q.cP) (ad:=(z.cq,p.a2));have lo:∀ u∈(q.cP.foldl (o1 z.R.length i) (z.cq,p.a2)).2,u∈p.a2∨∃ t∈q.cP,u.1=t.1∧u.2.w=t.2.2:=fun u hu=>Tw hu;generalize q.cP.foldl (o1 z.R.length i) (z.cq,p.a2)=ad at *;rw[hm.A] at j9
    have sA:cn (jy (da q.cP++kw q.ar)::jy (mV p.a2)::aN aB (jD.cells (l1 { m with ai:=(ji m.ai).1,out:=[] } { q with out:=er,cP:=[] })) 66::Post.gW p.cq (kP z.R.length ad)::aN aw (lI.cells (qk z p)) 49::row lJ 147 7 q.out (q.cP.map kr)::gp q.a q.d (ji m.ai).1::bR dT .i64 q.j6 m.bO::nr aB q.v m.V::bR O .i64 q.ju (q.ar.map hy)::bR aM .i64 q.hk (q.P.map jg)::de (q.P.map kO)::row aM 57 1 p.c (p.Q.map na)::de ((p.Q.eraseIdx i.toNat).map hV)::c) (nY (mV ad.2)):=
     (zb.and zb.tail).imp fun aG b6 t ak => by
      obtain⟨u,hu,rfl⟩:=List.mem_map.1 ak;rcases lo u hu with B | ⟨A,B,J,au⟩
      ·exact b6.2 _ (List.mem_map.2 ⟨u,B,rfl⟩)
      ·rw[J,au];exact b6.1 _ (List.mem_append.2 (.inl (List.mem_map.2 ⟨A,B,rfl⟩)))
    have H:=E.vh (m:=nY.mono) sA (H.ord [10,13]);have H:=(H.ord [2,6]).drop.drop;have H:=DZ (xo:=da []++kw q.ar) (fun t ak=>List.mem_append.2 (.inr (by simpa[da] using ak))) (H.front 1);have H:=jW lJ 147 7 H;have H:E y (nH aB { m with ai:=(ji m.ai).1,out:=[] } { q with out:=er,cP:=[] } (aN aw (lI.cells (qk z p)) 49::row aM 57 1 p.c (p.Q.map na)::de ((p.Q.eraseIdx i.toNat).map hV)::Post.gW p.cq (kP z.R.length ad)::jy (mV ad.2)::c)) w:=H.ord [3,6,7,8,9,10,11,0,1,5,12,13,4,2];have H:=fl (m:={ m with ai:=(ji m.ai).1,out:=[] }) (q:={ q with out:=er,cP:=[] }) ⟨rfl,hm.n,hm.p⟩ H;have pD:j2 { z with cq:=ad.1 } { p with a2:=ad.2 }:=⟨ap.r,ap.q,aip.1⟩
    have H:=mW (z:={ z with cq:=ad.1 }) (p:={ p with a2:=ad.2 }) pD a5 H;rw[j9] at H;exact⟨by trivial,H⟩
end
end dO
namespace dO
open ba Wire Disk Ballot
open Vault (cf Fit dF Zv Zs Sx SM Zq Zy)
open Shard (dU gq k2 mO BK kd jx ir jb SE xP E_)
section
variable {y w:World} {c bx:List bt} {n f k:Nat} {z:cu} {K:bN} [fP]
theorem aei{aB tO:Nat}{N:zA}{v:cf}{x:dU}(aD:Fit v)(F:kd x.Kind)(aJ:N.v=some ⟨tO,0,none⟩)(H:E y (aN aB (jD.cells N) 66::dF tO v::c) w) :
  L Pg 147 [.pointer (some ⟨aB,0,none⟩),jb.enc x] cJ w fun _ I=>E y (aN aB (jD.cells N) 66::dF tO (mO v x).1::c) I:=by
 refine aaN ?_;unfold Pr;refine cj H fun aI w H=>?_;refine an (x:=x.Kind) 0 H rfl rfl rfl ?_;have fin:∀ (G6:cf) (w:World),E y (dF tO G6::aN aI (jb.cells x) 38::aN aB (jD.cells N) 66::c) w→E y (aN aB (jD.cells N) 66::dF tO G6::c) w:=fun G6 w H=>(H.front 1).drop.front 1;unfold mO BK;by_cases bF:x.Kind=1
 ·rw[if_pos (by simpa using bF),if_pos bF];refine dH H fun w H=>?_;refine b2 rfl ?_;refine an (x:=N.v) 1 H rfl rfl rfl ?_;refine an (x:=x.c6) 0 H rfl rfl rfl ?_;refine an (x:=x.b4) 0 H rfl rfl rfl ?_;refine an (x:=x.ar) 0 H rfl rfl rfl ?_;rw[aJ];refine aE (Zv aD (H.front 2)) ?_;rintro r w ⟨_,H⟩;exact fin _ w H
 ·rw[if_neg (by simpa using bF),if_neg bF];by_cases bP:x.Kind=2
  ·rw[if_pos (by simpa using bP),if_pos bP];refine dH H fun w H=>?_;refine b2 rfl ?_;refine an (x:=N.v) 1 H rfl rfl rfl ?_;refine an (x:=x.c6) 0 H rfl rfl rfl ?_;refine an (x:=x.df) 0 H rfl rfl rfl ?_;refine an (x:=x.b4) 0 H rfl rfl rfl ?_;refine an (x:=x.ar) 0 H rfl rfl rfl ?_;refine an (x:=x.jm) 0 H rfl rfl rfl ?_;rw[aJ];refine aE (Zs (t:=x.c6) (p:=⟨x.df,x.b4,x.ar,x.jm⟩) aD (H.front 2)) ?_;rintro r w ⟨_,H⟩;exact⟨cW (D .i64) (H.front 1) rfl rfl,cW (D .i64) (H.front 1) rfl rfl,cW (D .i64) (H.front 1) rfl rfl,cW bi (H.front 1) rfl rfl,fin _ w H⟩
  ·rw[if_neg (by simpa using bP),if_neg bP];by_cases di:x.Kind=3
   ·rw[if_pos (by simpa using di),if_pos di];refine dH H fun w H=>?_;refine b2 rfl ?_;refine an (x:=N.v) 1 H rfl rfl rfl ?_;refine an (x:=x.c6) 0 H rfl rfl rfl ?_;refine an (x:=x.df) 0 H rfl rfl rfl ?_;rw[aJ];refine aE (Sx aD (H.front 2)) ?_;rintro r w ⟨_,H⟩;exact fin _ w H
   ·rw[if_neg (by simpa using di),if_neg di];by_cases hh:x.Kind=4
    ·rw[if_pos (by simpa using hh),if_pos hh];refine dH H fun w H=>?_;refine b2 rfl ?_;refine an (x:=N.v) 1 H rfl rfl rfl ?_;refine an (x:=x.df) 0 H rfl rfl rfl ?_;rw[aJ];refine aE (SM (H.front 2)) ?_;rintro r w ⟨_,H⟩;exact fin _ w H
    ·rw[if_neg (by simpa using hh),if_neg hh];by_cases c5:x.Kind=5
     ·rw[if_pos (by simpa using c5),if_pos c5];refine dH H fun w H=>?_;refine b2 rfl ?_;refine an (x:=N.v) 1 H rfl rfl rfl ?_;refine an (x:=x.c6) 0 H rfl rfl rfl ?_;rw[aJ];refine aE (Zq (H.front 2)) ?_;rintro r w ⟨_,H⟩;exact fin _ w H
     ·have oW:x.Kind=6:=by unfold kd at F; omega
      rw[if_neg (by simpa using c5),if_neg c5,if_pos (by simpa using oW)];refine dH H fun w H=>?_;refine b2 rfl ?_;refine an (x:=N.v) 1 H rfl rfl rfl ?_;refine an (x:=x.c6) 0 H rfl rfl rfl ?_;rw[aJ];refine aE (Zy aD (H.front 2)) ?_;rintro r w ⟨_,H⟩;exact fin _ w H
theorem Vv{aB:Nat}{m:bn}{s:Int}{v:fG}(aD:Fit m.V)(am:0≤m.dh∧m.dh≤1000)(al:∀ t∈m.bO,1≤t.1∧t.1≤1000∧t.2.length≤1000)(aF:1≤s∧s≤1000∧v.length≤1000)(H:E y (eM aB m::c) w) :
  L Pg 116 [.pointer (some ⟨aB,0,none⟩),.int .i64 s,.string ⟨v.toArray⟩] cJ w fun _ I=>E y (eM aB (lX m s v)::c) I:=by
 refine aal ?_;unfold O0;refine b2 rfl ?_;obtain⟨q,hm,H⟩:=hG H;refine an (x:=some q.j6) 0 H rfl rfl rfl ?_;refine iV 2 H rfl rfl ?_;unfold lX;by_cases o:(m.bO.lookup s).isSome=true
 ·rw[if_pos o,if_pos o];exact fl hm H
 ·rw[if_neg o,if_neg o];refine an (x:=some q.j6) 0 H rfl rfl rfl ?_;refine pd 2 H rfl rfl fun w H=>?_;have H:=fl (m:={ m with bO:=bM s v m.bO }) (q:=q) ⟨hm.A,hm.n,hm.p⟩ (H.ord [1,2]);have qo:∀ t∈(bM s v m.bO),1≤t.1∧t.1≤1000∧t.2.length≤1000:=fun t ak=>by
   rcases sC ak with rfl | ak
   ·exact aF
   ·exact al t ak
  refine Aq (fun aL (_:Unit) w=>∃ (dD:bn) (wg:Nat),kp 1001 { m with bO:=bM s v m.bO }=kp wg dD∧1001≤dD.dh+wg∧dD.bO=bM s v m.bO∧Fit dD.V∧0≤dD.dh∧dD.dh≤1000∧aL=(1001-dD.dh).toNat∧E y (eM aB dD::c) w) _ ⟨_,1001,rfl,by show (1001:Int)≤m.dh+(1001:Nat); omega,rfl,aD,am.1,am.2,rfl,H⟩ ?_;clear H;rintro aL ⟨⟩ w ⟨dD,wg,aT,a0,cS,aD,iL,dM,rfl,H⟩ aa b7;unfold HM;obtain⟨q,hm,H⟩:=hG H;refine dH H fun w H=>?_;refine an (x:=some q.j6) 0 H rfl rfl rfl ?_;refine an (x:=dD.dh) 0 H rfl rfl rfl ?_;rw[wrap_i64 (x:=dD.dh+1) (by omega) (by omega)];refine iV 2 H rfl rfl ?_;cases aj:dD.bO.lookup (dD.dh+1) with
  |none=>
   rw[if_pos (by simp)];have e:kp wg dD=dD:=by
    cases wg with
    |zero=>rfl
    |succ wg=>unfold kp; rw[aj]
   rw[aT,e];exact fl hm H
  |some t=>
   rw[if_neg (by simp)];have lo:=qo _ (by rw[← cS]; exact m6 aj);simp only at lo;have Jx:∃ g,wg=g+1:=⟨wg-1,by omega⟩
   obtain⟨g,rfl⟩:=Jx;have es:kp (g+1) dD=kp g (AS dD t):=by
    show (match dD.bO.lookup (dD.dh+1) with | none=>dD | some s=>kp g (AS dD s))=_
    rw[aj]
   rw[es] at aT;refine an (x:=dD.dh) 0 H rfl rfl rfl ?_;refine eg (x:=IntKind.i64.wrap (dD.dh+1)) 0 H rfl rfl (Nat.le_of_ble_eq_true rfl) fun w H=>?_;rw[wrap_i64 (x:=dD.dh+1) (by omega) (by omega)] at H;simp only[Option.getD_some];refine ax7 H fun r w T_ o7 H=>?_;refine aE (SE o7 (by omega) (c0.ro (fun _=>rfl) (cn.here (m:=dL.mono))) H) ?_;rintro aL w ⟨rfl,H⟩;refine cj H fun nZ w H=>?_;refine fb (x:=xH) (N:=(xP (k2 t)).1) CY 0 H rfl fun w H=>?_;have next:∀ (I6:cf) (w:World),I6=vC dD.V t→E y (aN aB (jD.cells (l1 { dD with dh:=dD.dh+1 } q)) 66::nr aB q.v I6::aN nZ (jb.cells (xP (k2 t)).1) 38::ro (D .u8) r (ai t)::gp q.a q.d dD.ai::bR dT .i64 q.j6 dD.bO::bR O .i64 q.ju (q.ar.map hy)::bR aM .i64 q.hk (q.P.map jg)::de (q.P.map kO)::row lJ 147 7 q.out (q.cP.map kr)::jy (da q.cP++kw q.ar)::c) w→aa () w:=by
    rintro I6 w rfl H;have H:=(H.ord [2,3]).drop.drop;have H:E y (nH aB (AS dD t) q c) w:=H.ord [0,2,3,1];have H:=fl (m:=AS dD t) (q:=q) ⟨hm.A,hm.n,hm.p⟩ H;exact b7 _ _ _ (by show (1001-(dD.dh+1)).toNat<(1001-dD.dh).toNat; omega) ⟨AS dD t,g,aT,by show (1001:Int)≤dD.dh+1+(g:Nat); omega,cS,Tf aD t,by show 0≤dD.dh+1; omega,by show dD.dh+1≤1000; omega,rfl,H⟩
   have H:=H.ord [2,5,0,1];cases aC:k2 t with
   |none=>
    rw[if_neg (by simp[xP])];rw[aC] at H next
    exact next dD.V w (by unfold vC; rw[aC]) H
   |some x=>
    rw[if_pos (by simp[xP])];rw[aC] at H next
    refine gV (x:=x) 2 H rfl ?_;obtain⟨Cz,H⟩:=y_ (H.front 1);refine aE (aei (N:=l1 { dD with dh:=dD.dh+1 } q) (tO:=q.v) aD (E_ aC).2.1 rfl (H.front 1)) ?_;intro _ w H;exact next (mO dD.V x).1 w (by unfold vC; rw[aC]) ((w9 Cz (H.front 1)).front 1)
theorem atI{aB:Nat}{m:bn}{eJ:X}{bT:Int}{wd:dv}(aD:Fit m.V)(am:0≤m.dh∧m.dh≤1000)(al:∀ t∈m.bO,1≤t.1∧t.1≤1000∧t.2.length≤1000)(aF:1≤wd.v.bm∧wd.v.bm≤1000∧wd.v.V.length≤1000)(H:E y (eM aB m::c) w) :
  L Pg 64 [.pointer (some ⟨aB,0,none⟩),.int .i64 bT,iK.enc (aX eJ wd)] cJ w fun _ I=>E y (eM aB (lX m wd.v.bm wd.v.V)::c) I:=by
 refine acC ?_;unfold Rb;refine cj H fun bh w H=>?_;refine an (x:=wd.v.bm) 0 H rfl rfl rfl ?_;refine an (x:=wd.v.V) 0 H rfl rfl rfl ?_;refine aE (Vv aD am al aF (H.front 1)) ?_;intro _ w H;exact (H.front 1).drop
theorem awr{aB:Nat}{m:bn}{eJ:X}{bT:Int}{wd:dv}(ok:zx m)(H:E y (eM aB m::c) w) :
  L Pg 65 [.pointer (some ⟨aB,0,none⟩),.int .i64 bT,iK.enc (aX eJ wd)] cJ w fun _ I=>E y (eM aB (wR m bT wd)::c) I:=by
 refine acD ?_;unfold Rc;refine cj H fun bh w H=>?_;refine dH H fun w H=>?_;refine b2 rfl ?_;obtain⟨q,hm,H⟩:=hG (H.front 1);refine an (x:=(some ⟨q.a,0,none⟩:Option Addr)) 0 H rfl rfl rfl ?_;refine an (x:=wd.b) 9 H rfl rfl rfl ?_;refine aE (WV (b:=wd.b) ok.ah ok.k (H.front 1)) ?_;rintro⟨k8,bs⟩ w ⟨B,J,au⟩;simp only at B J au;subst B;unfold wR;by_cases o:(h5 m.ai wd.b).2=0
 ·rw[if_pos (by simpa using o),if_pos o];have H:=GR (J o);have H:=fl (m:={ m with ai:=(h5 m.ai wd.b).1 }) (q:=q) (c:=aN bh (iK.cells (aX eJ wd)) 56::ro fH k8 (gT m.ai.es)::c) ⟨hm.A,hm.n,hm.p⟩ (H.ord [2,1,3,4,5,6,7,8,9,10,0]);refine an (x:=wd.b) 1 H rfl rfl rfl ?_;have rc:=ok.out;refine aE (yw (m:={ m with ai:=(h5 m.ai wd.b).1 }) (bw:=bT) (s:=k8) (wd:=Ee wd.b (gT m.ai.es)) (by show m.out.length≤_; omega) (cn.tail (cn.here (m:=dL.mono))) H) ?_;intro _ w H;exact (H.ord [1,2]).drop.drop
 ·rw[if_neg (by simpa using o),if_neg o];obtain⟨_,H⟩:=au o;have H:=fl (m:={ m with ai:=(h5 m.ai wd.b).1 }) (q:=q) ⟨hm.A,hm.n,hm.p⟩ (H.front 1);exact (H.front 1).drop
theorem adZ{aB:Nat}{m:bn}{eJ:X}{bT:Int}{wd:dv}(ok:zx m)(H:E y (eM aB m::c) w) :
  L Pg 66 [.pointer (some ⟨aB,0,none⟩),.int .i64 bT,iK.enc (aX eJ wd)] cJ w fun _ I=>E y (eM aB (xJ m bT wd)::c) I:=by
 refine acE ?_;unfold Rd;refine cj H fun bh w H=>?_;refine an (x:=wd.v) 0 H rfl rfl rfl ?_;refine cj H fun cw w H=>?_;refine fb (x:=hf) (N:=wd.v) CZ 0 H rfl fun w H=>?_;refine dH H fun w H=>?_;refine b2 rfl ?_;obtain⟨q,hm,H⟩:=hG (H.front 2);refine an (x:=(some ⟨q.a,0,none⟩:Option Addr)) 0 H rfl rfl rfl ?_;refine an (x:=wd.v.ai) 9 H rfl rfl rfl ?_;refine an (x:=wd.v.bm) 9 H rfl rfl rfl ?_;refine an (x:=wd.v.V) 9 H rfl rfl rfl ?_;refine aE (adW ok.ah (H.front 1)) ?_;rintro r w ⟨rfl,H⟩;unfold xJ;have H:=fl (m:={ m with ai:=(mN m.ai wd.v.ai wd.v.bm wd.v.V).1 }) (q:=q) ⟨hm.A,hm.n,hm.p⟩ (H.front 1);by_cases o:(mN m.ai wd.v.ai wd.v.bm wd.v.V).2=0
 ·rw[if_pos (by simpa using o),if_pos o];refine an (x:=wd.v.ai) 1 H rfl rfl rfl ?_;refine an (x:=wd.v.bm) 1 H rfl rfl rfl ?_;have rc:=ok.out;refine aE (yw (m:={ m with ai:=(mN m.ai wd.v.ai wd.v.bm wd.v.V).1 }) (bw:=bT) (s:=er) (wd:=ZR wd.v.ai wd.v.bm) (by show m.out.length≤_; omega) (fun _ _ _=>AK) H) ?_;intro _ w H;exact (H.ord [1,2]).drop.drop
 ·rw[if_neg (by simpa using o),if_neg o];exact (H.ord [1,2]).drop.drop
end
end dO
namespace dO
open ba Wire Disk Ballot
open Vault (cf Fit dF)
theorem VK{es:List (Int×qe)}{x:Int}:(es.lookup x).isSome=(es.map (·.1)).contains x:=by
 induction es with
 |nil=>rfl
 |cons e es b8=>
  obtain⟨k,v⟩:=e;rw[List.lookup_cons,List.map_cons,List.contains_cons];by_cases o:x=k
  ·subst o; simp
  ·have:(x==k)=false:=by simpa using o
   rw[this,← b8];rfl
theorem DU{S:Type}{x:Int}{v:S}:∀ {es:List (Int×S)},es.lookup x=none→bM x v es=es++[(x,v)]
 |[],_=>rfl
 |(k,u)::es,h=>by
  rw[List.lookup_cons] at h;unfold bM;cases o:x==k with
  |true=>rw[o] at h; cases h
  |false=>
   rw[o] at h;simp only[Bool.false_eq_true,if_false];rw[DU h];rfl
section
variable {y w:World} {c bx:List bt} {n f k:Nat} {z:cu} {K:bN} [fP]
theorem Yn{aw l i:Nat}{p:ia}{b0:bt}{aB:Nat}{yu:bn}(a5:p.Q[i]?=some (aB,yu))(aj:p.Q.length=z.R.length)(H:E y (b0::eD aw z p l c) w):∃ a,cz p.c 1 (i:Int) a∧M aM a w (some ⟨aB,0,none⟩):=by
 have aq:=(List.getElem?_eq_some_iff.1 a5).1;obtain⟨a,ag⟩:=ih (i:=(i:Int)) (H.front 2) (by omega) (by rw[List.length_map]; omega);exact⟨a,ag,lz (fun _=>rfl) ag (by rw[List.getElem?_map,Int.toNat_natCast,a5]; rfl) (H.front 2)⟩
theorem Y9{aw l aB:Nat}{p:ia}{m yu:bn}{s:Int}(ap:j2 z p)(a5:p.Q[l]?=some (aB,yu))(gg:z.R.length≤1000)(aO:p.c.len=z.R.length)(ab:m.out.length+z.R.length≤1000000000000)(H:E y (eM aB m::eD aw z p l c) w) :
  L Pg 87 [.pointer (some ⟨aw,0,none⟩),.int .i64 (l:Int),.int .i64 s] cJ w fun _ I=>E y (eM aB (nN z.R.length l m s)::eD aw z p l c) I:=by
 have aiA:=(List.getElem?_eq_some_iff.1 a5).1;have jQ:=Ca ap;refine ac0 ?_;unfold Ry;refine cj H fun bh w H=>?_;refine dH H fun w H=>?_;refine b2 rfl ?_;refine an (x:=p.c) 2 H rfl rfl rfl ?_;refine an (x:=(l:Int)) 0 H rfl rfl rfl ?_;obtain⟨a,ag,pF⟩:=Yn (z:=z) a5 jQ (H.drop);refine aQ a ag ?_;refine aQ _ pF ?_;refine cj H fun e4 w H=>?_;refine eg (x:=(some ⟨aB,0,none⟩:Option Addr)) 0 H rfl rfl (Nat.le_of_ble_eq_true rfl) fun w H=>?_;refine an (x:=(some ⟨aB,0,none⟩:Option Addr)) 0 H rfl rfl rfl ?_;refine b2 rfl ?_;obtain⟨q,hm,H⟩:=hG (H.front 2);refine an (x:=some q.j6) 0 H rfl rfl rfl ?_;refine iV 2 H rfl rfl ?_;have H:=fl hm H;refine cj H fun kZ w H=>?_;refine fb (x:=rR) (N:=aX er (vM s ((m.bO.lookup s).getD []))) LQ 0 H rfl fun w H=>?_
 have H:E y (eM aB m::eD aw z p l (aN kZ (iK.cells (aX er (vM s ((m.bO.lookup s).getD [])))) 56::aN e4 (aM.cells (some ⟨aB,0,none⟩)) 57::aN bh ((D .i64).cells (l:Int)) 3::c)) w:=H.ord [1,4,5,6,7,8,0,2,3];have pF:=GP H
 refine aE (BL (gJ:=dz.mk (.func 122) (List.toArray []) (List.toArray [.pointer (some ⟨bh,0,none⟩),.pointer (some ⟨e4,0,none⟩),.pointer (some ⟨kZ,0,none⟩)])) (n:=z.R.length) gg aO pF
  (fun k w=>E y (eM aB (e8 m ((((gd z.R.length).take k).filter fun bw=>bw != (l:Int)).map fun bw=>(bw,vM s ((m.bO.lookup s).getD []))))::eD aw z p l (aN kZ (iK.cells (aX er (vM s ((m.bO.lookup s).getD [])))) 56::aN e4 (aM.cells (some ⟨aB,0,none⟩)) 57::aN bh ((D .i64).cells (l:Int)) 3::c)) w) (by rw[List.take_zero,List.filter_nil,List.map_nil,DE]; exact H) ?_) ?_
 ·intro k w al H;refine⟨122,[],[.pointer (some ⟨bh,0,none⟩),.pointer (some ⟨e4,0,none⟩),.pointer (some ⟨kZ,0,none⟩)],rfl,afV,?_⟩;refine aar ?_;unfold O5;refine an (x:=(l:Int)) 8 H rfl rfl rfl ?_;rw[Eg al,List.filter_append,List.map_append];by_cases o:(k:Int)=(l:Int)
  ·have e:[(k:Int)].filter (fun bw=>bw != (l:Int))=[]:=by simp[o]
   rw[if_neg (by simp[o]),e,List.map_nil,List.append_nil];exact H
  ·have e:[(k:Int)].filter (fun bw=>bw != (l:Int))=[(k:Int)]:=by simp[o]
   rw[if_pos (by simpa using o),e];refine an (x:=(some ⟨aB,0,none⟩:Option Addr)) 7 H rfl rfl rfl ?_;refine gV (x:=aX er (vM s ((m.bO.lookup s).getD []))) 6 H rfl ?_;have m1:(e8 m ((((gd z.R.length).take k).filter fun bw=>bw != (l:Int)).map fun bw=>(bw,vM s ((m.bO.lookup s).getD [])))).out.length≤1000000000000:=by
    have B:=List.length_filter_le (fun bw:Int=>bw != (l:Int)) ((gd z.R.length).take k);simp only[e8,List.length_append,List.length_map];rw[List.length_take,oH] at B;omega
   refine aE (yw m1 (fun _ _ _=>AK) H) ?_;intro _ w H;rw[DF] at H;exact H
 ·intro _ w H;have e:(gd z.R.length).take z.R.length=gd z.R.length:=by rw[List.take_of_length_le (by rw[oH]; omega)]
  rw[e] at H;exact (H.ord [6,7,8]).drop.drop.drop
theorem adY{aw l aB:Nat}{p:ia}{m:bn}{eJ:X}{bT:Int}{wd:dv}(ap:j2 z p)(a5:p.Q[l]?=some (aB,m))(gg:z.R.length≤5)(aO:p.c.len=z.R.length)(ok:zx m)(H:E y (eM aB m::eD aw z p l c) w) :
  L Pg 70 [.pointer (some ⟨aw,0,none⟩),.int .i64 (l:Int),.int .i64 bT,iK.enc (aX eJ wd)] cJ w fun _ I=>E y (eM aB (xI z.R.length l m bT wd)::eD aw z p l c) I:=by
 have aiA:=(List.getElem?_eq_some_iff.1 a5).1;have jQ:=Ca ap;refine acJ ?_;unfold Rh;refine cj H fun aR w H=>?_;refine b2 rfl ?_;refine an (x:=p.c) 2 H rfl rfl rfl ?_;obtain⟨a,ag,pF⟩:=Yn (z:=z) a5 jQ H.drop;refine aQ a ag ?_;refine aQ _ pF ?_;refine dH H fun w H=>?_;refine b2 rfl ?_;have H:E y (eM aB m::eD aw z p l (aN aR (iK.cells (aX eJ wd)) 56::c)) w:=H.ord [1,2,3,4,5,6,0];have wb:∀ (dD:bn) (w:World),E y (eM aB dD::eD aw z p l (aN aR (iK.cells (aX eJ wd)) 56::c)) w→E y (eM aB dD::eD aw z p l c) w:=fun dD w H=>(H.front 6).drop;obtain⟨q,hm,H⟩:=hG H;refine an (x:=some q.hk) 0 H rfl rfl rfl ?_;refine an (x:=wd.v.bm) 14 H rfl rfl rfl ?_;refine iV 5 H rfl rfl ?_;refine dH H fun w H=>?_;refine aQ ⟨aB,0,none⟩ (fun _=>rfl) ?_;refine aQ m.fz (fun _=>cW bi H rfl rfl) ?_;refine aQ ⟨aB,0,none⟩ (fun _=>rfl) ?_;refine aQ wd.b (fun _=>cW (D .i64) (H.front 14) rfl rfl) ?_
 refine aQ m.b (fun _=>cW (D .i64) H rfl rfl) ?_;unfold xI;cases aH:m.bz.lookup wd.v.bm with
 |none=>
  have e:(q.P.map jg).lookup wd.v.bm=none:=F0 (a:=yG) (b:=jg) (fun _=>rfl) (by rw[hm.p]; exact aH);rw[e,if_pos (by simp)];exact wb m w (fl hm H)
 |some eN=>
  obtain⟨fs,t,gX,gA,ak,jc,z_⟩:=MU (aB:=aB) hm aH;rw[jc];simp only;by_cases bF:m.fz=false∨wd.b≠m.b
  ·rw[if_pos bF,if_pos (by rcases bF with bF | bF<;>simp[bF])];exact wb m w (fl hm H)
  ·rw[if_neg bF,if_neg (by
    have B:m.fz=true:=by
     cases e:m.fz with
     |true=>rfl
     |false=>exact absurd (.inl e) bF
    have J:wd.b=m.b:=Classical.byContradiction fun e=>bF (.inr e)
    simp[B,J])]
   refine b2 rfl ?_;have ax:t.2.2.2.1=eN.1:=congrArg (fun aL=>aL.2.1) ak;have ws:t.2.2.2.2.map (·.1)=eN.2:=congrArg (fun aL=>aL.2.2) ak;have Uf:t.1=wd.v.bm:=congrArg (fun aL=>aL.1) ak;have eL:=H.front 6;rw[gA] at eL;have eL:=(xM eL).open_;have eL:E y (aN t.2.1 (xD.cells ⟨t.2.2.2.1,some t.2.2.1⟩) 164::bR xE .i64 t.2.2.1 t.2.2.2.2::de ((fs++gX).map kO)::aN aB (jD.cells (l1 m q)) 66::gp q.a q.d m.ai::bR dT .i64 q.j6 m.bO::nr aB q.v m.V::bR O .i64 q.ju (q.ar.map hy)::bR aM .i64 q.hk ((fs++t::gX).map jg)::row lJ 147 7 q.out (q.cP.map kr)::jy (da q.cP++kw q.ar)::eD aw z p l (aN aR (iK.cells (aX eJ wd)) 56::c)) w:=eL;clear H
   have shut:∀ (fw:List (Int×qe)) (w:World),E y (aN t.2.1 (xD.cells ⟨t.2.2.2.1,some t.2.2.1⟩) 164::bR xE .i64 t.2.2.1 fw::de ((fs++gX).map kO)::aN aB (jD.cells (l1 m q)) 66::gp q.a q.d m.ai::bR dT .i64 q.j6 m.bO::nr aB q.v m.V::bR O .i64 q.ju (q.ar.map hy)::bR aM .i64 q.hk ((fs++t::gX).map jg)::row lJ 147 7 q.out (q.cP.map kr)::jy (da q.cP++kw q.ar)::eD aw z p l (aN aR (iK.cells (aX eJ wd)) 56::c)) w →
     E y (eM aB { m with bz:=bM wd.v.bm (eN.1,fw.map (·.1)) m.bz }::eD aw z p l (aN aR (iK.cells (aX eJ wd)) 56::c)) w:=fun fw w H=>by
    have H:E y (kO (t.1,t.2.1,t.2.2.1,t.2.2.2.1,fw)::de ((fs++gX).map kO)::_) w:=E.shut (bx:=[_,_]) H;have H:=xL H;have aT:(fs++(t.1,t.2.1,t.2.2.1,t.2.2.2.1,fw)::gX)=l8 tB (t.1,t.2.1,t.2.2.1,t.2.2.2.1,fw) q.P:=by
     rw[gA]
     exact (Zm (key:=tB) (t:=(t.1,t.2.1,t.2.2.1,t.2.2.2.1,fw)) (u:=t) rfl (fun v ax=>by
      have:=z_ v ax;show tB v≠t.1
      rw[Uf]; exact this)).symm
    have a0:(fs++t::gX).map jg=(fs++(t.1,t.2.1,t.2.2.1,t.2.2.2.1,fw)::gX).map jg:=by simp[jg]
    rw[a0] at H;refine fl (m:={ m with bz:=bM wd.v.bm (eN.1,fw.map (·.1)) m.bz }) (q:={ q with P:=fs++(t.1,t.2.1,t.2.2.1,t.2.2.2.1,fw)::gX }) ⟨hm.A,hm.n,?_⟩ (H.ord [1,2,3,4,5,6,0]);show (fs++(t.1,t.2.1,t.2.2.1,t.2.2.2.1,fw)::gX).map yG=_
    rw[aT,AU (key:=tB) (a:=yG) (fun _=>rfl),hm.p];show bM t.1 (t.2.2.2.1,fw.map (·.1)) m.bz=_
    rw[Uf,ax]
   have same:∀ w,E y (aN t.2.1 (xD.cells ⟨t.2.2.2.1,some t.2.2.1⟩) 164::bR xE .i64 t.2.2.1 t.2.2.2.2::de ((fs++gX).map kO)::aN aB (jD.cells (l1 m q)) 66::gp q.a q.d m.ai::bR dT .i64 q.j6 m.bO::nr aB q.v m.V::bR O .i64 q.ju (q.ar.map hy)::bR aM .i64 q.hk ((fs++t::gX).map jg)::row lJ 147 7 q.out (q.cP.map kr)::jy (da q.cP++kw q.ar)::eD aw z p l (aN aR (iK.cells (aX eJ wd)) 56::c)) w →
     E y (eM aB m::eD aw z p l (aN aR (iK.cells (aX eJ wd)) 56::c)) w:=fun w H=>by
    have H:E y (kO t::de ((fs++gX).map kO)::_) w:=E.shut (bx:=[_,_]) H;have H:=xL H;rw[← gA] at H;exact fl hm (H.ord [1,2,3,4,5,6,0])
   refine an (x:=some t.2.2.1) 0 eL rfl rfl rfl ?_;refine iV 1 eL rfl rfl ?_;refine cj eL fun pu w H=>?_;refine eg (x:=((t.2.2.2.2.lookup bT).getD oT)) 0 H rfl rfl (Nat.le_of_ble_eq_true rfl) fun w H=>?_;have H:=H.drop;have h1:(t.2.2.2.2.lookup bT).isSome=eN.2.contains bT:=by rw[VK,ws]
   simp only[h1];by_cases bP:eN.2.contains bT=true
   ·rw[if_pos bP,if_pos bP];exact wb m w (same w H)
   ·rw[if_neg bP,if_neg bP];have ajW:t.2.2.2.2.lookup bT=none:=by
     cases e:t.2.2.2.2.lookup bT with
     |none=>rfl
     |some u=>rw[e] at h1; exact absurd h1.symm bP
    have CA:=ok.awu _ (m6 aH);simp only at CA;have hR:t.2.2.2.2.length=eN.2.length:=by rw[← ws,List.length_map]
    refine an (x:=some t.2.2.1) 0 H rfl rfl rfl ?_;refine C8 1 H rfl rfl ?_;have o4:∀ {b0:List bt} {w:World},b0=b0→E y (aN aw (lI.cells (qk z p)) 49::b0) w→M O ((⟨aw,0,none⟩:Addr).add 1) w p.c:=fun _ H=>by rw[iN]; exact cW O H rfl rfl
    refine aE (L2 (n:=z.R.length) (by omega) (by omega) aO (o4 rfl (H.front 11)) H) ?_;rintro r w ⟨rfl,H⟩;refine an (x:=some t.2.2.1) 0 H rfl rfl rfl ?_;refine pd 1 H rfl rfl fun w H=>?_;have FF:bM bT (⟨⟩:qe) t.2.2.2.2=t.2.2.2.2++[(bT,⟨⟩)]:=DU ajW;have akv:(t.2.2.2.2++[(bT,(⟨⟩:qe))]).map (·.1)=eN.2++[bT]:=by rw[List.map_append,ws]; rfl
    rw[FF] at H;have H:=H.front 1;have KZ:=fun w=>shut (t.2.2.2.2++[(bT,(⟨⟩:qe))]) w;rw[akv] at KZ;unfold EP;have jJ:∀ (b:Bool) (w:World),(b=true↔(z.R.length<2*eN.2.length∨¬ z.R.length<2*(eN.2.length+1)))→E y (aN t.2.1 (xD.cells ⟨t.2.2.2.1,some t.2.2.1⟩) 164::bR xE .i64 t.2.2.1 (t.2.2.2.2++[(bT,⟨⟩)])::de ((fs++gX).map kO)::aN aB (jD.cells (l1 m q)) 66::gp q.a q.d m.ai::bR dT .i64 q.j6 m.bO::nr aB q.v m.V::bR O .i64 q.ju (q.ar.map hy)::bR aM .i64 q.hk ((fs++t::gX).map jg)::row lJ 147 7 q.out (q.cP.map kr)::jy (da q.cP++kw q.ar)::eD aw z p l (aN aR (iK.cells (aX eJ wd)) 56::c)) w →
      Bo (some ⟨aw,0,none⟩) (l:Int) ⟨aR,0,none⟩ (some ⟨aB,0,none⟩) ⟨t.2.1,0,none⟩ b w fun _ I=>E y (eM aB (if z.R.length<2*eN.2.length∨¬ z.R.length<2*(eN.2.length+1) then { m with bz:=bM wd.v.bm (eN.1,eN.2++[bT]) m.bz } else nN z.R.length l (lX { m with bz:=bM wd.v.bm (eN.1,eN.2++[bT]) m.bz } wd.v.bm eN.1) wd.v.bm)::eD aw z p l c) I:=by
     intro b w aA H;unfold Bo;by_cases di:z.R.length<2*eN.2.length∨¬ z.R.length<2*(eN.2.length+1)
     ·rw[if_pos (aA.2 di),if_pos di];exact wb _ w (KZ w H)
     ·rw[if_neg (fun e=>di (aA.1 e)),if_neg di];refine dH H fun w H=>?_;refine an (x:=wd.v.bm) 16 H rfl rfl rfl ?_;refine an (x:=eN.1) 0 H rfl rfl (by rw[← ax]; rfl) ?_;have aF:=ok.MS _ (m6 aH);have Ui:=ok.awD _ (m6 aH);simp only at aF Ui;refine aE (Vv (m:={ m with bz:=bM wd.v.bm (eN.1,eN.2++[bT]) m.bz }) ok.v ok.dh ok.E3 ⟨aF.1,aF.2,Ui⟩ (KZ w H)) ?_;intro _ w H;refine an (x:=wd.v.bm) 6 H rfl rfl rfl ?_;have rc:(lX { m with bz:=bM wd.v.bm (eN.1,eN.2++[bT]) m.bz } wd.v.bm eN.1).out=m.out:=by
       unfold lX;split
       ·rfl
       ·rw[(ES _ _).2.2.2.2.2.2]
      have ab:=ok.out;refine aE (Y9 ap a5 (by omega) aO (by rw[rc]; omega) H) ?_;intro _ w H;exact wb _ w H
    by_cases hh:z.R.length<2*t.2.2.2.2.length
    ·rw[if_pos (by simpa using hh)];exact jJ true w ⟨fun _=>.inl (by omega),fun _=>rfl⟩ H
    ·rw[if_neg (by simpa using hh)];refine an (x:=some t.2.2.1) 0 H rfl rfl rfl ?_;refine C8 1 H rfl rfl ?_;refine aE (L2 (n:=z.R.length) (k:=(t.2.2.2.2++[(bT,(⟨⟩:qe))]).length) (by omega) (by rw[List.length_append]; simp; omega) aO (o4 rfl (H.front 11)) H) ?_;rintro r w ⟨rfl,H⟩;refine jJ _ w ?_ H;rw[List.length_append,List.length_singleton,hR];simp only[Bool.not_eq_true',decide_eq_false_iff_not];omega
end
end dO
namespace ba
open Go.RowKit Go.Maps Go.Sort Go.Shelf Go.WideElems
section
variable {y w:World} {c:List bt} {S:Type} {T:a_ S}
theorem ayG{r ep:Nat}{es:List (Int×S)}(Z:∀ p∈es,-9223372036854775808≤p.1∧p.1≤9223372036854775807)(hm:es.length≤1000000)(H:E y (aN ep [.map (some r)] 63::bR T .i64 r es::c) w) :
  L Pg 56 [.func (.func 148) #[] #[.pointer (some ⟨ep,0,none⟩)]] O w fun s I=>∃ bu:List Int,bu.Perm (es.map (·.1)) ∧
   E y (row (D .i64) 3 1 s (bu.mergeSort fun x N=>decide (x≤N))::aN ep [.map (some r)] 63::bR T .i64 r es::c) I:=by
 obtain⟨arr,c,B,aA,J,eL⟩:=rp (H.front 1);have bV:=eL.get;obtain⟨lf,su,sv,nC⟩:=AD (k:=3) Tryz.underlying3 Z (by omega) B aA J bV;have nB:=H.get;have cA:ep<w.heap.size:=(Array.getElem?_eq_some_iff.1 nB).1;have sx:=AnyZI.keys_gives (ρ:=Tryz.Vd) { Tryz.ats with } Fence.wide (5-1-1-1) trivial rfl (by omega) ep r arr.size lf w cA (by rw[px nB]; rfl) su;have mg:=AnyZI.sorted_in Tryz.AP Fence.wide 5 trivial trivial trivial trivial rfl (by omega) (AQ _) (enters_of Tryz.func104 (by kernel_rfl) rfl) 148 #[.pointer (some ⟨ep,0,none⟩)] trivial (enters_of Tryz.func148 (by kernel_rfl) rfl) _ (Maps.size lf) (by rw[nC]; exact Nat.le_trans hm (Nat.le_of_ble_eq_true rfl)) (by rw[nC]; omega) w sx;change CallsIn _ _ Pg 56 _ _ _ at mg;refine (callsIn_wide (n:=5)).1 (mg.mono ?_);rintro e I ⟨v,gv,rfl,iR,kI,Cx,sp⟩
 have kI:I.ownsRow w.heap.size 3 1 v gv.length ((gv.mergeSort fun x N=>decide (x≤N)).flatMap (D .i64).cells):=by
  have e:(gv.mergeSort fun x N=>decide (x≤N)).flatMap (D .i64).cells=(gv.mergeSort fun x N=>decide (x≤N)).map encZ:=by
   generalize gv.mergeSort (fun x N=>decide (x≤N))=q;induction q with
   |nil=>rfl
   |cons x q b8=>rw[List.flatMap_cons,b8]; rfl
  rw[e]; exact kI
 obtain⟨s,aF,lh⟩:=H.ownsRow (T:=D .i64) (fun _=>rfl) (by rw[List.length_mergeSort]) sp kI;exact⟨s,aF,gv,iR.trans sv,lh⟩
end
end ba
namespace dO
open ba Wire Disk Ballot
open Vault (cf Fit dF)
def yx(t:Int×X×List dd):Int:=t.1
section
variable {y w:World} {c bx:List bt} {n f k:Nat} {z:cu} {K:bN} [fP]
theorem auR{m:bn}{q:vY}(hm:xm m q):(q.ar.map hy).map (·.1)=m.bG.map (·.1):=by
 rw[← hm.n,List.map_map,List.map_map];rfl
theorem awA{aw l aB l0:Nat}{p:ia}{m:bn}{es:List (Int×fG)}{c4:Int}(gg:z.R.length≤5)(aO:p.c.len=z.R.length)(ab:m.out.length≤60000000)(wy:c4≤1000)
  (H:E y (eM aB m::eD aw z p l (bR dT .i64 l0 es::c)) w) :
  e7 (fun (s:Int) w aa=>EI (some ⟨aw,0,none⟩) (some ⟨aB,0,none⟩) l0 c4 s w aa fun _ I=>E y (eM aB ((nl c4.toNat).foldl (fun m s=>kg z.R.length m s ((es.lookup s).getD [])) m)::eD aw z p l c) I) (1:Int) w:=by
 refine hU (fun s w=>∃ d:Nat,s=(d:Int)+1∧d≤c4.toNat∧E y (eM aB ((nl d).foldl (fun m s=>kg z.R.length m s ((es.lookup s).getD [])) m)::eD aw z p l (bR dT .i64 l0 es::c)) w) (fun s=>(c4+1-s).toNat) ⟨0,rfl,by omega,H⟩ ?_;clear H;rintro s w ⟨d,rfl,aC,H⟩ aa b7;unfold EI;by_cases o:(d:Int)+1≤c4
 ·rw[if_pos (by simpa using o)];refine iV 6 H rfl rfl ?_;have hR:=(MV (n:=z.R.length) (fun s=>(es.lookup s).getD []) (nl d) m).1;have rf:(nl d).length=d:=by simp[nl]
  rw[rf] at hR;have hmul:z.R.length*d≤5*1000:=Nat.mul_le_mul gg (by omega);refine aE (WX (n:=z.R.length) (x:=qk z p) (by omega) aO (by rw[hR]; omega) H) ?_;intro _ w H;rw[wrap_i64 (x:=(d:Int)+1+1) (by omega) (by omega)];refine b7 _ _ ⟨d+1,by omega,by omega,?_⟩ (by omega);rw[YO,List.foldl_append];exact H
 ·rw[if_neg (by simpa using o)];have e:c4.toNat=d:=by omega
  rw[e];exact (H.front 6).drop
theorem Gx{aw l aB:Nat}{p:ia}{m:bn}{eJ:X}{bT:Int}{wd:dv}(gg:z.R.length≤5)(aO:p.c.len=z.R.length)(ok:zx m)(ws:0≤bT∧bT≤4)(hw:EM wd.c)(aty:cn c (dL fH eJ wd.c))
  (lV:(m.bG.map (·.1)).Nodup) (tp:wd.b=m.b→rm (gT (gM (mu (bM bT wd.c m.bG))))≤1000) (H:E y (eM aB m::eD aw z p l c) w) :
  L Pg 68 [.pointer (some ⟨aw,0,none⟩),.pointer (some ⟨aB,0,none⟩),.int .i64 bT,iK.enc (aX eJ wd)] cJ w fun _ I=>E y (eM aB (wS z.R.length m bT wd)::eD aw z p l c) I:=by
 refine acG ?_;unfold Rf;refine cj H fun aR w H=>?_;refine b2 rfl ?_;have H:E y (eM aB m::eD aw z p l (aN aR (iK.cells (aX eJ wd)) 56::c)) w:=H.ord [1,2,3,4,5,6,0];have wb:∀ (dD:bn) (w:World),E y (eM aB dD::eD aw z p l (aN aR (iK.cells (aX eJ wd)) 56::c)) w→E y (eM aB dD::eD aw z p l c) w:=fun dD w H=>(H.front 6).drop;obtain⟨q,hm,H⟩:=hG H;refine an (x:=some q.ju) 0 H rfl rfl rfl ?_;refine iV 4 H rfl rfl ?_;refine dH H fun w H=>?_;refine aQ ⟨aB,0,none⟩ (fun _=>rfl) ?_;refine aQ m.fz (fun _=>cW bi H rfl rfl) ?_;refine aQ ⟨aB,0,none⟩ (fun _=>rfl) ?_;refine aQ wd.b (fun _=>cW (D .i64) (H.front 14) rfl rfl) ?_;refine aQ m.b (fun _=>cW (D .i64) H rfl rfl) ?_;have K0:((q.ar.map hy).lookup bT).isSome=(m.bG.lookup bT).isSome:=by
  rw[← hm.n];cases e:(q.ar.map sK).lookup bT with
  |none=>exact congrArg Option.isSome (F0 (a:=sK) (b:=hy) (fun _=>rfl) e)
  |some xs=>
   obtain⟨_,t,_,_,_,h,_⟩:=C3 (a:=sK) (b:=hy) (fun _=>rfl) e;rw[h]; rfl
 simp only[K0];unfold wS;by_cases bF:(m.bG.lookup bT).isSome=true∨m.fz=true∨wd.b≠m.b
 ·rw[if_pos bF,if_pos (by rcases bF with bF | bF | bF<;>simp[bF])];exact wb m w (fl hm H)
 ·rw[if_neg bF,if_neg (by
   have B:(m.bG.lookup bT).isSome=false:=by
    cases e:(m.bG.lookup bT).isSome with
    |false=>rfl
    |true=>exact absurd (.inl e) bF
   have J:m.fz=false:=by
    cases e:m.fz with
    |false=>rfl
    |true=>exact absurd (.inr (.inl e)) bF
   have au:wd.b=m.b:=Classical.byContradiction fun e=>bF (.inr (.inr e));rw[B,J,au]
   simp)]
  have u9:wd.b=m.b:=Classical.byContradiction fun e=>bF (.inr (.inr e));have tp:=tp u9;refine dH H fun w H=>?_;refine an (x:=some q.ju) 0 H rfl rfl rfl ?_;refine an (x:=eJ) 14 H rfl rfl rfl ?_;refine pd 4 H rfl rfl fun w H=>?_;have aT:bM bT eJ (q.ar.map hy)=(l8 yx (bT,eJ,wd.c) q.ar).map hy:=(AU (key:=yx) (a:=hy) (t:=(bT,eJ,wd.c)) (fun _=>rfl)).symm;have a0:(l8 yx (bT,eJ,wd.c) q.ar).map sK=bM bT wd.c m.bG:=by
   rw[AU (key:=yx) (a:=sK) (t:=(bT,eJ,wd.c)) (fun _=>rfl),hm.n];rfl
  have lo:∀ t∈l8 yx (bT,eJ,wd.c) q.ar,t=(bT,eJ,wd.c)∨t∈q.ar:=by
   have key:∀ {R:List (Int×X×List dd)} {t},t∈l8 yx (bT,eJ,wd.c) R→t=(bT,eJ,wd.c)∨t∈R:=by
    intro R;induction R with
    |nil=>intro t h; exact .inl (by simpa[l8] using h)
    |cons u R b8=>
     intro t h;unfold l8 at h;split at h
     ·rcases List.mem_cons.1 h with h | h
      ·exact .inl h
      ·exact .inr (by simp[h])
     ·rcases List.mem_cons.1 h with h | h
      ·exact .inr (by simp[h])
      ·rcases b8 h with h | h
       ·exact .inl h
       ·exact .inr (by simp[h])
   exact fun t h=>key h
  rw[aT] at H;have KK:((bM bT wd.c m.bG).map (·.1)).Nodup:=qA lV;have aA7:(bM bT wd.c m.bG).length≤100:=by
   have:=(rE (k:=bT) (v:=wd.c) (es:=m.bG)).2;have:=ok.bG;omega
  have KL:∀ t∈bM bT wd.c m.bG,0≤t.1∧t.1≤4∧EM t.2:=fun t ak=>by
   rcases sC ak with rfl | ak
   ·exact⟨ws.1,ws.2,hw⟩
   ·exact ok.auS t ak
  generalize bM bT wd.c m.bG=jA at *;generalize l8 yx (bT,eJ,wd.c) q.ar=hO at *;have sA:cn (bR O .i64 q.ju (hO.map hy)::aN aB (jD.cells (l1 m q)) 66::gp q.a q.d m.ai::bR dT .i64 q.j6 m.bO::nr aB q.v m.V::bR aM .i64 q.hk (q.P.map jg)::de (q.P.map kO)::row lJ 147 7 q.out (q.cP.map kr)::jy (da q.cP++kw q.ar)::eD aw z p l (aN aR (iK.cells (aX eJ wd)) 56::c)) (nY (da q.cP++kw hO)):=
   ((zb (c := eD aw z p l (aN aR (iK.cells (aX eJ wd)) 56 :: c))).k0 [_, _, _, _, _, _, _, _] |>.and (aty.k0 [_, _, _, _, _, _, _, _, _, _, _, _, _, _, _])).imp fun aG b6 t ak => by
    rcases List.mem_append.1 ak with ak | ak
    ·exact b6.1 t (List.mem_append.2 (.inl ak))
    ·obtain⟨u,hu,rfl⟩:=List.mem_map.1 ak;rcases lo u hu with rfl | hu
     ·exact b6.2
     ·exact b6.1 _ (List.mem_append.2 (.inr (List.mem_map.2 ⟨u,hu,rfl⟩)))
  have H:=(E.vh (m:=nY.mono) sA H).ord [9] |>.drop
  have x4:∀ (b:Bool),xm { m with bG:=jA,fz:=b } { q with ar:=hO }:=fun b=>⟨hm.A,a0,hm.p⟩
  refine an (x:=some q.ju) 2 H rfl rfl rfl ?_;refine C8 1 H rfl rfl ?_;have TE:(hO.map hy).length=jA.length:=by rw[← a0,List.length_map,List.length_map]
  have o4:M O ((⟨aw,0,none⟩:Addr).add 1) w p.c:=by rw[iN]; exact cW O (H.front 9) rfl rfl
  refine aE (L2 (n:=z.R.length) (k:=(hO.map hy).length) (by omega) (by omega) aO o4 H) ?_;rintro r w ⟨rfl,H⟩;rw[TE];have H:E y (nH aB { m with bG:=jA,fz:=m.fz } { q with ar:=hO } (eD aw z p l (aN aR (iK.cells (aX eJ wd)) 56::c))) w:=H.ord [2,3,4,5,1,6,7,8,0];by_cases bP:¬ z.R.length<2*jA.length
  ·rw[if_pos bP,if_pos (by simpa using bP)];exact wb _ w (fl (x4 m.fz) H)
  ·rw[if_neg bP,if_neg (by simpa using bP)];refine eg (x:=true) 0 H rfl rfl (Nat.le_of_ble_eq_true rfl) fun w H=>?_;have H:E y (nH aB { m with bG:=jA,fz:=true } { q with ar:=hO } (eD aw z p l (aN aR (iK.cells (aX eJ wd)) 56::c))) w:=H;have pE:=x4 true;unfold nH at H;refine an (x:=some q.ju) 0 H rfl rfl rfl ?_;refine aao ?_;unfold O2;refine cj H fun ep w H=>?_;have n8:(hO.map hy).map (·.1)=jA.map (·.1):=auR pE
   refine aE (ayG (es:=hO.map hy) (fun e he=>by
    have:e.1∈jA.map (·.1):=by rw[← n8]; exact List.mem_map.2 ⟨e,he,rfl⟩
    obtain⟨t,ak,B⟩:=List.mem_map.1 this;have:=KL t ak
    omega) (by omega) (H.ord [0,5])) ?_
   rintro ly w ⟨bu,aH,H⟩;have a5:(bu.mergeSort fun x N=>decide (x≤N))=e0 (jA.map (·.1)):=by rw[← n8]; exact w3 aH
   rw[a5] at H;clear a5 aH bu;have rf:=ho H;have KE:(e0 (jA.map (·.1))).length=jA.length:=by rw[(hY _).length_eq,List.length_map]
   have js:∀ k∈e0 (jA.map (·.1)),∃ t∈hO,t.1=k∧(hO.map hy).lookup k=some t.2.1∧jA.lookup k=some t.2.2:=by
    intro k al;obtain⟨u,hu,rfl⟩:=List.mem_map.1 ((hY _).mem_iff.1 al);have B:jA.lookup u.1=some u.2:=vm KK hu;have J:=B;rw[← a0] at J;obtain⟨s5,t,tU,au,a8,b_,_⟩:=C3 (a:=sK) (b:=hy) (fun _=>rfl) J;refine⟨t,by rw[au]; simp,congrArg Prod.fst a8,b_,?_⟩;rw[B,← congrArg Prod.snd a8];rfl
   generalize Fz:e0 (jA.map (·.1))=bu at *;have H:=(H.ord [1]).drop;refine hU (fun s w=>∃ i:Nat,s.2=(i:Int)∧i≤bu.length∧E y (row O 54 1 s.1 ((bu.take i).map fun k=>((hO.map hy).lookup k).getD er)::row (D .i64) 3 1 ly bu::bR O .i64 q.ju (hO.map hy)::aN aB (jD.cells (l1 { m with bG:=jA,fz:=true } { q with ar:=hO })) 66::gp q.a q.d m.ai::bR dT .i64 q.j6 m.bO::nr aB q.v m.V::bR aM .i64 q.hk (q.P.map jg)::de (q.P.map kO)::row lJ 147 7 q.out (q.cP.map kr)::jy (da q.cP++kw hO)::eD aw z p l (aN aR (iK.cells (aX eJ wd)) 56::c)) w)
    (fun s=>((bu.length:Int)-s.2).toNat) ⟨0,rfl,by omega,jW O 54 1 H⟩ ?_
   clear H;rintro⟨nL,s⟩ w ⟨i,aq,aiw,H⟩ aa b7;simp only at aq H;subst aq;unfold IH;simp only[rf];split
   ·rename_i ci;have ci:i<bu.length:=by simpa using ci
    have F:bu[i]?=some bu[i]:=List.getElem?_eq_getElem ci;have ak:bu.take (i+1)=bu.take i++[bu[i]]:=List.take_succ_eq_append_getElem ci;generalize bu[i]=x at F ak;obtain⟨a,ag⟩:=ih (i:=(i:Int)) (H.front 1) (by omega) (by omega);refine aQ a ag ?_;refine aQ x (lz (fun _=>rfl) ag (by rw[Int.toNat_natCast]; exact F) (H.front 1)) ?_;refine an (x:=some q.ju) 3 H rfl rfl rfl ?_;refine iV 2 H rfl rfl ?_;refine me (fun _=>rfl) 0 H rfl (by simp; omega) fun r w H=>?_;have cS:IntKind.i64.wrap ((i:Int)+1)=((i+1:Nat):Int):=by rw[wrap_i64 (by omega) (by omega)]; omega
    rw[cS];refine b7 _ _ ⟨i+1,rfl,by omega,?_⟩ (by simp only; omega);simp only[ak,List.map_append,List.map_cons,List.map_nil];exact H
   ·rename_i ci;have ci:¬ i<bu.length:=by simpa using ci
    have B1:bu.take i=bu:=List.take_of_length_le (by omega);rw[B1] at H;refine qB H fun l0 w H=>?_;have H:=qz dT .i64 H;have akx:cn (bR dT .i64 l0 []::row O 54 1 nL (bu.map fun k=>((hO.map hy).lookup k).getD er)::row (D .i64) 3 1 ly bu::bR O .i64 q.ju (hO.map hy)::aN aB (jD.cells (l1 { m with bG:=jA,fz:=true } { q with ar:=hO })) 66::gp q.a q.d m.ai::bR dT .i64 q.j6 m.bO::nr aB q.v m.V::bR aM .i64 q.hk (q.P.map jg)::de (q.P.map kO)::row lJ 147 7 q.out (q.cP.map kr)::jy (da q.cP++kw hO)::eD aw z p l (aN aR (iK.cells (aX eJ wd)) 56::c)) (nY (da q.cP++kw hO)):=(zb (c:=eD aw z p l (aN aR (iK.cells (aX eJ wd)) 56::c))).k0 [_,_,_,_,_,_,_,_,_,_,_];have TU:mu jA=(bu.map fun k=>(jA.lookup k).getD []).flatten:=by unfold mu; rw[Fz]
    have jQ:(bu.map fun k=>(jA.lookup k).getD []).flatten.length≤1000*bu.length:=by
     have key:∀ R:List Int,(∀ k∈R,k∈bu)→(R.map fun k=>(jA.lookup k).getD []).flatten.length≤1000*R.length:=by
      intro R;induction R with
      |nil=>intro _; simp
      |cons k R b8=>
       intro h;have B:=b8 fun x F=>h x (by simp[F]);obtain⟨t,_,_,_,J⟩:=js k (h k (by simp));have au:=(KL _ (m6 J)).2.2.1;simp only at au;rw[List.map_cons,List.flatten_cons,List.length_append,J,List.length_cons];simp only[Option.getD_some];omega
     exact key bu fun _ h=>h
    refine aE (av3 (dS:=bu.map fun k=>((hO.map hy).lookup k).getD er) (lb:=bu.map fun k=>(jA.lookup k).getD []) (by simp) (c0.row (fun _=>rfl) 1 rfl) (fun i s xs B J=>?_) (fun x F=>?_) (by omega) (by rw[List.length_map]; omega) H) ?_
    ·rw[List.getElem?_map] at B J;cases al:bu[i]? with
     |none=>rw[al] at B; cases B
     |some k=>
      rw[al] at B J;obtain⟨t,au,_,a8,b_⟩:=js k (List.mem_of_getElem? al);simp only[Option.map_some,a8,b_,Option.getD_some,Option.some.injEq] at B J;subst B; subst J;exact c0.ro (fun _=>rfl) (akx.imp fun aG b6=>b6 _ (List.mem_append.2 (.inr (List.mem_map.2 ⟨t,au,rfl⟩))))
    ·rw[List.mem_flatten] at F;obtain⟨R,gg,F⟩:=F;obtain⟨k,al,rfl⟩:=List.mem_map.1 gg;obtain⟨t,_,_,_,b_⟩:=js k al;rw[b_] at F;have:=(KL _ (m6 b_)).2.2.2 x F;unfold IV;omega
    ·intro hn w H;rw[← TU] at H;have CA:(gT (gM (mu jA))).length≤1000000:=by
      rw[VC];have:=MN (xs:=mu jA) (es:=[]);rw[← TU] at jQ;simp only[List.length_nil] at this;unfold gM;omega
     generalize gT (gM (mu jA))=xs at *;have sy:=ho H;refine hU (fun s w=>∃ i:Nat,s.2=(i:Int)∧i≤xs.length∧s.1=(xs.take i).foldl (fun _ x=>x.bm) 0∧E y (bR dT .i64 l0 ((xs.take i).foldl (fun es x=>bM x.bm x.V es) [])::row fH 53 3 hn xs::row O 54 1 nL (bu.map fun k=>((hO.map hy).lookup k).getD er)::row (D .i64) 3 1 ly bu::bR O .i64 q.ju (hO.map hy)::aN aB (jD.cells (l1 { m with bG:=jA,fz:=true } { q with ar:=hO })) 66::gp q.a q.d m.ai::bR dT .i64 q.j6 m.bO::nr aB q.v m.V::bR aM .i64 q.hk (q.P.map jg)::de (q.P.map kO)::row lJ 147 7 q.out (q.cP.map kr)::jy (da q.cP++kw hO)::eD aw z p l (aN aR (iK.cells (aX eJ wd)) 56::c)) w)
      (fun s=>((xs.length:Int)-s.2).toNat) ⟨0,rfl,by omega,rfl,H.front 1⟩ ?_
     clear H;rintro⟨c4,s⟩ w ⟨i,aq,aiw,wy,H⟩ aa b7;simp only at aq wy H;subst aq;unfold II;simp only[sy];split
     ·rename_i ci;have ci:i<xs.length:=by simpa using ci
      have F:xs[i]?=some xs[i]:=List.getElem?_eq_getElem ci;have ak:xs.take (i+1)=xs.take i++[xs[i]]:=List.take_succ_eq_append_getElem ci;generalize xs[i]=x at F ak;obtain⟨a,ag⟩:=ih (i:=(i:Int)) (H.front 1) (by omega) (by omega);refine aQ a ag ?_;refine aQ x (lz (fun _=>rfl) ag (by rw[Int.toNat_natCast]; exact F) (H.front 1)) ?_;refine cj H fun BI w H=>?_;refine fb (x:=hf) (N:=x) CZ 0 H rfl fun w H=>?_;refine an (x:=x.bm) 0 H rfl rfl rfl ?_;refine an (x:=x.V) 0 H rfl rfl rfl ?_;refine pd 1 H rfl rfl fun w H=>?_;refine an (x:=x.bm) 1 H rfl rfl rfl ?_;have cS:IntKind.i64.wrap ((i:Int)+1)=((i+1:Nat):Int):=by rw[wrap_i64 (by omega) (by omega)]; omega
      rw[cS];refine b7 _ _ ⟨i+1,rfl,by omega,?_,?_⟩ (by simp only; omega)
      ·simp only[ak,List.foldl_append,List.foldl_cons,List.foldl_nil]
      ·simp only[ak,List.foldl_append,List.foldl_cons,List.foldl_nil];exact (H.front 1).drop
     ·rename_i ci;have ci:¬ i<xs.length:=by simpa using ci
      have B1:xs.take i=xs:=List.take_of_length_le (by omega);rw[B1] at H wy;have H:=(H.ord [1,2,3,18]).drop.drop.drop.drop;have H:E y (nH aB { m with bG:=jA,fz:=true } { q with ar:=hO } (eD aw z p l (bR dT .i64 l0 (wP xs)::c))) w:=H.ord [2,3,4,5,1,6,7,8,9,10,11,12,13,14,0];have H:=fl pE H;have ajM:c4=rm xs:=wy;subst ajM;unfold lead;have rc:=ok.out;exact awA (m:={ m with bG:=jA,fz:=true }) gg aO rc tp H
end
section
variable {y w:World} {c bx:List bt} {n f k:Nat} {z:cu} {K:bN} [fP]
theorem Me{p:ia}(ap:j2 z p){l:Int}:match ob z l with
  |none=>(hi z p).at_ l=(ix,92)
  |some x=>∃ s:X,p.a2[l.toNat]?=some (s,x)∧(hi z p).at_ l=(iP (s,x),0):=by
 have aj:p.a2.length=z.cq.c.length:=by rw[← ap.g,List.length_map]
 unfold ob;by_cases dk:l<0
 ·rw[if_pos dk];exact Post.eh.EX _ (.inl dk)
 ·rw[if_neg dk];cases h:z.cq.c[l.toNat]? with
  |none=>
   refine Post.eh.EX _ (.inr ?_);have:=List.getElem?_eq_none_iff.1 h;show ((p.a2.map iP).length:Int)≤l
   rw[List.length_map];omega
  |some x=>
   rw[← ap.g,List.getElem?_map] at h;cases a5:p.a2[l.toNat]? with
   |none=>rw[a5] at h; cases h
   |some t=>
    rw[a5] at h;cases h;refine⟨t.1,rfl,Post.eh.R5 _ (by omega) ?_⟩;show (p.a2.map iP)[l.toNat]?=some (iP t)
    rw[List.getElem?_map,a5];rfl
theorem L4{S ev:Type}(f:S→ev):∀ (R:List S) (i:Nat),(R.eraseIdx i).map f=(R.map f).eraseIdx i
 |[],_=>by simp
 |a::R,0=>by simp
 |a::R,i+1=>by simp[L4 f R i]
theorem Th{p:ia}(ap:j2 z p)(l:Int):j2 (nd z l) { p with a2:=p.a2.eraseIdx l.toNat }∧hi (nd z l) { p with a2:=p.a2.eraseIdx l.toNat }={ hi z p with c:=(hi z p).c.eraseIdx l.toNat }:=by
 refine⟨⟨ap.r,ap.q,?_⟩,?_⟩
 ·show (p.a2.eraseIdx l.toNat).map Prod.snd=z.cq.c.eraseIdx l.toNat
  rw[← ap.g,L4]
 ·unfold hi nd;simp only[L4]
theorem ayy{n:Nat}{K:bN}(h:Inv n K){s:Int}(aF:K.hF s=true):1≤s∧s≤1000∧(K.lL s).length≤1000:=by
 obtain⟨b,au,a8,_⟩:=h.one s aF;rw[a8];exact h.slot b s au
theorem NS{aw aB aI cs kF q:Nat}{j:Int→World→Prop}{p:ia}{m:bn}{s:X}{x:kD}(g:cL n f k z K)(al:k≤99)(dx:fX z x.bw=.ok m)(ap:j2 z p)(akt:x.bw=(q:Int))(a5:p.Q[q]?=some (aB,m))(F:tV n K x.from_ x.w)(aO:p.c.len=z.R.length)
  (H:E y (eM aB m::eD aw z p q (ro fH s x.w.c::aN kF (aM.cells (some ⟨aB,0,none⟩)) 57::aN cs (v2.cells (iP (s,x))) 140::aN aI (aM.cells (some ⟨aw,0,none⟩)) 24::c)) w)
  (kH:∀ I,E y (eM aB (vG z.R.length x.bw m x.from_ x.w)::eD aw z p q (ro fH s x.w.c::aN kF (aM.cells (some ⟨aB,0,none⟩)) 57::aN cs (v2.cells (iP (s,x))) 140::aN aI (aM.cells (some ⟨aw,0,none⟩)) 24::c)) I→j 0 I) :
  ex (M (D .i64) ((Addr.add ⟨cs,0,none⟩ 3).add 0) w) fun ns=>
   if (ns==(1:Int))=true then (
    ex (M aM ⟨kF,0,none⟩ w) fun qQ=>
    qS ⟨cs,0,none⟩ (dz.mk (.func 65) (List.toArray [.pointer (qQ)]) (List.toArray [])) w j
   ) else (
    if (ns==(3:Int))=true then (
     ex (M aM ⟨kF,0,none⟩ w) fun nQ=>
     qS ⟨cs,0,none⟩ (dz.mk (.func 66) (List.toArray [.pointer (nQ)]) (List.toArray [])) w j
    ) else (
     if (ns==(2:Int))=true then (
      qS ⟨cs,0,none⟩ (dz.mk (.func 67) (List.toArray []) (List.toArray [.pointer (some ⟨aI,0,none⟩),.pointer (some ⟨kF,0,none⟩)])) w j
     ) else (
      if (ns==(4:Int))=true then (
       qS ⟨cs,0,none⟩ (dz.mk (.func 69) (List.toArray []) (List.toArray [.pointer (some ⟨aI,0,none⟩),.pointer (some ⟨cs,0,none⟩)])) w j
      ) else (
       qS ⟨cs,0,none⟩ (dz.mk (.func 64) (List.toArray [.pointer (some ⟨aB,0,none⟩)]) (List.toArray [])) w j
      )
     )
    )
   ):=by
 have ok:=g.wJ al dx;have o6:=g.je;have gg:=g.len;obtain⟨aA9,TV,wv,o,aD⟩:=g.node dx;refine an (x:=x.w.k) 8 H rfl rfl rfl ?_;unfold qS;unfold vG at kH;rcases F with ⟨B,J⟩ | ⟨B,J,au,as6,a8,b_,hv⟩ | ⟨B,J⟩ | ⟨B,J⟩ | ⟨B,J,au⟩
 ·rw[if_pos (by simpa using B)];rw[if_pos B] at kH;refine an (x:=(some ⟨aB,0,none⟩:Option Addr)) 7 H rfl rfl rfl ?_;refine an (x:=x.from_) 8 H rfl rfl rfl ?_;refine an (x:=aX s x.w) 8 H rfl rfl rfl ?_;refine⟨65,[.pointer (some ⟨aB,0,none⟩)],[],rfl,agl,?_⟩;refine aE (awr ok H) ?_;intro _ w H;exact kH w H
 ·rw[if_neg (by simp; omega),if_neg (by simp; omega),if_pos (by simpa using B)];rw[if_neg (by omega),if_neg (by omega),if_pos B] at kH;refine an (x:=x.from_) 8 H rfl rfl rfl ?_;refine an (x:=aX s x.w) 8 H rfl rfl rfl ?_;refine⟨67,[],[.pointer (some ⟨aI,0,none⟩),.pointer (some ⟨kF,0,none⟩)],rfl,agn,?_⟩;refine acF ?_;unfold Re;refine cj H fun aR w H=>?_;refine an (x:=(some ⟨aw,0,none⟩:Option Addr)) 10 H rfl rfl rfl ?_;refine an (x:=(some ⟨aB,0,none⟩:Option Addr)) 8 H rfl rfl rfl ?_;refine gV (x:=aX s x.w) 0 H rfl ?_;have H:=H.drop;refine aE (Gx (eJ:=s) (bT:=x.from_) (wd:=x.w) (by omega) aO ok (by omega) (Yk g.inv hv) (cn.here (m:=dL.mono)) o.core.lu (fun e=>Vo g.inv o e ⟨as6,a8,b_,hv⟩) H) ?_;intro _ w H;exact kH w H
 ·rw[if_neg (by simp; omega),if_pos (by simpa using B)];rw[if_neg (by omega),if_pos B] at kH;refine an (x:=(some ⟨aB,0,none⟩:Option Addr)) 7 H rfl rfl rfl ?_;refine an (x:=x.from_) 8 H rfl rfl rfl ?_;refine an (x:=aX s x.w) 8 H rfl rfl rfl ?_;refine⟨66,[.pointer (some ⟨aB,0,none⟩)],[],rfl,agm,?_⟩;refine aE (adZ ok H) ?_;intro _ w H;exact kH w H
 ·rw[if_neg (by simp; omega),if_neg (by simp; omega),if_neg (by simp; omega),if_pos (by simpa using B)];rw[if_neg (by omega),if_neg (by omega),if_neg (by omega),if_pos B] at kH;refine an (x:=x.from_) 8 H rfl rfl rfl ?_;refine an (x:=aX s x.w) 8 H rfl rfl rfl ?_;refine⟨69,[],[.pointer (some ⟨aI,0,none⟩),.pointer (some ⟨cs,0,none⟩)],rfl,ago,?_⟩;refine acH ?_;unfold Rg;refine cj H fun aR w H=>?_;refine an (x:=(some ⟨aw,0,none⟩:Option Addr)) 10 H rfl rfl rfl ?_;refine an (x:=x.bw) 9 H rfl rfl rfl ?_;refine gV (x:=aX s x.w) 0 H rfl ?_;have H:=H.drop;rw[akt] at kH ⊢;refine aE (adY (eJ:=s) (bT:=x.from_) (wd:=x.w) ap a5 (by omega) aO ok H) ?_;intro _ w H;exact kH w H
 ·rw[if_neg (by simp; omega),if_neg (by simp; omega),if_neg (by simp; omega),if_neg (by simp; omega)];rw[if_neg (by omega),if_neg (by omega),if_neg (by omega),if_neg (by omega)] at kH;refine an (x:=x.from_) 8 H rfl rfl rfl ?_;refine an (x:=aX s x.w) 8 H rfl rfl rfl ?_;refine⟨64,[.pointer (some ⟨aB,0,none⟩)],[],rfl,agk,?_⟩;have aF:=ayy g.inv J;rw[au] at aF;refine aE (atI (eJ:=s) (bT:=x.from_) (wd:=x.w) ok.v ok.dh ok.E3 aF H) ?_;intro _ w H;exact kH w H
theorem SI{aw:Nat}{l:Int}(g:cL n f k z K)(al:k≤99)(H:E y (cp aw z::c) w) :
  L Pg 29 [.pointer (some ⟨aw,0,none⟩),.int .i64 l] (D .i64) w fun r I=>r=(r1 z l).2∧E y (cp aw (r1 z l).1::c) I:=by
 obtain⟨p,ap,H⟩:=ln H;have o6:=g.je;have gg:=g.len;have lU:(hi z p).c.length≤1000:=by
  show (p.a2.map iP).length≤1000
  have:=congrArg List.length ap.g;rw[List.length_map] at this ⊢;have:=g.cap;omega
 refine ab2 ?_;unfold QA;refine cj H fun aI w H=>?_;refine an (x:=(some ⟨aw,0,none⟩:Option Addr)) 0 H rfl rfl rfl ?_;refine b2 rfl ?_;refine an (x:=(some ⟨p.cq,0,none⟩:Option Addr)) 1 H rfl rfl rfl ?_;refine aE (Post.NS (H.front 4) lU l) ?_;rintro r w ⟨rfl,H⟩;have jH:=Me (z:=z) ap (l:=l);have gf:r1 z l=match ob z l with
   |none=>(z,92)
   |some x=>if (z.cq.off x.from_||z.cq.off x.bw)=true then (z,93) else zR (nd z l) x:=rfl
 cases F:ob z l with
 |none=>
  rw[F] at jH gf;simp only at jH gf;have j_:=Post.eh.Y5 (hi z p) (i:=l) (by rw[jH]; simp);rw[jH] at j_;rw[j_] at H ⊢;refine cj H fun cs w H=>?_;refine fb (x:=ix) (N:=ix) rn 0 H rfl fun w H=>?_;rw[if_pos (by simp),gf];exact⟨rfl,jF ap ((H.ord [0,2]).drop.drop.ord [1,2,3,0])⟩
 |some x=>
  rw[F] at jH gf;obtain⟨s,aF,jH⟩:=jH;simp only at gf;have wC:((hi z p).off ((hi z p).at_ l).1.xn||(hi z p).off ((hi z p).at_ l).1.xF)=(z.cq.off x.from_||z.cq.off x.bw):=by rw[jH]; rfl
  cases ab:(z.cq.off x.from_||z.cq.off x.bw) with
  |true=>
   rw[ab,if_pos rfl] at gf;have j_:=Post.eh.Y6 (hi z p) (i:=l) (by rw[jH]) (by rw[wC]; exact ab);rw[j_] at H ⊢;refine cj H fun cs w H=>?_;refine fb (x:=ix) (N:=ix) rn 0 H rfl fun w H=>?_;rw[if_pos (by simp),gf];exact⟨rfl,jF ap ((H.ord [0,2]).drop.drop.ord [1,2,3,0])⟩
  |false=>
   rw[ab,if_neg (by simp)] at gf;have j_:=Post.eh.Y7 (hi z p) (i:=l) (by rw[jH]) (by rw[wC]; exact ab);rw[jH] at j_;rw[j_] at H ⊢;obtain⟨pD,xQ⟩:=Th ap l;rw[← xQ] at H;have ajS:=LS F;have sA:cn (Post.gW p.cq (hi (nd z l) { p with a2:=p.a2.eraseIdx l.toNat })::aN aI (aM.cells (some ⟨aw,0,none⟩)) 24::aN aw (lI.cells (qk z p)) 49::row aM 57 1 p.c (p.Q.map na)::de (p.Q.map hV)::jy (mV p.a2)::c) (dL fH s x.w.c):=
    ((zb (R:=mV p.a2) (c:=c)).k0 [_,_,_,_,_]).imp fun aG b6=>b6 (s,x.w.c) (List.mem_map.2 ⟨(s,x),List.mem_of_getElem? aF,rfl⟩)
   have H:=E.ro sA H
   have H:=DZ (xo:=mV (p.a2.eraseIdx l.toNat)) (fun t ak=>by
    obtain⟨u,hu,rfl⟩:=List.mem_map.1 ak
    exact List.mem_map.2 ⟨u,List.mem_of_mem_eraseIdx hu,rfl⟩) (H.front 6)
   refine cj H fun cs w H=>?_;refine fb (x:=ix) (N:=iP (s,x)) rn 0 H rfl fun w H=>?_;rw[if_neg (by simp),gf];refine an (x:=(some ⟨aw,0,none⟩:Option Addr)) 4 H rfl rfl rfl ?_;refine an (x:=x.bw) 0 H rfl rfl rfl ?_;have dC:=g.nd l;have TC:(nd z l).R.length=z.R.length:=rfl;have H:E y (jP aw (nd z l) { p with a2:=p.a2.eraseIdx l.toNat } (ro fH s x.w.c::aN cs (v2.cells (iP (s,x))) 140::aN aI (aM.cells (some ⟨aw,0,none⟩)) 24::c)) w:=H.ord [5,6,7,3,1,2,0,4];refine aE (oV pD (by omega) H) ?_;rintro r w ⟨Z,H⟩;refine cj H fun kF w H=>?_;refine eg (x:=r.1) 0 H rfl rfl (Nat.le_of_ble_eq_true rfl) fun w H=>?_;unfold zR;cases dx:fX (nd z l) x.bw with
   |error e=>
    rw[dx] at Z;obtain⟨rfl,he⟩:=Z;rw[if_pos (by simpa using he)];exact⟨rfl,jF pD ((H.ord [0,6,7,8]).drop.drop.drop.drop)⟩
   |ok m=>
    rw[dx] at Z;obtain⟨aB,am,a5,rfl⟩:=Z;rw[if_neg (by simp)];refine an (x:=(some ⟨aB,0,none⟩:Option Addr)) 0 H rfl rfl rfl ?_;have aq:=zK dx;have aO:=xV (aw:=aw) (c:=ro fH s x.w.c::aN cs (v2.cells (iP (s,x))) 140::aN aI (aM.cells (some ⟨aw,0,none⟩)) 24::c) pD (H.drop);have H:=m9 (c:=ro fH s x.w.c::aN kF (aM.cells (some ⟨aB,0,none⟩)) 57::aN cs (v2.cells (iP (s,x))) 140::aN aI (aM.cells (some ⟨aw,0,none⟩)) 24::c) a5 (H.ord [1,2,3,4,5,6,0]);have wE:tV n K x.from_ x.w:=g.cq x ajS.1;refine NS dC al dx pD (q:=x.bw.toNat) (by omega) a5 wE aO H fun w H=>⟨rfl,?_⟩
    have H:=mW pD a5 H;exact (H.ord [1,2,3,4]).drop.drop.drop.drop
end
end dO
namespace ba
open Go.RowKit Go.Maps Go.Sort Go.Shelf Go.WideElems
section
variable {y w:World} {c:List bt} {S:Type} {T:a_ S}
theorem YT{r ep:Nat}{es:List (Int×S)}(Z:∀ p∈es,-9223372036854775808≤p.1∧p.1≤9223372036854775807)(hm:es.length≤1000000)(H:E y (aN ep [.map (some r)] 61::bR T .i64 r es::c) w) :
  L Pg 56 [.func (.func 105) #[] #[.pointer (some ⟨ep,0,none⟩)]] O w fun s I=>∃ bu:List Int,bu.Perm (es.map (·.1)) ∧
   E y (row (D .i64) 3 1 s (bu.mergeSort fun x N=>decide (x≤N))::aN ep [.map (some r)] 61::bR T .i64 r es::c) I:=by
 obtain⟨arr,c,B,aA,J,eL⟩:=rp (H.front 1);have bV:=eL.get;obtain⟨lf,su,sv,nC⟩:=AD (k:=3) Tryz.underlying3 Z (by omega) B aA J bV;have nB:=H.get;have cA:ep<w.heap.size:=(Array.getElem?_eq_some_iff.1 nB).1;have sx:=AnyZI.keys_gives (ρ:=Tryz.Vc) { Tryz.atr with } Fence.wide (5-1-1-1) trivial rfl (by omega) ep r arr.size lf w cA (by rw[px nB]; rfl) su;have mg:=AnyZI.sorted_in Tryz.AP Fence.wide 5 trivial trivial trivial trivial rfl (by omega) (AQ _) (enters_of Tryz.func104 (by kernel_rfl) rfl) 105 #[.pointer (some ⟨ep,0,none⟩)] trivial (enters_of Tryz.func105 (by kernel_rfl) rfl) _ (Maps.size lf) (by rw[nC]; exact Nat.le_trans hm (Nat.le_of_ble_eq_true rfl)) (by rw[nC]; omega) w sx;change CallsIn _ _ Pg 56 _ _ _ at mg;refine (callsIn_wide (n:=5)).1 (mg.mono ?_);rintro e I ⟨v,gv,rfl,iR,kI,Cx,sp⟩
 have kI:I.ownsRow w.heap.size 3 1 v gv.length ((gv.mergeSort fun x N=>decide (x≤N)).flatMap (D .i64).cells):=by
  have e:(gv.mergeSort fun x N=>decide (x≤N)).flatMap (D .i64).cells=(gv.mergeSort fun x N=>decide (x≤N)).map encZ:=by
   generalize gv.mergeSort (fun x N=>decide (x≤N))=q;induction q with
   |nil=>rfl
   |cons x q b8=>rw[List.flatMap_cons,b8]; rfl
  rw[e]; exact kI
 obtain⟨s,aF,lh⟩:=H.ownsRow (T:=D .i64) (fun _=>rfl) (by rw[List.length_mergeSort]) sp kI;exact⟨s,aF,gv,iR.trans sv,lh⟩
end
section
variable {y w:World} {c:List bt} {S:Type} {T:a_ S}
theorem ayH{r ep:Nat}{es:List (Int×S)}(Z:∀ p∈es,-9223372036854775808≤p.1∧p.1≤9223372036854775807)(hm:es.length≤1000000)(H:E y (aN ep [.map (some r)] 64::bR T .i64 r es::c) w) :
  L Pg 56 [.func (.func 121) #[] #[.pointer (some ⟨ep,0,none⟩)]] O w fun s I=>∃ bu:List Int,bu.Perm (es.map (·.1)) ∧
   E y (row (D .i64) 3 1 s (bu.mergeSort fun x N=>decide (x≤N))::aN ep [.map (some r)] 64::bR T .i64 r es::c) I:=by
 obtain⟨arr,c,B,aA,J,eL⟩:=rp (H.front 1);have bV:=eL.get;obtain⟨lf,su,sv,nC⟩:=AD (k:=3) Tryz.underlying3 Z (by omega) B aA J bV;have nB:=H.get;have cA:ep<w.heap.size:=(Array.getElem?_eq_some_iff.1 nB).1;have sx:=AnyZI.keys_gives (ρ:=Tryz.Vb) { Tryz.atq with } Fence.wide (5-1-1-1) trivial rfl (by omega) ep r arr.size lf w cA (by rw[px nB]; rfl) su;have mg:=AnyZI.sorted_in Tryz.AP Fence.wide 5 trivial trivial trivial trivial rfl (by omega) (AQ _) (enters_of Tryz.func104 (by kernel_rfl) rfl) 121 #[.pointer (some ⟨ep,0,none⟩)] trivial (enters_of Tryz.func121 (by kernel_rfl) rfl) _ (Maps.size lf) (by rw[nC]; exact Nat.le_trans hm (Nat.le_of_ble_eq_true rfl)) (by rw[nC]; omega) w sx;change CallsIn _ _ Pg 56 _ _ _ at mg;refine (callsIn_wide (n:=5)).1 (mg.mono ?_);rintro e I ⟨v,gv,rfl,iR,kI,Cx,sp⟩
 have kI:I.ownsRow w.heap.size 3 1 v gv.length ((gv.mergeSort fun x N=>decide (x≤N)).flatMap (D .i64).cells):=by
  have e:(gv.mergeSort fun x N=>decide (x≤N)).flatMap (D .i64).cells=(gv.mergeSort fun x N=>decide (x≤N)).map encZ:=by
   generalize gv.mergeSort (fun x N=>decide (x≤N))=q;induction q with
   |nil=>rfl
   |cons x q b8=>rw[List.flatMap_cons,b8]; rfl
  rw[e]; exact kI
 obtain⟨s,aF,lh⟩:=H.ownsRow (T:=D .i64) (fun _=>rfl) (by rw[List.length_mergeSort]) sp kI;exact⟨s,aF,gv,iR.trans sv,lh⟩
end
end ba
namespace dO
open ba Wire Disk Ballot
open Vault (cf Fit dF)
section
variable {y w:World} {c bx:List bt} {n f k:Nat} {z:cu} {K:bN} [fP]
theorem ayt{aw:Nat}{i:Int}(g:cL n f k z K)(al:k≤99)(H:E y (cp aw z::c) w) :
  L Pg 37 [.pointer (some ⟨aw,0,none⟩),.int .i64 i] (D .i64) w fun r I=>r=(w0 z i).2∧E y (cp aw (w0 z i).1::c) I:=by
 obtain⟨p,ap,H⟩:=ln H;have o6:=g.je;have gg:=g.len;refine aca ?_;unfold QJ;refine aE (oV ap (by omega) H) ?_;rintro r w ⟨Z,H⟩;cases dx:fX z i with
 |error e=>
  rw[dx] at Z;obtain⟨rfl,he⟩:=Z;rw[if_pos (by simpa using he)];have aT:w0 z i=(z,e):=by unfold w0 pJ; rw[dx]
  rw[aT];exact⟨rfl,jF ap H⟩
 |ok m=>
  rw[dx] at Z;obtain⟨aB,am,a5,rfl⟩:=Z;have ok:=g.wJ al dx;have aq:=zK dx;have aT:w0 z i=(hK z i.toNat (AN z.R.length i m),0):=by unfold w0 pJ; rw[dx]
  rw[aT,if_neg (by simp)];have aO:=xV ap H;obtain⟨l,rfl⟩:∃ l:Nat,i=l:=⟨i.toNat,by omega⟩
  simp only[Int.toNat_natCast] at a5 ⊢;refine b2 rfl ?_;obtain⟨q,hm,H⟩:=hG (m9 a5 H);refine an (x:=some q.j6) 0 H rfl rfl rfl ?_;refine Q4 ?_;unfold IF;refine cj H fun ep w H=>?_;refine aE (YT (es:=m.bO) (fun e he=>by have:=ok.E3 e he; omega) (by have:=ok.bO; omega) (H.ord [0,3])) ?_;rintro dq w ⟨bu,aH,H⟩;have mn:(bu.mergeSort fun x N=>decide (x≤N))=e0 (m.bO.map (·.1)):=w3 aH;rw[mn] at H;clear mn aH bu;have rf:=ho H;have KE:(e0 (m.bO.map (·.1))).length=m.bO.length:=by rw[(hY _).length_eq,List.length_map]
  have Cn:=ok.bO;have rc:=ok.out;unfold AN;generalize e0 (m.bO.map (·.1))=bu at *;have H:=(H.ord [1]).drop;have H:E y (nH aB m q (eD aw z p l (row (D .i64) 3 1 dq bu::c))) w:=H.ord [2,3,1,4,5,6,7,8,9,10,11,12,13,14,0];have H:=fl hm H;refine hU (fun s w=>∃ d:Nat,s=(d:Int)∧d≤bu.length∧E y (eM aB ((bu.take d).foldl (nN z.R.length l) m)::eD aw z p l (row (D .i64) 3 1 dq bu::c)) w) (fun s=>((bu.length:Int)-s).toNat) ⟨0,rfl,by omega,H⟩ ?_;clear H;rintro s w ⟨d,rfl,aC,H⟩ aa b7;unfold Iv;simp only[rf];split
  ·rename_i o;have o:d<bu.length:=by simpa using o
   have F:bu[d]?=some bu[d]:=List.getElem?_eq_getElem o;have ak:bu.take (d+1)=bu.take d++[bu[d]]:=List.take_succ_eq_append_getElem o;generalize bu[d]=x at F ak;obtain⟨a,ag⟩:=ih (i:=(d:Int)) (H.front 6) (by omega) (by omega);refine aQ a ag ?_;refine aQ x (lz (fun _=>rfl) ag (by rw[Int.toNat_natCast]; exact F) (H.front 6)) ?_;have hR:=(NU (n:=z.R.length) (l:Int) (bu.take d) m).1;have hmul:z.R.length*(bu.take d).length≤5*99:=Nat.mul_le_mul (by omega) (by rw[List.length_take]; omega);refine aE (Y9 ap a5 (by omega) aO (by omega) H) ?_;intro _ w H;have cS:IntKind.i64.wrap ((d:Int)+1)=((d+1:Nat):Int):=by rw[wrap_i64 (by omega) (by omega)]; omega
   rw[cS];refine b7 _ _ ⟨d+1,rfl,by omega,?_⟩ (by omega);rw[ak,List.foldl_append];exact H
  ·rename_i o;have o:¬ d<bu.length:=by simpa using o
   rw[List.take_of_length_le (by omega)] at H;exact⟨by trivial,mW ap a5 ((H.front 6).drop)⟩
theorem ad3{aw l aB aR:Nat}{p:ia}{m:bn}(gg:z.R.length≤5)(aO:p.c.len=z.R.length)(ok:zx m)(H:E y (eM aB m::eD aw z p l (aN aR (aM.cells (some ⟨aB,0,none⟩)) 57::c)) w) :
  L Pg 52 [.pointer (some ⟨aw,0,none⟩),(dz.mk (.func 83) (List.toArray []) (List.toArray [.pointer (some ⟨aR,0,none⟩)])).enc] cJ w fun _ I=>E y (eM aB (e8 m (((gd z.R.length).filter fun bw=>(m.bG.lookup bw).isNone).map fun bw=>(bw,p1 m.b)))::eD aw z p l (aN aR (aM.cells (some ⟨aB,0,none⟩)) 57::c)) I:=by
 refine aE (BL (n:=z.R.length) (by omega) aO (GP H)
  (fun k w=>E y (eM aB (e8 m ((((gd z.R.length).take k).filter fun bw=>(m.bG.lookup bw).isNone).map fun bw=>(bw,p1 m.b)))::eD aw z p l (aN aR (aM.cells (some ⟨aB,0,none⟩)) 57::c)) w) (by rw[List.take_zero,List.filter_nil,List.map_nil,DE]; exact H) ?_) ?_
 ·intro k w al H;refine⟨83,[],[.pointer (some ⟨aR,0,none⟩)],rfl,agt,?_⟩;refine acW ?_;unfold Rv;refine an (x:=(some ⟨aB,0,none⟩:Option Addr)) 6 H rfl rfl rfl ?_;refine b2 rfl ?_;obtain⟨q,hm,H⟩:=hG H;refine an (x:=some q.ju) 0 H rfl rfl rfl ?_;refine iV 4 H rfl rfl ?_;have K0:((q.ar.map hy).lookup (k:Int)).isSome=(m.bG.lookup (k:Int)).isSome:=by
   have wA:q.ar.map sK=m.bG:=hm.n;rw[← wA];cases e:(q.ar.map sK).lookup (k:Int) with
   |none=>exact congrArg Option.isSome (F0 (a:=sK) (b:=hy) (fun _=>rfl) e)
   |some xs=>
    obtain⟨_,t,_,_,_,h,_⟩:=C3 (a:=sK) (b:=hy) (fun _=>rfl) e;rw[h]; rfl
  simp only[K0];rw[Eg al,List.filter_append,List.map_append];cases o:m.bG.lookup (k:Int) with
  |some xs=>
   have e:[(k:Int)].filter (fun bw=>(m.bG.lookup bw).isNone)=[]:=by simp[o]
   rw[if_neg (by simp),e,List.map_nil,List.append_nil];exact fl hm H
  |none=>
   have e:[(k:Int)].filter (fun bw=>(m.bG.lookup bw).isNone)=[(k:Int)]:=by simp[o]
   rw[if_pos (by simp),e];refine dH H fun w H=>?_;refine an (x:=(some ⟨aB,0,none⟩:Option Addr)) 14 H rfl rfl rfl ?_;refine an (x:=(some ⟨aB,0,none⟩:Option Addr)) 14 H rfl rfl rfl ?_;refine b2 rfl ?_;refine an (x:=m.b) 0 H rfl rfl rfl ?_;have H:=fl hm H;have rc:=ok.out;have m1:(e8 m ((((gd z.R.length).take k).filter fun bw=>(m.bG.lookup bw).isNone).map fun bw=>(bw,p1 m.b))).out.length≤1000000000000:=by
    have B:=List.length_filter_le (fun bw:Int=>(m.bG.lookup bw).isNone) ((gd z.R.length).take k);simp only[e8,List.length_append,List.length_map];rw[List.length_take,oH] at B;omega
   refine aE (yw (s:=er) (wd:=p1 m.b) m1 (fun _ _ _=>AK) H) ?_;intro _ w H;refine⟨cW aM (H.front 6) rfl rfl,?_⟩;obtain⟨l2,qq,H⟩:=hG H;refine⟨cW (D .i64) H rfl rfl,?_⟩;have H:=fl qq H;rw[DF] at H;exact H
 ·intro _ w H;have e:(gd z.R.length).take z.R.length=gd z.R.length:=by rw[List.take_of_length_le (by rw[oH]; omega)]
  rw[e] at H;exact H
theorem aeb{aw l aB aR dl:Nat}{p:ia}{m:bn}{s:Int}{eN:fG×List Int}(gg:z.R.length≤5)(aO:p.c.len=z.R.length)(ab:m.out.length≤900000000000)(aH:m.bz.lookup s=some eN)(H:E y (eM aB m::eD aw z p l (aN dl ((D .i64).cells s) 3::aN aR (aM.cells (some ⟨aB,0,none⟩)) 57::c)) w) :
  L Pg 52 [.pointer (some ⟨aw,0,none⟩),(dz.mk (.func 85) (List.toArray []) (List.toArray [.pointer (some ⟨aR,0,none⟩),.pointer (some ⟨dl,0,none⟩)])).enc] cJ w fun _ I=>E y (eM aB (e8 m (((gd z.R.length).filter fun bw=>!eN.2.contains bw).map fun bw=>(bw,la s m.b eN.1)))::eD aw z p l (aN dl ((D .i64).cells s) 3::aN aR (aM.cells (some ⟨aB,0,none⟩)) 57::c)) I:=by
 refine aE (BL (n:=z.R.length) (by omega) aO (GP H)
  (fun k w=>E y (eM aB (e8 m ((((gd z.R.length).take k).filter fun bw=>!eN.2.contains bw).map fun bw=>(bw,la s m.b eN.1)))::eD aw z p l (aN dl ((D .i64).cells s) 3::aN aR (aM.cells (some ⟨aB,0,none⟩)) 57::c)) w) (by rw[List.take_zero,List.filter_nil,List.map_nil,DE]; exact H) ?_) ?_
 ·intro k w al H;refine⟨85,[],[.pointer (some ⟨aR,0,none⟩),.pointer (some ⟨dl,0,none⟩)],rfl,agu,?_⟩;refine acY ?_;unfold Rx;refine dH H fun w H=>?_;refine an (x:=(some ⟨aB,0,none⟩:Option Addr)) 7 H rfl rfl rfl ?_;refine b2 rfl ?_;have FB:(e8 m ((((gd z.R.length).take k).filter fun bw=>!eN.2.contains bw).map fun bw=>(bw,la s m.b eN.1))).bz.lookup s=some eN:=aH;have m1:(e8 m ((((gd z.R.length).take k).filter fun bw=>!eN.2.contains bw).map fun bw=>(bw,la s m.b eN.1))).out.length≤1000000000000:=by
   have B:=List.length_filter_le (fun bw:Int=>!eN.2.contains bw) ((gd z.R.length).take k);simp only[e8,List.length_append,List.length_map];rw[List.length_take,oH] at B;omega
  have KX:∀ R,pj (e8 m R) (k:Int) (la s m.b eN.1)=e8 m (R++[((k:Int),la s m.b eN.1)]):=fun R=>DF m R _ _;have aA:(e8 m ((((gd z.R.length).take k).filter fun bw=>!eN.2.contains bw).map fun bw=>(bw,la s m.b eN.1))).b=m.b:=rfl;have KX:=KX ((((gd z.R.length).take k).filter fun bw=>!eN.2.contains bw).map fun bw=>(bw,la s m.b eN.1));rw[Eg al,List.filter_append,List.map_append];generalize pE:e8 m ((((gd z.R.length).take k).filter fun bw=>!eN.2.contains bw).map fun bw=>(bw,la s m.b eN.1))=eR at *;obtain⟨q,hm,H⟩:=hG H;refine an (x:=some q.hk) 0 H rfl rfl rfl ?_;refine an (x:=s) 14 H rfl rfl rfl ?_;refine iV 5 H rfl rfl ?_;obtain⟨fs,t,gX,gA,ak,jc,z_⟩:=MU (aB:=aB) hm FB;rw[jc];refine b2 rfl ?_;have ws:t.2.2.2.2.map (·.1)=eN.2:=congrArg (fun aL=>aL.2.2) ak;have eL:=H.front 6;rw[gA] at eL;have eL:=(xM eL).open_
  have eL:E y (aN t.2.1 (xD.cells ⟨t.2.2.2.1,some t.2.2.1⟩) 164::bR xE .i64 t.2.2.1 t.2.2.2.2::_) w:=eL;refine an (x:=some t.2.2.1) 0 eL rfl rfl rfl ?_;refine iV 1 eL rfl rfl ?_;clear eL;refine cj H fun pu w H=>?_;refine eg (x:=((t.2.2.2.2.lookup (k:Int)).getD oT)) 0 H rfl rfl (Nat.le_of_ble_eq_true rfl) fun w H=>?_;have H:=H.drop;have h1:(t.2.2.2.2.lookup (k:Int)).isSome=eN.2.contains (k:Int):=by rw[VK,ws]
  simp only[h1];cases o:eN.2.contains (k:Int) with
  |true=>
   have e:[(k:Int)].filter (fun bw=>!eN.2.contains bw)=[]:=by rw[List.filter_cons_of_neg (by rw[o]; simp)]; rfl
   rw[if_neg (by simp),e,List.map_nil,List.append_nil];rw[pE];exact fl hm H
  |false=>
   have e:[(k:Int)].filter (fun bw=>!eN.2.contains bw)=[(k:Int)]:=by rw[List.filter_cons_of_pos (by rw[o]; simp)]; rfl
   rw[if_pos (by simp),e];refine dH H fun w H=>?_;refine an (x:=(some ⟨aB,0,none⟩:Option Addr)) 15 H rfl rfl rfl ?_;refine an (x:=(some ⟨aB,0,none⟩:Option Addr)) 15 H rfl rfl rfl ?_;refine an (x:=s) 14 H rfl rfl rfl ?_;have H:=fl hm H;refine aE (RZ FB H) ?_;rintro r w ⟨rfl,H⟩;rw[aA];refine⟨cW aM (H.front 7) rfl rfl,?_⟩;refine aE (yw (s:=er) (wd:=la s m.b eN.1) m1 (fun _ _ _=>AK) H) ?_;intro _ w H;refine⟨cW aM (H.front 7) rfl rfl,cW (D .i64) (H.front 6) rfl rfl,?_⟩;rw[KX] at H;exact H
 ·intro _ w H;have e:(gd z.R.length).take z.R.length=gd z.R.length:=by rw[List.take_of_length_le (by rw[oH]; omega)]
  rw[e] at H;exact H
end
section
variable {y w:World} {c bx:List bt} {n f k:Nat} {z:cu} {K:bN} [fP]
theorem V1{aw l aB aR:Nat}{j:Int→World→Prop}{p:ia}{m:bn}(ap:j2 z p)(a5:∃ yu,p.Q[l]?=some (aB,yu))(gg:z.R.length≤5)(aO:p.c.len=z.R.length)(CA:m.bz.length≤99099)(T6:∀ t∈m.bz,1≤t.1∧t.1≤1000)(ab:m.out.length≤60000100)
  (H:E y (eM aB m::eD aw z p l (aN aR (aM.cells (some ⟨aB,0,none⟩)) 57::c)) w)
  (kH:∀ I,E y (eM aB ((e0 (m.bz.map (·.1))).foldl (h4 z.R.length) m)::eD aw z p l c) I→j 0 I) :
  Bj (some ⟨aw,0,none⟩) ⟨aR,0,none⟩ w j:=by
 unfold Bj;refine an (x:=(some ⟨aB,0,none⟩:Option Addr)) 6 H rfl rfl rfl ?_;refine b2 rfl ?_;obtain⟨q,hm,H⟩:=hG H;refine an (x:=some q.hk) 0 H rfl rfl rfl ?_;refine acX ?_;unfold Rw;refine cj H fun ep w H=>?_;have n8:(q.P.map jg).map (·.1)=m.bz.map (·.1):=by
  rw[← hm.p,List.map_map,List.map_map];rfl
 have aAS:(q.P.map jg).length=m.bz.length:=by rw[← hm.p,List.length_map,List.length_map]
 refine aE (ayH (es:=q.P.map jg) (fun e he=>by
  have:e.1∈m.bz.map (·.1):=by rw[← n8]; exact List.mem_map.2 ⟨e,he,rfl⟩
  obtain⟨t,ak,B⟩:=List.mem_map.1 this;have:=T6 t ak
  omega) (by omega) (H.ord [0,6])) ?_
 rintro ga w ⟨bu,aH,H⟩;have mn:(bu.mergeSort fun x N=>decide (x≤N))=e0 (m.bz.map (·.1)):=by rw[← n8]; exact w3 aH
 rw[mn] at H;clear mn aH bu;have rf:=ho H;have KE:(e0 (m.bz.map (·.1))).length=m.bz.length:=by rw[(hY _).length_eq,List.length_map]
 have js:∀ s∈e0 (m.bz.map (·.1)),∃ eN,m.bz.lookup s=some eN:=by
  intro s aF;obtain⟨t,ak,rfl⟩:=List.mem_map.1 ((hY _).mem_iff.1 aF);cases e:m.bz.lookup t.1 with
  |some eN=>exact⟨eN,rfl⟩
  |none=>
   exfalso;have key:∀ {R:List (Int×fG×List Int)},t∈R→R.lookup t.1≠none:=by
    intro R;induction R with
    |nil=>intro h; simp at h
    |cons u R b8=>
     intro h;rw[show u=(u.1,u.2) from rfl,List.lookup_cons];split
     ·simp
     ·rcases List.mem_cons.1 h with rfl | h
      ·rename_i o; simp at o
      ·exact b8 h
   exact key ak e
 generalize e0 (m.bz.map (·.1))=bu at *;have H:=(H.ord [1]).drop;have H:E y (nH aB m q (eD aw z p l (row (D .i64) 3 1 ga bu::aN aR (aM.cells (some ⟨aB,0,none⟩)) 57::c))) w:=H.ord [2,3,4,5,6,1,7,8,9,10,11,12,13,14,0];have H:=fl hm H;have wD:=fun d=>Ml (n:=z.R.length) (bu.take d) m;have J5:∀ d,((bu.take d).foldl (h4 z.R.length) m).b=m.b:=by
  intro d;have key:∀ (R:List Int) (m:bn),(R.foldl (h4 z.R.length) m).b=m.b:=by
   intro R;induction R with
   |nil=>intro m; rfl
   |cons s R b8=>
    intro m;rw[List.foldl_cons,b8];unfold h4;split
    ·rfl
    ·split<;>rfl
  exact key _ _
 refine hU (fun s w=>∃ d:Nat,s=(d:Int)∧d≤bu.length∧E y (eM aB ((bu.take d).foldl (h4 z.R.length) m)::eD aw z p l (row (D .i64) 3 1 ga bu::aN aR (aM.cells (some ⟨aB,0,none⟩)) 57::c)) w) (fun s=>((bu.length:Int)-s).toNat) ⟨0,rfl,by omega,H⟩ ?_;clear H;rintro s w ⟨d,rfl,aC,H⟩ aa b7;unfold Iu;simp only[rf];split
 ·rename_i o;have o:d<bu.length:=by simpa using o
  have F:bu[d]?=some bu[d]:=List.getElem?_eq_getElem o;have ak:bu.take (d+1)=bu.take d++[bu[d]]:=List.take_succ_eq_append_getElem o;have Uk:bu[d]∈bu:=List.getElem_mem o;generalize bu[d]=x at F ak Uk;obtain⟨eN,aj0⟩:=js x Uk;obtain⟨B,J,au,a8⟩:=wD d;have hmul:z.R.length*(bu.take d).length≤5*99099:=Nat.mul_le_mul gg (by rw[List.length_take]; omega);have cS:IntKind.i64.wrap ((d:Int)+1)=((d+1:Nat):Int):=by rw[wrap_i64 (by omega) (by omega)]; omega
  have next:∀ (eR:bn) (dl:Nat) (w:World),eR=h4 z.R.length ((bu.take d).foldl (h4 z.R.length) m) x→E y (eM aB eR::eD aw z p l (aN dl ((D .i64).cells x) 3::aN aR (aM.cells (some ⟨aB,0,none⟩)) 57::row (D .i64) 3 1 ga bu::c)) w→Bk (d:Int) w aa j:=by
   rintro eR dl w rfl H;unfold Bk;rw[cS];refine b7 _ _ ⟨d+1,rfl,by omega,?_⟩ (by omega);rw[ak,List.foldl_append];exact (H.front 6).drop.ord [0,1,2,3,4,5,7,6]
  have Cn:((bu.take d).foldl (h4 z.R.length) m).bO=m.bO:=a8;have x9:((bu.take d).foldl (h4 z.R.length) m).bz.lookup x=some eN:=by rw[J]; exact aj0
  have TH:=J5 d;have m1:((bu.take d).foldl (h4 z.R.length) m).out.length≤900000000000:=by omega
  have wA:h4 z.R.length ((bu.take d).foldl (h4 z.R.length) m) x=if (((bu.take d).foldl (h4 z.R.length) m).bO.lookup x).isSome=true then (bu.take d).foldl (h4 z.R.length) m else e8 ((bu.take d).foldl (h4 z.R.length) m) (((gd z.R.length).filter fun bw=>!eN.2.contains bw).map fun bw=>(bw,la x ((bu.take d).foldl (h4 z.R.length) m).b eN.1)):=by
   show (if _ then _ else match ((bu.take d).foldl (h4 z.R.length) m).bz.lookup x with | none=>_ | some p=>_)=_
   rw[x9]
  generalize (bu.take d).foldl (h4 z.R.length) m=md at *;obtain⟨a,ag⟩:=ih (i:=(d:Int)) (H.front 6) (by omega) (by omega);refine aQ a ag ?_;refine aQ x (lz (fun _=>rfl) ag (by rw[Int.toNat_natCast]; exact F) (H.front 6)) ?_;refine cj H fun dl w H=>?_;refine eg (x:=x) 0 H rfl rfl (Nat.le_of_ble_eq_true rfl) fun w H=>?_;refine dH H fun w H=>?_;refine an (x:=(some ⟨aB,0,none⟩:Option Addr)) 8 H rfl rfl rfl ?_;refine b2 rfl ?_;obtain⟨q,hm,H⟩:=hG (H.front 1);refine an (x:=some q.j6) 0 H rfl rfl rfl ?_;refine an (x:=x) 9 H rfl rfl rfl ?_;refine iV 2 H rfl rfl ?_;have H:=fl hm H;have H:E y (eM aB md::eD aw z p l (aN dl ((D .i64).cells x) 3::aN aR (aM.cells (some ⟨aB,0,none⟩)) 57::row (D .i64) 3 1 ga bu::c)) w:=H.ord [0,2,3,4,5,6,1,8,7];by_cases bP:(md.bO.lookup x).isSome=true
  ·rw[if_pos bP];rw[if_pos bP] at wA;exact next md dl w wA.symm H
  ·rw[if_neg bP];rw[if_neg bP] at wA;refine aE (aeb gg aO m1 x9 H) ?_;intro _ w H;exact next _ dl w wA.symm H
 ·rename_i o;have o:¬ d<bu.length:=by simpa using o
  rw[List.take_of_length_le (by omega)] at H;exact kH w ((H.ord [6,7]).drop.drop)
theorem auX{aw:Nat}{i:Int}(g:cL n f k z K)(al:k≤99)(H:E y (cp aw z::c) w) :
  L Pg 36 [.pointer (some ⟨aw,0,none⟩),.int .i64 i] (D .i64) w fun r I=>r=(wK z i).2∧E y (cp aw (wK z i).1::c) I:=by
 obtain⟨p,ap,H⟩:=ln H;have o6:=g.je;have gg:=g.len;refine ab9 ?_;unfold QI;refine aE (oV ap (by omega) H) ?_;rintro r w ⟨Z,H⟩;refine cj H fun aR w H=>?_;refine eg (x:=r.1) 0 H rfl rfl (Nat.le_of_ble_eq_true rfl) fun w H=>?_;cases dx:fX z i with
 |error e=>
  rw[dx] at Z;obtain⟨rfl,he⟩:=Z;rw[if_pos (by simpa using he)];have aT:wK z i=(z,e):=by unfold wK pJ; rw[dx]
  rw[aT];exact⟨rfl,jF ap H.drop⟩
 |ok m=>
  rw[dx] at Z;obtain⟨aB,am,a5,rfl⟩:=Z;have ok:=g.wJ al dx;have aq:=zK dx;have aT:wK z i=(hK z i.toNat (Aw z.R.length m),0):=by unfold wK pJ; rw[dx]
  rw[aT,if_neg (by simp)];have aO:=xV ap (H.ord [1,2,3,4,5]);have H:=m9 (c:=aN aR (aM.cells (some ⟨aB,0,none⟩)) 57::c) a5 (H.ord [1,2,3,4,5]);refine an (x:=(some ⟨aB,0,none⟩:Option Addr)) 6 H rfl rfl rfl ?_;refine b2 rfl ?_;obtain⟨q,hm,H⟩:=hG H;refine an (x:=m.b) 0 H rfl rfl rfl ?_;refine aQ (some ⟨aB,0,none⟩:Option Addr) (fun _=>cW aM (H.front 14) rfl rfl) ?_;refine aQ ⟨aB,0,none⟩ (fun _=>rfl) ?_;refine aQ m.fz (fun _=>cW bi H rfl rfl) ?_;have H:=fl hm H;unfold Aw ty;by_cases o:0<m.b∧m.fz=false
  ·rw[if_pos o,if_pos (by simp[o.1,o.2])];refine aE (ad3 (by omega) aO ok H) ?_;intro _ w H;have B:=List.length_filter_le (fun bw:Int=>(m.bG.lookup bw).isNone) (gd z.R.length);rw[oH] at B;have rc:=ok.out;exact V1 (m:=e8 m (((gd z.R.length).filter fun bw=>(m.bG.lookup bw).isNone).map fun bw=>(bw,p1 m.b))) ap ⟨m,a5⟩ (by omega) aO ok.bz ok.MS (by simp only[e8,List.length_append,List.length_map]; omega) H fun w H=>⟨rfl,mW ap a5 H⟩
  ·rw[if_neg o,if_neg (by
    intro e;simp only[Bool.and_eq_true,decide_eq_true_eq,Bool.not_eq_true'] at e
    exact o e)]
   have rc:=ok.out;exact V1 (m:=m) ap ⟨m,a5⟩ (by omega) aO ok.bz ok.MS (by omega) H fun w H=>⟨rfl,mW ap a5 H⟩
theorem Tt(g:cL n f k z K){p:ia}(ap:j2 z p):(hi z p).c.length≤1000:=by
 show (p.a2.map iP).length≤1000
 have:=congrArg List.length ap.g;rw[List.length_map] at this ⊢;have:=g.cap;omega
theorem Jo{aw:Nat}{l:Int}(g:cL n f k z K)(H:E y (cp aw z::c) w) :
  L Pg 30 [.pointer (some ⟨aw,0,none⟩),.int .i64 l] (D .i64) w fun r I=>r=(zO z l).2∧E y (cp aw (zO z l).1::c) I:=by
 obtain⟨p,ap,H⟩:=ln H;refine ab3 ?_;unfold QC;refine b2 rfl ?_;refine an (x:=(some ⟨p.cq,0,none⟩:Option Addr)) 0 H rfl rfl rfl ?_;refine aE (Post.Jo (H.front 3) (Tt g ap) l) ?_;rintro r w ⟨rfl,H⟩;have jH:=Me (z:=z) ap (l:=l);have aj:p.a2.length=z.cq.c.length:=by rw[← ap.g,List.length_map]
 unfold zO;cases F:ob z l with
 |none=>
  rw[F] at jH;simp only at jH;rw[jH] at H ⊢;exact⟨rfl,jF ap (H.ord [1,2,3,0])⟩
 |some x=>
  rw[F] at jH;obtain⟨s,aF,jH⟩:=jH;rw[jH] at H ⊢;simp only;rw[if_neg (by simp)] at H;by_cases o:1000≤z.cq.c.length
  ·have e:(hi z p).put (iP (s,x))=(hi z p,91):=by
    unfold Post.eh.put;rw[if_pos (by show (p.a2.map iP).length≥1000; rw[List.length_map]; omega)]
   rw[e] at H ⊢;rw[if_pos o];exact⟨rfl,jF ap (H.ord [1,2,3,0])⟩
  ·have e:(hi z p).put (iP (s,x))=({ hi z p with c:=(hi z p).c++[iP (s,x)] },0):=by
    unfold Post.eh.put;rw[if_neg (by show ¬ (p.a2.map iP).length≥1000; rw[List.length_map]; omega)]
   rw[e] at H ⊢;rw[if_neg o]
   have pD:j2 { z with cq:={ z.cq with c:=z.cq.c++[x] } } { p with a2:=p.a2++[(s,x)] }:=⟨ap.r,ap.q,by
    show (p.a2++[(s,x)]).map Prod.snd=z.cq.c++[x]
    rw[List.map_append,ap.g]
    rfl⟩
   have xQ:hi { z with cq:={ z.cq with c:=z.cq.c++[x] } } { p with a2:=p.a2++[(s,x)] }={ hi z p with c:=(hi z p).c++[iP (s,x)] }:=by
    unfold hi;simp
   have H:=H.ord [1,2,3,0,4];have hm:∀ t∈mV (p.a2++[(s,x)]),t∈mV p.a2:=fun t ak=>by
    obtain⟨u,hu,rfl⟩:=List.mem_map.1 ak;rcases List.mem_append.1 hu with hu | hu
    ·exact List.mem_map.2 ⟨u,hu,rfl⟩
    ·rw[List.mem_singleton.1 hu];exact List.mem_map.2 ⟨(s,x),List.mem_of_getElem? aF,rfl⟩
   have H:=(DZ hm (H.front 4)).ord [1,2,3,4,0];exact⟨rfl,jF pD (by unfold jP; rw[xQ]; exact H)⟩
theorem LX{aw:Nat}{l:Int}(g:cL n f k z K)(H:E y (cp aw z::c) w) :
  L Pg 31 [.pointer (some ⟨aw,0,none⟩),.int .i64 l] (D .i64) w fun r I=>r=(Ap z l).2∧E y (cp aw (Ap z l).1::c) I:=by
 obtain⟨p,ap,H⟩:=ln H;refine ab4 ?_;unfold QD;refine b2 rfl ?_;refine an (x:=(some ⟨p.cq,0,none⟩:Option Addr)) 0 H rfl rfl rfl ?_;refine aE (Post.LX (H.front 3) (Tt g ap) l) ?_;rintro r w ⟨rfl,H⟩;have jH:=Me (z:=z) ap (l:=l);unfold Ap;cases F:ob z l with
 |none=>
  rw[F] at jH;simp only at jH;rw[jH] at H ⊢;rw[if_neg (by simp)] at H;exact⟨rfl,jF ap (H.ord [1,2,3,0])⟩
 |some x=>
  rw[F] at jH;obtain⟨s,aF,jH⟩:=jH;rw[jH] at H ⊢;rw[if_pos rfl] at H;obtain⟨pD,xQ⟩:=Th ap l;rw[← xQ] at H;have H:=H.ord [1,2,3,0,4]
  have H:=(DZ (xo:=mV (p.a2.eraseIdx l.toNat)) (fun t ak=>by
    obtain⟨u,hu,rfl⟩:=List.mem_map.1 ak
    exact List.mem_map.2 ⟨u,List.mem_of_mem_eraseIdx hu,rfl⟩) (H.front 4)).ord [1,2,3,4,0]
  exact⟨rfl,jF pD H⟩
theorem Hs{aw:Nat}{p:ia}{i:Int}{gJ:dz}{aa:World→Prop}(ap:j2 z p)(W:∀ aB m w,0≤i→p.Q[i.toNat]?=some (aB,m)→z.R[i.toNat]?=some m→E y (jP aw z p c) w→v9 Pg gJ [.pointer (some (⟨aB,0,none⟩:Addr))] cJ w fun _ I=>aa I)(H:E y (jP aw z p c) w) :
  L Pg 73 [.pointer (some ⟨aw,0,none⟩),.int .i64 i,gJ.enc] (D .i64) w fun r I=>((i<0∨(z.R.length:Int)≤i)∧r=251∧E y (jP aw z p c) I)∨((0≤i∧i<z.R.length)∧r=0∧aa I):=by
 refine acM ?_;unfold Rk;have aO:=xV ap H;refine aQ ⟨aw,0,none⟩ (fun _=>rfl) ?_;refine aQ p.c (fun _=>Tu H) ?_;rw[aO];by_cases o:i<0∨(z.R.length:Int)≤i
 ·rw[if_pos (by simp only[Bool.or_eq_true,decide_eq_true_eq]; omega)];exact .inl ⟨o,rfl,H⟩
 ·rw[if_neg (by simp only[Bool.or_eq_true,decide_eq_true_eq]; omega)];have F:z.R[i.toNat]?=some (z.R[i.toNat]'(by omega)):=List.getElem?_eq_getElem (by omega);generalize z.R[i.toNat]'(by omega)=m at F;obtain⟨aB,a5⟩:=Cf ap F;have aj:=Ca ap;refine b2 rfl ?_;refine an (x:=p.c) 0 H rfl rfl rfl ?_;obtain⟨a,ag⟩:=ih (i:=i) (H.front 1) (by omega) (by rw[List.length_map]; omega);refine aQ a ag ?_;refine aQ (some ⟨aB,0,none⟩) (lz (fun _=>rfl) ag (by rw[List.getElem?_map,a5]; rfl) (H.front 1)) ?_;refine St (W aB m w (by omega) a5 F H) ?_;intro _ w b7;exact .inr ⟨by omega,rfl,b7⟩
theorem Ol{i:Int}{aD:bn→bn×Int}(h:i<0∨(z.R.length:Int)≤i):vP z i aD=(z,251):=by
 unfold vP;have e:(if i<0 then none else z.R[i.toNat]?)=none:=by
  by_cases am:i<0
  ·rw[if_pos am]
  ·rw[if_neg am,List.getElem?_eq_none (by omega)]
 rw[e]
theorem Ok{i:Int}{aD:bn→bn×Int}{m:bn}(am:0≤i)(h:z.R[i.toNat]?=some m):vP z i aD=(hK z i.toNat (aD m).1,(aD m).2):=by
 unfold vP;rw[if_neg (by omega),h]
theorem BU{aw:Nat}{i:Int}{q:Bool}(H:E y (cp aw z::c) w) :
  L Pg 32 [.pointer (some ⟨aw,0,none⟩),.int .i64 i,.bool q] (D .i64) w fun r I=>r=(oX z i q).2∧E y (cp aw (oX z i q).1::c) I:=by
 obtain⟨p,ap,H⟩:=ln H;refine ab5 ?_;unfold QE;refine cj H fun bh w H=>?_;refine cj H fun bU w H=>?_;refine cj H fun eH w H=>?_;refine an (x:=(some ⟨aw,0,none⟩:Option Addr)) 2 H rfl rfl rfl ?_;refine an (x:=i) 1 H rfl rfl rfl ?_;have H:E y (jP aw z p (aN eH (bi.cells q) 4::aN bU ((D .i64).cells i) 3::aN bh (aM.cells (some ⟨aw,0,none⟩)) 24::c)) w:=H.ord [3,4,5,6,7];refine aE (Hs (gJ:=dz.mk (.func 74) (List.toArray []) (List.toArray [.pointer (some ⟨bh,0,none⟩),.pointer (some ⟨bU,0,none⟩),.pointer (some ⟨eH,0,none⟩)])) (aa:=fun w=>E y (cp aw (oX z i q).1::c) w) ap ?_ H) ?_
 ·intro aB m w am a5 hm H;refine⟨74,[],[.pointer (some ⟨bh,0,none⟩),.pointer (some ⟨bU,0,none⟩),.pointer (some ⟨eH,0,none⟩)],rfl,agp,?_⟩;refine acN ?_;unfold Rl;refine dH H fun w H=>?_;refine an (x:=(some ⟨aw,0,none⟩:Option Addr)) 7 H rfl rfl rfl ?_;refine b2 rfl ?_;refine an (x:=(some ⟨p.cq,0,none⟩:Option Addr)) 0 H rfl rfl rfl ?_;refine an (x:=i) 6 H rfl rfl rfl ?_;refine an (x:=q) 5 H rfl rfl rfl ?_;refine aE (Post.afp (H.front 3) i q) ?_;rintro r w ⟨_,H⟩;refine⟨cW aM (H.front 7) rfl rfl,?_⟩;have aq:=(List.getElem?_eq_some_iff.1 hm).1;have bV:(hi z p).has i=true:=by unfold Post.eh.has hi; simp; omega
  rw[if_pos bV] at H;have e:oX z i q=({ z with cq:={ z.cq with off:=fun N=>if N==i then q else z.cq.off N } },0):=by unfold oX; rw[if_neg (by omega)]
  rw[e];exact jF (z:={ z with cq:={ z.cq with off:=fun N=>if N==i then q else z.cq.off N } }) (p:=p) ⟨ap.r,ap.q,ap.g⟩ ((H.ord [5,6,7]).drop.drop.drop.ord [1,2,3,0])
 ·rintro r w (⟨B,rfl,H⟩ | ⟨B,rfl,H⟩)
  ·have e:oX z i q=(z,251):=by unfold oX; rw[if_pos B]
   rw[e];exact⟨rfl,jF ap ((H.ord [5,6,7]).drop.drop.drop)⟩
  ·have e:oX z i q=({ z with cq:={ z.cq with off:=fun N=>if N==i then q else z.cq.off N } },0):=by unfold oX; rw[if_neg (by omega)]
   rw[e] at H ⊢;exact⟨rfl,H⟩
end
end dO
namespace dO
open ba Wire Disk Ballot
open Vault (cf Fit dF)
open Num (iE)
open Shard (jx)
section
variable {y w:World} {c bx:List bt} {n f k:Nat} {z:cu} {K:bN} [fP]
theorem R4{aw:Nat}{i act:Int}{s:X}{bL:List Int}(wx:bL.length≤1000000)(bu:c0 1 c (D .i64) s bL)(H:E y (cp aw z::c) w) :
  L Pg 33 [.pointer (some ⟨aw,0,none⟩),.int .i64 i,.int .i64 act,O.enc s] (D .i64) w fun r I=>r=(rU z i act bL).2∧E y (cp aw (rU z i act bL).1::c) I:=by
 obtain⟨p,ap,H⟩:=ln H;refine ab6 ?_;unfold QF;refine cj H fun aR w H=>?_;refine cj H fun cw w H=>?_;have H:E y (jP aw z p (aN cw (O.cells s) 39::aN aR ((D .i64).cells act) 3::c)) w:=H.ord [2,3,4,5,6];refine aE (Hs (gJ:=dz.mk (.func 76) (List.toArray []) (List.toArray [.pointer (some ⟨aR,0,none⟩),.pointer (some ⟨cw,0,none⟩)])) (aa:=fun w=>E y (cp aw (rU z i act bL).1::c) w∧(rU z i act bL).2=0) ap ?_ H) ?_
 ·intro aB m w am a5 hm H;refine⟨76,[],[.pointer (some ⟨aR,0,none⟩),.pointer (some ⟨cw,0,none⟩)],rfl,agq,?_⟩;refine acP ?_;unfold Rn;obtain⟨q,qs,H⟩:=hG (m9 a5 H);refine dH H fun w H=>?_;refine b2 rfl ?_;refine an (x:=(some ⟨q.d,0,none⟩:Option Addr)) 0 H rfl rfl rfl ?_;refine an (x:=act) 15 H rfl rfl rfl ?_;refine an (x:=s) 14 H rfl rfl rfl ?_;obtain⟨Hq,N3,H⟩:=pv (H.front 1);refine aE (Disk.ael (n:=act) wx (bu.k0 [_,_,_,_,_,_,_,_,_,_,_,_,_,_,_,_,_,_]) (H.front 3)) ?_;intro _ w H;have H:=nw (ad:=(BN act bL m).1.ai) (H.ord [1,2,3,0]);have H:=fl (m:=(BN act bL m).1) (q:=q) ⟨qs.A,qs.n,qs.p⟩ (H.front 1);have e:rU z i act bL=(hK z i.toNat (BN act bL m).1,0):=Ok am hm;rw[e];exact⟨mW ap a5 H |> fun H=>(H.ord [1,2]).drop.drop,rfl⟩
 ·rintro r w (⟨B,rfl,H⟩ | ⟨B,rfl,H,J⟩)
  ·have e:rU z i act bL=(z,251):=Ol B;rw[e];exact⟨rfl,jF ap ((H.ord [5,6]).drop.drop)⟩
  ·exact⟨J.symm,H⟩
theorem auP{n f i:Nat}{m:bn}{K:bN}(o:p_ n f i m K):m.ai.ah.j4:=by
 rcases o with ⟨_,h⟩ | ⟨h,_⟩
 ·exact h.core.acc.live.ok
 ·exact h.ok
theorem afm{aw:Nat}{i:Int}{s:X}{bL:List Int}(g:cL n f k z K)(bu:c0 1 c (D .i64) s bL)(H:E y (cp aw z::c) w) :
  L Pg 34 [.pointer (some ⟨aw,0,none⟩),.int .i64 i,O.enc s] (D .i64) w fun r I=>r=(v_ z i bL).2∧E y (cp aw (v_ z i bL).1::c) I:=by
 obtain⟨p,ap,H⟩:=ln H;refine ab7 ?_;unfold QG;refine cj H fun bh w H=>?_;have H:E y (jP aw z p (aN bh (O.cells s) 39::c)) w:=H.ord [1,2,3,4,5];refine aE (Hs (gJ:=dz.mk (.func 78) (List.toArray []) (List.toArray [.pointer (some ⟨bh,0,none⟩)])) (aa:=fun w=>E y (cp aw (v_ z i bL).1::c) w∧(v_ z i bL).2=0) ap ?_ H) ?_
 ·intro aB m w am a5 hm H;refine⟨78,[],[.pointer (some ⟨bh,0,none⟩)],rfl,agr,?_⟩;refine acR ?_;unfold Rp;obtain⟨q,qs,H⟩:=hG (m9 a5 H);refine dH H fun w H=>?_;refine b2 rfl ?_;refine an (x:=(some ⟨q.d,0,none⟩:Option Addr)) 0 H rfl rfl rfl ?_;refine an (x:=s) 14 H rfl rfl rfl ?_;obtain⟨Hq,N3,H⟩:=pv (H.front 1);refine aE (Disk.afn (auP (g.tx _ _ hm)) (bu.k0 [_,_,_,_,_,_,_,_,_,_,_,_,_,_,_,_,_]) (H.front 3)) ?_;intro _ w H;have H:=nw (ad:=(zQ bL m).1.ai) (H.ord [1,2,3,0]);have H:=fl (m:=(zQ bL m).1) (q:=q) ⟨qs.A,qs.n,qs.p⟩ (H.front 1);have e:v_ z i bL=(hK z i.toNat (zQ bL m).1,0):=Ok am hm;rw[e];exact⟨mW ap a5 H |> fun H=>(H.ord [1]).drop,rfl⟩
 ·rintro r w (⟨B,rfl,H⟩ | ⟨B,rfl,H,J⟩)
  ·have e:v_ z i bL=(z,251):=Ol B;rw[e];exact⟨rfl,jF ap ((H.ord [5]).drop)⟩
  ·exact⟨J.symm,H⟩
theorem avK{d:Nat}{ah:eQ}{n:Int}{g:eW}(dW:ah.j4)(am:0≤n)(wo:ah.down=false)(ae:ah.e_[n.toNat]?=some g)(hm:(fR ah n g).2≠0)(H:E y (fi d ah::c) w) :
  L Pg 46 [.pointer (some ⟨d,0,none⟩),.int .i64 n] (bJ aM (D .i64)) w fun r I=>r=(none,(fR ah n g).2)∧E y (fi d (fR ah n g).1::c) I:=by
 refine QT ?_;unfold IB;refine aE (Ws dW am wo ae H) ?_;rintro⟨k8,bs,fT⟩ w ⟨he,_,J⟩;simp only at he J;subst he;rw[if_pos (by simpa using hm)];exact⟨rfl,(J hm).2⟩
theorem ZS(Cz:∀ aB v,fP.ok aB v){aw aB d:Nat}{N:I4}{x:zA}{ah:eQ}{g:eW}{af:List Rec}(Z:iE N.fg)(o7:N.fg<18446744073709551616)(dW:ah.j4)(wo:ah.down=false)(ae:ah.e_[0]?=some g)(aj:(scan g.b).1=af.map fY)(ab:tY af)(aC:x.zS=some ⟨d,0,none⟩)
  (H:E y (aN aw (lI.cells N) 49::aN aB (jD.cells x) 66::fi d ah::c) w) :
  L Pg 15 [.pointer (some ⟨aw,0,none⟩),.pointer (some ⟨aB,0,none⟩)] (D .i64) w fun r I=>r=(fR ah 0 g).2 ∧
   ((fR ah 0 g).2=0→E y (eM aB (iW N.fg (fR ah 0 g).1 af)::aN aw (lI.cells N) 49::c) I) ∧
   ((fR ah 0 g).2≠0→E y (aN aw (lI.cells N) 49::aN aB (jD.cells x) 66::fi d (fR ah 0 g).1::c) I):=by
 refine aaX ?_;unfold Pt;refine b2 rfl ?_;refine an (x:=x.zS) 1 H rfl rfl rfl ?_;rw[aC];by_cases o:(fR ah 0 g).2=0
 ·refine aE (MB (n:=0) dW (Int.le_refl 0) wo ae aj ab o (H.front 2)) ?_;rintro⟨k8,bs⟩ w ⟨B,a,J,H⟩;simp only at B J;subst B; subst J;rw[if_neg (by simp)];refine b2 rfl ?_;refine an (x:=N.fg) 1 H rfl rfl rfl ?_;refine aE (Vault.Mg o7 H) ?_;rintro⟨k8,bs⟩ w ⟨B,_⟩;obtain⟨B,tO,J,H⟩:=B Z;simp only at B J;subst B; subst J;refine an (x:=x.zS) 3 H rfl rfl rfl ?_;rw[aC];refine qB H fun F3 w H=>?_;have H:=qz dT .i64 H;refine fb (x:=x) (N:=(⟨some ⟨d,0,none⟩,some ⟨a,0,none⟩,er,some F3,some ⟨tO,0,none⟩,0,0,false,none,none,0⟩:zA)) VA 4 H rfl fun w H=>?_;refine aE (Se H) ?_;rintro _ w ⟨ju,hk,H⟩;have H:=jW lJ 147 7 H;have H:=E.shut (bx:=[]) H;have H:E y (de (([]:List (Int×Nat×Nat×fG×List (Int×qe))).map kO)::_) w:=H;have H:=E.vh (m:=nY.mono (R:=da []++kw [])) (fun aG _ _=>by intro t ak; simp [da,kw] at ak) H;refine⟨o.symm,fun _=>?_,fun e=>absurd o e⟩
  exact fl (m:=iW N.fg (fR ah 0 g).1 af) (q:=⟨d,a,tO,F3,ju,hk,er,[],[],[]⟩) ⟨rfl,rfl,rfl⟩ ((w9 (Cz aB tO) (H.front 7)).ord [4,8,7,0,5,6,2,3,1])
 ·refine aE (avK (n:=0) dW (Int.le_refl 0) wo ae o (H.front 2)) ?_;rintro r w ⟨rfl,H⟩;rw[if_pos (by simpa using o)];exact⟨rfl,fun e=>absurd e o,fun _=>H.ord [1,2,0]⟩
theorem auB(ah:eQ)(n:Int)(g:eW):0≤(fR ah n g).2:=by
 unfold fR DM pV nv
 repeat' split
 all_goals simp
theorem Zk(Cz:∀ aB v,fP.ok aB v){aw:Nat}{i:Int}(g:cL n f k z K)(Z:iE f)(o7:f<18446744073709551616)(H:E y (cp aw z::c) w) :
  L Pg 35 [.pointer (some ⟨aw,0,none⟩),.int .i64 i] (D .i64) w fun r I=>r=(pY z i).2∧E y (cp aw (pY z i).1::c) I:=by
 obtain⟨p,ap,H⟩:=ln H;have Ua:=g.fg;refine ab8 ?_;unfold QH;refine cj H fun aI w H=>?_;refine cj H fun aR w H=>?_;refine eg (x:=(0:Int)) 0 H rfl rfl (Nat.le_of_ble_eq_true rfl) fun w H=>?_;refine an (x:=(some ⟨aw,0,none⟩:Option Addr)) 1 H rfl rfl rfl ?_;have H:E y (jP aw z p (aN aR ((D .i64).cells (0:Int)) 25::aN aI (aM.cells (some ⟨aw,0,none⟩)) 24::c)) w:=H.ord [2,3,4,5,6];refine aE (Hs (gJ:=dz.mk (.func 80) (List.toArray []) (List.toArray [.pointer (some ⟨aI,0,none⟩),.pointer (some ⟨aR,0,none⟩)])) (aa:=fun w=>0≤(pY z i).2∧E y (aN aR ((D .i64).cells (pY z i).2) 25::cp aw (pY z i).1::c) w) ap ?_ H) ?_
 ·intro aB m w am a5 hm H;refine⟨80,[],[.pointer (some ⟨aI,0,none⟩),.pointer (some ⟨aR,0,none⟩)],rfl,ags,?_⟩;refine acT ?_;unfold Rs;have e:pY z i=(hK z i.toNat (sS z.fg m).1,(sS z.fg m).2):=Ok am hm;rw[e];obtain⟨q,qs,H⟩:=hG (m9 a5 H);refine b2 rfl ?_;refine an (x:=(some ⟨q.d,0,none⟩:Option Addr)) 0 H rfl rfl rfl ?_;obtain⟨Hq,N3,H⟩:=pv (H.front 1);refine aE (Fc (H.front 3)) ?_;rintro r w ⟨rfl,H⟩;rcases g.tx _ _ hm with ⟨FF,_⟩ | ⟨J8,_⟩
  ·have a0:sS z.fg m=(m,0):=by unfold sS; rw[if_neg (by simp[FF])]
   rw[a0,if_neg (by simp[FF])];have H:=nw (ad:=m.ai) (H.ord [1,2,3,0]);have H:=mW ap a5 (fl qs (H.front 1));exact⟨Int.le_refl 0,(H.ord [1,0,2]).ord [0,1] |> fun H=>(H.ord [2]).drop⟩
  ·rw[if_pos J8.off];refine an (x:=(some ⟨q.d,0,none⟩:Option Addr)) 4 H rfl rfl rfl ?_;refine aE (Disk.azu H) ?_;intro _ w H;refine an (x:=(some ⟨aw,0,none⟩:Option Addr)) 18 H rfl rfl rfl ?_;obtain⟨eR,f_,fQ,F6⟩:=VS J8 (g.inv.tA _);have a0:sS z.fg m=Ef z.fg m (hp m.ai.ah):=by unfold sS; rw[if_pos J8.off]
   refine aE (ZS Cz (N:=qk z p) (x:=l1 m q) (ah:=hp m.ai.ah) (g:=lY (hp m.ai.ah)) (by show iE z.fg; rw[Ua]; exact Z) (by show z.fg<_; rw[Ua]; exact o7) f_ rfl fQ eR (g.inv.tA _) rfl (H.ord [12,4,0])) ?_;rintro r w ⟨rfl,B,J⟩;have ajU:=auB (hp m.ai.ah) 0 (lY (hp m.ai.ah));rw[a0];unfold Ef;by_cases o:(fR (hp m.ai.ah) 0 (lY (hp m.ai.ah))).2=0
   ·have H:=B o;rw[if_neg (by simp[o]),eR,SD (g.inv.tA _)];have H:=(H.ord [2,3,4,5,6,7,8,9,10,11]).drop.drop.drop.drop.drop.drop.drop.drop.drop.drop;refine eg (x:=(fR (hp m.ai.ah) 0 (lY (hp m.ai.ah))).2) 6 H rfl rfl (Nat.le_of_ble_eq_true rfl) fun w H=>?_;rw[o] at H;have H:=mW ap a5 (H.ord [1,2,3,4,5,6]);exact⟨Int.le_refl 0,H.ord [1,0] |> fun H=>(H.ord [2]).drop⟩
   ·have H:=J o;rw[if_pos o];refine eg (x:=(fR (hp m.ai.ah) 0 (lY (hp m.ai.ah))).2) 17 H rfl rfl (Nat.le_of_ble_eq_true rfl) fun w H=>?_;have H:=nw (ad:={ m.ai with ah:=(fR (hp m.ai.ah) 0 (lY (hp m.ai.ah))).1 }) (H.ord [4,5,6,3]);have H:=fl (m:={ m with ai:={ m.ai with ah:=(fR (hp m.ai.ah) 0 (lY (hp m.ai.ah))).1 } }) (q:=q) ⟨qs.A,qs.n,qs.p⟩ (H.ord [3,0,4,5,6,7,8,9,10]);have H:=mW ap a5 (H.ord [0,2,3,4,5,6]);exact⟨ajU,H.ord [1,0] |> fun H=>(H.ord [2]).drop⟩
 ·rintro r w (⟨B,rfl,H⟩ | ⟨B,rfl,J,H⟩)
  ·have e:pY z i=(z,251):=Ol B;rw[e];refine an (x:=(0:Int)) 5 H rfl rfl rfl ?_;exact⟨rfl,jF ap ((H.ord [5,6]).drop.drop)⟩
  ·refine an (x:=(pY z i).2) 0 H rfl rfl rfl ?_;exact⟨by omega,H.drop⟩
end
theorem aeW{y w:World}{c:List bt}{b dw:Nat}{a4 Jp:List Value}{t pk:TypeId}(H:E y (aN b a4 t::aN dw Jp pk::c) w):b≠dw:=by
 rintro rfl;obtain⟨aG,h,_,_,_,B,J,ab,cx,cE,ag,au,a8,_,pG,tv,aA,_⟩:=H.mem;have ag:B b=some _:=ag;have aA:au b=some _:=aA;rcases ab b with e | e
 ·rw[ag] at e; cases e
 ·rw[pG b _ aA] at e; cases e
section
variable {y w:World} {c bx:List bt} {n f k:Nat} {z:cu} {K:bN} [P:fP]
theorem xW{aw i aB:Nat}{p:ia}{m:bn}(ap:j2 z p)(h:p.Q[i]?=some (aB,m))(H:E y (eM aB m::eD aw z p i c) w):E y (cp aw z::c) w:=by
 have e:hK z i m=z:=by
  unfold hK;have gg:z.R[i]?=some m:=by rw[← ap.q,List.getElem?_map,h]; rfl
  have:z.R.set i m=z.R:=by
   apply List.ext_getElem?;intro l;by_cases o:i=l
   ·subst o;rw[List.getElem?_set_self (List.getElem?_eq_some_iff.1 gg).1,gg]
   ·rw[List.getElem?_set_ne o]
  rw[this]
 have:=mW ap h H;rw[e] at this;exact this
theorem atG{aw:Nat}{i:Int}(g:cL n f k z K)(H:E y (cp aw z::c) w) :
  L Pg 18 [.pointer (some ⟨aw,0,none⟩),.int .i64 i] (bJ (D .i64) bi) w fun r I=>r=LM z i∧E y (cp aw z::c) I:=by
 obtain⟨p,ap,H⟩:=ln H;have o6:=g.je;have gg:=g.len;refine abj ?_;unfold PM;refine aE (oV ap (by omega) H) ?_;rintro r w ⟨Z,H⟩;unfold LM;cases dx:fX z i with
 |error e=>
  rw[dx] at Z;obtain⟨rfl,he⟩:=Z;refine aQ ⟨aw,0,none⟩ (fun h=>absurd h (by simp[he])) ?_;refine aQ false (fun h=>absurd h (by simp[he])) ?_;rw[if_pos (by simp[he])];exact⟨rfl,jF ap H⟩
 |ok m=>
  rw[dx] at Z;obtain⟨aB,am,a5,rfl⟩:=Z;obtain⟨q,hm,H⟩:=hG (m9 a5 H);refine aQ ⟨aB,0,none⟩ (fun _=>rfl) ?_;refine aQ m.fz (fun _=>cW bi H rfl rfl) ?_;have TI:∀ w,E y (nH aB m q (eD aw z p i.toNat c)) w→E y (cp aw z::c) w:=fun w H=>xW ap a5 (fl hm H);by_cases u5:m.fz=true
  ·rw[if_neg (by simp[u5])];refine b2 rfl ?_;refine an (x:=m.b) 0 H rfl rfl rfl ?_;exact⟨by simp[u5],TI _ H⟩
  ·rw[if_pos (by simp[u5])];exact⟨by simp[u5],TI _ H⟩
theorem aeg{aw:Nat}{i:Int}(g:cL n f k z K)(H:E y (cp aw z::c) w) :
  L Pg 24 [.pointer (some ⟨aw,0,none⟩),.int .i64 i] (D .i64) w fun r I=>r=v6 z i∧E y (cp aw z::c) I:=by
 obtain⟨p,ap,H⟩:=ln H;have o6:=g.je;have gg:=g.len;refine abY ?_;unfold Qv;refine aE (oV ap (by omega) H) ?_;rintro r w ⟨Z,H⟩;unfold v6;cases dx:fX z i with
 |error e=>
  rw[dx] at Z;obtain⟨rfl,he⟩:=Z;rw[if_pos (by simpa using he)];exact⟨rfl,jF ap H⟩
 |ok m=>
  rw[dx] at Z;obtain⟨aB,am,a5,rfl⟩:=Z;rw[if_neg (by simp)];obtain⟨q,hm,H⟩:=hG (m9 a5 H);refine b2 rfl ?_;refine an (x:=m.dh) 0 H rfl rfl rfl ?_;exact⟨rfl,xW ap a5 (fl hm H)⟩
theorem awv{aw:Nat}{i:Int}(g:cL n f k z K)(H:E y (cp aw z::c) w) :
  L Pg 26 [.pointer (some ⟨aw,0,none⟩),.int .i64 i] (D .i64) w fun r I=>r=Gw z i∧E y (cp aw z::c) I:=by
 obtain⟨p,ap,H⟩:=ln H;have o6:=g.je;have gg:=g.len;refine abZ ?_;unfold Qx;refine aE (oV ap (by omega) H) ?_;rintro r w ⟨Z,H⟩;unfold Gw;cases dx:fX z i with
 |error e=>
  rw[dx] at Z;obtain⟨rfl,he⟩:=Z;rw[if_pos (by simpa using he)];exact⟨rfl,jF ap H⟩
 |ok m=>
  rw[dx] at Z;obtain⟨aB,am,a5,rfl⟩:=Z;rw[if_neg (by simp)];obtain⟨q,hm,H⟩:=hG (m9 a5 H);refine b2 rfl ?_;refine an (x:=some ⟨q.a,0,none⟩) 0 H rfl rfl rfl ?_;refine aE (Ballot.Gx (H.front 1)) ?_;rintro r w ⟨rfl,H⟩;exact⟨rfl,xW ap a5 (fl hm (H.front 1))⟩
theorem Sr{aw:Nat}{i:Int}(g:cL n f k z K)(al:k≤99)(H:E y (cp aw z::c) w) :
  L Pg 21 [.pointer (some ⟨aw,0,none⟩),.int .i64 i] O w fun r I=>E y (row fH 53 3 r (qg z i)::cp aw z::c) I:=by
 obtain⟨p,ap,H⟩:=ln H;have o6:=g.je;have gg:=g.len;refine abK ?_;unfold P7;refine aE (oV ap (by omega) H) ?_;rintro r w ⟨Z,H⟩;cases dx:fX z i with
 |error e=>
  rw[dx] at Z;obtain⟨rfl,he⟩:=Z;rw[if_pos (by simpa using he),show qg z i=[] from by unfold qg; rw[dx]];exact jW _ _ _ (jF ap H)
 |ok m=>
  rw[dx] at Z;obtain⟨aB,am,a5,rfl⟩:=Z;have ok:=g.wJ al dx;rw[if_neg (by simp)];obtain⟨q,hm,H⟩:=hG (m9 a5 H);refine b2 rfl ?_;refine an (x:=some q.j6) 0 H rfl rfl rfl ?_;refine Q4 ?_;unfold IF;refine cj H fun ep w H=>?_;refine aE (YT (es:=m.bO) (fun e he=>by have:=ok.E3 e he; omega) (by have:=ok.bO; omega) (H.ord [0,3])) ?_;rintro dq w ⟨bu,aH,H⟩;have mn:(bu.mergeSort fun x N=>decide (x≤N))=e0 (m.bO.map (·.1)):=w3 aH;rw[mn] at H;clear mn aH bu;have rf:=ho H;have KE:(e0 (m.bO.map (·.1))).length=m.bO.length:=by rw[(hY _).length_eq,List.length_map]
  have Cn:=ok.bO;rw[show qg z i=uu m from by unfold qg; rw[dx]];unfold uu;generalize e0 (m.bO.map (·.1))=bu at *;have H:=(H.ord [1]).drop;have H:E y (row fH 53 3 er []::row (D .i64) 3 1 dq bu::nH aB m q (eD aw z p i.toNat c)) w:=jW fH 53 3 (H.ord [0,2,3,1]);refine hU (fun s w=>∃ d:Nat,s.2=(d:Int)∧d≤bu.length∧E y (row fH 53 3 s.1 ((bu.take d).map fun x=>(⟨x,0,(m.bO.lookup x).getD []⟩:dd))::row (D .i64) 3 1 dq bu::nH aB m q (eD aw z p i.toNat c)) w) (fun s=>((bu.length:Int)-s.2).toNat) ⟨0,rfl,by omega,H⟩ ?_;clear H;rintro⟨s,s2⟩ w ⟨d,J,aC,H⟩ aa b7;simp only at J H;subst J;unfold Ik;simp only[rf];split
  ·rename_i o;have o:d<bu.length:=by simpa using o
   have F:bu[d]?=some bu[d]:=List.getElem?_eq_getElem o;have ak:bu.take (d+1)=bu.take d++[bu[d]]:=List.take_succ_eq_append_getElem o;generalize bu[d]=x at F ak;obtain⟨a,ag⟩:=ih (i:=(d:Int)) (H.front 1) (by omega) (by omega);refine aQ a ag ?_;refine aQ x (lz (fun _=>rfl) ag (by rw[Int.toNat_natCast]; exact F) (H.front 1)) ?_;refine an (x:=some q.j6) 2 H rfl rfl rfl ?_;refine iV 4 H rfl rfl ?_;refine me (fun _=>rfl) 0 H rfl (by simp only[List.length_map,List.length_take,List.length_cons,List.length_nil]; omega) fun r w H=>?_;have cS:IntKind.i64.wrap ((d:Int)+1)=((d+1:Nat):Int):=by rw[wrap_i64 (by omega) (by omega)]; omega
   rw[cS];refine b7 _ _ ⟨d+1,rfl,by omega,?_⟩ (by simp only; omega);simp only;rw[ak,List.map_append];exact H
  ·rename_i o;have o:¬ d<bu.length:=by simpa using o
   rw[List.take_of_length_le (by omega)] at H;have H:=(H.front 1).drop;exact (xW ap a5 (fl hm (H.ord [1,2,3,4,5,6,7,8,9,10,11,12,13,14]))).front 1
theorem afb{s:X}{xs:List dd}(F:xs.length≤1000)(k:cn c (dL fH s xs))(H:E y c w):L Pg 60 [O.enc s] O w fun _ I=>E y c I:=by
 refine acy ?_;unfold Q8;split
 ·exact H
 ·refine sE H fun gn eu H=>?_;have fN:=rz (T:=fH) (t:=53) (ao:=3) (xs:=[]) (m:=0) rfl H;refine zJ (xs:=[]) (new:=xs) (fun _=>rfl) 0 fN rfl (I1 (fN.ro k.tail)) (by simp only[List.length_nil]; omega) fun r cK H=>?_;exact H.drop
theorem FY{aw:Nat}(lU:z.cq.c.length≤1000)(ax:∀ t∈z.cq.c,t.w.c.length≤1000)(H:E y (cp aw z::c) w) :
  L Pg 27 [.pointer (some ⟨aw,0,none⟩)] O w fun r I=>r.len=z.cq.c.length∧E y (cp aw z::c) I:=by
 obtain⟨p,ap,H⟩:=ln H;refine ab0 ?_;unfold Qy;refine b2 rfl ?_;refine an (x:=some ⟨p.cq,0,none⟩) 0 H rfl rfl rfl ?_;have aAR:p.a2.length=z.cq.c.length:=by rw[← ap.g,List.length_map]
 have m0:(hi z p).c.length=p.a2.length:=by show (p.a2.map iP).length=_; rw[List.length_map]
 refine aE (Post.FY (H.front 3) (by rw[m0]; omega)) ?_;intro r w H;have H:E y (row v2 140 9 r (p.a2.map iP)::jP aw z p c) w:=H.ord [0,2,3,4,1];have re:=ho H;rw[List.length_map] at re;refine hU (fun s w=>∃ (l:Nat) (Bc:List RM),s=(l:Int)∧l≤p.a2.length∧Bc.length=p.a2.length∧(∀ i,l≤i→Bc[i]?=(p.a2.map iP)[i]?)∧E y (row v2 140 9 r Bc::jP aw z p c) w) (fun s=>((p.a2.length:Int)-s).toNat) ⟨0,_,rfl,by omega,by rw[List.length_map],fun _ _=>rfl,H⟩ ?_;clear H;rintro s w ⟨l,Bc,rfl,a7,cb,Ur,H⟩ aa b7;unfold Is;rw[re];split
 ·rename_i o;have o:l<p.a2.length:=by simpa using o
  obtain⟨a,ag⟩:=ih (i:=(l:Int)) H (by omega) (by omega);have ae:p.a2[l]?=some (p.a2[l]'o):=List.getElem?_eq_getElem o;have lo:=List.getElem_mem o;generalize p.a2[l]'o=t at ae lo;have F:Bc[((l:Int)).toNat]?=some (iP t):=by
   rw[Int.toNat_natCast,Ur l (Nat.le_refl _),List.getElem?_map,ae]; rfl
  have hR:t.2.w.c.length≤1000:=ax _ (by rw[← ap.g]; exact List.mem_map.2 ⟨t,lo,rfl⟩);refine aQ a ag ?_;refine aQ t.1 (iz (cc:=O) (A:=8) (fun _=>rfl) ag F rfl H) ?_;have sA:cn (row v2 140 9 r Bc::jP aw z p c) (dL fH t.1 t.2.w.c):=(((((zb (R:=mV p.a2) (c:=c)).tail).tail).tail).tail).tail.imp fun aG h=>h _ (List.mem_map.2 ⟨t,lo,rfl⟩);refine aE (afb hR sA H) ?_;intro bs w H;refine aQ a ag ?_;refine y9 (cc:=O) (A:=8) (aL:=bs) (N:={ iP t with z:={ (iP t).z with RQ:=bs } }) (fun _=>rfl) ag F rfl (Nat.le_of_ble_eq_true rfl) H fun w H=>?_;have cS:IntKind.i64.wrap ((l:Int)+1)=((l+1:Nat):Int):=by rw[wrap_i64 (by omega) (by omega)]; omega
  rw[cS];refine b7 _ _ ⟨l+1,_,rfl,by omega,by rw[List.length_set]; exact cb,fun i aq=>?_,H⟩ (by omega);rw[Int.toNat_natCast,List.getElem?_set_ne (by omega)];exact Ur i (by omega)
 ·exact⟨by omega,jF ap H.drop⟩
end
@[reducible] def qD(P:fP)(af:List Nat)(aB v:Nat):fP:=⟨fun a u=>P.ok a u∧(a=aB→u=v),fun R=>P.rows R∧R=af⟩
@[reducible] def qC:fP:=⟨fun _ _=>True,fun _=>True⟩
section
variable {y w:World} {c bx:List bt} {n f k:Nat} {z:cu} {K:bN}
theorem NI{P Q:fP}{b0:bt}(h:∀ {t:Nat×bn} {c:List bt} {w:World},E y (b0::@hV P t::c) w→E y (b0::@hV Q t::c) w):∀ (R:List (Nat×bn)) {c:List bt},E y (b0::(R.map (@hV P)++c)) w→E y (b0::(R.map (@hV Q)++c)) w
 |[],_,H=>H
 |t::R,c,H=>by
  have H:E y (b0::@hV P t::(R.map (@hV P)++c)) w:=H;have H:=h H;have H:=H.perm (bx:=b0::(R.map (@hV P)++(@hV Q t::c))) (List.Perm.cons _ List.perm_middle.symm);have H:=NI h R H;exact H.perm (List.Perm.cons _ List.perm_middle)
theorem auv{P Q:fP}{t:Nat×bn}(h:∀ v,P.ok t.1 v→Q.ok t.1 v)(H:E y (@hV P t::c) w):E y (@hV Q t::c) w:=by
 obtain⟨q,hm,H⟩:=@hG y w c P t.1 t.2 H;obtain⟨aH,H⟩:=@y_ y w _ P _ _ _ (H.front 3);have H:=@w9 y w _ Q _ _ _ (h _ aH) H;exact @fl y w c Q t.1 t.2 q hm (H.ord [1,2,3,0])
theorem av4{P:fP}{aw:Nat}(H:E y (@cp P aw z::c) w):E y (@cp qC aw z::c) w:=by
 obtain⟨p,ap,H⟩:=@ln y w c P aw z H;have H:=(H.front 2).open_;have H:=E.rD (eK:=True) trivial H;have H:=NI (Q:=qC) (fun {t c w} H=>(auv (P:=P) (Q:=qC) (fun _ _=>trivial) (H.front 1)).front 1) p.Q H;have H:=E.shut H.drop;exact @jF y w c qC aw z p (@j2.mk qC z p trivial ap.q ap.g) (H.ord [1,2,0])
theorem DX{P:fP}{aw:Nat}{i:Int}(g:cL n f k z K)(H:E y (@cp P aw z::c) w) :
  L Pg 22 [.pointer (some ⟨aw,0,none⟩),.int .i64 i] aM w fun r I=>(∃ e,fX z i=.error e∧r=none∧E y (@cp P aw z::c) I)∨∃ m af aB v,fX z i=.ok m∧r=some ⟨v,0,none⟩∧af[i.toNat]?=some aB∧E y (@cp (qD P af aB v) aw z::c) I:=by
 obtain⟨p,ap,H⟩:=ln H;have o6:=g.je;have gg:=g.len;refine abU ?_;unfold Qg;refine aE (oV ap (by omega) H) ?_;rintro r w ⟨Z,H⟩;cases dx:fX z i with
 |error e=>
  rw[dx] at Z;obtain⟨rfl,he⟩:=Z;rw[if_pos (by simpa using he)];exact .inl ⟨e,rfl,rfl,jF ap H⟩
 |ok m=>
  rw[dx] at Z;obtain⟨aB,am,a5,rfl⟩:=Z;rw[if_neg (by simp)];obtain⟨q,hm,H⟩:=hG (m9 a5 H);refine b2 rfl ?_;refine an (x:=(some ⟨q.v,0,none⟩:Option Addr)) 0 H rfl rfl rfl ?_;refine .inr ⟨m,p.Q.map Prod.fst,aB,q.v,rfl,rfl,by rw[List.getElem?_map,a5]; rfl,?_⟩;have H:=(H.ord [11,0]).open_;have H:=H.perm List.perm_middle
  have H:=NI (Q:=qD P (p.Q.map Prod.fst) aB q.v) (fun {t c w} H=>by
   obtain⟨l2,qq,H⟩:=@hG y w _ P t.1 t.2 (H.front 1);have ec:t.1≠aB:=aeW (H.ord [0,9]);obtain⟨aH,H⟩:=@y_ y w _ P _ _ _ (H.front 3);have H:=@w9 y w _ (qD P (p.Q.map Prod.fst) aB q.v) _ _ _ ⟨aH,fun e=>absurd e ec⟩ H
   exact (@fl y w _ (qD P (p.Q.map Prod.fst) aB q.v) t.1 t.2 l2 qq (H.ord [1,2,3,0])).front 1) _ H
  have H:=E.shut (H.perm List.perm_middle.symm);obtain⟨aH,H⟩:=@y_ y w _ P _ _ _ (H.front 4);have H:=@w9 y w _ (qD P (p.Q.map Prod.fst) aB q.v) _ _ _ ⟨aH,fun _=>rfl⟩ H;have H:=@fl y w _ (qD P (p.Q.map Prod.fst) aB q.v) aB m q hm (H.ord [2,3,4,0,5,6,7,8,9,10,11,1]);exact @xW y w c z (qD P (p.Q.map Prod.fst) aB q.v) aw i.toNat aB p m (@j2.mk (qD P (p.Q.map Prod.fst) aB q.v) z p ⟨ap.r,rfl⟩ ap.q ap.g) a5 H
theorem azy{P:fP}{aw i aB v:Nat}{m:bn}(Z:∀ R,P.rows R→R[i]?=some aB)(ab:∀ u,P.ok aB u→u=v)(hm:z.R[i]?=some m)(H:E y (@cp P aw z::c) w) :
  ∃ j:List bt,E y (dF v m.V::(j++c)) w∧∀ I,E y (dF v m.V::(j++c)) I→E y (@cp P aw z::c) I:=by
 obtain⟨p,ap,H⟩:=ln H;obtain⟨L6,a5⟩:=Cf ap hm;have e:L6=aB:=by
  have B:=Z _ ap.r;rw[List.getElem?_map,a5] at B;exact Option.some.inj B
 subst e;obtain⟨q,qq,H⟩:=hG (m9 a5 H);obtain⟨aH,H⟩:=y_ (H.front 3);have ax:=ab _ aH;subst ax;exact⟨[_,_,_,_,_,_,_,_,_,_,_,_,_],H,fun I H=>xW ap a5 (fl qq ((w9 aH H).ord [1,2,3,0]))⟩
attribute [instance] qC
theorem auA(n:Int):fR d0 n ⟨[],0⟩=(d0,0):=by
 have aF:scan []=([],0):=by rfl
 unfold fR;rw[aF];simp
theorem afs:d0.j4:=⟨by simp[d0],fun g ae=>by simp[d0] at ae; subst ae; simp⟩
theorem Mf{n:Int}{f:Nat}(Z:iE f)(o7:f<18446744073709551616)(aO:1≤n∧n≤5)(H:E y c w) :
  L Pg 6 [.int .i64 n,.float .f64 f] (bJ aM (D .i64)) w fun r I=>r.2=0∧∃ aw:Nat,r.1=some ⟨aw,0,none⟩∧E y (@cp qC aw (pe n.toNat f)::c) I:=by
 refine acI ?_;unfold Q7;rw[if_neg (by simp; omega)];refine aE (Num.Nx o7 H) ?_;rintro r w ⟨B,_,H⟩;have am:=B.2 Z;subst am;unfold EJ;rw[if_neg (by simp)];refine cj H fun aw w H=>?_;refine aE (Post.adt H n) ?_;rintro r w (⟨h,_⟩ | ⟨_,nc,rfl,H⟩)
 ·omega
 refine eg (x:=(some ⟨nc,0,none⟩:Option Addr)) 1 H rfl rfl (Nat.le_of_ble_eq_true rfl) fun w H=>?_;have H:E y (aN aw (lI.cells ⟨f,er,some ⟨nc,0,none⟩⟩) 49::row aM 57 1 er (([]:List (Nat×bn)).map na)::de (([]:List (Nat×bn)).map hV)::Post.gW nc (Post.eh.new n)::c) w:=
  (jW aM 57 1 (E.shut (bx:=([]:List bt)) H)).ord [2,0,1]
 refine hU (fun t w=>∃ (l:Nat) (s:X) (Q:List (Nat×bn)),t=(l:Int)∧(l:Int)≤n∧Q.map Prod.snd=List.replicate l (iW f d0 [])∧E y (aN aw (lI.cells ⟨f,s,some ⟨nc,0,none⟩⟩) 49::row aM 57 1 s (Q.map na)::de (Q.map hV)::Post.gW nc (Post.eh.new n)::c) w) (fun t=>(n-t).toNat) ⟨0,er,[],rfl,by omega,rfl,H⟩ ?_;clear H;rintro t w ⟨l,s,Q,rfl,a7,ku,H⟩ aa b7;have sw:Q.length=l:=by rw[← List.length_map (f:=Prod.snd),ku]; simp
 unfold IJ;split
 ·rename_i W;have W:(l:Int)<n:=by simpa using W
  have aT:IntKind.i64.wrap ((l:Int)+1)=((l+1:Nat):Int):=by rw[wrap_i64 (by omega) (by omega)]; omega
  refine cj H fun b w H=>?_;refine aE (Disk.Mg (n:=1) (by omega) (by omega) H) ?_;rintro⟨k8,bs⟩ w ⟨_,d,TO,H⟩;simp only at TO;subst TO;refine eg (x:=(some ⟨d,0,none⟩:Option Addr)) 1 H rfl rfl (Nat.le_of_ble_eq_true rfl) fun w H=>?_;have H:E y (aN aw (lI.cells ⟨f,s,some ⟨nc,0,none⟩⟩) 49::aN b (jD.cells ⟨some ⟨d,0,none⟩,none,er,none,none,0,0,false,none,none,0⟩) 66::fi d d0::row aM 57 1 s (Q.map na)::de (Q.map hV)::Post.gW nc (Post.eh.new n)::c) w:=H.ord [2,0,1];refine aE (ZS (fun _ _=>trivial) (g:=⟨[],0⟩) (af:=[]) Z o7 afs rfl rfl rfl (fun r h=>by cases h) rfl H) ?_;rintro r w ⟨_,cK,_⟩;rw[auA] at cK;have H:=cK rfl;refine an (x:=s) 1 H rfl rfl rfl ?_;refine me (fun _=>rfl) 2 H rfl (by simp; omega) fun r w H=>?_;refine eg (x:=r) 2 H rfl rfl (Nat.le_of_ble_eq_true rfl) fun w H=>?_;rw[aT]
  refine b7 _ _ ⟨l+1,r,Q++[(b,iW f d0 [])],rfl,by omega,by rw[List.map_append,ku,List.replicate_succ']; rfl,?_⟩ (by omega);have H:E y (hV (b,iW f d0 [])::de (Q.map hV)::_) w:=H.ord [2,3];rw[show Q.map hV=(Q++[]).map hV from by rw[List.append_nil]] at H;have H:=(xL (f:=hV) H).ord [1,2,0];have e:(Q++[(b,iW f d0 [])]).map na=Q.map na++[some ⟨b,0,none⟩]:=by rw[List.map_append]; rfl
  rw[e];exact H
 ·rename_i W;have W:¬ (l:Int)<n:=by simpa using W
  have wv:n.toNat=l:=by omega
  refine⟨rfl,aw,rfl,?_⟩;have H:=E.vh (m:=nY.mono (R:=mV [])) (fun aG _ _=>by intro t ak; simp [mV] at ak) H;refine jF (p:=⟨s,nc,Q,[]⟩) (@j2.mk qC (pe n.toNat f) ⟨s,nc,Q,[]⟩ trivial (by rw[wv]; exact ku) rfl) ?_;have xQ:hi (pe n.toNat f) ⟨s,nc,Q,[]⟩=Post.eh.new n:=by
   unfold hi pe Post.eh.new;simp;omega
  unfold jP;rw[xQ];exact H.ord [1,2,3,4,0]
end
end dO
namespace dO
open ba Wire Disk Ballot
open Vault (cf Fit dF)
open Num (iE)
open Shard (dU jb ir jx)
abbrev rN:=oS
abbrev lH:=ko
structure aU where
 x:rN
 aa:List Int
def JI(a:aU):aU:=⟨a.x,a.aa.take 4⟩
def mr(aL:cu×Int):cu×Int×Int:=(aL.1,0,aL.2)
def lO(z:cu)(a:aU):cu×Int×Int:=
 if a.x.Kind=0 then rY z a.x.b0
 else if a.x.Kind=1 then vD z a.x.b0 a.x.dU
 else if a.x.Kind=2 then mr (pW z a.x.b0)
 else if a.x.Kind=3 then mr (r1 z a.x.b0)
 else if a.x.Kind=4 then mr (zO z a.x.b0)
 else if a.x.Kind=5 then mr (Ap z a.x.b0)
 else if a.x.Kind=6 then mr (oX z a.x.b0 (bits .and .i64 a.x.ar 1==1))
 else if a.x.Kind=7 then mr (rU z a.x.b0 a.x.ar a.aa)
 else if a.x.Kind=8 then mr (v_ z a.x.b0 a.aa)
 else if a.x.Kind=9 then mr (pY z a.x.b0)
 else if a.x.Kind=10 then mr (wK z a.x.b0)
 else if a.x.Kind=11 then mr (w0 z a.x.b0)
 else (z,0,0)
theorem cL.do{n f k:Nat}{z:cu}{K:bN}(g:cL n f k z K)(al:k≤98){a:aU}(F:ir a.x.dU):∃ bj,gE K bj∧cL n f (k+1) (lO z a).1 bj:=by
 unfold lO;by_cases o:a.x.Kind=0
 ·rw[if_pos o]; exact g.aeO (by omega) _
 rw[if_neg o]; clear o;by_cases o:a.x.Kind=1
 ·rw[if_pos o]; exact g.ayU _ F
 rw[if_neg o]; clear o;by_cases o:a.x.Kind=2
 ·rw[if_pos o]; exact g.sync _
 rw[if_neg o]; clear o;by_cases o:a.x.Kind=3
 ·rw[if_pos o]; exact g.del (by omega) _
 rw[if_neg o]; clear o;by_cases o:a.x.Kind=4
 ·rw[if_pos o]; exact g.copy _
 rw[if_neg o]; clear o;by_cases o:a.x.Kind=5
 ·rw[if_pos o]; exact g.aug _
 rw[if_neg o]; clear o;by_cases o:a.x.Kind=6
 ·rw[if_pos o]; exact g.cut _ _
 rw[if_neg o]; clear o;by_cases o:a.x.Kind=7
 ·rw[if_pos o]; exact g.BM _ _ _
 rw[if_neg o]; clear o;by_cases o:a.x.Kind=8
 ·rw[if_pos o]; exact g.j8 _ _
 rw[if_neg o]; clear o;by_cases o:a.x.Kind=9
 ·rw[if_pos o]; exact g.up _
 rw[if_neg o]; clear o;by_cases o:a.x.Kind=10
 ·rw[if_pos o]; exact g.auV (by omega) _
 rw[if_neg o]; clear o;by_cases o:a.x.Kind=11
 ·rw[if_pos o]; exact g.ayr (by omega) _
 rw[if_neg o];exact g.stay
section
variable {y w:World} {c bx:List bt} {n f k:Nat} {z:cu} {K:bN}
theorem ag4{x:rN}{aa:List Int}(b7:x.iu.len≤x.iu.cap)(fF:cn c (dL (D .i64) x.iu aa))(H:E y c w) :
  L Pg 9 [lH.enc x] lH w fun r I=>∃ s2,r={ x with iu:=s2 }∧E y (ro (D .i64) s2 (aa.take 4)::c) I:=by
 have a0:=fF.len H;refine ade ?_;unfold RB;refine cj H fun gR eu H=>?_;refine cj H fun mQ cK H=>?_;refine an (x:=x.iu) 1 H rfl rfl rfl ?_;have wv:∀ (s2:X) (w:World),E y (aN gR (lH.cells { x with iu:=s2 }) 41::aN mQ (lH.cells EO) 41::ro (D .i64) s2 (aa.take 4)::c) w →
   Bw ⟨gR,0,none⟩ ⟨mQ,0,none⟩ w fun r I=>∃ s2,r={ x with iu:=s2 }∧E y (ro (D .i64) s2 (aa.take 4)::c) I:=by
  intro s2 w H;unfold Bw;refine gV (x:=({ x with iu:=s2 }:rN)) 0 H rfl ?_;refine fb (x:=EO) (N:=({ x with iu:=s2 }:rN)) Vz 1 H rfl fun a6 H=>?_;refine gV (x:=({ x with iu:=s2 }:rN)) 0 H rfl ?_;exact⟨s2,rfl,H.drop.drop⟩
 rw[a0];split
 ·rename_i W;have W:4<aa.length:=by simp at W; omega
  refine an (x:=x.iu) 1 H rfl rfl rfl ?_;refine nn (by omega) (by omega) (by omega) (by omega) fun s2 aF=>?_;have iT:=fF.sub (fun _=>rfl) aF (by omega);simp only[show ((4:Int)).toNat=4 from rfl,show ((0:Int)).toNat=0 from rfl,List.drop_zero] at iT;refine eg (x:=s2) 1 H rfl rfl (Nat.le_of_ble_eq_true rfl) fun a6 H=>?_;have H:=E.ro iT.tail.tail H;exact wv s2 _ (H.ord [1,2,0])
 ·rename_i W;have W:aa.length≤4:=by simp at W; omega
  have e:aa.take 4=aa:=List.take_of_length_le W;have H:=E.ro fF.tail.tail H;rw[← e] at H;exact wv x.iu _ (H.ord [2,1,0])
theorem afA{aw:Nat}{x:rN}{aa:List Int}(g:cL n f k z K)(al:k≤98)(Z:iE f)(o7:f<18446744073709551616)(F:ir x.dU)(fF:c0 1 c (D .i64) x.iu aa)(b7:aa.length≤1000)(H:E y (cp aw z::c) w) :
  L Pg 8 [.pointer (some ⟨aw,0,none⟩),lH.enc x] (bJ (D .i64) (D .i64)) w fun r I=>r=(lO z ⟨x,aa⟩).2∧E y (cp aw (lO z ⟨x,aa⟩).1::c) I:=by
 refine ac3 ?_;unfold Rr lO;simp only;refine cj H fun b w H=>?_;have l2:c0 1 (aN b (lH.cells x) 41::c) (D .i64) x.iu aa:=fF.tail;have Tb:∀ {r:Int×Int} {w:World} {aL:cu×Int×Int},(r=aL.2∧E y (cp aw aL.1::aN b (lH.cells x) 41::c) w)→(r.1,r.2)=aL.2∧E y (cp aw aL.1::c) w:=fun h=>⟨h.1,(h.2.front 1).drop⟩
 have fin:∀ {r:Int} {w:World} {aL:cu×Int},(r=aL.2∧E y (cp aw aL.1::aN b (lH.cells x) 41::c) w)→((0:Int),r)=(mr aL).2∧E y (cp aw (mr aL).1::c) w:=fun h=>⟨by unfold mr; rw[h.1],(h.2.front 1).drop⟩
 refine an (x:=x.Kind) 0 H rfl rfl rfl ?_;by_cases o:x.Kind=0
 ·rw[if_pos (by simpa using o),if_pos o];refine an (x:=x.b0) 0 H rfl rfl rfl ?_;exact aE (Sp g (by omega) (H.front 1)) fun r w h=>Tb h
 rw[if_neg (by simpa using o),if_neg o]; clear o;by_cases o:x.Kind=1
 ·rw[if_pos (by simpa using o),if_pos o];refine an (x:=x.b0) 0 H rfl rfl rfl ?_;refine an (x:=x.dU) 0 H rfl rfl rfl ?_;exact aE (YV g (by omega) F (H.front 1)) fun r w h=>Tb h
 rw[if_neg (by simpa using o),if_neg o]; clear o;by_cases o:x.Kind=2
 ·rw[if_pos (by simpa using o),if_pos o];refine an (x:=x.b0) 0 H rfl rfl rfl ?_;exact aE (DN g (by omega) (H.front 1)) fun r w h=>fin h
 rw[if_neg (by simpa using o),if_neg o]; clear o;by_cases o:x.Kind=3
 ·rw[if_pos (by simpa using o),if_pos o];refine an (x:=x.b0) 0 H rfl rfl rfl ?_;exact aE (SI g (by omega) (H.front 1)) fun r w h=>fin h
 rw[if_neg (by simpa using o),if_neg o]; clear o;by_cases o:x.Kind=4
 ·rw[if_pos (by simpa using o),if_pos o];refine an (x:=x.b0) 0 H rfl rfl rfl ?_;exact aE (Jo g (H.front 1)) fun r w h=>fin h
 rw[if_neg (by simpa using o),if_neg o]; clear o;by_cases o:x.Kind=5
 ·rw[if_pos (by simpa using o),if_pos o];refine an (x:=x.b0) 0 H rfl rfl rfl ?_;exact aE (LX g (H.front 1)) fun r w h=>fin h
 rw[if_neg (by simpa using o),if_neg o]; clear o;by_cases o:x.Kind=6
 ·rw[if_pos (by simpa using o),if_pos o];refine an (x:=x.b0) 0 H rfl rfl rfl ?_;refine an (x:=x.ar) 0 H rfl rfl rfl ?_;exact aE (BU (H.front 1)) fun r w h=>fin h
 rw[if_neg (by simpa using o),if_neg o]; clear o;by_cases o:x.Kind=7
 ·rw[if_pos (by simpa using o),if_pos o];refine an (x:=x.b0) 0 H rfl rfl rfl ?_;refine an (x:=x.ar) 0 H rfl rfl rfl ?_;refine an (x:=x.iu) 0 H rfl rfl rfl ?_;exact aE (R4 (by omega) l2 (H.front 1)) fun r w h=>fin h
 rw[if_neg (by simpa using o),if_neg o]; clear o;by_cases o:x.Kind=8
 ·rw[if_pos (by simpa using o),if_pos o];refine an (x:=x.b0) 0 H rfl rfl rfl ?_;refine an (x:=x.iu) 0 H rfl rfl rfl ?_;exact aE (afm g l2 (H.front 1)) fun r w h=>fin h
 rw[if_neg (by simpa using o),if_neg o]; clear o;by_cases o:x.Kind=9
 ·rw[if_pos (by simpa using o),if_pos o];refine an (x:=x.b0) 0 H rfl rfl rfl ?_;exact aE (Zk (fun _ _=>trivial) g Z o7 (H.front 1)) fun r w h=>fin h
 rw[if_neg (by simpa using o),if_neg o]; clear o;by_cases o:x.Kind=10
 ·rw[if_pos (by simpa using o),if_pos o];refine an (x:=x.b0) 0 H rfl rfl rfl ?_;exact aE (auX g (by omega) (H.front 1)) fun r w h=>fin h
 rw[if_neg (by simpa using o),if_neg o]; clear o;by_cases o:x.Kind=11
 ·rw[if_pos (by simpa using o),if_pos o];refine an (x:=x.b0) 0 H rfl rfl rfl ?_;exact aE (ayt g (by omega) (H.front 1)) fun r w h=>fin h
 rw[if_neg (by simpa using o),if_neg o];exact⟨rfl,H.drop⟩
end
end dO
namespace dO
open ba Wire Disk Ballot
open Vault (cf Fit dF)
open Num (iE)
open Shard (dU jb ir jx gq)
def tC(z:cu)(eb:List aU):cu:=eb.foldl (fun z a=>(lO z a).1) z
theorem awq(z:cu)(eb:List aU)(a:aU):tC z (eb++[a])=(lO (tC z eb) a).1:=by unfold tC; rw[List.foldl_append]; rfl
theorem Tr{n f:Nat}:∀ {eb:List aU} {k:Nat} {z:cu} {K:bN},cL n f k z K→(∀ a∈eb,ir a.x.dU)→k+eb.length≤99→∃ bj,gE K bj∧cL n f (k+eb.length) (tC z eb) bj
 |[],k,z,K,g,_,_=>⟨K,gE.refl K,g⟩
 |a::eb,k,z,K,g,h,al=>by
  have aj:(a::eb).length=eb.length+1:=rfl;obtain⟨bj,B,cD⟩:=g.do (by omega) (h a (List.mem_cons_self ..))
  obtain⟨uj,J,dC⟩:=Tr (eb:=eb) cD (fun b aA=>h b (List.mem_cons_of_mem _ aA)) (by omega);exact⟨uj,B.trans J,by rw[aj,show k+(eb.length+1)=k+1+eb.length from by omega]; exact dC⟩
def ins(x:Int):List Int→List Int
 |[]=>[x]
 |N::c=>if x≤N then x::N::c else N::ins x c
def Ah:List Int→List Int
 |[]=>[]
 |x::c=>ins x (Ah c)
theorem Lz(x:Int):∀ c,(ins x c).Perm (x::c)
 |[]=>.refl _
 |N::c=>by
  unfold ins;split
  ·exact .refl _
  ·exact ((Lz x c).cons N).trans (.swap x N c)
theorem UY:∀ c,(Ah c).Perm c
 |[]=>.refl _
 |x::c=>(Lz x _).trans ((UY c).cons x)
theorem UV{x:Int}:∀ {c:List Int},c.Pairwise (fun a b=>a≤b)→(ins x c).Pairwise fun a b=>a≤b
 |[],_=>by simp[ins]
 |N::c,h=>by
  obtain⟨B,J⟩:=List.pairwise_cons.1 h;unfold ins;split
  ·rename_i o;refine List.pairwise_cons.2 ⟨fun aL cb=>?_,h⟩;rcases List.mem_cons.1 cb with rfl | cb
   ·exact o
   ·exact Int.le_trans o (B aL cb)
  ·rename_i o;refine List.pairwise_cons.2 ⟨fun aL cb=>?_,UV J⟩;rcases List.mem_cons.1 ((Lz x c).mem_iff.1 cb) with rfl | cb
   ·omega
   ·exact B aL cb
theorem UZ:∀ c,(Ah c).Pairwise fun a b=>a≤b
 |[]=>List.Pairwise.nil
 |x::c=>UV (UZ c)
theorem NJ(c:List Int):e0 c=Ah c:=
 List.Perm.eq_of_pairwise (fun a b _ _ B J=>by omega) (w4 c) (UZ c) ((hY c).trans (UY c).symm)
def FZ(es:fV):List dd:=(Ah (es.map (·.1))).map fun k=>(es.lookup k).getD hf
theorem VB(es:fV):gT es=FZ es:=by unfold gT FZ; rw[NJ]
def Mj(bG:List (Int×List dd)):List dd:=((Ah (bG.map (·.1))).map fun k=>(bG.lookup k).getD []).flatten
theorem auQ(bG:List (Int×List dd)):mu bG=Mj bG:=by unfold mu Mj; rw[NJ]
def MR(m:bn)(from_:Int)(w:dv):bn:=
 if (h5 m.ai w.b).2=0 then pj { m with ai:=(h5 m.ai w.b).1 } from_ (Ee w.b (FZ m.ai.es)) else { m with ai:=(h5 m.ai w.b).1 }
theorem aws(m:bn)(from_:Int)(w:dv):wR m from_ w=MR m from_ w:=by unfold wR MR; rw[VB]
def MT(n:Nat)(m:bn)(from_:Int)(w:dv):bn:=
 if (m.bG.lookup from_).isSome=true∨m.fz=true∨w.b≠m.b then m
 else if ¬ n<2*(bM from_ w.c m.bG).length then { m with bG:=bM from_ w.c m.bG }
 else lead n { m with bG:=bM from_ w.c m.bG } (FZ (gM (Mj (bM from_ w.c m.bG))))
theorem aww(n:Nat)(m:bn)(from_:Int)(w:dv):wS n m from_ w=MT n m from_ w:=by unfold wS MT; rw[VB,auQ]
def NR(n:Nat)(i:Int)(m:bn)(from_:Int)(w:dv):bn:=
 if w.k=1 then MR m from_ w else if w.k=3 then xJ m from_ w else if w.k=2 then MT n m from_ w else if w.k=4 then xI n i m from_ w else lX m w.v.bm w.v.V
theorem azc(n:Nat)(i:Int)(m:bn)(from_:Int)(w:dv):vG n i m from_ w=NR n i m from_ w:=by unfold vG NR; rw[aws,aww]
def Jr(z:cu)(x:kD):cu×Int:=match fX z x.bw with
 |.error e=>(z,e)
 |.ok m=>(hK z x.bw.toNat (NR z.R.length x.bw m x.from_ x.w),0)
theorem del_eq(z:cu)(x:kD):zR z x=Jr z x:=by
 unfold zR Jr;cases fX z x.bw with
 |error e=>rfl
 |ok m=>simp only[azc]
def Js(z:cu)(l:Int):cu×Int:=match ob z l with
 |none=>(z,92)
 |some x=>if (z.cq.off x.from_||z.cq.off x.bw)=true then (z,93) else Jr (nd z l) x
theorem afw(z:cu)(l:Int):r1 z l=Js z l:=by
 unfold r1 Js;cases ob z l with
 |none=>rfl
 |some x=>simp only[del_eq]
def tg(z:cu)(a:aU):cu×Int×Int:=if a.x.Kind=3 then mr (Js z a.x.b0) else lO z a
theorem Fa(z:cu)(a:aU):lO z a=tg z a:=by
 unfold tg;by_cases o:a.x.Kind=3
 ·rw[if_pos o,← afw];unfold lO;rw[if_neg (by omega),if_neg (by omega),if_neg (by omega),if_pos o]
 ·rw[if_neg o]
def told(z:cu):List aU→List ((Int×Int)×Nat×Bool)
 |[]=>[]
 |a::eb=>((tg z a).2,(tg z a).1.cq.c.length,(tg z a).1.cq.c.all fun t=>Nat.ble t.w.c.length 1000)::told (tg z a).1 eb
theorem Zc:∀ {eb:List aU} {z:cu} {i:Nat} {a:aU},eb[i]?=some a→(told z eb)[i]?=some ((lO (tC z (eb.take i)) a).2,(lO (tC z (eb.take i)) a).1.cq.c.length,(lO (tC z (eb.take i)) a).1.cq.c.all fun t=>Nat.ble t.w.c.length 1000)
 |[],z,i,a,h=>by cases h
 |b::eb,z,0,a,h=>by cases h; rw[Fa]; rfl
 |b::eb,z,i+1,a,h=>by
  have:=Zc (eb:=eb) (z:=(tg z b).1) (i:=i) h;rw[← Fa] at this;show (told (tg z b).1 eb)[i]?=_
  rw[← Fa];exact this
def fe:dU:=⟨1,1,0,7,1000,false⟩
def iM(k i n:Int):aU:=⟨⟨k,i,n,⟨0,0,0,0,0,false⟩,er⟩,[]⟩
def Ja(i:Int):aU:=⟨⟨1,i,0,fe,er⟩,[]⟩
def S2:List aU:=[iM 6 0 0,iM 7 0 0,iM 9 0 0,iM 6 1 0,iM 7 1 0,iM 9 1 0,iM 6 2 0,iM 7 2 0,iM 9 2 0]
def B8:List aU:=[iM 2 0 0,iM 2 1 0,iM 2 2 0]
def B7(n:Nat):List aU:=List.replicate n (iM 3 0 0)
def fE:List aU:=iM 0 0 0::S2++B8++B7 3++B8++B7 3++[Ja 1,Ja 0]++S2++B8++B7 3++B8++B7 3++B8++B7 2++[iM 0 1 0]
def dI(i:Nat):cu:=tC (pe 3 0) (fE.take i)
def p3(R:List Nat):List ((Int×Int)×Nat×Bool):=R.map fun n=>((0,0),n,true)
def o0:List ((Int×Int)×Nat×Bool):=((3,0),0,true)::p3 [0,0,0,0,0,0,0,0,0,3,3,3,2,1,0,1,2,3,2,1,0]++[((0,253),0,true),((1,0),0,true)]++p3 [0,0,0,0,0,0,0,0,0,3,3,3,2,1,0,1,2,3,2,1,0,2,2,2,1,0]++[((4,0),0,true)]
theorem agQ:told (pe 3 0) fE=o0:=by kernel_rfl
theorem uy{i:Nat}{a:aU}{r:Int×Int}{n:Nat}{q:Bool}(h:fE[i]?=some a)(Z:o0[i]?=some (r,n,q)):lO (dI i) a=(dI (i+1),r)∧(dI (i+1)).cq.c.length=n∧((dI (i+1)).cq.c.all fun t=>Nat.ble t.w.c.length 1000)=q:=by
 have B:=Zc (z:=pe 3 0) h;rw[agQ,Z] at B;have aq:=(List.getElem?_eq_some_iff.1 h).1;have e:dI (i+1)=(lO (dI i) a).1:=by
  unfold dI;rw[List.take_succ_eq_append_getElem aq,awq,(List.getElem?_eq_some_iff.1 h).2]
 have J:=Option.some.inj B;have aT:r=(lO (dI i) a).2:=congrArg Prod.fst J;have a0:n=(lO (dI i) a).1.cq.c.length:=congrArg (fun aL=>aL.2.1) J;have cS:q=((lO (dI i) a).1.cq.c.all fun t=>Nat.ble t.w.c.length 1000):=congrArg (fun aL=>aL.2.2) J;rw[e];exact⟨by rw[aT],a0.symm,cS.symm⟩
instance (f:Nat):Decidable (iE f):=by unfold iE; infer_instance
theorem zZ:iE 0:=of_decide_eq_true (by kernel_rfl)
theorem agG:∀ a∈fE,ir a.x.dU:=by
 intro a ag
 have h:(fE.all fun a=>decide ((-9223372036854775808≤a.x.dU.Kind∧a.x.dU.Kind≤9223372036854775807)∧(-9223372036854775808≤a.x.dU.c6∧a.x.dU.c6≤9223372036854775807)∧(-9223372036854775808≤a.x.dU.df∧a.x.dU.df≤9223372036854775807) ∧
  (-9223372036854775808≤a.x.dU.b4∧a.x.dU.b4≤9223372036854775807)∧-9223372036854775808≤a.x.dU.ar∧a.x.dU.ar≤9223372036854775807))=true:=by kernel_rfl
 obtain⟨B,J,au,a8,b_⟩:=of_decide_eq_true (List.all_eq_true.1 h a ag);exact⟨B,J,au,a8,b_⟩
theorem ux(i:Nat):∃ k K,k≤51∧cL 3 0 k (dI i) K:=by
 obtain⟨bj,_,g⟩:=Tr (eb:=fE.take i) (JT (n:=3) (f:=0) (by omega) (Vault.Fit.new zZ)) (fun a ag=>agG a (List.mem_of_mem_take ag)) (by rw[List.length_take]; show 0+min i 51≤_; omega);exact⟨_,bj,by rw[List.length_take]; show 0+min i 51≤_; omega,g⟩
section
variable {y w:World} {c bx:List bt}
theorem agP{aw i n:Nat}{l:Int}(h:fE[i]?=some (iM 2 l 0))(Z:o0[i]?=some ((0,0),n,true))(H:E y (cp aw (dI i)::c) w):L Pg 28 [.pointer (some ⟨aw,0,none⟩),.int .i64 l] (D .i64) w fun r I=>r=0∧E y (cp aw (dI (i+1))::c) I:=by
 obtain⟨k,K,al,g⟩:=ux i;have e:mr (pW (dI i) l)=_:=(uy h Z).1;have aT:(pW (dI i) l).1=dI (i+1):=congrArg Prod.fst e;have a0:(pW (dI i) l).2=0:=congrArg (fun aL=>aL.2.2) e;have:=DN (i:=l) g (by omega) H;rw[aT,a0] at this;exact this
theorem agN{aw i n:Nat}(h:fE[i]?=some (iM 3 0 0))(Z:o0[i]?=some ((0,0),n,true))(H:E y (cp aw (dI i)::c) w):L Pg 29 [.pointer (some ⟨aw,0,none⟩),.int .i64 0] (D .i64) w fun r I=>r=0∧E y (cp aw (dI (i+1))::c) I:=by
 obtain⟨k,K,al,g⟩:=ux i;have e:mr (r1 (dI i) 0)=_:=(uy h Z).1;have aT:(r1 (dI i) 0).1=dI (i+1):=congrArg Prod.fst e;have a0:(r1 (dI i) 0).2=0:=congrArg (fun aL=>aL.2.2) e;have:=SI (l:=0) g (by omega) H;rw[aT,a0] at this;exact this
theorem agM{aw i n:Nat}{l:Int}(h:fE[i]?=some (iM 6 l 0))(Z:o0[i]?=some ((0,0),n,true))(H:E y (cp aw (dI i)::c) w):L Pg 32 [.pointer (some ⟨aw,0,none⟩),.int .i64 l,.bool false] (D .i64) w fun r I=>r=0∧E y (cp aw (dI (i+1))::c) I:=by
 have e:mr (oX (dI i) l (bits .and .i64 0 1==1))=_:=(uy h Z).1;rw[show (bits .and .i64 0 1==1)=false from by kernel_rfl] at e;have aT:(oX (dI i) l false).1=dI (i+1):=congrArg Prod.fst e;have a0:(oX (dI i) l false).2=0:=congrArg (fun aL=>aL.2.2) e;have:=BU (i:=l) (q:=false) H;rw[aT,a0] at this;exact this
theorem agL{aw i n:Nat}{l:Int}(h:fE[i]?=some (iM 7 l 0))(Z:o0[i]?=some ((0,0),n,true))(H:E y (cp aw (dI i)::c) w):L Pg 33 [.pointer (some ⟨aw,0,none⟩),.int .i64 l,.int .i64 0,O.enc er] (D .i64) w fun r I=>r=0∧E y (cp aw (dI (i+1))::c) I:=by
 have e:mr (rU (dI i) l 0 [])=_:=(uy h Z).1;have aT:(rU (dI i) l 0 []).1=dI (i+1):=congrArg Prod.fst e;have a0:(rU (dI i) l 0 []).2=0:=congrArg (fun aL=>aL.2.2) e;have:=R4 (i:=l) (act:=0) (bL:=[]) (by simp) Shard.ayj H;rw[aT,a0] at this;exact this
theorem agR{aw i n:Nat}{l:Int}(h:fE[i]?=some (iM 9 l 0))(Z:o0[i]?=some ((0,0),n,true))(H:E y (cp aw (dI i)::c) w):L Pg 35 [.pointer (some ⟨aw,0,none⟩),.int .i64 l] (D .i64) w fun r I=>r=0∧E y (cp aw (dI (i+1))::c) I:=by
 obtain⟨k,K,al,g⟩:=ux i;have e:mr (pY (dI i) l)=_:=(uy h Z).1;have aT:(pY (dI i) l).1=dI (i+1):=congrArg Prod.fst e;have a0:(pY (dI i) l).2=0:=congrArg (fun aL=>aL.2.2) e;have:=Zk (i:=l) (fun _ _=>trivial) g zZ (by omega) H;rw[aT,a0] at this;exact this
theorem agO{aw i n:Nat}{a:aU}{r:Int×Int}(h:fE[i]?=some a)(Z:o0[i]?=some (r,n,true))(H:E y (cp aw (dI (i+1))::c) w):L Pg 27 [.pointer (some ⟨aw,0,none⟩)] O w fun r I=>r.len=n∧E y (cp aw (dI (i+1))::c) I:=by
 obtain⟨k,K,al,g⟩:=ux (i+1);obtain⟨_,B,J⟩:=uy h Z;refine aE (FY g.cap (fun t ak=>Nat.le_of_ble_eq_true (List.all_eq_true.1 J t ak)) H) ?_;rintro r w ⟨Z,H⟩;exact⟨by rw[Z,B],H⟩
structure Round(b ah:Nat):Prop where
 s:∀ l,l<3→fE[b+l]?=some (iM 2 l 0)∧∃ n,o0[b+l]?=some ((0,0),n,true)
 n:o0[b+2]?=some ((0,0),ah,true)
 d:∀ d,d<ah→fE[b+3+d]?=some (iM 3 0 0)∧o0[b+3+d]?=some ((0,0),ah-d-1,true)
theorem Round.at{b ah:Nat}(h:Round b ah):∀ d,d≤ah→∃ a r,fE[b+2+d]?=some a∧o0[b+2+d]?=some (r,ah-d,true)
 |0,_=>⟨_,_,(h.s 2 (by omega)).1,h.n⟩
 |d+1,aC=>by
  obtain⟨B,J⟩:=h.d d (by omega);rw[show b+2+(d+1)=b+3+d from by omega,show ah-(d+1)=ah-d-1 from by omega];exact⟨_,_,B,J⟩
def zy(i:Nat)(a:aU):Prop:=fE[i]?=some a∧∃ n,o0[i]?=some ((0,0),n,true)
theorem Yo{aw i0 j:Nat}(b ah:Nat→Nat)(kH:j≤3)(z4:b 0=i0+9)(aA:∀ r,r<j→b (r+1)=b r+3+ah r)(W:∀ l,l<3→zy (i0+3*l) (iM 6 l 0)∧zy (i0+3*l+1) (iM 7 l 0)∧zy (i0+3*l+2) (iM 9 l 0))
  (Z:∀ r,r<j→Round (b r) (ah r)) (H:E y (cp aw (dI i0)::c) w) :
  L Pg 17 [.pointer (some ⟨aw,0,none⟩),.int .i64 3,.int .i64 (j:Int)] bi w fun r I=>r=true∧E y (cp aw (dI (b j))::c) I:=by
 refine aa8 ?_;unfold PD;refine hU (fun i w=>∃ l:Nat,i=(l:Int)∧l≤3∧E y (cp aw (dI (i0+3*l))::c) w) (fun i=>((3:Int)-i).toNat) ⟨0,rfl,by omega,H⟩ ?_;clear H;rintro i w ⟨l,rfl,a7,H⟩ aa b7;unfold H3;split
 ·rename_i o;have o:l<3:=by
   have:(l:Int)<3:=by simpa using o
   omega
  have aT:IntKind.i64.wrap ((l:Int)+1)=((l+1:Nat):Int):=by rw[wrap_i64 (by omega) (by omega)]; omega
  obtain⟨⟨dM,je,gn⟩,⟨aY,aBK,gR⟩,aI,aBL,mP⟩:=W l o;refine aE (agM dM gn H) ?_;rintro r w ⟨_,H⟩;refine aE (agL aY gR H) ?_;rintro r w ⟨rfl,H⟩;rw[if_neg (by simp)];refine aE (agR aI mP H) ?_;rintro r w ⟨rfl,H⟩;unfold Ez;rw[if_neg (by simp),aT];exact b7 _ _ ⟨l+1,rfl,by omega,H⟩ (by omega)
 ·rename_i o;have o:l=3:=by
   have:¬ (l:Int)<3:=by simpa using o
   omega
  subst o;rw[show i0+3*3=b 0 from by rw[z4]] at H;refine hU (fun i w=>∃ l:Nat,i=(l:Int)∧l≤j∧E y (cp aw (dI (b l))::c) w) (fun i=>((j:Int)-i).toNat) ⟨0,rfl,by omega,H⟩ ?_;clear H b7 aa;rintro i w ⟨q,rfl,a5,H⟩ aa b7;unfold H4;split
  ·rename_i o;have o:q<j:=by
    have:(q:Int)<j:=by simpa using o
    omega
   have agx:IntKind.i64.wrap ((q:Int)+1)=((q+1:Nat):Int):=by rw[wrap_i64 (by omega) (by omega)]; omega
   have KU:=Z q o;have ah6:=aA q o;refine hU (fun i w=>∃ l:Nat,i=(l:Int)∧l≤3∧E y (cp aw (dI (b q+l))::c) w) (fun i=>((3:Int)-i).toNat) ⟨0,rfl,by omega,H⟩ ?_;clear H;rintro i w ⟨l,rfl,a7,H⟩ tT ql;unfold H5;split
   ·rename_i o;have o:l<3:=by
     have:(l:Int)<3:=by simpa using o
     omega
    have aT:IntKind.i64.wrap ((l:Int)+1)=((l+1:Nat):Int):=by rw[wrap_i64 (by omega) (by omega)]; omega
    obtain⟨dM,je,gn⟩:=KU.s l o;refine aE (agP dM gn H) ?_;rintro r w ⟨rfl,H⟩;rw[if_neg (by simp),aT];exact ql _ _ ⟨l+1,rfl,by omega,H⟩ (by omega)
   ·rename_i o;have o:l=3:=by
     have:¬ (l:Int)<3:=by simpa using o
     omega
    subst o;refine Aq (fun aL (_:Unit) w=>∃ d:Nat,aL=ah q-d∧d≤ah q∧E y (cp aw (dI (b q+3+d))::c) w) _ ⟨0,rfl,by omega,H⟩ ?_;clear H ql tT;rintro aL ⟨⟩ w ⟨d,rfl,aC,H⟩ aAm ahy;unfold H6;obtain⟨a,my,B,J⟩:=KU.at d aC;have H:E y (cp aw (dI (b q+2+d+1))::c) w:=by rw[show b q+2+d+1=b q+3+d from by omega]; exact H
    refine aE (agO B J H) ?_;rintro r w ⟨aj,H⟩;rw[show b q+2+d+1=b q+3+d from by omega] at H;rw[aj];by_cases bP:d<ah q
    ·rw[if_pos (by simp; omega)];obtain⟨cD,dC⟩:=KU.d d bP;refine aE (agN cD dC H) ?_;rintro r w ⟨rfl,H⟩;rw[if_neg (by simp)];exact ahy _ _ _ (by omega) ⟨d+1,rfl,by omega,H⟩
    ·rw[if_neg (by simp; omega),agx];have:d=ah q:=by omega
     subst this;rw[← ah6] at H;exact b7 _ _ ⟨q+1,rfl,by omega,H⟩ (by omega)
  ·rename_i o;have o:q=j:=by
    have:¬ (q:Int)<j:=by simpa using o
    omega
   subst o;exact⟨rfl,H⟩
end
theorem S4{i0:Nat}(h:i0=1∨i0=24):∀ l:Nat,l<3→zy (i0+3*l) (iM 6 l 0)∧zy (i0+3*l+1) (iM 7 l 0)∧zy (i0+3*l+2) (iM 9 l 0):=by
 rintro l a7;rcases h with rfl | rfl
 all_goals
  rcases l with _ | _ | _ | l
  ·exact⟨⟨rfl,_,rfl⟩,⟨rfl,_,rfl⟩,rfl,_,rfl⟩
  ·exact⟨⟨rfl,_,rfl⟩,⟨rfl,_,rfl⟩,rfl,_,rfl⟩
  ·exact⟨⟨rfl,_,rfl⟩,⟨rfl,_,rfl⟩,rfl,_,rfl⟩
  ·omega
theorem S5{b ah:Nat}(h:(b=10∧ah=3)∨(b=16∧ah=3)∨(b=33∧ah=3)∨(b=39∧ah=3)∨b=45∧ah=2):Round b ah:=by
 rcases h with ⟨rfl,rfl⟩ | ⟨rfl,rfl⟩ | ⟨rfl,rfl⟩ | ⟨rfl,rfl⟩ | ⟨rfl,rfl⟩
 all_goals
  refine⟨fun l a7=>?_,rfl,fun d aC=>?_⟩
  ·rcases l with _ | _ | _ | l
   ·exact⟨rfl,_,rfl⟩
   ·exact⟨rfl,_,rfl⟩
   ·exact⟨rfl,_,rfl⟩
   ·omega
  ·rcases d with _ | _ | _ | d
   ·exact⟨rfl,rfl⟩
   ·exact⟨rfl,rfl⟩
   ·first | omega | exact⟨rfl,rfl⟩
   ·omega
def MQ(z:cu)(eb:List aU):cu:=eb.foldl (fun z a=>(tg z a).1) z
theorem awp(z:cu)(eb:List aU):tC z eb=MQ z eb:=by
 have e:(fun (z:cu) (a:aU)=>(lO z a).1)=fun z a=>(tg z a).1:=by funext z a; rw[Fa]
 unfold tC MQ;rw[e]
theorem zY(i:Nat):dI i=MQ (pe 3 0) (fE.take i):=awp _ _
theorem agH:LM (dI 22) 0=(3,true):=by rw[zY]; kernel_rfl
def G5(z:cu)(i:Int):Option (List (Int×fG)):=match fX z i with
 |.error _=>none
 |.ok m=>some m.bO
theorem agE:G5 (dI 50) 1=some [(1,gq fe)]:=by rw[zY]; kernel_rfl
theorem agF:qg (dI 50) 1=[⟨1,0,gq fe⟩]∧∃ m,fX (dI 50) 1=.ok m:=by
 have h:=agE;unfold G5 at h;unfold qg;cases dx:fX (dI 50) 1 with
 |error e=>rw[dx] at h; cases h
 |ok m=>
  rw[dx] at h;have h:m.bO=[(1,gq fe)]:=Option.some.inj h;refine⟨?_,m,rfl⟩;show uu m=_
  unfold uu;rw[h,NJ];rfl
theorem agD:v6 (dI 51) 1=1:=by rw[zY]; kernel_rfl
theorem agJ:Gw (dI 51) 1=4:=by rw[zY]; kernel_rfl
theorem agK:((dI 51).R[1]?).map (fun m=>m.V.fa)=some 1:=by rw[zY]; kernel_rfl
theorem agI:∀ m,fX (dI 51) 3≠.ok m:=by
 intro m h;have e:G5 (dI 51) 3=none:=by rw[zY]; kernel_rfl
 unfold G5 at e;rw[h] at e;cases e
section
variable {y w:World} {c bx:List bt}
theorem Jq(H:E y c w):L Pg 20 [] jb w fun r I=>r=fe∧E y c I:=by
 refine abA ?_;unfold PX;refine cj H fun a w H=>?_;refine fb (x:=xH) (N:=fe) CY 0 H rfl fun w H=>?_;refine gV (x:=fe) 0 H rfl ?_;exact⟨rfl,H.drop⟩
theorem axH{aw:Nat}(H:E y (cp aw (dI 1)::c) w):L Pg 17 [.pointer (some ⟨aw,0,none⟩),.int .i64 3,.int .i64 2] bi w fun r I=>r=true∧E y (cp aw (dI 22)::c) I:=
 Yo (i0:=1) (j:=2) (fun r=>10+6*r) (fun _=>3) (by omega) rfl (fun r Z=>by
  have:r=0∨r=1:=by omega
  rcases this with rfl | rfl<;>rfl) (S4 (.inl rfl)) (fun r Z=>S5 (by
  have:r=0∨r=1:=by omega
  rcases this with rfl | rfl<;>simp)) H
theorem axI{aw:Nat}(H:E y (cp aw (dI 24)::c) w):L Pg 17 [.pointer (some ⟨aw,0,none⟩),.int .i64 3,.int .i64 3] bi w fun r I=>r=true∧E y (cp aw (dI 50)::c) I:=by
 have h:=Yo (aw:=aw) (y:=y) (w:=w) (c:=c) (i0:=24) (j:=3) (fun r=>if r=3 then 50 else 33+6*r) (fun r=>if r=2 then 2 else 3) (by omega) rfl (fun r Z=>by
  have:r=0∨r=1∨r=2:=by omega
  rcases this with rfl | rfl | rfl<;>rfl) (S4 (.inr rfl)) (fun r Z=>S5 (by
  have:r=0∨r=1∨r=2:=by omega
  rcases this with rfl | rfl | rfl<;>simp)) H
 exact h
theorem aeR{P:fP}{aw n f k:Nat}{z:cu}{K:bN}{i:Int}(g:cL n f k z K)(al:k≤99)(H:E y (@cp P aw z::c) w) :
  L Pg 16 [.pointer (some ⟨aw,0,none⟩),.int .i64 i] (bJ (D .i64) (D .i64)) w fun r I=>r=(rY z i).2∧E y (@cp P aw (rY z i).1::c) I:=Sp g al H
theorem Jh{P:fP}{aw n f k:Nat}{z:cu}{K:bN}{i:Int}(g:cL n f k z K)(H:E y (@cp P aw z::c) w) :
  L Pg 24 [.pointer (some ⟨aw,0,none⟩),.int .i64 i] (D .i64) w fun r I=>r=v6 z i∧E y (@cp P aw z::c) I:=aeg g H
theorem awx{P:fP}{aw n f k:Nat}{z:cu}{K:bN}{i:Int}(g:cL n f k z K)(H:E y (@cp P aw z::c) w) :
  L Pg 26 [.pointer (some ⟨aw,0,none⟩),.int .i64 i] (D .i64) w fun r I=>r=Gw z i∧E y (@cp P aw z::c) I:=awv g H
theorem at6{P:fP}{aw:Nat}{z:cu}(lU:z.cq.c.length≤1000)(ax:∀ t∈z.cq.c,t.w.c.length≤1000)(H:E y (@cp P aw z::c) w) :
  L Pg 27 [.pointer (some ⟨aw,0,none⟩)] O w fun r I=>r.len=z.cq.c.length∧E y (@cp P aw z::c) I:=FY lU ax H
theorem S3{P:fP}{aw i:Nat}{l:Int}{my:Int×Int}{n:Nat}(h:fE[i]?=some (iM 0 l 0))(Z:o0[i]?=some (my,n,true))(H:E y (@cp P aw (dI i)::c) w):L Pg 16 [.pointer (some ⟨aw,0,none⟩),.int .i64 l] (bJ (D .i64) (D .i64)) w fun r I=>r=my∧E y (@cp P aw (dI (i+1))::c) I:=by
 obtain⟨k,K,al,g⟩:=ux i;have e:rY (dI i) l=_:=(uy h Z).1;have:=aeR (i:=l) g (by omega) H;rw[e] at this;exact this
theorem S6{aw i:Nat}{l:Int}{my:Int×Int}{n:Nat}(h:fE[i]?=some (Ja l))(Z:o0[i]?=some (my,n,true))(H:E y (cp aw (dI i)::c) w):L Pg 19 [.pointer (some ⟨aw,0,none⟩),.int .i64 l,jb.enc fe] (bJ (D .i64) (D .i64)) w fun r I=>r=my∧E y (cp aw (dI (i+1))::c) I:=by
 obtain⟨k,K,al,g⟩:=ux i;have e:vD (dI i) l fe=_:=(uy h Z).1;have:=YV (i:=l) (x:=fe) g (by omega) ⟨by decide,by decide,by decide,by decide,by decide⟩ H;rw[e] at this;exact this
theorem R7(H:E y c w):L Pg 7 [] bi w fun r I=>r=true∧E y c I:=by
 refine acS ?_;unfold IK;refine aE (Mf (n:=3) zZ (by omega) (by omega) H) ?_;rintro⟨k8,bs⟩ w ⟨B,aw,J,H⟩;simp only at B J;subst B; subst J;rw[if_neg (by simp)];have H:E y (cp aw (dI 0)::c) w:=H;refine aE (S3 (i:=0) rfl rfl H) ?_;rintro r w ⟨rfl,H⟩;rw[if_neg (by simp)];refine aE (axH H) ?_;rintro r w ⟨rfl,H⟩;unfold Bs;rw[if_neg (by simp)];obtain⟨k,K,al,g⟩:=ux 22;refine aE (atG g H) ?_;rintro r w ⟨rfl,H⟩;rw[agH];refine aE (Jq H) ?_;rintro r w ⟨rfl,H⟩;refine aE (S6 (i:=22) rfl rfl H) ?_;rintro r w ⟨rfl,H⟩;refine aE (Jq H) ?_;rintro r w ⟨rfl,H⟩;refine aE (S6 (i:=23) rfl rfl H) ?_;rintro r w ⟨rfl,H⟩;rw[if_neg (by simp)];refine aE (axI H) ?_;rintro r w ⟨rfl,H⟩;unfold Bt;rw[if_neg (by simp)];clear g al K k;obtain⟨k,K,al,g⟩:=ux 50;obtain⟨aia,aBJ,dx⟩:=agF;refine aE (Sr g (by omega) H) ?_;intro hX w H;rw[aia] at H;refine aE (DX g (H.front 1)) ?_;rintro dJ w (⟨e,h,_⟩ | ⟨m,af,aB,v,hm,rfl,Ub,H⟩)
 ·rw[h] at dx; cases dx
 have T8:∀ u,(qD qC af aB v).ok aB u→u=v:=fun u h=>h.2 rfl;have x9:∀ R,(qD qC af aB v).rows R→R[1]?=some aB:=fun R h=>by rw[h.2]; exact Ub
 generalize qD qC af aB v=P at H T8 x9;refine aE (S3 (i:=50) rfl rfl H) ?_;rintro r w ⟨rfl,H⟩;clear g al K k;obtain⟨k,K,al,g⟩:=ux 51;refine dH H fun w H=>?_;have aj:=ho (H.front 1);rw[if_pos (by rw[aj]; simp)];obtain⟨a,ag⟩:=ih (i:=(0:Int)) (H.front 1) (by omega) (by simp);have rd:∀ {w:World} {mq:List bt},E y (row fH 53 3 hX [⟨1,0,gq fe⟩]::mq) w→mb w a (fH.cells ⟨1,0,gq fe⟩):=fun H=>lz (fun _=>rfl) ag rfl H;refine aQ a ag ?_;refine aQ ⟨1,0,gq fe⟩ (rd (H.front 1)) ?_;refine aE (Jq H) ?_;rintro r w ⟨rfl,H⟩;refine⟨rd (H.front 1),?_⟩;refine aE (Shard.C1 ⟨by decide,by decide,by decide,by decide,by decide⟩ H) ?_;intro en w H;refine⟨rd (H.front 2),?_⟩;have aA:∀ {w:World} {mq:List bt},E y (row (D .u8) 5 1 en (ai (gq fe))::mq) w→gi en w (gq fe):=fun H=>xq H;refine aQ (gq fe) (aA H) ?_;rw[if_pos (by simp[eA.iQ])];refine aE (Jh g (H.front 1)) ?_;rintro r w ⟨rfl,H⟩;rw[agD]
 refine⟨rd (H.front 2),aA (H.front 1),?_⟩;rw[if_pos (by simp)];have Ac:=agK;cases pE:(dI 51).R[1]? with
 |none=>rw[pE] at Ac; cases Ac
 |some eR=>
  rw[pE] at Ac;have Ac:eR.V.fa=1:=Option.some.inj Ac;obtain⟨j,H,back⟩:=azy x9 T8 pE H;refine aE (Vault.azm H) ?_;rintro r w ⟨rfl,H⟩;have H:=back _ H;rw[Ac];refine⟨rd (H.front 2),aA (H.front 1),?_⟩;rw[if_pos (by simp)];refine aE (awx g H) ?_;rintro r w ⟨rfl,H⟩;rw[agJ];refine⟨rd (H.front 2),aA (H.front 1),?_⟩;rw[if_pos (by simp)];refine aE (DX g H) ?_;rintro r w (⟨e,_,rfl,H⟩ | ⟨m,_,_,_,hm,_⟩)
  ·refine⟨rd (H.front 2),aA (H.front 1),?_⟩;rw[if_pos (by simp)];obtain⟨_,cD,dC⟩:=uy (i:=50) (a:=iM 0 1 0) rfl rfl;refine aE (at6 g.cap (fun t ak=>Nat.le_of_ble_eq_true (List.all_eq_true.1 dC t ak)) H) ?_;rintro r w ⟨Z,H⟩;refine⟨rd (H.front 2),aA (H.front 1),?_⟩;unfold gy;refine⟨by rw[Z,cD]; simp,H.drop.drop.drop⟩
  ·exact absurd hm (agI m)
end
def HF(p:aU)(aG:b9):Prop:=p.x.iu.len≤p.x.iu.cap∧dL (D .i64) p.x.iu p.aa aG
def vS(s:X)(eb:List aU)(aG:b9):Prop:=dL lH s (eb.map (·.x)) aG∧∀ p∈eb,HF p aG
theorem vS.mono{s:X}{eb:List aU}{aG g3:b9}(h:b9.le aG g3):vS s eb aG→vS s eb g3:=fun ⟨B,J⟩=>⟨dL.mono h B,fun p aH=>⟨(J p aH).1,dL.mono h (J p aH).2⟩⟩
theorem VE{P:rN→aU→Prop}:∀ {xs:List rN},(∀ x∈xs,∃ N:aU,N.x=x∧P x N)→∃ dy:List aU,dy.map (·.x)=xs∧∀ p∈dy,P p.x p
 |[],_=>⟨[],rfl,fun p h=>by cases h⟩
 |x::xs,h=>by
  obtain⟨N,aJ,aH⟩:=h x (List.mem_cons_self ..);obtain⟨dy,B,J⟩:=VE fun x F=>h x (List.mem_cons_of_mem _ F);refine⟨N::dy,by rw[List.map_cons,B,aJ],fun p a5=>?_⟩;rcases List.mem_cons.1 a5 with rfl | a5
  ·rw[aJ]; exact aH
  ·exact J p a5
theorem ad1{y:World}{x:rN}(g:IU y x):∃ N:aU,N.x=x∧ir x.dU∧x.iu.len≤x.iu.cap∧dL (D .i64) x.iu N.aa fun b=>y.heap[b]?:=by
 obtain⟨_,_,_,⟨d1,d2,d3,d4,d5,_⟩,⟨bP,hs,_,bs⟩⟩:=g;exact⟨⟨x,hs⟩,rfl,⟨d1,d2,d3,d4,d5⟩,bP.1,bs⟩
theorem R1{y:World}{s:X}(g:zv y s):∃ eb,(∀ a∈eb,ir a.x.dU)∧vS s eb fun b=>y.heap[b]?:=by
 obtain⟨_,xs,B,J⟩:=g;obtain⟨dy,e,aH⟩:=VE (P:=fun (x:rN) (N:aU)=>ir x.dU∧x.iu.len≤x.iu.cap∧dL (D .i64) x.iu N.aa fun b=>y.heap[b]?) (xs:=xs) fun x F=>ad1 (B x F);exact⟨dy,fun a ag=>(aH a ag).1,by rw[e]; exact J,fun p a5=>(aH p a5).2⟩
theorem FQ(y:World):cn [old y] fun aG=>b9.le (fun b=>y.heap[b]?) aG:=cn.here (m:=fun h k=>b9.le_trans k h)
theorem Vg{y:World}{c:List bt}{s:X}{eb:List aU}(k:cn c fun aG=>b9.le (fun b=>y.heap[b]?) aG)(h:vS s eb fun b=>y.heap[b]?):cn c (vS s eb):=k.imp fun _ b6=>vS.mono b6 h
theorem Vh{c:List bt}{s:X}{eb:List aU}(k:cn c (vS s eb)){l:Nat}(h:l<eb.length):cn c (HF (eb[l]'h)):=k.imp fun _ b6=>b6.2 _ (List.getElem_mem _)
section
variable {y w:World} {c bx:List bt} {n f k:Nat} {z:cu} {K:bN}
theorem y8{n:Int}(H:E y c w):L Pg 5 [.int .i64 n] (D .i64) w fun r I=>∃ m:Nat,r=m∧1≤m∧m≤5∧E y c I:=by
 refine acx ?_;unfold QX;have aA:0≤bits .and .i64 n 1023:=by
  simp only[bits,BitVec.toNat_and];have e:(BitVec.ofInt IntKind.i64.bits 1023).toNat=1023:=by rfl
  have h:=Nat.and_le_right (n:=(BitVec.ofInt IntKind.i64.bits n).toNat) (m:=(BitVec.ofInt IntKind.i64.bits 1023).toNat);rw[e] at h ⊢;rw[wrap_i64 (by omega) (by omega)];omega
 have B:=Int.tmod_nonneg (5:Int) aA;have J:=Int.tmod_lt_of_pos (bits .and .i64 n 1023) (show (0:Int)<5 by omega);refine⟨(1+Int.tmod (bits .and .i64 n 1023) 5).toNat,?_,by omega,by omega,H⟩;rw[wrap_i64 (by omega) (by omega)];omega
theorem Ta{aw:Nat}{p:aU}(g:cL n f k z K)(al:k≤98)(Z:iE f)(o7:f<18446744073709551616)(F:ir p.x.dU)(aH:cn c (HF p))(H:E y (cp aw z::c) w){aa:rN→Int×Int→World→Prop}
  (b7:∀ s2 r w,E y (cp aw (lO z (JI p)).1::c) w→aa { p.x with iu:=s2 } r w) :
  L Pg 9 [lH.enc p.x] lH w fun r w=>L Pg 8 [.pointer (some ⟨aw,0,none⟩),lH.enc r] (bJ (D .i64) (D .i64)) w fun e w=>aa r e w:=by
 have lU:p.x.iu.len≤p.x.iu.cap:=by
  obtain⟨aG,_,h⟩:=cn.q7 aH H.drop;exact h.1
 refine aE (ag4 lU (aH.tail.imp fun _ h=>h.2) H) ?_;rintro r w ⟨s2,rfl,H⟩;have H:E y (cp aw z::ro (D .i64) s2 (p.aa.take 4)::c) w:=H.front 1;have l2:c0 1 (ro (D .i64) s2 (p.aa.take 4)::c) (D .i64) s2 (p.aa.take 4):=c0.ro (fun _=>rfl) (cn.here (m:=dL.mono));refine aE (afA (x:={ p.x with iu:=s2 }) g al Z o7 F l2 (by rw[List.length_take]; omega) H) ?_;rintro r w ⟨_,H⟩;exact b7 s2 r w ((H.front 1).drop)
end
theorem mC{S:Type}(f:Nat→S)(k:Nat)(v:S):mB f k v k=v:=by simp[mB]
theorem lC{S:Type}{f:Nat→S}{k l:Nat}{v:S}(h:l≠k):mB f k v l=f l:=by simp[mB,h]
def vX(K:bN)(aG:Nat→Bool)(V:Nat→fG):Prop:=∀ s,aG s=true→K.hF (s:Int)=true∧K.lL (s:Int)=V s
theorem vX.le{K bj:bN}{aG:Nat→Bool}{V:Nat→fG}(h:vX K aG V)(e:gE K bj):vX bj aG V:=fun s aF=>by
 obtain⟨B,J⟩:=h s aF;obtain⟨au,a8⟩:=e.hF _ B;exact⟨au,a8.trans J⟩
end dO
namespace dO
open ba Wire Disk Ballot
open Vault (cf Fit dF mD iH DY N4 J_ N6 NX Co)
open Store (w2 YQ)
open Num (iE)
open Shard (dU jb ir jx gq YE TQ)
section
variable {y w:World} {c bx:List bt} {n f k:Nat} {z:cu} {K:bN}
theorem azz{P:fP}{aw i l aB nc u v:Nat}{m f_:bn}(Kg:i≠l)(T_:∀ R,P.rows R→R[i]?=some aB)(o7:∀ R,P.rows R→R[l]?=some nc)(ajX:∀ aL,P.ok aB aL→aL=u)(KM:∀ aL,P.ok nc aL→aL=v)(pE:z.R[i]?=some m)(qq:z.R[l]?=some f_)(H:E y (@cp P aw z::c) w) :
  ∃ j:List bt,E y (dF u m.V::dF v f_.V::(j++c)) w∧∀ I,E y (dF u m.V::dF v f_.V::(j++c)) I→E y (@cp P aw z::c) I:=by
 obtain⟨p,ap,H⟩:=ln H;obtain⟨L6,a5⟩:=Cf ap pE;obtain⟨Mb,mn⟩:=Cf ap qq;have aT:L6=aB:=by
  have B:=T_ _ ap.r;rw[List.getElem?_map,a5] at B;exact Option.some.inj B
 have a0:Mb=nc:=by
  have B:=o7 _ ap.r;rw[List.getElem?_map,mn] at B;exact Option.some.inj B
 subst aT; subst a0;have ti:∃ CR:Nat,(p.Q.eraseIdx i)[CR]?=some (Mb,f_):=by
  by_cases o:l<i
  ·exact⟨l,by rw[List.getElem?_eraseIdx,if_pos o]; exact mn⟩
  ·exact⟨l-1,by rw[List.getElem?_eraseIdx,if_neg (by omega),show l-1+1=l from by omega]; exact mn⟩
 obtain⟨CR,ti⟩:=ti;obtain⟨Z5,Z6,ti,_⟩:=AR ti;obtain⟨q,air,H⟩:=hG (m9 a5 H);obtain⟨aH,H⟩:=y_ (H.front 3);have ax:=ajX _ aH;subst ax;have H:E y (de ((p.Q.eraseIdx i).map hV)::_) w:=H.front 11;rw[ti] at H;have H:=xM H;obtain⟨l2,ais,H⟩:=hG H;obtain⟨T5,H⟩:=y_ (H.front 3);have akw:=KM _ T5;subst akw;refine⟨[_,_,_,_,_,_,_,_,_,_,_,_,_,_,_,_,_,_,_,_,_],H.front 10,fun I H=>?_⟩;have H:=H.front 1;have H:=fl ais ((w9 T5 H).ord [2,3,4,0,5,6,7,8,9]);have H:E y (hV (Mb,f_)::de ((Z5++Z6).map hV)::_) I:=H.ord [0,2];have H:=xL (f:=hV) H;rw[← ti] at H;obtain H:=w9 aH (H.front 1);exact xW ap a5 (fl air (H.ord [2,3,4,0,5,6,7,8,9,10,11,1]))
theorem ad6{yn:Int}{x N:Nat}{v:cf}{is:Int→World→Prop}{j:Bool→World→Prop}(aD:Fit v)(H:E y (dF x v::dF N v::c) w)(al:∀ w,E y (dF x v::dF N v::c) w→is (IntKind.i64.wrap (yn+1)) w) :
  vT yn (some ⟨x,0,none⟩) (some ⟨N,0,none⟩) false w is j:=by
 unfold vT;rw[if_neg (by simp)];obtain⟨p,H⟩:=mD H;refine b2 rfl ?_;refine aQ (⟨some ⟨p.s,0,none⟩⟩:kX) (cW b5 H rfl rfl) ?_;refine aE (DY (H.front 1)) ?_;rintro r w ⟨rfl,H⟩;have H:=iH (p:=p) (H.ord [1]);refine aE (N6 aD H) ?_;rintro fT w ⟨aj4,H⟩;obtain⟨q,H⟩:=mD (H.front 2);refine b2 rfl ?_;refine aQ (⟨some ⟨q.s,0,none⟩⟩:kX) (cW b5 H rfl rfl) ?_;refine aE (DY (H.front 1)) ?_;rintro r w ⟨rfl,H⟩;have H:=iH (p:=q) (H.ord [1]);refine aE (N6 aD H) ?_;rintro aP w ⟨KS,H⟩;refine dH H fun w H=>?_;obtain⟨p,H⟩:=mD (H.front 3);obtain⟨q,H⟩:=mD (H.front 6);refine aE (NX (H.front 5)) ?_;rintro r w ⟨rfl,H⟩;refine aE (NX (H.front 1)) ?_;rintro r w ⟨rfl,H⟩;rw[if_neg (by simp)];refine aQ (⟨some ⟨p.s,0,none⟩⟩:kX) (cW b5 (H.front 1) rfl rfl) ?_;refine aQ (⟨some ⟨q.s,0,none⟩⟩:kX) (cW b5 H rfl rfl) ?_;refine aE (DY (H.front 6)) ?_;rintro r w ⟨rfl,H⟩;refine⟨cW b5 (H.front 1) rfl rfl,?_⟩
 refine aE (DY (H.front 3)) ?_;rintro r w ⟨rfl,H⟩;refine⟨cW b5 (H.front 3) rfl rfl,?_⟩;rw[if_neg (by simp)];refine aQ (⟨some ⟨p.s,0,none⟩⟩:kX) (cW b5 (H.front 3) rfl rfl) ?_;refine aQ (⟨some ⟨q.s,0,none⟩⟩:kX) (cW b5 (H.front 2) rfl rfl) ?_;refine aE (N4 (H.front 1)) ?_;rintro r w ⟨rfl,H⟩;refine⟨cW b5 (H.front 3) rfl rfl,cW b5 (H.front 2) rfl rfl,cW b5 (H.front 2) rfl rfl,?_⟩;refine aE (N4 (H.front 1)) ?_;rintro r w ⟨rfl,H⟩;refine⟨cW b5 (H.front 3) rfl rfl,cW b5 (H.front 2) rfl rfl,cW b5 (H.front 3) rfl rfl,?_⟩;rw[if_neg (by simp)];refine aE (J_ aD (H.ord [3,7])) ?_;intro k8 w H;refine⟨cW b5 (H.front 1) rfl rfl,cW b5 (H.front 5) rfl rfl,cW b5 (H.front 1) rfl rfl,cW b5 (H.front 5) rfl rfl,?_⟩;refine aE (J_ aD (H.ord [5,6])) ?_;intro bs w H;refine⟨cW b5 (H.front 4) rfl rfl,cW b5 (H.front 1) rfl rfl,cW b5 (H.front 4) rfl rfl,cW b5 (H.front 1) rfl rfl,?_⟩;have aAV:=TQ aD
 refine aE (YE (c0.row (fun _=>rfl) 3 rfl) (c0.row (fun _=>rfl) 0 rfl) (by omega) H) ?_;rintro r w ⟨rfl,H⟩;refine⟨cW b5 (H.front 4) rfl rfl,cW b5 (H.front 1) rfl rfl,cW b5 (H.front 4) rfl rfl,cW b5 (H.front 1) rfl rfl,?_⟩;rw[if_neg (by simp[aj4,KS])];refine aE (Store.ax9 (a:=w2 v.ad v.ad.closed) (b:=w2 v.ad v.ad.closed) ?_ (c0.row (fun _=>rfl) 13 rfl) (c0.row (fun _=>rfl) 12 rfl) H) ?_
 ·have:=YQ (t:=v.ad.closed) aD.eF;omega
 rintro r w ⟨Z,H⟩;have Z:r=true:=Z.2 rfl;subst Z;refine⟨cW b5 (H.front 4) rfl rfl,cW b5 (H.front 1) rfl rfl,cW b5 (H.front 4) rfl rfl,cW b5 (H.front 1) rfl rfl,?_⟩;have H:=iH (p:=p) (H.ord [4,7,5,10,11]);have H:=iH (p:=q) (H.ord [2,5,3,6,7]);have H:=(H.ord [2,3,4,5]).drop.drop.drop.drop;unfold oQ zq;rw[if_neg (by simp)];exact al _ (H.front 1)
theorem ad7{aw:Nat}(g:cL n f k z K)(H:E y (cp aw z::c) w) :
  L Pg 11 [.pointer (some ⟨aw,0,none⟩),.int .i64 (n:Int)] bi w fun r I=>r=true∧E y (cp aw z::c) I:=by
 have aO:=g.je;refine aap ?_;unfold HL;refine hU (fun i w=>∃ l:Nat,i=(l:Int)∧l≤n∧E y (cp aw z::c) w) (fun i=>((n:Int)-i).toNat) ⟨0,rfl,by omega,H⟩ ?_;clear H;rintro i w ⟨i,rfl,aq,H⟩ aa b7;unfold HO;split
 ·rename_i o;have o:i<n:=by simpa using o
  have B1:IntKind.i64.wrap ((i:Int)+1)=((i+1:Nat):Int):=by rw[wrap_i64 (by omega) (by omega)]; omega
  refine hU (fun aL w=>∃ l:Nat,aL=(l:Int)∧l≤i∧E y (cp aw z::c) w) (fun aL=>((i:Int)-aL).toNat) ⟨0,rfl,by omega,H⟩ ?_;clear H;rintro aL w ⟨l,rfl,a7,H⟩ tT ql;unfold HP;split
  ·rename_i bP;have bP:l<i:=by simpa using bP
   have Jy:IntKind.i64.wrap ((l:Int)+1)=((l+1:Nat):Int):=by rw[wrap_i64 (by omega) (by omega)]; omega
   have next:∀ {P:fP} {w:World},E y (@cp P aw z::c) w→tT (IntKind.i64.wrap ((l:Int)+1)) w:=fun H=>by
    rw[Jy];exact ql _ _ ⟨l+1,rfl,by omega,av4 H⟩ (by omega)
   have skip:∀ {P:fP} {a b:Option Addr} {w:World} {j:Bool→World→Prop},E y (@cp P aw z::c) w→vT (l:Int) a b true w tT j:=fun H=>by
    unfold vT zq;rw[if_pos (by rfl)];exact next H
   refine aE (DX g H) ?_;rintro dt w adf;rcases adf with ⟨e,_,rfl,H⟩ | ⟨eR,axT,aB,ct,pE,rfl,aj8,H⟩
   ·refine aE (DX g H) ?_;rintro dZ w (⟨a0,_,rfl,H⟩ | ⟨_,_,_,_,_,rfl,_,H⟩)
    ·rw[if_pos (by simp)]; exact skip H
    ·rw[if_pos (by simp)]; exact skip H
   ·refine aE (DX g H) ?_;rintro dZ w (⟨a0,_,rfl,H⟩ | ⟨f_,axU,nc,eo,qq,rfl,aj9,H⟩)
    ·rw[if_pos (by simp)]; exact skip H
    ·rw[if_neg (by simp)];refine aE (Jh g H) ?_;rintro r w ⟨rfl,H⟩;refine aE (Jh g H) ?_;rintro r w ⟨rfl,H⟩;have dM:v6 z (i:Int)=eR.dh:=by unfold v6; rw[pE]
     have aY:v6 z (l:Int)=f_.dh:=by unfold v6; rw[qq]
     rw[dM,aY];by_cases ce:eR.dh=f_.dh
     ·have e:(eR.dh != f_.dh)=false:=by simp[ce]
      rw[e];obtain⟨ax,jG⟩:=g.same pE qq ce;obtain⟨Us,to,_,ahz,_⟩:=EV pE;obtain⟨CR,aAY,_,TC,_⟩:=EV qq;have:Us=i:=by omega
      subst this;have:CR=l:=by omega
      subst this;obtain⟨uj,H,back⟩:=azz (P:=qD (qD qC axT aB ct) axU nc eo) (i:=Us) (l:=CR) (aB:=aB) (nc:=nc) (u:=ct) (v:=eo) (by omega) (fun R h=>by rw[h.1.2]; exact aj8) (fun R h=>by rw[h.2]; exact aj9) (fun aL h=>h.1.2 rfl) (fun aL h=>h.2 rfl) ahz TC H;rw[← ax] at H back;exact ad6 jG H fun w H=>next (back w H)
     ·have e:(eR.dh != f_.dh)=true:=by simpa using ce
      rw[e];exact skip H
  ·rw[B1];exact b7 _ _ ⟨i+1,rfl,by omega,H⟩ (by omega)
 ·exact⟨rfl,H⟩
end
end dO
namespace dO
open ba Wire Disk Ballot
open Num (iE)
theorem MF:iE 4576918229304087675:=of_decide_eq_true (by kernel_rfl)
theorem aya(y:World)(C_:Int)(s:X)(Ce:qT y C_)(cD:zv y s) :
  L Pg 4 [.int .i64 C_,O.enc s] bi y fun r uh=>r=true∧RowKit.Below y.heap.size y uh:=by
 obtain⟨eb,wM,kx⟩:=R1 cD;have fj:=Vg (FQ y) kx;have H:=E.start y;have done:∀ {r:Bool} {w:World} {R:List bt},r=true→E y (R++[old y]) w→r=true∧RowKit.Below y.heap.size y w:=fun {r w R} Z H=>⟨Z,cn.below ((FQ y).k0 R) H⟩
 refine acn ?_;unfold QM;refine aE (y8 H) ?_;rintro r w ⟨n,rfl,o6,T1,H⟩;refine aE (Mf (n:=(n:Int)) MF (by omega) (by omega) H) ?_;rintro⟨k8,bs⟩ w ⟨B,aw,J,H⟩;simp only at B J;subst B; subst J;rw[Int.toNat_natCast] at H;refine aE (R7 H) ?_;rintro r w ⟨rfl,H⟩;rw[if_neg (by simp)];have ae:=JT (n:=n) (f:=4576918229304087675) (by omega) (Vault.Fit.new MF);have yp:cn [old y] (dL lH s (eb.map (·.x))):=fj.imp fun _ h=>h.1;have aF:=yp.len H.drop;rw[List.length_map] at aF;refine hU (fun i w=>∃ (l:Nat) (z:cu) (K:bN),i=(l:Int)∧l≤eb.length∧l≤90∧cL n 4576918229304087675 l z K∧E y (cp aw z::[old y]) w) (fun i=>((90:Int)-i).toNat) ⟨0,_,_,rfl,by omega,by omega,ae,H⟩ ?_;clear H ae;rintro i w ⟨l,z,K,rfl,a7,aiy,ae,H⟩ aa Ci;unfold ID;rw[aF];split
 ·rename_i o3;have o3:l<eb.length∧l<90:=by simp at o3; omega
  have aT:IntKind.i64.wrap ((l:Int)+1)=((l+1:Nat):Int):=by rw[wrap_i64 (by omega) (by omega)]; omega
  obtain⟨xK,ag⟩:=yp.tail.jI (ao:=10) (i:=(l:Int)) H (by omega) (by rw[List.length_map]; omega);have F:(eb.map (·.x))[((l:Int)).toNat]?=some (eb[l]'o3.1).x:=by rw[Int.toNat_natCast,List.getElem?_map,List.getElem?_eq_getElem o3.1]; rfl
  have aH:=Vh fj o3.1;have dW:=wM _ (List.getElem_mem o3.1);generalize eb[l]'o3.1=p at F aH dW;refine aQ xK ag ?_;refine aQ p.x (yp.tail.rd (fun _=>rfl) ag F H) ?_;refine Ta ae (by omega) MF (by omega) dW aH H fun s2 r w H=>?_;obtain⟨bj,k6,u4⟩:=ae.do (a:=JI p) (by omega) dW;refine aE (ad7 u4 H) ?_;rintro r w ⟨rfl,H⟩;rw[if_neg (by simp),aT];exact Ci _ _ ⟨l+1,_,bj,rfl,by omega,by omega,u4,H⟩ (by omega)
 ·exact done (R:=[_]) rfl H
end dO
section
open ba
theorem azN(y:World)(n:Int)(s:X)(Ce:qT y n)(cD:zv y s) :
  L Pg 4 [.int .i64 n,O.enc s] bi y fun r uh=>r=true∧RowKit.Below y.heap.size y uh:=dO.aya y n s Ce cD
end
end Go.Proofs.YtnmmjkjkkmbhiaaGreat
