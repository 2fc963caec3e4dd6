/- Own texts of this claim, part 11: short, merged. -/
import Derived.Test.YthaobmpdjcoheaaGreatRows
import Derived.OpenShut
import Derived.ShutString
import Derived.ChangeOld
import Derived.Laws.Cover2
import Derived.Test.YthaobmpdjcoheaaGreatZ2
import Derived.Test.YthaobmpdjcoheaaGreatZ3
import Derived.Test.YthaobmpdjcoheaaGreatZ4
import Derived.Test.YthaobmpdjcoheaaGreatZ5
import Derived.Test.YthaobmpdjcoheaaGreatZ6
import Derived.Test.YthaobmpdjcoheaaGreatZ7
import Derived.Test.YthaobmpdjcoheaaGreatZ8
import Derived.Test.YthaobmpdjcoheaaGreatZ9
import Derived.Test.YthaobmpdjcoheaaGreatZ10
set_option exponentiation.threshold 4000
set_option maxRecDepth 100000
set_option maxHeartbeats 40000000
set_option linter.defProp false
set_option linter.unusedVariables false
set_option linter.unusedSimpArgs false
namespace Go.Proofs.YthaobmpdjcoheaaGreat
namespace Wire
open bb
abbrev e_:=mP
def isNaN(l:Nat):Bool:=decide (18437736874454810624<2*l%18446744073709551616)
def mX(l:Nat):Nat:=if isNaN l then 9221120237041090561 else l
theorem anS(l:Nat):mX (mX l)=mX l:=by
 unfold mX;cases h:isNaN l
 ·simp[h]
 ·have:isNaN 9221120237041090561=true:=by decide
  simp[this]
theorem Y3{l:Nat}(h:l<18446744073709551616):mX l<18446744073709551616:=by unfold mX; split<;>omega
theorem zH:mX 0=0:=by decide
def num(n:Nat):List UInt8:=if n<128 then [UInt8.ofNat n] else UInt8.ofNat (128+n%128)::num (n/128)
termination_by n
decreasing_by omega
theorem KS{n:Nat}(h:n<128):num n=[UInt8.ofNat n]:=by rw[num,if_pos h]
theorem KR{n:Nat}(h:128≤n):num n=UInt8.ofNat (128+n%128)::num (n/128):=by rw[num,if_neg (by omega)]
def rdNum:List UInt8→Nat→Nat→Except Int (Nat×List UInt8)
 |[],_,_=>.error 22
 |c::av,k,acc=>
  if (k=9∧1<c.toNat)∨(0<k∧c.toNat=0) then .error 23
  else if c.toNat<128 then .ok (acc+c.toNat%128*128^k,av)
  else rdNum av (k+1) (acc+c.toNat%128*128^k)
theorem Az{n:Nat}(h:n<256):(UInt8.ofNat n).toNat=n:=by simp; omega
theorem acs{k:Nat}(h:k≤9):128^k=1∨128^k=128∨128^k=16384∨128^k=2097152∨128^k=268435456∨128^k=34359738368∨128^k=4398046511104∨128^k=562949953421312∨128^k=72057594037927936∨k=9∧128^k=9223372036854775808:=by
 have:k=0∨k=1∨k=2∨k=3∨k=4∨k=5∨k=6∨k=7∨k=8∨k=9:=by omega
 rcases this with rfl | rfl | rfl | rfl | rfl | rfl | rfl | rfl | rfl | rfl<;>simp
theorem aEb{k:Nat}(h:k≤8):128^k=1∨128^k=128∨128^k=16384∨128^k=2097152∨128^k=268435456∨128^k=34359738368∨128^k=4398046511104∨128^k=562949953421312∨128^k=72057594037927936:=by
 have:k=0∨k=1∨k=2∨k=3∨k=4∨k=5∨k=6∨k=7∨k=8:=by omega
 rcases this with rfl | rfl | rfl | rfl | rfl | rfl | rfl | rfl | rfl<;>simp
theorem rl{n k:Nat}(aq:k≤9)(aK:n*128^k<18446744073709551616)(h:k=9):n<2:=by
 subst h;simp at aK; omega
theorem aFY:∀ (n k acc:Nat) (rest:List UInt8),k≤9→n*128^k<18446744073709551616→(1≤n∨k=0)→rdNum (num n++rest) k acc=.ok (acc+n*128^k,rest):=by
 intro n;induction n using Nat.strongRecOn with
 |_ n b_=>
  intro k acc rest aq aK ah;by_cases h:n<128
  ·rw[KS h];have aR:(UInt8.ofNat n).toNat=n:=Az (by omega);simp only[List.cons_append,List.nil_append,rdNum,aR];rw[if_neg (by rintro (⟨I,O⟩ | ⟨I,O⟩); (have:=rl aq aK I; omega); (omega)),if_pos h,Nat.mod_eq_of_lt h]
  ·have tK:k≤8:=by
    rcases Nat.lt_or_ge 8 k with sJ | sJ
    ·have:=rl aq aK (by omega); omega
    ·exact sJ
   rw[KR (by omega)];have aR:(UInt8.ofNat (128+n%128)).toNat=128+n%128:=Az (by omega);simp only[List.cons_append,rdNum,aR];rw[if_neg (by omega),if_neg (by omega)];have aF:(128:Nat)^(k+1)=128^k*128:=Nat.pow_succ ..;have hm:n*128^k=n/128*128^(k+1)+n%128*128^k:=by
    rw[aF,Nat.mul_comm (128^k) 128,← Nat.mul_assoc,← Nat.add_mul];congr 1; omega
   have e:(128+n%128)%128=n%128:=by omega
   rw[b_ (n/128) (by omega) (k+1) _ rest (by omega) (by omega) (by omega),e];congr 2; omega
theorem fit{k y c:Nat}(h:k≤8)(hm:y*(128^k*128)<18446744073709551616)(U:c<128^k*128):y*(128^k*128)+c<18446744073709551616:=by
 have ak:∃ K,K*(128^k*128)=18446744073709551616:=by
  refine⟨18446744073709551616/(128^k*128),?_⟩;rcases aEb h with e | e | e | e | e | e | e | e | e<;>rw[e]
 obtain⟨K,ak⟩:=ak;rw[← ak] at hm ⊢;generalize 128^k*128=p at *;have I:y<K:=Nat.lt_of_mul_lt_mul_right hm;have O:(y+1)*p≤K*p:=Nat.mul_le_mul_right _ I;rw[Nat.add_mul,Nat.one_mul] at O;omega
theorem ad7:∀ (av:List UInt8) (k acc n:Nat) (rest:List UInt8),k≤9→rdNum av k acc=.ok (n,rest)→∃ y,n=acc+y*128^k∧y*128^k<18446744073709551616∧(1≤y∨k=0)∧av=num y++rest
 |[],k,acc,n,rest,aq,h=>by simp[rdNum] at h
 |c::av,k,acc,n,rest,aq,h=>by
  simp only[rdNum] at h;split at h
  ·cases h
  ·rename_i I;have U:c.toNat<256:=c.toNat_lt;split at h
   ·rename_i O;simp only[Except.ok.injEq,Prod.mk.injEq] at h;obtain⟨rfl,rfl⟩:=h;refine⟨c.toNat,by rw[Nat.mod_eq_of_lt O],?_,by omega,?_⟩
    ·rcases acs aq with e | e | e | e | e | e | e | e | e | ⟨Gn,e⟩<;>rw[e]<;>omega
    ·rw[KS O]; simp
   ·rename_i O;have tK:k≤8:=by omega
    obtain⟨y,aQ,a6,c_,mW⟩:=ad7 av (k+1) _ n rest (by omega) h;have aF:(128:Nat)^(k+1)=128^k*128:=Nat.pow_succ ..;have hm:(y*128+c.toNat%128)*128^k=y*128^(k+1)+c.toNat%128*128^k:=by
     rw[aF,Nat.mul_comm (128^k) 128,← Nat.mul_assoc,← Nat.add_mul]
    refine⟨y*128+c.toNat%128,by rw[hm,aQ]; omega,?_,by omega,?_⟩
    ·rw[hm,aF];rw[aF] at a6;exact fit tK a6 (by rw[Nat.mul_comm]; exact Nat.mul_lt_mul_of_pos_left (by omega) (Nat.pow_pos (by omega)))
    ·rw[KR (by omega),mW];have gC:128+(y*128+c.toNat%128)%128=c.toNat:=by omega
     have f_:(y*128+c.toNat%128)/128=y:=by omega
     rw[gC,f_]; simp
theorem aC4:∀ (n k:Nat),k≤9→n*128^k<18446744073709551616→(num n).length+k≤10:=by
 intro n;induction n using Nat.strongRecOn with
 |_ n b_=>
  intro k aq aK;by_cases h:n<128
  ·rw[KS h]; simp; omega
  ·have tK:k≤8:=by
    rcases Nat.lt_or_ge 8 k with sJ | sJ
    ·have:=rl aq aK (by omega); omega
    ·exact sJ
   rw[KR (by omega)];have aF:(128:Nat)^(k+1)=128^k*128:=Nat.pow_succ ..;have hm:n*128^k=n/128*128^(k+1)+n%128*128^k:=by
    rw[aF,Nat.mul_comm (128^k) 128,← Nat.mul_assoc,← Nat.add_mul];congr 1; omega
   have:=b_ (n/128) (by omega) (k+1) (by omega) (by omega);simp only[List.length_cons]; omega
def be:Nat→Nat→List UInt8
 |0,_=>[]
 |i+1,n=>UInt8.ofNat (n/256^i%256)::be i n
theorem uL:∀ i n,(be i n).length=i
 |0,_=>rfl
 |i+1,n=>by simp[be,uL i n]
def oE:Nat→Nat→List UInt8→Except Int (Nat×List UInt8)
 |0,acc,av=>.ok (acc,av)
 |_+1,_,[]=>.error 22
 |i+1,acc,c::av=>oE i (acc*256+c.toNat) av
theorem aCz(n i:Nat):n%256^(i+1)=n/256^i%256*256^i+n%256^i:=by
 rw[Nat.pow_succ,Nat.mod_mul,Nat.mul_comm (256^i),Nat.add_comm]
theorem ad4:∀ (i acc n:Nat) (rest:List UInt8),oE i acc (be i n++rest)=.ok (acc*256^i+n%256^i,rest)
 |0,acc,n,rest=>by simp[be,oE,Nat.mod_one]
 |i+1,acc,n,rest=>by
  have aR:(UInt8.ofNat (n/256^i%256)).toNat=n/256^i%256:=Az (by omega);simp only[be,List.cons_append,oE,aR,ad4 i];rw[aCz,Nat.pow_succ,Nat.mul_comm (256^i) 256,← Nat.mul_assoc,Nat.add_mul];congr 2; omega
theorem XF(q:Nat):∀ (i n D:Nat),i≤D→be i (q*256^D+n)=be i n
 |0,_,_,_=>rfl
 |i+1,n,D,h=>by
  simp only[be];have e:(q*256^D+n)/256^i%256=n/256^i%256:=by
   have aF:(256:Nat)^D=256^i*(256*256^(D-i-1)):=by
    rw[← Nat.mul_assoc,← Nat.pow_succ,← Nat.pow_add]; congr 1; omega
   have ah:0<256^i:=Nat.pow_pos (by omega);rw[aF];have a6:q*(256^i*(256*256^(D-i-1)))+n=n+256^i*(q*256^(D-i-1)*256):=by
    rw[Nat.add_comm]; congr 1;rw[Nat.mul_left_comm,Nat.mul_comm 256,Nat.mul_assoc]
   rw[a6,Nat.add_mul_div_left _ _ ah,Nat.add_mul_mod_self_right]
  rw[e,XF q i n D (by omega)]
theorem ad6:∀ (i acc y:Nat) (av rest:List UInt8),oE i acc av=.ok (y,rest)→∃ n,n<256^i∧y=acc*256^i+n∧av=be i n++rest
 |0,acc,y,av,rest,h=>by
  simp only[oE,Except.ok.injEq,Prod.mk.injEq] at h;exact⟨0,by simp,by simp[h.1],by simp[be,h.2]⟩
 |i+1,acc,y,[],rest,h=>by simp[oE] at h
 |i+1,acc,y,c::av,rest,h=>by
  have U:c.toNat<256:=c.toNat_lt;obtain⟨n,I,O,aH⟩:=ad6 i _ y av rest h;have ah:0<256^i:=Nat.pow_pos (by omega);refine⟨c.toNat*256^i+n,?_,?_,?_⟩
  ·rw[Nat.pow_succ,Nat.mul_comm (256^i)];have:(c.toNat+1)*256^i≤256*256^i:=Nat.mul_le_mul_right _ (by omega);rw[Nat.add_mul] at this; omega
  ·rw[O,Nat.pow_succ,Nat.mul_comm (256^i) 256,← Nat.mul_assoc,Nat.add_mul]; omega
  ·have aQ:(c.toNat*256^i+n)/256^i=c.toNat:=by
    rw[Nat.add_comm,Nat.add_mul_div_right _ _ ah,Nat.div_eq_of_lt I]; omega
   simp only[be,aQ,XF c.toNat i n i (Nat.le_refl i),List.cons_append,aH,Nat.mod_eq_of_lt U];simp
def ux(i:Int):Nat:=if i<0 then 2*(-(i+1)).toNat+1 else 2*i.toNat
def uw(n:Nat):Int:=if n%2=1 then -((n/2:Nat):Int)-1 else (n/2:Nat)
theorem aJo(i:Int):uw (ux i)=i:=by
 unfold uw ux;split<;>split<;>omega
theorem aJs(n:Nat):ux (uw n)=n:=by
 unfold uw ux;split<;>split<;>omega
theorem Md{i:Int}(ah:-9223372036854775808≤i)(I:i≤9223372036854775807):ux i<18446744073709551616:=by
 unfold ux; split<;>omega
theorem afV{n:Nat}(h:n<18446744073709551616):-9223372036854775808≤uw n∧uw n≤9223372036854775807:=by
 unfold uw; split<;>omega
structure In(v:e_):Prop where
 z4:-9223372036854775808≤v.Kind
 df:v.Kind≤9223372036854775807
 Ik:0≤v.cX
 vL:v.cX<18446744073709551616
 i0:-9223372036854775808≤v.aV
 i1:v.aV≤9223372036854775807
 f:v.aT<18446744073709551616
def sb(v:e_):Bool:=
 if v.Kind=1 then (v.aV==0&&v.aT==0)&&v.W==[]
 else if v.Kind=2 then (v.cX==0&&v.aT==0)&&v.W==[]
 else if v.Kind=3 then (v.cX==0&&v.aV==0)&&v.W==[]
 else if v.Kind=4 then (v.cX==0&&v.aV==0)&&v.aT==0
 else false
def jS(v:e_):Int:=if sb v=false then 21 else if v.W.length>1000 then 24 else 0
def iO(v:e_):List UInt8:=UInt8.ofNat v.Kind.toNat ::
 (if v.Kind=1 then num v.cX.toNat else if v.Kind=2 then num (ux v.aV) else if v.Kind=3 then be 8 (mX v.aT) else num v.W.length++v.W)
def nQ(v:e_):e_:={ v with aT:=mX v.aT }
def ib:List UInt8→Except Int (e_×List UInt8)
 |[]=>.error 22
 |c::av=>
  if c.toNat=1 then match rdNum av 0 0 with
   |.error e=>.error e
   |.ok (n,r)=>.ok (⟨1,n,0,0,[]⟩,r)
  else if c.toNat=2 then match rdNum av 0 0 with
   |.error e=>.error e
   |.ok (n,r)=>.ok (⟨2,0,uw n,0,[]⟩,r)
  else if c.toNat=3 then match oE 8 0 av with
   |.error e=>.error e
   |.ok (n,r)=>if mX n≠n then .error 25 else .ok (⟨3,0,0,n,[]⟩,r)
  else if c.toNat=4 then match rdNum av 0 0 with
   |.error e=>.error e
   |.ok (n,r)=>if 1000<n then .error 24 else if r.length<n then .error 22 else .ok (⟨4,0,0,0,r.take n⟩,r.drop n)
  else .error 21
theorem HK{v:e_}(h:jS v=0):(v.Kind=1∧v.aV=0∧v.aT=0∧v.W=[])∨(v.Kind=2∧v.cX=0∧v.aT=0∧v.W=[])∨(v.Kind=3∧v.cX=0∧v.aV=0∧v.W=[])∨(v.Kind=4∧v.cX=0∧v.aV=0∧v.aT=0∧v.W.length≤1000):=by
 unfold jS at h;split at h
 ·simp at h
 ·rename_i aF;split at h
  ·simp at h
  ·rename_i al;unfold sb at aF;split at aF
   ·simp at aF; exact .inl ⟨by assumption,aF.1,aF.2.1,aF.2.2⟩
   ·split at aF
    ·simp at aF; exact .inr (.inl ⟨by assumption,aF.1,aF.2.1,aF.2.2⟩)
    ·split at aF
     ·simp at aF; exact .inr (.inr (.inl ⟨by assumption,aF.1,aF.2.1,aF.2.2⟩))
     ·split at aF
      ·simp at aF; exact .inr (.inr (.inr ⟨by assumption,aF.1,aF.2.1,aF.2.2,by omega⟩))
      ·simp at aF
theorem Sb{n:Nat}(h:n<18446744073709551616)(rest:List UInt8):rdNum (num n++rest) 0 0=.ok (n,rest):=by
 have:=aFY n 0 0 rest (by omega) (by simpa using h) (.inr rfl);simpa using this
theorem al4{v:e_}(aw:In v)(h:jS v=0)(rest:List UInt8):ib (iO v++rest)=.ok (nQ v,rest):=by
 obtain⟨k,u,i,f,s⟩:=v;rcases HK h with ⟨I,O,aH,bg⟩ | ⟨I,O,aH,bg⟩ | ⟨I,O,aH,bg⟩ | ⟨I,O,aH,bg,dh⟩
 all_goals simp only at I O aH bg
 ·subst I; subst O; subst aH; subst bg;have hu:=aw.vL; have aan:=aw.Ik;simp only at hu aan;have e:rdNum (num u.toNat++rest) 0 0=.ok (u.toNat,rest):=Sb (by omega) rest;have a6:((u.toNat:Nat):Int)=u:=by omega
  simp[iO,ib,e,nQ,zH,a6]
 ·subst I; subst O; subst aH; subst bg;have e:rdNum (num (ux i)++rest) 0 0=.ok (ux i,rest):=Sb (Md aw.i0 aw.i1) rest;simp[iO,ib,e,nQ,zH,aJo]
 ·subst I; subst O; subst aH; subst bg;have e:oE 8 0 (be 8 (mX f)++rest)=.ok (mX f,rest):=by
   have:=Y3 aw.f;rw[ad4,Nat.mod_eq_of_lt (by simpa using this)]; simp
  simp[iO,ib,e,nQ,anS]
 ·subst I; subst O; subst aH; subst bg;simp only at dh;have e:rdNum (num s.length++(s++rest)) 0 0=.ok (s.length,s++rest):=Sb (by omega) _;simp[iO,ib,e,nQ,zH];rw[if_neg (by omega),if_neg (by omega)]
theorem B9{n:Nat}(h:n<18446744073709551616):(num n).length≤10:=by
 have:=aC4 n 0 (by omega) (by simpa using h); omega
theorem Lq{av rest:List UInt8}{n:Nat}(h:rdNum av 0 0=.ok (n,rest)):n<18446744073709551616∧av=num n++rest:=by
 obtain⟨y,I,O,_,aH⟩:=ad7 av 0 0 n rest (by omega) h;have:n=y:=by simpa using I
 subst this;exact⟨by simpa using O,aH⟩
theorem X8{av rest:List UInt8}{v:e_}(h:ib av=.ok (v,rest)):In v∧jS v=0∧nQ v=v∧av=iO v++rest:=by
 cases av with
 |nil=>simp[ib] at h
 |cons c av=>
  simp only[ib] at h;split at h
  ·rename_i U;split at h
   ·cases h
   ·rename_i n r ab;simp only[Except.ok.injEq,Prod.mk.injEq] at h;obtain⟨rfl,rfl⟩:=h;obtain⟨I,rfl⟩:=Lq ab;refine⟨⟨by simp,by simp,by simp,by simp only; omega,by simp,by simp,by simp⟩,by simp[jS,sb],by simp[nQ,zH],?_⟩;obtain rfl:c=1:=UInt8.toNat_inj.1 U;simp[iO]
  ·split at h
   ·rename_i U;split at h
    ·cases h
    ·rename_i n r ab;simp only[Except.ok.injEq,Prod.mk.injEq] at h;obtain⟨rfl,rfl⟩:=h;obtain⟨I,rfl⟩:=Lq ab;refine⟨⟨by simp,by simp,by simp,by simp,(afV I).1,(afV I).2,by simp⟩,by simp[jS,sb],by simp[nQ,zH],?_⟩;obtain rfl:c=2:=UInt8.toNat_inj.1 U;simp[iO,aJs]
   ·split at h
    ·rename_i U;split at h
     ·cases h
     ·rename_i n r ab;split at h
      ·cases h
      ·rename_i am;simp only[Except.ok.injEq,Prod.mk.injEq] at h;obtain⟨rfl,rfl⟩:=h;obtain⟨y,I,O,rfl⟩:=ad6 8 0 _ _ _ ab;have:n=y:=by simpa using O
       subst this;have am:mX n=n:=by simpa using am
       refine⟨⟨by simp,by simp,by simp,by simp,by simp,by simp,by simpa using I⟩,by simp[jS,sb],by simp[nQ,am],?_⟩;obtain rfl:c=3:=UInt8.toNat_inj.1 U;simp[iO,am]
    ·split at h
     ·rename_i U;split at h
      ·cases h
      ·rename_i n r ab;split at h
       ·cases h
       ·split at h
        ·cases h
        ·rename_i dh il;simp only[Except.ok.injEq,Prod.mk.injEq] at h;obtain⟨rfl,rfl⟩:=h;obtain⟨I,rfl⟩:=Lq ab;have al:(r.take n).length=n:=by rw[List.length_take]; omega
         refine⟨⟨by simp,by simp,by simp,by simp,by simp,by simp,by simp⟩,?_,by simp[nQ,zH],?_⟩
         ·simp only[jS,sb]; simp; omega
         ·obtain rfl:c=4:=UInt8.toNat_inj.1 U;simp[iO]; rw[Nat.min_eq_left (by omega)]
     ·cases h
theorem amu{v:e_}(aw:In v)(h:jS v=0):(iO v).length≤1011:=by
 rcases HK h with ⟨I,_⟩ | ⟨I,_⟩ | ⟨I,_⟩ | ⟨I,_,_,_,dh⟩
 ·have:=B9 (n:=v.cX.toNat) (by have:=aw.vL; have:=aw.Ik; omega);simp[iO,I]; omega
 ·have:=B9 (Md aw.i0 aw.i1);simp[iO,I]; omega
 ·simp[iO,I,uL]
 ·have:=B9 (n:=v.W.length) (by omega);simp[iO,I]; omega
section
variable {A w:World} {m bL:List bu}
abbrev hq:=gg
theorem QO:∀ x,(hq.cells x).length=5:=fun _=>rfl
theorem Rs(d:Ieee.Datum):d.order d=if d.isNaN then none else some .eq:=by
 have bm:∀ x:Int,compare x x=.eq:=fun x=>Std.ReflCmp.compare_self;have bB:∀ x:Nat,compare x x=.eq:=fun x=>Std.ReflCmp.compare_self;cases d with
 |nan s t=>rfl
 |infinity s=>simp only[Ieee.Datum.order,bB]; rfl
 |number s y i=>simp only[Ieee.Datum.order,bm]; rfl
theorem aCG{f:Nat}:fO .neq f f=isNaN f:=by
 have aG:FloatKind.f64.format.signWeight=9223372036854775808:=by decide
 have ab:FloatKind.f64.format.infRung=9218868437227405312:=by decide
 have ao:FloatKind.f64.format.binade=4503599627370496:=by decide
 have e:2*f%18446744073709551616=2*(f%9223372036854775808):=by omega
 unfold fO isNaN;simp only[Ieee.Format.order,Rs];rw[e];have O:(FloatKind.f64.format.read f).isNaN=decide (18437736874454810624<2*(f%9223372036854775808)):=by
  simp only[Ieee.Format.read,aG,ab,ao];by_cases I:f%9223372036854775808<4503599627370496
  ·rw[if_pos I];show false=_
   symm; rw[decide_eq_false_iff_not]; omega
  ·rw[if_neg I];by_cases O:f%9223372036854775808<9218868437227405312
   ·rw[if_pos O];show false=_
    symm; rw[decide_eq_false_iff_not]; omega
   ·rw[if_neg O];by_cases aH:f%9223372036854775808=9218868437227405312
    ·rw[if_pos aH];show false=_
     symm; rw[decide_eq_false_iff_not]; omega
    ·rw[if_neg aH];show true=_
     symm; rw[decide_eq_true_iff]; omega
 rw[O];cases decide (18437736874454810624<2*(f%9223372036854775808))<;>rfl
theorem inf_spec{f:Nat}{s:Int}(H:E A m w):M Pg 138 [.float .f64 f,.int .i64 s] bf w fun _ J=>E A m J:=by
 refine T6 ?_;unfold Ms CS;split
 ·refine UK ?_;unfold MF;exact H
 ·split
  ·exact H
  ·exact H
theorem Bl{f:Nat}(H:E A m w):M Pg 87 [.float .f64 f] (B .i64) w fun r J=>(r==0)=isNaN f∧E A m J:=by
 refine WH ?_;unfold Nu;rw[aCG];split
 ·rename_i h; exact⟨by rw[h]; rfl,H⟩
 ·rename_i h;have h:isNaN f=false:=by simpa using h
  rw[h];split
  ·exact⟨rfl,H⟩
  ·split
   ·exact⟨rfl,H⟩
   ·refine ap (inf_spec H) ?_;intro r w H;split
    ·exact⟨rfl,H⟩
    ·refine ap (inf_spec H) ?_;intro r w H;split
     ·exact⟨rfl,H⟩
     ·split
      ·exact⟨rfl,H⟩
      ·exact⟨rfl,H⟩
theorem XH{f:Nat}(H:E A m w):M Pg 229 [.float .f64 f] (B .u64) w fun r J=>r=(mX f:Nat)∧E A m J:=by
 refine ahM ?_;unfold Vh;refine ap (Bl H) ?_;rintro r w ⟨ab,H⟩;rw[ab];unfold mX;split
 ·refine ah8 ?_;unfold VC;rw[if_pos (by rfl)];exact⟨rfl,H⟩
 ·exact⟨rfl,H⟩
theorem aEH{v:e_}(H:E A m w):M Pg 235 [hq.enc v] bf w fun r J=>r=sb v∧E A m J:=by
 refine ahR ?_;unfold Vm;refine bH H fun l w H=>?_;refine dg H fun w H=>?_;refine aj (x:=v.cX) 0 H rfl rfl rfl ?_;refine aj (x:=v.aV) 0 H rfl rfl rfl ?_;refine aj (x:=v.aT) 0 H rfl rfl rfl ?_;refine aj (x:=v.W) 0 H rfl rfl rfl ?_;refine aj (x:=v.Kind) 0 H rfl rfl rfl ?_;have am:((v.aT:Int)==0)=(v.aT==0):=by rw[Bool.eq_iff_iff]; simp
 rw[am];have H:=H.drop;by_cases I:v.Kind=1
 ·simp only[I,beq_self_eq_true,if_true,sb]; exact⟨trivial,H⟩
 ·have aQ:(v.Kind==1)=false:=by simpa using I
  by_cases O:v.Kind=2
  ·simp only[O,sb,show ((2:Int)==1)=false from rfl,show ¬ (2:Int)=1 from by decide,beq_self_eq_true,if_true,if_false,Bool.false_eq_true]; exact⟨trivial,H⟩
  ·have a6:(v.Kind==2)=false:=by simpa using O
   by_cases aH:v.Kind=3
   ·simp only[aH,sb,show ((3:Int)==1)=false from rfl,show ((3:Int)==2)=false from rfl,show ¬ (3:Int)=1 from by decide,show ¬ (3:Int)=2 from by decide,beq_self_eq_true,if_true,if_false,Bool.false_eq_true]; exact⟨trivial,H⟩
   ·have c_:(v.Kind==3)=false:=by simpa using aH
    by_cases bg:v.Kind=4
    ·simp only[bg,sb,show ((4:Int)==1)=false from rfl,show ((4:Int)==2)=false from rfl,show ((4:Int)==3)=false from rfl,show ¬ (4:Int)=1 from by decide,show ¬ (4:Int)=2 from by decide,show ¬ (4:Int)=3 from by decide,beq_self_eq_true,if_true,if_false,Bool.false_eq_true]; exact⟨trivial,H⟩
    ·have mW:(v.Kind==4)=false:=by simpa using bg
     simp only[aQ,a6,c_,mW,I,O,aH,bg,sb,if_false,Bool.false_eq_true]; exact⟨trivial,H⟩
theorem aIm{v:e_}(H:E A m w):M Pg 198 [hq.enc v] (B .i64) w fun r J=>r=jS v∧E A m J:=by
 refine ahq ?_;unfold UW;refine bH H fun l w H=>?_;refine ec (x:=v) 0 H rfl ?_;refine ap (aEH H) ?_;rintro r w ⟨rfl,H⟩;unfold jS;split
 ·rename_i h; rw[if_pos (by simpa using h)]; exact⟨rfl,H.drop⟩
 ·rename_i h;rw[if_neg (by simpa using h)];refine aj (x:=v.W) 0 H rfl rfl rfl ?_;split
  ·rename_i h; rw[if_pos (by simp at h; omega)]; exact⟨rfl,H.drop⟩
  ·rename_i h; rw[if_neg (by simp at h; omega)]; exact⟨rfl,H.drop⟩
theorem EU{n:Int}{y:Nat}(h:n=y):IntKind.u8.wrap n=((UInt8.ofNat y).toNat:Int):=by rw[L7,h]; simp
theorem Q_{n:Nat}{s:af}{xs:List Int}(aK:n<18446744073709551616)(ao:xs.length≤100000000)(i:Nat)(H:E A m w)(aw:front i m=row (B .u8) 5 1 s xs::bL) :
  M Pg 236 [X.enc s,.int .u64 n] X w fun r J=>E A (row (B .u8) 5 1 r (xs++aS (num n))::bL) J:=by
 have H:E A (row (B .u8) 5 1 s xs::bL) w:=aw▸H.front i;refine ahS ?_;unfold Vn;refine hU (fun p w=>∃ (y:Nat) (gF:List UInt8),p.2=y∧y<18446744073709551616∧y≤n∧num n=gF++num y∧E A (row (B .u8) 5 1 p.1 (xs++aS gF)::bL) w) (fun p=>p.2.toNat)
  ⟨n,[],rfl,aK,Nat.le_refl n,rfl,by simpa[aS] using H⟩ ?_
 clear H aw;rintro⟨l,y⟩ w ⟨y,gF,rfl,hm,aJ9,he,H⟩ aa b2;have al:gF.length≤10:=by
  have:=congrArg List.length he;rw[List.length_append] at this;have:=B9 aK;omega
 unfold MU;split
 ·rename_i U;have U:128≤y:=by simp at U; omega
  have aQ:bits .or .u8 (IntKind.u8.wrap (y:Int)) 128=((UInt8.ofNat (128+y%128)).toNat:Int):=by
   rw[L7,aD3 (by omega) (by omega),Az (by omega)]; omega
  simp only[aQ];refine nq (fun _=>rfl) 0 H rfl (by simp[gq]; omega) fun r w H=>?_;refine sl (by omega) ?_;have a6:Int.fdiv (y:Int) (2^(min (Int.toNat 7) IntKind.u64.bits))=((y/128:Nat):Int):=by
   have:min (Int.toNat 7) IntKind.u64.bits=7:=rfl;rw[this,Int.fdiv_eq_ediv_of_nonneg _ (by decide)];omega
  rw[a6];refine b2 _ _ ⟨y/128,gF++[UInt8.ofNat (128+y%128)],rfl,by omega,by omega,by rw[he,KR U]; simp,?_⟩ (by simp only; omega);rw[xi,← List.append_assoc]; exact H
 ·rename_i U;have U:y<128:=by simp at U; omega
  rw[EU rfl];refine nq (fun _=>rfl) 0 H rfl (by simp[gq]; omega) fun r w H=>?_;rw[he,KS U,xi,← List.append_assoc]; exact H
end
def hS(aW:List e_):List UInt8:=aW.flatMap iO
def bad:List e_→Int
 |[]=>0
 |v::aW=>if jS v≠0 then jS v else bad aW
def yS(aW:List e_):Int:=if 1000<aW.length then 20 else bad aW
theorem amy(m y:List e_):hS (m++y)=hS m++hS y:=by simp[hS]
theorem OB:∀ {aW:List e_},(∀ v∈aW,In v)→(∀ v∈aW,jS v=0)→(hS aW).length≤1011*aW.length
 |[],_,_=>by simp[hS]
 |v::aW,aw,h=>by
  have I:=amu (aw v (by simp)) (h v (by simp));have O:=OB (aW:=aW) (fun x F=>aw x (by simp[F])) (fun x F=>h x (by simp[F]));simp only[hS,List.flatMap_cons,List.length_append,List.length_cons] at *;omega
theorem Ge{m y:List e_}(h:∀ v∈m,jS v=0):bad (m++y)=bad y:=by
 induction m with
 |nil=>rfl
 |cons v m b_=>
  have I:=h v (by simp);simp only[List.cons_append,bad,I];rw[if_neg (by simp)];exact b_ fun x F=>h x (by simp[F])
theorem Oc{aW:List e_}(h:∀ v∈aW,jS v=0):bad aW=0:=by
 have:=Ge (m:=aW) (y:=[]) h;rw[List.append_nil] at this;exact this
theorem GA(n y:Nat):Int.fdiv (n:Int) (2^y)=((n/2^y:Nat):Int):=by
 rw[Int.fdiv_eq_ediv_of_nonneg _ (by exact_mod_cast Nat.zero_le _)]; push_cast; rfl
section
variable {A w:World} {m bL:List bu}
theorem aJr{x:Int}(ah:-9223372036854775808≤x)(I:x≤9223372036854775807) :
  bits .xor .u64 (IntKind.u64.wrap ((IntKind.u64.wrap x)*2^(min ((1:Int)).toNat IntKind.u64.bits))) (IntKind.u64.wrap (Int.fdiv x (2^(min ((63:Int)).toNat IntKind.i64.bits))))=((ux x:Nat):Int):=by
 have g6:min ((1:Int)).toNat IntKind.u64.bits=1:=rfl;have jR:min ((63:Int)).toNat IntKind.i64.bits=63:=rfl;rw[g6,jR,Int.fdiv_eq_ediv_of_nonneg _ (by decide),ls,ls,ls];unfold ux;by_cases h:x<0
 ·rw[if_pos h];have e:x/2^63%18446744073709551616=18446744073709551615:=by omega
  rw[e,afQ (by omega) (by omega)];omega
 ·rw[if_neg h];have e:x/2^63%18446744073709551616=0:=by omega
  rw[e,aI3 (by omega) (by omega)];omega
theorem Ch{v:e_}{s:af}{xs:List Int}(a4:In v)(aJ:jS v=0)(ao:xs.length≤90000000)(i:Nat)(H:E A m w)(aw:front i m=row (B .u8) 5 1 s xs::bL) :
  M Pg 199 [X.enc s,hq.enc v] X w fun r J=>E A (row (B .u8) 5 1 r (xs++aS (iO v))::bL) J:=by
 have H:E A (row (B .u8) 5 1 s xs::bL) w:=aw▸H.front i;clear aw;have aq:=HK aJ;have l8:1≤v.Kind∧v.Kind≤4:=by omega
 refine ahr ?_;unfold UX;refine bH H fun l w H=>?_;refine aj (x:=v.Kind) 0 H rfl rfl rfl ?_;have hD:IntKind.u8.wrap v.Kind=((UInt8.ofNat v.Kind.toNat).toNat:Int):=EU (by omega);rw[hD];refine nq (fun _=>rfl) 1 H rfl (by simp; omega) fun r w H=>?_;refine aj (x:=v.Kind) 1 H rfl rfl rfl ?_;have gV:E A (row (B .u8) 5 1 r (xs++aS [UInt8.ofNat v.Kind.toNat])::aI l (hq.cells v) 197::bL) w:=H;clear H hD;have GN:∀ (q:af) (w:World) (gF:List UInt8),iO v=UInt8.ofNat v.Kind.toNat::gF→∀ {m:List bu},E A (row (B .u8) 5 1 q (xs++aS [UInt8.ofNat v.Kind.toNat]++aS gF)::m) w→E A (row (B .u8) 5 1 q (xs++aS (iO v))::m) w:=by
  intro q w gF he m H;rw[he];rw[List.append_assoc,← xi] at H;exact H
 have z1:(xs++aS [UInt8.ofNat v.Kind.toNat]).length≤100000000:=by simp[gq]; omega
 split
 ·rename_i h;have h:v.Kind=1:=by simpa using h
  refine aj (x:=v.cX) 1 gV rfl rfl rfl ?_;have e:v.cX=((v.cX.toNat:Nat):Int):=by have:=a4.Ik; omega
  rw[e];refine ap (Q_ (by have:=a4.vL; omega) z1 0 gV rfl) ?_;intro q w H;exact GN q w (num v.cX.toNat) (by simp[iO,h]) (H.front 1).drop |> fun H=>H
 ·rename_i h;have I:¬ v.Kind=1:=by simpa using h
  split
  ·rename_i h;have h:v.Kind=2:=by simpa using h
   refine aj (x:=v.aV) 1 gV rfl rfl rfl ?_;refine sl (by omega) ?_;refine aj (x:=v.aV) 1 gV rfl rfl rfl ?_;refine sl (by omega) ?_;rw[aJr a4.i0 a4.i1];refine ap (Q_ (Md a4.i0 a4.i1) z1 0 gV rfl) ?_;intro q w H;have H:=GN q w (num (ux v.aV)) (by simp[iO,h]) H;exact ((H.front 1).drop)
  ·rename_i h;have O:¬ v.Kind=2:=by simpa using h
   split
   ·rename_i h;have h:v.Kind=3:=by simpa using h
    refine aj (x:=v.aT) 1 gV rfl rfl rfl ?_;refine ap (XH gV) ?_;rintro q w ⟨rfl,H⟩;have aK:mX v.aT<18446744073709551616:=Y3 a4.f;have ZV:∀ (q:af) (w:World) {m:List bu},E A (row (B .u8) 5 1 q (xs++aS [UInt8.ofNat v.Kind.toNat]++aS (be 8 (mX v.aT)))::m) w→E A (row (B .u8) 5 1 q (xs++aS (iO v))::m) w:=fun q w=>GN q w (be 8 (mX v.aT)) (by simp[iO,h]);clear GN gV;generalize mX v.aT=n at aK ZV;refine hU (fun p w=>∃ (D:Nat) (gF:List UInt8),D≤8∧p.2=56-8*(D:Int)∧gF.length=D∧be 8 n=gF++be (8-D) n∧E A (row (B .u8) 5 1 p.1 (xs++aS [UInt8.ofNat v.Kind.toNat]++aS gF)::aI l (hq.cells v) 197::bL) w) (fun p=>(p.2+8).toNat)
     ⟨0,[],by omega,by omega,rfl,rfl,by simpa[aS] using H⟩ ?_
    clear H;rintro⟨q,i⟩ w ⟨D,gF,bI,aw,ar2,he,H⟩ aa b2;simp only at aw H;subst aw;unfold MO;split
    ·rename_i U;have U:D≤7:=by simp at U; omega
     refine sl (by rw[ls]; omega) ?_;have g6:min (IntKind.u64.wrap (56-8*(D:Int))).toNat IntKind.u64.bits=8*(7-D):=by
      have:IntKind.u64.bits=64:=rfl;rw[ls,this]; omega
     have cP:(2:Nat)^(8*(7-D))=256^(7-D):=by rw[Nat.pow_mul]
     have aQ:IntKind.u8.wrap (Int.fdiv (n:Int) (2^(min (IntKind.u64.wrap (56-8*(D:Int))).toNat IntKind.u64.bits)))=((UInt8.ofNat (n/256^(7-D)%256)).toNat:Int):=by
      rw[g6,GA,cP,L7]; simp
     rw[aQ];refine nq (fun _=>rfl) 0 H rfl (by simp[gq]; omega) fun r w H=>?_;refine b2 _ _ ⟨D+1,gF++[UInt8.ofNat (n/256^(7-D)%256)],by omega,by simp only; rw[qH]; omega,by simp[ar2],?_,?_⟩ (by simp only; rw[qH]; omega)
     ·rw[he,show 8-D=(7-D)+1 from by omega,show 8-(D+1)=7-D from by omega];simp[be]
     ·rw[xi,← List.append_assoc]; exact H
    ·rename_i U;have U:D=8:=by simp at U; omega
     subst U;have e:be 8 n=gF:=by rw[he]; simp[be]
     rw[← e] at H;have H:=ZV q w H;exact ((H.front 1).drop)
   ·rename_i h;have aH:¬ v.Kind=3:=by simpa using h
    have bg:v.Kind=4:=by omega
    have al:v.W.length≤1000:=by
     rcases aq with h | h | h | h
     ·exact absurd h.1 I
     ·exact absurd h.1 O
     ·exact absurd h.1 aH
     ·exact h.2.2.2.2
    refine dg gV fun w H=>?_;refine aj (x:=v.W) 1 H rfl rfl rfl ?_;refine aj (x:=v.W) 1 H rfl rfl rfl ?_;have e:IntKind.u64.wrap (v.W.length:Int)=((v.W.length:Nat):Int):=by rw[ls]; omega
    rw[e];refine ap (Q_ (by omega) z1 0 H rfl) ?_;intro q w H;refine⟨bE qB (H.front 1) rfl rfl,bE qB (H.front 1) rfl rfl,?_⟩;have aK:=B9 (n:=v.W.length) (by omega);refine aj9 0 H rfl (by simp[gq]; omega) fun q w H=>?_;refine⟨bE qB (H.front 1) rfl rfl,?_⟩;rw[List.append_assoc,← xi] at H;have H:=GN q w (num v.W.length++v.W) (by simp[iO,bg]) H;exact ((H.front 1).drop)
theorem K9{s:af}{aW:List e_}(a4:∀ v∈aW,In v)(aK:aW.length≤9000000000)(k:dc 5 m hq s aW)(H:E A m w) :
  M Pg 161 [X.enc s] (bo X (B .i64)) w fun r J=>r.2=yS aW∧(yS aW=0→E A (row (B .u8) 5 1 r.1 (aS (hS aW))::m) J)∧(yS aW≠0→r.1=fx)∧E A m J:=by
 have aG:=k.len H;refine agV ?_;unfold Us;rw[aG];split
 ·rename_i U;have U:1000<aW.length:=by simp at U; omega
  have e:yS aW=20:=if_pos U;refine⟨e.symm,?_,fun _=>rfl,H⟩;intro h; rw[e] at h; cases h
 ·rename_i U;have U:aW.length≤1000:=by simp at U; omega
  have e:yS aW=bad aW:=if_neg (by omega);rw[e];refine hU (fun p w=>0≤p.2∧p.2≤aW.length∧(∀ v∈aW.take p.2.toNat,jS v=0)∧E A (row (B .u8) 5 1 p.1 (aS (hS (aW.take p.2.toNat)))::m) w) (fun p=>(aW.length-p.2).toNat)
   ⟨Int.le_refl 0,by simp only; omega,by simp,kJ (B .u8) 5 1 H⟩ ?_
  clear H;rintro⟨l,i⟩ w ⟨ah,I,di,H⟩ aa b2;simp only at ah I di H;unfold MC;rw[aG];split
  ·rename_i aw;have aw:i<aW.length:=by simpa using aw
   have F:aW[i.toNat]?=some aW[i.toNat]:=List.getElem?_eq_getElem (by omega);have hm:aW[i.toNat]∈aW:=List.getElem_mem _;have aR:aW.take (i.toNat+1)=aW.take i.toNat++[aW[i.toNat]]:=by rw[List.take_succ_eq_append_getElem (by omega)]
   have ag:aW=aW.take i.toNat++aW[i.toNat]::aW.drop (i.toNat+1):=by
    conv=>lhs; rw[← List.take_append_drop i.toNat aW]
    rw[List.drop_eq_getElem_cons (by omega)]
   have ZH:jS aW[i.toNat]≠0→bad aW=jS aW[i.toNat]:=by
    intro h;have BD:=congrArg bad ag;rw[BD,Ge di];simp only[bad];exact if_pos h
   generalize aW[i.toNat]=v at F hm aR ZH;have apd:=OB (aW:=aW.take i.toNat) (fun x F=>a4 x (List.mem_of_mem_take F)) di;rw[List.length_take] at apd;obtain⟨a,Y⟩:=k.tail.iq (i:=i) H ah aw;refine aO a Y ?_;refine aO v (k.tail.rd Y F H) ?_;refine bH H fun zA w H=>?_;refine cV (x:=ty) (S:=v) QO 0 H rfl fun w H=>?_;refine ec (x:=v) 0 H rfl ?_;refine ap (aIm H) ?_;rintro r w ⟨rfl,H⟩;split
   ·rename_i dO;have dO:jS v≠0:=by simpa using dO
    have ao:=ZH dO;exact⟨ao.symm,fun h=>absurd (ao▸h) dO,fun _=>rfl,H.drop.drop⟩
   ·rename_i dO;have aJ:jS v=0:=by simpa using dO
    refine ec (x:=v) 0 H rfl ?_;refine ap (Ch (a4 v hm) aJ (by rw[gq]; omega) 1 H rfl) ?_;intro q w H;have aQ:IntKind.i64.wrap (i+1)=i+1:=wrap_i64 (by omega) (by omega);rw[aQ];have a6:(i+1).toNat=i.toNat+1:=by omega
    refine b2 _ _ ⟨by simp only; omega,by simp only; omega,?_,?_⟩ (by simp only; omega)
    ·simp only[a6,aR];intro x F;rcases List.mem_append.1 F with F | F
     ·exact di x F
     ·rw[List.mem_singleton.1 F]; exact aJ
    ·simp only[a6,aR];rw[amy,xi];have c_:hS [v]=iO v:=by simp[hS]
     rw[c_];exact ((H.front 1).drop)
  ·rename_i aw;have aw:i=aW.length:=by simp at aw; omega
   subst aw;have c_:aW.take ((aW.length:Int)).toNat=aW:=by simp
   rw[c_] at di H;have ao:=Oc di;exact⟨ao.symm,fun _=>H,fun h=>absurd ao h,H.drop⟩
end
section
variable {Z:Type} {T:bn Z} {A w:World} {m bL:List bu}
theorem ajC{ar:Nat}{s r:af}{xs:List Z}{i h y:Int}(al:∀ x,(T.cells x).length=ar)(aG:Sub s ar i h y r)(cn:h≤xs.length)(li:∀ a,s.a=some a→xs≠[]→a.spot=none)(k:k7 T w s xs):k7 T w r ((xs.take h.toNat).drop i.toNat):=by
 obtain⟨ah,I,O,aH,rfl⟩:=aG;obtain⟨df,dT⟩:=k;have g1:((xs.take h.toNat).drop i.toNat).length=h.toNat-i.toNat:=by rw[List.length_drop,List.length_take]; omega
 refine⟨g1,?_⟩;simp only;obtain⟨a,n,c⟩:=s;cases a with
 |none=>
  have:xs=[]:=dT;subst this;split<;>simp[F1]
 |some a=>
  split
  ·rename_i e;have:(xs.take h.toNat).drop i.toNat=[]:=List.eq_nil_of_length_eq_zero (by rw[g1]; omega);rw[this];intro D v aJ; simp at aJ
  ·intro D v aJ;have dO:xs≠[]:=by
    rintro rfl;simp at aJ
   have a6:xs.flatMap T.cells=(xs.take i.toNat).flatMap T.cells++(((xs.take h.toNat).drop i.toNat).flatMap T.cells++(xs.drop h.toNat).flatMap T.cells):=by
    have c_:xs.take i.toNat=(xs.take h.toNat).take i.toNat:=by rw[List.take_take,Nat.min_eq_left (by omega)]
    rw[c_,← List.append_assoc,← List.flatMap_append,List.take_append_drop,← List.flatMap_append,List.take_append_drop]
   have mW:((xs.take i.toNat).flatMap T.cells).length=i.toNat*ar:=by rw[nU al,List.length_take]; congr 1; omega
   rw[add_add (li a rfl dO)];refine (dT:oS w a _) (i.toNat*ar+D) v ?_;rw[a6,← mW,List.getElem?_append_right (by omega),Nat.add_sub_cancel_left];rw[List.getElem?_append_left (List.getElem?_eq_some_iff.1 aJ).1]; exact aJ
theorem _root_.Go.Proofs.YthaobmpdjcoheaaGreat.bb.dc.spot{ar:Nat}{s:af}{xs:List Z}(k:dc ar m T s xs)(H:E A m w):∀ a,s.a=some a→xs≠[]→a.spot=none:=by
 intro a Y dO;have al:0<xs.length:=by
  cases xs with
  |nil=>exact absurd rfl dO
  |cons=>simp
 obtain⟨l,ao,li,_⟩:=(k A [] w H).2.2 0 (by omega) (by omega);obtain⟨c,U,_,_,rfl⟩:=ao;rw[Y] at U; injection U with U; subst U
 have e:(0:Int).toNat*ar=0:=by simp
 rw[e] at li;simpa[Addr.add] using li
theorem _root_.Go.Proofs.YthaobmpdjcoheaaGreat.bb.dc.sub{ar:Nat}{s r:af}{xs:List Z}{i h y:Int}(k:dc ar m T s xs)(al:∀ x,(T.cells x).length=ar)(aG:Sub s ar i h y r)(cn:h≤xs.length)(H:E A m w):k7 T w r ((xs.take h.toNat).drop i.toNat):=
 ajC al aG cn (k.spot H) (k.Cu H)
end
def m9(l:Nat)(s:af)(at_:Nat):bu:=aI l [X.enc s,.int .i64 at_] 257
def xP(e:Int):ei:=ei.mk 259 (jJ.enc ⟨e⟩)
section
variable {A w:World} {m bL:List bu} {l:Nat} {s:af} {av:List UInt8}
theorem drop_cons{rest:List UInt8}{a:Nat}{c:UInt8}(h:av.drop a=c::rest):a<av.length∧av[a]?=some c∧av.drop (a+1)=rest:=by
 have al:a<av.length:=by
  rcases Nat.lt_or_ge a av.length with fp | fp
  ·exact fp
  ·rw[List.drop_eq_nil_of_le fp] at h; cases h
 refine⟨al,?_,?_⟩
 ·have:=congrArg (fun m=>m[0]?) h;simpa using this
 ·have:=congrArg (List.drop 1) h;simpa[List.drop_drop] using this
theorem HB{ej:ei→World→Prop}{aa:Int→World→Prop}{a:Nat}{rest:List UInt8}(aK:av.length≤9223372036854775806)(k:dc 1 m (B .u8) s (aS av))(Y:a≤av.length)(ag:av.drop a=rest)(H:E A (m9 l s a::m) w)
  (aF:rest=[]→∀ J,E A (m9 l s a::m) J→ej (xP 22) J)
  (aq:∀ c r J,rest=c::r→a+1≤av.length→av.drop (a+1)=r→E A (m9 l s (a+1)::m) J→aa (c.toNat:Int) J) :
  nR Pg 186 [.pointer (some ⟨l,0,none⟩)] (B .u8) w ej aa:=by
 have aG:=k.tail.len H;rw[gq] at aG;refine ahh ?_;unfold MG;refine dg H fun w H=>?_;refine b3 rfl ?_;refine aj (x:=(a:Int)) 0 H rfl rfl rfl ?_;refine aj (x:=s) 0 H rfl rfl rfl ?_;rw[aG];cases rest with
 |nil=>
  have al:av.length≤a:=by
   have:=congrArg List.length ag;simp at this; omega
  rw[if_pos (by simp; omega)];exact aF rfl _ H
 |cons c r=>
  obtain⟨I,O,aH⟩:=drop_cons ag;rw[if_neg (by simp; omega)];refine aj (x:=(a:Int)) 0 H rfl rfl rfl ?_;have aQ:IntKind.i64.wrap ((a:Int)+1)=((a+1:Nat):Int):=by rw[qH]; omega
  rw[aQ];refine dx (x:=((a+1:Nat):Int)) 0 H rfl rfl (Nat.le_of_ble_eq_true rfl) fun w H=>?_;refine dg H fun w H=>?_;refine aj (x:=s) 0 H rfl rfl rfl ?_;refine aj (x:=((a+1:Nat):Int)) 0 H rfl rfl rfl ?_;have a6:IntKind.i64.wrap (((a+1:Nat):Int)-1)=(a:Int):=by rw[qH]; omega
  rw[a6];obtain⟨x,F⟩:=k.tail.iq (i:=(a:Int)) H (by omega) (by rw[gq]; omega);refine aO x F ?_;refine aO (c.toNat:Int) (k.tail.rd F (by simp[aS,O]) H) ?_;exact aq c r _ rfl (by omega) aH H
theorem Ra{ej:ei→World→Prop}{aa:Int→World→Prop}{a:Nat}{rest:List UInt8}(aK:av.length≤9223372036854775806)(k:dc 1 m (B .u8) s (aS av))(Y:a≤av.length)(ag:av.drop a=rest)(H:E A (m9 l s a::m) w)
  (aF:∀ e cb J,rdNum rest 0 0=.error e→E A (m9 l s cb::m) J→ej (xP e) J)
  (aq:∀ n r cb J,rdNum rest 0 0=.ok (n,r)→cb≤av.length→av.drop cb=r→E A (m9 l s cb::m) J→aa ((n:Nat):Int) J) :
  nR Pg 187 [.pointer (some ⟨l,0,none⟩)] (B .u64) w ej aa:=by
 refine ahi ?_;unfold MH;refine hU (fun p w=>∃ (D acc cb:Nat) (r:List UInt8),D≤9∧p.1=(acc:Int)∧p.2=((7*D:Nat):Int)∧acc<2^(7*D)∧cb≤av.length∧av.drop cb=r∧rdNum rest 0 0=rdNum r D acc∧E A (m9 l s cb::m) w) (fun p=>(70-p.2).toNat)
  ⟨0,0,a,rest,by omega,rfl,rfl,by simp,Y,ag,rfl,H⟩ ?_
 clear H Y ag;rintro⟨y,az⟩ w ⟨D,acc,cb,r,bI,hm,ao,Pj,Y,ag,he,H⟩ K' b2;simp only at hm ao;subst hm; subst ao;unfold MI;refine HB aK k Y ag H ?_ ?_
 ·rintro rfl w H;exact aF 22 _ _ (by rw[he]; rfl) H
 ·rintro c oD w rfl DT BC H;have U:c.toNat<256:=c.toNat_lt;simp only[rdNum] at he;have ZN:(((((7*D:Nat):Int)==(63:Int))&&(decide ((c.toNat:Int)>(1:Int))))||((decide (((7*D:Nat):Int)>(0:Int)))&&((c.toNat:Int)==(0:Int))))=true↔(D=9∧1<c.toNat)∨(0<D∧c.toNat=0):=by
   simp only[Bool.or_eq_true,Bool.and_eq_true,beq_iff_eq,decide_eq_true_eq];omega
  by_cases a5:(D=9∧1<c.toNat)∨(0<D∧c.toNat=0)
  ·rw[if_pos (ZN.2 a5)];rw[if_pos a5] at he;exact aF 23 _ _ he H
  ·rw[if_neg (fun h=>a5 (ZN.1 h))];rw[if_neg a5] at he;refine sl (by omega) ?_;have cP:(128:Nat)^D=2^(7*D):=by rw[Nat.pow_mul]
   have g6:min (((7*D:Nat):Int)).toNat IntKind.u64.bits=7*D:=by
    have:IntKind.u64.bits=64:=rfl;rw[this]; omega
   have sR:c.toNat%128*2^(7*D)<18446744073709551616:=by
    rw[← cP];rcases acs bI with e | e | e | e | e | e | e | e | e | ⟨Gn,e⟩<;>rw[e]<;>omega
   have aQ:IntKind.u64.wrap (IntKind.u64.wrap (bits .and .u8 (c.toNat:Int) 127)*2^(min (((7*D:Nat):Int)).toNat IntKind.u64.bits))=((c.toNat%128*2^(7*D):Nat):Int):=by
    rw[g6,aj7 (by omega) (by omega)];have e:IntKind.u64.wrap ((c.toNat:Int)%128)=((c.toNat%128:Nat):Int):=by rw[ls]; omega
    rw[e];have a6:((c.toNat%128:Nat):Int)*2^(7*D)=((c.toNat%128*2^(7*D):Nat):Int):=by push_cast; rfl
    rw[a6,ls];generalize c.toNat%128*2^(7*D)=q at sR;omega
   have aoi:acc<18446744073709551616:=Nat.lt_of_lt_of_le Pj (by
    have:=Nat.pow_le_pow_right (n:=2) (by omega) (show 7*D≤64 by omega)
    simpa using this)
   have a6:bits .or .u64 (acc:Int) ((c.toNat%128*2^(7*D):Nat):Int)=((acc+c.toNat%128*128^D:Nat):Int):=by
    rw[aD4 .u64 64 (by decide) kN (7*D) _ _ (by omega) (by exact_mod_cast Pj) (by exact_mod_cast aoi) (by omega) ?_ (by exact_mod_cast sR)]
    ·rw[cP]; push_cast; rfl
    ·have:c.toNat%128*2^(7*D)%2^(7*D)=0:=Nat.mul_mod_left _ _
     exact_mod_cast this
   rw[aQ,a6];by_cases dv:c.toNat<128
   ·rw[if_pos (by simp; omega)];rw[if_pos dv] at he;exact aq _ _ _ _ he DT BC H
   ·rw[if_neg (by simp; omega)];rw[if_neg dv] at he;have tK:D≤8:=by omega
    refine b2 _ _ ⟨D+1,acc+c.toNat%128*128^D,cb+1,oD,by omega,rfl,by simp only; rw[ls]; omega,?_,DT,BC,he,H⟩ (by simp only; rw[ls]; omega);rw[cP,show 7*(D+1)=7*D+7 from by omega,Nat.pow_add];have:c.toNat%128*2^(7*D)≤127*2^(7*D):=Nat.mul_le_mul_right _ (by omega);have Ow:(2:Nat)^7=128:=rfl;rw[Ow];omega
def Ct(rest:List UInt8):Except Int (Nat×List UInt8):=match oE 8 0 rest with
 |.error e=>.error e
 |.ok (n,r)=>if mX n≠n then .error 25 else .ok (n,r)
theorem anY{ej:ei→World→Prop}{aa:Nat→World→Prop}{a:Nat}{rest:List UInt8}(aK:av.length≤9223372036854775806)(k:dc 1 m (B .u8) s (aS av))(Y:a≤av.length)(ag:av.drop a=rest)(H:E A (m9 l s a::m) w)
  (aF:∀ e cb J,Ct rest=.error e→E A (m9 l s cb::m) J→ej (xP e) J)
  (aq:∀ n r cb J,Ct rest=.ok (n,r)→cb≤av.length→av.drop cb=r→E A (m9 l s cb::m) J→aa n J) :
  nR Pg 188 [.pointer (some ⟨l,0,none⟩)] gK w ej aa:=by
 refine ahj ?_;unfold MJ;refine hU (fun p w=>∃ (D acc cb:Nat) (r:List UInt8),D≤8∧p.1=(acc:Int)∧p.2=(D:Int)∧acc<256^D∧cb≤av.length∧av.drop cb=r∧oE 8 0 rest=oE (8-D) acc r∧E A (m9 l s cb::m) w) (fun p=>(8-p.2).toNat)
  ⟨0,0,a,rest,by omega,rfl,rfl,by simp,Y,ag,rfl,H⟩ ?_
 clear H Y ag;rintro⟨y,t⟩ w ⟨D,acc,cb,r,bI,hm,ao,Pj,Y,ag,he,H⟩ K' b2;simp only at hm ao;subst hm; subst ao;unfold MK;split
 ·rename_i U;have U:D<8:=by simp at U; omega
  rw[show 8-D=(7-D)+1 from by omega] at he;have aKb:256^(D+1)≤18446744073709551616:=by
   have:=Nat.pow_le_pow_right (n:=256) (by omega) (show D+1≤8 by omega);simpa using this
  have aqE:256^(D+1)=256^D*256:=Nat.pow_succ ..;have F:acc*256+256≤256^(D+1):=by rw[aqE]; omega
  refine sl (by omega) ?_;have aQ:IntKind.u64.wrap ((acc:Int)*2^(min ((8:Int)).toNat IntKind.u64.bits))=((acc*256:Nat):Int):=by
   have g6:min ((8:Int)).toNat IntKind.u64.bits=8:=rfl;rw[g6,ls]; omega
  rw[aQ];refine HB aK k Y ag H ?_ ?_
  ·rintro rfl w H;exact aF 22 _ _ (by unfold Ct; rw[he]; rfl) H
  ·rintro c oD w rfl DT BC H;have ao6:c.toNat<256:=c.toNat_lt;have a6:IntKind.u64.wrap (c.toNat:Int)=(c.toNat:Int):=by rw[ls]; omega
   have c_:bits .or .u64 ((acc*256:Nat):Int) (c.toNat:Int)=((acc*256+c.toNat:Nat):Int):=by
    rw[bits_join .u64 64 (by decide) kN 8 _ _ (by omega) (by omega) (by omega) (by omega) (by omega) (by omega)];omega
   rw[a6,c_];simp only[oE] at he;refine b2 _ _ ⟨D+1,acc*256+c.toNat,cb+1,oD,by omega,rfl,by simp only; rw[qH]; omega,by omega,DT,BC,?_,H⟩ (by simp only; rw[qH]; omega);rw[he,show 8-(D+1)=7-D from by omega]
 ·rename_i U;have U:D=8:=by simp at U; omega
  subst U;simp only[Nat.sub_self,oE] at he;have hD:Int.toNat (acc:Int)=acc:=by omega
  rw[hD];refine ap (XH H) ?_;rintro q w ⟨rfl,H⟩;have ie:Ct rest=if mX acc≠acc then .error 25 else .ok (acc,r):=by unfold Ct; rw[he]
  by_cases dO:mX acc≠acc
  ·rw[if_pos (by simp; omega)];rw[if_pos dO] at ie;exact aF 25 _ _ ie H
  ·rw[if_neg (by simp at dO ⊢; omega)];rw[if_neg dO] at ie;exact aq _ _ _ _ ie Y ag H
def Cv(rest:List UInt8):Except Int (List UInt8×List UInt8):=match rdNum rest 0 0 with
 |.error e=>.error e
 |.ok (n,r)=>if 1000<n then .error 24 else if r.length<n then .error 22 else .ok (r.take n,r.drop n)
theorem aH3{ej:ei→World→Prop}{aa:List UInt8→World→Prop}{a:Nat}{rest:List UInt8}(l7:s.len≤s.cap)(aK:av.length≤9223372036854775806)(k:dc 1 m (B .u8) s (aS av))(Y:a≤av.length)(ag:av.drop a=rest)(H:E A (m9 l s a::m) w)
  (aF:∀ e cb J,Cv rest=.error e→E A (m9 l s cb::m) J→ej (xP e) J)
  (aq:∀ n r cb J,Cv rest=.ok (n,r)→cb≤av.length→av.drop cb=r→E A (m9 l s cb::m) J→aa n J) :
  nR Pg 189 [.pointer (some ⟨l,0,none⟩)] qB w ej aa:=by
 have aG:=k.tail.len H;rw[gq] at aG;refine ahk ?_;unfold ML;refine Ra aK k Y ag H ?_ ?_
 ·intro e cb w he H;exact aF e cb w (by unfold Cv; rw[he]) H
 ·intro n r cb w he Y ag H;have rV:Cv rest=if 1000<n then .error 24 else if r.length<n then .error 22 else .ok (r.take n,r.drop n):=by unfold Cv; rw[he]
  by_cases I:1000<n
  ·rw[if_pos (by simp; omega)];rw[if_pos I] at rV;exact aF 24 _ _ rV H
  ·rw[if_neg (by simp; omega)];rw[if_neg I] at rV;have tQ:r.length=av.length-cb:=by rw[← ag,List.length_drop]
   refine dg H fun w H=>?_;refine b3 rfl ?_;refine aj (x:=s) 0 H rfl rfl rfl ?_;refine aj (x:=(cb:Int)) 0 H rfl rfl rfl ?_;rw[aG];have aQ:IntKind.u64.wrap (IntKind.i64.wrap ((av.length:Int)-(cb:Int)))=((r.length:Nat):Int):=by
    rw[wrap_i64 (by omega) (by omega),kN _ (by omega) (by omega)]; omega
   rw[aQ];by_cases O:r.length<n
   ·rw[if_pos (by simp; omega)];rw[if_pos O] at rV;exact aF 22 _ _ rV H
   ·rw[if_neg (by simp; omega)];rw[if_neg O] at rV;refine aj (x:=(cb:Int)) 0 H rfl rfl rfl ?_;have wk:IntKind.i64.wrap (n:Int)=(n:Int):=wrap_i64 (by omega) (by omega);rw[wk];have a6:IntKind.i64.wrap ((cb:Int)+(n:Int))=((cb+n:Nat):Int):=by rw[wrap_i64 (by omega) (by omega)]; omega
    rw[a6];refine dx (x:=((cb+n:Nat):Int)) 0 H rfl rfl (Nat.le_of_ble_eq_true rfl) fun w H=>?_;refine dg H fun w H=>?_;refine aj (x:=s) 0 H rfl rfl rfl ?_;refine aj (x:=((cb+n:Nat):Int)) 0 H rfl rfl rfl ?_;refine aj (x:=((cb+n:Nat):Int)) 0 H rfl rfl rfl ?_;have c_:IntKind.i64.wrap (((cb+n:Nat):Int)-(n:Int))=(cb:Int):=by rw[wrap_i64 (by omega) (by omega)]; omega
    rw[c_];refine oa (by omega) (by omega) (by omega) (by omega) fun q a5=>?_;have ab:=k.tail.sub (fun _=>rfl) a5 (by rw[gq]; omega) H;have ao:((aS av).take (((cb+n:Nat):Int)).toNat).drop ((cb:Int)).toNat=aS (r.take n):=by
     simp only[Int.toNat_natCast];rw[← ag];unfold aS;rw[← List.map_take,← List.map_drop,List.take_drop,Nat.add_comm]
    rw[ao] at ab;refine akw (r:=r.take n) ab ?_;exact aq _ _ _ _ rV (by omega) (by rw[← ag,List.drop_drop]) H
theorem aJn{n:Nat}(h:n<18446744073709551616) :
  bits .xor .i64 (IntKind.i64.wrap (Int.fdiv (n:Int) (2^(min ((1:Int)).toNat IntKind.u64.bits)))) (IntKind.i64.wrap (0-(IntKind.i64.wrap (bits .and .u64 (n:Int) (1:Int)))))=uw n:=by
 have g6:min ((1:Int)).toNat IntKind.u64.bits=1:=rfl;rw[g6,GA,aj6 (by omega) (by omega)];have aQ:IntKind.i64.wrap ((n/2^1:Nat):Int)=((n/2:Nat):Int):=by rw[qH]; omega
 rw[aQ];unfold uw;by_cases aK:n%2=1
 ·rw[if_pos aK];have a6:IntKind.i64.wrap (0-IntKind.i64.wrap ((n:Int)%2))=-1:=by rw[qH,qH]; omega
  rw[a6,aI4 (by omega) (by omega)]
 ·rw[if_neg aK];have a6:IntKind.i64.wrap (0-IntKind.i64.wrap ((n:Int)%2))=0:=by rw[qH,qH]; omega
  rw[a6,aI2 (by omega) (by omega)]
theorem aIn{ej:ei→World→Prop}{aa:e_→World→Prop}{a:Nat}{rest:List UInt8}(l7:s.len≤s.cap)(aK:av.length≤9223372036854775806)(k:dc 1 m (B .u8) s (aS av))(Y:a≤av.length)(ag:av.drop a=rest)(H:E A (m9 l s a::m) w)
  (aF:∀ e cb J,ib rest=.error e→E A (m9 l s cb::m) J→ej (xP e) J)
  (aq:∀ v r cb J,ib rest=.ok (v,r)→cb≤av.length→av.drop cb=r→E A (m9 l s cb::m) J→aa v J) :
  nR Pg 147 [.pointer (some ⟨l,0,none⟩)] hq w ej aa:=by
 refine agJ ?_;unfold Mw;refine bH H fun dX w H=>?_;refine HB aK k.tail Y ag (H.front 1) ?_ ?_
 ·rintro rfl w H;exact aF 22 a w rfl ((H.front 1).drop)
 ·rintro c r w rfl Y ag H;have ao6:c.toNat<256:=c.toNat_lt;have hD:IntKind.i64.wrap (c.toNat:Int)=(c.toNat:Int):=by rw[qH]; omega
  rw[hD];refine bH H fun uK w H=>?_;refine cV (x:=ty) (S:=(⟨(c.toNat:Int),0,0,0,[]⟩:e_)) QO 0 H rfl fun w H=>?_;refine aj (x:=(c.toNat:Int)) 0 H rfl rfl rfl ?_;have g2:∀ (v:e_) (cb:Nat) (w:World),(∀ J,E A (m9 l s cb::m) J→aa v J)→E A (aI uK (hq.cells v) 197::m9 l s cb::aI dX (hq.cells ty) 197::m) w→zh ⟨dX,0,none⟩ ⟨uK,0,none⟩ w aa ej:=by
   intro v cb w aJ H;unfold zh;refine ec (x:=v) 0 H rfl ?_;refine cV (x:=ty) (S:=v) QO 2 H rfl fun w H=>?_;refine ec (x:=v) 0 H rfl ?_
   exact aJ _ ((H.front 2).imp fun _ _ ⟨I,O,aH,bg,dh,il,rU⟩=>⟨I,O,aH,bg,dh,il,iw.mono (ch.le_refl _) (ch.le_refl _) (by
    obtain⟨_,_,_,_,cL,_,br,eN,_,_,yy,_,g⟩:=rU
    exact iw.mono (ch.le_refl _) (ch.le_trans yy cL) g)⟩)
  have tU:dc 1 (aI uK (hq.cells (⟨(c.toNat:Int),0,0,0,[]⟩:e_)) 197::aI dX (hq.cells ty) 197::m) (B .u8) s (aS av):=k.tail.tail;have H:=H.front 1;have GM:∀ e cb J,ib (c::r)=.error e→E A (m9 l s cb::aI uK (hq.cells (⟨(c.toNat:Int),0,0,0,[]⟩:e_)) 197::aI dX (hq.cells ty) 197::m) J→ej (xP e) J:=by
   intro e cb J he H;exact aF e cb J he (((((H.front 1).drop).front 1).drop))
  by_cases I:c.toNat=1
  ·rw[if_pos (by simp[I])];refine Ra aK tU Y ag H ?_ ?_
   ·intro e cb w he H;exact GM e cb w (by simp only[ib,I,if_true,he]) H
   ·intro n oD cb w he Y ag H;refine dx (x:=(n:Int)) 1 H rfl rfl (Nat.le_of_ble_eq_true rfl) fun w H=>?_;refine g2 ⟨(c.toNat:Int),n,0,0,[]⟩ cb w (fun J H=>aq _ oD cb J ?_ Y ag H) H;simp only[ib,I,if_true,he]; rfl
  ·rw[if_neg (by simp; omega)];by_cases O:c.toNat=2
   ·rw[if_pos (by simp[O])];refine Ra aK tU Y ag H ?_ ?_
    ·intro e cb w he H;exact GM e cb w (by simp only[ib,O,if_true,he,show ¬ (2:Nat)=1 from by decide,if_false]) H
    ·intro n oD cb w he Y ag H;obtain⟨dv,_⟩:=Lq he;refine sl (by omega) ?_;rw[aJn dv];refine dx (x:=uw n) 1 H rfl rfl (Nat.le_of_ble_eq_true rfl) fun w H=>?_;refine g2 ⟨(c.toNat:Int),0,uw n,0,[]⟩ cb w (fun J H=>aq _ oD cb J ?_ Y ag H) H;simp only[ib,O,if_true,he,show ¬ (2:Nat)=1 from by decide,if_false]; rfl
   ·rw[if_neg (by simp; omega)];by_cases aH:c.toNat=3
    ·rw[if_pos (by simp[aH])];have ie:ib (c::r)=match Ct r with | .error e=>.error e | .ok (n,q)=>.ok (⟨3,0,0,n,[]⟩,q):=by
      simp only[ib,aH,if_true,show ¬ (3:Nat)=1 from by decide,show ¬ (3:Nat)=2 from by decide,if_false,Ct];cases oE 8 0 r with
      |error e=>rfl
      |ok p=>obtain⟨n,q⟩:=p; simp only; split<;>rfl
     refine anY aK tU Y ag H ?_ ?_
     ·intro e cb w he H;exact GM e cb w (by rw[ie,he]) H
     ·intro n oD cb w he Y ag H;refine dx (T:=gK) (x:=n) 1 H rfl rfl (Nat.le_of_ble_eq_true rfl) fun w H=>?_;refine g2 ⟨(c.toNat:Int),0,0,n,[]⟩ cb w (fun J H=>aq _ oD cb J ?_ Y ag H) H;rw[ie,he,aH]; rfl
    ·rw[if_neg (by simp; omega)];by_cases bg:c.toNat=4
     ·rw[if_pos (by simp[bg])];have ie:ib (c::r)=match Cv r with | .error e=>.error e | .ok (n,q)=>.ok (⟨4,0,0,0,n⟩,q):=by
       simp only[ib,bg,if_true,show ¬ (4:Nat)=1 from by decide,show ¬ (4:Nat)=2 from by decide,show ¬ (4:Nat)=3 from by decide,if_false,Cv];cases rdNum r 0 0 with
       |error e=>rfl
       |ok p=>
        obtain⟨n,q⟩:=p;simp only;split
        ·rfl
        ·split<;>rfl
      refine aH3 l7 aK tU Y ag H ?_ ?_
      ·intro e cb w he H;exact GM e cb w (by rw[ie,he]) H
      ·intro n oD cb w he Y ag H;refine dx (T:=qB) (x:=n) 1 H rfl rfl (Nat.le_of_ble_eq_true rfl) fun w H=>?_;refine g2 ⟨(c.toNat:Int),0,0,0,n⟩ cb w (fun J H=>aq _ oD cb J ?_ Y ag H) H;rw[ie,he,bg]; rfl
     ·rw[if_neg (by simp; omega)];exact GM 21 _ _ (by simp only[ib,I,O,aH,bg,if_false]) H
end
def sp:Nat→List UInt8→List e_→Nat→List e_×Nat×Int
 |0,_,m,_=>(m,0,0)
 |_+1,[],m,_=>(m,0,0)
 |f+1,c::av,m,a=>if m.length=1000 then ([],a,20) else match ib (c::av) with
  |.error e=>([],a,e)
  |.ok (v,r)=>sp f r (m++[v]) (a+(av.length+1-r.length))
def jG(av:List UInt8):List e_×Nat×Int:=sp (av.length+1) av [] 0
theorem X7{av r:List UInt8}{v:e_}(h:ib av=.ok (v,r)):r.length<av.length:=by
 obtain⟨_,_,_,rfl⟩:=X8 h;simp only[iO,List.length_append,List.length_cons];omega
section
variable {A w:World} {m bL:List bu} {s:af} {av:List UInt8}
theorem ak2{aX a3 bP eJ:Nat}{q:af}{uc hD:Int}{a:Nat}{e:Int}{j:af×Int×Int→World→Prop}(H:E A (aI eJ [.int .i64 a] 3::aI aX [X.enc q] 190::aI a3 [.int .i64 uc] 3::aI bP [.int .i64 hD] 43::m) w)
  (aq:∀ J,E A m J→j (fx,(a:Int),e) J):AU ⟨eJ,0,none⟩ ⟨aX,0,none⟩ ⟨a3,0,none⟩ ⟨bP,0,none⟩ j (xP e) w:=by
 unfold AU;refine abB (Ud (aF9 (xP e)) ?_) rfl;unfold IG;rw[if_pos (by rfl)];refine aO (⟨e⟩,true) (.inl ⟨⟨e⟩,rfl,rfl⟩) ?_;refine bH H fun l w H=>?_;refine cV (x:=F4) (S:=(⟨e⟩:j0)) (fun _=>rfl) 0 H rfl fun w H=>?_;rw[if_neg (by simp)];refine dg H fun w H=>?_;refine aj (x:=(a:Int)) 1 H rfl rfl rfl ?_;refine aj (x:=e) 0 H rfl rfl rfl ?_;refine dx (x:=fx) 2 H rfl rfl (Nat.le_of_ble_eq_true rfl) fun w H=>?_;refine⟨bE (B .i64) (H.front 1) rfl rfl,?_⟩;refine dx (x:=(a:Int)) 3 H rfl rfl (Nat.le_of_ble_eq_true rfl) fun w H=>?_;refine⟨bE (B .i64) (H.front 2) rfl rfl,?_⟩;refine dx (x:=e) 4 H rfl rfl (Nat.le_of_ble_eq_true rfl) fun w H=>?_;refine aj (x:=fx) 2 H rfl rfl rfl ?_;refine aj (x:=(a:Int)) 1 H rfl rfl rfl ?_;refine aj (x:=e) 0 H rfl rfl rfl ?_;exact aq _ H.drop.drop.drop.drop.drop
theorem aAG{args:List Value}{a l c d:Addr}{aa:World→Prop}(aq:aa w):yB Pg 146 [.pointer (some a),.pointer (some l),.pointer (some c),.pointer (some d)] .returning w aa:=by
 refine abB (Ud aGa ?_) rfl;unfold IG;rw[if_neg (by simp[ei.isNil])];exact aq
theorem afj(l7:s.len≤s.cap)(aK:av.length≤9223372036854775806)(k:dc 1 m (B .u8) s (aS av))(H:E A m w) :
  M Pg 93 [X.enc s] (mj X (B .i64) (B .i64)) w fun r J=>r.2.1=((jG av).2.1:Int)∧r.2.2=(jG av).2.2∧E A (row hq 197 5 r.1 (jG av).1::m) J:=by
 have aG:=k.len H;rw[gq] at aG;refine ajn ?_;unfold Ny;refine bH H fun aX w H=>?_;refine bH H fun a3 w H=>?_;refine bH H fun bP w H=>?_;refine bH H fun cH w H=>?_;refine bH H fun eJ w H=>?_;refine dx (x:=(0:Int)) 0 H rfl rfl (Nat.le_of_ble_eq_true rfl) fun w H=>?_;have H:=kJ hq 197 5 H
 refine Ek (fun n _ w=>∃ (f a x:Nat) (q:af) (aW:List e_),n=av.length-a∧a≤av.length∧av.length-a<f∧aW.length≤1000∧jG av=sp f (av.drop a) aW a ∧
  E A (m9 cH s a::aI eJ [.int .i64 x] 3::aI aX [X.enc q] 190::row hq 197 5 q aW::aI a3 [.int .i64 0] 3::aI bP [.int .i64 0] 43::m) w) av.length
  ⟨av.length+1,0,0,fx,[],by omega,by omega,by omega,by simp,rfl,H.ord [2,1,5,0,4,3]⟩ ?_
 clear H;rintro n ⟨⟩ w ⟨f,a,x,q,aW,rfl,Y,am,aJ,he,H⟩ aa b2;unfold Nz;refine aj (x:=(a:Int)) 0 H rfl rfl rfl ?_;rw[aG];obtain⟨f,rfl⟩:∃ g,f=g+1:=⟨f-1,by omega⟩
 by_cases dv:a<av.length
 ·rw[if_pos (by simp; omega)];obtain⟨c,r,ag⟩:∃ c r,av.drop a=c::r:=by
   cases h:av.drop a with
   |nil=>have:=congrArg List.length h; simp at this; omega
   |cons c r=>exact⟨c,r,rfl⟩
  have tQ:r.length+1=av.length-a:=by
   have:=congrArg List.length ag;simp at this; omega
  rw[ag] at he;simp only[sp] at he;refine aj (x:=(a:Int)) 0 H rfl rfl rfl ?_;refine dx (x:=(a:Int)) 1 H rfl rfl (Nat.le_of_ble_eq_true rfl) fun w H=>?_;have H:=H.front 1;refine aj (x:=q) 2 H rfl rfl rfl ?_;have a5:q.len=aW.length:=gn (H.front 3);have ZJ:∀ (e:Int) (cb:Nat) (w:World),jG av=([],a,e)→E A (m9 cH s cb::aI eJ [.int .i64 a] 3::aI aX [X.enc q] 190::row hq 197 5 q aW::aI a3 [.int .i64 0] 3::aI bP [.int .i64 0] 43::m) w →
    AU ⟨eJ,0,none⟩ ⟨aX,0,none⟩ ⟨a3,0,none⟩ ⟨bP,0,none⟩ (fun (r:af×Int×Int) J=>r.2.1=((jG av).2.1:Int)∧r.2.2=(jG av).2.2∧E A (row hq 197 5 r.1 (jG av).1::m) J) (xP e) w:=by
   intro e cb w he H;refine ak2 (q:=q) (uc:=0) (hD:=0) (H.ord [0,3]).drop.drop ?_
   ·intro J H;rw[he];exact⟨rfl,rfl,kJ hq 197 5 H⟩
  by_cases h1000:aW.length=1000
  ·rw[if_pos (by simp; omega)];rw[if_pos h1000] at he;exact ZJ 20 a w he H
  ·rw[if_neg (by simp; omega)];rw[if_neg h1000] at he;refine dg H fun w H=>?_;refine aj (x:=q) 2 H rfl rfl rfl ?_;refine aIn l7 aK (k.l4 [aI eJ [.int .i64 a] 3,aI aX [X.enc q] 190,row hq 197 5 q aW,aI a3 [.int .i64 0] 3,aI bP [.int .i64 0] 43]) Y ag H ?_ ?_
   ·intro e cb w JU H;rw[JU] at he;exact ZJ e cb w he H
   ·intro v oD cb w JU DT BC H;rw[JU] at he;refine⟨bE X (H.front 2) rfl rfl,?_⟩;refine nq (fun _=>rfl) 3 H rfl (by simp; omega) fun gu w H=>?_;refine dx (x:=gu) 3 H rfl rfl (Nat.le_of_ble_eq_true rfl) fun w H=>?_;have PB:=X7 JU;have tP:oD.length=av.length-cb:=by rw[← BC,List.length_drop]
    simp only[List.length_cons] at PB;refine b2 (av.length-cb) () _ (by omega) ⟨f,cb,a,gu,aW++[v],rfl,DT,by omega,by simp; omega,?_,H.ord [2,3,0,1]⟩;rw[he,BC];simp only;have Gn:a+(r.length+1-oD.length)=cb:=by omega
    rw[Gn]
 ·have aoV:a=av.length:=by omega
  rw[if_neg (by simp; omega)];rw[aoV,List.drop_length] at he;simp only[sp] at he;rw[he];refine aj (x:=q) 2 H rfl rfl rfl ?_;refine dx (x:=q) 2 H rfl rfl (Nat.le_of_ble_eq_true rfl) fun w H=>?_;refine dx (x:=(0:Int)) 4 H rfl rfl (Nat.le_of_ble_eq_true rfl) fun w H=>?_;refine dx (x:=(0:Int)) 5 H rfl rfl (Nat.le_of_ble_eq_true rfl) fun w H=>?_;refine aAG (args:=[]) ?_;refine aj (x:=q) 2 H rfl rfl rfl ?_;refine aj (x:=(0:Int)) 1 H rfl rfl rfl ?_;refine aj (x:=(0:Int)) 0 H rfl rfl rfl ?_;refine⟨rfl,rfl,?_⟩;exact (H.ord [0,1,2,3,4]).drop.drop.drop.drop.drop
end
structure nj(aW:List e_):Prop where
 p9:∀ v∈aW,In v
 ok:∀ v∈aW,jS v=0
theorem nj.tail{v:e_}{aW:List e_}(h:nj (v::aW)):nj aW:=⟨fun x F=>h.p9 x (by simp[F]),fun x F=>h.ok x (by simp[F])⟩
theorem nj.l4{m y:List e_}(h:nj m)(k:nj y):nj (m++y):=⟨fun x F=>(List.mem_append.1 F).elim (h.p9 x) (k.p9 x),fun x F=>(List.mem_append.1 F).elim (h.ok x) (k.ok x)⟩
theorem nj.left{m y:List e_}(h:nj (m++y)):nj m:=⟨fun x F=>h.p9 x (by simp[F]),fun x F=>h.ok x (by simp[F])⟩
theorem nj.right{m y:List e_}(h:nj (m++y)):nj y:=⟨fun x F=>h.p9 x (by simp[F]),fun x F=>h.ok x (by simp[F])⟩
theorem aIg{f a:Nat}{av r:List UInt8}{m:List e_}{v:e_}(h:ib av=.ok (v,r))(al:m.length≠1000):sp (f+1) av m a=sp f r (m++[v]) (a+(av.length-r.length)):=by
 cases av with
 |nil=>simp[ib] at h
 |cons c av=>
  simp only[sp,h];rw[if_neg al];rfl
theorem afe:∀ {aW:List e_} {f a:Nat} {rest:List UInt8} {m:List e_},nj aW→m.length+aW.length≤1000→sp (f+aW.length) (hS aW++rest) m a=sp f rest (m++aW.map nQ) (a+(hS aW).length)
 |[],f,a,rest,m,_,_=>by simp[hS]
 |v::aW,f,a,rest,m,h,al=>by
  have aJ:=h.ok v (by simp);have aw:=h.p9 v (by simp);simp only[List.length_cons] at al;have e:hS (v::aW)++rest=iO v++(hS aW++rest):=by simp[hS]
  have ag:ib (hS (v::aW)++rest)=.ok (nQ v,hS aW++rest):=by rw[e]; exact al4 aw aJ _
  rw[show f+(v::aW).length=(f+aW.length)+1 from by simp; omega,aIg ag (by omega),afe h.tail (by simp; omega)];have a6:(hS (v::aW)++rest).length-(hS aW++rest).length=(iO v).length:=by rw[e]; simp only[List.length_append]; omega
  have c_:(hS (v::aW)).length=(iO v).length+(hS aW).length:=by simp[hS]
  rw[a6,c_,Nat.add_assoc];simp
theorem OA:∀ aW:List e_,aW.length≤(hS aW).length
 |[]=>by simp
 |v::aW=>by
  have:=OA aW;simp only[hS,List.flatMap_cons,List.length_append,List.length_cons] at *;have:1≤(iO v).length:=by simp[iO]
  omega
theorem aIi{aW:List e_}{rest:List UInt8}(h:nj aW)(al:aW.length≤1000):∃ f,rest.length<f∧jG (hS aW++rest)=sp f rest (aW.map nQ) (hS aW).length:=by
 refine⟨(hS aW++rest).length+1-aW.length,?_,?_⟩
 ·have:=OA aW;rw[List.length_append]; omega
 ·have:=OA aW;have e:(hS aW++rest).length+1=((hS aW++rest).length+1-aW.length)+aW.length:=by rw[List.length_append]; omega
  unfold jG;rw[e,afe h (by simp; omega)];simp
theorem afh{aW:List e_}(h:nj aW)(al:aW.length≤1000):jG (hS aW)=(aW.map nQ,0,0):=by
 obtain⟨f,am,he⟩:=aIi (rest:=[]) h al;rw[List.append_nil] at he;rw[he];obtain⟨g,rfl⟩:∃ g,f=g+1:=⟨f-1,by omega⟩
 rfl
theorem Lp:∀ {av:List UInt8} {k acc:Nat} {e:Int},rdNum av k acc=.error e→e≠0
 |[],k,acc,e,h=>by simp[rdNum] at h; omega
 |c::av,k,acc,e,h=>by
  simp only[rdNum] at h;split at h
  ·simp at h; omega
  ·split at h
   ·cases h
   ·exact Lp h
theorem ad5:∀ {i acc:Nat} {av:List UInt8} {e:Int},oE i acc av=.error e→e≠0
 |0,_,_,_,h=>by simp[oE] at h
 |i+1,acc,[],e,h=>by simp[oE] at h; omega
 |i+1,acc,c::av,e,h=>ad5 (by simpa only[oE] using h)
theorem al5{av:List UInt8}{e:Int}(h:ib av=.error e):e≠0:=by
 cases av with
 |nil=>simp[ib] at h; omega
 |cons c av=>
  simp only[ib] at h;split at h
  ·split at h
   ·rename_i I; injection h with h; subst h; exact Lp I
   ·cases h
  ·split at h
   ·split at h
    ·rename_i I; injection h with h; subst h; exact Lp I
    ·cases h
   ·split at h
    ·split at h
     ·rename_i I; injection h with h; subst h; exact ad5 I
     ·split at h
      ·simp at h; omega
      ·cases h
    ·split at h
     ·split at h
      ·rename_i I; injection h with h; subst h; exact Lp I
      ·split at h
       ·simp at h; omega
       ·split at h
        ·simp at h; omega
        ·cases h
     ·simp at h; omega
theorem aff:∀ {f a:Nat} {av:List UInt8} {m y:List e_} {p:Nat},av.length<f→m.length≤1000→sp f av m a=(y,p,0)→∃ B1,y=m++B1∧nj B1∧(∀ v∈B1,nQ v=v)∧av=hS B1∧y.length≤1000∧p=0
 |0,_,_,_,_,_,h,_,_=>by omega
 |f+1,a,[],m,y,p,_,al,h=>by
  simp only[sp,Prod.mk.injEq] at h;obtain⟨rfl,rfl,_⟩:=h;exact⟨[],by simp,⟨by simp,by simp⟩,by simp,rfl,al,rfl⟩
 |f+1,a,c::av,m,y,p,am,al,h=>by
  simp only[sp] at h;split at h
  ·simp at h
  ·rename_i I;split at h
   ·rename_i e he;simp only[Prod.mk.injEq] at h;exact absurd h.2.2 (al5 he)
   ·rename_i v r ag;have PB:=X7 ag;obtain⟨br,eN,iZ,nt⟩:=X8 ag;obtain⟨B1,df,dT,gI,jB,nY,jP⟩:=aff (by simp at am PB; omega) (by simp; omega) h;refine⟨v::B1,by rw[df]; simp,⟨fun x F=>?_,fun x F=>?_⟩,fun x F=>?_,by rw[nt,jB]; simp[hS],nY,jP⟩
    ·rcases List.mem_cons.1 F with rfl | F
     ·exact br
     ·exact dT.p9 x F
    ·rcases List.mem_cons.1 F with rfl | F
     ·exact eN
     ·exact dT.ok x F
    ·rcases List.mem_cons.1 F with rfl | F
     ·exact iZ
     ·exact gI x F
theorem afi{av:List UInt8}{y:List e_}(h:(jG av).2.2=0)(hm:(jG av).1=y):nj y∧(∀ v∈y,nQ v=v)∧av=hS y∧y.length≤1000:=by
 obtain⟨B1,df,dT,gI,jB,nY,jP⟩:=aff (f:=av.length+1) (a:=0) (av:=av) (m:=[]) (y:=y) (p:=(jG av).2.1) (by omega) (by simp) (by
  show jG av=_
  rw[← h,← hm])
 rw[List.nil_append] at df;subst df;exact⟨dT,gI,jB,nY⟩
end Wire
namespace Store
open bb
structure Row where
 bW:Int
 b6:fu
structure hp where
 rows:List Row
 closed:Int
 mark:Int
def aW(N:List Row)(k:Int):List eD:=(N.filter fun r=>r.b6.Key==k).map fun r=>⟨r.bW,r.b6.V⟩
def upto(m:List eD)(at_:Int):List eD:=m.filter fun v=>decide (v.bW≤at_)
def tG(m:List eD)(at_:Int):Option eD:=(upto m at_).getLast?
def rB(y:hp)(at_:Int):Int:=if at_<0∨at_>1125899906842624 then 120 else if at_>y.closed then 128 else if at_<y.mark then 126 else 0
def pa(m:List eD):eD×Bool:=(m.getLast?.getD ⟨0,0⟩,m.getLast?.isSome)
def xd(N:List Row)(t:Int):List Int→List fu→Int
 |_,[]=>0
 |seen,x::xs=>if x.Key<0∨x.Key>8191 then 123 else if x.Key∈seen then 124 else if (pa (aW N x.Key)).1.bW≥t then 121 else if 10000≤(aW N x.Key).length then 125 else xd N t (seen++[x.Key]) xs
def vv(y:hp)(t:Int)(m:List fu):Int:=
 if t<1∨t>1125899906842624 then 120 else if t≤y.closed then 121 else if m.length>100 then 122 else xd y.rows t [] m
def news(t:Int)(m:List fu):List Row:=m.map fun x=>⟨t,x⟩
def nB(y:hp)(t:Int)(m:List fu):hp:=if vv y t m=0 then { y with rows:=y.rows++news t m } else y
def Jn(t:Int):Int:=if t<0∨t>1125899906842624 then 120 else 0
def sD(y:hp)(t:Int):hp:=if Jn t=0 then { y with closed:=max y.closed t } else y
def gone(mark:Int)(r:Row)(N:List Row):Bool:=N.any fun q=>(q.b6.Key==r.b6.Key)&&decide (q.bW≤mark)
def bz(mark:Int):List Row→List Row
 |[]=>[]
 |r::N=>if gone mark r N=true then bz mark N else r::bz mark N
def o9(mark:Int):List eD→List eD
 |[]=>[]
 |v::m=>if m.any (fun q=>decide (q.bW≤mark))=true then o9 mark m else v::o9 mark m
def vt(y:hp)(t:Int):Int:=if t<0∨t>1125899906842624 then 120 else if t>y.closed then 128 else 0
def sc(y:hp)(t:Int):hp:=if vt y t=0 then ⟨bz (max y.mark t) y.rows,y.closed,max y.mark t⟩ else y
structure Keys(N:List Row)(fw:List Int):Prop where
 ry:fw.Pairwise fun x S=>x<S
 all:∀ k,k∈fw↔aW N k≠[]
def CA(N:List Row)(at_:Int)(fw:List Int):List fu:=fw.filterMap fun k=>(tG (aW N k) at_).map fun v=>⟨k,v.V⟩
structure Inv(y:hp):Prop where
 cap:∀ k,(aW y.rows k).length≤10000
 key:∀ r∈y.rows,0≤r.b6.Key∧r.b6.Key≤8191
 h0:∀ r∈y.rows,1≤r.bW∧r.bW≤1125899906842624
 ry:y.rows.Pairwise fun a l=>a.b6.Key=l.b6.Key→a.bW<l.bW
 mark:0≤y.mark∧y.mark≤y.closed∧y.closed≤1125899906842624
def C9(m:List eD):Prop:=m.Pairwise fun a l=>a.bW<l.bW
theorem Im(N o:List Row)(k:Int):aW (N++o) k=aW N k++aW o k:=by simp[aW]
theorem CD(k:Int):aW [] k=[]:=rfl
theorem y_(r:Row)(N:List Row)(k:Int):aW (r::N) k=if r.b6.Key=k then ⟨r.bW,r.b6.V⟩::aW N k else aW N k:=by
 unfold aW;by_cases h:r.b6.Key=k
 ·rw[if_pos h,List.filter_cons_of_pos (by simpa using h)]; rfl
 ·rw[if_neg h,List.filter_cons_of_neg (by simpa using h)]
theorem aIy{N:List Row}{k:Int}{v:eD}(h:v∈aW N k):∃ r∈N,r.b6.Key=k∧r.bW=v.bW∧r.b6.V=v.V:=by
 unfold aW at h;obtain⟨r,ab,rfl⟩:=List.mem_map.1 h;obtain⟨I,O⟩:=List.mem_filter.1 ab;exact⟨r,I,by simpa using O,rfl,rfl⟩
theorem S0{N:List Row}{k:Int}:aW N k≠[]↔∃ r∈N,r.b6.Key=k:=by
 constructor
 ·intro h;obtain⟨v,aJ⟩:=List.exists_mem_of_ne_nil _ h;obtain⟨r,I,O,_⟩:=aIy aJ;exact⟨r,I,O⟩
 ·rintro⟨r,I,O⟩ h;have:(⟨r.bW,r.b6.V⟩:eD)∈aW N k:=List.mem_map.2 ⟨r,List.mem_filter.2 ⟨I,by simpa using O⟩,rfl⟩;rw[h] at this; cases this
theorem Io{N:List Row}(h:N.Pairwise fun a l=>a.b6.Key=l.b6.Key→a.bW<l.bW)(k:Int):C9 (aW N k):=by
 unfold aW C9;rw[List.pairwise_map];have I:=h.filter (p:=fun r=>r.b6.Key==k);refine List.Pairwise.imp_of_mem ?_ I;intro a l Y ao xX;have Y:=(List.mem_filter.1 Y).2;have ao:=(List.mem_filter.1 ao).2;simp only[beq_iff_eq] at Y ao;exact xX (Y.trans ao.symm)
theorem aBy(mark:Int)(r:Row)(N:List Row):gone mark r N=(aW N r.b6.Key).any fun q=>decide (q.bW≤mark):=by
 unfold gone aW;rw[List.any_map,List.any_filter];rfl
theorem LX(mark:Int)(k:Int):∀ N:List Row,aW (bz mark N) k=o9 mark (aW N k)
 |[]=>rfl
 |r::N=>by
  have b_:=LX mark k N;rw[y_];unfold bz;by_cases h:r.b6.Key=k
  ·rw[if_pos h];have R:gone mark r N=(aW N k).any fun q=>decide (q.bW≤mark):=by rw[aBy,h]
   rw[o9,← R];split
   ·exact b_
   ·rw[y_,if_pos h,b_]
  ·rw[if_neg h];split
   ·exact b_
   ·rw[y_,if_neg h,b_]
theorem QD{mark:Int}:∀ {l:List eD},(∀ v∈l,¬ v.bW≤mark)→o9 mark l=l
 |[],_=>rfl
 |v::l,h=>by
  have aK:¬ l.any (fun q=>decide (q.bW≤mark))=true:=by
   rw[List.any_eq_true];rintro⟨q,a5,ag⟩;exact h q (List.mem_cons_of_mem _ a5) (by simpa using ag)
  rw[o9,if_neg aK,QD fun v aJ=>h v (List.mem_cons_of_mem _ aJ)]
theorem aa9{mark:Int}{l:List eD}(ao:∀ v∈l,¬ v.bW≤mark):∀ {a:List eD},(∀ v∈a,v.bW≤mark)→o9 mark (a++l)=a.drop (a.length-1)++l
 |[],_=>by simpa using QD ao
 |[v],h=>by
  have aK:¬ l.any (fun q=>decide (q.bW≤mark))=true:=by
   rw[List.any_eq_true];rintro⟨q,a5,ag⟩;exact ao q a5 (by simpa using ag)
  show o9 mark (v::l)=_
  rw[o9,if_neg aK,QD ao]; rfl
 |v::u::a,h=>by
  have aK:(u::a++l).any (fun q=>decide (q.bW≤mark))=true:=
   List.any_eq_true.2 ⟨u,by simp,by simpa using h u (by simp)⟩
  show o9 mark (v::(u::a++l))=_
  rw[o9,if_pos aK,aa9 ao fun v aJ=>h v (List.mem_cons_of_mem _ aJ)];simp
structure Place(m:List eD)(at_:Int)(D:Nat):Prop where
 le:D≤m.length
 nx:∀ v∈m.take D,v.bW≤at_
 aw:∀ v∈m.drop D,¬ v.bW≤at_
theorem Place.upto{m:List eD}{at_:Int}{D:Nat}(h:Place m at_ D):upto m at_=m.take D:=by
 unfold Store.upto
 conv=>lhs; rw[← List.take_append_drop D m]
 rw[List.filter_append,List.filter_eq_self.2 fun v aJ=>by simpa using h.nx v aJ,List.filter_eq_nil_iff.2 fun v aJ=>by simpa using h.aw v aJ,List.append_nil]
theorem Place.bz{m:List eD}{at_:Int}{D:Nat}(h:Place m at_ D):o9 at_ m=m.drop (D-1):=by
 conv=>lhs; rw[← List.take_append_drop D m]
 rw[aa9 h.aw h.nx,List.length_take,Nat.min_eq_left h.le]
 conv=>rhs; rw[← List.take_append_drop D m]
 rw[List.drop_append_of_le_length (by rw[List.length_take,Nat.min_eq_left h.le]; omega)]
theorem Place.alM{m:List eD}{at_:Int}(h:Place m at_ 0):tG m at_=none:=by unfold tG; rw[h.upto]; rfl
theorem Place.tG{m:List eD}{at_:Int}{D:Nat}(h:Place m at_ (D+1)):tG m at_=m[D]?:=by
 unfold Store.tG; rw[h.upto,List.getLast?_take,if_neg (by omega)];have:=h.le;rw[show D+1-1=D from rfl,List.getElem?_eq_getElem (by omega)]; rfl
theorem QE(mark:Int):∀ N:List Row,(bz mark N).Sublist N
 |[]=>List.Sublist.refl _
 |r::N=>by
  have:=QE mark N;unfold bz; split
  ·exact this.cons _
  ·exact this.cons_cons _
theorem aba{mark:Int}{m:List eD}(al:C9 m):o9 mark m=[]↔m=[]:=by
 constructor
 ·intro h;induction m with
  |nil=>rfl
  |cons v m b_=>
   unfold o9 at h;split at h
   ·rename_i U;have:=b_ (List.pairwise_cons.1 al).2 h;subst this; simp at U
   ·cases h
 ·rintro rfl; rfl
theorem Keys.aIf{N o:List Row}{fw QC:List Int}(h:Keys N fw)(O:Keys o QC)(he:∀ k,aW N k≠[]↔aW o k≠[]):fw=QC:=by
 have aF:fw.Perm QC:=(List.perm_ext_iff_of_nodup (h.ry.imp fun h=>Int.ne_of_lt h) (O.ry.imp fun h=>Int.ne_of_lt h)).2 fun k=>by rw[h.all,O.all,he]
 exact aF.eq_of_pairwise (fun a l _ _ I O=>by omega) h.ry O.ry
section
variable {A w:World} {m bL:List bu}
structure ke where
 l:Nat
 s:af
 mark:Int
def l6(C:ke)(N:List eD):bu:=dt [aI C.l (v5.cells ⟨C.s,C.mark⟩) 328,row dD 292 2 C.s N]
theorem xE{C:ke}{N:List eD}(H:E A (l6 C N::m) w):E A (aI C.l (v5.cells ⟨C.s,C.mark⟩) 328::row dD 292 2 C.s N::m) w:=H.open_
theorem tE{C:ke}{N:List eD}(H:E A (aI C.l (v5.cells ⟨C.s,C.mark⟩) 328::row dD 292 2 C.s N::m) w):E A (l6 C N::m) w:=
 E.shut (bL:=[aI C.l (v5.cells ⟨C.s,C.mark⟩) 328,row dD 292 2 C.s N]) H
theorem ala(H:E A m w):M Pg 245 [] aE w fun r J=>∃ l,r=some ⟨l,0,none⟩∧E A (l6 ⟨l,fx,0⟩ []::m) J:=by
 refine ahW ?_;unfold Vq;refine bH H fun l dz H=>?_;exact⟨l,rfl,tE ((kJ dD 292 2 H).front 1)⟩
theorem XU{C:ke}{N:List eD}(hm:N.length≤1000000)(H:E A (l6 C N::m) w):M Pg 243 [.pointer (some ⟨C.l,0,none⟩)] (bo dD bf) w fun r J=>r=pa N∧E A (l6 C N::m) J:=by
 refine ahU ?_;unfold Vo;refine bH H fun l dz H=>?_;have H:=xE (H.front 1);have aG:=gn (H.front 1);refine b3 rfl ?_;refine aj (x:=C.s) 0 H rfl rfl rfl ?_;split
 ·rename_i U;have U:N=[]:=List.length_eq_zero_iff.1 (by simp at U; omega);subst U;refine cV (x:=kj) (S:=(⟨0,0⟩:eD)) qf 2 H rfl fun cm H=>?_;refine ec (x:=(⟨0,0⟩:eD)) 0 H rfl ?_;exact⟨rfl,tE H.drop⟩
 ·rename_i U;have U:0<N.length:=by simp at U; omega
  have e:IntKind.i64.wrap (((C.s.len:Int))-1)=(N.length:Int)-1:=by rw[aG]; exact wrap_i64 (by omega) (by omega)
  refine dg H fun cm H=>?_;refine aj (x:=C.s) 0 H rfl rfl rfl ?_;refine aj (x:=C.s) 0 H rfl rfl rfl ?_;rw[e];obtain⟨a,Y⟩:=kI (ar:=2) (i:=(N.length:Int)-1) (H.front 1) (by omega) (by omega);have F:N[((N.length:Int)-1).toNat]?=some N[((N.length:Int)-1).toNat]:=List.getElem?_eq_getElem (by omega);refine aO a Y ?_;refine aO _ (mh (fun _=>rfl) Y F (H.front 1)) ?_;have al:N.getLast?=some N[((N.length:Int)-1).toNat]:=by rw[← F,List.getLast?_eq_getElem?]; congr 1; omega
  generalize N[((N.length:Int)-1).toNat]=x at al;refine cV (x:=kj) (S:=x) qf 2 H rfl fun bh H=>?_;refine ec (x:=x) 0 H rfl ?_;refine⟨?_,tE H.drop⟩;unfold pa; rw[al]; rfl
theorem ak9{C:ke}{N:List eD}(hm:N.length≤1000000)(H:E A (l6 C N::m) w):M Pg 262 [.pointer (some ⟨C.l,0,none⟩)] X w fun r J=>E A (row dD 292 2 r N::l6 C N::m) J:=by
 refine aie ?_;unfold VI;have H:=xE H;have aG:=gn (H.front 1);refine b3 rfl ?_;refine aj (x:=C.s) 0 H rfl rfl rfl ?_;rw[aG];refine Hy (ar:=2) (by omega) (by omega) (by omega) H fun l dz H=>?_;refine aj (x:=C.s) 1 H rfl rfl rfl ?_;refine Jo (fun _=>rfl) H (C8 (H.front 2)) (by simp) fun cm H=>?_;exact (tE ((H.front 1).ord [0,2])).front 1
theorem aGR{n:Int}{hE:cc}{s9:Int→Bool}(ah:0≤n)(I:n≤1000000)(yd:∀ (w:World) (i:Int),0≤i→i<n→E A m w→tF Pg hE [.int .i64 i] bf w fun r J=>r=s9 i∧E A m J)
  (Z7:∀ i D,0≤i→i≤D→D<n→s9 i=true→s9 D=true) (H:E A m w) :
  M Pg 254 [.int .i64 n,hE.enc] (B .i64) w fun r J=>0≤r∧r≤n∧(∀ i,0≤i→i<r→s9 i=false)∧(∀ i,r≤i→i<n→s9 i=true)∧E A m J:=by
 refine ah6 ?_;unfold VA;refine vk (fun p w=>0≤p.1∧p.1≤p.2∧p.2≤n∧(∀ i,0≤i→i<p.1→s9 i=false)∧(∀ i,p.2≤i→i<n→s9 i=true)∧E A m w) (fun p=>(p.2-p.1).toNat)
  ⟨Int.le_refl 0,ah,Int.le_refl _,fun i I O=>by simp only at O; omega,fun i I O=>by simp only at I; omega,H⟩ ?_
 rintro⟨i,D⟩ w ⟨np,lD,aX,aA,a3,H⟩;simp only at np lD aX aA a3;simp only;unfold M0;split
 ·rename_i U;have U:i<D:=by simpa using U
  have hD:IntKind.i64.wrap (i+D)=i+D:=wrap_i64 (by omega) (by omega);have aQ:IntKind.u64.wrap (i+D)=i+D:=by
   unfold IntKind.wrap;simp[IntKind.bits,IntKind.signed];omega
  have a6:Int.fdiv (i+D) (2^(min ((1:Int)).toNat IntKind.u64.bits))=(i+D)/2:=by
   have:(2:Int)^(min ((1:Int)).toNat IntKind.u64.bits)=2:=rfl;rw[this,Int.fdiv_eq_ediv_of_nonneg _ (by omega)]
  rw[hD,aQ,a6];refine aO ((i+D)/2) ⟨by omega,rfl⟩ ?_;have c_:IntKind.i64.wrap ((i+D)/2)=(i+D)/2:=wrap_i64 (by omega) (by omega);have mW:IntKind.i64.wrap ((i+D)/2+1)=(i+D)/2+1:=wrap_i64 (by omega) (by omega);rw[c_,mW];obtain⟨g,c,R,apj,h⟩:=yd w ((i+D)/2) (by omega) (by omega) H;refine⟨g,c,R,apj,ap h ?_⟩;rintro r dz ⟨rfl,H⟩;show if (!s9 ((i+D)/2))=true then _ else _
  split
  ·rename_i ab;have ab:s9 ((i+D)/2)=false:=by simpa using ab
   refine⟨⟨by simp only; omega,by simp only; omega,aX,fun x I O=>?_,a3,H⟩,by simp only; omega⟩;simp only at O;cases aF:s9 x with
   |false=>rfl
   |true=>rw[Z7 x ((i+D)/2) I (by omega) (by omega) aF] at ab; cases ab
  ·rename_i ab;have ab:s9 ((i+D)/2)=true:=by simpa using ab
   refine⟨⟨np,by simp only; omega,by simp only; omega,aA,fun x I O=>?_,H⟩,by simp only; omega⟩;simp only at I;exact Z7 ((i+D)/2) x (by omega) (by omega) O ab
 ·rename_i U;have U:i=D:=by simp at U; omega
  subst U;exact⟨np,aX,aA,a3,H⟩
theorem acG{C:ke}{N:List eD}{at_:Int}(hm:N.length≤1000000)(ab:C9 N)(H:E A (l6 C N::m) w):M Pg 226 [.pointer (some ⟨C.l,0,none⟩),.int .i64 at_] (B .i64) w fun r J=>∃ D:Nat,r=D∧Place N at_ D∧E A (l6 C N::m) J:=by
 refine ahK ?_;unfold Vf;refine bH H fun e5 dz H=>?_;refine bH H fun dX cm H=>?_;have H:=xE (H.front 2);have aG:=gn (H.front 1);refine aj (x:=some ⟨C.l,0,none⟩) 3 H rfl rfl rfl ?_;refine b3 rfl ?_;refine aj (x:=C.s) 0 H rfl rfl rfl ?_;rw[aG];refine ap (aGR (s9:=fun i=>match N[i.toNat]? with | some v=>decide (v.bW>at_) | none=>false) (by omega) (by omega) ?_ ?_ H) ?_
 ·intro w i ah I H;refine⟨255,[.pointer (some ⟨e5,0,none⟩),.pointer (some ⟨dX,0,none⟩)],rfl,am4,?_⟩;refine ah7 ?_;unfold VB;refine dg H fun bh H=>?_;refine aj (x:=some ⟨C.l,0,none⟩) 3 H rfl rfl rfl ?_;refine b3 rfl ?_;refine aj (x:=C.s) 0 H rfl rfl rfl ?_;obtain⟨a,Y⟩:=kI (ar:=2) (i:=i) (H.front 1) ah (by omega);have F:N[i.toNat]?=some N[i.toNat]:=List.getElem?_eq_getElem (by omega);refine aO a Y ?_;refine aO N[i.toNat].bW (qa (fun _=>rfl) Y F rfl (H.front 1)) ?_;refine aj (x:=at_) 2 H rfl rfl rfl ?_;refine⟨?_,H⟩;rw[F]
 ·intro i D ah I O aH;have F:N[i.toNat]?=some N[i.toNat]:=List.getElem?_eq_getElem (by omega);have aB:N[D.toNat]?=some N[D.toNat]:=List.getElem?_eq_getElem (by omega);simp only[F,aB,decide_eq_true_eq] at aH ⊢;rcases Int.lt_or_eq_of_le I with h | h
  ·have:=List.pairwise_iff_getElem.1 ab i.toNat D.toNat (by omega) (by omega) (by omega);omega
  ·subst h; exact aH
 ·rintro r bh ⟨qn,gJ,bs,ga,H⟩;refine⟨r.toNat,by omega,⟨by omega,?_,?_⟩,?_⟩
  ·intro v aJ;obtain⟨i,aw,rfl⟩:=List.mem_take_iff_getElem.1 aJ;have:=bs i (by omega) (by omega);rw[show ((i:Int)).toNat=i from rfl,List.getElem?_eq_getElem (by omega)] at this;simp at this; omega
  ·intro v aJ;obtain⟨i,aw,rfl⟩:=List.mem_drop_iff_getElem.1 aJ;have:=ga (r+i) (by omega) (by omega);rw[show (r+(i:Int)).toNat=r.toNat+i from by omega,List.getElem?_eq_getElem (by omega)] at this;simp at this; omega
  ·exact tE ((H.ord [3,2]).drop.drop)
theorem ak8{C:ke}{N:List eD}{at_:Int}(hm:N.length≤1000000)(ab:C9 N)(ah:0≤at_)(I:at_≤1125899906842624)(O:C.mark≤at_)(H:E A (l6 C N::m) w) :
  M Pg 174 [.pointer (some ⟨C.l,0,none⟩),.int .i64 at_] (bo dD (B .i64)) w fun r J=>r=(match tG N at_ with | none=>((⟨0,0⟩:eD),(114:Int)) | some v=>(v,0))∧E A (l6 C N::m) J:=by
 refine ag6 ?_;unfold UD;refine bH H fun l dz H=>?_;rw[if_neg (by simp; omega)];have H:=xE (H.front 1);have aG:=gn (H.front 1);refine b3 rfl ?_;refine aj (x:=C.mark) 0 H rfl rfl rfl ?_;rw[if_neg (by simp; omega)];refine ap (acG (at_:=at_) hm ab (tE H)) ?_;rintro r cm ⟨D,rfl,aF,H⟩;have H:=xE H;cases D with
 |zero=>
  rw[if_pos (by simp)];refine cV (x:=kj) (S:=(⟨0,0⟩:eD)) qf 2 H rfl fun bh H=>?_;refine ec (x:=(⟨0,0⟩:eD)) 0 H rfl ?_;refine⟨?_,tE H.drop⟩;rw[aF.alM]
 |succ D=>
  rw[if_neg (by simp; omega)];have kZ:=aF.le;refine aj (x:=C.s) 0 H rfl rfl rfl ?_;have e:IntKind.i64.wrap (((D+1:Nat):Int)-1)=D:=by rw[show ((D+1:Nat):Int)-1=D from by omega]; exact wrap_i64 (by omega) (by omega)
  rw[e];obtain⟨a,Y⟩:=kI (ar:=2) (i:=(D:Int)) (H.front 1) (by omega) (by omega);have F:N[((D:Int)).toNat]?=some N[D]:=List.getElem?_eq_getElem (by omega);refine aO a Y ?_;refine aO _ (mh (fun _=>rfl) Y F (H.front 1)) ?_;have U:tG N at_=some N[D]:=by rw[aF.tG]; exact F
  generalize N[D]=x at U;refine cV (x:=kj) (S:=x) qf 2 H rfl fun bh H=>?_;refine ec (x:=x) 0 H rfl ?_;refine⟨?_,tE H.drop⟩;rw[U]
theorem alc{C:ke}{N:List eD}{t v:Int}(hm:N.length<10000)(ah:1≤t)(I:t≤1125899906842624)(O:C.mark<t)(aH:(pa N).1.bW<t)(H:E A (l6 C N::m) w) :
  M Pg 246 [.pointer (some ⟨C.l,0,none⟩),.int .i64 t,.int .i64 v] (B .i64) w fun r J=>∃ s,E A (l6 ⟨C.l,s,C.mark⟩ (N++[⟨t,v⟩])::m) J:=by
 refine ahX ?_;unfold Vr;rw[if_neg (by simp; omega)];refine ap (XU (by omega) H) ?_;rintro r dz ⟨rfl,H⟩;refine bH H fun l cm H=>?_;generalize pa N=q at *;refine cV (x:=kj) (S:=q.1) qf 0 H rfl fun bh H=>?_;refine aO q.1.bW (fun _=>bE (B .i64) H rfl rfl) ?_;have H:=xE (H.front 1);have aG:=gn (H.front 1);refine aO (⟨C.l,0,none⟩:Addr) (fun _=>rfl) ?_;refine aO C.mark (fun _=>bE (B .i64) H rfl rfl) ?_;rw[if_neg (by simp; omega)];refine b3 rfl ?_;refine aj (x:=C.s) 0 H rfl rfl rfl ?_;rw[if_neg (by simp; omega)];refine aj (x:=C.s) 0 H rfl rfl rfl ?_;refine nq (fun _=>rfl) 1 H rfl (by simp; omega) fun s aU H=>?_;refine dx (x:=s) 1 H rfl rfl (Nat.le_of_ble_eq_true rfl) fun a7 H=>?_;exact⟨s,tE (C:=⟨C.l,s,C.mark⟩) ((H.front 2).drop)⟩
theorem alb{C:ke}{N:List eD}{mark:Int}(hm:N.length≤1000000)(ab:C9 N)(ah:0≤mark)(I:mark≤1125899906842624)(O:C.mark≤mark)(H:E A (l6 C N::m) w) :
  M Pg 261 [.pointer (some ⟨C.l,0,none⟩),.int .i64 mark] (B .i64) w fun r J=>∃ s,E A (l6 ⟨C.l,s,mark⟩ (o9 mark N)::m) J:=by
 refine aid ?_;unfold VH;rw[if_neg (by simp; omega)];have H:=xE H;have aG:=gn (H.front 1);refine b3 rfl ?_;refine aj (x:=C.mark) 0 H rfl rfl rfl ?_;rw[show max C.mark mark=mark from by omega];refine dx (x:=mark) 0 H rfl rfl (Nat.le_of_ble_eq_true rfl) fun dz H=>?_;have H:=tE (C:=⟨C.l,C.s,mark⟩) H;have H:=xE H;refine aj (x:=mark) 0 H rfl rfl rfl ?_;refine ap (acG (C:=⟨C.l,C.s,mark⟩) (at_:=mark) hm ab (tE H)) ?_;rintro r cm ⟨D,rfl,aF,H⟩;have H:=xE H;have kZ:=aF.le;refine aj (x:=C.s) 0 H rfl rfl rfl ?_;have e:max (IntKind.i64.wrap ((D:Int)-1)) 0=((D-1:Nat):Int):=by rw[wrap_i64 (by omega) (by omega)]; omega
 rw[e,aF.bz];have a6:IntKind.i64.wrap ((C.s.len:Int)-((D-1:Nat):Int))=((N.length-(D-1):Nat):Int):=by rw[aG,wrap_i64 (by omega) (by omega)]; omega
 rw[a6];refine Hy (ar:=2) (by omega) (by omega) (by omega) H fun l bh H=>?_;refine aj (x:=C.s) 1 H rfl rfl rfl ?_;have l7:C.s.len≤C.s.cap:=EN (H.front 2);refine oa (by omega) (by omega) (by omega) (by omega) fun s1 G6=>?_;have rf:=ad8 (fun _=>rfl) G6 (H.front 2);refine Jo (fun _=>rfl) H rf (by simp) fun aU H=>?_;refine oa (by omega) (by omega) (by omega) (by simp) fun s2 zX=>?_;have c_:s2=⟨some ⟨l,0,none⟩,N.length-(D-1),N.length-(D-1)⟩:=by
  obtain⟨_,_,_,_,h⟩:=zX;rw[h];simp only[Int.toNat_natCast];congr 1;split
  ·rfl
  ·rw[Option.map_some,show ((0:Int).toNat*2)=0 from rfl,lF]
 rw[c_];simp only[Int.toNat_natCast] at H;refine dx (x:=(⟨some ⟨l,0,none⟩,N.length-(D-1),N.length-(D-1)⟩:af)) 1 H rfl rfl (Nat.le_of_ble_eq_true rfl) fun a7 H=>?_;have H:E A (l6 ⟨C.l,⟨some ⟨l,0,none⟩,N.length-(D-1),N.length-(D-1)⟩,mark⟩ (N.drop (D-1))::row dD 292 2 C.s N::m) a7:=tE H;exact⟨_,(H.front 1).drop⟩
end
end Store
namespace Num
open bb
theorem f64:FloatKind.f64.format=Ieee.double:=rfl
def kr(f:Nat):Nat:=if f<4503599627370496 then f else 4503599627370496+f%4503599627370496
def ff(f:Nat):Nat:=if f<4503599627370496 then 0 else f/4503599627370496-1
theorem Ig:Ieee.double.signWeight=9223372036854775808:=by decide
theorem zB:Ieee.double.binade=4503599627370496:=by decide
theorem z2:Ieee.double.infRung=9218868437227405312:=by decide
theorem z9:Ieee.double.leastPlace=-1074:=by decide
theorem DM:Ieee.double.fractionBits=52:=rfl
theorem n2{f:Nat}(h:f<9218868437227405312):Ieee.double.read f=.number false (kr f) (-1074+(ff f:Nat)):=by
 have aQ:(f/9223372036854775808%2==1)=false:=by rw[Nat.div_eq_of_lt (by omega)]; rfl
 have a6:f%9223372036854775808=f:=Nat.mod_eq_of_lt (by omega);unfold Ieee.Format.read kr ff;simp only[Ig,zB,z2,z9,aQ,a6];by_cases c:f<4503599627370496
 ·simp only[if_pos c]; rfl
 ·simp only[if_neg c,if_pos h]
theorem aec{f:Nat}(I:9223372036854775808<f)(O:f<18446744073709551616):(∃ y i,1≤y∧Ieee.double.read f=.number true y i)∨Ieee.double.read f=.infinity true∨∃ t,Ieee.double.read f=.nan true t:=by
 have aQ:(f/9223372036854775808%2==1)=true:=by
  have:f/9223372036854775808=1:=by omega
  rw[this]; rfl
 unfold Ieee.Format.read;simp only[Ig,zB,z2,z9,aQ];by_cases bm:f%9223372036854775808<4503599627370496
 ·simp only[if_pos bm];exact .inl ⟨_,_,by omega,rfl⟩
 ·simp only[if_neg bm];by_cases bB:f%9223372036854775808<9218868437227405312
  ·simp only[if_pos bB];exact .inl ⟨_,_,by omega,rfl⟩
  ·simp only[if_neg bB];by_cases b4:f%9223372036854775808=9218868437227405312
   ·simp only[if_pos b4];exact .inr (.inl (by trivial))
   ·simp only[if_neg b4];exact .inr (.inr ⟨_,rfl⟩)
theorem aF4{f:Nat}(h:f<9223372036854775808):(∃ y i,Ieee.double.read f=.number false y i)∨Ieee.double.read f=.infinity false∨∃ t,Ieee.double.read f=.nan false t:=by
 have aQ:(f/9223372036854775808%2==1)=false:=by
  have:f/9223372036854775808=0:=by omega
  rw[this]; rfl
 unfold Ieee.Format.read;simp only[Ig,zB,z2,z9,aQ];by_cases bm:f%9223372036854775808<4503599627370496
 ·simp only[if_pos bm];exact .inl ⟨_,_,rfl⟩
 ·simp only[if_neg bm];by_cases bB:f%9223372036854775808<9218868437227405312
  ·simp only[if_pos bB];exact .inl ⟨_,_,rfl⟩
  ·simp only[if_neg bB];by_cases b4:f%9223372036854775808=9218868437227405312
   ·simp only[if_pos b4];exact .inr (.inl (by trivial))
   ·simp only[if_neg b4];exact .inr (.inr ⟨_,rfl⟩)
theorem Dy{a l:Int}(h:a<l):compare a l=.lt:=Std.compare_eq_lt.2 h
theorem X1{a l:Int}(h:l<a):compare a l=.gt:=Std.compare_eq_gt.2 h
theorem X0{a l:Int}(h:l≤a):compare a l≠.lt:=fun e=>by
 have:=Std.compare_eq_lt.1 e;omega
theorem aG1{y k:Nat}(h:1≤y):Ieee.signed true y k<0:=by
 unfold Ieee.signed;rw[if_pos rfl,Nat.shiftLeft_eq];have:1≤y*2^k:=Nat.le_trans h (Nat.le_mul_of_pos_right _ (Nat.two_pow_pos k));omega
theorem aG2{y k:Nat}:0≤Ieee.signed false y k:=by
 unfold Ieee.signed;rw[if_neg (by simp)];exact Int.natCast_nonneg _
theorem vB(y k:Nat):Ieee.signed false y k=((y*2^k:Nat):Int):=by
 unfold Ieee.signed;rw[if_neg (by simp),Nat.shiftLeft_eq]
theorem aeD{y k:Nat}(h:1≤y):0<Ieee.signed false y k:=by
 rw[vB];have:1≤y*2^k:=Nat.le_trans h (Nat.le_mul_of_pos_right _ (Nat.two_pow_pos k));omega
theorem aCs{f:Nat}(h:0<f):1≤kr f:=by unfold kr; split<;>omega
theorem Sf:Ieee.double.read 0=.number false 0 (-1074):=by rw[n2 (by omega)]; rfl
theorem aCk{f:Nat}(h:f<9223372036854775808):fO .lss f 0=false:=by
 unfold fO;rw[f64];simp only[Ieee.Format.order,Sf];rcases aF4 h with ⟨y,i,e⟩ | e | ⟨t,e⟩
 ·rw[e];simp only[Ieee.Datum.order];have:Ieee.signed false 0 (-1074-min i (-1074)).toNat=0:=by rw[vB]; simp
  rw[this];have U:=X0 (aG2 (y:=y) (k:=(i-min i (-1074)).toNat));cases cn:compare (Ieee.signed false y (i-min i (-1074)).toNat) 0 with
  |lt=>exact absurd cn U
  |eq=>rfl
  |gt=>rfl
 ·rw[e]; rfl
 ·rw[e]; rfl
theorem aCj{f:Nat}(I:9223372036854775808<f)(O:f<18446744073709551616)(aK:fO .neq f f=false):fO .lss f 0=true:=by
 unfold fO at *;rw[f64] at *;simp only[Ieee.Format.order,Sf] at *;rcases aec I O with ⟨y,i,hm,e⟩ | e | ⟨t,e⟩
 ·rw[e];simp only[Ieee.Datum.order];have:Ieee.signed false 0 (-1074-min i (-1074)).toNat=0:=by rw[vB]; simp
  rw[this,Dy (aG1 hm)];rfl
 ·rw[e]; rfl
 ·rw[e] at aK;cases aK
theorem YO{f:Nat}(ah:0<f)(h:f<9218868437227405312):fO .eql f 0=false:=by
 unfold fO;rw[f64];simp only[Ieee.Format.order,Sf,n2 h,Ieee.Datum.order];have:Ieee.signed false 0 (-1074-min (-1074+(ff f:Int)) (-1074)).toNat=0:=by rw[vB]; simp
 rw[this,X1 (aeD (aCs ah))];rfl
theorem aeb:Ieee.double.read 9218868437227405311=.number false 9007199254740991 971:=by rw[n2 (by omega)]; rfl
theorem QV{f:Nat}(h:f≤4611686018427387904):fO .gtr f 9218868437227405311=false:=by
 unfold fO;rw[f64];simp only[Ieee.Format.order,aeb,n2 (show f<9218868437227405312 by omega),Ieee.Datum.order];have he:ff f≤1023:=by unfold ff; split<;>omega
 have hm:kr f<9007199254740992:=by unfold kr; split<;>omega
 have BJ:min (-1074+(ff f:Int)) 971=-1074+(ff f:Int):=by omega
 rw[BJ,vB,vB];have aQ:(-1074+(ff f:Int)-(-1074+(ff f:Int))).toNat=0:=by omega
 obtain⟨k,aq⟩:∃ k,(971-(-1074+(ff f:Int))).toNat=k+1:=⟨(970-(-1074+(ff f:Int))).toNat,by omega⟩
 rw[aQ,aq];have O:1≤2^k:=Nat.two_pow_pos k;have aH:9007199254740991*2^(k+1)=9007199254740991*2*2^k:=by rw[Nat.pow_succ]; omega
 have bg:9007199254740991*2*1≤9007199254740991*2*2^k:=Nat.mul_le_mul_left _ O;rw[Dy (by rw[aH]; omega)];rfl
theorem aCm{f:Nat}(h:f<4503599627370496):fO .lss f 4503599627370496=true:=by
 have aQ:Ieee.double.read 4503599627370496=.number false 4503599627370496 (-1074):=by rw[n2 (by omega)]; rfl
 have a6:kr f=f:=by unfold kr; rw[if_pos h]
 have c_:ff f=0:=by unfold ff; rw[if_pos h]
 unfold fO;rw[f64];simp only[Ieee.Format.order,aQ,n2 (show f<9218868437227405312 by omega),Ieee.Datum.order,a6,c_,vB];rw[Dy (by simp; omega)];rfl
theorem aCl{f:Nat}(ah:4503599627370496≤f)(h:f<9218868437227405312):fO .lss f 4503599627370496=false:=by
 have aQ:Ieee.double.read 4503599627370496=.number false 4503599627370496 (-1074):=by rw[n2 (by omega)]; rfl
 have a6:4503599627370496≤kr f:=by unfold kr; rw[if_neg (by omega)]; omega
 unfold fO;rw[f64];simp only[Ieee.Format.order,aQ,n2 h,Ieee.Datum.order,vB];have BJ:min (-1074+(ff f:Int)) (-1074)=-1074:=by omega
 rw[BJ];have I:4503599627370496*2^(-1074 - -1074:Int).toNat≤kr f*2^(-1074+(ff f:Int) - -1074).toNat:=by
  have:(-1074 - -1074:Int).toNat=0:=by decide
  rw[this];exact Nat.mul_le_mul a6 (Nat.two_pow_pos _)
 have U:=X0 (Int.ofNat_le.2 I);cases cn:compare ((kr f*2^(-1074+(ff f:Int) - -1074).toNat:Nat):Int) ((4503599627370496*2^(-1074 - -1074:Int).toNat:Nat):Int) with
 |lt=>exact absurd cn U
 |eq=>rfl
 |gt=>rfl
theorem X4{n k q:Nat}(h:n=q*2^k)(aq:k≤n.log2+2)(neg:Bool):Ieee.Toward.even.cut neg n k=q:=by
 unfold Ieee.Toward.cut;simp only[Nat.min_eq_left aq,Nat.shiftLeft_eq,Nat.one_mul];have aF:=Nat.two_pow_pos k;have aQ:n/2^k=q:=by rw[h]; exact Nat.mul_div_cancel _ aF
 have a6:n%2^k=0:=by rw[h]; exact Nat.mul_mod_left _ _
 rw[aQ,a6];have c_:(decide (2^k<2*0)||(2^k==2*0)&&q%2==1)=false:=by
  have:(2^k==2*0)=false:=by
   rw[beq_eq_false_iff_ne];omega
  rw[this];simp
 rw[c_];rfl
theorem mul_one{aT:Nat}(h:aT<4503599627370496):xl .mul 4607182418800017408 (1075*4503599627370496+aT) (1075*4503599627370496+aT):=by
 have aQ:Ieee.double.read 4607182418800017408=.number false 4503599627370496 (-52):=by rw[n2 (by omega)]; rfl
 have a6:Ieee.double.read (1075*4503599627370496+aT)=.number false (4503599627370496+aT) 0:=by
  rw[n2 (by omega)];have bm:kr (1075*4503599627370496+aT)=4503599627370496+aT:=by unfold kr; rw[if_neg (by omega)]; omega
  have bB:ff (1075*4503599627370496+aT)=1074:=by unfold ff; rw[if_neg (by omega)]; omega
  rw[bm,bB]; rfl
 unfold xl floatBits;rw[f64];simp only[Ieee.Format.mul,aQ,a6,Ieee.Datum.product,Option.map_some,Ieee.Format.write];congr 1;unfold Ieee.Format.nearest;have dO:¬ 4503599627370496*(4503599627370496+aT)=0:=by omega
 have wx:(4503599627370496*(4503599627370496+aT)).log2=104:=by
  rw[Nat.log2_eq_iff dO];omega
 rw[if_neg dO];simp only[wx,DM,z9,zB,z2];have GV:max ((-52:Int)+0+((104:Nat):Int)-((52:Nat):Int)) (-1074)=0:=by decide
 rw[GV];have G6:((-52:Int)+0-0).toNat=0:=by decide
 have zX:((0:Int)-(-52+0)).toNat=52:=by decide
 have PT:((0:Int) - -1074).toNat=1074:=by decide
 rw[G6,zX,PT,Nat.shiftLeft_zero];rw[X4 (q:=4503599627370496+aT) (by omega) (by rw[wx]; omega)];show min _ _=_
 omega
theorem afb{aT:Nat}(h:aT<4503599627370496):zl .i64 (1075*4503599627370496+aT) ((4503599627370496+aT:Nat):Int):=by
 have a6:Ieee.double.read (1075*4503599627370496+aT)=.number false (4503599627370496+aT) 0:=by
  rw[n2 (by omega)];have bm:kr (1075*4503599627370496+aT)=4503599627370496+aT:=by unfold kr; rw[if_neg (by omega)]; omega
  have bB:ff (1075*4503599627370496+aT)=1074:=by unfold ff; rw[if_neg (by omega)]; omega
  rw[bm,bB]; rfl
 unfold zl floatToIntVal FloatKind.decode;rw[f64,a6];have Pp:Ieee.Toward.zero.cut false ((4503599627370496+aT) <<< (0:Int).toNat) (-(0:Int)).toNat=4503599627370496+aT:=by
  unfold Ieee.Toward.cut;simp
 simp only[Ieee.Datum.toInt,Ieee.Datum.integral,Pp,vB];have g6:IntKind.i64.min=-9223372036854775808:=rfl;have jR:IntKind.i64.max=9223372036854775807:=rfl;rw[g6,jR];simp;omega
theorem LO:zl .i64 0 0∧zl .i64 9223372036854775808 0:=by
 refine⟨?_,?_⟩
 ·unfold zl; rfl
 ·unfold zl; rfl
theorem aHC{f k:Nat}(ah:0<f)(h:f<2^52)(aq:f.log2=k):k<52∧(f*2^52).log2=k+52∧2^52≤f*2^(52-k)∧f*2^(52-k)<2*2^52∧f*2^52=f*2^(52-k)*2^k:=by
 have wx:=(Nat.log2_eq_iff (Nat.ne_of_gt ah)).1 aq;have D4:k<52:=by
  apply Classical.byContradiction;intro U;have I:2^52≤2^k:=Nat.pow_le_pow_right (Nat.zero_lt_succ 1) (Nat.le_of_not_lt U);exact absurd (Nat.lt_of_lt_of_le h I) (Nat.not_lt_of_le wx.1)
 obtain⟨D,bI⟩:∃ D,D+k=52:=⟨52-k,by omega⟩
 have zS:52-k=D:=by omega
 have aF:(2:Nat)^52=2^D*2^k:=by rw[← Nat.pow_add,bI]
 rw[zS];generalize (2:Nat)^52=b at *;have a0:0<b:=by rw[aF]; exact Nat.mul_pos (Nat.two_pow_pos _) (Nat.two_pow_pos _)
 refine⟨D4,?_,?_,?_,?_⟩
 ·rw[Nat.log2_eq_iff (Nat.ne_of_gt (Nat.mul_pos ah a0))];have c_:(2:Nat)^(k+52)=2^k*b:=by rw[aF,Nat.mul_comm (2^D),← Nat.mul_assoc,← Nat.pow_add,← Nat.pow_add]; congr 1; omega
  have mW:(2:Nat)^(k+52+1)=2^(k+1)*b:=by rw[Nat.pow_succ,c_,Nat.pow_succ,Nat.mul_assoc,Nat.mul_assoc,Nat.mul_comm b]
  rw[c_,mW];exact⟨Nat.mul_le_mul_right _ wx.1,Nat.mul_lt_mul_of_pos_right wx.2 a0⟩
 ·have:=Nat.mul_le_mul_right (2^D) wx.1;rw[Nat.mul_comm (2^k),← aF] at this;exact this
 ·have:=Nat.mul_lt_mul_of_pos_right wx.2 (Nat.two_pow_pos D);have q6:(2:Nat)^(k+1)*2^D=2*b:=by rw[aF,Nat.pow_succ,Nat.mul_comm (2^D),Nat.mul_comm (2^k) 2,Nat.mul_assoc]
  rw[q6] at this;exact this
 ·rw[aF,Nat.mul_assoc]
theorem Xs{x y o:Nat}(F:x<18446744073709551616)(hm:(~~~ BitVec.ofNat 64 y)=BitVec.ofNat 64 o)(iB:o<18446744073709551616):bits .andNot .u64 (x:Int) (y:Int)=((x&&&o:Nat):Int):=by
 have dv:x&&&o<18446744073709551616:=Nat.lt_of_le_of_lt Nat.and_le_left F;simp only[bits,BitVec.ofInt_natCast];have:(BitVec.ofNat IntKind.u64.bits x &&& ~~~ BitVec.ofNat IntKind.u64.bits y).toNat=x&&&o:=by
  show (BitVec.ofNat 64 x &&& ~~~ BitVec.ofNat 64 y).toNat=x&&&o
  rw[hm,BitVec.toNat_and,BitVec.toNat_ofNat,BitVec.toNat_ofNat,Nat.mod_eq_of_lt F,Nat.mod_eq_of_lt iB]
 rw[this];exact kN _ (by omega) (by omega)
theorem ajY{x:Nat}(F:x<18446744073709551616):bits .andNot .u64 (x:Int) 9223372036854775808=((x%9223372036854775808:Nat):Int):=by
 have:=Xs (y:=9223372036854775808) (o:=9223372036854775807) F (by decide) (by omega);rw[show ((9223372036854775808:Nat):Int)=9223372036854775808 from rfl] at this;rw[this];have e:x&&&9223372036854775807=x%2^63:=Nat.and_two_pow_sub_one_eq_mod x 63;rw[e]
theorem Ze{x:Nat}(F:x<9223372036854775808):bits .andNot .u64 (x:Int) 9218868437227405312=((x%4503599627370496:Nat):Int):=by
 have:=Xs (y:=9218868437227405312) (o:=9227875636482146303) (show x<18446744073709551616 by omega) (by decide) (by omega);rw[show ((9218868437227405312:Nat):Int)=9218868437227405312 from rfl] at this;rw[this];have hD:x&&&9223372036854775807=x%2^63:=Nat.and_two_pow_sub_one_eq_mod x 63;have aQ:x=x&&&9223372036854775807:=by rw[hD]; omega
 have a6:x&&&9227875636482146303=x&&&4503599627370495:=by
  conv=>lhs; rw[aQ]
  rw[Nat.and_assoc];rfl
 have c_:x&&&4503599627370495=x%2^52:=Nat.and_two_pow_sub_one_eq_mod x 52;rw[a6,c_]
theorem acp{qN aT:Nat}(O2:qN<2048)(ie:aT<4503599627370496):bits .or .u64 (aT:Int) ((qN*4503599627370496:Nat):Int)=((qN*4503599627370496+aT:Nat):Int):=by
 have I:=(bits_nat .u64 64 (by decide) kN aT (qN*4503599627370496) (by omega) (by omega)).2;have O:=(bits_nat .u64 64 (by decide) kN (qN*4503599627370496) aT (by omega) (by omega)).2;rw[I,Nat.or_comm,← O];rw[bits_join .u64 64 (by decide) kN 52 _ _ (by omega) (by omega) (by omega) (by omega) (by omega) (by omega)];omega
theorem Xr{x:Int}(ah:0≤x)(I:x<2048):bits .and .u64 x 2047=x∧bits .and .i64 x 2047=x:=by
 constructor
 ·have:=bits_mask .u64 64 (by decide) kN 11 (by decide) x ah (by omega);rw[show (2:Int)^11-1=2047 from rfl] at this;rw[this]; omega
 ·have:=bits_mask .i64 63 (by decide) (fun n ah I=>wrap_i64 (by omega) (by omega)) 11 (by decide) x ah (by omega);rw[show (2:Int)^11-1=2047 from rfl] at this;rw[this]; omega
theorem mul_sub{f:Nat}(ah:0<f)(h:f<4503599627370496):∃ z,xl .mul f 4841369599423283200 z∧4503599627370496≤z∧z<60*4503599627370496:=by
 have aQ:Ieee.double.read 4841369599423283200=.number false 4503599627370496 0:=by rw[n2 (by omega)]; rfl
 have a6:Ieee.double.read f=.number false f (-1074):=by
  rw[n2 (by omega)];have bm:kr f=f:=by unfold kr; rw[if_pos h]
  have bB:ff f=0:=by unfold ff; rw[if_pos h]
  rw[bm,bB]; rfl
 have aab:(2:Nat)^52=4503599627370496:=by decide
 obtain⟨k,aq⟩:∃ k,f.log2=k:=⟨_,rfl⟩
 obtain⟨D4,PC,wy,rY,F⟩:=aHC ah (by rw[aab]; exact h) aq;rw[aab] at PC wy rY F;generalize f*2^(52-k)=q at *;have dO:¬ f*4503599627370496=0:=by omega
 refine⟨k*4503599627370496+q,?_,by omega,by omega⟩;unfold xl floatBits;rw[f64];simp only[Ieee.Format.mul,aQ,a6,Ieee.Datum.product,Option.map_some,Ieee.Format.write];congr 1;unfold Ieee.Format.nearest;rw[if_neg dO];simp only[PC,DM,z9,zB,z2];have GV:max ((-1074:Int)+0+((k+52:Nat):Int)-((52:Nat):Int)) (-1074)=-1074+(k:Int):=by omega
 rw[GV];have G6:((-1074:Int)+0-(-1074+(k:Int))).toNat=0:=by omega
 have zX:((-1074+(k:Int))-(-1074+0)).toNat=k:=by omega
 have PT:((-1074+(k:Int)) - -1074).toNat=k:=by omega
 rw[G6,zX,PT,Nat.shiftLeft_zero];rw[X4 (q:=q) F (by rw[PC]; omega)];unfold Ieee.Format.word;rw[if_neg (by simp)];exact Nat.min_eq_left (by omega)
theorem Rs(d:Ieee.Datum):d.order d=if d.isNaN then none else some .eq:=by
 have bm:∀ x:Int,compare x x=.eq:=fun x=>Std.ReflCmp.compare_self;have bB:∀ x:Nat,compare x x=.eq:=fun x=>Std.ReflCmp.compare_self;cases d with
 |nan s t=>rfl
 |infinity s=>simp only[Ieee.Datum.order,bB]; rfl
 |number s y i=>simp only[Ieee.Datum.order,bm]; rfl
theorem Q1{f:Nat}(h:f<9218868437227405312):fO .neq f f=false:=by
 unfold fO;rw[f64];simp only[Ieee.Format.order,Rs,n2 h];rfl
def jo(f:Nat):Prop:=f=9223372036854775808∨f≤4607182418800017408
section
variable {A w:World} {m bL:List bu}
theorem Xo{f:Nat}(am:f<18446744073709551616)(H:E A m w):M Pg 181 [.float .f64 f] gK w fun r J=>r=f%9223372036854775808∧E A m J:=by
 refine UK ?_;unfold MF;rw[ajY am,Int.toNat_natCast];exact⟨rfl,H⟩
theorem aa5{f:Nat}(H:E A m w):M Pg 230 [.float .f64 f] bf w fun r J=>r=fO .neq f f∧E A m J:=by
 refine ahO ?_;unfold Vj;exact⟨rfl,H⟩
theorem inf_spec{f:Nat}{s:Int}(am:f<18446744073709551616)(H:E A m w):M Pg 138 [.float .f64 f,.int .i64 s] bf w fun r J=>r=fO .gtr (if s=0 then f%9223372036854775808 else if s<0 then Op.negFloat .f64 f else f) 9218868437227405311∧E A m J:=by
 refine T6 ?_;unfold Ms CS;by_cases c:s=0
 ·rw[if_pos (by simp[c]),if_pos c];refine ap (Xo am H) ?_;rintro r w ⟨rfl,H⟩;exact⟨rfl,H⟩
 ·rw[if_neg (by simpa using c),if_neg c];by_cases d:s<0
  ·rw[if_pos (by simpa using d),if_pos d];exact⟨rfl,H⟩
  ·rw[if_neg (by simpa using d),if_neg d];exact⟨rfl,H⟩
theorem abQ{f:Nat}(ah:0<f)(h:f<9218868437227405312)(H:E A m w):M Pg 231 [.float .f64 f] (bo gK (B .i64)) w fun r J=>(4503599627370496≤f→r=(f,0))∧(f<4503599627370496→r.2=-52∧4503599627370496≤r.1∧r.1<60*4503599627370496)∧E A m J:=by
 refine ahP ?_;unfold Vk;refine ap (Xo (by omega) H) ?_;rintro r w ⟨rfl,H⟩;rw[Nat.mod_eq_of_lt (by omega)];by_cases c:f<4503599627370496
 ·rw[if_pos (aCm c)];obtain⟨z,bD,I,O⟩:=mul_sub ah c;refine aO z bD ?_;exact⟨fun h=>by omega,fun _=>⟨rfl,I,O⟩,H⟩
 ·rw[if_neg (by rw[aCl (by omega) h]; simp)];exact⟨fun _=>rfl,fun h=>absurd h c,H⟩
theorem Zf{f:Nat}(h:f=0∨f=9223372036854775808)(H:E A m w):M Pg 191 [.float .f64 f] (bo gK (B .i64)) w fun r J=>r=(f,0)∧E A m J:=by
 refine UQ ?_;unfold MM;rw[if_pos (by rcases h with rfl | rfl<;>rfl)];exact⟨rfl,H⟩
theorem abq{f:Nat}{e:Int}(h:f=0∨f=9223372036854775808)(H:E A m w):M Pg 193 [.float .f64 f,.int .i64 e] gK w fun r J=>r=f∧E A m J:=by
 refine UR ?_;unfold MN;rw[if_pos (by rcases h with rfl | rfl<;>rfl)];exact⟨rfl,H⟩
theorem aeH(z:Nat):Int.fdiv (z:Int) (2^(min ((52:Int)).toNat IntKind.u64.bits))=((z/4503599627370496:Nat):Int):=by
 have:(2:Int)^(min ((52:Int)).toNat IntKind.u64.bits)=4503599627370496:=by decide
 rw[this,Int.fdiv_eq_ediv_of_nonneg _ (by omega)];omega
theorem Zg{f:Nat}(ah:0<f)(h:f≤4607182418800017408)(H:E A m w):M Pg 191 [.float .f64 f] (bo gK (B .i64)) w fun r J=>(∃ (aT:Nat) (e:Int),r=(1022*4503599627370496+aT,e)∧aT<4503599627370496∧(4503599627370496≤f→aT=f%4503599627370496∧e=(f/4503599627370496:Nat)-1022)∧(f<4503599627370496→-1100≤e∧e≤-1000))∧E A m J:=by
 refine UQ ?_;unfold MM;rw[if_neg (by rw[YO ah (by omega)]; simp)];refine ap (inf_spec (s:=0) (by omega) H) ?_;rintro r w ⟨rfl,H⟩;rw[if_pos rfl,Nat.mod_eq_of_lt (by omega),QV (by omega),if_neg (by simp)];refine ap (aa5 H) ?_;rintro r w ⟨rfl,H⟩;rw[Q1 (by omega)];unfold IH;rw[if_neg (by simp)];refine ap (abQ ah (by omega) H) ?_;rintro⟨z,e⟩ w ⟨I,O,H⟩;have bD:z<9223372036854775808:=by
  by_cases c:f<4503599627370496
  ·have:=(O c).2.2;simp only at this;omega
  ·have:=I (by omega);cases this;omega
 have O2:z/4503599627370496<2048:=by omega
 dsimp only;rw[aeH z];refine aO ((z/4503599627370496:Nat):Int) ⟨by omega,rfl⟩ ?_;rw[(Xr (x:=((z/4503599627370496:Nat):Int)) (by omega) (by omega)).1,Ze bD];have yj:=acp (qN:=1022) (aT:=z%4503599627370496) (by omega) (by omega);rw[show ((1022*4503599627370496:Nat):Int)=4602678819172646912 from rfl] at yj;rw[yj];have dz:IntKind.i64.wrap ((z/4503599627370496:Nat):Int)=((z/4503599627370496:Nat):Int):=wrap_i64 (by omega) (by omega);have cm:IntKind.i64.wrap (((z/4503599627370496:Nat):Int)-1023)=((z/4503599627370496:Nat):Int)-1023:=wrap_i64 (by omega) (by omega);have bh:IntKind.i64.wrap (((z/4503599627370496:Nat):Int)-1023+1)=((z/4503599627370496:Nat):Int)-1022:=by rw[wrap_i64 (by omega) (by omega)]; omega
 rw[dz,cm,bh];have he:e=0∨e=-52:=by
  by_cases c:f<4503599627370496
  ·exact .inr (O c).1
  ·have:=I (by omega);cases this;exact .inl rfl
 have aU:IntKind.i64.wrap (e+(((z/4503599627370496:Nat):Int)-1022))=e+(((z/4503599627370496:Nat):Int)-1022):=wrap_i64 (by omega) (by omega);rw[aU];refine⟨⟨z%4503599627370496,_,by rw[Int.toNat_natCast],by omega,fun aK=>?_,fun aK=>?_⟩,H⟩
 ·have:=I aK;cases this;exact⟨rfl,by omega⟩
 ·obtain⟨a,l,c⟩:=O aK;simp only at a l c;omega
theorem abr{aT:Nat}(h:aT<4503599627370496)(H:E A m w):M Pg 193 [.float .f64 (1022*4503599627370496+aT),.int .i64 53] gK w fun r J=>r=1075*4503599627370496+aT∧E A m J:=by
 refine UR ?_;unfold MN;rw[if_neg (by rw[YO (by omega) (by omega)]; simp)];refine ap (inf_spec (s:=0) (by omega) H) ?_;rintro r w ⟨rfl,H⟩;rw[if_pos rfl,Nat.mod_eq_of_lt (by omega),QV (by omega),if_neg (by simp)];refine ap (aa5 H) ?_;rintro r w ⟨rfl,H⟩;rw[Q1 (by omega)];unfold II;rw[if_neg (by simp)];refine ap (abQ (by omega) (by omega) H) ?_;rintro⟨z,e⟩ w ⟨I,_,H⟩;have:=I (by omega);cases this;dsimp only;rw[aeH (1022*4503599627370496+aT)];refine aO ((1022:Nat):Int) ⟨by omega,by congr 1; omega⟩ ?_;have dz:IntKind.i64.wrap (((1022:Nat):Int))=1022:=by decide
 rw[dz,(Xr (x:=1022) (by omega) (by omega)).2];have cm:IntKind.i64.wrap (IntKind.i64.wrap (53+0)+IntKind.i64.wrap (1022-1023))=52:=by decide
 rw[cm,if_neg (by decide),if_neg (by decide),if_neg (by decide)];unfold IJ;have bh:IntKind.u64.wrap ((IntKind.u64.wrap (IntKind.i64.wrap (52+1023)))*2^(min ((52:Int)).toNat IntKind.u64.bits))=4841369599423283200:=by decide
 rw[bh];refine aO 4841369599423283200 ⟨by omega,rfl⟩ ?_;dsimp only;rw[Ze (show 1022*4503599627370496+aT<9223372036854775808 by omega)];have aQ:(1022*4503599627370496+aT)%4503599627370496=aT:=by omega
 rw[aQ];have yj:=acp (qN:=1075) (aT:=aT) (by omega) h;rw[show ((1075*4503599627370496:Nat):Int)=4841369599423283200 from rfl] at yj;rw[yj,Int.toNat_natCast];refine aO (1075*4503599627370496+aT) (mul_one h) ?_;exact⟨rfl,H⟩
end
theorem aCI{f:Nat}(h:f<9223372036854775808):Op.negFloat .f64 f=9223372036854775808+f:=by
 have e:(2:Nat)^(FloatKind.f64.format.exponentBits+FloatKind.f64.format.fractionBits)=2^63:=rfl;unfold Op.negFloat;rw[e];have am:f<2^63:=h;have a6:9223372036854775808+f=2^63*1+f:=by omega
 rw[a6];apply Nat.eq_of_testBit_eq;intro D;rw[Nat.testBit_xor,Nat.testBit_two_pow_mul_add 1 am,Nat.testBit_two_pow];by_cases c:D<63
 ·rw[if_pos c];have:decide (63=D)=false:=by simp; omega
  rw[this]; simp
 ·rw[if_neg c];have:f.testBit D=false:=Nat.testBit_lt_two_pow (Nat.lt_of_lt_of_le am (Nat.pow_le_pow_right (by omega) (by omega)));rw[this];by_cases d:63=D
  ·subst d; rfl
  ·have I:decide (63=D)=false:=by simpa using d
   rw[I];have O:Nat.testBit 1 (D-63)=false:=Nat.testBit_lt_two_pow (Nat.one_lt_two_pow (by omega));rw[O]; rfl
theorem aF3{f:Nat}(I:9223372036854775808≤f)(O:f<18446744073709551616):(∃ y i,Ieee.double.read f=.number true y i)∨Ieee.double.read f=.infinity true∨∃ t,Ieee.double.read f=.nan true t:=by
 by_cases c:f=9223372036854775808
 ·subst c;exact .inl ⟨_,_,rfl⟩
 ·rcases aec (show 9223372036854775808<f by omega) O with ⟨y,i,_,e⟩ | h
  ·exact .inl ⟨y,i,e⟩
  ·exact .inr h
theorem abF{f:Nat}(I:9223372036854775808≤f)(O:f<18446744073709551616):fO .gtr f 9218868437227405311=false:=by
 unfold fO;rw[f64];simp only[Ieee.Format.order,aeb];rcases aF3 I O with ⟨y,i,e⟩ | e | ⟨t,e⟩
 ·rw[e];simp only[Ieee.Datum.order];have aG:Ieee.signed true y (i-min i 971).toNat≤0:=by
   unfold Ieee.signed;rw[if_pos rfl];have:=Int.natCast_nonneg (y <<< (i-min i 971).toNat);omega
  rw[Dy (Int.lt_of_le_of_lt aG (aeD (by omega)))];rfl
 ·rw[e]; rfl
 ·rw[e]; rfl
section
variable {A w:World} {m bL:List bu}
theorem Bl{f:Nat}(am:f<18446744073709551616)(H:E A m w):M Pg 87 [.float .f64 f] (B .i64) w fun r J=>(jo f→3≤r∧r≤5)∧(9223372036854775808<f→r<3)∧(3≤r→fO .neq f f=false)∧E A m J:=by
 refine WH ?_;unfold Nu;by_cases aK:fO .neq f f=true
 ·rw[if_pos aK];refine⟨fun h=>?_,fun _=>by omega,fun h=>by omega,H⟩;exfalso;rcases h with rfl | h
  ·exact absurd aK (by decide)
  ·rw[Q1 (by omega)] at aK;cases aK
 ·rw[if_neg aK];have aK:fO .neq f f=false:=by simpa using aK
  by_cases bY:f=0
  ·rw[if_pos (by simp[bY])];exact⟨fun _=>by omega,fun h=>by omega,fun _=>aK,H⟩
  ·rw[if_neg (by simpa using bY)];by_cases bm:f=9223372036854775808
   ·rw[if_pos (by simp[bm])];exact⟨fun _=>by omega,fun h=>by omega,fun _=>aK,H⟩
   ·rw[if_neg (by simp; omega)];refine ap (inf_spec (s:=-1) am H) ?_;rintro r w ⟨ab,H⟩;rw[if_neg (by omega),if_pos (by omega)] at ab;subst ab;by_cases aF:f<9223372036854775808
    ·rw[aCI aF,abF (by omega) (by omega),if_neg (by simp)];refine ap (inf_spec (s:=1) am H) ?_;rintro r w ⟨ab,H⟩;rw[if_neg (by omega),if_neg (by omega)] at ab;subst ab;by_cases hm:fO .gtr f 9218868437227405311=true
     ·rw[if_pos hm];refine⟨fun h=>?_,fun h=>by omega,fun _=>aK,H⟩;exfalso;rcases h with rfl | h
      ·omega
      ·rw[QV (by omega)] at hm;cases hm
     ·rw[if_neg hm,if_neg (by rw[aCk aF]; simp)];exact⟨fun _=>by omega,fun h=>by omega,fun _=>aK,H⟩
    ·split
     ·exact⟨fun h=>by rcases h with h | h<;>omega,fun _=>by omega,fun h=>by omega,H⟩
     ·refine ap (inf_spec (s:=1) am H) ?_;rintro r w ⟨ab,H⟩;rw[if_neg (by omega),if_neg (by omega)] at ab;subst ab;rw[abF (by omega) am,if_neg (by simp),if_pos (aCj (by omega) am aK)];exact⟨fun h=>by rcases h with h | h<;>omega,fun _=>by omega,fun h=>by omega,H⟩
def tT(f:Nat):Int:=if f<9223372036854775808 then (f:Int)+9223372036854775808 else 18446744073709551615-f
theorem abb{f:Nat}(am:f<18446744073709551616)(aK:fO .neq f f=false)(H:E A m w):M Pg 139 [.float .f64 f] (B .u64) w fun r J=>r=tT f∧E A m J:=by
 have amr:(2:Int)^(min ((63:Int)).toNat IntKind.u64.bits)=9223372036854775808:=by decide
 refine agB ?_;unfold T7 tT;rw[if_neg (by rw[aK]; simp),amr,Int.fdiv_eq_ediv_of_nonneg _ (by omega)];refine aO _ ⟨by omega,rfl⟩ ?_;by_cases c:f<9223372036854775808
 ·rw[if_neg (by simp; omega),if_pos c];have:=bits_join .u64 64 (by decide) kN 63 9223372036854775808 (f:Int) (by omega) (by omega) (by omega) (by omega) (by omega) (by omega);have O:=(bits_nat .u64 64 (by decide) kN f 9223372036854775808 (by omega) (by omega)).2;have aH:=(bits_nat .u64 64 (by decide) kN 9223372036854775808 f (by omega) (by omega)).2;have aQ:((9223372036854775808:Nat):Int)=9223372036854775808:=rfl;rw[aQ] at O aH;rw[O,Nat.or_comm,← aH,this];exact⟨by omega,H⟩
 ·rw[if_pos (by simp; omega),if_neg c];have F:bits .xor .u64 IntKind.u64.max (f:Int)=bits .xor .u64 (f:Int) IntKind.u64.max:=by
   simp only[bits,BitVec.xor_comm]
  have I:bits .xor .u64 (f:Int) 18446744073709551615=18446744073709551615-(f:Int):=afQ (by omega) (by omega);have O:IntKind.u64.max=18446744073709551615:=rfl;rw[F,O,I];exact⟨rfl,H⟩
theorem alL{f g:Nat}(am:f<18446744073709551616)(R:g<18446744073709551616)(aK:fO .neq f f=false)(hm:fO .neq g g=false)(H:E A m w):M Pg 88 [.float .f64 f,.float .f64 g] (B .i64) w fun r J=>(0<r↔tT g<tT f)∧E A m J:=by
 refine ajh ?_;unfold WI;refine ap (abb am aK H) ?_;rintro r w ⟨rfl,H⟩;refine ap (abb R hm H) ?_;rintro r w ⟨rfl,H⟩;by_cases c:tT f<tT g
 ·rw[if_pos (by simpa using c)];exact⟨by omega,H⟩
 ·rw[if_neg (by simpa using c)];by_cases d:tT g<tT f
  ·rw[if_pos (by simpa using d)];exact⟨by omega,H⟩
  ·rw[if_neg (by simpa using d)];exact⟨by omega,H⟩
theorem Lo{f:Nat}(am:f<18446744073709551616)(H:E A m w):M Pg 38 [.float .f64 f] (B .i64) w fun r J=>(r=0↔jo f)∧(r≠0→r=43)∧E A m J:=by
 refine aiq ?_;unfold VV IM;refine ap (Bl am H) ?_;rintro r w ⟨I,O,aH,H⟩;by_cases c:r<3
 ·rw[if_pos (by simpa using c),if_pos rfl];exact⟨⟨fun h=>by omega,fun h=>by have:=I h; omega⟩,fun _=>rfl,H⟩
 ·rw[if_neg (by simpa using c)];have kZ:f≤9223372036854775808:=by
   apply Classical.byContradiction;intro U;have:=O (by omega);omega
  refine ap (alL am (by omega) (aH (by omega)) (by decide) H) ?_;rintro q w ⟨a5,H⟩;have aQ:tT 4607182418800017408=4607182418800017408+9223372036854775808:=rfl;rw[aQ] at a5;by_cases d:0<q
  ·rw[if_pos (by simpa using d)];have:=a5.1 d;refine⟨⟨fun h=>by omega,fun h=>?_⟩,fun _=>rfl,H⟩;exfalso;unfold tT at this;rcases h with rfl | h
   ·rw[if_neg (by omega)] at this;omega
   ·rw[if_pos (by omega)] at this;omega
  ·rw[if_neg (by simpa using d)];refine⟨⟨fun _=>?_,fun _=>rfl⟩,fun h=>absurd rfl h,H⟩;by_cases bY:f=9223372036854775808
   ·exact .inl bY
   ·right;have:¬ (4607182418800017408+9223372036854775808:Int)<tT f:=fun h=>d (a5.2 h);unfold tT at this;rw[if_pos (by omega)] at this;omega
theorem uQ{n:Int}(H:E A m w):M Pg 213 [.int .i64 n] (B .i64) w fun r J=>r=(if 0≤n∧n≤1000000000000000 then 0 else 40)∧E A m J:=by
 refine ahy ?_;unfold U2;by_cases c:0≤n∧n≤1000000000000000
 ·rw[if_neg (by simp; omega),if_pos c];exact⟨rfl,H⟩
 ·rw[if_pos (by simp; omega),if_neg c];exact⟨rfl,H⟩
end
def j5(n:Int)(f:Nat):Int:=if f<4503599627370496∨f=9223372036854775808 then 0 else ((n.toNat*(4503599627370496+f%4503599627370496)/2^(1075-f/4503599627370496):Nat):Int)
theorem Jq(b k:Nat)(h:52≤k):b/2^k≤b/4503599627370496:=by
 have aF:(2:Nat)^52=4503599627370496:=by decide
 rw[← aF];exact Nat.div_le_div_left (Nat.pow_le_pow_right (by omega) h) (Nat.two_pow_pos _)
theorem GB{n:Int}{f:Nat}(ah:0≤n)(I:n≤1000000000000000)(h:jo f):0≤j5 n f∧j5 n f≤2*n:=by
 unfold j5;split
 ·omega
 ·rename_i U;have am:f≤4607182418800017408:=by
   rcases h with h | h
   ·omega
   ·exact h
  have ag:=Jq (n.toNat*(4503599627370496+f%4503599627370496)) (1075-f/4503599627370496) (by omega);have hm:n.toNat*(4503599627370496+f%4503599627370496)≤n.toNat*(2*4503599627370496):=Nat.mul_le_mul_left _ (by omega);refine⟨Int.natCast_nonneg _,?_⟩;generalize n.toNat*(4503599627370496+f%4503599627370496)/2^(1075-f/4503599627370496)=Q at *;generalize n.toNat*(4503599627370496+f%4503599627370496)=b6 at *;omega
section
variable {A w:World} {m bL:List bu}
theorem Bo(x:Nat)(k:Nat)(aq:k≤64)(l:Int)(ao:l=(k:Int)):Int.fdiv (x:Int) (2^(min l.toNat IntKind.u64.bits))=((x/2^k:Nat):Int):=by
 subst ao;have e:min ((k:Int)).toNat IntKind.u64.bits=k:=by
  rw[Int.toNat_natCast];exact Nat.min_eq_left aq
 rw[e,Int.fdiv_eq_ediv_of_nonneg _ (Int.le_of_lt (Int.pow_pos (by omega)))];rw[Int.natCast_ediv];congr 1
theorem Cz{n:Int}(ah:0≤n)(I:n≤9223372036854775807)(H:E A m w):M Pg 153 [.int .i64 n] (B .u64) w fun r J=>r=n∧E A m J:=by
 refine Uk ?_;unfold My;rw[if_neg (by simp; omega)];exact⟨kN n ah (by omega),H⟩
theorem aG5{n:Int}(ah:0≤n)(I:n<9223372036854775808)(H:E A m w):M Pg 155 [.bool false,.int .u64 n] (bo (B .i64) (B .i64)) w fun r J=>r=(n,0)∧E A m J:=by
 refine Ul ?_;unfold Mz;rw[if_neg (by simp),if_pos (by simp; omega),wrap_i64 (by omega) (by omega)];exact⟨rfl,H⟩
theorem KK{x S:Nat}(F:x<18446744073709551616)(aB:S<18446744073709551616)(H:E A m w):M Pg 152 [.int .u64 (x:Int),.int .u64 (S:Int)] (bo (B .u64) (B .u64)) w fun r J=>r=(((x*S/18446744073709551616:Nat):Int),((x*S%18446744073709551616:Nat):Int))∧E A m J:=by
 refine agP ?_;unfold Uj;have aEa:(2:Nat)^32=4294967296:=by decide
 have m32:∀ z:Nat,z<18446744073709551616→bits .and .u64 (z:Int) 4294967295=((z%4294967296:Nat):Int):=by
  intro z bD;have:=bits_mask .u64 64 (by decide) kN 32 (by decide) (z:Int) (by omega) (by omega);rw[show (2:Int)^32-1=4294967295 from rfl] at this;rw[this];omega
 have H9:∀ z:Nat,Int.fdiv (z:Int) (2^(min ((32:Int)).toNat IntKind.u64.bits))=((z/4294967296:Nat):Int):=by
  intro z;rw[Bo z 32 (by omega) 32 rfl,aEa]
 have wn:∀ z:Nat,z<18446744073709551616→IntKind.u64.wrap (z:Int)=(z:Int):=fun z bD=>kN _ (by omega) (by omega);rw[m32 x F,m32 S aB];obtain⟨b9,z0⟩:∃ z,x/4294967296=z:=⟨_,rfl⟩
 obtain⟨bx,arE⟩:∃ z,x%4294967296=z:=⟨_,rfl⟩
 obtain⟨gS,BQ⟩:∃ z,S/4294967296=z:=⟨_,rfl⟩
 obtain⟨hy,BP⟩:∃ z,S%4294967296=z:=⟨_,rfl⟩
 have XL:b9≤4294967295:=by omega
 have XK:bx≤4294967295:=by omega
 have XN:gS≤4294967295:=by omega
 have XM:hy≤4294967295:=by omega
 have rZ:x=b9*4294967296+bx:=by omega
 have BR:S=gS*4294967296+hy:=by omega
 refine aO (b9:Int) ⟨by omega,by rw[H9 x,z0]⟩ ?_;refine aO (gS:Int) ⟨by omega,by rw[H9 S,BQ]⟩ ?_;rw[arE,BP];have aJy:bx*hy≤4294967295*4294967295:=Nat.mul_le_mul XK XM;have aJz:bx*gS≤4294967295*4294967295:=Nat.mul_le_mul XK XN;have Xz:b9*hy≤4294967295*4294967295:=Nat.mul_le_mul XL XM;have Ds:b9*gS≤4294967295*4294967295:=Nat.mul_le_mul XL XN;have aKh:x*S=b9*gS*18446744073709551616+(b9*hy+bx*gS)*4294967296+bx*hy:=by
  rw[rZ,BR,Nat.add_mul,Nat.mul_add,Nat.mul_add];have aQ:b9*4294967296*(gS*4294967296)=b9*gS*18446744073709551616:=by rw[Nat.mul_mul_mul_comm]
  have a6:b9*4294967296*hy=b9*hy*4294967296:=by rw[Nat.mul_assoc,Nat.mul_comm 4294967296,← Nat.mul_assoc]
  have c_:bx*(gS*4294967296)=bx*gS*4294967296:=by rw[Nat.mul_assoc]
  rw[aQ,a6,c_,Nat.add_mul];omega
 have akH:((bx:Int)*(hy:Int))=((bx*hy:Nat):Int):=by rw[Int.natCast_mul]
 have akI:((bx:Int)*(gS:Int))=((bx*gS:Nat):Int):=by rw[Int.natCast_mul]
 have akJ:((b9:Int)*(hy:Int))=((b9*hy:Nat):Int):=by rw[Int.natCast_mul]
 have akK:((b9:Int)*(gS:Int))=((b9*gS:Nat):Int):=by rw[Int.natCast_mul]
 have al3:((x:Int)*(S:Int))=((x*S:Nat):Int):=by rw[Int.natCast_mul]
 rw[akH,akI,akJ,akK,al3];generalize bx*hy=d at *;generalize bx*gS=c at *;generalize b9*hy=l at *;generalize b9*gS=a at *;generalize x*S=b at *;rw[wn d (by omega),wn l (by omega),wn c (by omega),wn a (by omega)];refine aO ((d/4294967296:Nat):Int) ⟨by omega,(H9 d).symm⟩ ?_;have aQ:(l:Int)+((d/4294967296:Nat):Int)=((l+d/4294967296:Nat):Int):=by omega
 rw[aQ,wn _ (by omega),m32 _ (by omega)];refine aO (((l+d/4294967296)/4294967296:Nat):Int) ⟨by omega,(H9 _).symm⟩ ?_;have a6:(((l+d/4294967296)%4294967296:Nat):Int)+(c:Int)=(((l+d/4294967296)%4294967296+c:Nat):Int):=by omega
 rw[a6,wn _ (by omega)];refine aO ((((l+d/4294967296)%4294967296+c)/4294967296:Nat):Int) ⟨by omega,(H9 _).symm⟩ ?_;have c_:(a:Int)+(((l+d/4294967296)/4294967296:Nat):Int)=((a+(l+d/4294967296)/4294967296:Nat):Int):=by omega
 rw[c_,wn _ (by omega)];have mW:((a+(l+d/4294967296)/4294967296:Nat):Int)+((((l+d/4294967296)%4294967296+c)/4294967296:Nat):Int)=((a+(l+d/4294967296)/4294967296+((l+d/4294967296)%4294967296+c)/4294967296:Nat):Int):=by omega
 rw[mW,wn _ (by omega)];have q6:IntKind.u64.wrap (b:Int)=((b%18446744073709551616:Nat):Int):=by rw[ls]; omega
 rw[q6];refine⟨?_,H⟩;have xM:a+(l+d/4294967296)/4294967296+((l+d/4294967296)%4294967296+c)/4294967296=b/18446744073709551616:=by omega
 rw[xM]
theorem DC{b k:Nat}(a0:b<2^104)(aq:52≤k)(jj:k≤4000)(H:E A m w):M Pg 156 [.int .u64 ((b/18446744073709551616:Nat):Int),.int .u64 ((b%18446744073709551616:Nat):Int),.int .u64 (k:Int)] (mj (B .u64) bf bf) w fun r J=>r.1=((b/2^k:Nat):Int)∧r.2.2=true∧E A m J:=by
 have yR:(2:Nat)^64=18446744073709551616:=by decide
 have yQ:(2:Nat)^104=18446744073709551616*1099511627776:=by decide
 refine Um ?_;unfold MA;by_cases bm:128≤k
 ·rw[if_pos (by simp; omega)];have:b/2^k=0:=Nat.div_eq_of_lt (Nat.lt_of_lt_of_le a0 (Nat.pow_le_pow_right (by omega) (by omega)));rw[this];exact⟨rfl,rfl,H⟩
 ·rw[if_neg (by simp; omega)];by_cases bB:64<k
  ·rw[if_pos (by simp; omega)];have dz:IntKind.u64.wrap ((k:Int)-64)=((k-64:Nat):Int):=by rw[kN _ (by omega) (by omega)]; omega
   have cm:IntKind.u64.wrap ((128:Int)-(k:Int))=((128-k:Nat):Int):=by rw[kN _ (by omega) (by omega)]; omega
   rw[dz,cm];refine aO _ ⟨by omega,(Bo (b/18446744073709551616) (k-64) (by omega) _ rfl).symm⟩ ?_;refine aO _ ⟨by omega,rfl⟩ ?_;refine⟨?_,rfl,H⟩;have:2^k=18446744073709551616*2^(k-64):=by rw[← yR,← Nat.pow_add]; congr 1; omega
   simp only;rw[this,Nat.div_div_eq_div_mul]
  ·rw[if_neg (by simp; omega)];by_cases b4:k=64
   ·subst b4;rw[if_pos (by simp)];exact⟨by rw[yR],rfl,H⟩
   ·rw[if_neg (by simp; omega)];have dz:IntKind.u64.wrap ((64:Int)-(k:Int))=((64-k:Nat):Int):=by rw[kN _ (by omega) (by omega)]; omega
    rw[dz];obtain⟨D,bI⟩:∃ D,D+k=64:=⟨64-k,by omega⟩
    have zS:64-k=D:=by omega
    rw[zS];have yk:(2:Nat)^D*2^k=18446744073709551616:=by rw[← Nat.pow_add,bI,yR]
    have D4:4503599627370496≤2^k:=by
     have:(2:Nat)^52=4503599627370496:=by decide
     rw[← this];exact Nat.pow_le_pow_right (by omega) aq
    have Py:2^D≤4096:=by
     have:(2:Nat)^12=4096:=by decide
     rw[← this];exact Nat.pow_le_pow_right (by omega) (by omega)
    have ZZ:b/18446744073709551616<1099511627776:=by
     rw[yQ] at a0;exact Nat.div_lt_of_lt_mul a0
    have GX:b%18446744073709551616<18446744073709551616:=Nat.mod_lt _ (by omega);have JL:b=b/18446744073709551616*18446744073709551616+b%18446744073709551616:=by omega
    have hdiv:b/2^k=b/18446744073709551616*2^D+b%18446744073709551616/2^k:=by
     conv=>lhs; rw[JL,← yk,← Nat.mul_assoc]
     rw[yk,Nat.add_comm,Nat.add_mul_div_right _ _ (Nat.two_pow_pos k),Nat.add_comm]
    generalize b/18446744073709551616=aw at *;generalize b%18446744073709551616=nx at *;have l9:nx/2^k<2^D:=Nat.div_lt_of_lt_mul (by rw[Nat.mul_comm,yk]; exact GX);have GQ:aw*2^D≤1099511627776*4096:=Nat.mul_le_mul (by omega) Py;refine aO _ ⟨by omega,(Bo nx k (by omega) _ rfl).symm⟩ ?_;have aQ:IntKind.u64.wrap ((aw:Int)*2^(min ((D:Int)).toNat IntKind.u64.bits))=((aw*2^D:Nat):Int):=by
     have:min ((D:Int)).toNat IntKind.u64.bits=D:=by
      rw[Int.toNat_natCast];exact Nat.min_eq_left (by show D≤64; omega)
     rw[this];have c:(aw:Int)*2^D=((aw*2^D:Nat):Int):=by rw[Int.natCast_mul]; congr 1
     rw[c];exact kN _ (by omega) (by omega)
    refine aO _ ⟨by omega,rfl⟩ ?_;rw[aQ];refine aO _ ⟨by omega,rfl⟩ ?_;refine aO _ ⟨by omega,(Bo aw k (by omega) _ rfl).symm⟩ ?_;have ah:aw/2^k=0:=Nat.div_eq_of_lt (by omega);rw[ah];refine⟨?_,rfl,H⟩;simp only;rw[hdiv];have yj:=(bits_nat .u64 64 (by decide) kN (nx/2^k) (aw*2^D) (by omega) (by omega)).2;rw[yj,Nat.or_comm,Nat.mul_comm aw,← Nat.two_pow_add_eq_or_of_lt l9]
theorem KI{f:Nat}{aa:Nat×Int→World→Prop}(h:M Pg 191 [.float .f64 f] (bo gK (B .i64)) w aa):M Pg 150 [.float .f64 f] (bo gK (B .i64)) w aa:=by
 refine agN ?_;unfold Uh;exact h
theorem KJ{f:Nat}{e:Int}{aa:Nat→World→Prop}(h:M Pg 193 [.float .f64 f,.int .i64 e] gK w aa):M Pg 151 [.float .f64 f,.int .i64 e] gK w aa:=by
 refine agO ?_;unfold Ui;exact h
theorem ae7{n:Int}{f:Nat}(ah:0≤n)(I:n≤1000000000000000)(am:jo f)(H:E A m w):M Pg 95 [.int .i64 n,.float .f64 f] (bo (B .i64) (B .i64)) w fun r J=>r=(j5 n f,0)∧E A m J:=by
 have wv:f<18446744073709551616:=by rcases am with h | h<;>omega
 obtain⟨k,rfl⟩:∃ k:Nat,n=(k:Int):=⟨n.toNat,by omega⟩
 refine WN ?_;unfold NA;refine ap (Bl wv H) ?_;rintro c w ⟨U,_,_,H⟩;have U:=U am;rw[if_neg (by simp; omega),if_neg (by simp; omega)];have xM:(c==6)=false:=by rw[beq_eq_false_iff_ne]; omega
 rw[xM];unfold FT;rw[if_neg (by simp)];by_cases bD:f=0∨f=9223372036854775808
 ·refine KI (ap (Zf bD H) ?_);rintro r w ⟨rfl,H⟩;refine KJ (ap (abq (e:=53) bD H) ?_);rintro r w ⟨rfl,H⟩;refine aO 0 (by rcases bD with h | h<;>subst h; exact LO.1; exact LO.2) ?_;refine ap (Cz ah (by omega) H) ?_;rintro r w ⟨rfl,H⟩;refine ap (Cz (n:=0) (by omega) (by omega) H) ?_;rintro r w ⟨rfl,H⟩;refine ap (KK (x:=k) (S:=0) (by omega) (by omega) H) ?_;rintro r w ⟨rfl,H⟩;rw[if_pos (by simp)];have:j5 k r=0:=by
   unfold j5;rw[if_pos (by omega)]
  rw[this];exact⟨rfl,H⟩
 ·have kZ:0<f∧f≤4607182418800017408:=by rcases am with h | h<;>omega
  refine KI (ap (Zg kZ.1 kZ.2 H) ?_);rintro r w ⟨⟨aT,e,rfl,ie,aK,aG⟩,H⟩;refine KJ (ap (abr ie H) ?_);rintro r w ⟨rfl,H⟩;refine aO _ (afb ie) ?_;refine ap (Cz ah (by omega) H) ?_;rintro r w ⟨rfl,H⟩;refine ap (Cz (n:=((4503599627370496+aT:Nat):Int)) (by omega) (by omega) H) ?_;rintro r w ⟨rfl,H⟩;refine ap (KK (x:=k) (S:=4503599627370496+aT) (by omega) (by omega) H) ?_;rintro r w ⟨rfl,H⟩;have JO:k*(4503599627370496+aT)≤1000000000000000*9007199254740992:=Nat.mul_le_mul (by omega) (by omega);have yQ:(2:Nat)^104=18446744073709551616*1099511627776:=by decide
  have he:e≤1∧-1100≤e∧(f<4503599627370496→e≤-1000):=by
   by_cases c:f<4503599627370496
   ·have:=aG c;omega
   ·have:=(aK (by omega)).2;omega
  have dz:IntKind.i64.wrap (e-53)=e-53:=wrap_i64 (by omega) (by omega);have cm:IntKind.u64.wrap (IntKind.i64.wrap (0-(e-53)))=((53-e).toNat:Nat):=by rw[wrap_i64 (by omega) (by omega),kN _ (by omega) (by omega)]; omega
  dsimp only;rw[dz,cm];have BH:j5 k f=((k*(4503599627370496+aT)/2^(53-e).toNat:Nat):Int):=by
   unfold j5;by_cases c:f<4503599627370496
   ·rw[if_pos (.inl c)];have aq:104≤(53-e).toNat:=by have:=he.2.2 c; omega
    have aF:2^104≤2^(53-e).toNat:=Nat.pow_le_pow_right (by omega) aq;rw[Nat.div_eq_of_lt (Nat.lt_of_lt_of_le (by rw[yQ]; omega) aF)];rfl
   ·rw[if_neg (by omega)];obtain⟨a,l⟩:=aK (by omega);have:(53-e).toNat=1075-f/4503599627370496:=by omega
    rw[this,Int.toNat_natCast,a]
  rw[BH];have a5:=Jq (k*(4503599627370496+aT)) (53-e).toNat (by omega);by_cases F:k*(4503599627370496+aT)=0
  ·rw[if_pos (by rw[F]; simp),F];exact⟨by simp,H⟩
  ·generalize k*(4503599627370496+aT)=b6 at *;rw[if_neg (by simp; omega),if_neg (by simp; omega)];refine ap (DC (b:=b6) (k:=(53-e).toNat) (by rw[yQ]; omega) (by omega) (by omega) H) ?_;rintro⟨q,rest,fits⟩ w ⟨I,O,H⟩;simp only at I O;subst I; subst O;have aQ:decide ((k:Int)<0)=false:=by simp
   have a6:decide (((4503599627370496+aT:Nat):Int)<0)=false:=by rw[decide_eq_false_iff_not]; omega
   rw[aQ,a6];rw[if_neg (by simp),if_neg (by simp)];unfold C0;rw[aQ,a6];generalize b6/2^(53-e).toNat=Q at *;refine ap (aG5 (n:=((Q:Nat):Int)) (by omega) (by omega) H) ?_;rintro r w ⟨rfl,H⟩;exact⟨rfl,H⟩
theorem anU{n:Int}{f:Nat}(ah:0≤n)(I:n≤1000000000000000)(am:jo f)(H:E A m w):M Pg 248 [.int .i64 n,.float .f64 f] (bo (B .i64) (B .i64)) w fun r J=>r=(j5 n f,0)∧E A m J:=by
 have wv:f<18446744073709551616:=by rcases am with h | h<;>omega
 refine ahZ ?_;unfold Vt;refine ap (uQ H) ?_;rintro r w ⟨rfl,H⟩;rw[if_pos (⟨ah,I⟩:0≤n∧n≤1000000000000000),if_neg (by simp)];refine ap (Lo wv H) ?_;rintro r w ⟨O,_,H⟩;have:=O.2 am;subst this;rw[if_neg (by simp)];refine ap (ae7 ah I am H) ?_;rintro r w ⟨rfl,H⟩;exact⟨rfl,H⟩
def ig(n:Int):Prop:=0≤n∧n≤1000000000000000
theorem aIb{a l:Int}{s:af}(k:dc 1 m (B .i64) s [a,l])(H:E A m w):M Pg 260 [X.enc s] (bo (B .i64) (B .i64)) w fun r J=>(r.2=0↔ig a∧ig l∧a+l≤1000000000000000)∧(r.2=0→r.1=a+l)∧E A m J:=by
 have aG:=k.len H;simp only[List.length_cons,List.length_nil] at aG;refine aic ?_;unfold VG;refine hU (fun p w=>(p=(0,0)∨(ig a∧p=(a,1))∨(ig a∧ig l∧p=(a+l,2)))∧E A m w) (fun p=>(2-p.2).toNat) ⟨.inl rfl,H⟩ ?_;clear H;rintro⟨sum,i⟩ w ⟨aw,H⟩ aa b2;unfold M3 IL;simp only;rw[aG];have step:∀ (x:Int) (D:Nat),i=(D:Int)→D<2→([a,l]:List Int)[D]?=some x→sum≤1000000000000000→(ig x→((sum+x,i+1)=(0,0)∨(ig a∧(sum+x,i+1)=(a,1))∨(ig a∧ig l∧(sum+x,i+1)=(a+l,2)))∧-1000000000000000000≤sum)→(¬ ig x→¬ (ig a∧ig l∧a+l≤1000000000000000)) →
   if decide (i<((0+1+1:Nat):Int))=true then
    ex (cD s 1 i) fun cH=>ex (L (B .i64) cH w) fun c3=>M Pg 213 [.int .i64 (c3)] (B .i64) w fun hd cd=>
     if (hd != (0:Int))=true then (((0:Int),(40:Int)).2=0↔ig a∧ig l∧a+l≤1000000000000000)∧(((0:Int),(40:Int)).2=0→((0:Int),(40:Int)).1=a+l)∧E A m cd
     else if (decide (sum≤(1000000000000000:Int)))=true then aa (IntKind.i64.wrap (sum+c3),IntKind.i64.wrap (i+(1:Int))) cd else aa (sum,IntKind.i64.wrap (i+(1:Int))) cd
   else M Pg 213 [.int .i64 sum] (B .i64) w fun hf c1=>if (hf != (0:Int))=true then (((0:Int),(40:Int)).2=0↔ig a∧ig l∧a+l≤1000000000000000)∧(((0:Int),(40:Int)).2=0→((0:Int),(40:Int)).1=a+l)∧E A m c1 else ((sum,(0:Int)).2=0↔ig a∧ig l∧a+l≤1000000000000000)∧((sum,(0:Int)).2=0→(sum,(0:Int)).1=a+l)∧E A m c1:=by
  intro x D GQ bI F J_ ok no;rw[if_pos (by simp; omega)];obtain⟨c,U⟩:=k.iq (i:=i) H (by omega) (by simp; omega);refine aO c U ?_;refine aO x (k.rd U (by rw[GQ,Int.toNat_natCast]; exact F) H) ?_;refine ap (uQ H) ?_;rintro r w ⟨rfl,H⟩;by_cases di:0≤x∧x≤1000000000000000
  ·rw[if_pos di,if_neg (by simp),if_pos (by simpa using J_)];obtain⟨I,O⟩:=ok di;rw[wrap_i64 (x:=sum+x) (by omega) (by omega),wrap_i64 (x:=i+1) (by omega) (by omega)];exact b2 _ _ ⟨I,H⟩ (by simp only; omega)
  ·rw[if_neg di,if_pos (by simp)];exact⟨⟨fun h=>by simp at h,fun h=>absurd h (no di)⟩,fun h=>by simp at h,H⟩
 rcases aw with aw | ⟨Y,aw⟩ | ⟨Y,ao,aw⟩
 ·cases aw;exact step a 0 rfl (by omega) rfl (by omega) (fun h=>⟨.inr (.inl ⟨h,by simp⟩),by omega⟩) fun h cn=>h cn.1
 ·cases aw;exact step l 1 rfl (by omega) rfl Y.2 (fun h=>⟨.inr (.inr ⟨Y,h,by trivial⟩),by have:=Y.1; omega⟩) fun h cn=>h cn.2.1
 ·cases aw;rw[if_neg (by simp)];refine ap (uQ H) ?_;rintro r w ⟨rfl,H⟩;have I:=Y.1;have O:=ao.1;by_cases di:a+l≤1000000000000000
  ·have e:(if 0≤a+l∧a+l≤1000000000000000 then (0:Int) else 40)=0:=if_pos ⟨by omega,di⟩;rw[e,if_neg (by simp)];exact⟨⟨fun _=>⟨Y,ao,di⟩,fun _=>by trivial⟩,fun _=>rfl,H⟩
  ·have e:(if 0≤a+l∧a+l≤1000000000000000 then (0:Int) else 40)=40:=if_neg (fun h=>di h.2);rw[e,if_pos (by simp)];exact⟨⟨fun h=>by simp at h,fun h=>absurd h.2.2 di⟩,fun h=>by simp at h,H⟩
theorem aj4{a l:Int}(H:E A m w):M Pg 247 [.int .i64 a,.int .i64 l] (bo (B .i64) (B .i64)) w fun r J=>(r.2=0↔ig a∧ig l∧a+l≤1000000000000000)∧(r.2=0→r.1=a+l)∧E A m J:=by
 refine ahY ?_;unfold Vs;refine vm H fun iy w H=>?_;have H:=um (ar:=1) (y:=2) rfl H;refine ap (aIb (a:=a) (l:=l) (dc.row (fun _=>rfl) 0 rfl) H) ?_;rintro r w ⟨I,O,H⟩;exact⟨I,O,H.drop⟩
end
end Num
namespace Disk
open bb Wire
def LP(c:Int):Int:=bits .xor .u32 (Int.fdiv c (2^(min ((1:Int)).toNat IntKind.u32.bits))) (bits .and .u32 (IntKind.u32.wrap (0-(bits .and .u32 c (1:Int)))) (3988292384:Int))
def turns:Nat→Int→Int
 |0,c=>c
 |n+1,c=>turns n (LP c)
def r9(c:Int):List UInt8→Int
 |[]=>c
 |x::xs=>r9 (turns 8 (bits .xor .u32 c (IntKind.u32.wrap (x.toNat:Int)))) xs
def SA(a l:List UInt8):Int:=bits .xor .u32 IntKind.u32.max (r9 (r9 4294967295 a) l)
def y1(a l:List UInt8):Nat:=(SA a l).toNat
theorem Dt(op:BinOp)(a l:Int):0≤bits op .u32 a l∧bits op .u32 a l<4294967296:=by
 have h:∀ n:Int,0≤IntKind.u32.wrap n∧IntKind.u32.wrap n<4294967296:=by
  intro n;have:IntKind.u32.wrap n=n%4294967296:=by simp[IntKind.wrap,IntKind.bits,IntKind.signed]
  rw[this]; omega
 exact h _
theorem afd:∀ (n:Nat) (c:Int),0≤c→c<4294967296→0≤turns n c∧turns n c<4294967296
 |0,c,ah,I=>⟨ah,I⟩
 |n+1,c,_,_=>afd n (LP c) (Dt _ _ _).1 (Dt _ _ _).2
theorem acj:∀ (av:List UInt8) (c:Int),0≤c→c<4294967296→0≤r9 c av∧r9 c av<4294967296
 |[],c,ah,I=>⟨ah,I⟩
 |x::xs,c,ah,I=>by
  have h:=afd 8 (bits .xor .u32 c (IntKind.u32.wrap (x.toNat:Int))) (Dt _ _ _).1 (Dt _ _ _).2;exact acj xs _ h.1 h.2
theorem aeR(a l:List UInt8):((y1 a l:Nat):Int)=SA a l:=by
 have:=(Dt .xor IntKind.u32.max (r9 (r9 4294967295 a) l)).1;unfold y1;exact Int.toNat_of_nonneg this
theorem aeS(a l:List UInt8):y1 a l<4294967296:=by
 have:=(Dt .xor IntKind.u32.max (r9 (r9 4294967295 a) l)).2;have h:=aeR a l;unfold SA at h;omega
def g0(x:List UInt8):List UInt8:=be 4 x.length++(be 4 (y1 (be 4 x.length) x)++x)
def ck(m:List (List UInt8)):List UInt8:=m.flatMap g0
theorem uW(x:List UInt8):(g0 x).length=8+x.length:=by simp[g0,uL]; omega
theorem Zh(m y:List (List UInt8)):ck (m++y)=ck m++ck y:=by simp[ck]
def pW:List UInt8→Nat
 |a::l::c::d::_=>((a.toNat*256+l.toNat)*256+c.toNat)*256+d.toNat
 |_=>0
theorem Sa{n:Nat}(h:n<4294967296)(rest:List UInt8):pW (be 4 n++rest)=n:=by
 have ah:(UInt8.ofNat (n/256^3%256)).toNat=n/16777216%256:=by rw[Az (by omega)]
 have I:(UInt8.ofNat (n/256^2%256)).toNat=n/65536%256:=by rw[Az (by omega)]
 have O:(UInt8.ofNat (n/256^1%256)).toNat=n/256%256:=by rw[Az (by omega)]
 have aH:(UInt8.ofNat (n/256^0%256)).toNat=n%256:=by rw[Az (by omega)]; simp
 simp only[be,List.cons_append,pW,ah,I,O,aH];omega
def nz(av:List UInt8):Except Int (List UInt8×Nat):=
 if av.length<8 then .error 31 else if 65536<pW av then .error 30 else if av.length-8<pW av then .error 31
 else if y1 (av.take 4) ((av.drop 8).take (pW av))≠pW (av.drop 4) then .error 32 else .ok ((av.drop 8).take (pW av),8+pW av)
theorem aD2{x:List UInt8}(h:x.length≤65536)(rest:List UInt8):nz (g0 x++rest)=.ok (x,8+x.length):=by
 have e:g0 x++rest=be 4 x.length++(be 4 (y1 (be 4 x.length) x)++(x++rest)):=by simp[g0]
 have gJ:pW (g0 x++rest)=x.length:=by rw[e]; exact Sa (by omega) _
 have d4:(g0 x++rest).drop 4=be 4 (y1 (be 4 x.length) x)++(x++rest):=by
  rw[e]; exact List.drop_left' (uL 4 _)
 have t4:(g0 x++rest).take 4=be 4 x.length:=by rw[e]; exact List.take_left' (uL 4 _)
 have d8:(g0 x++rest).drop 8=x++rest:=by
  have:(g0 x++rest).drop 8=((g0 x++rest).drop 4).drop 4:=by rw[List.drop_drop]
  rw[this,d4]; exact List.drop_left' (uL 4 _)
 have al:(g0 x++rest).length=8+x.length+rest.length:=by rw[List.length_append,uW]
 unfold nz;rw[gJ,d4,t4,d8,Sa (aeS _ _),al,List.take_left];rw[if_neg (by omega),if_neg (by omega),if_neg (by omega),if_neg (by simp)]
theorem aD0{x p q:List UInt8}(h:x.length≤65536)(he:g0 x=p++q)(a5:q≠[]):∃ e,nz p=.error e:=by
 have al:=congrArg List.length he;rw[uW,List.length_append] at al;have j7:q.length≠0:=fun e=>a5 (List.eq_nil_of_length_eq_zero e);unfold nz;by_cases c:p.length<8
 ·exact⟨31,if_pos c⟩
 ·have aR:p.take 4=be 4 x.length:=by
   have:=congrArg (List.take 4) he;rw[List.take_append_of_le_length (by omega)] at this;rw[← this,g0]; exact List.take_left' (uL 4 _)
  have aF:p=be 4 x.length++p.drop 4:=by rw[← aR,List.take_append_drop]
  have gJ:pW p=x.length:=by rw[aF]; exact Sa (by omega) _
  rw[gJ,if_neg c,if_neg (by omega),if_pos (by omega)];exact⟨31,rfl⟩
theorem K5{av x:List UInt8}{n:Nat}(h:nz av=.ok (x,n)):n≤av.length∧8≤n∧n=8+x.length∧x.length≤65536:=by
 unfold nz at h;split at h
 ·cases h
 ·split at h
  ·cases h
  ·split at h
   ·cases h
   ·split at h
    ·cases h
    ·simp only[Except.ok.injEq,Prod.mk.injEq] at h;obtain⟨I,O⟩:=h;have:x.length=pW av:=by rw[← I,List.length_take,List.length_drop]; omega
     omega
def qv:Nat→List UInt8→List (List UInt8)→Nat→List (List UInt8)×Nat
 |0,_,m,a=>(m,a)
 |f+1,av,m,a=>match nz av with
  |.error _=>(m,a)
  |.ok (x,n)=>qv f (av.drop n) (m++[x]) (a+n)
def scan(av:List UInt8):List (List UInt8)×Nat:=qv (av.length+1) av [] 0
def Small(m:List (List UInt8)):Prop:=∀ x∈m,x.length≤65536
theorem aev:∀ {m:List (List UInt8)} {f a:Nat} {p:List UInt8} {y:List (List UInt8)},Small m→(∃ e,nz p=.error e)→m.length<f→qv f (ck m++p) y a=(y++m,a+(ck m).length)
 |[],f,a,p,y,_,⟨e,he⟩,am=>by
  obtain⟨g,rfl⟩:∃ g,f=g+1:=⟨f-1,by simp at am; omega⟩
  simp[ck,qv,he]
 |x::m,f,a,p,y,aG,aF,am=>by
  obtain⟨g,rfl⟩:∃ g,f=g+1:=⟨f-1,by simp at am; omega⟩
  have F:x.length≤65536:=aG x (by simp);have e:ck (x::m)++p=g0 x++(ck m++p):=by simp[ck]
  simp only[qv];rw[e,aD2 F];simp only;rw[show (g0 x++(ck m++p)).drop (8+x.length)=ck m++p from List.drop_left' (uW x)];rw[aev (fun S aB=>aG S (by simp[aB])) aF (by simp at am; omega)];have a6:(ck (x::m)).length=8+x.length+(ck m).length:=by
   have:ck (x::m)=g0 x++ck m:=by simp[ck]
   rw[this,List.length_append,uW]
  rw[a6];simp; omega
theorem Zj:∀ m:List (List UInt8),m.length≤(ck m).length
 |[]=>by simp
 |x::m=>by
  have:=Zj m;have e:ck (x::m)=g0 x++ck m:=by simp[ck]
  rw[e,List.length_append,uW];simp; omega
theorem aGN{m:List (List UInt8)}{p:List UInt8}(aG:Small m)(aF:∃ e,nz p=.error e):scan (ck m++p)=(m,(ck m).length):=by
 unfold scan;rw[aev aG aF (by have:=Zj m; rw[List.length_append]; omega)];simp
theorem Zi:∀ (m:List (List UInt8)) (n:Nat),Small m→n≤(ck m).length→∃ i p,i≤m.length∧(ck m).take n=ck (m.take i)++p∧(∃ e,nz p=.error e)∧∀ k,(ck (m.take k)).length≤n→k≤m.length→k≤i
 |[],n,_,h=>⟨0,[],by simp,by simp[ck],⟨31,rfl⟩,fun k _ h=>by simpa using h⟩
 |x::m,n,aG,h=>by
  have e:ck (x::m)=g0 x++ck m:=by simp[ck]
  have F:x.length≤65536:=aG x (by simp);rw[e,List.length_append] at h;rw[e];by_cases c:n<(g0 x).length
  ·refine⟨0,(g0 x).take n,by simp,?_,?_,?_⟩
   ·rw[List.take_append_of_le_length (by omega)]; simp[ck]
   ·refine aD0 F (List.take_append_drop n _).symm ?_;intro ah;have:=congrArg List.length ah;rw[List.length_drop] at this;simp at this; omega
   ·intro k aq J0;cases k with
    |zero=>omega
    |succ k=>
     have a6:ck ((x::m).take (k+1))=g0 x++ck (m.take k):=by simp[ck]
     rw[a6,List.length_append] at aq;omega
  ·obtain⟨i,p,I,O,aH,bg⟩:=Zi m (n-(g0 x).length) (fun S aB=>aG S (by simp[aB])) (by omega);refine⟨i+1,p,by simp; omega,?_,aH,?_⟩
   ·rw[List.take_append,List.take_of_length_le (by omega),O]; simp[ck]
   ·intro k aq J0;cases k with
    |zero=>omega
    |succ k=>
     have a6:ck ((x::m).take (k+1))=g0 x++ck (m.take k):=by simp[ck]
     rw[a6,List.length_append] at aq;have:=bg k (by omega) (by simpa using J0);omega
theorem zd(n:Int):IntKind.u32.wrap n=n%4294967296:=by simp[IntKind.wrap,IntKind.bits,IntKind.signed]
theorem S7(n:Int)(ah:0≤n)(I:n<2^32):IntKind.u32.wrap n=n:=by rw[zd]; omega
section
variable {A w:World} {m bL:List bu} {s:af} {av:List UInt8}
theorem aCw{Z:Type}{T:bn Z}{t:TypeId}{ar az:Nat}{c:Int}{z:Z}{aa:af→World→Prop}(al:∀ x,(T.cells x).length=ar)(ah:0≤c)(I:(az:Int)*c≤281474976710656)(O:c≤9223372036854775807)(H:E A m w)
  (aq:∀ r J,E A (row T t ar r []::m) J→aa r J):yG t T az z 0 c w aa:=
 ⟨Int.le_refl _,ah,I,O,aq _ _ (un (rest:=(List.replicate c.toNat z).flatMap T.cells) rfl rfl (by simp) (by rw[nU al]; simp) (H.alloc _))⟩
theorem aci{c:Int}(ah:0≤c)(I:c<4294967296)(aK:av.length≤9223372036854775806)(k:dc 1 m (B .u8) s (aS av))(H:E A m w) :
  M Pg 234 [.int .u32 c,X.enc s] (B .u32) w fun r J=>r=r9 c av∧E A m J:=by
 have aG:=k.len H;rw[gq] at aG;refine ahQ ?_;unfold Vl;refine hU (fun p w=>0≤p.2∧p.2≤av.length∧r9 c av=r9 p.1 (av.drop p.2.toNat)∧E A m w) (fun p=>(av.length-p.2).toNat) ⟨Int.le_refl 0,by simp only; omega,rfl,H⟩ ?_;clear H;rintro⟨d,i⟩ w ⟨i0,i1,he,H⟩ aa b2;simp only at i0 i1 he;unfold MS;rw[aG];split
 ·rename_i aw;have aw:i<av.length:=by simpa using aw
  have ag:av.drop i.toNat=av[i.toNat]::av.drop (i.toNat+1):=List.drop_eq_getElem_cons (by omega);have F:(aS av)[i.toNat]?=some (av[i.toNat].toNat:Int):=by
   simp only[aS,List.getElem?_map,List.getElem?_eq_getElem (show i.toNat<av.length by omega),Option.map_some]
  rw[ag] at he;generalize av[i.toNat]=x at F he;obtain⟨a,Y⟩:=k.iq (i:=i) H i0 (by rw[gq]; omega);refine aO a Y ?_;refine aO (x.toNat:Int) (k.rd Y F H) ?_;refine hU (fun p w=>∃ D:Nat,D≤8∧p.2=(D:Int)∧turns (8-D) p.1=turns 8 (bits .xor .u32 d (IntKind.u32.wrap (x.toNat:Int)))∧E A m w) (fun p=>(8-p.2).toNat) ⟨0,by omega,rfl,rfl,H⟩ ?_;clear H;rintro⟨q,D⟩ w ⟨D,bI,rfl,a5,H⟩ FW tL;unfold MT;split
  ·rename_i U;have U:D<8:=by simp at U; omega
   refine sl (by omega) ?_;have u6:8-D=(8-(D+1))+1:=by omega
   rw[u6] at a5;have a5:turns (8-(D+1)) (LP q)=turns 8 (bits .xor .u32 d (IntKind.u32.wrap (x.toNat:Int))):=a5;unfold LP at a5;have ams:IntKind.i64.wrap ((D:Int)+1)=((D+1:Nat):Int):=by rw[qH]; omega
   rw[ams];generalize turns 8 (bits .xor .u32 d (IntKind.u32.wrap (x.toNat:Int)))=z at a5 tL;generalize (bits .xor .u32 (Int.fdiv q (2^(min ((1:Int)).toNat IntKind.u32.bits))) (bits .and .u32 (IntKind.u32.wrap (0-(bits .and .u32 q (1:Int)))) (3988292384:Int)))=S at a5 ⊢;exact tL _ _ ⟨D+1,by omega,rfl,a5,H⟩ (by simp only; omega)
  ·rename_i U;have U:D=8:=by simp at U; omega
   subst U;have aQ:IntKind.i64.wrap (i+1)=i+1:=wrap_i64 (by omega) (by omega);rw[aQ];rw[Nat.sub_self] at a5;have a5:q=turns 8 (bits .xor .u32 d (IntKind.u32.wrap (x.toNat:Int))):=a5;refine b2 _ _ ⟨by simp only; omega,by simp only; omega,?_,H⟩ (by simp only; omega);simp only;have a6:(i+1).toNat=i.toNat+1:=by omega
   rw[he,a6,a5,r9]
 ·rename_i aw;have aw:i=av.length:=by simp at aw; omega
  subst aw;refine⟨?_,H⟩;rw[he]; simp[r9]
theorem XJ{s1 s2:af}{e5 dX:List UInt8}(PG:e5.length≤9223372036854775806)(BL:dX.length≤9223372036854775806)(df:dc 1 m (B .u8) s1 (aS e5))(dT:dc 1 m (B .u8) s2 (aS dX))(H:E A m w) :
  M Pg 196 [X.enc s1,X.enc s2] (B .u32) w fun r J=>r=(y1 e5 dX:Nat)∧E A m J:=by
 refine aho ?_;unfold UU;refine ap (aci (by decide) (by decide) PG df H) ?_;rintro r w ⟨rfl,H⟩;have h:=acj e5 4294967295 (by decide) (by decide);refine ap (aci h.1 h.2 BL dT H) ?_;rintro r w ⟨rfl,H⟩;exact⟨(aeR e5 dX).symm,H⟩
theorem Zd{n:Nat}{xs:List Int}(aK:n<4294967296)(ao:xs.length≤100000000)(i:Nat)(H:E A m w)(aw:front i m=row (B .u8) 5 1 s xs::bL) :
  M Pg 195 [X.enc s,.int .u32 n] X w fun r J=>E A (row (B .u8) 5 1 r (xs++aS (be 4 n))::bL) J:=by
 refine ahn ?_;unfold UT;refine sl (by omega) ?_;refine sl (by omega) ?_;refine sl (by omega) ?_;have g6:min ((24:Int)).toNat IntKind.u32.bits=24:=rfl;have jR:min ((16:Int)).toNat IntKind.u32.bits=16:=rfl;have jC:min ((8:Int)).toNat IntKind.u32.bits=8:=rfl;rw[g6,jR,jC,GA,GA,GA,EU rfl,EU rfl,EU rfl,EU rfl];have e:∀ y:Nat,(UInt8.ofNat y)=UInt8.ofNat (y%256):=fun y=>UInt8.toNat_inj.1 (by simp);have aoZ:[((UInt8.ofNat (n/2^24)).toNat:Int),(UInt8.ofNat (n/2^16)).toNat,(UInt8.ofNat (n/2^8)).toNat,(UInt8.ofNat n).toNat]=aS (be 4 n):=by
  rw[e (n/2^24),e (n/2^16),e (n/2^8),e n];simp[aS,be]
 rw[aoZ];refine nq (fun _=>rfl) i H aw (by rw[gq,uL]; omega) fun r w H=>H
theorem aed(aK:av.length≤9223372036854775806)(bg:4≤av.length)(k:dc 1 m (B .u8) s (aS av))(H:E A m w) :
  M Pg 228 [X.enc s] (B .u32) w fun r J=>r=(pW av:Nat)∧E A m J:=by
 refine ahL ?_;unfold Vg;obtain⟨bY,bm,bB,b4,rest,rfl⟩:∃ bY bm bB b4 rest,av=bY::bm::bB::b4::rest:=by
  rcases av with _ | ⟨bY,_ | ⟨bm,_ | ⟨bB,_ | ⟨b4,rest⟩⟩⟩⟩
  ·simp at bg
  ·simp at bg
  ·simp at bg
  ·simp at bg
  ·exact⟨bY,bm,bB,b4,rest,rfl⟩
 refine dg H fun w H=>?_;obtain⟨np,ah⟩:=k.iq (i:=0) H (by omega) (by rw[gq]; omega);obtain⟨lD,I⟩:=k.iq (i:=1) H (by omega) (by rw[gq]; omega);obtain⟨aX,O⟩:=k.iq (i:=2) H (by omega) (by rw[gq]; omega);obtain⟨aA,aH⟩:=k.iq (i:=3) H (by omega) (by rw[gq]; omega);refine aO np ah ?_;refine aO lD I ?_;refine aO aX O ?_;refine aO aA aH ?_;refine aO (bY.toNat:Int) (k.rd ah (by simp[aS]) H) ?_;refine sl (by omega) ?_;refine aO (bm.toNat:Int) (k.rd I (by simp[aS]) H) ?_;refine sl (by omega) ?_;refine aO (bB.toNat:Int) (k.rd O (by simp[aS]) H) ?_;refine sl (by omega) ?_;refine aO (b4.toNat:Int) (k.rd aH (by simp[aS]) H) ?_;refine⟨?_,H⟩;have cO:=bY.toNat_lt;have br:=bm.toNat_lt;have eN:=bB.toNat_lt;have iZ:=b4.toNat_lt;have g6:min ((24:Int)).toNat IntKind.u32.bits=24:=rfl;have jR:min ((16:Int)).toNat IntKind.u32.bits=16:=rfl;have jC:min ((8:Int)).toNat IntKind.u32.bits=8:=rfl;rw[g6,jR,jC]
 have hD:IntKind.u32.wrap (IntKind.u32.wrap (bY.toNat:Int)*2^24)=(bY.toNat:Int)*16777216:=by rw[zd,zd]; omega
 have aQ:IntKind.u32.wrap (IntKind.u32.wrap (bm.toNat:Int)*2^16)=(bm.toNat:Int)*65536:=by rw[zd,zd]; omega
 have a6:IntKind.u32.wrap (IntKind.u32.wrap (bB.toNat:Int)*2^8)=(bB.toNat:Int)*256:=by rw[zd,zd]; omega
 have c_:IntKind.u32.wrap (b4.toNat:Int)=(b4.toNat:Int):=by rw[zd]; omega
 rw[hD,aQ,a6,c_];rw[bits_join .u32 32 (by decide) S7 24 ((bY.toNat:Int)*16777216) ((bm.toNat:Int)*65536) (by omega) (by omega) (by omega) (by omega) (by omega) (by omega)];rw[bits_join .u32 32 (by decide) S7 16 ((bY.toNat:Int)*16777216+(bm.toNat:Int)*65536) ((bB.toNat:Int)*256) (by omega) (by omega) (by omega) (by omega) (by omega) (by omega)];rw[bits_join .u32 32 (by decide) S7 8 ((bY.toNat:Int)*16777216+(bm.toNat:Int)*65536+(bB.toNat:Int)*256) (b4.toNat:Int) (by omega) (by omega) (by omega) (by omega) (by omega) (by omega)];simp only[pW];omega
theorem aGQ(aK:av.length≤9223372036854775806)(k:dc 1 m (B .u8) s (aS av))(H:E A m w) :
  M Pg 159 [X.enc s] (bo X (B .i64)) w fun r J=>(65536<av.length→r=(fx,30)∧E A m J)∧(av.length≤65536→r.2=0∧E A (row (B .u8) 5 1 r.1 (aS (g0 av))::m) J):=by
 have aG:=k.len H;rw[gq] at aG;refine agS ?_;unfold Up;rw[aG];split
 ·rename_i U;have U:65536<av.length:=by simp at U; omega
  exact⟨fun _=>⟨rfl,H⟩,fun h=>by omega⟩
 ·rename_i U;have U:av.length≤65536:=by simp at U; omega
  have aQ:IntKind.i64.wrap (8+(av.length:Int))=8+(av.length:Int):=wrap_i64 (by omega) (by omega);rw[aQ];refine aCw (ar:=1) (fun _=>rfl) (by omega) (by omega) (by omega) H fun r w H=>?_;have a6:IntKind.u32.wrap (av.length:Int)=((av.length:Nat):Int):=by rw[zd]; omega
  rw[a6];refine ap (Zd (by omega) (by simp) 0 H rfl) ?_;intro r w H;rw[List.nil_append] at H;refine ap (XJ (by rw[uL]; omega) aK (dc.row (fun _=>rfl) 0 rfl) k.tail H) ?_;rintro q w ⟨rfl,H⟩;refine ap (Zd (aeS _ _) (by rw[gq,uL]; omega) 0 H rfl) ?_;intro r w H;rw[← xi] at H;refine Dq (fun _=>rfl) 0 H rfl (k.tail.Cu H) (by simp[gq,uL]; omega) fun r w H=>?_;rw[← xi,List.append_assoc] at H;exact⟨fun h=>by omega,fun _=>⟨rfl,H⟩⟩
theorem IC(av:List UInt8)(n:Nat):aS (av.take n)=(aS av).take n:=by simp[aS,List.map_take]
theorem Me(av:List UInt8)(n:Nat):aS (av.drop n)=(aS av).drop n:=by simp[aS,List.map_drop]
theorem Rp(l7:s.len≤s.cap)(aK:av.length≤9223372036854775806)(k:bX m (cT (B .u8) s (aS av)))(H:E A m w) :
  M Pg 184 [X.enc s] (mj X (B .i64) (B .i64)) w fun r J=>match nz av with
   |.error e=>r.2.2=e∧e≠0∧E A m J
   |.ok (x,n)=>r.2.2=0∧r.2.1=(n:Nat)∧r.1.len≤r.1.cap∧E A (ro (B .u8) r.1 (aS x)::m) J:=by
 have aG:=k.len H;rw[gq] at aG;have fw:dc 1 m (B .u8) s (aS av):=dc.ro (fun _=>rfl) k;refine ahf ?_;unfold UN nz;rw[aG];by_cases U:av.length<8
 ·rw[if_pos (show decide ((av.length:Int)<8)=true by simp; omega),if_pos U];exact⟨rfl,by decide,H⟩
 ·rw[if_neg (show ¬ decide ((av.length:Int)<8)=true by simp; omega),if_neg U];have U:8≤av.length:=by omega
  refine ap (aed aK (by omega) fw H) ?_;rintro r w ⟨rfl,H⟩;have aqH:pW av<4294967296:=by
   obtain⟨bY,bm,bB,b4,rest,rfl⟩:∃ bY bm bB b4 rest,av=bY::bm::bB::b4::rest:=by
    rcases av with _ | ⟨bY,_ | ⟨bm,_ | ⟨bB,_ | ⟨b4,rest⟩⟩⟩⟩
    ·simp at U
    ·simp at U
    ·simp at U
    ·simp at U
    ·exact⟨bY,bm,bB,b4,rest,rfl⟩
   have cO:=bY.toNat_lt;have br:=bm.toNat_lt;have eN:=bB.toNat_lt;have iZ:=b4.toNat_lt;simp only[pW]; omega
  generalize pW av=n at aqH;have aQ:IntKind.i64.wrap (n:Int)=(n:Int):=wrap_i64 (by omega) (by omega);have a6:IntKind.i64.wrap ((av.length:Int)-8)=(av.length:Int)-8:=wrap_i64 (by omega) (by omega);rw[aQ,a6];by_cases I:65536<n
  ·rw[if_pos (show decide ((n:Int)>65536)=true by simp; omega),if_pos I];exact⟨rfl,by decide,H⟩
  ·rw[if_neg (show ¬ decide ((n:Int)>65536)=true by simp; omega),if_neg I];by_cases O:av.length-8<n
   ·rw[if_pos (show decide ((n:Int)>(av.length:Int)-8)=true by simp; omega),if_pos O];exact⟨rfl,by decide,H⟩
   ·rw[if_neg (show ¬ decide ((n:Int)>(av.length:Int)-8)=true by simp; omega),if_neg O];have c_:IntKind.i64.wrap (8+(n:Int))=8+(n:Int):=wrap_i64 (by omega) (by omega);rw[c_];refine dg H fun w H=>?_;refine oa (by omega) (by omega) (by omega) (by omega) fun aes dh=>?_;refine oa (by omega) (by omega) (by omega) (by omega) fun w3 il=>?_;refine oa (by omega) (by omega) (by omega) (by omega) fun H_ rU=>?_;have nY:=k.sub (fun _=>rfl) dh (by rw[gq]; omega);have jP:=k.sub (fun _=>rfl) il (by rw[gq]; omega);have sX:=k.sub (fun _=>rfl) rU (by rw[gq]; omega);have l5:((aS av).take ((4:Int)).toNat).drop ((0:Int)).toNat=aS (av.take 4):=by rw[IC]; rfl
    have uK:((aS av).take (8+(n:Int)).toNat).drop ((8:Int)).toNat=aS ((av.drop 8).take n):=by
     have:(8+(n:Int)).toNat=8+n:=by omega
     rw[this,IC,Me,List.take_drop]; rfl
    have Gd:((aS av).take (av.length:Int).toNat).drop ((4:Int)).toNat=aS (av.drop 4):=by
     rw[Me,List.take_of_length_le (by rw[gq]; omega)]; rfl
    rw[l5] at nY;rw[uK] at jP;rw[Gd] at sX;refine ap (XJ (by simp; omega) (by simp; omega) (dc.ro (fun _=>rfl) nY) (dc.ro (fun _=>rfl) jP) H) ?_;rintro r w ⟨rfl,H⟩;refine ap (aed (by simp; omega) (by simp; omega) (dc.ro (fun _=>rfl) sX) H) ?_;rintro r w ⟨rfl,H⟩;by_cases a5:y1 (av.take 4) ((av.drop 8).take n)≠pW (av.drop 4)
    ·rw[if_pos (by simp; omega),if_pos a5];exact⟨rfl,by decide,H⟩
    ·rw[if_neg (by simp at a5 ⊢; omega),if_neg a5];refine vm H fun l w H=>?_;have H:=um (ar:=1) (y:=0) rfl H;refine oa (by omega) (by omega) (by omega) (by omega) fun Cx aod=>?_;have rk:=k.sub (fun _=>rfl) aod (by rw[gq]; omega);rw[uK] at rk;refine Dq (fun _=>rfl) 0 H rfl (rk.tail.Cu H) (by simp[gq]; omega) fun r w H=>?_;rw[List.nil_append] at H;have z1:((av.drop 8).take n).length=n:=by rw[List.length_take,List.length_drop]; omega
     have tQ:=gn H;have J5:=EN H;rw[gq,z1] at tQ;refine oa (by omega) (by omega) (by omega) (by omega) fun LA aoe=>?_;obtain⟨aof,H⟩:=Sl (fun _=>rfl) aoe (by rw[gq,z1]; omega) H;have Gn:(aS ((av.drop 8).take n)).take (n:Int).toNat=aS ((av.drop 8).take n):=List.take_of_length_le (by rw[gq,z1]; omega);rw[Gn] at H;exact⟨rfl,by simp,by rw[aof]; exact Nat.le_refl _,vz H⟩
end
abbrev oV:=zt
abbrev oj:=Df
abbrev kW:=v1
abbrev xw:=A5
structure dR where
 l:List UInt8
 sure:Nat
structure cJ where
 cK:List dR
 lE:Int
 down:Bool
 ea:Int
 bz:List Int
structure cJ.hz(K:cJ):Prop where
 len:K.cK.length≤16
 log:∀ g∈K.cK,g.sure≤g.l.length∧g.l.length≤4194304
def kept(bz:List Int)(i:Nat)(g:dR):Nat:=g.sure+match bz[i]? with
 |none=>0
 |some k=>(min (max k 0) ((g.l.length:Int)-g.sure)).toNat
def lf(bz:List Int)(i:Nat)(g:dR):dR:=⟨g.l.take (kept bz i g),kept bz i g⟩
def hC(bz:List Int)(K:cJ):cJ:=if K.down then K else { K with down:=true,ea:=0,cK:=K.cK.mapIdx (lf bz) }
def j3(K:cJ)(n size:Int)(f:dR→dR):cJ×Int:=
 if ¬ (0≤n∧n<K.cK.length) then (K,70) else if K.down then (K,71) else if 4194304<size then (K,72)
 else if K.ea=1 then (hC K.bz K,71)
 else ({ K with ea:=if 1<K.ea then IntKind.i64.wrap (K.ea-1) else K.ea,lE:=IntKind.i64.wrap (K.lE+1),cK:=K.cK.modify n.toNat f },0)
theorem Ho{bz:List Int}{i:Nat}{g:dR}(h:g.sure≤g.l.length):g.sure≤kept bz i g∧kept bz i g≤g.l.length:=by
 unfold kept;cases bz[i]? with
 |none=>simp only; omega
 |some k=>simp only; omega
theorem Gk{bz:List Int}{K:cJ}(h:K.hz):(hC bz K).hz:=by
 unfold hC;split
 ·exact h
 ·refine⟨by simpa using h.len,fun g R=>?_⟩;simp only[List.mem_mapIdx] at R;obtain⟨i,aw,rfl⟩:=R;have I:=h.log K.cK[i] (List.getElem_mem _);have O:=Ho (bz:=bz) (i:=i) I.1;simp only[lf,List.length_take];omega
theorem I6{K:cJ}{n size:Int}{f:dR→dR}(h:K.hz)(am:size≤4194304→∀ g,K.cK[n.toNat]?=some g→(f g).sure≤(f g).l.length∧(f g).l.length≤4194304):(j3 K n size f).1.hz:=by
 unfold j3;split
 ·exact h
 ·split
  ·exact h
  ·split
   ·exact h
   ·rename_i aG;split
    ·exact Gk h
    ·refine⟨by simpa using h.len,fun g R=>?_⟩;simp only at R;obtain⟨i,aw,rfl⟩:=List.getElem_of_mem R;rw[List.getElem_modify];split
     ·rename_i kq;subst kq;have apt:n.toNat<K.cK.length:=by simpa using aw
      exact am (by omega) _ (List.getElem?_eq_getElem apt)
     ·exact h.log _ (List.getElem_mem _)
section
variable {A w:World} {m bL:List bu}
def jk(p:af×dR):bu:=row (B .u8) 5 1 p.1 (aS p.2.l)
def mC(p:af×dR):oV:=⟨p.1,p.2.sure⟩
def er(d:Nat)(K:cJ):bu:=hT fun s:af=>hT fun P:List (af×dR)=>hT fun bw:af=>dt [ll (P.map Prod.snd=K.cK),aI d (xw.cells ⟨s,K.lE,K.down,K.ea,bw⟩) 182,row oj 278 2 s (P.map mC),dt (P.map jk),row (B .i64) 3 1 bw K.bz]
theorem xL{d:Nat}{K:cJ}(H:E A (er d K::m) w):∃ (s:af) (P:List (af×dR)) (bw:af),P.map Prod.snd=K.cK∧E A (aI d (xw.cells ⟨s,K.lE,K.down,K.ea,bw⟩) 182::row oj 278 2 s (P.map mC)::dt (P.map jk)::row (B .i64) 3 1 bw K.bz::m) w:=by
 obtain⟨s,H⟩:=H.ex;obtain⟨P,H⟩:=H.ex;obtain⟨bw,H⟩:=H.ex;have H:=H.open_;obtain⟨h,H⟩:=E.vu (e8:=P.map Prod.snd=K.cK) H;exact⟨s,P,bw,h,H⟩
theorem q5{d:Nat}{K:cJ}{s bw:af}{P:List (af×dR)}(h:P.map Prod.snd=K.cK)(H:E A (aI d (xw.cells ⟨s,K.lE,K.down,K.ea,bw⟩) 182::row oj 278 2 s (P.map mC)::dt (P.map jk)::row (B .i64) 3 1 bw K.bz::m) w):E A (er d K::m) w:=
 E.mF s (E.mF P (E.mF bw (E.shut (bL:=[ll _,_,_,_,_]) (E.vK h H))))
theorem CB{Z:Type}{P:List Z}{i:Nat}{p:Z}(h:P[i]?=some p):∃ je mv,P=je++p::mv∧je.length=i:=by
 have aw:=(List.getElem?_eq_some_iff.1 h).1;refine⟨P.take i,P.drop (i+1),?_,by rw[List.length_take]; omega⟩;have:=(List.getElem?_eq_some_iff.1 h).2;rw[← this,← List.drop_eq_getElem_cons aw,List.take_append_drop]
theorem Q3{n:Int}(ah:1≤n)(I:n≤16)(H:E A m w):M Pg 41 [.int .i64 n] (bo aE (B .i64)) w fun r J=>r.2=0∧∃ d,r.1=some ⟨d,0,none⟩∧E A (er d ⟨List.replicate n.toNat ⟨[],0⟩,0,false,0,[]⟩::m) J:=by
 refine aiu ?_;unfold VZ;rw[if_neg (by simp; omega)];refine Hy (ar:=2) (by omega) (by omega) (by omega) H fun l w H=>?_;refine bH H fun d w H=>?_;refine⟨rfl,d,rfl,?_⟩;refine q5 (s:=⟨some ⟨l,0,none⟩,n.toNat,n.toNat⟩) (P:=List.replicate n.toNat (fx,⟨[],0⟩)) (bw:=fx) (by simp) ?_;have hm:(List.replicate n.toNat (fx,(⟨[],0⟩:dR))).map mC=List.replicate n.toNat (⟨fx,0⟩:oV):=by simp[mC]
 rw[hm];have aK:∀ (y:Nat) {m:List bu},E A m w→E A (dt ((List.replicate y (fx,(⟨[],0⟩:dR))).map jk)::m) w:=by
  intro y;induction y with
  |zero=>intro m H; exact E.shut (bL:=[]) H
  |succ y b_=>
   intro m H;have O:(List.replicate (y+1) (fx,(⟨[],0⟩:dR))).map jk=jk (fx,⟨[],0⟩)::(List.replicate y (fx,(⟨[],0⟩:dR))).map jk:=by rw[List.replicate_succ,List.map_cons]
   rw[O];have H:=kJ (B .u8) 5 1 (b_ H)
   exact E.shut (bL:=jk (fx,⟨[],0⟩)::_) ((H.front 1).open_ |> fun H=>H.perm (by
    simp only[List.cons_append]
    exact List.perm_middle))
 have H:=aK n.toNat (kJ (B .i64) 3 1 H);exact H.ord [2,3,0,1]
theorem JS{d:Nat}{K:cJ}{n:Int}(H:E A (er d K::m) w):M Pg 183 [.pointer (some ⟨d,0,none⟩),.int .i64 n] bf w fun r J=>r=decide (0≤n∧n<K.cK.length)∧E A (er d K::m) J:=by
 obtain⟨s,P,bw,fg,H⟩:=xL H;refine ahe ?_;unfold UM;have aG:=gn (H.front 1);rw[List.length_map] at aG;have al:P.length=K.cK.length:=by rw[← fg,List.length_map]
 refine aO ⟨d,0,none⟩ (fun _=>rfl) ?_;refine aO s (fun _=>bE X H rfl rfl) ?_;refine⟨?_,q5 fg H⟩;rw[aG,al,Bool.eq_iff_iff,Bool.and_eq_true,decide_eq_true_eq,decide_eq_true_eq,decide_eq_true_eq]
theorem Ei{P:List (af×dR)}{i:Nat}{p:af×dR}(h:P[i]?=some p)(H:E A (dt (P.map jk)::m) w):E A (jk p::hT (fun je:List (af×dR)=>hT fun mv:List (af×dR)=>dt [ll (P=je++p::mv∧je.length=i),dt ((je++mv).map jk)])::m) w:=by
 obtain⟨je,mv,I,O⟩:=CB h;subst I;have H:=Bi H;have H:=H.front 1;have H:=E.vK (e8:=je++p::mv=je++p::mv∧je.length=i) ⟨rfl,O⟩ H;have H:=E.shut (bL:=[ll _,dt _]) H;exact (E.mF (f:=fun NP:List (af×dR)=>hT fun F0:List (af×dR)=>dt [ll (je++p::mv=NP++p::F0∧NP.length=i),dt ((NP++F0).map jk)]) je (E.mF (f:=fun F0:List (af×dR)=>dt [ll (je++p::mv=je++p::F0∧je.length=i),dt ((je++F0).map jk)]) mv H)).front 1
theorem abA{P:List (af×dR)}{i:Nat}{p q:af×dR}(H:E A (jk q::hT (fun je:List (af×dR)=>hT fun mv:List (af×dR)=>dt [ll (P=je++p::mv∧je.length=i),dt ((je++mv).map jk)])::m) w):E A (dt ((P.set i q).map jk)::m) w:=by
 have H:=H.front 1;obtain⟨je,H⟩:=H.ex;obtain⟨mv,H⟩:=H.ex;have H:=H.open_;obtain⟨⟨I,O⟩,g4⟩:=E.vu (e8:=P=je++p::mv∧je.length=i) H;clear H;subst I; subst O;have e:(je++p::mv).set je.length q=je++q::mv:=by
  rw[List.set_append_right _ _ (Nat.le_refl _)]; simp
 rw[e];exact we (g4.front 1)
theorem KA{p:af×dR}(H:E A (jk p::m) w):p.1.len=p.2.l.length∧p.1.len≤p.1.cap:=by
 have I:=gn H;rw[gq] at I;exact⟨I,EN H⟩
theorem aHB(bz:List Int)(N:List dR):(N.mapIdx fun D g=>if D<0 then lf bz D g else g)=N:=by
 apply List.ext_getElem?;intro D;rw[List.getElem?_mapIdx];cases N[D]?<;>simp
theorem aHz(bz:List Int)(N:List dR):(N.mapIdx fun D g=>if D<N.length then lf bz D g else g)=N.mapIdx (lf bz):=by
 apply List.ext_getElem?;intro D;rw[List.getElem?_mapIdx,List.getElem?_mapIdx];cases h:N[D]? with
 |none=>rfl
 |some g=>
  have:=(List.getElem?_eq_some_iff.1 h).1;simp[this]
theorem aHA{bz:List Int}{N:List dR}{i:Nat}{g:dR}(h:N[i]?=some g):(N.mapIdx fun D g=>if D<i+1 then lf bz D g else g)=(N.mapIdx fun D g=>if D<i then lf bz D g else g).set i (lf bz i g):=by
 apply List.ext_getElem?;intro D;have aw:=(List.getElem?_eq_some_iff.1 h).1;rw[List.getElem?_mapIdx,List.getElem?_set,List.length_mapIdx,List.getElem?_mapIdx];by_cases e:i=D
 ·subst e;rw[if_pos rfl,if_pos aw,h]; simp
 ·rw[if_neg e];cases bI:N[D]? with
  |none=>rfl
  |some cy=>
   simp only[Option.map_some];by_cases c:D<i
   ·rw[if_pos c,if_pos (by omega)]
   ·rw[if_neg c,if_neg (by omega)]
theorem X2{d:Nat}{s bw fw:af}{P:List (af×dR)}{lE ea:Int}{bz:List Int}(di:∀ p∈P,p.2.sure≤p.2.l.length∧p.2.l.length≤4194304)(aF:P.length≤16)(k:dc 1 m (B .i64) fw bz)
  (H:E A (aI d (xw.cells ⟨s,lE,false,ea,bw⟩) 182::row oj 278 2 s (P.map mC)::dt (P.map jk)::m) w) :
  M Pg 103 [.pointer (some ⟨d,0,none⟩),X.enc fw] dU w fun _ J=>∃ xp:List (af×dR),xp.map Prod.snd=(P.map Prod.snd).mapIdx (lf bz)∧E A (aI d (xw.cells ⟨s,lE,true,0,bw⟩) 182::row oj 278 2 s (xp.map mC)::dt (xp.map jk)::m) J:=by
 have J0:=k.tail.tail.tail.len H;refine Tz ?_;unfold Mg;refine b3 rfl ?_;refine aj (x:=false) 0 H rfl rfl rfl ?_;rw[if_neg (by simp)];refine dx (x:=true) 0 H rfl rfl (Nat.le_of_ble_eq_true rfl) fun w H=>?_;refine dx (x:=(0:Int)) 0 H rfl rfl (Nat.le_of_ble_eq_true rfl) fun w H=>?_;refine aj (x:=s) 0 H rfl rfl rfl ?_;have aG:=gn (H.front 1);rw[List.length_map] at aG;refine hU (fun i w=>∃ (D:Nat) (Q:List (af×dR)),i=(D:Int)∧D≤P.length∧Q.map Prod.snd=((P.map Prod.snd).mapIdx fun y g=>if y<D then lf bz y g else g)∧E A (aI d (xw.cells ⟨s,lE,true,0,bw⟩) 182::row oj 278 2 s (Q.map mC)::dt (Q.map jk)::m) w) (fun i=>(P.length-i).toNat)
  ⟨0,P,rfl,by omega,(aHB _ _).symm,H⟩ ?_
 clear H;rintro i w ⟨D,Q,rfl,bI,dZ,H⟩ aa b2;have O9:Q.length=P.length:=by
  have:=congrArg List.length dZ;simpa using this
 unfold Mh;rw[aG];split
 ·rename_i aw;have aw:D<P.length:=by simpa using aw
  refine aj (x:=s) 0 H rfl rfl rfl ?_;obtain⟨a,Y⟩:=kI (i:=(D:Int)) (H.front 1) (by omega) (by simp; omega);refine aO a Y ?_;have yf:P[D]?=some P[D]:=List.getElem?_eq_getElem aw;have j7:Q[D]?=some Q[D]:=List.getElem?_eq_getElem (by omega);have sU:P[D]∈P:=List.getElem_mem _;have D8:Q[D].2=P[D].2:=by
   have:=congrArg (fun m=>m[D]?) dZ;simp only[List.getElem?_map,j7,List.getElem?_mapIdx,yf,Option.map_some] at this;simpa using this
  have PH:=di _ sU;have sV:(Q.map mC)[((D:Int)).toNat]?=some (mC Q[D]):=by simp[j7]
  have zZ:=aHA (bz:=bz) (N:=P.map Prod.snd) (i:=D) (g:=P[D].2) (by simp[yf]);generalize P[D]=p at yf sU D8 PH zZ;generalize Q[D]=q at j7 sV D8;obtain⟨ee,jn⟩:=q;obtain⟨eB,aKR⟩:=p;simp only at D8 PH zZ;subst D8;have gV:=Ei j7 (H.front 2);have U:=KA gV;simp only at U;refine aO (jn.sure:Int) ?_ ?_
  ·exact qa (cX:=B .i64) (fun _=>rfl) Y sV rfl (H.front 1)
  have fin:∀ (w:World) (n:Int),n=(kept bz D jn:Nat)→E A (aI d (xw.cells ⟨s,lE,true,0,bw⟩) 182::row oj 278 2 s (Q.map mC)::dt (Q.map jk)::m) w→E8 (D:Int) a n w aa fun _ J=>∃ xp:List (af×dR),xp.map Prod.snd=(P.map Prod.snd).mapIdx (lf bz)∧E A (aI d (xw.cells ⟨s,lE,true,0,bw⟩) 182::row oj 278 2 s (xp.map mC)::dt (xp.map jk)::m) J:=by
   intro w n aK H;subst aK;have aq:=Ho (bz:=bz) (i:=D) PH.1;unfold E8;refine aO ee (qa (cX:=X) (fun _=>rfl) Y sV rfl (H.front 1)) ?_;refine oa (by omega) (by omega) (by omega) (by omega) fun r ab=>?_;have H:=Ei j7 (H.front 2);obtain⟨PQ,H⟩:=Sl (fun _=>rfl) ab (by rw[gq]; exact Int.ofNat_le.2 aq.2) H;refine ES (x:=mC (ee,jn)) (S:=(⟨r,jn.sure⟩:oV)) (G:=0) (cX:=X) (z:=r) (fun _=>rfl) Y sV rfl (Nat.le_of_ble_eq_true rfl) (H.front 3) fun w H=>?_;refine ES (x:=(⟨r,jn.sure⟩:oV)) (S:=(⟨r,(kept bz D jn:Nat)⟩:oV)) (G:=1) (cX:=B .i64) (z:=((kept bz D jn:Nat):Int)) (fun _=>rfl) Y (List.getElem?_set_self (by rw[List.length_map,Int.toNat_natCast]; omega)) rfl (Nat.le_of_ble_eq_true rfl) H fun w H=>?_;have aQ:IntKind.i64.wrap ((D:Int)+1)=((D+1:Nat):Int):=by rw[qH]; omega
   rw[aQ];have ao:(aS jn.l).take ((kept bz D jn:Nat):Int).toNat=aS (lf bz D jn).l:=by
    rw[Int.toNat_natCast]; exact (IC _ _).symm
   rw[ao] at H;have H:=abA (q:=(r,lf bz D jn)) (H.ord [1,2]);refine b2 _ _ ⟨D+1,Q.set D (r,lf bz D jn),rfl,by omega,?_,?_⟩ (by omega)
   ·rw[List.map_set,dZ,zZ]
   ·have a6:(((Q.map mC).set ((D:Int)).toNat (⟨r,jn.sure⟩:oV)).set ((D:Int)).toNat (⟨r,(kept bz D jn:Nat)⟩:oV))=(Q.set D (r,lf bz D jn)).map mC:=by
     rw[List.set_set,List.map_set,Int.toNat_natCast]; rfl
    rw[a6] at H;exact H.ord [2,1,0]
  rw[J0];split
  ·rename_i dv;have dv:D<bz.length:=by simpa using dv
   have D5:bz[((D:Int)).toNat]?=some bz[D]:=by rw[Int.toNat_natCast]; exact List.getElem?_eq_getElem dv
   have tN:bz[D]?=some bz[D]:=List.getElem?_eq_getElem dv;generalize bz[D]=abh at D5 tN;refine dg H fun w H=>?_;obtain⟨tS,Z3⟩:=k.tail.tail.tail.iq (i:=(D:Int)) H (by omega) (by omega);refine aO tS Z3 ?_;refine aO abh (k.tail.tail.tail.rd Z3 D5 H) ?_;refine aO ee (qa (cX:=X) (fun _=>rfl) Y sV rfl (H.front 1)) ?_;refine aO (jn.sure:Int) (qa (cX:=B .i64) (fun _=>rfl) Y sV rfl (H.front 1)) ?_;refine fin _ _ ?_ H;have GS:kept bz D jn=jn.sure+(min (max abh 0) ((jn.l.length:Int)-jn.sure)).toNat:=by unfold kept; rw[tN]
   rw[U.1,wrap_i64 (x:=(jn.l.length:Int)-(jn.sure:Int)) (by omega) (by omega),GS,wrap_i64 (by omega) (by omega)];omega
  ·rename_i dv;have dv:bz.length≤D:=by simp at dv; omega
   refine fin _ _ ?_ H;have GS:kept bz D jn=jn.sure:=by
    unfold kept; rw[List.getElem?_eq_none dv]; rfl
   rw[GS]
 ·rename_i aw;have aw:D=P.length:=by simp at aw; omega
  subst aw;refine⟨Q,?_,H⟩;rw[dZ];have:=aHz bz (P.map Prod.snd);rw[List.length_map] at this;exact this
theorem alZ{d:Nat}{K:cJ}{fw:af}{bz:List Int}(di:K.hz)(k:dc 1 m (B .i64) fw bz)(H:E A (er d K::m) w) :
  M Pg 103 [.pointer (some ⟨d,0,none⟩),X.enc fw] dU w fun _ J=>E A (er d (hC bz K)::m) J:=by
 obtain⟨s,P,bw,fg,H⟩:=xL H;by_cases ag:K.down=true
 ·refine Tz ?_;unfold Mg hC;rw[if_pos ag];refine b3 rfl ?_;refine aj (x:=K.down) 0 H rfl rfl rfl ?_;rw[if_pos ag];exact q5 fg H
 ·have Pr:K.down=false:=by simpa using ag
  rw[Pr] at H;have al:P.length=K.cK.length:=by rw[← fg,List.length_map]
  refine ap (X2 (fun p aF=>di.log p.2 (by rw[← fg]; exact List.mem_map_of_mem aF)) (by rw[al]; exact di.len) k.tail H) ?_;rintro r w ⟨xp,GG,H⟩;rw[fg] at GG;unfold hC;rw[if_neg ag];exact q5 (K:={ K with down:=true,ea:=0,cK:=K.cK.mapIdx (lf bz) }) GG H
end
section
variable {A w:World} {m bL:List bu}
theorem alJ{Z:Type}{P:Program}{T:bn Z}{hE:cc}{args:List Value}{aa K':Z→World→Prop}(h:tF P hE args T w aa)(aq:∀ r J,aa r J→K' r J):tF P hE args T w K':=by
 obtain⟨k,c,I,O,aH⟩:=h;exact⟨k,c,I,O,ap aH aq⟩
theorem aCA{N:List dR}{i:Nat}{g:dR}{f:dR→dR}(h:N[i]?=some g):N.modify i f=N.set i (f g):=by
 apply List.ext_getElem?;intro D;rw[List.getElem?_modify,List.getElem?_set];by_cases e:i=D
 ·subst e;have cn:=List.getElem?_eq_some_iff.1 h;rw[if_pos rfl,if_pos cn.1,h];simp
 ·simp[e]
theorem NZ{d:Nat}{K:cJ}{n size:Int}{hE:cc}{f:dR→dR}(di:K.hz)(H:E A (er d K::m) w)
  (rc : ∀ (s q : af) (g : dR) (xs : List oV) (a : Addr) (rq : List bu) (w : World), size ≤ 4194304 → K.cK[n.toNat]? = some g → xs[n.toNat]? = some ⟨q, g.sure⟩ → cD s 2 n a → E A (row oj 278 2 s xs :: jk (q, g) :: (rq ++ m)) w →
   tF Pg hE [.pointer (some a)] dU w fun _ J=>∃ gu:af,E A (row oj 278 2 s (xs.set n.toNat ⟨gu,(f g).sure⟩)::jk (gu,f g)::(rq++m)) J) :
  M Pg 177 [.pointer (some ⟨d,0,none⟩),.int .i64 n,.int .i64 size,hE.enc] (B .i64) w fun r J=>r=(j3 K n size f).2∧E A (er d (j3 K n size f).1::m) J:=by
 refine ag8 ?_;unfold UF j3;refine ap (JS H) ?_;rintro r w ⟨rfl,H⟩;by_cases cn:0≤n∧n<K.cK.length
 ·rw[decide_eq_true cn,if_neg (by simp),if_neg (not_not_intro cn)];refine b3 rfl ?_;obtain⟨s,P,bw,fg,H⟩:=xL H;refine aj (x:=K.down) 0 H rfl rfl rfl ?_;by_cases ag:K.down=true
  ·rw[if_pos ag,if_pos ag];exact⟨rfl,q5 fg H⟩
  ·rw[if_neg ag,if_neg ag];have Pr:K.down=false:=by simpa using ag
   by_cases aG:4194304<size
   ·rw[if_pos (by simp; omega),if_pos aG];exact⟨rfl,q5 fg H⟩
   ·rw[if_neg (by simp; omega),if_neg aG];refine aj (x:=K.ea) 0 H rfl rfl rfl ?_;have al:P.length=K.cK.length:=by rw[← fg,List.length_map]
    by_cases Y:K.ea=1
    ·rw[if_pos (by simp[Y]),if_pos Y];refine aj (x:=bw) 0 H rfl rfl rfl ?_;rw[Pr] at H;refine ap (X2 (fun p aF=>di.log p.2 (by rw[← fg]; exact List.mem_map_of_mem aF)) (by rw[al]; exact di.len) (dc.row (fun _=>rfl) 0 rfl) H) ?_;rintro r w ⟨xp,GG,H⟩;rw[fg] at GG;refine⟨rfl,?_⟩;unfold hC;rw[if_neg ag];exact q5 (K:={ K with down:=true,ea:=0,cK:=K.cK.mapIdx (lf K.bz) }) GG H
    ·rw[if_neg (by simpa using Y),if_neg Y];have g2:∀ (Bg:Int) (w:World),Bg=(if 1<K.ea then IntKind.i64.wrap (K.ea-1) else K.ea)→E A (aI d (xw.cells ⟨s,K.lE,K.down,Bg,bw⟩) 182::row oj 278 2 s (P.map mC)::dt (P.map jk)::row (B .i64) 3 1 bw K.bz::m) w →
       Fl (some ⟨d,0,none⟩) n hE w fun r J=>r=0∧E A (er d { K with ea:=if 1<K.ea then IntKind.i64.wrap (K.ea-1) else K.ea,lE:=IntKind.i64.wrap (K.lE+1),cK:=K.cK.modify n.toNat f }::m) J:=by
      intro Bg w aoY H;unfold Fl;refine b3 rfl ?_;refine aj (x:=K.lE) 0 H rfl rfl rfl ?_;refine dx (x:=IntKind.i64.wrap (K.lE+1)) 0 H rfl rfl (Nat.le_of_ble_eq_true rfl) fun w H=>?_;refine aj (x:=s) 0 H rfl rfl rfl ?_;obtain⟨a,sT⟩:=kI (i:=n) (H.front 1) cn.1 (by rw[List.length_map,al]; exact cn.2);refine aO a sT ?_;have j7:P[n.toNat]?=some P[n.toNat]:=List.getElem?_eq_getElem (by omega);have R:K.cK[n.toNat]?=some (P[n.toNat]).2:=by rw[← fg,List.getElem?_map,j7]; rfl
      generalize P[n.toNat]=p at j7 R;obtain⟨q,g⟩:=p;simp only at R;have H:=Ei j7 (H.front 2);refine alJ (rc s q g (P.map mC) a [_,_,_] w (by omega) R (by rw[List.getElem?_map,j7]; rfl) sT (H.ord [3,0])) ?_;rintro r w ⟨gu,H⟩;have H:=abA (q:=(gu,f g)) (H.ord [1,2]);refine⟨rfl,?_⟩;refine q5 (s:=s) (bw:=bw) (P:=P.set n.toNat (gu,f g)) ?_ ?_
      ·simp only;rw[List.map_set,fg,aCA R]
      ·simp only;rw[← aoY,List.map_set];exact H.ord [2,1,0]
     by_cases ao:1<K.ea
     ·refine aj (x:=K.ea) 0 H rfl rfl rfl ?_;rw[if_pos (by simpa using ao)];refine aj (x:=K.ea) 0 H rfl rfl rfl ?_;refine dx (x:=IntKind.i64.wrap (K.ea-1)) 0 H rfl rfl (Nat.le_of_ble_eq_true rfl) fun w H=>?_;exact g2 (IntKind.i64.wrap (K.ea-1)) w (by rw[if_pos ao]) H
     ·refine aj (x:=K.ea) 0 H rfl rfl rfl ?_;rw[if_neg (by simpa using ao)];exact g2 K.ea w (by rw[if_neg ao]) H
 ·rw[decide_eq_false cn,if_pos (by simp),if_pos cn];exact⟨rfl,H⟩
def sizeOf(K:cJ)(n:Int):Nat:=if 0≤n then match K.cK[n.toNat]? with
 |some g=>g.l.length
 |none=>0
 else 0
def oq(K:cJ)(n:Int)(av:List UInt8):cJ×Int:=j3 K n ((av.length+sizeOf K n:Nat):Int) fun g=>⟨g.l++av,g.sure⟩
def oI(K:cJ)(n:Int):cJ×Int:=j3 K n 0 fun g=>⟨g.l,g.l.length⟩
def Av(K:cJ)(n:Int)(av:List UInt8):cJ×Int:=j3 K n (av.length:Int) fun _=>⟨av,av.length⟩
theorem akh{d:Nat}{K:cJ}{n:Int}{l:af}{av:List UInt8}(di:K.hz)(aK:av.length≤4000000000000000000)(k:dc 1 m (B .u8) l (aS av))(H:E A (er d K::m) w) :
  M Pg 160 [.pointer (some ⟨d,0,none⟩),.int .i64 n,X.enc l] (B .i64) w fun r J=>r=(oq K n av).2∧E A (er d (oq K n av).1::m) J:=by
 have Bz:=k.tail.len H;rw[gq] at Bz;refine agU ?_;unfold Ur;refine bH H fun iz w H=>?_;refine aj (x:=l) 0 H rfl rfl rfl ?_;have g2:∀ (z:Int) (w:World),z=((av.length+sizeOf K n:Nat):Int)→E A (aI iz (X.cells l) 189::er d K::m) w→Fk (some ⟨d,0,none⟩) n ⟨iz,0,none⟩ z w fun r J=>r=(oq K n av).2∧E A (er d (oq K n av).1::m) J:=by
  intro z w bD H;subst bD;unfold Fk;refine ap (NZ (f:=fun g=>⟨g.l++av,g.sure⟩) di (H.front 1) ?_) ?_
  ·intro s q g xs a rq w nu R F Y H;refine⟨197,[.pointer (some ⟨iz,0,none⟩)],rfl,amU,?_⟩;refine ahp ?_;unfold UV;refine dg H fun w H=>?_;refine b3 rfl ?_;refine aO q (qa (cX:=X) (fun _=>rfl) Y F rfl H) ?_
   have H:=(H.perm (show (row oj 278 2 s xs::jk (q,g)::(rq++(aI iz (X.cells l) 189::m))).Perm (aI iz (X.cells l) 189::row oj 278 2 s xs::jk (q,g)::(rq++m)) from by
    have I:=(List.perm_middle (a:=aI iz (X.cells l) 189) (l₁:=row oj 278 2 s xs::jk (q,g)::rq) (l₂:=m))
    simpa using I))
   refine aj (x:=l) 0 H rfl rfl rfl ?_;have tN:dc 1 (aI iz (X.cells l) 189::row oj 278 2 s xs::jk (q,g)::(rq++m)) (B .u8) l (aS av):=((k.l4 rq).tail.tail.tail)
   have D2:=(di.log g (List.mem_of_getElem? R)).2;refine Dq (fun _=>rfl) 2 H rfl (tN.Cu H) (by rw[gq,gq]; simp only; omega) fun r w H=>?_;refine ES (x:=(⟨q,g.sure⟩:oV)) (S:=(⟨r,g.sure⟩:oV)) (G:=0) (cX:=X) (z:=r) (fun _=>rfl) Y F rfl (Nat.le_of_ble_eq_true rfl) (H.front 2) fun w H=>?_;refine⟨r,?_⟩;rw[← xi] at H;refine H.perm ?_;refine List.Perm.cons _ (List.Perm.cons _ ?_);exact List.perm_middle.symm
  ·rintro r w ⟨rfl,H⟩;exact⟨rfl,(H.front 1).drop⟩
 refine ap (JS (H.front 1)) ?_;rintro r w ⟨rfl,H⟩;by_cases cn:0≤n∧n<K.cK.length
 ·rw[decide_eq_true cn,if_pos rfl];refine b3 rfl ?_;obtain⟨s,P,bw,fg,H⟩:=xL H;have al:P.length=K.cK.length:=by rw[← fg,List.length_map]
  refine aj (x:=s) 0 H rfl rfl rfl ?_;obtain⟨a,sT⟩:=kI (i:=n) (H.front 1) cn.1 (by rw[List.length_map,al]; exact cn.2);refine aO a sT ?_;have j7:P[n.toNat]?=some P[n.toNat]:=List.getElem?_eq_getElem (by omega);have R:K.cK[n.toNat]?=some (P[n.toNat]).2:=by rw[← fg,List.getElem?_map,j7]; rfl
  generalize P[n.toNat]=p at j7 R;have U:=KA (Ei j7 (H.front 2));obtain⟨q,g⟩:=p;simp only at R U;have D2:=(di.log g (List.mem_of_getElem? R)).2;refine aO q (qa (x:=mC (q,g)) (cX:=X) (fun _=>rfl) sT (by rw[List.getElem?_map,j7]; rfl) rfl (H.front 1)) ?_;refine g2 _ w ?_ ((q5 fg H).front 1);have e:sizeOf K n=g.l.length:=by unfold sizeOf; rw[if_pos cn.1,R]
  rw[e,Bz,U.1,wrap_i64 (by omega) (by omega)];omega
 ·rw[decide_eq_false cn,if_neg (by simp)];refine g2 _ w ?_ (H.front 1);have e:sizeOf K n=0:=by
   unfold sizeOf;by_cases ah:0≤n
   ·rw[if_pos ah,List.getElem?_eq_none (by omega)]
   ·rw[if_neg ah]
  rw[e,Bz]; rfl
theorem aeV{d:Nat}{K:cJ}{n:Int}(di:K.hz)(H:E A (er d K::m) w) :
  M Pg 129 [.pointer (some ⟨d,0,none⟩),.int .i64 n] (B .i64) w fun r J=>r=(oI K n).2∧E A (er d (oI K n).1::m) J:=by
 refine ags ?_;unfold TX;refine ap (NZ (f:=fun g=>⟨g.l,g.l.length⟩) di H ?_) ?_
 ·intro s q g xs a rq w nu R F Y H;refine⟨178,[],rfl,amP,?_⟩;refine ag9 ?_;unfold UG;refine b3 rfl ?_;refine aO q (qa (cX:=X) (fun _=>rfl) Y F rfl H) ?_;have U:=KA (H.front 1);simp only at U;rw[U.1];refine ES (x:=(⟨q,g.sure⟩:oV)) (S:=(⟨q,(g.l.length:Nat)⟩:oV)) (G:=1) (cX:=B .i64) (z:=((g.l.length:Nat):Int)) (fun _=>rfl) Y F rfl (Nat.le_of_ble_eq_true rfl) H fun w H=>?_;exact⟨q,H⟩
 ·rintro r w ⟨rfl,H⟩;exact⟨rfl,H⟩
theorem aHI{d:Nat}{K:cJ}{n:Int}{l:af}{av:List UInt8}(di:K.hz)(aK:av.length≤4000000000000000000)(k:dc 1 m (B .u8) l (aS av))(H:E A (er d K::m) w) :
  M Pg 144 [.pointer (some ⟨d,0,none⟩),.int .i64 n,X.enc l] (B .i64) w fun r J=>r=(Av K n av).2∧E A (er d (Av K n av).1::m) J:=by
 have Bz:=k.tail.len H;rw[gq] at Bz;refine agH ?_;unfold Ub;refine bH H fun iz w H=>?_;refine aj (x:=l) 0 H rfl rfl rfl ?_;rw[Bz];refine ap (NZ (f:=fun _=>⟨av,av.length⟩) di (H.front 1) ?_) ?_
 ·intro s q g xs a rq w nu R F Y H;refine⟨185,[.pointer (some ⟨iz,0,none⟩)],rfl,amQ,?_⟩;refine ahg ?_;unfold UO
  have H:=(H.perm (show (row oj 278 2 s xs::jk (q,g)::(rq++(aI iz (X.cells l) 189::m))).Perm (aI iz (X.cells l) 189::row oj 278 2 s xs::jk (q,g)::(rq++m)) from by
   have I:=(List.perm_middle (a:=aI iz (X.cells l) 189) (l₁:=row oj 278 2 s xs::jk (q,g)::rq) (l₂:=m))
   simpa using I))
  refine aj (x:=l) 0 H rfl rfl rfl ?_;rw[Bz];refine Hy (ar:=1) (by omega) (by omega) (by omega) H fun l5 w H=>?_;refine b3 rfl ?_;refine ES (x:=(⟨q,g.sure⟩:oV)) (S:=(⟨⟨some ⟨l5,0,none⟩,av.length,av.length⟩,g.sure⟩:oV)) (G:=0) (cX:=X) (z:=⟨some ⟨l5,0,none⟩,av.length,av.length⟩) (fun _=>rfl) Y F rfl (Nat.le_of_ble_eq_true rfl) (H.front 2) fun w H=>?_;refine dg H fun w H=>?_;have rZ:(xs.set n.toNat (⟨⟨some ⟨l5,0,none⟩,av.length,av.length⟩,g.sure⟩:oV))[n.toNat]?=some ⟨⟨some ⟨l5,0,none⟩,av.length,av.length⟩,g.sure⟩:=List.getElem?_set_self (List.getElem?_eq_some_iff.1 F).1;refine aO ⟨some ⟨l5,0,none⟩,av.length,av.length⟩ (qa (cX:=X) (fun _=>rfl) Y rZ rfl H) ?_;refine aj (x:=l) 2 H rfl rfl rfl ?_
  have tN:dc 1 (row (B .u8) 5 1 ⟨some ⟨l5,0,none⟩,av.length,av.length⟩ (List.replicate av.length 0)::row oj 278 2 s (xs.set n.toNat (⟨⟨some ⟨l5,0,none⟩,av.length,av.length⟩,g.sure⟩:oV))::aI iz (X.cells l) 189::jk (q,g)::(rq++m)) (B .u8) l (aS av):=((k.l4 rq).tail.tail.tail.tail)
  refine Jo (xs:=List.replicate av.length 0) (fun _=>rfl) (H.front 1) (tN.Cu (H.front 1)) (by rw[gq,List.length_replicate]) fun w H=>?_;rw[gq];refine ES (x:=(⟨⟨some ⟨l5,0,none⟩,av.length,av.length⟩,g.sure⟩:oV)) (S:=(⟨⟨some ⟨l5,0,none⟩,av.length,av.length⟩,(av.length:Nat)⟩:oV)) (G:=1) (cX:=B .i64) (z:=((av.length:Nat):Int)) (fun _=>rfl) Y rZ rfl (Nat.le_of_ble_eq_true rfl) (H.front 1) fun w H=>?_;refine⟨⟨some ⟨l5,0,none⟩,av.length,av.length⟩,?_⟩;rw[List.set_set] at H;have H:=(H.ord [3]).drop;refine H.perm ?_;refine List.Perm.cons _ (List.Perm.cons _ ?_);exact List.perm_middle.symm
 ·rintro r w ⟨rfl,H⟩;exact⟨rfl,(H.front 1).drop⟩
theorem aF1{d:Nat}{K:cJ}{n:Int}(di:K.hz)(H:E A (er d K::m) w) :
  M Pg 142 [.pointer (some ⟨d,0,none⟩),.int .i64 n] (bo X (B .i64)) w fun r J=>(¬ (0≤n∧n<K.cK.length)→r.2=70∧E A (er d K::m) J)∧((0≤n∧n<K.cK.length)→K.down=true→r.2=71∧E A (er d K::m) J) ∧
   ∀ g,0≤n→K.down=false→K.cK[n.toNat]?=some g→r.2=0∧E A (row (B .u8) 5 1 r.1 (aS g.l)::er d K::m) J:=by
 refine agF ?_;unfold T_;refine ap (JS H) ?_;rintro r w ⟨rfl,H⟩;by_cases cn:0≤n∧n<K.cK.length
 ·rw[decide_eq_true cn,if_neg (by simp)];refine b3 rfl ?_;obtain⟨s,P,bw,fg,H⟩:=xL H;refine aj (x:=K.down) 0 H rfl rfl rfl ?_;by_cases ag:K.down=true
  ·rw[if_pos ag];exact⟨fun h=>absurd cn h,fun _ _=>⟨rfl,q5 fg H⟩,fun g _ h=>by rw[ag] at h; cases h⟩
  ·rw[if_neg ag];have al:P.length=K.cK.length:=by rw[← fg,List.length_map]
   refine aj (x:=s) 0 H rfl rfl rfl ?_;obtain⟨a,sT⟩:=kI (i:=n) (H.front 1) cn.1 (by rw[List.length_map,al]; exact cn.2);refine aO a sT ?_;have j7:P[n.toNat]?=some P[n.toNat]:=List.getElem?_eq_getElem (by omega);have R:K.cK[n.toNat]?=some (P[n.toNat]).2:=by rw[← fg,List.getElem?_map,j7]; rfl
   generalize P[n.toNat]=p at j7 R;have U:=KA (Ei j7 (H.front 2));obtain⟨q,g⟩:=p;simp only at R U;have D2:=(di.log g (List.mem_of_getElem? R)).2;have F:(P.map mC)[n.toNat]?=some (mC (q,g)):=by rw[List.getElem?_map,j7]; rfl
   refine aO q (qa (x:=mC (q,g)) (cX:=X) (fun _=>rfl) sT F rfl (H.front 1)) ?_;rw[U.1];refine Hy (ar:=1) (by omega) (by omega) (by omega) H fun l w H=>?_;refine aj (x:=s) 1 H rfl rfl rfl ?_;refine aO a sT ?_;refine aO q (qa (x:=mC (q,g)) (cX:=X) (fun _=>rfl) sT F rfl (H.front 2)) ?_;have ab:k7 (B .u8) w q (aS g.l):=C8 (Ei j7 (H.front 3));refine Jo (xs:=List.replicate ((g.l.length:Int)).toNat 0) (fun _=>rfl) H ab (by rw[gq,List.length_replicate]; omega) fun w H=>?_;refine⟨fun h=>absurd cn h,fun _ h=>absurd h ag,fun cy _ _ ye=>?_⟩;rw[R] at ye;cases ye;exact⟨rfl,(q5 fg (H.ord [1,2,3,4])).front 1⟩
 ·rw[decide_eq_false cn,if_pos (by simp)];refine⟨fun _=>⟨rfl,H⟩,fun h=>absurd h cn,fun g ah _ R=>absurd ⟨ah,?_⟩ cn⟩;have:=(List.getElem?_eq_some_iff.1 R).1;omega
theorem aHF{d:Nat}{K:cJ}{n:Int}{g:dR}(ah:0≤n)(R:K.cK[n.toNat]?=some g)(H:E A (er d K::m) w) :
  M Pg 145 [.pointer (some ⟨d,0,none⟩),.int .i64 n] (B .i64) w fun r J=>r=(g.sure:Nat)∧E A (er d K::m) J:=by
 have dv:=(List.getElem?_eq_some_iff.1 R).1;refine agI ?_;unfold Uc;refine ap (JS H) ?_;rintro r w ⟨rfl,H⟩;rw[decide_eq_true (by omega),if_neg (by simp)];refine b3 rfl ?_;obtain⟨s,P,bw,fg,H⟩:=xL H;have al:P.length=K.cK.length:=by rw[← fg,List.length_map]
 refine aj (x:=s) 0 H rfl rfl rfl ?_;obtain⟨a,sT⟩:=kI (i:=n) (H.front 1) ah (by rw[List.length_map,al]; omega);refine aO a sT ?_;have j7:P[n.toNat]?=some P[n.toNat]:=List.getElem?_eq_getElem (by omega);have kp:K.cK[n.toNat]?=some (P[n.toNat]).2:=by rw[← fg,List.getElem?_map,j7]; rfl
 generalize P[n.toNat]=p at j7 kp;rw[R] at kp;cases kp;refine aO (p.2.sure:Int) (qa (x:=mC p) (cX:=B .i64) (fun _=>rfl) sT (by rw[List.getElem?_map,j7]; rfl) rfl (H.front 1)) ?_;exact⟨rfl,q5 fg H⟩
theorem aIj{d:Nat}{K:cJ}(H:E A (er d K::m) w):M Pg 73 [.pointer (some ⟨d,0,none⟩)] dU w fun _ J=>E A (er d { K with down:=false }::m) J:=by
 refine ai2 ?_;unfold Wt;refine b3 rfl ?_;obtain⟨s,P,bw,fg,H⟩:=xL H;refine dx (x:=false) 0 H rfl rfl (Nat.le_of_ble_eq_true rfl) fun w H=>?_;exact q5 (K:={ K with down:=false }) fg H
end
abbrev ajH:=A7
section
variable {A w:World} {m bL:List bu} {s:af} {av:List UInt8}
def mu(ee:List af)(xs:List (List UInt8))(aV:ch):Prop:=ee.length=xs.length∧∀ (i:Nat) (q:af) (x:List UInt8),ee[i]?=some q→xs[i]?=some x→q.len≤q.cap∧cT (B .u8) q (aS x) aV
theorem mu.mono{ee:List af}{xs:List (List UInt8)}{aV g5:ch}(h:ch.le aV g5):mu ee xs aV→mu ee xs g5:=fun ⟨I,O⟩=>⟨I,fun i q x a5 F=>⟨(O i q x a5 F).1,cT.mono h (O i q x a5 F).2⟩⟩
def tW(ee:List af)(xs:List (List UInt8)):bu:=rR (mu ee xs) mu.mono
theorem mu.push{ee:List af}{xs:List (List UInt8)}{q:af}{x:List UInt8}{aV:ch}(h:mu ee xs aV)(U:q.len≤q.cap)(ab:cT (B .u8) q (aS x) aV):mu (ee++[q]) (xs++[x]) aV:=by
 refine⟨by simp[h.1],fun i gu afO a5 F=>?_⟩;by_cases c:i<ee.length
 ·rw[List.getElem?_append_left c] at a5;rw[List.getElem?_append_left (by rw[← h.1]; exact c)] at F;exact h.2 i gu afO a5 F
 ·have aw:i=ee.length:=by
   have:=(List.getElem?_eq_some_iff.1 a5).1;simp at this; omega
  subst aw;rw[List.getElem?_append_right (Nat.le_refl _)] at a5;rw[List.getElem?_append_right (by rw[h.1]; exact Nat.le_refl _),h.1] at F;simp at a5 F;subst a5; subst F;exact⟨U,ab⟩
theorem aGO(l7:s.len≤s.cap)(aK:av.length≤1000000000)(k:bX m (cT (B .u8) s (aS av)))(H:E A m w) :
  M Pg 143 [X.enc s] (bo X (B .i64)) w fun r J=>r.2=((scan av).2:Nat)∧∃ ee:List af,E A (row X 189 1 r.1 ee::tW ee (scan av).1::m) J:=by
 have aG:=k.len H;rw[gq] at aG;refine agG ?_;unfold Ua;refine Ek (fun y p w=>∃ (a f:Nat) (xs:List (List UInt8)) (ee:List af),y=av.length-a∧p.2=(a:Int)∧a≤av.length∧av.length-a<f∧xs.length≤a∧scan av=qv f (av.drop a) xs a∧E A (row X 189 1 p.1 ee::tW ee xs::m) w) av.length
  ⟨0,av.length+1,[],[],by omega,rfl,by omega,by omega,by simp,rfl,kJ X 189 1 (H.z6 (y:=mu.mono) (fun _ _ _=>⟨rfl,fun i q x a5=>by simp at a5⟩))⟩ ?_
 clear H;rintro y ⟨r,a⟩ w ⟨a,f,xs,ee,rfl,rfl,Y,am,aKg,he,H⟩ aa b2;simp only at H;unfold Mv;rw[aG];refine oa (by omega) (by omega) (by omega) (by omega) fun w3 il=>?_;have jP:=k.sub (fun _=>rfl) il (by rw[gq]; omega);have uK:((aS av).take (av.length:Int).toNat).drop ((a:Int)).toNat=aS (av.drop a):=by
  rw[Me,List.take_of_length_le (by rw[gq]; omega)]; rfl
 rw[uK] at jP;have ao5:w3.len≤w3.cap:=by
  obtain⟨b9,fl,_⟩:=Ic il;rw[b9,fl]; omega
 refine ap (Rp ao5 (by simp; omega) jP.tail.tail H) ?_;rintro⟨q,n,e⟩ w J6;obtain⟨g,rfl⟩:∃ g,f=g+1:=⟨f-1,by omega⟩
 simp only[qv] at he;cases ai:nz (av.drop a) with
 |error hQ=>
  rw[ai] at J6 he;obtain⟨I,O,H⟩:=J6;simp only at I he;subst I;rw[if_pos (by simpa using O)];rw[he];exact⟨rfl,ee,H⟩
 |ok p=>
  obtain⟨x,QY⟩:=p;rw[ai] at J6 he;obtain⟨I,O,aH,H⟩:=J6;simp only at I O aH he H;subst I; subst O;rw[if_neg (by simp)];obtain⟨br,eN,iZ,nt⟩:=K5 ai;rw[List.length_drop] at br;have wz:ee.length=xs.length:=by
   obtain⟨aV,_,a4⟩:=(bX.pD (bX.tail (bX.tail (bX.here (y:=mu.mono))))) H;exact a4.1
  refine nq (fun _=>rfl) 1 H rfl (by simp; omega) fun oD w H=>?_;have aQ:IntKind.i64.wrap ((a:Int)+(QY:Int))=((a+QY:Nat):Int):=by rw[wrap_i64 (by omega) (by omega)]; omega
  rw[aQ]
  have g4:=H.z6 (e8:=mu (ee++[q]) (xs++[x])) (y:=mu.mono) (by
   intro aV h cn;have cP:mu ee xs aV:=(bX.tail (bX.tail (bX.here (y:=mu.mono)))) aV h cn;have Af:cT (B .u8) q (aS x) aV:=(bX.tail (bX.here (y:=cT.mono))) aV h cn
   exact cP.push aH Af)
  refine b2 _ _ _ ?_ ⟨a+QY,g,xs++[x],ee++[q],rfl,rfl,by omega,by omega,by simp; omega,by rw[he,List.drop_drop],?_⟩
  ·omega
  ·exact (g4.ord [2,3]).drop.drop.front 1
structure nm where
 all:Int
 sure:Int
 log:Int
 dead:Bool
def h4(l d:Nat)(V:nm):bu:=aI l (ajH.cells ⟨⟨V.all,V.sure⟩,some ⟨d,0,none⟩,V.log,V.dead⟩) 238
def gj(K:cJ)(V:nm)(x:List UInt8):cJ×nm×Int:=
 if V.dead then (K,V,81) else if 65536<x.length then (K,V,30)
 else ((oq K V.log (g0 x)).1,{ V with all:=if (oq K V.log (g0 x)).2=0 then IntKind.i64.wrap (V.all+1) else V.all,dead:=V.dead||(oq K V.log (g0 x)).2==71 },(oq K V.log (g0 x)).2)
def gp(K:cJ)(V:nm):cJ×nm×Int:=
 if V.dead then (K,V,81)
 else ((oI K V.log).1,{ V with sure:=if (oI K V.log).2=0 then V.all else V.sure,dead:=V.dead||(oI K V.log).2==71 },(oI K V.log).2)
theorem B4{l d:Nat}{V:nm}{e:Int}(H:E A (h4 l d V::m) w):M Pg 128 [.pointer (some ⟨l,0,none⟩),.int .i64 e] (B .i64) w fun r J=>r=e∧E A (h4 l d { V with dead:=V.dead||e==71 }::m) J:=by
 refine agr ?_;unfold TW;refine b3 rfl ?_;refine aj (x:=V.dead) 0 H rfl rfl rfl ?_;refine dx (x:=V.dead||e==71) 0 H rfl rfl (Nat.le_of_ble_eq_true rfl) fun w H=>?_;exact⟨rfl,H⟩
theorem N3{l d:Nat}{K:cJ}{V:nm}{q:af}{x:List UInt8}(di:K.hz)(aK:x.length≤9223372036854775806)(k:dc 1 m (B .u8) q (aS x))(H:E A (h4 l d V::er d K::m) w) :
  M Pg 98 [.pointer (some ⟨l,0,none⟩),X.enc q] (B .i64) w fun r J=>r=(gj K V x).2.2∧E A (h4 l d (gj K V x).2.1::er d (gj K V x).1::m) J:=by
 refine ajr ?_;unfold WQ IQ gj;refine b3 rfl ?_;refine aj (x:=V.dead) 0 H rfl rfl rfl ?_;by_cases ag:V.dead=true
 ·rw[if_pos ag,if_pos ag];exact⟨rfl,H⟩
 ·rw[if_neg ag,if_neg ag];refine ap (aGQ aK k.tail.tail H) ?_;rintro⟨r,e⟩ w ⟨I,O⟩;by_cases F:65536<x.length
  ·obtain⟨aH,H⟩:=I F;cases aH;rw[if_pos (by simp),if_pos F];exact⟨rfl,H⟩
  ·obtain⟨aH,H⟩:=O (by omega);simp only at aH H;subst aH;rw[if_neg (by simp),if_neg F];refine dg H fun w H=>?_;refine aj (x:=some ⟨d,0,none⟩) 1 H rfl rfl rfl ?_;refine aj (x:=V.log) 1 H rfl rfl rfl ?_;refine ap (akh di (by rw[uW]; omega) (dc.row (fun _=>rfl) 0 rfl) (H.front 2)) ?_;rintro e w ⟨rfl,H⟩;refine ap (B4 (H.front 2)) ?_;rintro e w ⟨rfl,H⟩;refine⟨bE aE H rfl rfl,bE (B .i64) H rfl rfl,?_⟩;by_cases he:(oq K V.log (g0 x)).2=0
   ·rw[if_pos (by simp[he]),if_pos he];refine aj (x:=V.all) 0 H rfl rfl rfl ?_;refine dx (x:=IntKind.i64.wrap (V.all+1)) 0 H rfl rfl (Nat.le_of_ble_eq_true rfl) fun w H=>?_;exact⟨rfl,(H.ord [2]).drop⟩
   ·rw[if_neg (by simp[he]),if_neg he];exact⟨rfl,(H.ord [2]).drop⟩
theorem SC{l d:Nat}{K:cJ}{V:nm}(di:K.hz)(H:E A (h4 l d V::er d K::m) w) :
  M Pg 80 [.pointer (some ⟨l,0,none⟩)] (B .i64) w fun r J=>r=(gp K V).2.2∧E A (h4 l d (gp K V).2.1::er d (gp K V).1::m) J:=by
 refine aja ?_;unfold WA IP gp;refine b3 rfl ?_;refine aj (x:=V.dead) 0 H rfl rfl rfl ?_;by_cases ag:V.dead=true
 ·rw[if_pos ag,if_pos ag];exact⟨rfl,H⟩
 ·rw[if_neg ag,if_neg ag];refine dg H fun w H=>?_;refine aj (x:=some ⟨d,0,none⟩) 0 H rfl rfl rfl ?_;refine aj (x:=V.log) 0 H rfl rfl rfl ?_;refine ap (aeV di (H.front 1)) ?_;rintro e w ⟨rfl,H⟩;refine ap (B4 (H.front 1)) ?_;rintro e w ⟨rfl,H⟩;refine⟨bE aE H rfl rfl,bE (B .i64) H rfl rfl,?_⟩;by_cases he:(oI K V.log).2=0
  ·rw[if_pos (by simp[he]),if_pos he];refine aj (x:=V.all) 0 H rfl rfl rfl ?_;refine dx (x:=V.all) 0 H rfl rfl (Nat.le_of_ble_eq_true rfl) fun w H=>?_;exact⟨rfl,H⟩
  ·rw[if_neg (by simp[he]),if_neg he];exact⟨rfl,H⟩
def db(K:cJ)(n:Int)(g:dR):cJ×Int:=
 if (scan g.l).2<g.l.length then Av K n (g.l.take (scan g.l).2) else if g.sure<(scan g.l).2 then oI K n else (K,0)
theorem aex(av:List UInt8):(scan av).2≤av.length:=by
 have key:∀ (f:Nat) (av:List UInt8) (m:List (List UInt8)) (a:Nat),(qv f av m a).2≤a+av.length:=by
  intro f;induction f with
  |zero=>intro av m a; simp[qv]
  |succ f b_=>
   intro av m a;simp only[qv];cases ai:nz av with
   |error e=>simp
   |ok p=>
    obtain⟨x,n⟩:=p;have:=b_ (av.drop n) (m++[x]) (a+n);have h:=K5 ai;rw[List.length_drop] at this;simp only;omega
 have:=key (av.length+1) av [] 0;unfold scan; omega
theorem aew(av:List UInt8):(scan av).1.length≤av.length:=by
 have key:∀ (f:Nat) (av:List UInt8) (m:List (List UInt8)) (a:Nat),(qv f av m a).1.length≤m.length+av.length:=by
  intro f;induction f with
  |zero=>intro av m a; simp[qv]
  |succ f b_=>
   intro av m a;simp only[qv];cases ai:nz av with
   |error e=>simp
   |ok p=>
    obtain⟨x,n⟩:=p;have:=b_ (av.drop n) (m++[x]) (a+n);have h:=K5 ai;rw[List.length_drop] at this;simp only[List.length_append,List.length_cons,List.length_nil] at this;simp only;omega
 have:=key (av.length+1) av [] 0;unfold scan; simpa using this
theorem ack{d:Nat}{K:cJ}{n:Int}{g:dR}(di:K.hz)(ah:0≤n)(DY:K.down=false)(R:K.cK[n.toNat]?=some g)(H:E A (er d K::m) w) :
  M Pg 91 [.pointer (some ⟨d,0,none⟩),.int .i64 n] (mj aE X (B .i64)) w fun r J=>r.2.2=(db K n g).2∧((db K n g).2=0→∃ (l:Nat) (ee:List af),r.1=some ⟨l,0,none⟩ ∧
   E A (h4 l d ⟨(scan g.l).1.length,(scan g.l).1.length,n,false⟩::er d (db K n g).1::row X 189 1 r.2.1 ee::tW ee (scan g.l).1::m) J)∧((db K n g).2≠0→r.1=none∧E A (er d (db K n g).1::m) J):=by
 have dv:=(List.getElem?_eq_some_iff.1 R).1;have D2:=di.log g (List.mem_of_getElem? R);refine ajl ?_;unfold Nx;rw[if_neg (by simp)];refine ap (aF1 (n:=n) di H) ?_;rintro⟨r,e⟩ w ⟨_,_,aH⟩;obtain⟨bg,H⟩:=aH g ah DY R;simp only at bg H;subst bg;rw[if_neg (by simp)];have tQ:=gn H;have J5:=EN H;rw[gq] at tQ;have H:=vz H;have aKD:bX [ro (B .u8) r (aS g.l)] (cT (B .u8) r (aS g.l)):=bX.here (y:=cT.mono);refine ap (aGO J5 (by omega) (bX.here (y:=cT.mono)) H) ?_;rintro⟨q,y⟩ w ⟨hm,ee,H⟩;simp only at hm H;subst hm;have J8:=aex g.l;rw[tQ]
 have g2:∀ (d_:cJ) (e:Int) (w:World),db K n g=(d_,e)→E A (er d d_::row X 189 1 q ee::tW ee (scan g.l).1::m) w→AT (some ⟨d,0,none⟩) n (q,((scan g.l).2:Int)) e w fun r J=>r.2.2=(db K n g).2∧((db K n g).2=0→∃ (l:Nat) (ee:List af),r.1=some ⟨l,0,none⟩ ∧
   E A (h4 l d ⟨(scan g.l).1.length,(scan g.l).1.length,n,false⟩::er d (db K n g).1::row X 189 1 r.2.1 ee::tW ee (scan g.l).1::m) J)∧((db K n g).2≠0→r.1=none∧E A (er d (db K n g).1::m) J):=by
  intro d_ e w aqs H;rw[aqs];unfold AT;by_cases he:e=0
  ·subst he;rw[if_neg (by simp)];have wz:=gn (H.front 1);have aqF:ee.length=(scan g.l).1.length:=by
    obtain⟨aV,_,a4⟩:=(bX.pD (bX.tail (bX.tail (bX.here (y:=mu.mono))))) H;exact a4.1
   simp only;rw[wz,aqF];refine bH H fun l w H=>?_;exact⟨by trivial,fun _=>⟨l,ee,rfl,H⟩,fun h=>absurd rfl h⟩
  ·rw[if_pos (by simpa using he)];exact⟨by trivial,fun h=>absurd h he,fun _=>⟨by trivial,((H.ord [1,2]).drop.drop)⟩⟩
 by_cases I:(scan g.l).2<g.l.length
 ·rw[if_pos (by simp; omega)];dsimp only;refine oa (by omega) (by omega) (by omega) (by omega) fun Sn Zp=>?_;have wG:=(bX.tail (bX.tail (bX.here (y:=cT.mono)):bX (tW ee (scan g.l).1::ro (B .u8) r (aS g.l)::er d K::m) (cT (B .u8) r (aS g.l))):bX (row X 189 1 q ee::tW ee (scan g.l).1::ro (B .u8) r (aS g.l)::er d K::m) (cT (B .u8) r (aS g.l)))
  have AW:=H.ord [3,2];have vg:bX (ro (B .u8) r (aS g.l)::row X 189 1 q ee::tW ee (scan g.l).1::m) (cT (B .u8) r (aS g.l)):=bX.here (y:=cT.mono);have rk:=vg.sub (fun _=>rfl) Zp (by rw[gq]; omega);have aku:((aS g.l).take (((scan g.l).2:Nat):Int).toNat).drop ((0:Int)).toNat=aS (g.l.take (scan g.l).2):=by rw[IC]; rfl
  rw[aku] at rk;refine ap (aHI (n:=n) di (by rw[List.length_take]; omega) (dc.ro (fun _=>rfl) rk) AW) ?_;rintro e w ⟨rfl,H⟩;refine g2 _ _ w ?_ ((H.front 1).drop);unfold db;rw[if_pos I]
 ·rw[if_neg (by simp; omega)];refine ap (aHF ah R (H.ord [3,2])) ?_;rintro e w ⟨rfl,H⟩;by_cases O:g.sure<(scan g.l).2
  ·rw[if_pos (by simp; omega)];refine ap (aeV (n:=n) di H) ?_;rintro e w ⟨rfl,H⟩;refine g2 _ _ w ?_ ((H.front 1).drop);unfold db;rw[if_neg I,if_pos O]
  ·rw[if_neg (by simp; omega)];refine g2 K 0 w ?_ ((H.front 1).drop);unfold db;rw[if_neg I,if_neg O]
end
section
variable {A w:World} {m bL:List bu}
theorem alG{Z:Type}{T:bn Z}{t:TypeId}{ar:Nat}{s:af}{xs:List Z}{z:Z}{aa:World→Prop}(al:∀ x,(T.cells x).length=ar)(i:Nat)(H:E A m w)(aw:front i m=row T t ar s xs::bL)
  (aq:∀ J,E A (row T t ar s (List.replicate xs.length z)::bL) J→aa J):wh T ar z s w aa:=by
 have H:=aw▸H.front i;rcases oF H with ⟨rfl,rfl,lw⟩ | ⟨l,rest,df,dT,gI,jB,gV⟩
 ·exact aq w (kJ T t ar lw)
 ·unfold wh;rw[df];have mZ:(xs.flatMap T.cells).length=s.len*ar:=by rw[nU al,dT]
  have wB:((List.replicate s.len z).flatMap T.cells).length=s.len*ar:=by rw[nU al]; simp
  refine⟨CJ gV (by simp only[List.length_append,mZ]; omega),aq _ ?_⟩;have:=Ai ((List.replicate s.len z).flatMap T.cells) 0 0 _ _ gV (by simp only[List.length_append,mZ,wB]; omega);refine un (rest:=rest) df (by simpa using dT) gI jB ?_;have e:jp (xs.flatMap T.cells++rest) (0+0) ((List.replicate s.len z).flatMap T.cells)=(List.replicate xs.length z).flatMap T.cells++rest:=by
   simp only[jp,Nat.add_zero,Nat.zero_add,List.take_zero,List.nil_append,wB];rw[← mZ,List.drop_left,dT]
  rw[e] at this;exact this
theorem aki{d:Nat}{K:cJ}{n:Int}{s:af}{bz:List Int}(aK:bz.length≤1000000)(k:dc 1 m (B .i64) s bz)(H:E A (er d K::m) w) :
  M Pg 71 [.pointer (some ⟨d,0,none⟩),.int .i64 n,X.enc s] dU w fun _ J=>E A (er d { K with ea:=max n 0,bz:=bz }::m) J:=by
 refine ai0 ?_;unfold Wr;refine b3 rfl ?_;obtain⟨q,P,bw,fg,H⟩:=xL H;refine dx (x:=max n 0) 0 H rfl rfl (Nat.le_of_ble_eq_true rfl) fun w H=>?_;refine aj (x:=bw) 0 H rfl rfl rfl ?_;refine alG (fun _=>rfl) 3 H rfl fun w H=>?_;refine aj (x:=bw) 1 H rfl rfl rfl ?_;refine oa (by omega) (by omega) (by omega) (by omega) fun aet sJ=>?_;obtain⟨_,H⟩:=Sl (fun _=>rfl) sJ (by omega) H;rw[show (0:Int).toNat=0 from rfl,List.take_zero] at H;refine Dq (fun _=>rfl) 0 H rfl (k.tail.tail.tail.tail.Cu H) (by simp; omega) fun r w H=>?_;rw[List.nil_append] at H;refine dx (x:=r) 1 H rfl rfl (Nat.le_of_ble_eq_true rfl) fun w H=>?_;exact q5 (K:={ K with ea:=max n 0,bz:=bz }) fg (H.ord [0,2,3,1])
end
end Disk
namespace Num
open bb
def pA(n:Int)(f:Nat):Int:=if f=0∨f=9223372036854775808∨n=0 then 0 else if f<4503599627370496 then 1
 else ((n.toNat*(4503599627370496+f%4503599627370496)/2^(1075-f/4503599627370496):Nat):Int)+if n.toNat*(4503599627370496+f%4503599627370496)%2^(1075-f/4503599627370496)=0 then 0 else 1
theorem aeG{x y D:Nat}(h:y+D=64):x*2^D%18446744073709551616=x%2^y*2^D:=by
 have yR:(2:Nat)^64=18446744073709551616:=by decide
 rw[← yR,← h,Nat.pow_add,Nat.mul_mod_mul_right]
theorem Jj{n:Int}{f:Nat}(ah:0≤n)(h:jo f):0≤pA n f∧pA n f≤2*n:=by
 unfold pA;split
 ·omega
 ·rename_i I;split
  ·omega
  ·rename_i U;have am:f≤4607182418800017408:=by rcases h with h | h<;>omega
   have aF:(2:Nat)^52=4503599627370496:=by decide
   have hm:n.toNat*(4503599627370496+f%4503599627370496)<n.toNat*(2*4503599627370496):=(Nat.mul_lt_mul_left (by omega)).2 (by omega);have ag:=Jq (n.toNat*(4503599627370496+f%4503599627370496)) (1075-f/4503599627370496) (by omega);generalize n.toNat*(4503599627370496+f%4503599627370496)=b6 at *;generalize b6/2^(1075-f/4503599627370496)=Q at *;have:b6/4503599627370496<2*n.toNat:=Nat.div_lt_of_lt_mul (by omega);split<;>omega
section
variable {A w:World} {m bL:List bu}
theorem aeK{n:Int}(ah:0≤n)(I:n≤4503599627370496)(H:E A m w):M Pg 153 [.int .i64 (-n)] (B .u64) w fun r J=>r=n∧E A m J:=by
 by_cases c:n=0
 ·subst c;exact Cz (by omega) (by omega) H
 ·refine Uk ?_;unfold My;rw[if_pos (by simp; omega)];have aQ:IntKind.u64.wrap (-n)=18446744073709551616-n:=by rw[ls]; omega
  rw[aQ];exact⟨by rw[ls]; omega,H⟩
theorem aeI{n:Int}(ah:0≤n)(I:n<9223372036854775808)(H:E A m w):M Pg 155 [.bool true,.int .u64 n] (bo (B .i64) (B .i64)) w fun r J=>r=(-n,0)∧E A m J:=by
 refine Ul ?_;unfold Mz;rw[if_pos (by simp; omega),wrap_i64 (x:=n) (by omega) (by omega),wrap_i64 (by omega) (by omega)];exact⟨by simp,H⟩
theorem amj{b k:Nat}(ah:0<b)(a0:b<2^104)(aq:52≤k)(jj:k≤4000)(H:E A m w):M Pg 156 [.int .u64 ((b/18446744073709551616:Nat):Int),.int .u64 ((b%18446744073709551616:Nat):Int),.int .u64 (k:Int)] (mj (B .u64) bf bf) w fun r J=>r.2.1=decide (b%2^k≠0)∧r.1=((b/2^k:Nat):Int)∧r.2.2=true∧E A m J:=by
 have yR:(2:Nat)^64=18446744073709551616:=by decide
 have yQ:(2:Nat)^104=18446744073709551616*1099511627776:=by decide
 refine Um ?_;unfold MA;by_cases bm:128≤k
 ·rw[if_pos (by simp; omega)];have dv:b<2^k:=Nat.lt_of_lt_of_le a0 (Nat.pow_le_pow_right (by omega) (by omega));have:b/2^k=0:=Nat.div_eq_of_lt dv;rw[this,Nat.mod_eq_of_lt dv];exact⟨(decide_eq_true (by omega)).symm,rfl,rfl,H⟩
 ·rw[if_neg (by simp; omega)];by_cases bB:64<k
  ·rw[if_pos (by simp; omega)];have dz:IntKind.u64.wrap ((k:Int)-64)=((k-64:Nat):Int):=by rw[kN _ (by omega) (by omega)]; omega
   have cm:IntKind.u64.wrap ((128:Int)-(k:Int))=((128-k:Nat):Int):=by rw[kN _ (by omega) (by omega)]; omega
   rw[dz,cm];refine aO _ ⟨by omega,(Bo (b/18446744073709551616) (k-64) (by omega) _ rfl).symm⟩ ?_;refine aO _ ⟨by omega,rfl⟩ ?_;have PM:2^k=18446744073709551616*2^(k-64):=by rw[← yR,← Nat.pow_add]; congr 1; omega
   refine⟨?_,?_,rfl,H⟩
   ·have aQ:min ((((128-k:Nat)):Int)).toNat IntKind.u64.bits=128-k:=by
     rw[Int.toNat_natCast];exact Nat.min_eq_left (by show 128-k≤64; omega)
    rw[aQ];have a6:((b/18446744073709551616:Nat):Int)*2^(128-k)=((b/18446744073709551616*2^(128-k):Nat):Int):=by rw[Int.natCast_mul]; congr 1
    have c_:IntKind.u64.wrap ((b/18446744073709551616*2^(128-k):Nat):Int)=((b/18446744073709551616%2^(k-64)*2^(128-k):Nat):Int):=by
     rw[ls,← aeG (show k-64+(128-k)=64 by omega)];omega
    rw[a6,c_];have mW:b%2^k=b%18446744073709551616+18446744073709551616*(b/18446744073709551616%2^(k-64)):=by rw[PM,Nat.mod_mul]
    rw[mW];have aqD:=Nat.two_pow_pos (128-k);generalize b/18446744073709551616%2^(k-64)=aN at *;generalize b%18446744073709551616=aS at *;rw[Bool.eq_iff_iff];simp only[Bool.or_eq_true,bne_iff_ne,ne_eq,decide_eq_true_eq];have bD:((aN*2^(128-k):Nat):Int)=0↔aN=0:=by
     constructor
     ·intro h;have h:aN*2^(128-k)=0:=by omega
      rcases Nat.mul_eq_zero.1 h with h | h
      ·exact h
      ·omega
     ·rintro rfl;simp
    rw[bD];omega
   ·simp only;rw[PM,Nat.div_div_eq_div_mul]
  ·rw[if_neg (by simp; omega)];by_cases b4:k=64
   ·subst b4;rw[if_pos (by simp)];rw[yR];refine⟨?_,rfl,rfl,H⟩;rw[Bool.eq_iff_iff];simp only[bne_iff_ne,ne_eq,decide_eq_true_eq];omega
   ·rw[if_neg (by simp; omega)];have dz:IntKind.u64.wrap ((64:Int)-(k:Int))=((64-k:Nat):Int):=by rw[kN _ (by omega) (by omega)]; omega
    rw[dz];obtain⟨D,bI⟩:∃ D,D+k=64:=⟨64-k,by omega⟩
    have zS:64-k=D:=by omega
    rw[zS];have yk:(2:Nat)^D*2^k=18446744073709551616:=by rw[← Nat.pow_add,bI,yR]
    have D4:4503599627370496≤2^k:=by
     have:(2:Nat)^52=4503599627370496:=by decide
     rw[← this];exact Nat.pow_le_pow_right (by omega) aq
    have Py:2^D≤4096:=by
     have:(2:Nat)^12=4096:=by decide
     rw[← this];exact Nat.pow_le_pow_right (by omega) (by omega)
    have ZZ:b/18446744073709551616<1099511627776:=by
     rw[yQ] at a0;exact Nat.div_lt_of_lt_mul a0
    have GX:b%18446744073709551616<18446744073709551616:=Nat.mod_lt _ (by omega);have JL:b=b/18446744073709551616*18446744073709551616+b%18446744073709551616:=by omega
    have hdiv:b/2^k=b/18446744073709551616*2^D+b%18446744073709551616/2^k:=by
     conv=>lhs; rw[JL,← yk,← Nat.mul_assoc]
     rw[yk,Nat.add_comm,Nat.add_mul_div_right _ _ (Nat.two_pow_pos k),Nat.add_comm]
    have Z6:b%2^k=b%18446744073709551616%2^k:=by
     conv=>lhs; rw[JL,← yk,← Nat.mul_assoc]
     rw[yk,Nat.add_comm,Nat.add_mul_mod_self_right]
    generalize b/18446744073709551616=aw at *;generalize b%18446744073709551616=nx at *;have l9:nx/2^k<2^D:=Nat.div_lt_of_lt_mul (by rw[Nat.mul_comm,yk]; exact GX);have GQ:aw*2^D≤1099511627776*4096:=Nat.mul_le_mul (by omega) Py;refine aO _ ⟨by omega,(Bo nx k (by omega) _ rfl).symm⟩ ?_;have Yt:min ((D:Int)).toNat IntKind.u64.bits=D:=by
     rw[Int.toNat_natCast];exact Nat.min_eq_left (by show D≤64; omega)
    have aQ:IntKind.u64.wrap ((aw:Int)*2^(min ((D:Int)).toNat IntKind.u64.bits))=((aw*2^D:Nat):Int):=by
     rw[Yt];have c:(aw:Int)*2^D=((aw*2^D:Nat):Int):=by rw[Int.natCast_mul]; congr 1
     rw[c];exact kN _ (by omega) (by omega)
    have a6:IntKind.u64.wrap ((nx:Int)*2^(min ((D:Int)).toNat IntKind.u64.bits))=((nx%2^k*2^D:Nat):Int):=by
     rw[Yt];have c:(nx:Int)*2^D=((nx*2^D:Nat):Int):=by rw[Int.natCast_mul]; congr 1
     rw[c,ls,← aeG (show k+D=64 by omega)];omega
    refine aO _ ⟨by omega,rfl⟩ ?_;rw[aQ];refine aO _ ⟨by omega,rfl⟩ ?_;rw[a6];refine aO _ ⟨by omega,(Bo aw k (by omega) _ rfl).symm⟩ ?_;have ah:aw/2^k=0:=Nat.div_eq_of_lt (by omega);rw[ah];refine⟨?_,?_,rfl,H⟩
    ·rw[Z6];generalize nx%2^k=aN at *;have aqD:=Nat.two_pow_pos D;rw[Bool.eq_iff_iff];simp only[bne_iff_ne,ne_eq,decide_eq_true_eq];have bD:((aN*2^D:Nat):Int)=0↔aN=0:=by
      constructor
      ·intro h;have h:aN*2^D=0:=by omega
       rcases Nat.mul_eq_zero.1 h with h | h
       ·exact h
       ·omega
      ·rintro rfl;simp
     rw[bD]
    ·simp only;rw[hdiv];have yj:=(bits_nat .u64 64 (by decide) kN (nx/2^k) (aw*2^D) (by omega) (by omega)).2;rw[yj,Nat.or_comm,Nat.mul_comm aw,← Nat.two_pow_add_eq_or_of_lt l9]
theorem aH6{n:Int}{f:Nat}(ah:0≤n)(I:n≤2000000000000000)(am:jo f)(H:E A m w):M Pg 95 [.int .i64 (-n),.float .f64 f] (bo (B .i64) (B .i64)) w fun r J=>r=(-pA n f,0)∧E A m J:=by
 have wv:f<18446744073709551616:=by rcases am with h | h<;>omega
 obtain⟨k,rfl⟩:∃ k:Nat,n=(k:Int):=⟨n.toNat,by omega⟩
 refine WN ?_;unfold NA;refine ap (Bl wv H) ?_;rintro c w ⟨U,_,_,H⟩;have U:=U am;rw[if_neg (by simp; omega),if_neg (by simp; omega)];have xM:(c==6)=false:=by rw[beq_eq_false_iff_ne]; omega
 rw[xM];unfold FT;rw[if_neg (by simp)];by_cases bD:f=0∨f=9223372036854775808
 ·refine KI (ap (Zf bD H) ?_);rintro r w ⟨rfl,H⟩;refine KJ (ap (abq (e:=53) bD H) ?_);rintro r w ⟨rfl,H⟩;refine aO 0 (by rcases bD with h | h<;>subst h; exact LO.1; exact LO.2) ?_;refine ap (aeK ah (by omega) H) ?_;rintro r w ⟨rfl,H⟩;refine ap (Cz (n:=0) (by omega) (by omega) H) ?_;rintro r w ⟨rfl,H⟩;refine ap (KK (x:=k) (S:=0) (by omega) (by omega) H) ?_;rintro r w ⟨rfl,H⟩;rw[if_pos (by simp)];have:pA k r=0:=by
   unfold pA;rw[if_pos (by omega)]
  rw[this];exact⟨rfl,H⟩
 ·have kZ:0<f∧f≤4607182418800017408:=by rcases am with h | h<;>omega
  refine KI (ap (Zg kZ.1 kZ.2 H) ?_);rintro r w ⟨⟨aT,e,rfl,ie,aK,aG⟩,H⟩;refine KJ (ap (abr ie H) ?_);rintro r w ⟨rfl,H⟩;refine aO _ (afb ie) ?_;refine ap (aeK ah (by omega) H) ?_;rintro r w ⟨rfl,H⟩;refine ap (Cz (n:=((4503599627370496+aT:Nat):Int)) (by omega) (by omega) H) ?_;rintro r w ⟨rfl,H⟩;refine ap (KK (x:=k) (S:=4503599627370496+aT) (by omega) (by omega) H) ?_;rintro r w ⟨rfl,H⟩;have JO:k*(4503599627370496+aT)≤2000000000000000*9007199254740992:=Nat.mul_le_mul (by omega) (by omega);have yQ:(2:Nat)^104=18446744073709551616*1099511627776:=by decide
  have he:e≤1∧-1100≤e∧(f<4503599627370496→e≤-1000):=by
   by_cases c:f<4503599627370496
   ·have:=aG c;omega
   ·have:=(aK (by omega)).2;omega
  have dz:IntKind.i64.wrap (e-53)=e-53:=wrap_i64 (by omega) (by omega);have cm:IntKind.u64.wrap (IntKind.i64.wrap (0-(e-53)))=((53-e).toNat:Nat):=by rw[wrap_i64 (by omega) (by omega),kN _ (by omega) (by omega)]; omega
  dsimp only;rw[dz,cm];have BH:pA k f=((k*(4503599627370496+aT)/2^(53-e).toNat:Nat):Int)+if k*(4503599627370496+aT)%2^(53-e).toNat=0 then 0 else 1:=by
   unfold pA;by_cases ax:k=0
   ·subst ax;rw[if_pos (by simp)];simp
   ·rw[if_neg (by omega)];by_cases c:f<4503599627370496
    ·rw[if_pos c];have aq:104≤(53-e).toNat:=by have:=he.2.2 c; omega
     have aF:2^104≤2^(53-e).toNat:=Nat.pow_le_pow_right (by omega) aq;have dv:k*(4503599627370496+aT)<2^(53-e).toNat:=Nat.lt_of_lt_of_le (by rw[yQ]; omega) aF;have dO:k*(4503599627370496+aT)≠0:=Nat.mul_ne_zero ax (by omega);rw[Nat.div_eq_of_lt dv,Nat.mod_eq_of_lt dv,if_neg dO];rfl
    ·rw[if_neg c];obtain⟨a,l⟩:=aK (by omega);have:(53-e).toNat=1075-f/4503599627370496:=by omega
     rw[this,Int.toNat_natCast,a]
  rw[BH];have a5:=Jq (k*(4503599627370496+aT)) (53-e).toNat (by omega);by_cases F:k*(4503599627370496+aT)=0
  ·rw[if_pos (by rw[F]; simp),F];exact⟨by simp,H⟩
  ·have JX:k≠0:=by rintro rfl; simp at F
   generalize k*(4503599627370496+aT)=b6 at *;rw[if_neg (by simp; omega),if_neg (by simp; omega)];refine ap (amj (b:=b6) (k:=(53-e).toNat) (by omega) (by rw[yQ]; omega) (by omega) (by omega) H) ?_;rintro⟨q,rest,fits⟩ w ⟨aH,I,O,H⟩;simp only at I O aH;subst I; subst O; subst aH;have aQ:decide (-(k:Int)<0)=true:=by rw[decide_eq_true_eq]; omega
   have a6:decide (((4503599627370496+aT:Nat):Int)<0)=false:=by rw[decide_eq_false_iff_not]; omega
   rw[aQ,a6];generalize b6/2^(53-e).toNat=Q at *;have c_:(!(true==false))=true:=rfl;by_cases cr:b6%2^(53-e).toNat=0
   ·rw[decide_eq_false (by omega:¬ b6%2^(53-e).toNat≠0),if_neg (by simp),if_neg (by simp),if_pos cr];unfold C0;rw[aQ,a6];refine ap (aeI (n:=((Q:Nat):Int)) (by omega) (by omega) H) ?_;rintro r w ⟨rfl,H⟩;exact⟨by simp,H⟩
   ·rw[decide_eq_true (by omega:b6%2^(53-e).toNat≠0),if_neg (by simp; omega),if_pos (by simp),if_neg cr];unfold C0;rw[aQ,a6];have mW:IntKind.u64.wrap ((Q:Int)+1)=(Q:Int)+1:=kN _ (by omega) (by omega);rw[mW];refine ap (aeI (n:=(Q:Int)+1) (by omega) (by omega) H) ?_;rintro r w ⟨rfl,H⟩;exact⟨rfl,H⟩
end
end Num
namespace Clock
open bb Num
abbrev lz:=jt
abbrev pu:=cG
abbrev hh:=tu
abbrev ajF:=A4
def nn:lz:=⟨0,0⟩
def eY(n:Int):Prop:=0≤n∧n≤1125899906842624
instance (n:Int):Decidable (eY n):=by unfold eY; infer_instance
def nr(s:lz):Prop:=eY s.gO∧eY s.jr∧s.gO≤s.jr
instance (s:lz):Decidable (nr s):=by unfold nr; infer_instance
def zC(s:lz):Int:=if nr s then 0 else 50
def mJ(s:lz)(k:Int):lz×Int:=if ¬ nr s then (nn,50) else if ¬ eY k then (nn,52) else (⟨max (s.gO-k) 0,min (s.jr+k) 1125899906842624⟩,0)
def DD(s:lz)(k:Int)(f:Nat):lz×Int:=if ¬ nr s then (nn,50) else if ¬ eY k then (nn,52) else mJ s (pA k f)
theorem afK{s:lz}{k:Int}(h:nr s)(aq:eY k):(mJ s k).2=0∧nr (mJ s k).1∧(mJ s k).1.gO≤s.gO∧s.jr≤(mJ s k).1.jr:=by
 obtain⟨⟨I,O⟩,⟨aH,bg⟩,dh⟩:=h;unfold mJ;rw[if_neg (fun c=>c ⟨⟨I,O⟩,⟨aH,bg⟩,dh⟩),if_neg (fun c=>c aq)];have:=aq.1;refine⟨rfl,⟨⟨?_,?_⟩,⟨?_,?_⟩,?_⟩,?_,?_⟩<;>simp only<;>omega
section
variable {A w:World} {m bL:List bu}
theorem aaA(n:Int):(decide (n≥0)&&decide (n≤1125899906842624))=decide (eY n):=by
 rw[Bool.eq_iff_iff];simp only[Bool.and_eq_true,decide_eq_true_eq];unfold eY;omega
theorem LF{n:Int}(H:E A m w):M Pg 168 [.int .i64 n] bf w fun r J=>r=decide (eY n)∧E A m J:=by
 refine agZ ?_;unfold Uw;exact⟨aaA n,H⟩
theorem Jm{n:Int}(H:E A m w):M Pg 89 [.int .i64 n] bf w fun r J=>r=decide (eY n)∧E A m J:=by
 refine aji ?_;unfold WJ;exact⟨aaA n,H⟩
theorem uQ{s:lz}(H:E A m w):M Pg 167 [pu.enc s] (B .i64) w fun r J=>r=zC s∧E A m J:=by
 refine agY ?_;unfold Uv;refine bH H fun dX w H=>?_;refine aj (x:=s.gO) 0 H rfl rfl rfl ?_;refine ap (LF H) ?_;rintro r w ⟨rfl,H⟩;have bad:∀ (w:World),¬ nr s→E A (aI dX (pu.cells s) 137::m) w→CT ⟨dX,0,none⟩ true w fun r J=>r=zC s∧E A m J:=by
  intro w am H;unfold CT;refine aO 0 (fun h=>by cases h) ?_;refine aO 0 (fun h=>by cases h) ?_;rw[if_pos (by simp)];exact⟨by unfold zC; rw[if_neg am],H.drop⟩
 by_cases bm:eY s.gO
 ·rw[decide_eq_true bm,if_neg (by simp)];refine aj (x:=s.jr) 0 H rfl rfl rfl ?_;refine ap (LF H) ?_;rintro r w ⟨rfl,H⟩;by_cases bB:eY s.jr
  ·rw[decide_eq_true bB];unfold CT;refine aO s.gO (fun _=>bE (B .i64) H rfl rfl) ?_;refine aO s.jr (fun _=>bE (B .i64) H rfl rfl) ?_;by_cases b4:s.gO≤s.jr
   ·rw[if_neg (by simp; omega)];exact⟨by unfold zC; rw[if_pos ⟨bm,bB,b4⟩],H.drop⟩
   ·rw[if_pos (by simp; omega)];exact⟨by unfold zC; rw[if_neg (fun h=>b4 h.2.2)],H.drop⟩
  ·rw[decide_eq_false bB];exact bad w (fun h=>bB h.2.1) H
 ·rw[decide_eq_false bm,if_pos (by simp)];exact bad w (fun h=>bm h.1) H
theorem afL{s:lz}{k:Int}(aq:-9000000000000000000≤k∧k≤9000000000000000000)(H:E A m w):M Pg 166 [pu.enc s,.int .i64 k] (bo pu (B .i64)) w fun r J=>r=mJ s k∧E A m J:=by
 refine agX ?_;unfold Uu mJ;refine bH H fun iy w H=>?_;refine bH H fun l5 w H=>?_;refine ec (x:=s) 1 H rfl ?_;refine ap (uQ H) ?_;rintro r w ⟨rfl,H⟩;unfold zC;by_cases bm:nr s
 ·rw[if_pos bm,if_neg (by simp),if_neg (fun h=>h bm)];refine ap (LF H) ?_;rintro r w ⟨rfl,H⟩;by_cases bB:eY k
  ·rw[decide_eq_true bB,if_neg (by simp:¬ (!true)=true),if_neg (fun h=>h bB)];refine aj (x:=s.gO) 1 H rfl rfl rfl ?_;refine aj (x:=s.jr) 1 H rfl rfl rfl ?_;obtain⟨⟨I,O⟩,⟨aH,bg⟩,dh⟩:=bm;obtain⟨il,rU⟩:=bB;rw[wrap_i64 (x:=s.gO-k) (by omega) (by omega),wrap_i64 (x:=s.jr+k) (by omega) (by omega)];refine cV (x:=jv) (S:=(⟨max (s.gO-k) 0,min (s.jr+k) 1125899906842624⟩:lz)) pb 0 H rfl fun w H=>?_;refine ec (x:=(⟨max (s.gO-k) 0,min (s.jr+k) 1125899906842624⟩:lz)) 0 H rfl ?_;exact⟨rfl,H.drop.drop⟩
  ·rw[decide_eq_false bB,if_pos (by simp:(!false)=true),if_pos bB];refine cV (x:=jv) (S:=nn) pb 0 H rfl fun w H=>?_;refine ec (x:=nn) 0 H rfl ?_;exact⟨rfl,H.drop.drop⟩
 ·rw[if_neg bm,if_pos (by simp),if_pos bm];refine cV (x:=jv) (S:=nn) pb 0 H rfl fun w H=>?_;refine ec (x:=nn) 0 H rfl ?_;exact⟨rfl,H.drop.drop⟩
theorem Xv{t k:Int}(aq:-9000000000000000000≤k∧k≤9000000000000000000)(H:E A m w):M Pg 111 [.int .i64 t,.int .i64 k] (bo pu (B .i64)) w fun r J=>r=mJ ⟨t,t⟩ k∧E A m J:=by
 refine af8 ?_;unfold TF;refine bH H fun iy w H=>?_;refine ap (afL (s:=⟨t,t⟩) aq H) ?_;rintro r w ⟨rfl,H⟩;refine cV (x:=jv) (S:=(mJ ⟨t,t⟩ k).1) pb 0 H rfl fun w H=>?_;refine ec (x:=(mJ ⟨t,t⟩ k).1) 0 H rfl ?_;exact⟨rfl,H.drop⟩
theorem amk{s:lz}{k:Int}{f:Nat}(am:jo f)(R:fO .gtr f 4607182418800017408=false)(H:E A m w):M Pg 112 [pu.enc s,.int .i64 k,.float .f64 f] (bo pu (B .i64)) w fun r J=>r=DD s k f∧E A m J:=by
 have wv:f<18446744073709551616:=by rcases am with h | h<;>omega
 refine af9 ?_;unfold TG DD;refine bH H fun iz w H=>?_;refine bH H fun uK w H=>?_;refine ec (x:=s) 1 H rfl ?_;refine ap (uQ H) ?_;rintro r w ⟨rfl,H⟩;unfold zC;by_cases bm:nr s
 ·rw[if_pos bm,if_neg (by simp),if_neg (fun h=>h bm)];refine ap (LF H) ?_;rintro r w ⟨rfl,H⟩;by_cases bB:eY k
  ·rw[decide_eq_true bB,if_neg (by simp:¬ (!true)=true),if_neg (fun h=>h bB)];refine ap (Bl wv H) ?_;rintro c w ⟨U,_,_,H⟩;have U:=U am;rw[if_neg (by rw[R]; simp; omega)];have rU:=bB.1;have tK:=bB.2;rw[wrap_i64 (x:=0-k) (by omega) (by omega),Int.zero_sub];refine ap (aH6 rU (by omega) am H) ?_;rintro r w ⟨rfl,H⟩;rw[if_neg (by simp)];refine ec (x:=s) 1 H rfl ?_;have kZ:=Jj (f:=f) rU am;simp only;rw[wrap_i64 (x:=0 - -pA k f) (by omega) (by omega),show 0 - -pA k f=pA k f from by omega];refine ap (afL (s:=s) (by omega) H) ?_;rintro r w ⟨rfl,H⟩;refine cV (x:=jv) (S:=(mJ s (pA k f)).1) pb 0 H rfl fun w H=>?_;refine ec (x:=(mJ s (pA k f)).1) 0 H rfl ?_;exact⟨rfl,H.drop.drop⟩
  ·rw[decide_eq_false bB,if_pos (by simp:(!false)=true),if_pos bB];refine cV (x:=jv) (S:=nn) pb 0 H rfl fun w H=>?_;refine ec (x:=nn) 0 H rfl ?_;exact⟨rfl,H.drop.drop⟩
 ·rw[if_neg bm,if_pos (by simp),if_pos bm];refine cV (x:=jv) (S:=nn) pb 0 H rfl fun w H=>?_;refine ec (x:=nn) 0 H rfl ?_;exact⟨rfl,H.drop.drop⟩
end
structure iT(c:hh):Prop where
 ey:jo c.ey
 gtr:fO .gtr c.ey 4607182418800017408=false
 last:eY c.last
 floor:eY c.floor
 at_:eY c.dd.at_
 h0:eY c.dd.h0
 width:eY c.dd.width
 le:c.dd.at_≤c.last
def j4(l:Nat)(c:hh):bu:=aI l (ajF.cells c) 175
def sk(c:hh)(h t e:Int):hh×Int:=if ¬ (eY h∧eY t∧eY e) then (c,61) else if h<c.last then (c,62) else ({ c with dd:=⟨h,t,e,true⟩,last:=h },0)
def sh(c:hh)(h:Int):lz:=(DD (mJ ⟨c.dd.h0+(h-c.dd.at_),c.dd.h0+(h-c.dd.at_)⟩ c.dd.width).1 (h-c.dd.at_) c.ey).1
def so(f:Int)(s:lz):lz:=⟨max s.gO f,max s.jr (max s.gO f)⟩
def e3(c:hh)(h:Int):hh×lz×Int:=
 if ¬ eY h then (c,nn,61) else if c.dd.set=false then (c,nn,63) else if h<c.last then (c,nn,62) else if 1125899906842624<c.dd.h0+(h-c.dd.at_) then (c,nn,64)
 else ({ c with last:=h,floor:=(so c.floor (sh c h)).gO },so c.floor (sh c h),0)
theorem iT.set{c:hh}(k:iT c)(h t e:Int):iT (sk c h t e).1:=by
 unfold sk;split
 ·exact k
 ·rename_i bm;have bm:eY h∧eY t∧eY e:=Classical.not_not.1 bm;split
  ·exact k
  ·exact⟨k.ey,k.gtr,bm.1,k.floor,bm.1,bm.2.1,bm.2.2,Int.le_refl _⟩
theorem aF2{c:hh}(k:iT c){h:Int}(cn:eY h)(al:c.last≤h)(aR:c.dd.h0+(h-c.dd.at_)≤1125899906842624):nr (sh c h):=by
 have I:=k.at_;have O:=k.h0;have aH:=k.le;obtain⟨bg,dh⟩:=cn;have hw:=afK (s:=⟨c.dd.h0+(h-c.dd.at_),c.dd.h0+(h-c.dd.at_)⟩) (k:=c.dd.width) (by refine⟨⟨?_,?_⟩,⟨?_,?_⟩,?_⟩<;>simp only<;>unfold eY at*<;> omega) k.width;unfold sh DD;unfold eY at I O;have aw:eY (h-c.dd.at_):=⟨by omega,by omega⟩
 rw[if_neg (fun aK=>aK hw.2.1),if_neg (fun aK=>aK aw)];have U:=Jj (f:=c.ey) aw.1 k.ey;by_cases ao:eY (pA (h-c.dd.at_) c.ey)
 ·exact (afK hw.2.1 ao).2.1
 ·unfold mJ;rw[if_neg (fun aK=>aK hw.2.1),if_pos ao];exact⟨⟨by decide,by decide⟩,⟨by decide,by decide⟩,by decide⟩
theorem iT.now{c:hh}(k:iT c)(h:Int):iT (e3 c h).1∧((e3 c h).2.2=0→nr (e3 c h).2.1):=by
 unfold e3;split
 ·exact⟨k,fun h=>by cases h⟩
 ·rename_i bm;have bm:eY h:=Classical.not_not.1 bm;split
  ·exact⟨k,fun h=>by cases h⟩
  ·split
   ·exact⟨k,fun h=>by cases h⟩
   ·split
    ·exact⟨k,fun h=>by cases h⟩
    ·have am:=aF2 k bm (by omega) (by omega);obtain⟨⟨br,eN⟩,⟨iZ,nt⟩,Bs⟩:=am;have cq:=k.floor;have rp:=k.le;unfold eY at cq;have mZ:eY (max (sh c h).gO c.floor):=⟨by omega,by omega⟩
     exact⟨⟨k.ey,k.gtr,bm,mZ,k.at_,k.h0,k.width,by simp only; omega⟩,fun _=>⟨mZ,⟨by simp only[so]; omega,by simp only[so]; omega⟩,by simp only[so]; omega⟩⟩
section
variable {A w:World} {m bL:List bu}
theorem aeC{l:Nat}{c:hh}{h t e:Int}(H:E A (j4 l c::m) w):M Pg 40 [.pointer (some ⟨l,0,none⟩),.int .i64 h,.int .i64 t,.int .i64 e] (B .i64) w fun r J=>r=(sk c h t e).2∧E A (j4 l (sk c h t e).1::m) J:=by
 refine ait ?_;unfold VY sk;refine ap (Jm H) ?_;rintro r w ⟨rfl,H⟩;have bad:∀ (w:World),¬ (eY h∧eY t∧eY e)→E A (j4 l c::m) w→CV (some ⟨l,0,none⟩) h t e true w fun r J=>r=(if ¬ (eY h∧eY t∧eY e) then (c,(61:Int)) else if h<c.last then (c,62) else ({ c with dd:=⟨h,t,e,true⟩,last:=h },0)).2∧E A (j4 l (if ¬ (eY h∧eY t∧eY e) then (c,(61:Int)) else if h<c.last then (c,62) else ({ c with dd:=⟨h,t,e,true⟩,last:=h },0)).1::m) J:=by
  intro w aK H;unfold CV;rw[if_pos rfl,if_pos aK];exact⟨rfl,H⟩
 by_cases bm:eY h
 ·rw[decide_eq_true bm,if_neg (by simp:¬ (!true)=true)];refine ap (Jm H) ?_;rintro r w ⟨rfl,H⟩;unfold FC;by_cases bB:eY t
  ·rw[decide_eq_true bB,if_neg (by simp:¬ (!true)=true)];refine ap (Jm H) ?_;rintro r w ⟨rfl,H⟩;by_cases b4:eY e
   ·rw[decide_eq_true b4];unfold CV;rw[if_neg (by simp:¬ (!true)=true),if_neg (fun aK=>aK ⟨bm,bB,b4⟩)];refine b3 rfl ?_;refine aj (x:=c.last) 0 H rfl rfl rfl ?_;by_cases fa:h<c.last
    ·rw[if_pos (by simpa using fa),if_pos fa];exact⟨rfl,H⟩
    ·rw[if_neg (by simpa using fa),if_neg fa];refine dx (x:=h) 0 H rfl rfl (Nat.le_of_ble_eq_true rfl) fun w H=>?_;refine dx (T:=A3) (x:=(⟨h,t,e,true⟩:tt)) 0 H rfl rfl (Nat.le_of_ble_eq_true rfl) fun w H=>?_;exact⟨rfl,H⟩
   ·rw[decide_eq_false b4];exact bad w (fun h=>b4 h.2.2) H
  ·rw[decide_eq_false bB,if_pos (by simp:(!false)=true)];exact bad w (fun h=>bB h.2.1) H
 ·rw[decide_eq_false bm,if_pos (by simp:(!false)=true)];unfold FC;rw[if_pos rfl];exact bad w (fun h=>bm h.1) H
end
end Clock
namespace Num
open bb
theorem KD(f:Nat):kr f+ff f*4503599627370496=f∧kr f<9007199254740992∧(0<ff f→4503599627370496≤kr f):=by
 unfold kr ff;split
 ·exact⟨by omega,by omega,by omega⟩
 ·refine⟨?_,by omega,by omega⟩;have:=Nat.div_add_mod f 4503599627370496;have I:1≤f/4503599627370496:=by omega
  obtain⟨k,aq⟩:∃ k,f/4503599627370496=k+1:=⟨f/4503599627370496-1,by omega⟩
  rw[aq] at this ⊢;simp only[Nat.add_sub_cancel];omega
theorem afq{f g:Nat}(h:f<g):kr f*2^(ff f-min (ff f) (ff g))<kr g*2^(ff g-min (ff f) (ff g)):=by
 obtain⟨f1,f2,f3⟩:=KD f;obtain⟨br,eN,iZ⟩:=KD g;generalize kr f=y at *;generalize kr g=n at *;generalize ff f=e at *;generalize ff g=d at *;rcases Nat.lt_trichotomy e d with c | c | c
 ·have aQ:e-min e d=0:=by omega
  obtain⟨k,aq⟩:∃ k,d-min e d=k+1:=⟨d-min e d-1,by omega⟩
  rw[aQ,aq,Nat.pow_zero,Nat.mul_one,Nat.pow_succ];have I:=iZ (by omega);have O:4503599627370496*(2^k*2)≤n*(2^k*2):=Nat.mul_le_mul_right _ I;have aH:1≤2^k:=Nat.two_pow_pos k;omega
 ·subst c;have aQ:e-min e e=0:=by omega
  rw[aQ,Nat.pow_zero,Nat.mul_one,Nat.mul_one];omega
 ·exfalso;have:(d+1)*4503599627370496≤e*4503599627370496:=Nat.mul_le_mul_right _ c;have I:=f3 (by omega);rw[Nat.add_mul] at this;omega
theorem alK(a:Int):compare a a=.eq:=by simp[compare,compareOfLessAndEq]
theorem JK{f g:Nat}(am:f<9218868437227405312)(R:g<9218868437227405312):fO .gtr f g=decide (g<f):=by
 unfold fO;rw[f64];simp only[Ieee.Format.order,n2 am,n2 R,Ieee.Datum.order,vB];have aQ:(-1074+(ff f:Int)-min (-1074+(ff f:Int)) (-1074+(ff g:Int))).toNat=ff f-min (ff f) (ff g):=by omega
 have a6:(-1074+(ff g:Int)-min (-1074+(ff f:Int)) (-1074+(ff g:Int))).toNat=ff g-min (ff f) (ff g):=by omega
 rw[aQ,a6];rcases Nat.lt_trichotomy f g with c | c | c
 ·rw[Dy (Int.ofNat_lt.2 (afq c)),decide_eq_false (by omega)];rfl
 ·subst c;rw[alK,decide_eq_false (by omega)];rfl
 ·have h:=afq c;rw[Nat.min_comm] at h;rw[X1 (Int.ofNat_lt.2 h),decide_eq_true c];rfl
def iX(f:Nat):Prop:=f=9223372036854775808∨f≤4576918229304087675
theorem iX.ey{f:Nat}(h:iX f):jo f:=by
 rcases h with h | h
 ·exact .inl h
 ·exact .inr (by omega)
theorem abJ{g:Nat}(R:g<9218868437227405312):fO .gtr 9223372036854775808 g=false:=by
 have e:Ieee.double.read 9223372036854775808=.number true 0 (-1074):=by decide
 unfold fO;rw[f64];simp only[Ieee.Format.order,e,n2 R,Ieee.Datum.order,vB];have:Ieee.signed true 0 (-1074-min (-1074) (-1074+(ff g:Int))).toNat=0:=by unfold Ieee.signed; simp
 rw[this];have U:(0:Int)≤((kr g*2^(-1074+(ff g:Int)-min (-1074) (-1074+(ff g:Int))).toNat:Nat):Int):=Int.natCast_nonneg _;rcases Int.lt_or_eq_of_le U with h | h
 ·rw[Dy h]; rfl
 ·rw[← h]; rfl
theorem iX.one{f:Nat}(h:iX f):fO .gtr f 4607182418800017408=false:=by
 rcases h with rfl | h
 ·exact abJ (by omega)
 ·rw[JK (by omega) (by omega),decide_eq_false (by omega)]
theorem iX.gm{f:Nat}(h:iX f):fO .gtr f 4576918229304087675=false:=by
 rcases h with rfl | h
 ·exact abJ (by omega)
 ·rw[JK (by omega) (by omega),decide_eq_false (by omega)]
theorem aFW{f:Nat}(h:jo f)(R:fO .gtr f 4576918229304087675=false):iX f:=by
 rcases h with h | h
 ·exact .inl h
 ·rw[JK (by omega) (by omega)] at R;exact .inr (by have:=of_decide_eq_false R; omega)
def nV(f:Nat):Nat:=(Ieee.double.div f 4611686018427387904).getD 0
theorem Pk{f:Nat}(h:iX f):xl .quo f 4611686018427387904 (nV f)∧jo (nV f):=by
 have a6:Ieee.double.read 4611686018427387904=.number false 4503599627370496 (-51):=by decide
 have aK:(4503599627370496:Nat).log2=52:=by decide
 have aIV:∀ (l:Bool) (p:Int),Ieee.double.write (.number l 0 p)=if l then 9223372036854775808 else 0:=by
  intro l p;show Ieee.Format.nearest _ _ _ _=_
  unfold Ieee.Format.nearest;rw[if_pos rfl];unfold Ieee.Format.word;rw[Ig]
 have key:∃ z,Ieee.double.div f 4611686018427387904=some z∧jo z:=by
  unfold Ieee.Format.div;rw[a6];rcases h with rfl | h
  ·have e:Ieee.double.read 9223372036854775808=.number true 0 (-1074):=by decide
   rw[e];refine⟨9223372036854775808,by decide,.inl rfl⟩
  ·rw[n2 (by omega)];simp only[Ieee.Datum.quotient];rw[if_neg (by omega),aK,DM];simp only[Option.map_some];refine⟨_,rfl,?_⟩;obtain⟨I,O,aH⟩:=KD f;have apl:ff f≤1015:=by unfold ff; split<;>omega
   generalize kr f=y at *;generalize ff f=e at *;by_cases hm:y=0
   ·subst hm;rw[Nat.zero_shiftLeft];simp only[Nat.zero_div,Nat.mul_zero,Nat.zero_mod];show jo (Ieee.double.write (.number (false ^^ false) (0+(0 != 0).toNat) _))
    rw[show (0+((0:Nat)!=0).toNat)=0 from rfl,aIV];exact .inr (by simp)
   ·have wx:y.log2≤52:=by
     have:y.log2<53:=(Nat.log2_lt hm).2 (by omega);omega
    have J2:52+2+52-y.log2=52+(54-y.log2):=by omega
    have qd:y <<< (52+2+52-y.log2)=y*2^(54-y.log2)*4503599627370496:=by
     rw[J2,Nat.shiftLeft_eq,Nat.pow_add,show (2:Nat)^52=4503599627370496 by decide,Nat.mul_assoc,Nat.mul_comm (2^(54-y.log2))]
    rw[qd,Nat.mul_div_cancel _ (by omega),Nat.mul_mod_left];have dv:y*2^(54-y.log2)<36028797018963968:=by
     have dh:y<2^(y.log2+1):=Nat.lt_log2_self;have il:y*2^(54-y.log2)<2^(y.log2+1)*2^(54-y.log2):=(Nat.mul_lt_mul_right (Nat.two_pow_pos _)).2 dh;rw[← Nat.pow_add,show y.log2+1+(54-y.log2)=55 by omega] at il;have:(2:Nat)^55=36028797018963968:=by decide
     omega
    have Px:18014398509481984≤y*2^(54-y.log2):=by
     have dh:2^y.log2≤y:=Nat.log2_self_le hm;have il:2^y.log2*2^(54-y.log2)≤y*2^(54-y.log2):=Nat.mul_le_mul_right _ dh;rw[← Nat.pow_add,show y.log2+(54-y.log2)=54 by omega] at il;have:(2:Nat)^54=18014398509481984:=by decide
     omega
    generalize y*2^(54-y.log2)=b6 at *;show jo (Ieee.Format.nearest Ieee.double (false ^^ false) (2*b6+((0:Nat)!=0).toNat) _)
    rw[show ((0:Nat)!=0).toNat=0 from rfl,Nat.add_zero];unfold Ieee.Format.nearest;rw[if_neg (by omega)];have pJ:(2*b6).log2=55:=(Nat.log2_eq_iff (by omega)).2 ⟨by omega,by omega⟩;rw[pJ,z9,DM,zB,z2];generalize aF:(-1074+(e:Int) - -51-((52+2+52-y.log2:Nat):Int)-1)=P;have fg:P≤-1074+(e:Int)-4:=by omega
    have Zz:-1074+(e:Int)-56≤P:=by omega
    simp only;have D6:max (P+((55:Nat):Int)-((52:Nat):Int)) (-1074)=max (P+3) (-1074):=by omega
    rw[D6];have zP:(P-max (P+3) (-1074)).toNat=0:=by omega
    have BD:3≤(max (P+3) (-1074)-P).toNat:=by omega
    rw[zP];have GS:Ieee.Toward.cut .even (false ^^ false) ((2*b6) <<< 0) (max (P+3) (-1074)-P).toNat≤9007199254740992:=by
     generalize (max (P+3) (-1074)-P).toNat=K at *;unfold Ieee.Toward.cut;rw[Nat.shiftLeft_zero,pJ];have GP:8≤1 <<< min K (55+2):=by
      rw[Nat.shiftLeft_eq,Nat.one_mul];have:(2:Nat)^3≤2^min K (55+2):=Nat.pow_le_pow_right (by omega) (by omega);omega
     generalize 1 <<< min K (55+2)=ay at *;simp only;have rU:2*b6/ay≤2*b6/8:=Nat.div_le_div_left GP (by omega);have tK:∀ l:Bool,l.toNat≤1:=fun l=>by cases l<;>decide
     refine Nat.le_trans (Nat.add_le_add rU (tK _)) ?_;omega
    have aqL:(max (P+3) (-1074) - -1074).toNat≤1015:=by omega
    generalize (max (P+3) (-1074) - -1074).toNat=Q at *;generalize Ieee.Toward.cut .even (false ^^ false) ((2*b6) <<< 0) (max (P+3) (-1074)-P).toNat=Kp at *;unfold Ieee.Format.word;rw[if_neg (by simp)];refine .inr ?_;have sJ:Q*4503599627370496≤1015*4503599627370496:=Nat.mul_le_mul_right _ aqL;exact Nat.le_trans (Nat.min_le_left _ _) (Nat.le_trans (Nat.add_le_add sJ GS) (by decide))
 obtain⟨z,I,O⟩:=key;have bD:nV f=z:=congrArg (fun G:Option Nat=>G.getD 0) I;rw[bD];exact⟨I,O⟩
end Num
namespace Clock
open bb Num
def Gj(f:Nat):hh:=⟨⟨0,0,0,false⟩,f,0,0⟩
theorem jY:eY 0:=by decide
theorem XX{f:Nat}(h:iX f):iT (Gj f):=⟨h.ey,h.one,jY,jY,jY,jY,jY,Int.le_refl 0⟩
theorem foldl_max:∀ (N:List Int) (a:Int),a≤N.foldl max a
 |[],a=>Int.le_refl a
 |x::N,a=>Int.le_trans (by omega) (foldl_max N (max a x))
def jA(t:Int):Prop:=1≤t∧t≤1125899906842624
instance (n:Int):Decidable (jA n):=by unfold jA; infer_instance
def oH(l:Nat)(n:Int):bu:=aI l [.int .i64 n] 223
def oy(last t:Int):Int×Int:=if jA t then (max last t,0) else (last,100)
def Ab(last:Int)(s:lz)(h_:List Int):Int×Int×Int:=
 if ¬ nr s then (last,0,100) else if 1125899906842624≤h_.foldl max (max last s.jr) then (last,0,101) else (h_.foldl max (max last s.jr)+1,h_.foldl max (max last s.jr)+1,0)
section
variable {A w:World} {m bL:List bu}
theorem abK{f:Nat}(am:f<18446744073709551616)(H:E A m w):M Pg 37 [.float .f64 f] (bo aE (B .i64)) w fun r J=>(iX f→r.2=0∧∃ l:Nat,r.1=some ⟨l,0,none⟩∧E A (j4 l (Gj f)::m) J)∧(¬ iX f→r=(none,60)∧E A m J):=by
 refine aip ?_;unfold VU;refine ap (Bl am H) ?_;rintro c w ⟨ao4,hr,ya,H⟩;by_cases ag:iX f
 ·have:=ao4 ag.ey;rw[if_neg (by rw[ag.gm]; simp; omega)];refine bH H fun l w H=>?_;exact⟨fun _=>⟨rfl,l,rfl,H⟩,fun h=>absurd ag h⟩
 ·rw[if_pos ?_]
  ·exact⟨fun h=>absurd h ag,fun _=>⟨rfl,H⟩⟩
  ·by_cases b4:c<3
   ·simp[b4]
   ·have aK:=ya (by omega);have kZ:¬ 9223372036854775808<f:=fun h=>b4 (hr h);rw[Bool.or_eq_true];right;by_cases ab:jo f
    ·cases R:fO .gtr f 4576918229304087675 with
     |true=>rfl
     |false=>exact absurd (aFW ab R) ag
    ·have dv:4607182418800017408<f∧f<9223372036854775808:=by
      unfold jo at ab;omega
     by_cases aw:f<9218868437227405312
     ·rw[JK aw (by omega),decide_eq_true (by omega)]
     ·have aps:f=9218868437227405312:=by
       by_cases he:f=9218868437227405312
       ·exact he
       ·exfalso;have aqt:∃ t,Ieee.double.read f=.nan false t:=by
         have aQ:(f/9223372036854775808%2==1)=false:=by
          have:f/9223372036854775808=0:=by omega
          rw[this]; rfl
         have a6:f%9223372036854775808=f:=Nat.mod_eq_of_lt (by omega);unfold Ieee.Format.read;simp only[Ig,zB,z2,z9,aQ,a6];rw[if_neg (by omega),if_neg aw,if_neg he];exact⟨_,rfl⟩
        obtain⟨t,aR⟩:=aqt;unfold fO at aK;rw[f64] at aK;simp only[Ieee.Format.order,aR] at aK;cases aK
      subst aps;have e:Ieee.double.read 9218868437227405312=.infinity false:=by decide
      unfold fO;rw[f64];simp only[Ieee.Format.order,e,n2 (show 4576918229304087675<9218868437227405312 by omega)];rfl
theorem HD{l:Nat}{c:hh}{h:Int}(k:iT c)(cn:-9000000000000000000≤h∧h≤9000000000000000000)(H:E A (j4 l c::m) w):M Pg 61 [.pointer (some ⟨l,0,none⟩),.int .i64 h] (bo pu (B .i64)) w fun r J=>r=(e3 c h).2∧E A (j4 l (e3 c h).1::m) J:=by
 refine aiP ?_;unfold Nl e3;refine bH H fun iy w H=>?_;refine ap (Jm H) ?_;rintro r w ⟨rfl,H⟩;have bad:∀ (e:Int) (w:World),E A (aI iy (pu.cells jv) 137::j4 l c::m) w→ba pu ⟨iy,0,none⟩ nn w fun J=>ex (L pu ⟨iy,0,none⟩ J) fun x=>(x,e)=((c,nn,e):hh×lz×Int).2∧E A (j4 l ((c,nn,e):hh×lz×Int).1::m) J:=by
  intro e w H;refine cV (x:=jv) (S:=nn) pb 0 H rfl fun w H=>?_;refine ec (x:=nn) 0 H rfl ?_;exact⟨rfl,H.drop⟩
 by_cases bm:eY h
 ·rw[decide_eq_true bm,if_neg (by simp:¬ (!true)=true),if_neg (fun aK=>aK bm)];refine b3 rfl ?_;refine aj (x:=c.dd.set) 1 H rfl rfl rfl ?_;by_cases bB:c.dd.set=false
  ·rw[if_pos (by simp[bB]),if_pos bB];exact bad 63 w H
  ·rw[if_neg (by simpa using bB),if_neg bB];refine aj (x:=c.last) 1 H rfl rfl rfl ?_;by_cases b4:h<c.last
   ·rw[if_pos (by simpa using b4),if_pos b4];exact bad 62 w H
   ·rw[if_neg (by simpa using b4),if_neg b4];have df:=k.at_;have dT:=k.h0;have gI:=k.le;have jB:=bm.1;have nY:=bm.2;unfold eY at df dT;have aQ:IntKind.i64.wrap (h-c.dd.at_)=h-c.dd.at_:=wrap_i64 (by omega) (by omega);have a6:IntKind.i64.wrap (c.dd.h0+(h-c.dd.at_))=c.dd.h0+(h-c.dd.at_):=wrap_i64 (by omega) (by omega);refine dg H fun w H=>?_;refine aj (x:=c.dd.h0) 1 H rfl rfl rfl ?_;refine aj (x:=c.dd.at_) 1 H rfl rfl rfl ?_;rw[aQ,a6];by_cases fa:1125899906842624<c.dd.h0+(h-c.dd.at_)
    ·rw[if_pos (by simpa using fa),if_pos fa];exact bad 64 w H
    ·rw[if_neg (by simpa using fa),if_neg fa];have aBE:=k.width;unfold eY at aBE;refine dg H fun w H=>?_;refine aj (x:=c.dd.h0) 1 H rfl rfl rfl ?_;refine aj (x:=c.dd.at_) 1 H rfl rfl rfl ?_;refine aj (x:=c.dd.width) 1 H rfl rfl rfl ?_;rw[aQ,a6];have fin:∀ (av:Nat) (w:World),E A (aI av (pu.cells (mJ ⟨c.dd.h0+(h-c.dd.at_),c.dd.h0+(h-c.dd.at_)⟩ c.dd.width).1) 137::aI iy (pu.cells jv) 137::j4 l c::m) w →
       CW h ⟨iy,0,none⟩ ⟨l,0,none⟩ ⟨av,0,none⟩ w fun r J=>r=(({ c with last:=h,floor:=(so c.floor (sh c h)).gO },so c.floor (sh c h),0):hh×lz×Int).2∧E A (j4 l (({ c with last:=h,floor:=(so c.floor (sh c h)).gO },so c.floor (sh c h),0):hh×lz×Int).1::m) J:=by
      intro av w H;unfold CW;have qc:(DD (mJ ⟨c.dd.h0+(h-c.dd.at_),c.dd.h0+(h-c.dd.at_)⟩ c.dd.width).1 (h-c.dd.at_) c.ey).1=sh c h:=rfl;generalize (mJ ⟨c.dd.h0+(h-c.dd.at_),c.dd.h0+(h-c.dd.at_)⟩ c.dd.width).1=s1 at *;refine dg H fun w H=>?_;refine ec (x:=s1) 0 H rfl ?_;refine aj (x:=c.dd.at_) 2 H rfl rfl rfl ?_;refine aj (x:=c.ey) 2 H rfl rfl rfl ?_;rw[aQ];refine ap (amk (s:=s1) k.ey k.gtr H) ?_;rintro r w ⟨rfl,H⟩;refine⟨bE (B .i64) (H.front 2) rfl rfl,?_⟩;rw[qc];generalize sh c h=s2 at *;refine cV (x:=s1) (S:=s2) pb 0 H rfl fun w H=>?_;refine dg H fun w H=>?_;refine aj (x:=s2.gO) 0 H rfl rfl rfl ?_;refine aj (x:=c.floor) 2 H rfl rfl rfl ?_;refine dx (x:=max s2.gO c.floor) 0 H rfl rfl (Nat.le_of_ble_eq_true rfl) fun w H=>?_;refine aj (x:=s2.jr) 0 H rfl rfl rfl ?_;refine aj (x:=max s2.gO c.floor) 0 H rfl rfl rfl ?_
      refine dx (x:=max s2.jr (max s2.gO c.floor)) 0 H rfl rfl (Nat.le_of_ble_eq_true rfl) fun w H=>?_;refine dg H fun w H=>?_;refine aj (x:=max s2.gO c.floor) 0 H rfl rfl rfl ?_;refine dx (x:=h) 2 H rfl rfl (Nat.le_of_ble_eq_true rfl) fun w H=>?_;refine⟨bE (B .i64) (H.front 1) rfl rfl,?_⟩;refine dx (x:=max s2.gO c.floor) 0 H rfl rfl (Nat.le_of_ble_eq_true rfl) fun w H=>?_;refine ec (x:=so c.floor s2) 1 H rfl ?_;refine cV (x:=jv) (S:=so c.floor s2) pb 2 H rfl fun w H=>?_;refine ec (x:=so c.floor s2) 0 H rfl ?_;exact⟨rfl,(H.front 2).drop.drop⟩
     refine⟨?_,?_⟩
     ·refine ap (Xv (by omega) H) ?_;rintro r w ⟨rfl,H⟩;refine⟨bE (B .i64) (H.front 1) rfl rfl,bE (B .i64) (H.front 1) rfl rfl,?_⟩;refine bH H fun akx w H=>?_;refine cV (x:=jv) (S:=(mJ ⟨c.dd.h0+(h-c.dd.at_),c.dd.h0+(h-c.dd.at_)⟩ c.dd.width).1) pb 0 H rfl fun w H=>?_;exact fin akx w H
     ·refine bH H fun aky w H=>?_;refine ap (Xv (by omega) H) ?_;rintro r w ⟨rfl,H⟩;refine⟨bE (B .i64) (H.front 2) rfl rfl,bE (B .i64) (H.front 2) rfl rfl,?_⟩;refine cV (x:=jv) (S:=(mJ ⟨c.dd.h0+(h-c.dd.at_),c.dd.h0+(h-c.dd.at_)⟩ c.dd.width).1) pb 0 H rfl fun w H=>?_;exact fin aky w H
 ·rw[decide_eq_false bm,if_pos (by simp:(!false)=true),if_pos bm];exact bad 61 w H
theorem aEf{l:Nat}{c:hh}{t h:Int}(k:iT c)(cn:-9000000000000000000≤h∧h≤9000000000000000000)(H:E A (j4 l c::m) w):M Pg 105 [.pointer (some ⟨l,0,none⟩),.int .i64 t,.int .i64 h] (bo bf (B .i64)) w fun r J=>r=(((e3 c h).2.2==0)&&decide (t<(e3 c h).2.1.gO),(e3 c h).2.2)∧E A (j4 l (e3 c h).1::m) J:=by
 refine af4 ?_;unfold TB;refine ap (HD k cn H) ?_;rintro r w ⟨rfl,H⟩;refine bH H fun uK w H=>?_;refine cV (x:=jv) (S:=(e3 c h).2.1) pb 0 H rfl fun w H=>?_;refine aO (e3 c h).2.1.gO (fun _=>bE (B .i64) H rfl rfl) ?_;exact⟨rfl,H.drop⟩
theorem aCK(H:E A m w):M Pg 92 [] aE w fun r J=>∃ l:Nat,r=some ⟨l,0,none⟩∧E A (oH l 0::m) J:=by
 refine ajm ?_;unfold WL;refine bH H fun e5 w H=>?_;exact⟨e5,rfl,H⟩
theorem aG6{t:Int}(H:E A m w):M Pg 116 [.int .i64 t] bf w fun r J=>r=decide (jA t)∧E A m J:=by
 refine agd ?_;unfold TK;refine⟨?_,H⟩;rw[Bool.eq_iff_iff];simp only[Bool.and_eq_true,decide_eq_true_eq];unfold jA;omega
theorem Ko{l:Nat}{n t:Int}(H:E A (oH l n::m) w):M Pg 63 [.pointer (some ⟨l,0,none⟩),.int .i64 t] (B .i64) w fun r J=>r=(oy n t).2∧E A (oH l (oy n t).1::m) J:=by
 refine aiR ?_;unfold Wi;refine ap (aG6 H) ?_;rintro r w ⟨rfl,H⟩;unfold oy;by_cases c:jA t
 ·rw[decide_eq_true c,if_neg (by simp:¬ (!true)=true),if_pos c];refine b3 rfl ?_;refine aj (x:=n) 0 H rfl rfl rfl ?_;refine dx (x:=max n t) 0 H rfl rfl (Nat.le_of_ble_eq_true rfl) fun w H=>?_;exact⟨rfl,H⟩
 ·rw[decide_eq_false c,if_pos (by simp:(!false)=true),if_neg c];exact⟨rfl,H⟩
theorem HB{l:Nat}{n:Int}{s:lz}{q:af}{h_:List Int}(hm:h_.length≤9000000000000000000)(k:dc 1 m (B .i64) q h_)(H:E A (oH l n::m) w):M Pg 157 [.pointer (some ⟨l,0,none⟩),pu.enc s,X.enc q] (bo (B .i64) (B .i64)) w fun r J=>r=(Ab n s h_).2∧E A (oH l (Ab n s h_).1::m) J:=by
 refine agQ ?_;unfold Un Ab;refine bH H fun iz w H=>?_;refine ec (x:=s) 0 H rfl ?_;refine ap (uQ H) ?_;rintro r w ⟨rfl,H⟩;unfold zC;by_cases bm:nr s
 ·rw[if_pos bm,if_neg (by simp),if_neg (fun h=>h bm)];refine b3 rfl ?_;refine aj (x:=n) 1 H rfl rfl rfl ?_;refine bH H fun Ds w H=>?_;refine dx (x:=n) 0 H rfl rfl (Nat.le_of_ble_eq_true rfl) fun w H=>?_;refine aj (x:=s.jr) 1 H rfl rfl rfl ?_;have raise:∀ (y x:Int) (m:List bu) (w:World) (aa:Unit→World→Prop),E A (aI Ds [.int .i64 y] 2::m) w→(∀ J,E A (aI Ds [.int .i64 (max y x)] 2::m) J→aa () J) →
    tF Pg (cc.mk (.func 194) (List.toArray []) (List.toArray [.pointer (some ⟨Ds,0,none⟩)])) [.int .i64 x] dU w aa:=by
   intro y x m w aa H b2;refine⟨194,[.pointer (some ⟨Ds,0,none⟩)],rfl,amT,?_⟩;refine ahm ?_;unfold US;refine aj (x:=y) 0 H rfl rfl rfl ?_;refine dx (x:=max y x) 0 H rfl rfl (Nat.le_of_ble_eq_true rfl) fun w H=>?_;exact b2 _ H
  refine raise n s.jr _ w _ H fun w H=>?_;have a5:=(k.l4 [_,_,_]).len H;refine vk (fun i w=>0≤i∧i≤h_.length∧E A (aI Ds [.int .i64 ((h_.take i.toNat).foldl max (max n s.jr))] 2::aI iz (pu.cells s) 137::oH l n::m) w) (fun i=>(h_.length-i).toNat) ⟨Int.le_refl 0,by omega,H⟩ ?_;clear H;rintro i w ⟨ah,I,H⟩;unfold MB;rw[a5];split
  ·rename_i U;have U:i<h_.length:=by simpa using U
   have aQ:IntKind.i64.wrap (i+1)=i+1:=wrap_i64 (by omega) (by omega);obtain⟨a,Y⟩:=(k.l4 [_,_,_]).iq (i:=i) H ah U;have F:h_[i.toNat]?=some h_[i.toNat]:=List.getElem?_eq_getElem (by omega);have iC:(h_.take (i+1).toNat).foldl max (max n s.jr)=max ((h_.take i.toNat).foldl max (max n s.jr)) h_[i.toNat]:=by
    rw[show (i+1).toNat=i.toNat+1 from by omega,List.take_succ_eq_append_getElem (by omega),List.foldl_append];rfl
   generalize h_[i.toNat]=S at F iC;refine aO a Y ?_;refine aO S ((k.l4 [_,_,_]).rd Y F H) ?_;refine raise _ S _ w _ H fun w H=>?_;rw[aQ];rw[← iC] at H;exact⟨⟨by omega,by omega,H⟩,by omega⟩
  ·rename_i U;have U:i=h_.length:=by
    have:¬ i<h_.length:=by simpa using U
    omega
   have e:h_.take i.toNat=h_:=List.take_of_length_le (by omega);rw[e] at H;have Px:=foldl_max h_ (max n s.jr);have ZZ:=bm.2.1.1;generalize h_.foldl max (max n s.jr)=y at *;refine aj (x:=y) 0 H rfl rfl rfl ?_;by_cases bB:1125899906842624≤y
   ·rw[if_pos (by simpa using bB),if_pos bB];exact⟨rfl,H.drop.drop⟩
   ·rw[if_neg (by simpa using bB),if_neg bB];refine aj (x:=y) 0 H rfl rfl rfl ?_;have GX:-9223372036854775808≤y+1:=by omega
    rw[wrap_i64 GX (by omega)];refine dx (x:=y+1) 2 H rfl rfl (Nat.le_of_ble_eq_true rfl) fun w H=>?_;refine aj (x:=y+1) 0 H rfl rfl rfl ?_;exact⟨rfl,((H.front 1).drop.front 1).drop⟩
 ·rw[if_neg bm,if_pos (by simp),if_pos bm];exact⟨rfl,H.drop⟩
end
abbrev om:=mx
abbrev zu:=lx
structure bF where
 x:om
 a:zu
 l:zu
 tS:Bool
 z5:Bool
 bV:Int
 at_:Int
def aEG(p:bF):List Value:=[.int .i64 p.x.aD,.int .i64 p.x.fC,.int .i64 p.x.fv,.int .i64 p.x.b,.bool p.a.said,.bool p.a.eI,.int .i64 p.a.gL,.bool p.l.said,.bool p.l.eI,.int .i64 p.l.gL,.bool p.tS,.bool p.z5,.int .i64 p.bV,.int .i64 p.at_]
def gB(l:Nat)(p:bF):bu:=aI l (aEG p) 214
def ve(a:Int):Prop:=0≤a∧a<4096
instance (n:Int):Decidable (ve n):=by unfold ve; infer_instance
def afn:zu:=⟨false,false,0⟩
def jD(x:om):bF:=⟨x,afn,afn,false,false,0,0⟩
def jq(x:om):Int:=if x.aD<1∨1000000<x.aD then 170 else if ¬ (ve x.fC∧ve x.fv) then 171 else if x.fC=x.fv then 172 else if x.b<1∨1000000000000000<x.b then 173 else 0
def bF.side(p:bF)(dE:Bool):zu:=if dE then p.a else p.l
def bF.hx(p:bF)(dE:Bool)(v:zu):bF:=if dE then { p with a:=v } else { p with l:=v }
def g3(p:bF)(dE eI:Bool)(t:Int):bF×Int:=
 if eI=true∧¬ jA t then (p,174)
 else if (p.side dE).said=true∧lx.gZ (p.side dE) ⟨true,eI,if eI then t else 0⟩=false then (p,175)
 else (if eI=false∧p.bV=0 then { p.hx dE ⟨true,eI,if eI then t else 0⟩ with bV:=3 } else p.hx dE ⟨true,eI,if eI then t else 0⟩,0)
def bF.both(p:bF):Bool:=p.a.eI&&p.l.eI
def n3(p:bF):Int×Bool:=if p.both=true∧p.bV=0 then (max p.a.gL p.l.gL,true) else (0,false)
def oY(p:bF)(t:Int):bF×Int:=
 if ¬ jA t then (p,174) else if p.bV=3∨(p.bV=2∧p.at_≠t) then (p,176) else if p.bV=2 then (p,0) else if p.both=false then (p,177)
 else if t<p.a.gL∨t<p.l.gL then (p,178) else ({ p with bV:=2,at_:=t },0)
def py(p:bF):bF×Int:=if p.bV=2 then (p,176) else ({ p with bV:=3 },0)
def F7(p:bF)(dE:Bool):bF×Int:=if p.bV=0 then (p,176) else (if dE then { p with tS:=true } else { p with z5:=true },0)
def bF.done(p:bF)(dE:Bool):Bool:=if p.bV≠0 then (if dE then p.tS else p.z5) else (p.side dE).said
def nw(p:bF):List Bool:=(if p.done true then [] else [true])++(if p.done false then [] else [false])
def k1(p:bF)(dE:Bool):iv:=if dE then ⟨2*p.x.aD-1,p.x.fC,p.x.b,true⟩ else ⟨2*p.x.aD,p.x.fv,p.x.b,false⟩
section
variable {A w:World} {m bL:List bu}
theorem acz{a:Int}(H:E A m w):M Pg 158 [.int .i64 a] bf w fun r J=>r=decide (ve a)∧E A m J:=by
 refine agR ?_;unfold Uo;refine⟨?_,H⟩;rw[Bool.eq_iff_iff];simp only[Bool.and_eq_true,decide_eq_true_eq];unfold ve;omega
theorem acL{t:Int}(H:E A m w):M Pg 179 [.int .i64 t] bf w fun r J=>r=decide (jA t)∧E A m J:=by
 refine aha ?_;unfold UH;refine⟨?_,H⟩;rw[Bool.eq_iff_iff];simp only[Bool.and_eq_true,decide_eq_true_eq];unfold jA;omega
theorem acJ{x:om}(H:E A m w):M Pg 97 [gh.enc x] (bo aE (B .i64)) w fun r J=>(jq x=0→r.2=0∧∃ l:Nat,r.1=some ⟨l,0,none⟩∧E A (gB l (jD x)::m) J)∧(jq x≠0→r=(none,jq x)∧E A m J):=by
 refine ajq ?_;unfold WP;refine bH H fun dX w H=>?_;refine aj (x:=x.aD) 0 H rfl rfl rfl ?_;refine aO x.aD (fun _=>bE (B .i64) H rfl rfl) ?_;by_cases bm:x.aD<1∨1000000<x.aD
 ·have e:jq x=170:=by unfold jq; rw[if_pos bm]
  rw[if_pos (by simp; omega),e];exact⟨fun h=>by omega,fun _=>⟨rfl,H.drop⟩⟩
 ·rw[if_neg (by simp; omega)];refine aj (x:=x.fC) 0 H rfl rfl rfl ?_;refine ap (acz H) ?_;rintro r w ⟨rfl,H⟩;have bad:∀ (w:World),¬ (ve x.fC∧ve x.fv)→E A (aI dX (gh.cells x) 31::m) w→C1 ⟨dX,0,none⟩ true w fun r J=>(jq x=0→r.2=0∧∃ l:Nat,r.1=some ⟨l,0,none⟩∧E A (gB l (jD x)::m) J)∧(jq x≠0→r=(none,jq x)∧E A m J):=by
   intro w aK H;have e:jq x=171:=by unfold jq; rw[if_neg bm,if_pos aK]
   unfold C1;rw[if_pos rfl,e];exact⟨fun h=>by omega,fun _=>⟨rfl,H.drop⟩⟩
  by_cases bB:ve x.fC
  ·rw[decide_eq_true bB,if_neg (by simp:¬ (!true)=true)];refine aj (x:=x.fv) 0 H rfl rfl rfl ?_;refine ap (acz H) ?_;rintro r w ⟨rfl,H⟩;by_cases b4:ve x.fv
   ·rw[decide_eq_true b4];unfold C1;rw[if_neg (by simp:¬ (!true)=true)];refine aj (x:=x.fC) 0 H rfl rfl rfl ?_;refine aj (x:=x.fv) 0 H rfl rfl rfl ?_;by_cases fa:x.fC=x.fv
    ·have e:jq x=172:=by unfold jq; rw[if_neg bm,if_neg (fun h=>h ⟨bB,b4⟩),if_pos fa]
     rw[if_pos (by simpa using fa),e];exact⟨fun h=>by omega,fun _=>⟨rfl,H.drop⟩⟩
    ·rw[if_neg (by simpa using fa)];refine aj (x:=x.b) 0 H rfl rfl rfl ?_;refine aO x.b (fun _=>bE (B .i64) H rfl rfl) ?_;by_cases jf:x.b<1∨1000000000000000<x.b
     ·have e:jq x=173:=by unfold jq; rw[if_neg bm,if_neg (fun h=>h ⟨bB,b4⟩),if_neg fa,if_pos jf]
      rw[if_pos (by simp; omega),e];exact⟨fun h=>by omega,fun _=>⟨rfl,H.drop⟩⟩
     ·have e:jq x=0:=by unfold jq; rw[if_neg bm,if_neg (fun h=>h ⟨bB,b4⟩),if_neg fa,if_neg jf]
      rw[if_neg (by simp; omega),e];refine ec (x:=x) 0 H rfl ?_;refine bH H fun akv w H=>?_;exact⟨fun _=>⟨rfl,akv,rfl,(H.front 1).drop⟩,fun h=>absurd rfl h⟩
   ·rw[decide_eq_false b4];exact bad w (fun h=>b4 h.2) H
  ·rw[decide_eq_false bB,if_pos (by simp:(!false)=true)];exact bad w (fun h=>bB h.1) H
theorem La{dE:Bool}(H:E A m w):M Pg 136 [.bool dE] (B .i64) w fun r J=>r=(if dE then 0 else 1)∧E A m J:=by
 refine agA ?_;unfold T5;cases dE with
 |true=>rw[if_pos rfl]; exact⟨rfl,H⟩
 |false=>rw[if_neg (by simp)]; exact⟨rfl,H⟩
theorem Ce{l:Nat}{p:bF}(H:E A (gB l p::m) w):M Pg 55 [.pointer (some ⟨l,0,none⟩)] (bo (B .i64) (B .i64)) w fun r J=>r=(p.bV,p.at_)∧E A (gB l p::m) J:=by
 refine aiJ ?_;unfold Wc;refine dg H fun w H=>?_;refine b3 rfl ?_;refine aj (x:=p.bV) 0 H rfl rfl rfl ?_;refine aj (x:=p.at_) 0 H rfl rfl rfl ?_;exact⟨rfl,H⟩
theorem acu{l:Nat}{p:bF}(H:E A (gB l p::m) w):M Pg 148 [.pointer (some ⟨l,0,none⟩)] (B .i64) w fun r J=>r=(py p).2∧E A (gB l (py p).1::m) J:=by
 refine agK ?_;unfold Ue py;refine b3 rfl ?_;refine aj (x:=p.bV) 0 H rfl rfl rfl ?_;by_cases c:p.bV=2
 ·rw[if_pos (by simpa using c),if_pos c];exact⟨rfl,H⟩
 ·rw[if_neg (by simpa using c),if_neg c];refine dx (x:=(3:Int)) 0 H rfl rfl (Nat.le_of_ble_eq_true rfl) fun w H=>?_;exact⟨rfl,H⟩
theorem aET{l:Nat}{p:bF}(H:E A (gB l p::m) w):M Pg 162 [.pointer (some ⟨l,0,none⟩)] gh w fun r J=>r=p.x∧E A (gB l p::m) J:=by
 refine agW ?_;unfold Ut;refine bH H fun dX w H=>?_;refine b3 rfl ?_;refine aO p.x (bE gh (H.front 1) rfl rfl) ?_;refine cV (x:=A_) (S:=p.x) Ku 0 H rfl fun w H=>?_;refine ec (x:=p.x) 0 H rfl ?_;exact⟨rfl,H.drop⟩
theorem aEN{l:Nat}{p:bF}{dE:Bool}(hF:0≤p.x.aD∧p.x.aD≤1000000000000)(H:E A (gB l p::m) w):M Pg 127 [.pointer (some ⟨l,0,none⟩),.bool dE] gX w fun r J=>r=k1 p dE∧E A (gB l p::m) J:=by
 refine agq ?_;unfold TV;refine bH H fun iy w H=>?_;cases dE with
 |true=>
  rw[if_pos rfl];refine dg H fun w H=>?_;refine b3 rfl ?_;refine aj (x:=p.x.aD) 1 H rfl rfl rfl ?_;refine aj (x:=p.x.fC) 1 H rfl rfl rfl ?_;refine aj (x:=p.x.b) 1 H rfl rfl rfl ?_;rw[wrap_i64 (x:=2*p.x.aD) (by omega) (by omega),wrap_i64 (by omega) (by omega)];refine cV (x:=zx) (S:=k1 p true) Kv 0 H rfl fun w H=>?_;refine ec (x:=k1 p true) 0 H rfl ?_;exact⟨rfl,H.drop⟩
 |false=>
  rw[if_neg (by simp)];refine dg H fun w H=>?_;refine b3 rfl ?_;refine aj (x:=p.x.aD) 1 H rfl rfl rfl ?_;refine aj (x:=p.x.fv) 1 H rfl rfl rfl ?_;refine aj (x:=p.x.b) 1 H rfl rfl rfl ?_;rw[wrap_i64 (x:=2*p.x.aD) (by omega) (by omega)];refine cV (x:=zx) (S:=k1 p false) Kv 0 H rfl fun w H=>?_;refine ec (x:=k1 p false) 0 H rfl ?_;exact⟨rfl,H.drop⟩
theorem acx{l:Nat}{p:bF}(H:E A (gB l p::m) w):M Pg 180 [.pointer (some ⟨l,0,none⟩)] bf w fun r J=>r=p.both∧E A (gB l p::m) J:=by
 refine ahc ?_;unfold UJ;refine b3 rfl ?_;refine aO ⟨l,4,none⟩ ⟨by decide,by decide,rfl⟩ ?_;refine aj (x:=p.a.eI) 0 H rfl rfl rfl ?_;refine aO ⟨l,0,none⟩ (fun _=>rfl) ?_;refine aO ⟨l,7,none⟩ (fun _=>⟨by decide,by decide,rfl⟩) ?_;refine aO p.l.eI (fun _=>bE bf H rfl rfl) ?_;exact⟨rfl,H⟩
theorem aEO{l:Nat}{p:bF}(H:E A (gB l p::m) w):M Pg 135 [.pointer (some ⟨l,0,none⟩)] (bo (B .i64) bf) w fun r J=>r=n3 p∧E A (gB l p::m) J:=by
 refine agz ?_;unfold T4 n3;refine ap (acx H) ?_;rintro r w ⟨rfl,H⟩;refine aO ⟨l,0,none⟩ (fun _=>rfl) ?_;refine aO p.bV (fun _=>bE (B .i64) H rfl rfl) ?_;by_cases c:p.both=true∧p.bV=0
 ·rw[if_neg (by simp[c.1,c.2]),if_pos c];refine dg H fun w H=>?_;refine b3 rfl ?_;refine aO ⟨l,4,none⟩ ⟨by decide,by decide,rfl⟩ ?_;refine aO ⟨l,7,none⟩ ⟨by decide,by decide,rfl⟩ ?_;refine aj (x:=p.a.gL) 0 H rfl rfl rfl ?_;refine aj (x:=p.l.gL) 0 H rfl rfl rfl ?_;exact⟨rfl,H⟩
 ·rw[if_pos (by cases ao:p.both with | false=>simp | true=>simp; intro h; exact c ⟨ao,h⟩),if_neg c];exact⟨rfl,H⟩
theorem acy{l:Nat}{p:bF}{t:Int}(H:E A (gB l p::m) w):M Pg 149 [.pointer (some ⟨l,0,none⟩),.int .i64 t] (B .i64) w fun r J=>r=(oY p t).2∧E A (gB l (oY p t).1::m) J:=by
 refine agL ?_;unfold Uf oY;refine ap (acL H) ?_;rintro r w ⟨rfl,H⟩;by_cases bm:jA t
 ·rw[decide_eq_true bm,if_neg (by simp:¬ (!true)=true),if_neg (fun h=>h bm)];refine b3 rfl ?_;refine aj (x:=p.bV) 0 H rfl rfl rfl ?_;refine aO ⟨l,0,none⟩ (fun _=>rfl) ?_;refine aO p.bV (fun _=>bE (B .i64) H rfl rfl) ?_;refine aO ⟨l,0,none⟩ (fun _=>rfl) ?_;refine aO p.at_ (fun _=>bE (B .i64) H rfl rfl) ?_;by_cases bB:p.bV=3∨(p.bV=2∧p.at_≠t)
  ·rw[if_pos (by simpa using bB),if_pos bB];exact⟨rfl,H⟩
  ·rw[if_neg (by simpa using bB),if_neg bB];refine aj (x:=p.bV) 0 H rfl rfl rfl ?_;by_cases b4:p.bV=2
   ·rw[if_pos (by simpa using b4),if_pos b4];exact⟨rfl,H⟩
   ·rw[if_neg (by simpa using b4),if_neg b4];refine ap (acx H) ?_;rintro r w ⟨rfl,H⟩;by_cases fa:p.both=false
    ·rw[if_pos (by simp[fa]),if_pos fa];exact⟨rfl,H⟩
    ·rw[if_neg (by simpa using fa),if_neg fa];refine aO ⟨l,4,none⟩ ⟨by decide,by decide,rfl⟩ ?_;refine aj (x:=p.a.gL) 0 H rfl rfl rfl ?_;refine aO ⟨l,0,none⟩ (fun _=>rfl) ?_;refine aO ⟨l,7,none⟩ (fun _=>⟨by decide,by decide,rfl⟩) ?_;refine aO p.l.gL (fun _=>bE (B .i64) H rfl rfl) ?_;by_cases jf:t<p.a.gL∨t<p.l.gL
     ·rw[if_pos (by simpa using jf),if_pos jf];exact⟨rfl,H⟩
     ·rw[if_neg (by simpa using jf),if_neg jf];refine dx (x:=(2:Int)) 0 H rfl rfl (Nat.le_of_ble_eq_true rfl) fun w H=>?_;refine dx (x:=t) 0 H rfl rfl (Nat.le_of_ble_eq_true rfl) fun w H=>?_;exact⟨rfl,H⟩
 ·rw[decide_eq_false bm,if_pos (by simp:(!false)=true),if_pos bm];exact⟨rfl,H⟩
theorem K9{l:Nat}{p:bF}{dE:Bool}(H:E A (gB l p::m) w):M Pg 86 [.pointer (some ⟨l,0,none⟩),.bool dE] (B .i64) w fun r J=>r=(F7 p dE).2∧E A (gB l (F7 p dE).1::m) J:=by
 refine ajg ?_;unfold WG F7;refine b3 rfl ?_;refine aj (x:=p.bV) 0 H rfl rfl rfl ?_;by_cases c:p.bV=0
 ·rw[if_pos (by simpa using c),if_pos c];exact⟨rfl,H⟩
 ·rw[if_neg (by simpa using c),if_neg c];refine dg H fun w H=>?_;refine ap (La H) ?_;rintro r w ⟨rfl,H⟩;cases dE with
  |true=>
   refine aO ⟨l,10,none⟩ ⟨by decide,by decide,rfl⟩ ?_;refine dx (x:=true) 0 H rfl rfl (Nat.le_of_ble_eq_true rfl) fun w H=>?_;exact⟨rfl,H⟩
  |false=>
   refine aO ⟨l,11,none⟩ ⟨by decide,by decide,rfl⟩ ?_;refine dx (x:=true) 0 H rfl rfl (Nat.le_of_ble_eq_true rfl) fun w H=>?_;exact⟨rfl,H⟩
end
abbrev rK:=mR
section
variable {A w:World} {m bL:List bu}
theorem RA{l:Nat}{p:bF}{dE eI:Bool}{t:Int}(H:E A (gB l p::m) w):M Pg 134 [.pointer (some ⟨l,0,none⟩),.bool dE,.bool eI,.int .i64 t] (B .i64) w fun r J=>r=(g3 p dE eI t).2∧E A (gB l (g3 p dE eI t).1::m) J:=by
 refine agy ?_;unfold T3;have z3:∀ (b7 uM:Nat) (w:World),¬ (eI=true∧¬ jA t)→E A (aI uM (rK.cells (p.side dE)) 210::aI b7 (rK.cells ⟨true,eI,if eI then t else 0⟩) 210::gB l p::m) w →
   Fh (some ⟨l,0,none⟩) dE eI ⟨b7,0,none⟩ ⟨uM,0,none⟩ w fun r J=>r=(g3 p dE eI t).2∧E A (gB l (g3 p dE eI t).1::m) J:=by
  intro b7 uM w aK H;unfold Fh g3;rw[if_neg aK];generalize (⟨true,eI,if eI then t else 0⟩:zu)=v at *;refine aj (x:=(p.side dE).said) 0 H rfl rfl rfl ?_;refine aO (p.side dE) (fun _=>bE rK H rfl (tA _)) ?_;refine aO v (fun _=>bE rK (H.front 1) rfl (tA _)) ?_;by_cases c:(p.side dE).said=true∧lx.gZ (p.side dE) v=false
  ·rw[if_pos (by simp[c.1,c.2]),if_pos c];exact⟨rfl,H.drop.drop⟩
  ·rw[if_neg (by simpa using c),if_neg c];refine dg H fun w H=>?_;refine b3 rfl ?_;refine ec (x:=v) 1 H rfl ?_;refine ap (La H) ?_;rintro r w ⟨rfl,H⟩;refine⟨bE rK (H.front 1) rfl (tA _),?_⟩;have fin:∀ (w:World) (q:bF),q=p.hx dE v→q.bV=p.bV→E A (gB l q::aI b7 (rK.cells v) 210::aI uM (rK.cells (p.side dE)) 210::m) w →
     ex (fun x=>(!eI)=true→(bC (some (⟨l,0,none⟩:Addr))) x) fun I2=>ex (fun x=>(!eI)=true→(L (B .i64) (I2.add 12) w) x) fun kP=>
      if ((!eI)&&(kP==(0:Int)))=true then (ba (B .i64) (Addr.add ⟨l,0,none⟩ 12) (3:Int) w fun fW=>AQ fW fun r J=>r=(if eI=false∧p.bV=0 then ({ p.hx dE v with bV:=3 }:bF) else p.hx dE v,(0:Int)).2∧E A (gB l (if eI=false∧p.bV=0 then ({ p.hx dE v with bV:=3 }:bF) else p.hx dE v,(0:Int)).1::m) J)
      else AQ w fun r J=>r=(if eI=false∧p.bV=0 then ({ p.hx dE v with bV:=3 }:bF) else p.hx dE v,(0:Int)).2∧E A (gB l (if eI=false∧p.bV=0 then ({ p.hx dE v with bV:=3 }:bF) else p.hx dE v,(0:Int)).1::m) J:=by
    intro w q a5 am H;refine aO ⟨l,0,none⟩ (fun _=>rfl) ?_;refine aO q.bV (fun _=>bE (B .i64) H rfl rfl) ?_;rw[am,← a5];by_cases bB:eI=false∧p.bV=0
    ·rw[if_pos (by simp[bB.1,bB.2]),if_pos bB];refine dx (x:=(3:Int)) 0 H rfl rfl (Nat.le_of_ble_eq_true rfl) fun w H=>?_;unfold AQ;exact⟨rfl,((H.front 1).drop.front 1).drop⟩
    ·rw[if_neg (by simpa using bB),if_neg bB];unfold AQ;exact⟨rfl,((H.front 1).drop.front 1).drop⟩
   cases dE with
   |true=>
    refine aO ⟨l,4,none⟩ ⟨by decide,by decide,rfl⟩ ?_;refine dx (T:=rK) (x:=v) 2 H rfl rfl (Nat.le_of_ble_eq_true rfl) fun w H=>?_;exact fin w { p with a:=v } rfl rfl (H.ord [0,2])
   |false=>
    refine aO ⟨l,7,none⟩ ⟨by decide,by decide,rfl⟩ ?_;refine dx (T:=rK) (x:=v) 2 H rfl rfl (Nat.le_of_ble_eq_true rfl) fun w H=>?_;exact fin w { p with l:=v } rfl rfl (H.ord [0,2])
 have vf:∀ (b7:Nat) (w:World),¬ (eI=true∧¬ jA t)→E A (aI b7 (rK.cells ⟨true,eI,if eI then t else 0⟩) 210::gB l p::m) w →
   Fg (some ⟨l,0,none⟩) dE eI ⟨b7,0,none⟩ w fun r J=>r=(g3 p dE eI t).2∧E A (gB l (g3 p dE eI t).1::m) J:=by
  intro b7 w aK H;unfold Fg;refine dg H fun w H=>?_;refine b3 rfl ?_;refine⟨?_,?_⟩
  ·refine ap (La H) ?_;rintro r w ⟨rfl,H⟩;cases dE with
   |true=>
    refine aO ⟨l,4,none⟩ ⟨by decide,by decide,rfl⟩ ?_;refine aO p.a (bE rK (H.front 1) rfl rfl) ?_;refine bH H fun uM w H=>?_;refine cV (x:=qU) (S:=p.a) BX 0 H rfl fun w H=>?_;exact z3 b7 uM w aK H
   |false=>
    refine aO ⟨l,7,none⟩ ⟨by decide,by decide,rfl⟩ ?_;refine aO p.l (bE rK (H.front 1) rfl rfl) ?_;refine bH H fun uM w H=>?_;refine cV (x:=qU) (S:=p.l) BX 0 H rfl fun w H=>?_;exact z3 b7 uM w aK H
  ·refine bH H fun uM w H=>?_;refine ap (La H) ?_;rintro r w ⟨rfl,H⟩;cases dE with
   |true=>
    refine aO ⟨l,4,none⟩ ⟨by decide,by decide,rfl⟩ ?_;refine aO p.a (bE rK (H.front 2) rfl rfl) ?_;refine cV (x:=qU) (S:=p.a) BX 0 H rfl fun w H=>?_;exact z3 b7 uM w aK H
   |false=>
    refine aO ⟨l,7,none⟩ ⟨by decide,by decide,rfl⟩ ?_;refine aO p.l (bE rK (H.front 2) rfl rfl) ?_;refine cV (x:=qU) (S:=p.l) BX 0 H rfl fun w H=>?_;exact z3 b7 uM w aK H
 cases eI with
 |true=>
  rw[if_pos rfl];refine ap (acL H) ?_;rintro r w ⟨rfl,H⟩;unfold Ff;by_cases c:jA t
  ·rw[decide_eq_true c,if_neg (by simp:¬ (!true)=true)];refine bH H fun b7 w H=>?_;refine cV (x:=qU) (S:=(⟨true,true,0⟩:zu)) BX 0 H rfl fun w H=>?_;rw[if_pos rfl];refine dx (x:=t) 0 H rfl rfl (Nat.le_of_ble_eq_true rfl) fun w H=>?_;exact vf b7 w (fun h=>h.2 c) H
  ·rw[decide_eq_false c,if_pos (by simp:(!false)=true)];unfold g3;rw[if_pos ⟨rfl,c⟩];exact⟨rfl,H⟩
 |false=>
  rw[if_neg (by simp)];unfold Ff;rw[if_neg (by simp)];refine bH H fun b7 w H=>?_;refine cV (x:=qU) (S:=(⟨true,false,0⟩:zu)) BX 0 H rfl fun w H=>?_;rw[if_neg (by simp)];exact vf b7 w (fun h=>by cases h.1) H
theorem aEJ{l:Nat}{p:bF}(H:E A (gB l p::m) w):M Pg 126 [.pointer (some ⟨l,0,none⟩)] X w fun r J=>E A (row bf 4 1 r (nw p)::gB l p::m) J:=by
 refine agp ?_;unfold TU;have H:=kJ bf 4 1 H;refine hU (fun s w=>(s.2=0∧E A (row bf 4 1 s.1 []::gB l p::m) w)∨(s.2=1∧E A (row bf 4 1 s.1 (if p.done true then [] else [true])::gB l p::m) w)∨(s.2=2∧E A (row bf 4 1 s.1 (nw p)::gB l p::m) w)) (fun s=>(2-s.2).toNat) (.inl ⟨rfl,H⟩) ?_;clear H;rintro⟨q,i⟩ w h aa b2;unfold Mq;simp only at h ⊢;rcases h with ⟨rfl,H⟩ | ⟨rfl,H⟩ | ⟨rfl,H⟩
 ·rw[if_pos (by simp)];refine aO true ⟨by decide,rfl⟩ ?_;refine b3 rfl ?_;refine aO ⟨l,4,none⟩ ⟨by decide,by decide,rfl⟩ ?_;refine aj (x:=p.a.said) 1 H rfl rfl rfl ?_;refine aj (x:=p.bV) 1 H rfl rfl rfl ?_;have fin:∀ d:Bool,d=p.done true→AP q 0 true d w aa fun r J=>E A (row bf 4 1 r (nw p)::gB l p::m) J:=by
   intro d ag;unfold AP Fe;cases d with
   |true=>
    rw[if_neg (by simp)];refine b2 _ _ (.inr (.inl ⟨rfl,?_⟩)) (by show (2-IntKind.i64.wrap (0+1)).toNat<(2-0:Int).toNat; rw[wrap_i64 (by omega) (by omega)]; omega);rw[← ag];exact H
   |false=>
    rw[if_pos (by simp)];refine nq (fun _=>rfl) 0 H rfl (by simp) fun r w H=>?_;refine b2 _ _ (.inr (.inl ⟨rfl,?_⟩)) (by show (2-IntKind.i64.wrap (0+1)).toNat<(2-0:Int).toNat; rw[wrap_i64 (by omega) (by omega)]; omega);rw[← ag];exact H
  by_cases c:p.bV=0
  ·rw[if_neg (by simp[c])];exact fin _ (by unfold bF.done; rw[if_neg (fun h=>h c)]; rfl)
  ·rw[if_pos (by simpa using c)];refine aO ⟨l,10,none⟩ ⟨by decide,by decide,rfl⟩ ?_;refine aj (x:=p.tS) 1 H rfl rfl rfl ?_;exact fin _ (by unfold bF.done; rw[if_pos c]; rfl)
 ·rw[if_pos (by simp)];refine aO false ⟨by decide,rfl⟩ ?_;refine b3 rfl ?_;refine aO ⟨l,7,none⟩ ⟨by decide,by decide,rfl⟩ ?_;refine aj (x:=p.l.said) 1 H rfl rfl rfl ?_;refine aj (x:=p.bV) 1 H rfl rfl rfl ?_;have fin:∀ d:Bool,d=p.done false→AP q 1 false d w aa fun r J=>E A (row bf 4 1 r (nw p)::gB l p::m) J:=by
   intro d ag;unfold AP Fe;cases d with
   |true=>
    rw[if_neg (by simp)];refine b2 _ _ (.inr (.inr ⟨rfl,?_⟩)) (by show (2-IntKind.i64.wrap (1+1)).toNat<(2-1:Int).toNat; rw[wrap_i64 (by omega) (by omega)]; omega);unfold nw;rw[← ag,if_pos rfl,List.append_nil];exact H
   |false=>
    rw[if_pos (by simp)];refine nq (fun _=>rfl) 0 H rfl (by split<;>simp) fun r w H=>?_;refine b2 _ _ (.inr (.inr ⟨rfl,?_⟩)) (by show (2-IntKind.i64.wrap (1+1)).toNat<(2-1:Int).toNat; rw[wrap_i64 (by omega) (by omega)]; omega);unfold nw;rw[← ag,if_neg (by simp:¬ false=true)];exact H
  by_cases c:p.bV=0
  ·rw[if_neg (by simp[c])];exact fin _ (by unfold bF.done; rw[if_neg (fun h=>h c)]; rfl)
  ·rw[if_pos (by simpa using c)];refine aO ⟨l,11,none⟩ ⟨by decide,by decide,rfl⟩ ?_;refine aj (x:=p.z5) 1 H rfl rfl rfl ?_;exact fin _ (by unfold bF.done; rw[if_pos c]; rfl)
 ·rw[if_neg (by simp)];exact H
end
end Clock
namespace Post
open bb
structure dB where
 nodes:Int
 qw:Int
 m:List gW
 off:Int→Bool
def hJ(l:Nat)(b:dB):bu:=
 hT fun v=>hT fun lN=>hT fun es=>dt [ll (∀ x,(es.lookup x).isSome=b.off x),aI l [.int .i64 b.nodes,.int .i64 b.qw,.slice v.a v.len v.cap,.map (some lN)] 178,row ew 64 10 v b.m,cZ fm .i64 lN es]
section
variable {A w:World} {m:List bu} {l:Nat} {b:dB}
theorem vZ(H:E A (hJ l b::m) w):∃ v lN es,(∀ x,(List.lookup x es).isSome=b.off x) ∧
  E A (aI l [.int .i64 b.nodes,.int .i64 b.qw,.slice v.a v.len v.cap,.map (some lN)] 178::row ew 64 10 v b.m::cZ fm .i64 lN es::m) w:=by
 obtain⟨v,H⟩:=H.ex;obtain⟨lN,H⟩:=H.ex;obtain⟨es,H⟩:=H.ex;obtain⟨h,H⟩:=E.vu H.open_;exact⟨v,lN,es,h,H⟩
theorem st{v:af}{lN:Nat}{es:List (Int×oU)}(h:∀ x,(List.lookup x es).isSome=b.off x)
  (H:E A (aI l [.int .i64 b.nodes,.int .i64 b.qw,.slice v.a v.len v.cap,.map (some lN)] 178::row ew 64 10 v b.m::cZ fm .i64 lN es::m) w):E A (hJ l b::m) w:=
 E.mF v (E.mF lN (E.mF es (E.shut (bL:=[ll _,_,_,_]) (E.vK h H))))
def dB.has(b:dB)(x:Int):Bool:=decide (x≥0)&&decide (x<b.nodes)
theorem Hl(H:E A (hJ l b::m) w)(x:Int):M Pg 124 [.pointer (some ⟨l,0,none⟩),.int .i64 x] bf w fun r J=>r=b.has x∧E A (hJ l b::m) J:=by
 refine agn ?_;obtain⟨v,lN,es,h,gV⟩:=vZ H;unfold TS;refine⟨⟨l,0,none⟩,fun _=>rfl,b.nodes,fun _=>bE (B .i64) gV rfl rfl,rfl,H⟩
theorem X6(H:E A (hJ l b::m) w)(x:Int):M Pg 132 [.pointer (some ⟨l,0,none⟩),.int .i64 x] bf w fun r J=>r=b.off x∧E A (hJ l b::m) J:=by
 refine agw ?_;obtain⟨v,lN,es,h,H⟩:=vZ H;unfold T1;refine b3 rfl ?_;refine aj (x:=some lN) 0 H rfl rfl rfl ?_;refine l_ 2 H rfl rfl ?_;refine bH H fun e5 dz H=>?_;refine dx 0 H rfl rfl (Nat.le_refl _) fun cm H=>?_;exact⟨h x,st h H.drop⟩
def dB.put(b:dB)(x:gW):dB×Int:=if b.m.length≥1000 then (b,91) else ({ b with m:=b.m++[x] },0)
theorem Ch(H:E A (hJ l b::m) w)(a0:b.m.length≤1000)(x:gW):M Pg 130 [.pointer (some ⟨l,0,none⟩),ew.enc x] (B .i64) w fun r J=>r=(b.put x).2∧E A (hJ l (b.put x).1::m) J:=by
 refine agu ?_;unfold TZ;refine bH H fun e5 dz H=>?_;obtain⟨v,lN,es,h,H⟩:=vZ (H.front 1);refine b3 rfl ?_;refine aj (x:=v) 0 H rfl rfl rfl ?_;have aK:=gn (H.front 1);split
 ·rename_i U;have U:b.m.length≥1000:=by simp at U; omega
  have e:b.put x=(b,91):=by simp only[dB.put,U,if_true]
  rw[e];exact⟨rfl,st h (H.front 3).drop⟩
 ·rename_i U;have U:¬ b.m.length≥1000:=by simp at U; omega
  refine dg H fun cm H=>?_;refine aj (x:=v) 0 H rfl rfl rfl ?_;refine ec (x:=x) 3 H rfl ?_;refine nq (xs:=b.m) (fun _=>rfl) 1 H rfl (by simp; omega) fun r bh H=>?_;refine⟨bE ew (H.front 3) rfl (tA _),?_⟩;refine dx (x:=r) 1 H rfl rfl (Nat.le_of_ble_eq_true rfl) fun aU H=>?_;have e:b.put x=({ b with m:=b.m++[x] },0):=by simp only[dB.put,U,if_false]
  rw[e];exact⟨rfl,st (v:=r) h (H.front 3).drop⟩
end
section
variable {A w:World} {m:List bu} {l:Nat} {b:dB}
def dB.at_(b:dB)(i:Int):gW×Int:=match (if i<0 then none else b.m[i.toNat]?) with
 |some x=>(x,0)
 |none=>(k9,92)
theorem dB.Xx(b:dB){i:Int}(h:i<0∨(b.m.length:Int)≤i):b.at_ i=(k9,92):=by
 unfold dB.at_;by_cases ah:i<0
 ·simp[ah]
 ·rw[if_neg ah,List.getElem?_eq_none (by omega)]
theorem dB.Ja(b:dB){i:Int}{x:gW}(ah:0≤i)(h:b.m[i.toNat]?=some x):b.at_ i=(x,0):=by
 unfold dB.at_;rw[if_neg (by omega),h]
theorem Bh(H:E A (hJ l b::m) w)(i:Int):M Pg 131 [.pointer (some ⟨l,0,none⟩),.int .i64 i] (bo ew (B .i64)) w fun r J=>r=b.at_ i∧E A (hJ l b::m) J:=by
 refine agv ?_;unfold T0;refine bH H fun e5 dz H=>?_;obtain⟨v,lN,es,h,H⟩:=vZ (H.front 1);have aK:=gn (H.front 1);refine aO ⟨l,0,none⟩ (fun _=>rfl) ?_;refine aO v (fun _=>bE X H rfl rfl) ?_;by_cases U:i<0∨(b.m.length:Int)≤i
 ·rw[if_pos (by simp; omega)];refine cV (x:=k9) (S:=k9) wM 3 H rfl fun cm H=>?_;refine ec (x:=k9) 0 H rfl ?_;rw[b.Xx U];exact⟨rfl,st h H.drop⟩
 ·rw[if_neg (by simp; omega)];obtain⟨x,F⟩:∃ x,b.m[i.toNat]?=some x:=⟨_,List.getElem?_eq_getElem (by omega)⟩
  refine b3 rfl ?_;refine aj (x:=v) 0 H rfl rfl rfl ?_;refine aa7 (H.front 1) (by omega) (by omega) fun a Y=>?_;refine aO x (mh (fun _=>rfl) Y F (H.front 1)) ?_;refine cV (x:=k9) (S:=x) wM 3 H rfl fun cm H=>?_;refine ec (x:=x) 0 H rfl ?_;rw[b.Ja (by omega) F];exact⟨rfl,st h H.drop⟩
def dB.send(b:dB)(from_ h1:Int)(y:ij):dB×Int×Int:=
 if (!b.has from_||!b.has h1)=true then (b,0,90)
 else if (b.put ⟨IntKind.i64.wrap (b.qw+1),from_,h1,y⟩).2≠0 then (b,0,91)
 else ({ (b.put ⟨IntKind.i64.wrap (b.qw+1),from_,h1,y⟩).1 with qw:=IntKind.i64.wrap (b.qw+1) },IntKind.i64.wrap (b.qw+1),0)
theorem dB.acM(b:dB)(x:gW)(h:(b.put x).2≠0):b.put x=(b,91):=by
 unfold dB.put at h ⊢;split<;>simp_all
theorem aGW(H:E A (hJ l b::m) w)(a0:b.m.length≤1000)(f t:Int)(y:ij) :
  M Pg 81 [.pointer (some ⟨l,0,none⟩),.int .i64 f,.int .i64 t,eE.enc y] (bo (B .i64) (B .i64)) w fun r J=>r=(b.send f t y).2∧E A (hJ l (b.send f t y).1::m) J:=by
 refine ajb ?_;unfold WB;refine bH H fun l5 w H=>?_;have H:=H.front 1;refine ap (Hl H f) ?_;rintro r dz ⟨rfl,H⟩;have tail:∀ (q:Bool) (dz:World),E A (hJ l b::aI l5 (eE.cells y) 62::m) dz→q=(!b.has f||!b.has t)→FL (some ⟨l,0,none⟩) f t ⟨l5,0,none⟩ q dz (fun r J=>r=(b.send f t y).2∧E A (hJ l (b.send f t y).1::m) J):=by
  intro q dz H a5;unfold FL;subst a5;split
  ·rename_i U;have e:b.send f t y=(b,0,90):=by unfold dB.send; rw[if_pos U]
   rw[e]; exact⟨rfl,(H.front 1).drop⟩
  ·rename_i U;obtain⟨v,lN,es,h,gV⟩:=vZ H;refine b3 rfl ?_;refine aj (x:=b.qw) 0 gV rfl rfl rfl ?_;refine ec (x:=y) 3 gV rfl ?_;refine ap (Ch (st h gV) a0 _) ?_;rintro r cm ⟨rfl,H⟩;by_cases aF:(b.put ⟨IntKind.i64.wrap (b.qw+1),f,t,y⟩).2=0
   ·rw[if_neg (by simp[aF])];have e:b.send f t y=({ (b.put ⟨IntKind.i64.wrap (b.qw+1),f,t,y⟩).1 with qw:=IntKind.i64.wrap (b.qw+1) },IntKind.i64.wrap (b.qw+1),0):=by
     unfold dB.send; rw[if_neg U,if_neg (by simp[aF])]
    rw[e];obtain⟨v,lN,es,h,H⟩:=vZ H;refine dx 0 H rfl rfl (Nat.le_of_ble_eq_true rfl) fun bh H=>?_;exact⟨rfl,st (v:=v) h (H.front 3).drop⟩
   ·rw[if_pos (by simp[aF])];have e:b.send f t y=(b,0,91):=by
     unfold dB.send; rw[if_neg U,if_pos aF]
    have aQ:=b.acM _ aF;rw[aQ] at H ⊢;rw[e]; exact⟨rfl,(H.front 1).drop⟩
 split
 ·rename_i U;exact tail _ _ H (by simp at U; simp[U])
 ·rename_i U;refine ap (Hl H t) ?_;rintro r cm ⟨rfl,H⟩;exact tail _ _ H (by simp at U; simp[U])
theorem alC{v:af}{xs:List gW}(H:E A (row ew 64 10 v xs::m) w)(al:xs.length*80≤140737488355328) :
  M Pg 107 [X.enc v] X w fun r J=>E A (row ew 64 10 r xs::row ew 64 10 v xs::m) J:=by
 refine af6 ?_;unfold TD;split
 ·rename_i U;rcases oF H with ⟨rfl,rfl,_⟩ | ⟨e5,rest,I,_⟩
  ·exact kJ ew 64 10 H
  ·simp[I] at U
 ·refine vm H fun e5 dz H=>?_;have gV:=um (T:=ew) (t:=64) (ar:=10) (xs:=[]) (y:=0) rfl H;refine Dq (xs:=[]) (new:=xs) (fun _=>rfl) 0 gV rfl (C8 (gV.front 1)) (by simpa using al) fun r cm H=>?_;exact H
theorem aB9(H:E A (hJ l b::m) w)(a0:b.m.length≤1000):M Pg 56 [.pointer (some ⟨l,0,none⟩)] X w fun r J=>E A (row ew 64 10 r b.m::hJ l b::m) J:=by
 refine aiK ?_;unfold Wd;obtain⟨v,lN,es,h,H⟩:=vZ H;refine b3 rfl ?_;refine aj (x:=v) 0 H rfl rfl rfl ?_;refine ap (alC (H.front 1) (by omega)) ?_;intro r dz H;exact (st h (H.ord [2,1,3,0])).front 1
theorem Yj{v:af}{xs:List gW}(H:E A (row ew 64 10 v xs::m) w)(i:Int)(ah:0≤i)(I:i<xs.length)(hm:xs.length≤1000) :
  M Pg 133 [X.enc v,.int .i64 i,.int .i64 (i+1)] X w fun r J=>E A (row ew 64 10 r (xs.eraseIdx i.toNat)::m) J:=by
 refine agx ?_;unfold T2;have aK:=gn H;have l7:v.len≤v.cap:=by
  rcases oF H with ⟨rfl,rfl,_⟩ | ⟨_,_,_,_,h,_⟩
  ·exact Nat.le_refl _
  ·exact h
 refine oa ah (by omega) (by omega) (by omega) fun aer _=>?_;rw[if_neg (by simp; omega)];refine dg H fun cm H=>?_;refine oa (by omega) (by omega) (by omega) (by omega) fun w3 il=>?_;refine oa (by omega) (by omega) (by omega) (by omega) fun H_ rU=>?_;have ag:=ad8 (fun _=>rfl) rU H;obtain⟨xM,H⟩:=aGy (fun _=>rfl) il (by omega) H;subst xM;have ZP:(xs.drop (i+1).toNat).length=xs.length-(i+1).toNat:=List.length_drop;refine aka (fun _=>rfl) H ag (by simp only[ZP]; omega) fun bh H=>?_;have e:xs.take i.toNat++xs.drop (i+1).toNat=xs.eraseIdx i.toNat:=by
  rw[List.eraseIdx_eq_take_drop_succ]; congr 2; omega
 rw[e] at H;refine oa (by omega) (by simp only[ZP]; omega) (by simp only; omega) (Int.le_refl _) fun aeq aoc=>?_;exact alH (fun _=>rfl) aoc H fun aU H=>H
def dB.take(b:dB)(i:Int):dB×gW×Int:=
 if (b.at_ i).2≠0 then (b,(b.at_ i).1,(b.at_ i).2)
 else if (b.off (b.at_ i).1.fC||b.off (b.at_ i).1.fv)=true then (b,k9,93)
 else ({ b with m:=b.m.eraseIdx i.toNat },(b.at_ i).1,0)
theorem dB.Jb(b:dB){i:Int}(h:(b.at_ i).2=0):0≤i∧i<b.m.length:=by
 by_cases U:i<0∨(b.m.length:Int)≤i
 ·rw[b.Xx U] at h; cases h
 ·omega
theorem afN{i:Int}{n:Nat}(ah:0≤i)(I:i<n)(aK:n≤1000):IntKind.i64.wrap (i+1)=i+1:=wrap_i64 (by omega) (by omega)
theorem aCi(H:E A (hJ l b::m) w)(a0:b.m.length≤1000)(i:Int):M Pg 101 [.pointer (some ⟨l,0,none⟩),.int .i64 i] (B .i64) w fun r J=>
  r=(b.at_ i).2∧E A (hJ l (if (b.at_ i).2=0 then { b with m:=b.m.eraseIdx i.toNat } else b)::m) J:=by
 refine af1 ?_;unfold Tx;refine ap (Bh H i) ?_;rintro r dz ⟨rfl,H⟩;refine bH H fun e5 cm H=>?_;refine cV (x:=k9) (S:=(b.at_ i).1) wM 0 H rfl fun bh H=>?_;have H:=H.drop;by_cases bD:(b.at_ i).2=0
 ·obtain⟨ah,I⟩:=b.Jb bD;rw[if_pos (by simp[bD])];simp only[bD,if_true];obtain⟨v,lN,es,h,H⟩:=vZ H;refine b3 rfl ?_;refine aj (x:=v) 0 H rfl rfl rfl ?_;rw[afN ah I a0];refine ap (Yj (H.front 1) i ah I a0) ?_;intro r aU H;refine dx (x:=r) 1 H rfl rfl (Nat.le_of_ble_eq_true rfl) fun a7 H=>?_;unfold E7;exact⟨bD,st (v:=r) h H⟩
 ·rw[if_neg (by simp[bD])];simp only[bD,if_false];unfold E7;exact⟨by trivial,H⟩
theorem alX(H:E A (hJ l b::m) w)(a0:b.m.length≤1000)(i:Int):M Pg 100 [.pointer (some ⟨l,0,none⟩),.int .i64 i] (B .i64) w fun r J=>
  r=(if (b.at_ i).2≠0 then (b.at_ i).2 else (b.put (b.at_ i).1).2)∧E A (hJ l (if (b.at_ i).2≠0 then b else (b.put (b.at_ i).1).1)::m) J:=by
 refine af0 ?_;unfold Tw;refine ap (Bh H i) ?_;rintro r dz ⟨rfl,H⟩;refine bH H fun e5 cm H=>?_;refine cV (x:=k9) (S:=(b.at_ i).1) wM 0 H rfl fun bh H=>?_;by_cases bD:(b.at_ i).2=0
 ·rw[if_neg (by simp[bD])];simp only[bD,ne_eq,not_true_eq_false,if_false];refine ec (x:=(b.at_ i).1) 0 H rfl ?_;exact Ch H.drop a0 _
 ·rw[if_pos (by simp[bD])];simp only[bD,ne_eq,not_false_eq_true,if_true];exact⟨by trivial,H.drop⟩
theorem al2(H:E A (hJ l b::m) w)(x:Int)(q:Bool):M Pg 69 [.pointer (some ⟨l,0,none⟩),.int .i64 x,.bool q] (B .i64) w fun r J=>
  r=(if b.has x then 0 else 90)∧E A (hJ l (if b.has x then { b with off:=fun S=>if S==x then q else b.off S } else b)::m) J:=by
 refine aiX ?_;unfold Wo;refine ap (Hl H x) ?_;rintro r dz ⟨rfl,H⟩;by_cases cn:b.has x=true
 ·rw[if_neg (by simp[cn])];simp only[cn,if_true];obtain⟨v,lN,es,h,H⟩:=vZ H;have lh:=Hw (H.front 2);cases q with
  |true=>
   rw[if_pos rfl];refine b3 rfl ?_;refine aj (x:=some lN) 0 H rfl rfl rfl ?_;refine r4 2 H rfl rfl fun cm H=>?_;unfold FI;refine⟨rfl,st (v:=v) ?_ (H.ord [1,2,0])⟩;intro S;rw[sZ];by_cases e:(S==x)=true
   ·simp[e]
   ·simp[e,h S]
  |false=>
   rw[if_neg (by simp)];refine b3 rfl ?_;refine aj (x:=some lN) 0 H rfl rfl rfl ?_;refine QW 2 H rfl rfl fun cm H=>?_;unfold FI;refine⟨rfl,st (v:=v) ?_ (H.ord [1,2,0])⟩;intro S;rw[Hu _ _ _ lh];by_cases e:(S==x)=true
   ·simp[e]
   ·simp[e,h S]
 ·rw[if_pos (by simp[cn])];simp only[cn,Bool.false_eq_true,if_false];exact⟨by trivial,H⟩
theorem dB.aHV(b:dB){i:Int}(h:(b.at_ i).2≠0):b.take i=(b,(b.at_ i).1,(b.at_ i).2):=by unfold dB.take; rw[if_pos h]
theorem dB.aHX(b:dB){i:Int}(h:(b.at_ i).2=0)(ai:(b.off (b.at_ i).1.fC||b.off (b.at_ i).1.fv)=true):b.take i=(b,k9,93):=by
 unfold dB.take; rw[if_neg (by simp[h]),if_pos ai]
theorem dB.aHY(b:dB){i:Int}(h:(b.at_ i).2=0)(ai:(b.off (b.at_ i).1.fC||b.off (b.at_ i).1.fv)=false):b.take i=({ b with m:=b.m.eraseIdx i.toNat },(b.at_ i).1,0):=by
 unfold dB.take; rw[if_neg (by simp[h]),if_neg (by simp[ai])]
theorem SH(H:E A (hJ l b::m) w)(a0:b.m.length≤1000)(i:Int):M Pg 82 [.pointer (some ⟨l,0,none⟩),.int .i64 i] (bo ew (B .i64)) w fun r J=>
  r=(b.take i).2∧E A (hJ l (b.take i).1::m) J:=by
 refine ajc ?_;unfold WC;refine bH H fun e5 dz H=>?_;refine ap (Bh (H.front 1) i) ?_;rintro r cm ⟨rfl,H⟩;refine bH H fun dX bh H=>?_;refine cV (x:=k9) (S:=(b.at_ i).1) wM 0 H rfl fun aU H=>?_;by_cases bD:(b.at_ i).2=0
 ·rw[if_neg (by simp[bD])];refine aj (x:=(b.at_ i).1.fC) 0 H rfl rfl rfl ?_;refine ap (X6 (H.front 1) _) ?_;rintro r a7 ⟨rfl,H⟩;have tail:∀ (q:Bool) (w:World),E A (hJ l b::aI dX (ew.cells (b.at_ i).1) 64::aI e5 (ew.cells k9) 64::m) w→q=(b.off (b.at_ i).1.fC||b.off (b.at_ i).1.fv) →
    FM (some ⟨l,0,none⟩) i ⟨e5,0,none⟩ ⟨dX,0,none⟩ q w (fun r J=>r=(b.take i).2∧E A (hJ l (b.take i).1::m) J):=by
   intro q w H a5;unfold FM;subst a5;split
   ·rename_i U;rw[b.aHX bD U];refine cV (x:=k9) (S:=k9) wM 2 H rfl fun bT H=>?_;refine ec (x:=k9) 0 H rfl ?_;exact⟨rfl,((H.ord [0,2]).drop).drop⟩
   ·rename_i U;rw[b.aHY bD (by simpa using U)];obtain⟨ah,I⟩:=b.Jb bD;obtain⟨v,lN,es,h,H⟩:=vZ H;refine b3 rfl ?_;refine aj (x:=v) 0 H rfl rfl rfl ?_;rw[afN ah I a0];refine ap (Yj (H.front 1) i ah I a0) ?_;intro r bT H;refine dx (x:=r) 1 H rfl rfl (Nat.le_of_ble_eq_true rfl) fun bN H=>?_;refine ec (x:=(b.at_ i).1) 3 H rfl ?_;refine cV (x:=k9) (S:=(b.at_ i).1) wM 4 H rfl fun bA H=>?_;refine ec (x:=(b.at_ i).1) 0 H rfl ?_;exact⟨rfl,st (v:=r) h ((H.ord [0,4]).drop).drop⟩
  split
  ·rename_i U;exact tail _ _ H (by simp[U])
  ·rename_i U;refine aj (x:=(b.at_ i).1.fv) 1 H rfl rfl rfl ?_;refine ap (X6 H _) ?_;rintro r bT ⟨rfl,H⟩;exact tail _ _ H (by simp at U; simp[U])
 ·rw[if_pos (by simp[bD])];rw[b.aHV bD];refine ec (x:=(b.at_ i).1) 0 H rfl ?_;refine cV (x:=k9) (S:=(b.at_ i).1) wM 2 H rfl fun a7 H=>?_;refine ec (x:=(b.at_ i).1) 0 H rfl ?_;exact⟨rfl,H.drop.drop⟩
end
section
variable {A w:World} {m:List bu} {l:Nat} {b:dB}
def dB.new(n:Int):dB:=⟨n,0,[],fun _=>false⟩
theorem ajB(H:E A m w)(n:Int):M Pg 39 [.int .i64 n] (bo aE (B .i64)) w fun r J=>
  ((n<1∨64<n)∧r=(none,90)∧E A m J)∨((1≤n∧n≤64)∧∃ l,r=(some ⟨l,0,none⟩,0)∧E A (hJ l (dB.new n)::m) J):=by
 refine air ?_;unfold VW;split
 ·rename_i U;exact .inl ⟨by simp at U; omega,rfl,H⟩
 ·rename_i U;refine wU H fun lN dz H=>?_;refine bH H fun l cm H=>?_;refine .inr ⟨by simp at U; omega,l,rfl,?_⟩;have H:=(wQ fm .i64 (H.front 1)).front 1;exact st (v:=fx) (b:=dB.new n) (fun x=>rfl) ((kJ ew 64 10 H).front 1)
end
end Post
section
open bb
theorem K7:ownKnob Tryz.prog.godebug=none:=by kernel_rfl
theorem wL:laidOutB Pg=true:=by kernel_rfl
section
variable {H:Type} {enc:TypeId×Value→H} {A:World} {base:Nat} {spare:Nat→Bool} {held:Bool}
def rG(A:World)(x:Int):Prop:=IntKind.i64.min≤x∧x≤IntKind.i64.max
theorem Ae:qO enc Pg A base spare held 3 (B .i64) (rG A):=acn Tryz.underlying3
def ND(A:World)(x:Nat):Prop:=x<18446744073709551616
theorem acl:qO enc Pg A base spare held 22 gK (ND A):=aD1 Tryz.underlying22
def vV(A:World)(x:Int):Prop:=IntKind.i64.min≤x∧x≤IntKind.i64.max
theorem K3:qO enc Pg A base spare held 2 (B .i64) (vV A):=acn Tryz.underlying2
def xm(A:World)(x:kV):Prop:=rG A x.hA∧ND A x.gA∧ND A x.kT∧vV A x.ju
theorem K4:qO enc Pg A base spare held 24 g8 (xm A):=by
 refine Rq Tryz.underlying24 (show Tryz.prog.cellsOf 24=4 by kernel_rfl) fun a8 al am=>?_;obtain⟨abC,bx,ah⟩:=am 0 0 3 1 ⟨_,rfl,rfl,rfl⟩ (by kernel_rfl);obtain⟨hy,hD,cO⟩:=Ae _ _ _ ah;obtain⟨g6,b9,I⟩:=am 1 1 22 1 ⟨_,rfl,rfl,rfl⟩ (by kernel_rfl);obtain⟨gS,aQ,br⟩:=acl _ _ _ I;obtain⟨jR,fl,O⟩:=am 2 2 22 1 ⟨_,rfl,rfl,rfl⟩ (by kernel_rfl);obtain⟨mo,a6,eN⟩:=acl _ _ _ O;obtain⟨jC,dW,aH⟩:=am 3 3 2 1 ⟨_,rfl,rfl,rfl⟩ (by kernel_rfl);obtain⟨Iu,c_,iZ⟩:=K3 _ _ _ aH;have cn:=q4 (G:=0) (k:=1) hD (q4 (G:=1) (k:=1) aQ (q4 (G:=2) (k:=1) a6 (q4 (G:=3) (k:=1) c_ (Oo al))));exact⟨⟨hy,gS,mo,Iu⟩,cn,cO,br,eN,iZ⟩
def WT(A:World)(x:mx):Prop:=rG A x.aD∧rG A x.fC∧rG A x.fv∧vV A x.b
theorem aDX:qO enc Pg A base spare held 31 gh (WT A):=by
 refine Rq Tryz.underlying31 (show Tryz.prog.cellsOf 31=4 by kernel_rfl) fun a8 al am=>?_;obtain⟨abC,bx,ah⟩:=am 0 0 3 1 ⟨_,rfl,rfl,rfl⟩ (by kernel_rfl);obtain⟨hy,hD,cO⟩:=Ae _ _ _ ah;obtain⟨g6,b9,I⟩:=am 1 1 3 1 ⟨_,rfl,rfl,rfl⟩ (by kernel_rfl);obtain⟨gS,aQ,br⟩:=Ae _ _ _ I;obtain⟨jR,fl,O⟩:=am 2 2 3 1 ⟨_,rfl,rfl,rfl⟩ (by kernel_rfl);obtain⟨mo,a6,eN⟩:=Ae _ _ _ O;obtain⟨jC,dW,aH⟩:=am 3 3 2 1 ⟨_,rfl,rfl,rfl⟩ (by kernel_rfl);obtain⟨Iu,c_,iZ⟩:=K3 _ _ _ aH;have cn:=q4 (G:=0) (k:=1) hD (q4 (G:=1) (k:=1) aQ (q4 (G:=2) (k:=1) a6 (q4 (G:=3) (k:=1) c_ (Oo al))));exact⟨⟨hy,gS,mo,Iu⟩,cn,cO,br,eN,iZ⟩
def WU(A:World)(s:af):Prop:=(s.len≤s.cap∧s.cap≤9223372036854775807)∧∃ xs,(∀ x∈xs,vV A x)∧cT (B .i64) s xs fun l=>A.heap[l]?
theorem aDY:qO enc Pg A base spare held 32 X (WU A):=Rr Tryz.underlying32 (show Tryz.prog.cellsOf 2=1 by kernel_rfl) (by decide) (fun _=>rfl) K3
def WV(A:World)(s:af):Prop:=(s.len≤s.cap∧s.cap≤9223372036854775807)∧∃ xs,(∀ x∈xs,rG A x)∧cT (B .i64) s xs fun l=>A.heap[l]?
theorem aDZ:qO enc Pg A base spare held 33 X (WV A):=Rr Tryz.underlying33 (show Tryz.prog.cellsOf 3=1 by kernel_rfl) (by decide) (fun _=>rfl) Ae
def FV(A:World)(x:oi):Prop:=rG A x.Kind∧rG A x.aN∧rG A x.aS∧vV A x.b∧WT A x.b6∧WU A x.N∧WV A x.gz
theorem acm:qO enc Pg A base spare held 35 hK (FV A):=by
 refine Rq Tryz.underlying35 (show Tryz.prog.cellsOf 35=10 by kernel_rfl) fun a8 al am=>?_;obtain⟨abC,bx,ah⟩:=am 0 0 3 1 ⟨_,rfl,rfl,rfl⟩ (by kernel_rfl);obtain⟨hy,hD,cO⟩:=Ae _ _ _ ah;obtain⟨g6,b9,I⟩:=am 1 1 3 1 ⟨_,rfl,rfl,rfl⟩ (by kernel_rfl);obtain⟨gS,aQ,br⟩:=Ae _ _ _ I;obtain⟨jR,fl,O⟩:=am 2 2 3 1 ⟨_,rfl,rfl,rfl⟩ (by kernel_rfl);obtain⟨mo,a6,eN⟩:=Ae _ _ _ O;obtain⟨jC,dW,aH⟩:=am 3 3 2 1 ⟨_,rfl,rfl,rfl⟩ (by kernel_rfl);obtain⟨Iu,c_,iZ⟩:=K3 _ _ _ aH;obtain⟨abD,c6,bg⟩:=am 4 4 31 4 ⟨_,rfl,rfl,rfl⟩ (by kernel_rfl);obtain⟨aI6,mW,nt⟩:=aDX _ _ _ bg;obtain⟨jl,dH,dh⟩:=am 5 8 32 1 ⟨_,rfl,rfl,rfl⟩ (by kernel_rfl);obtain⟨aI7,q6,Bs⟩:=aDY _ _ _ dh;obtain⟨QU,cB,il⟩:=am 6 9 33 1 ⟨_,rfl,rfl,rfl⟩ (by kernel_rfl);obtain⟨aI8,xM,Bt⟩:=aDZ _ _ _ il
 have cn:=q4 (G:=0) (k:=1) hD (q4 (G:=1) (k:=1) aQ (q4 (G:=2) (k:=1) a6 (q4 (G:=3) (k:=1) c_ (q4 (G:=4) (k:=4) mW (q4 (G:=8) (k:=1) q6 (q4 (G:=9) (k:=1) xM (Oo al)))))));exact⟨⟨hy,gS,mo,Iu,aI6,aI7,aI8⟩,cn,cO,br,eN,iZ,nt,Bs,Bt⟩
def tn(A:World)(s:af):Prop:=(s.len≤s.cap∧s.cap≤9223372036854775807)∧∃ xs,(∀ x∈xs,FV A x)∧cT hK s xs fun l=>A.heap[l]?
theorem HN:qO enc Pg A base spare held 25 X (tn A):=Rr Tryz.underlying25 (show Tryz.prog.cellsOf 35=10 by kernel_rfl) (by decide) (fun _=>rfl) acm
end
end
namespace Num
open bb
theorem al1(y:Nat):y+(decide ((8:Nat)<2*0)||(8:Nat)==2*0&&y%2==1).toNat=y:=by simp
theorem aoW{f:Nat}(h:iX f):(9007199254740992≤f→f≠9223372036854775808→nV f=f-4503599627370496)∧(f<9007199254740992→nV f≤4503599627370496)∧(f=9223372036854775808→nV f=9223372036854775808):=by
 have a6:Ieee.double.read 4611686018427387904=.number false 4503599627370496 (-51):=by decide
 have aK:(4503599627370496:Nat).log2=52:=by decide
 rcases h with rfl | h
 ·refine⟨fun _ h=>absurd rfl h,fun h=>by omega,fun _=>?_⟩;have e:Ieee.double.read 9223372036854775808=.number true 0 (-1074):=by decide
  unfold nV Ieee.Format.div;rw[a6,e];decide
 ·by_cases f0:f=0
  ·subst f0;refine⟨fun h=>by omega,fun _=>?_,fun h=>by cases h⟩;have e:nV 0=0:=by unfold nV; decide
   rw[e]; omega
  have key:∃ z,Ieee.double.div f 4611686018427387904=some z∧(9007199254740992≤f→z=f-4503599627370496)∧(f<9007199254740992→z≤4503599627370496):=by
   unfold Ieee.Format.div;rw[a6,n2 (by omega)];simp only[Ieee.Datum.quotient];rw[if_neg (by omega),aK,DM];simp only[Option.map_some];refine⟨_,rfl,?_⟩;obtain⟨I,O,aH⟩:=KD f;have apl:ff f≤1015:=by unfold ff; split<;>omega
   have apm:f<9007199254740992→ff f=0:=by intro am; unfold ff; split<;>omega
   have apk:9007199254740992≤f→1≤ff f:=by intro am; unfold ff; split<;>omega
   generalize kr f=y at *;generalize ff f=e at *;have hm:y≠0:=by
    intro hm;subst hm;by_cases he:0<e
    ·have:=aH he; omega
    ·have:e=0:=by omega
     subst this;omega
   have wx:y.log2≤52:=by
    have:y.log2<53:=(Nat.log2_lt hm).2 (by omega);omega
   have J2:52+2+52-y.log2=52+(54-y.log2):=by omega
   have qd:y <<< (52+2+52-y.log2)=y*2^(54-y.log2)*4503599627370496:=by
    rw[J2,Nat.shiftLeft_eq,Nat.pow_add,show (2:Nat)^52=4503599627370496 by decide,Nat.mul_assoc,Nat.mul_comm (2^(54-y.log2))]
   rw[qd,Nat.mul_div_cancel _ (by omega),Nat.mul_mod_left];have dv:y*2^(54-y.log2)<36028797018963968:=by
    have dh:y<2^(y.log2+1):=Nat.lt_log2_self;have il:y*2^(54-y.log2)<2^(y.log2+1)*2^(54-y.log2):=(Nat.mul_lt_mul_right (Nat.two_pow_pos _)).2 dh;rw[← Nat.pow_add,show y.log2+1+(54-y.log2)=55 by omega] at il;have:(2:Nat)^55=36028797018963968:=by decide
    omega
   have Px:18014398509481984≤y*2^(54-y.log2):=by
    have dh:2^y.log2≤y:=Nat.log2_self_le hm;have il:2^y.log2*2^(54-y.log2)≤y*2^(54-y.log2):=Nat.mul_le_mul_right _ dh;rw[← Nat.pow_add,show y.log2+(54-y.log2)=54 by omega] at il;have:(2:Nat)^54=18014398509481984:=by decide
    omega
   have JO:∀ K,K=56-y.log2→2*(y*2^(54-y.log2))/2^K=y/2:=by
    intro K ak;subst ak;rw[show 56-y.log2=(54-y.log2)+1+1 from by omega,Nat.pow_succ,Nat.pow_succ];have R:0<2^(54-y.log2):=Nat.two_pow_pos _;generalize 2^(54-y.log2)=g at *;rw[show 2*(y*g)=(2*y)*g from (Nat.mul_assoc ..).symm,show g*2*2=4*g from by omega,Nat.mul_div_mul_right _ _ R];omega
   have aql:1≤e→y.log2=52:=by
    intro he;have dh:=aH (by omega);have:52≤y.log2:=(Nat.le_log2 hm).2 (by (have:(2:Nat)^52=4503599627370496:=by decide); omega);omega
   have O_:y.log2=52→y*2^(54-y.log2)=y*4:=by intro h; rw[h]
   generalize al:y.log2=N at *;generalize aoA:y*2^(54-N)=b6 at *;show (_→Ieee.Format.nearest Ieee.double (false ^^ false) (2*b6+((0:Nat)!=0).toNat) _=_)∧(_→Ieee.Format.nearest Ieee.double (false ^^ false) (2*b6+((0:Nat)!=0).toNat) _≤_)
   rw[show ((0:Nat)!=0).toNat=0 from rfl,Nat.add_zero];unfold Ieee.Format.nearest;rw[if_neg (by omega)];have pJ:(2*b6).log2=55:=(Nat.log2_eq_iff (by omega)).2 ⟨by omega,by omega⟩;rw[pJ,z9,DM,zB,z2];generalize aF:(-1074+(e:Int) - -51-((52+2+52-N:Nat):Int)-1)=P;simp only;have D6:max (P+((55:Nat):Int)-((52:Nat):Int)) (-1074)=max (P+3) (-1074):=by omega
   rw[D6];have zP:(P-max (P+3) (-1074)).toNat=0:=by omega
   rw[zP,Nat.shiftLeft_zero];have tK:∀ l:Bool,l.toNat≤1:=fun l=>by cases l<;>decide
   refine⟨fun am=>?_,fun am=>?_⟩
   ·have he:=apk am;have kB:=aql he;subst kB;have O_:=O_ rfl;have PF:max (P+3) (-1074)=P+3:=by omega
    rw[PF,show (P+3-P).toNat=3 from by omega,show (P+3 - -1074).toNat=e-1 from by omega];have U:Ieee.Toward.cut .even (false ^^ false) (2*b6) 3=y:=by
     unfold Ieee.Toward.cut;rw[pJ];have GP:1 <<< min 3 (55+2)=8:=by decide
     rw[GP];simp only;have lD:2*b6/8=y:=by omega
     have aX:2*b6%8=0:=by omega
     rw[lD,aX];exact al1 y
    rw[U];unfold Ieee.Format.word;rw[if_neg (by simp)];have:(e-1)*4503599627370496+y≤9218868437227405312:=by
     have:(e-1)*4503599627370496≤1014*4503599627370496:=Nat.mul_le_mul_right _ (by omega);exact Nat.le_trans (Nat.add_le_add this (Nat.le_of_lt O)) (by decide)
    rw[Nat.min_eq_left this,← I];clear qd JO aoA pJ D6 tK dv Px O_ aF J2 U;obtain⟨d,rfl⟩:∃ d,e=d+1:=⟨e-1,by omega⟩
    rw[Nat.add_sub_cancel,Nat.add_mul];omega
   ·have he:=apm am;have PF:max (P+3) (-1074)=-1074:=by omega
    rw[PF,show (-1074 - -1074:Int).toNat=0 from by omega];have ak:(-1074-P).toNat=56-N:=by omega
    rw[ak];have U:Ieee.Toward.cut .even (false ^^ false) (2*b6) (56-N)≤4503599627370496:=by
     unfold Ieee.Toward.cut;rw[pJ];have GP:1 <<< min (56-N) (55+2)=2^(56-N):=by rw[Nat.shiftLeft_eq,Nat.one_mul,Nat.min_eq_left (by omega)]
     rw[GP];simp only;have sJ:=JO (56-N) rfl;refine Nat.le_trans (Nat.add_le_add (Nat.le_of_eq sJ) (tK _)) ?_;omega
    unfold Ieee.Format.word;rw[if_neg (by simp)];refine Nat.le_trans (Nat.min_le_left _ _) ?_;omega
  obtain⟨z,I,O,aH⟩:=key;have bD:nV f=z:=congrArg (fun G:Option Nat=>G.getD 0) I;rw[bD];exact⟨fun a _=>O a,aH,fun e=>by omega⟩
def sH(f:Nat):Prop:=f<4503599627370496∨f=9223372036854775808
instance (f:Nat):Decidable (sH f):=by unfold sH; infer_instance
def n0(f:Nat):Nat:=4503599627370496+f%4503599627370496
def lj(f:Nat):Nat:=1075-f/4503599627370496
def v3(f:Nat)(T W:Nat):Prop:=if sH f then W=0 else 2*2^lj f*W≤T*n0 f
theorem OO(d:Nat)(f:Nat):j5 d f=if sH f then 0 else ((d*n0 f/2^lj f:Nat):Int):=by
 unfold j5 sH n0 lj;rw[Int.toNat_natCast]
theorem aHb{d h:Nat}(ag:d≤1048576)(cn:h≤4503599627370496):j5 d h=0:=by
 rw[OO];split
 ·rfl
 ·rename_i am;unfold sH at am;have e:h=4503599627370496:=by omega
  subst e;have aQ:n0 4503599627370496=2^52:=by decide
  have a6:lj 4503599627370496=1074:=by decide
  rw[aQ,a6];have I:d*2^52<2^1074:=by
   have O:d*2^52≤2^20*2^52:=Nat.mul_le_mul_right _ (by simpa using ag);rw[← Nat.pow_add] at O;exact Nat.lt_of_le_of_lt O (Nat.pow_lt_pow_right (by omega) (by omega))
  rw[Nat.div_eq_of_lt I];rfl
theorem aG9{f d s:Nat}(h:iX f)(ag:d≤1048576)(aG:(s:Int)≤j5 d (nV f)):if sH f then s=0 else 2*2^lj f*s≤d*n0 f:=by
 obtain⟨I,O,aH⟩:=aoW h;by_cases c:9007199254740992≤f∧f≠9223372036854775808
 ·have am:¬ sH f:=by unfold sH; omega
  rw[if_neg am];rw[I c.1 c.2,OO] at aG;have apn:f≤4576918229304087675:=by rcases h with h | h<;>omega
  have aqv:¬ sH (f-4503599627370496):=by unfold sH; omega
  rw[if_neg aqv] at aG;have aQ:n0 (f-4503599627370496)=n0 f:=by unfold n0; omega
  have a6:lj (f-4503599627370496)=lj f+1:=by unfold lj; omega
  rw[aQ,a6,Nat.pow_succ] at aG;have aG:s≤d*n0 f/(2^lj f*2):=by omega
  have aF:0<2^lj f*2:=by have:=Nat.two_pow_pos (lj f); omega
  have dh:=(Nat.le_div_iff_mul_le aF).1 aG;rw[Nat.mul_comm s,Nat.mul_comm (2^lj f) 2] at dh;exact dh
 ·have bD:j5 d (nV f)=0:=by
   by_cases e:f=9223372036854775808
   ·rw[aH e,OO,if_pos (.inr rfl)]
   ·exact aHb ag (O (by omega))
  rw[bD] at aG;have:s=0:=by omega
  subst this;split
  ·rfl
  ·simp
theorem v3.add{f T W d s:Nat}(h:iX f)(eX:v3 f T W)(ag:d≤1048576)(aG:(s:Int)≤j5 d (nV f)):v3 f (T+d) (W+s):=by
 have I:=aG9 h ag aG;unfold v3 at *;split
 ·rename_i c;rw[if_pos c] at I eX;omega
 ·rename_i c;rw[if_neg c] at I eX;rw[Nat.mul_add,Nat.add_mul];exact Nat.add_le_add eX I
theorem aHa(f T:Nat):v3 f T 0:=by
 unfold v3;split
 ·rfl
 ·simp
theorem v3.within{f T W j:Nat}(h:iX f)(eX:v3 f T W)(jh:T≤j+W):(W:Int)≤pA j f∧2*W≤T:=by
 unfold v3 at eX;by_cases c:sH f
 ·rw[if_pos c] at eX;subst eX;have:=(Jj (n:=(j:Int)) (f:=f) (by omega) h.ey).1;exact⟨this,by omega⟩
 ·rw[if_neg c] at eX;have apn:4503599627370496≤f∧f≤4576918229304087675:=by
   unfold sH at c;rcases h with h | h<;>omega
  have hm:n0 f≤2^lj f:=by
   have I:n0 f≤2^53:=by
    have:(2:Nat)^53=9007199254740992:=by decide
    unfold n0; omega
   have O:(2:Nat)^53≤2^lj f:=Nat.pow_le_pow_right (by omega) (by unfold lj; omega);omega
  have aF:0<2^lj f:=Nat.two_pow_pos _;have aog:2*W≤T:=by
   have I:2*2^lj f*W≤T*2^lj f:=Nat.le_trans eX (Nat.mul_le_mul_left _ hm);have O:(2*W)*2^lj f≤T*2^lj f:=by rw[Nat.mul_right_comm] at I; exact I
   exact Nat.le_of_mul_le_mul_right O aF
  have aoy:T≤2*j:=by omega
  have aH:2*(W*2^lj f)≤2*(j*n0 f):=by
   have I:T*n0 f≤2*j*n0 f:=Nat.mul_le_mul_right _ aoy;have O:2*(W*2^lj f)=2*2^lj f*W:=by rw[Nat.mul_comm W,Nat.mul_assoc]
   have bg:2*j*n0 f=2*(j*n0 f):=Nat.mul_assoc ..;omega
  have dh:W≤j*n0 f/2^lj f:=(Nat.le_div_iff_mul_le aF).2 (by omega);refine⟨?_,aog⟩;unfold pA;by_cases cz:f=0∨f=9223372036854775808∨(j:Int)=0
  ·rw[if_pos cz];have:j=0:=by omega
   subst this;have:W=0:=by omega
   subst this;exact Int.le_refl 0
  ·rw[if_neg cz,if_neg (by omega),Int.toNat_natCast];show (W:Int)≤((j*n0 f/2^lj f:Nat):Int)+_
   have:(W:Int)≤((j*n0 f/2^lj f:Nat):Int):=by omega
   split<;>omega
end Num
end Go.Proofs.YthaobmpdjcoheaaGreat
