/- Own texts of this claim, part 11: short, merged. -/
import Derived.Test.YthaobmpdjcoheaaGreatRows
import Derived.OpenShut
import Derived.ShutString
import Derived.ChangeOld
import Derived.Laws.Cover2
import Derived.Test.YthaobmpdjcoheaaGreatZ2
import Derived.Test.YthaobmpdjcoheaaGreatZ3
import Derived.Test.YthaobmpdjcoheaaGreatZ4
import Derived.Test.YthaobmpdjcoheaaGreatZ5
import Derived.Test.YthaobmpdjcoheaaGreatZ6
import Derived.Test.YthaobmpdjcoheaaGreatZ7
import Derived.Test.YthaobmpdjcoheaaGreatZ8
import Derived.Test.YthaobmpdjcoheaaGreatZ9
import Derived.Test.YthaobmpdjcoheaaGreatZ10
set_option exponentiation.threshold 4000
set_option maxRecDepth 100000
set_option maxHeartbeats 40000000
set_option linter.defProp false
set_option linter.unusedVariables false
set_option linter.unusedSimpArgs false
namespace Go.Proofs.YthaobmpdjcoheaaGreat
namespace Wire
open bf
abbrev fc:=mT
def isNaN(l:Nat):Bool:=decide (18437736874454810624<2*l%18446744073709551616)
def m1(l:Nat):Nat:=if isNaN l then 9221120237041090561 else l
theorem anP(l:Nat):m1 (m1 l)=m1 l:=by
 unfold m1;cases h:isNaN l
 ·simp[h]
 ·have:isNaN 9221120237041090561=true:=by decide
  simp[this]
theorem Y0{l:Nat}(h:l<18446744073709551616):m1 l<18446744073709551616:=by unfold m1; split<;>omega
theorem zI:m1 0=0:=by decide
def num(n:Nat):List UInt8:=if n<128 then [UInt8.ofNat n] else UInt8.ofNat (128+n%128)::num (n/128)
termination_by n
decreasing_by omega
theorem KP{n:Nat}(h:n<128):num n=[UInt8.ofNat n]:=by rw[num,if_pos h]
theorem KO{n:Nat}(h:128≤n):num n=UInt8.ofNat (128+n%128)::num (n/128):=by rw[num,if_neg (by omega)]
def rdNum:List UInt8→Nat→Nat→Except Int (Nat×List UInt8)
 |[],_,_=>.error 22
 |c::av,k,acc=>
  if (k=9∧1<c.toNat)∨(0<k∧c.toNat=0) then .error 23
  else if c.toNat<128 then .ok (acc+c.toNat%128*128^k,av)
  else rdNum av (k+1) (acc+c.toNat%128*128^k)
theorem Az{n:Nat}(h:n<256):(UInt8.ofNat n).toNat=n:=by simp; omega
theorem acp{k:Nat}(h:k≤9):128^k=1∨128^k=128∨128^k=16384∨128^k=2097152∨128^k=268435456∨128^k=34359738368∨128^k=4398046511104∨128^k=562949953421312∨128^k=72057594037927936∨k=9∧128^k=9223372036854775808:=by
 have:k=0∨k=1∨k=2∨k=3∨k=4∨k=5∨k=6∨k=7∨k=8∨k=9:=by omega
 rcases this with rfl | rfl | rfl | rfl | rfl | rfl | rfl | rfl | rfl | rfl<;>simp
theorem aD8{k:Nat}(h:k≤8):128^k=1∨128^k=128∨128^k=16384∨128^k=2097152∨128^k=268435456∨128^k=34359738368∨128^k=4398046511104∨128^k=562949953421312∨128^k=72057594037927936:=by
 have:k=0∨k=1∨k=2∨k=3∨k=4∨k=5∨k=6∨k=7∨k=8:=by omega
 rcases this with rfl | rfl | rfl | rfl | rfl | rfl | rfl | rfl | rfl<;>simp
theorem rp{n k:Nat}(aq:k≤9)(aL:n*128^k<18446744073709551616)(h:k=9):n<2:=by
 subst h;simp at aL; omega
theorem aFV:∀ (n k acc:Nat) (rest:List UInt8),k≤9→n*128^k<18446744073709551616→(1≤n∨k=0)→rdNum (num n++rest) k acc=.ok (acc+n*128^k,rest):=by
 intro n;induction n using Nat.strongRecOn with
 |_ n ck=>
  intro k acc rest aq aL ah;by_cases h:n<128
  ·rw[KP h];have aS:(UInt8.ofNat n).toNat=n:=Az (by omega);simp only[List.cons_append,List.nil_append,rdNum,aS];rw[if_neg (by rintro (⟨I,O⟩ | ⟨I,O⟩); (have:=rp aq aL I; omega); (omega)),if_pos h,Nat.mod_eq_of_lt h]
  ·have tP:k≤8:=by
    rcases Nat.lt_or_ge 8 k with sO | sO
    ·have:=rp aq aL (by omega); omega
    ·exact sO
   rw[KO (by omega)];have aS:(UInt8.ofNat (128+n%128)).toNat=128+n%128:=Az (by omega);simp only[List.cons_append,rdNum,aS];rw[if_neg (by omega),if_neg (by omega)];have aE:(128:Nat)^(k+1)=128^k*128:=Nat.pow_succ ..;have hm:n*128^k=n/128*128^(k+1)+n%128*128^k:=by
    rw[aE,Nat.mul_comm (128^k) 128,← Nat.mul_assoc,← Nat.add_mul];congr 1; omega
   have j:(128+n%128)%128=n%128:=by omega
   rw[ck (n/128) (by omega) (k+1) _ rest (by omega) (by omega) (by omega),j];congr 2; omega
theorem fit{k y c:Nat}(h:k≤8)(hm:y*(128^k*128)<18446744073709551616)(U:c<128^k*128):y*(128^k*128)+c<18446744073709551616:=by
 have ak:∃ K,K*(128^k*128)=18446744073709551616:=by
  refine⟨18446744073709551616/(128^k*128),?_⟩;rcases aD8 h with j | j | j | j | j | j | j | j | j<;>rw[j]
 obtain⟨K,ak⟩:=ak;rw[← ak] at hm ⊢;generalize 128^k*128=p at *;have I:y<K:=Nat.lt_of_mul_lt_mul_right hm;have O:(y+1)*p≤K*p:=Nat.mul_le_mul_right _ I;rw[Nat.add_mul,Nat.one_mul] at O;omega
theorem ad4:∀ (av:List UInt8) (k acc n:Nat) (rest:List UInt8),k≤9→rdNum av k acc=.ok (n,rest)→∃ y,n=acc+y*128^k∧y*128^k<18446744073709551616∧(1≤y∨k=0)∧av=num y++rest
 |[],k,acc,n,rest,aq,h=>by simp[rdNum] at h
 |c::av,k,acc,n,rest,aq,h=>by
  simp only[rdNum] at h;split at h
  ·cases h
  ·rename_i I;have U:c.toNat<256:=c.toNat_lt;split at h
   ·rename_i O;simp only[Except.ok.injEq,Prod.mk.injEq] at h;obtain⟨rfl,rfl⟩:=h;refine⟨c.toNat,by rw[Nat.mod_eq_of_lt O],?_,by omega,?_⟩
    ·rcases acp aq with j | j | j | j | j | j | j | j | j | ⟨Gl,j⟩<;>rw[j]<;>omega
    ·rw[KP O]; simp
   ·rename_i O;have tP:k≤8:=by omega
    obtain⟨y,aR,a9,df,m0⟩:=ad4 av (k+1) _ n rest (by omega) h;have aE:(128:Nat)^(k+1)=128^k*128:=Nat.pow_succ ..;have hm:(y*128+c.toNat%128)*128^k=y*128^(k+1)+c.toNat%128*128^k:=by
     rw[aE,Nat.mul_comm (128^k) 128,← Nat.mul_assoc,← Nat.add_mul]
    refine⟨y*128+c.toNat%128,by rw[hm,aR]; omega,?_,by omega,?_⟩
    ·rw[hm,aE];rw[aE] at a9;exact fit tP a9 (by rw[Nat.mul_comm]; exact Nat.mul_lt_mul_of_pos_left (by omega) (Nat.pow_pos (by omega)))
    ·rw[KO (by omega),m0];have gF:128+(y*128+c.toNat%128)%128=c.toNat:=by omega
     have gd:(y*128+c.toNat%128)/128=y:=by omega
     rw[gF,gd]; simp
theorem aC1:∀ (n k:Nat),k≤9→n*128^k<18446744073709551616→(num n).length+k≤10:=by
 intro n;induction n using Nat.strongRecOn with
 |_ n ck=>
  intro k aq aL;by_cases h:n<128
  ·rw[KP h]; simp; omega
  ·have tP:k≤8:=by
    rcases Nat.lt_or_ge 8 k with sO | sO
    ·have:=rp aq aL (by omega); omega
    ·exact sO
   rw[KO (by omega)];have aE:(128:Nat)^(k+1)=128^k*128:=Nat.pow_succ ..;have hm:n*128^k=n/128*128^(k+1)+n%128*128^k:=by
    rw[aE,Nat.mul_comm (128^k) 128,← Nat.mul_assoc,← Nat.add_mul];congr 1; omega
   have:=ck (n/128) (by omega) (k+1) (by omega) (by omega);simp only[List.length_cons]; omega
def be:Nat→Nat→List UInt8
 |0,_=>[]
 |i+1,n=>UInt8.ofNat (n/256^i%256)::be i n
theorem uQ:∀ i n,(be i n).length=i
 |0,_=>rfl
 |i+1,n=>by simp[be,uQ i n]
def oF:Nat→Nat→List UInt8→Except Int (Nat×List UInt8)
 |0,acc,av=>.ok (acc,av)
 |_+1,_,[]=>.error 22
 |i+1,acc,c::av=>oF i (acc*256+c.toNat) av
theorem aCw(n i:Nat):n%256^(i+1)=n/256^i%256*256^i+n%256^i:=by
 rw[Nat.pow_succ,Nat.mod_mul,Nat.mul_comm (256^i),Nat.add_comm]
theorem ad1:∀ (i acc n:Nat) (rest:List UInt8),oF i acc (be i n++rest)=.ok (acc*256^i+n%256^i,rest)
 |0,acc,n,rest=>by simp[be,oF,Nat.mod_one]
 |i+1,acc,n,rest=>by
  have aS:(UInt8.ofNat (n/256^i%256)).toNat=n/256^i%256:=Az (by omega);simp only[be,List.cons_append,oF,aS,ad1 i];rw[aCw,Nat.pow_succ,Nat.mul_comm (256^i) 256,← Nat.mul_assoc,Nat.add_mul];congr 2; omega
theorem XC(q:Nat):∀ (i n D:Nat),i≤D→be i (q*256^D+n)=be i n
 |0,_,_,_=>rfl
 |i+1,n,D,h=>by
  simp only[be];have j:(q*256^D+n)/256^i%256=n/256^i%256:=by
   have aE:(256:Nat)^D=256^i*(256*256^(D-i-1)):=by
    rw[← Nat.mul_assoc,← Nat.pow_succ,← Nat.pow_add]; congr 1; omega
   have ah:0<256^i:=Nat.pow_pos (by omega);rw[aE];have a9:q*(256^i*(256*256^(D-i-1)))+n=n+256^i*(q*256^(D-i-1)*256):=by
    rw[Nat.add_comm]; congr 1;rw[Nat.mul_left_comm,Nat.mul_comm 256,Nat.mul_assoc]
   rw[a9,Nat.add_mul_div_left _ _ ah,Nat.add_mul_mod_self_right]
  rw[j,XC q i n D (by omega)]
theorem ad3:∀ (i acc y:Nat) (av rest:List UInt8),oF i acc av=.ok (y,rest)→∃ n,n<256^i∧y=acc*256^i+n∧av=be i n++rest
 |0,acc,y,av,rest,h=>by
  simp only[oF,Except.ok.injEq,Prod.mk.injEq] at h;exact⟨0,by simp,by simp[h.1],by simp[be,h.2]⟩
 |i+1,acc,y,[],rest,h=>by simp[oF] at h
 |i+1,acc,y,c::av,rest,h=>by
  have U:c.toNat<256:=c.toNat_lt;obtain⟨n,I,O,aJ⟩:=ad3 i _ y av rest h;have ah:0<256^i:=Nat.pow_pos (by omega);refine⟨c.toNat*256^i+n,?_,?_,?_⟩
  ·rw[Nat.pow_succ,Nat.mul_comm (256^i)];have:(c.toNat+1)*256^i≤256*256^i:=Nat.mul_le_mul_right _ (by omega);rw[Nat.add_mul] at this; omega
  ·rw[O,Nat.pow_succ,Nat.mul_comm (256^i) 256,← Nat.mul_assoc,Nat.add_mul]; omega
  ·have aR:(c.toNat*256^i+n)/256^i=c.toNat:=by
    rw[Nat.add_comm,Nat.add_mul_div_right _ _ ah,Nat.div_eq_of_lt I]; omega
   simp only[be,aR,XC c.toNat i n i (Nat.le_refl i),List.cons_append,aJ,Nat.mod_eq_of_lt U];simp
def uC(i:Int):Nat:=if i<0 then 2*(-(i+1)).toNat+1 else 2*i.toNat
def uB(n:Nat):Int:=if n%2=1 then -((n/2:Nat):Int)-1 else (n/2:Nat)
theorem aJl(i:Int):uB (uC i)=i:=by
 unfold uB uC;split<;>split<;>omega
theorem aJp(n:Nat):uC (uB n)=n:=by
 unfold uB uC;split<;>split<;>omega
theorem Ma{i:Int}(ah:-9223372036854775808≤i)(I:i≤9223372036854775807):uC i<18446744073709551616:=by
 unfold uC; split<;>omega
theorem afS{n:Nat}(h:n<18446744073709551616):-9223372036854775808≤uB n∧uB n≤9223372036854775807:=by
 unfold uB; split<;>omega
structure In(v:fc):Prop where
 z5:-9223372036854775808≤v.Kind
 dn:v.Kind≤9223372036854775807
 Ih:0≤v.c6
 vP:v.c6<18446744073709551616
 i0:-9223372036854775808≤v.aW
 i1:v.aW≤9223372036854775807
 f:v.aU<18446744073709551616
def sf(v:fc):Bool:=
 if v.Kind=1 then (v.aW==0&&v.aU==0)&&v.W==[]
 else if v.Kind=2 then (v.c6==0&&v.aU==0)&&v.W==[]
 else if v.Kind=3 then (v.c6==0&&v.aW==0)&&v.W==[]
 else if v.Kind=4 then (v.c6==0&&v.aW==0)&&v.aU==0
 else false
def jW(v:fc):Int:=if sf v=false then 21 else if v.W.length>1000 then 24 else 0
def iS(v:fc):List UInt8:=UInt8.ofNat v.Kind.toNat ::
 (if v.Kind=1 then num v.c6.toNat else if v.Kind=2 then num (uC v.aW) else if v.Kind=3 then be 8 (m1 v.aU) else num v.W.length++v.W)
def nR(v:fc):fc:={ v with aU:=m1 v.aU }
def ih:List UInt8→Except Int (fc×List UInt8)
 |[]=>.error 22
 |c::av=>
  if c.toNat=1 then match rdNum av 0 0 with
   |.error j=>.error j
   |.ok (n,r)=>.ok (⟨1,n,0,0,[]⟩,r)
  else if c.toNat=2 then match rdNum av 0 0 with
   |.error j=>.error j
   |.ok (n,r)=>.ok (⟨2,0,uB n,0,[]⟩,r)
  else if c.toNat=3 then match oF 8 0 av with
   |.error j=>.error j
   |.ok (n,r)=>if m1 n≠n then .error 25 else .ok (⟨3,0,0,n,[]⟩,r)
  else if c.toNat=4 then match rdNum av 0 0 with
   |.error j=>.error j
   |.ok (n,r)=>if 1000<n then .error 24 else if r.length<n then .error 22 else .ok (⟨4,0,0,0,r.take n⟩,r.drop n)
  else .error 21
theorem HI{v:fc}(h:jW v=0):(v.Kind=1∧v.aW=0∧v.aU=0∧v.W=[])∨(v.Kind=2∧v.c6=0∧v.aU=0∧v.W=[])∨(v.Kind=3∧v.c6=0∧v.aW=0∧v.W=[])∨(v.Kind=4∧v.c6=0∧v.aW=0∧v.aU=0∧v.W.length≤1000):=by
 unfold jW at h;split at h
 ·simp at h
 ·rename_i aE;split at h
  ·simp at h
  ·rename_i al;unfold sf at aE;split at aE
   ·simp at aE; exact .inl ⟨by assumption,aE.1,aE.2.1,aE.2.2⟩
   ·split at aE
    ·simp at aE; exact .inr (.inl ⟨by assumption,aE.1,aE.2.1,aE.2.2⟩)
    ·split at aE
     ·simp at aE; exact .inr (.inr (.inl ⟨by assumption,aE.1,aE.2.1,aE.2.2⟩))
     ·split at aE
      ·simp at aE; exact .inr (.inr (.inr ⟨by assumption,aE.1,aE.2.1,aE.2.2,by omega⟩))
      ·simp at aE
theorem R9{n:Nat}(h:n<18446744073709551616)(rest:List UInt8):rdNum (num n++rest) 0 0=.ok (n,rest):=by
 have:=aFV n 0 0 rest (by omega) (by simpa using h) (.inr rfl);simpa using this
theorem al1{v:fc}(ax:In v)(h:jW v=0)(rest:List UInt8):ih (iS v++rest)=.ok (nR v,rest):=by
 obtain⟨k,u,i,f,s⟩:=v;rcases HI h with ⟨I,O,aJ,bl⟩ | ⟨I,O,aJ,bl⟩ | ⟨I,O,aJ,bl⟩ | ⟨I,O,aJ,bl,dq⟩
 all_goals simp only at I O aJ bl
 ·subst I; subst O; subst aJ; subst bl;have hu:=ax.vP; have aak:=ax.Ih;simp only at hu aak;have j:rdNum (num u.toNat++rest) 0 0=.ok (u.toNat,rest):=R9 (by omega) rest;have a9:((u.toNat:Nat):Int)=u:=by omega
  simp[iS,ih,j,nR,zI,a9]
 ·subst I; subst O; subst aJ; subst bl;have j:rdNum (num (uC i)++rest) 0 0=.ok (uC i,rest):=R9 (Ma ax.i0 ax.i1) rest;simp[iS,ih,j,nR,zI,aJl]
 ·subst I; subst O; subst aJ; subst bl;have j:oF 8 0 (be 8 (m1 f)++rest)=.ok (m1 f,rest):=by
   have:=Y0 ax.f;rw[ad1,Nat.mod_eq_of_lt (by simpa using this)]; simp
  simp[iS,ih,j,nR,anP]
 ·subst I; subst O; subst aJ; subst bl;simp only at dq;have j:rdNum (num s.length++(s++rest)) 0 0=.ok (s.length,s++rest):=R9 (by omega) _;simp[iS,ih,j,nR,zI];rw[if_neg (by omega),if_neg (by omega)]
theorem B9{n:Nat}(h:n<18446744073709551616):(num n).length≤10:=by
 have:=aC1 n 0 (by omega) (by simpa using h); omega
theorem Ln{av rest:List UInt8}{n:Nat}(h:rdNum av 0 0=.ok (n,rest)):n<18446744073709551616∧av=num n++rest:=by
 obtain⟨y,I,O,_,aJ⟩:=ad4 av 0 0 n rest (by omega) h;have:n=y:=by simpa using I
 subst this;exact⟨by simpa using O,aJ⟩
theorem X5{av rest:List UInt8}{v:fc}(h:ih av=.ok (v,rest)):In v∧jW v=0∧nR v=v∧av=iS v++rest:=by
 cases av with
 |nil=>simp[ih] at h
 |cons c av=>
  simp only[ih] at h;split at h
  ·rename_i U;split at h
   ·cases h
   ·rename_i n r ab;simp only[Except.ok.injEq,Prod.mk.injEq] at h;obtain⟨rfl,rfl⟩:=h;obtain⟨I,rfl⟩:=Ln ab;refine⟨⟨by simp,by simp,by simp,by simp only; omega,by simp,by simp,by simp⟩,by simp[jW,sf],by simp[nR,zI],?_⟩;obtain rfl:c=1:=UInt8.toNat_inj.1 U;simp[iS]
  ·split at h
   ·rename_i U;split at h
    ·cases h
    ·rename_i n r ab;simp only[Except.ok.injEq,Prod.mk.injEq] at h;obtain⟨rfl,rfl⟩:=h;obtain⟨I,rfl⟩:=Ln ab;refine⟨⟨by simp,by simp,by simp,by simp,(afS I).1,(afS I).2,by simp⟩,by simp[jW,sf],by simp[nR,zI],?_⟩;obtain rfl:c=2:=UInt8.toNat_inj.1 U;simp[iS,aJp]
   ·split at h
    ·rename_i U;split at h
     ·cases h
     ·rename_i n r ab;split at h
      ·cases h
      ·rename_i am;simp only[Except.ok.injEq,Prod.mk.injEq] at h;obtain⟨rfl,rfl⟩:=h;obtain⟨y,I,O,rfl⟩:=ad3 8 0 _ _ _ ab;have:n=y:=by simpa using O
       subst this;have am:m1 n=n:=by simpa using am
       refine⟨⟨by simp,by simp,by simp,by simp,by simp,by simp,by simpa using I⟩,by simp[jW,sf],by simp[nR,am],?_⟩;obtain rfl:c=3:=UInt8.toNat_inj.1 U;simp[iS,am]
    ·split at h
     ·rename_i U;split at h
      ·cases h
      ·rename_i n r ab;split at h
       ·cases h
       ·split at h
        ·cases h
        ·rename_i dq iu;simp only[Except.ok.injEq,Prod.mk.injEq] at h;obtain⟨rfl,rfl⟩:=h;obtain⟨I,rfl⟩:=Ln ab;have al:(r.take n).length=n:=by rw[List.length_take]; omega
         refine⟨⟨by simp,by simp,by simp,by simp,by simp,by simp,by simp⟩,?_,by simp[nR,zI],?_⟩
         ·simp only[jW,sf]; simp; omega
         ·obtain rfl:c=4:=UInt8.toNat_inj.1 U;simp[iS]; rw[Nat.min_eq_left (by omega)]
     ·cases h
theorem amr{v:fc}(ax:In v)(h:jW v=0):(iS v).length≤1011:=by
 rcases HI h with ⟨I,_⟩ | ⟨I,_⟩ | ⟨I,_⟩ | ⟨I,_,_,_,dq⟩
 ·have:=B9 (n:=v.c6.toNat) (by have:=ax.vP; have:=ax.Ih; omega);simp[iS,I]; omega
 ·have:=B9 (Ma ax.i0 ax.i1);simp[iS,I]; omega
 ·simp[iS,I,uQ]
 ·have:=B9 (n:=v.W.length) (by omega);simp[iS,I]; omega
section
variable {A w:World} {m bT:List bC}
abbrev hv:=gj
theorem QL:∀ x,(hv.cells x).length=5:=fun _=>rfl
theorem Rp(d:Ieee.Datum):d.order d=if d.isNaN then none else some .eq:=by
 have bt:∀ x:Int,compare x x=.eq:=fun x=>Std.ReflCmp.compare_self;have bI:∀ x:Nat,compare x x=.eq:=fun x=>Std.ReflCmp.compare_self;cases d with
 |nan s t=>rfl
 |infinity s=>simp only[Ieee.Datum.order,bI]; rfl
 |number s y i=>simp only[Ieee.Datum.order,bt]; rfl
theorem aCD{f:Nat}:fQ .neq f f=isNaN f:=by
 have aG:FloatKind.f64.format.signWeight=9223372036854775808:=by decide
 have ab:FloatKind.f64.format.infRung=9218868437227405312:=by decide
 have ao:FloatKind.f64.format.binade=4503599627370496:=by decide
 have j:2*f%18446744073709551616=2*(f%9223372036854775808):=by omega
 unfold fQ isNaN;simp only[Ieee.Format.order,Rp];rw[j];have O:(FloatKind.f64.format.read f).isNaN=decide (18437736874454810624<2*(f%9223372036854775808)):=by
  simp only[Ieee.Format.read,aG,ab,ao];by_cases I:f%9223372036854775808<4503599627370496
  ·rw[if_pos I];show false=_
   symm; rw[decide_eq_false_iff_not]; omega
  ·rw[if_neg I];by_cases O:f%9223372036854775808<9218868437227405312
   ·rw[if_pos O];show false=_
    symm; rw[decide_eq_false_iff_not]; omega
   ·rw[if_neg O];by_cases aJ:f%9223372036854775808=9218868437227405312
    ·rw[if_pos aJ];show false=_
     symm; rw[decide_eq_false_iff_not]; omega
    ·rw[if_neg aJ];show true=_
     symm; rw[decide_eq_true_iff]; omega
 rw[O];cases decide (18437736874454810624<2*(f%9223372036854775808))<;>rfl
theorem inf_spec{f:Nat}{s:Int}(H:E A m w):M Pg 138 [.float .f64 f,.int .i64 s] bk w fun _ J=>E A m J:=by
 refine T3 ?_;unfold Mp CR;split
 ·refine UH ?_;unfold MC;exact H
 ·split
  ·exact H
  ·exact H
theorem Bl{f:Nat}(H:E A m w):M Pg 87 [.float .f64 f] (B .i64) w fun r J=>(r==0)=isNaN f∧E A m J:=by
 refine WD ?_;unfold Nr;rw[aCD];split
 ·rename_i h; exact⟨by rw[h]; rfl,H⟩
 ·rename_i h;have h:isNaN f=false:=by simpa using h
  rw[h];split
  ·exact⟨rfl,H⟩
  ·split
   ·exact⟨rfl,H⟩
   ·refine ap (inf_spec H) ?_;intro r w H;split
    ·exact⟨rfl,H⟩
    ·refine ap (inf_spec H) ?_;intro r w H;split
     ·exact⟨rfl,H⟩
     ·split
      ·exact⟨rfl,H⟩
      ·exact⟨rfl,H⟩
theorem XE{f:Nat}(H:E A m w):M Pg 229 [.float .f64 f] (B .u64) w fun r J=>r=(m1 f:Nat)∧E A m J:=by
 refine ahJ ?_;unfold Ve;refine ap (Bl H) ?_;rintro r w ⟨ab,H⟩;rw[ab];unfold m1;split
 ·refine ah5 ?_;unfold Vz;rw[if_pos (by rfl)];exact⟨rfl,H⟩
 ·exact⟨rfl,H⟩
theorem aEE{v:fc}(H:E A m w):M Pg 235 [hv.enc v] bk w fun r J=>r=sf v∧E A m J:=by
 refine ahO ?_;unfold Vj;refine bP H fun l w H=>?_;refine dp H fun w H=>?_;refine aj (x:=v.c6) 0 H rfl rfl rfl ?_;refine aj (x:=v.aW) 0 H rfl rfl rfl ?_;refine aj (x:=v.aU) 0 H rfl rfl rfl ?_;refine aj (x:=v.W) 0 H rfl rfl rfl ?_;refine aj (x:=v.Kind) 0 H rfl rfl rfl ?_;have am:((v.aU:Int)==0)=(v.aU==0):=by rw[Bool.eq_iff_iff]; simp
 rw[am];have H:=H.drop;by_cases I:v.Kind=1
 ·simp only[I,beq_self_eq_true,if_true,sf]; exact⟨trivial,H⟩
 ·have aR:(v.Kind==1)=false:=by simpa using I
  by_cases O:v.Kind=2
  ·simp only[O,sf,show ((2:Int)==1)=false from rfl,show ¬ (2:Int)=1 from by decide,beq_self_eq_true,if_true,if_false,Bool.false_eq_true]; exact⟨trivial,H⟩
  ·have a9:(v.Kind==2)=false:=by simpa using O
   by_cases aJ:v.Kind=3
   ·simp only[aJ,sf,show ((3:Int)==1)=false from rfl,show ((3:Int)==2)=false from rfl,show ¬ (3:Int)=1 from by decide,show ¬ (3:Int)=2 from by decide,beq_self_eq_true,if_true,if_false,Bool.false_eq_true]; exact⟨trivial,H⟩
   ·have df:(v.Kind==3)=false:=by simpa using aJ
    by_cases bl:v.Kind=4
    ·simp only[bl,sf,show ((4:Int)==1)=false from rfl,show ((4:Int)==2)=false from rfl,show ((4:Int)==3)=false from rfl,show ¬ (4:Int)=1 from by decide,show ¬ (4:Int)=2 from by decide,show ¬ (4:Int)=3 from by decide,beq_self_eq_true,if_true,if_false,Bool.false_eq_true]; exact⟨trivial,H⟩
    ·have m0:(v.Kind==4)=false:=by simpa using bl
     simp only[aR,a9,df,m0,I,O,aJ,bl,sf,if_false,Bool.false_eq_true]; exact⟨trivial,H⟩
theorem aIj{v:fc}(H:E A m w):M Pg 198 [hv.enc v] (B .i64) w fun r J=>r=jW v∧E A m J:=by
 refine ahn ?_;unfold UT;refine bP H fun l w H=>?_;refine eh (x:=v) 0 H rfl ?_;refine ap (aEE H) ?_;rintro r w ⟨rfl,H⟩;unfold jW;split
 ·rename_i h; rw[if_pos (by simpa using h)]; exact⟨rfl,H.drop⟩
 ·rename_i h;rw[if_neg (by simpa using h)];refine aj (x:=v.W) 0 H rfl rfl rfl ?_;split
  ·rename_i h; rw[if_pos (by simp at h; omega)]; exact⟨rfl,H.drop⟩
  ·rename_i h; rw[if_neg (by simp at h; omega)]; exact⟨rfl,H.drop⟩
theorem ES{n:Int}{y:Nat}(h:n=y):IntKind.u8.wrap n=((UInt8.ofNat y).toNat:Int):=by rw[L4,h]; simp
theorem Q7{n:Nat}{s:af}{xs:List Int}(aL:n<18446744073709551616)(ao:xs.length≤100000000)(i:Nat)(H:E A m w)(ax:front i m=row (B .u8) 5 1 s xs::bT) :
  M Pg 236 [X.enc s,.int .u64 n] X w fun r J=>E A (row (B .u8) 5 1 r (xs++aT (num n))::bT) J:=by
 have H:E A (row (B .u8) 5 1 s xs::bT) w:=ax▸H.front i;refine ahP ?_;unfold Vk;refine hY (fun p w=>∃ (y:Nat) (gJ:List UInt8),p.2=y∧y<18446744073709551616∧y≤n∧num n=gJ++num y∧E A (row (B .u8) 5 1 p.1 (xs++aT gJ)::bT) w) (fun p=>p.2.toNat)
  ⟨n,[],rfl,aL,Nat.le_refl n,rfl,by simpa[aT] using H⟩ ?_
 clear H ax;rintro⟨l,y⟩ w ⟨y,gJ,rfl,hm,aJ5,he,H⟩ aa ca;have al:gJ.length≤10:=by
  have:=congrArg List.length he;rw[List.length_append] at this;have:=B9 aL;omega
 unfold MR;split
 ·rename_i U;have U:128≤y:=by simp at U; omega
  have aR:bits .or .u8 (IntKind.u8.wrap (y:Int)) 128=((UInt8.ofNat (128+y%128)).toNat:Int):=by
   rw[L4,aD0 (by omega) (by omega),Az (by omega)]; omega
  simp only[aR];refine nu (fun _=>rfl) 0 H rfl (by simp[gv]; omega) fun r w H=>?_;refine sq (by omega) ?_;have a9:Int.fdiv (y:Int) (2^(min (Int.toNat 7) IntKind.u64.bits))=((y/128:Nat):Int):=by
   have:min (Int.toNat 7) IntKind.u64.bits=7:=rfl;rw[this,Int.fdiv_eq_ediv_of_nonneg _ (by decide)];omega
  rw[a9];refine ca _ _ ⟨y/128,gJ++[UInt8.ofNat (128+y%128)],rfl,by omega,by omega,by rw[he,KO U]; simp,?_⟩ (by simp only; omega);rw[xl,← List.append_assoc]; exact H
 ·rename_i U;have U:y<128:=by simp at U; omega
  rw[ES rfl];refine nu (fun _=>rfl) 0 H rfl (by simp[gv]; omega) fun r w H=>?_;rw[he,KP U,xl,← List.append_assoc]; exact H
end
def hW(aX:List fc):List UInt8:=aX.flatMap iS
def bad:List fc→Int
 |[]=>0
 |v::aX=>if jW v≠0 then jW v else bad aX
def yT(aX:List fc):Int:=if 1000<aX.length then 20 else bad aX
theorem amv(m y:List fc):hW (m++y)=hW m++hW y:=by simp[hW]
theorem Oy:∀ {aX:List fc},(∀ v∈aX,In v)→(∀ v∈aX,jW v=0)→(hW aX).length≤1011*aX.length
 |[],_,_=>by simp[hW]
 |v::aX,ax,h=>by
  have I:=amr (ax v (by simp)) (h v (by simp));have O:=Oy (aX:=aX) (fun x F=>ax x (by simp[F])) (fun x F=>h x (by simp[F]));simp only[hW,List.flatMap_cons,List.length_append,List.length_cons] at *;omega
theorem Gc{m y:List fc}(h:∀ v∈m,jW v=0):bad (m++y)=bad y:=by
 induction m with
 |nil=>rfl
 |cons v m ck=>
  have I:=h v (by simp);simp only[List.cons_append,bad,I];rw[if_neg (by simp)];exact ck fun x F=>h x (by simp[F])
theorem N_{aX:List fc}(h:∀ v∈aX,jW v=0):bad aX=0:=by
 have:=Gc (m:=aX) (y:=[]) h;rw[List.append_nil] at this;exact this
theorem Gy(n y:Nat):Int.fdiv (n:Int) (2^y)=((n/2^y:Nat):Int):=by
 rw[Int.fdiv_eq_ediv_of_nonneg _ (by exact_mod_cast Nat.zero_le _)]; push_cast; rfl
section
variable {A w:World} {m bT:List bC}
theorem aJo{x:Int}(ah:-9223372036854775808≤x)(I:x≤9223372036854775807) :
  bits .xor .u64 (IntKind.u64.wrap ((IntKind.u64.wrap x)*2^(min ((1:Int)).toNat IntKind.u64.bits))) (IntKind.u64.wrap (Int.fdiv x (2^(min ((63:Int)).toNat IntKind.i64.bits))))=((uC x:Nat):Int):=by
 have g9:min ((1:Int)).toNat IntKind.u64.bits=1:=rfl;have jV:min ((63:Int)).toNat IntKind.i64.bits=63:=rfl;rw[g9,jV,Int.fdiv_eq_ediv_of_nonneg _ (by decide),lw,lw,lw];unfold uC;by_cases h:x<0
 ·rw[if_pos h];have j:x/2^63%18446744073709551616=18446744073709551615:=by omega
  rw[j,afN (by omega) (by omega)];omega
 ·rw[if_neg h];have j:x/2^63%18446744073709551616=0:=by omega
  rw[j,aI0 (by omega) (by omega)];omega
theorem Ch{v:fc}{s:af}{xs:List Int}(a7:In v)(aK:jW v=0)(ao:xs.length≤90000000)(i:Nat)(H:E A m w)(ax:front i m=row (B .u8) 5 1 s xs::bT) :
  M Pg 199 [X.enc s,hv.enc v] X w fun r J=>E A (row (B .u8) 5 1 r (xs++aT (iS v))::bT) J:=by
 have H:E A (row (B .u8) 5 1 s xs::bT) w:=ax▸H.front i;clear ax;have aq:=HI aK;have ma:1≤v.Kind∧v.Kind≤4:=by omega
 refine aho ?_;unfold UU;refine bP H fun l w H=>?_;refine aj (x:=v.Kind) 0 H rfl rfl rfl ?_;have hH:IntKind.u8.wrap v.Kind=((UInt8.ofNat v.Kind.toNat).toNat:Int):=ES (by omega);rw[hH];refine nu (fun _=>rfl) 1 H rfl (by simp; omega) fun r w H=>?_;refine aj (x:=v.Kind) 1 H rfl rfl rfl ?_;have gY:E A (row (B .u8) 5 1 r (xs++aT [UInt8.ofNat v.Kind.toNat])::aH l (hv.cells v) 197::bT) w:=H;clear H hH;have GL:∀ (q:af) (w:World) (gJ:List UInt8),iS v=UInt8.ofNat v.Kind.toNat::gJ→∀ {m:List bC},E A (row (B .u8) 5 1 q (xs++aT [UInt8.ofNat v.Kind.toNat]++aT gJ)::m) w→E A (row (B .u8) 5 1 q (xs++aT (iS v))::m) w:=by
  intro q w gJ he m H;rw[he];rw[List.append_assoc,← xl] at H;exact H
 have z2:(xs++aT [UInt8.ofNat v.Kind.toNat]).length≤100000000:=by simp[gv]; omega
 split
 ·rename_i h;have h:v.Kind=1:=by simpa using h
  refine aj (x:=v.c6) 1 gY rfl rfl rfl ?_;have j:v.c6=((v.c6.toNat:Nat):Int):=by have:=a7.Ih; omega
  rw[j];refine ap (Q7 (by have:=a7.vP; omega) z2 0 gY rfl) ?_;intro q w H;exact GL q w (num v.c6.toNat) (by simp[iS,h]) (H.front 1).drop |> fun H=>H
 ·rename_i h;have I:¬ v.Kind=1:=by simpa using h
  split
  ·rename_i h;have h:v.Kind=2:=by simpa using h
   refine aj (x:=v.aW) 1 gY rfl rfl rfl ?_;refine sq (by omega) ?_;refine aj (x:=v.aW) 1 gY rfl rfl rfl ?_;refine sq (by omega) ?_;rw[aJo a7.i0 a7.i1];refine ap (Q7 (Ma a7.i0 a7.i1) z2 0 gY rfl) ?_;intro q w H;have H:=GL q w (num (uC v.aW)) (by simp[iS,h]) H;exact ((H.front 1).drop)
  ·rename_i h;have O:¬ v.Kind=2:=by simpa using h
   split
   ·rename_i h;have h:v.Kind=3:=by simpa using h
    refine aj (x:=v.aU) 1 gY rfl rfl rfl ?_;refine ap (XE gY) ?_;rintro q w ⟨rfl,H⟩;have aL:m1 v.aU<18446744073709551616:=Y0 a7.f;have ZS:∀ (q:af) (w:World) {m:List bC},E A (row (B .u8) 5 1 q (xs++aT [UInt8.ofNat v.Kind.toNat]++aT (be 8 (m1 v.aU)))::m) w→E A (row (B .u8) 5 1 q (xs++aT (iS v))::m) w:=fun q w=>GL q w (be 8 (m1 v.aU)) (by simp[iS,h]);clear GL gY;generalize m1 v.aU=n at aL ZS;refine hY (fun p w=>∃ (D:Nat) (gJ:List UInt8),D≤8∧p.2=56-8*(D:Int)∧gJ.length=D∧be 8 n=gJ++be (8-D) n∧E A (row (B .u8) 5 1 p.1 (xs++aT [UInt8.ofNat v.Kind.toNat]++aT gJ)::aH l (hv.cells v) 197::bT) w) (fun p=>(p.2+8).toNat)
     ⟨0,[],by omega,by omega,rfl,rfl,by simpa[aT] using H⟩ ?_
    clear H;rintro⟨q,i⟩ w ⟨D,gJ,bR,ax,arZ,he,H⟩ aa ca;simp only at ax H;subst ax;unfold ML;split
    ·rename_i U;have U:D≤7:=by simp at U; omega
     refine sq (by rw[lw]; omega) ?_;have g9:min (IntKind.u64.wrap (56-8*(D:Int))).toNat IntKind.u64.bits=8*(7-D):=by
      have:IntKind.u64.bits=64:=rfl;rw[lw,this]; omega
     have cY:(2:Nat)^(8*(7-D))=256^(7-D):=by rw[Nat.pow_mul]
     have aR:IntKind.u8.wrap (Int.fdiv (n:Int) (2^(min (IntKind.u64.wrap (56-8*(D:Int))).toNat IntKind.u64.bits)))=((UInt8.ofNat (n/256^(7-D)%256)).toNat:Int):=by
      rw[g9,Gy,cY,L4]; simp
     rw[aR];refine nu (fun _=>rfl) 0 H rfl (by simp[gv]; omega) fun r w H=>?_;refine ca _ _ ⟨D+1,gJ++[UInt8.ofNat (n/256^(7-D)%256)],by omega,by simp only; rw[qL]; omega,by simp[arZ],?_,?_⟩ (by simp only; rw[qL]; omega)
     ·rw[he,show 8-D=(7-D)+1 from by omega,show 8-(D+1)=7-D from by omega];simp[be]
     ·rw[xl,← List.append_assoc]; exact H
    ·rename_i U;have U:D=8:=by simp at U; omega
     subst U;have j:be 8 n=gJ:=by rw[he]; simp[be]
     rw[← j] at H;have H:=ZS q w H;exact ((H.front 1).drop)
   ·rename_i h;have aJ:¬ v.Kind=3:=by simpa using h
    have bl:v.Kind=4:=by omega
    have al:v.W.length≤1000:=by
     rcases aq with h | h | h | h
     ·exact absurd h.1 I
     ·exact absurd h.1 O
     ·exact absurd h.1 aJ
     ·exact h.2.2.2.2
    refine dp gY fun w H=>?_;refine aj (x:=v.W) 1 H rfl rfl rfl ?_;refine aj (x:=v.W) 1 H rfl rfl rfl ?_;have j:IntKind.u64.wrap (v.W.length:Int)=((v.W.length:Nat):Int):=by rw[lw]; omega
    rw[j];refine ap (Q7 (by omega) z2 0 H rfl) ?_;intro q w H;refine⟨bM qF (H.front 1) rfl rfl,bM qF (H.front 1) rfl rfl,?_⟩;have aL:=B9 (n:=v.W.length) (by omega);refine aj6 0 H rfl (by simp[gv]; omega) fun q w H=>?_;refine⟨bM qF (H.front 1) rfl rfl,?_⟩;rw[List.append_assoc,← xl] at H;have H:=GL q w (num v.W.length++v.W) (by simp[iS,bl]) H;exact ((H.front 1).drop)
theorem K6{s:af}{aX:List fc}(a7:∀ v∈aX,In v)(aL:aX.length≤9000000000)(k:di 5 m hv s aX)(H:E A m w) :
  M Pg 161 [X.enc s] (bw X (B .i64)) w fun r J=>r.2=yT aX∧(yT aX=0→E A (row (B .u8) 5 1 r.1 (aT (hW aX))::m) J)∧(yT aX≠0→r.1=fz)∧E A m J:=by
 have aG:=k.len H;refine agS ?_;unfold Up;rw[aG];split
 ·rename_i U;have U:1000<aX.length:=by simp at U; omega
  have j:yT aX=20:=if_pos U;refine⟨j.symm,?_,fun _=>rfl,H⟩;intro h; rw[j] at h; cases h
 ·rename_i U;have U:aX.length≤1000:=by simp at U; omega
  have j:yT aX=bad aX:=if_neg (by omega);rw[j];refine hY (fun p w=>0≤p.2∧p.2≤aX.length∧(∀ v∈aX.take p.2.toNat,jW v=0)∧E A (row (B .u8) 5 1 p.1 (aT (hW (aX.take p.2.toNat)))::m) w) (fun p=>(aX.length-p.2).toNat)
   ⟨Int.le_refl 0,by simp only; omega,by simp,kN (B .u8) 5 1 H⟩ ?_
  clear H;rintro⟨l,i⟩ w ⟨ah,I,dr,H⟩ aa ca;simp only at ah I dr H;unfold Mz;rw[aG];split
  ·rename_i ax;have ax:i<aX.length:=by simpa using ax
   have F:aX[i.toNat]?=some aX[i.toNat]:=List.getElem?_eq_getElem (by omega);have hm:aX[i.toNat]∈aX:=List.getElem_mem _;have aS:aX.take (i.toNat+1)=aX.take i.toNat++[aX[i.toNat]]:=by rw[List.take_succ_eq_append_getElem (by omega)]
   have ag:aX=aX.take i.toNat++aX[i.toNat]::aX.drop (i.toNat+1):=by
    conv=>lhs; rw[← List.take_append_drop i.toNat aX]
    rw[List.drop_eq_getElem_cons (by omega)]
   have ZE:jW aX[i.toNat]≠0→bad aX=jW aX[i.toNat]:=by
    intro h;have BD:=congrArg bad ag;rw[BD,Gc dr];simp only[bad];exact if_pos h
   generalize aX[i.toNat]=v at F hm aS ZE;have apa:=Oy (aX:=aX.take i.toNat) (fun x F=>a7 x (List.mem_of_mem_take F)) dr;rw[List.length_take] at apa;obtain⟨a,Y⟩:=k.tail.iw (i:=i) H ah ax;refine aP a Y ?_;refine aP v (k.tail.rd Y F H) ?_;refine bP H fun zB w H=>?_;refine c5 (x:=tD) (S:=v) QL 0 H rfl fun w H=>?_;refine eh (x:=v) 0 H rfl ?_;refine ap (aIj H) ?_;rintro r w ⟨rfl,H⟩;split
   ·rename_i dT;have dT:jW v≠0:=by simpa using dT
    have ao:=ZE dT;exact⟨ao.symm,fun h=>absurd (ao▸h) dT,fun _=>rfl,H.drop.drop⟩
   ·rename_i dT;have aK:jW v=0:=by simpa using dT
    refine eh (x:=v) 0 H rfl ?_;refine ap (Ch (a7 v hm) aK (by rw[gv]; omega) 1 H rfl) ?_;intro q w H;have aR:IntKind.i64.wrap (i+1)=i+1:=wrap_i64 (by omega) (by omega);rw[aR];have a9:(i+1).toNat=i.toNat+1:=by omega
    refine ca _ _ ⟨by simp only; omega,by simp only; omega,?_,?_⟩ (by simp only; omega)
    ·simp only[a9,aS];intro x F;rcases List.mem_append.1 F with F | F
     ·exact dr x F
     ·rw[List.mem_singleton.1 F]; exact aK
    ·simp only[a9,aS];rw[amv,xl];have df:hW [v]=iS v:=by simp[hW]
     rw[df];exact ((H.front 1).drop)
  ·rename_i ax;have ax:i=aX.length:=by simp at ax; omega
   subst ax;have df:aX.take ((aX.length:Int)).toNat=aX:=by simp
   rw[df] at dr H;have ao:=N_ dr;exact⟨ao.symm,fun _=>H,fun h=>absurd ao h,H.drop⟩
end
section
variable {Z:Type} {T:bu Z} {A w:World} {m bT:List bC}
theorem ajz{ar:Nat}{s r:af}{xs:List Z}{i h y:Int}(al:∀ x,(T.cells x).length=ar)(aG:Sub s ar i h y r)(cD:h≤xs.length)(ll:∀ a,s.a=some a→xs≠[]→a.spot=none)(k:k_ T w s xs):k_ T w r ((xs.take h.toNat).drop i.toNat):=by
 obtain⟨ah,I,O,aJ,rfl⟩:=aG;obtain⟨dn,dY⟩:=k;have g3:((xs.take h.toNat).drop i.toNat).length=h.toNat-i.toNat:=by rw[List.length_drop,List.length_take]; omega
 refine⟨g3,?_⟩;simp only;obtain⟨a,n,c⟩:=s;cases a with
 |none=>
  have:xs=[]:=dY;subst this;split<;>simp[FZ]
 |some a=>
  split
  ·rename_i j;have:(xs.take h.toNat).drop i.toNat=[]:=List.eq_nil_of_length_eq_zero (by rw[g3]; omega);rw[this];intro D v aK; simp at aK
  ·intro D v aK;have dT:xs≠[]:=by
    rintro rfl;simp at aK
   have a9:xs.flatMap T.cells=(xs.take i.toNat).flatMap T.cells++(((xs.take h.toNat).drop i.toNat).flatMap T.cells++(xs.drop h.toNat).flatMap T.cells):=by
    have df:xs.take i.toNat=(xs.take h.toNat).take i.toNat:=by rw[List.take_take,Nat.min_eq_left (by omega)]
    rw[df,← List.append_assoc,← List.flatMap_append,List.take_append_drop,← List.flatMap_append,List.take_append_drop]
   have m0:((xs.take i.toNat).flatMap T.cells).length=i.toNat*ar:=by rw[nV al,List.length_take]; congr 1; omega
   rw[add_add (ll a rfl dT)];refine (dY:oT w a _) (i.toNat*ar+D) v ?_;rw[a9,← m0,List.getElem?_append_right (by omega),Nat.add_sub_cancel_left];rw[List.getElem?_append_left (List.getElem?_eq_some_iff.1 aK).1]; exact aK
theorem _root_.Go.Proofs.YthaobmpdjcoheaaGreat.bf.di.spot{ar:Nat}{s:af}{xs:List Z}(k:di ar m T s xs)(H:E A m w):∀ a,s.a=some a→xs≠[]→a.spot=none:=by
 intro a Y dT;have al:0<xs.length:=by
  cases xs with
  |nil=>exact absurd rfl dT
  |cons=>simp
 obtain⟨l,ao,ll,_⟩:=(k A [] w H).2.2 0 (by omega) (by omega);obtain⟨c,U,_,_,rfl⟩:=ao;rw[Y] at U; injection U with U; subst U
 have j:(0:Int).toNat*ar=0:=by simp
 rw[j] at ll;simpa[Addr.add] using ll
theorem _root_.Go.Proofs.YthaobmpdjcoheaaGreat.bf.di.sub{ar:Nat}{s r:af}{xs:List Z}{i h y:Int}(k:di ar m T s xs)(al:∀ x,(T.cells x).length=ar)(aG:Sub s ar i h y r)(cD:h≤xs.length)(H:E A m w):k_ T w r ((xs.take h.toNat).drop i.toNat):=
 ajz al aG cD (k.spot H) (k.Ct H)
end
def nb(l:Nat)(s:af)(at_:Nat):bC:=aH l [X.enc s,.int .i64 at_] 257
def xS(j:Int):er:=er.mk 259 (jO.enc ⟨j⟩)
section
variable {A w:World} {m bT:List bC} {l:Nat} {s:af} {av:List UInt8}
theorem drop_cons{rest:List UInt8}{a:Nat}{c:UInt8}(h:av.drop a=c::rest):a<av.length∧av[a]?=some c∧av.drop (a+1)=rest:=by
 have al:a<av.length:=by
  rcases Nat.lt_or_ge a av.length with fr | fr
  ·exact fr
  ·rw[List.drop_eq_nil_of_le fr] at h; cases h
 refine⟨al,?_,?_⟩
 ·have:=congrArg (fun m=>m[0]?) h;simpa using this
 ·have:=congrArg (List.drop 1) h;simpa[List.drop_drop] using this
theorem Hz{et:er→World→Prop}{aa:Int→World→Prop}{a:Nat}{rest:List UInt8}(aL:av.length≤9223372036854775806)(k:di 1 m (B .u8) s (aT av))(Y:a≤av.length)(ag:av.drop a=rest)(H:E A (nb l s a::m) w)
  (aE:rest=[]→∀ J,E A (nb l s a::m) J→et (xS 22) J)
  (aq:∀ c r J,rest=c::r→a+1≤av.length→av.drop (a+1)=r→E A (nb l s (a+1)::m) J→aa (c.toNat:Int) J) :
  nS Pg 186 [.pointer (some ⟨l,0,none⟩)] (B .u8) w et aa:=by
 have aG:=k.tail.len H;rw[gv] at aG;refine ahe ?_;unfold MD;refine dp H fun w H=>?_;refine cb rfl ?_;refine aj (x:=(a:Int)) 0 H rfl rfl rfl ?_;refine aj (x:=s) 0 H rfl rfl rfl ?_;rw[aG];cases rest with
 |nil=>
  have al:av.length≤a:=by
   have:=congrArg List.length ag;simp at this; omega
  rw[if_pos (by simp; omega)];exact aE rfl _ H
 |cons c r=>
  obtain⟨I,O,aJ⟩:=drop_cons ag;rw[if_neg (by simp; omega)];refine aj (x:=(a:Int)) 0 H rfl rfl rfl ?_;have aR:IntKind.i64.wrap ((a:Int)+1)=((a+1:Nat):Int):=by rw[qL]; omega
  rw[aR];refine dD (x:=((a+1:Nat):Int)) 0 H rfl rfl (Nat.le_of_ble_eq_true rfl) fun w H=>?_;refine dp H fun w H=>?_;refine aj (x:=s) 0 H rfl rfl rfl ?_;refine aj (x:=((a+1:Nat):Int)) 0 H rfl rfl rfl ?_;have a9:IntKind.i64.wrap (((a+1:Nat):Int)-1)=(a:Int):=by rw[qL]; omega
  rw[a9];obtain⟨x,F⟩:=k.tail.iw (i:=(a:Int)) H (by omega) (by rw[gv]; omega);refine aP x F ?_;refine aP (c.toNat:Int) (k.tail.rd F (by simp[aT,O]) H) ?_;exact aq c r _ rfl (by omega) aJ H
theorem Q8{et:er→World→Prop}{aa:Int→World→Prop}{a:Nat}{rest:List UInt8}(aL:av.length≤9223372036854775806)(k:di 1 m (B .u8) s (aT av))(Y:a≤av.length)(ag:av.drop a=rest)(H:E A (nb l s a::m) w)
  (aE:∀ j cl J,rdNum rest 0 0=.error j→E A (nb l s cl::m) J→et (xS j) J)
  (aq:∀ n r cl J,rdNum rest 0 0=.ok (n,r)→cl≤av.length→av.drop cl=r→E A (nb l s cl::m) J→aa ((n:Nat):Int) J) :
  nS Pg 187 [.pointer (some ⟨l,0,none⟩)] (B .u64) w et aa:=by
 refine ahf ?_;unfold ME;refine hY (fun p w=>∃ (D acc cl:Nat) (r:List UInt8),D≤9∧p.1=(acc:Int)∧p.2=((7*D:Nat):Int)∧acc<2^(7*D)∧cl≤av.length∧av.drop cl=r∧rdNum rest 0 0=rdNum r D acc∧E A (nb l s cl::m) w) (fun p=>(70-p.2).toNat)
  ⟨0,0,a,rest,by omega,rfl,rfl,by simp,Y,ag,rfl,H⟩ ?_
 clear H Y ag;rintro⟨y,az⟩ w ⟨D,acc,cl,r,bR,hm,ao,Pe,Y,ag,he,H⟩ K' ca;simp only at hm ao;subst hm; subst ao;unfold MF;refine Hz aL k Y ag H ?_ ?_
 ·rintro rfl w H;exact aE 22 _ _ (by rw[he]; rfl) H
 ·rintro c oE w rfl DS BC H;have U:c.toNat<256:=c.toNat_lt;simp only[rdNum] at he;have ZK:(((((7*D:Nat):Int)==(63:Int))&&(decide ((c.toNat:Int)>(1:Int))))||((decide (((7*D:Nat):Int)>(0:Int)))&&((c.toNat:Int)==(0:Int))))=true↔(D=9∧1<c.toNat)∨(0<D∧c.toNat=0):=by
   simp only[Bool.or_eq_true,Bool.and_eq_true,beq_iff_eq,decide_eq_true_eq];omega
  by_cases a8:(D=9∧1<c.toNat)∨(0<D∧c.toNat=0)
  ·rw[if_pos (ZK.2 a8)];rw[if_pos a8] at he;exact aE 23 _ _ he H
  ·rw[if_neg (fun h=>a8 (ZK.1 h))];rw[if_neg a8] at he;refine sq (by omega) ?_;have cY:(128:Nat)^D=2^(7*D):=by rw[Nat.pow_mul]
   have g9:min (((7*D:Nat):Int)).toNat IntKind.u64.bits=7*D:=by
    have:IntKind.u64.bits=64:=rfl;rw[this]; omega
   have sW:c.toNat%128*2^(7*D)<18446744073709551616:=by
    rw[← cY];rcases acp bR with j | j | j | j | j | j | j | j | j | ⟨Gl,j⟩<;>rw[j]<;>omega
   have aR:IntKind.u64.wrap (IntKind.u64.wrap (bits .and .u8 (c.toNat:Int) 127)*2^(min (((7*D:Nat):Int)).toNat IntKind.u64.bits))=((c.toNat%128*2^(7*D):Nat):Int):=by
    rw[g9,aj4 (by omega) (by omega)];have j:IntKind.u64.wrap ((c.toNat:Int)%128)=((c.toNat%128:Nat):Int):=by rw[lw]; omega
    rw[j];have a9:((c.toNat%128:Nat):Int)*2^(7*D)=((c.toNat%128*2^(7*D):Nat):Int):=by push_cast; rfl
    rw[a9,lw];generalize c.toNat%128*2^(7*D)=q at sW;omega
   have aof:acc<18446744073709551616:=Nat.lt_of_lt_of_le Pe (by
    have:=Nat.pow_le_pow_right (n:=2) (by omega) (show 7*D≤64 by omega)
    simpa using this)
   have a9:bits .or .u64 (acc:Int) ((c.toNat%128*2^(7*D):Nat):Int)=((acc+c.toNat%128*128^D:Nat):Int):=by
    rw[aD1 .u64 64 (by decide) kR (7*D) _ _ (by omega) (by exact_mod_cast Pe) (by exact_mod_cast aof) (by omega) ?_ (by exact_mod_cast sW)]
    ·rw[cY]; push_cast; rfl
    ·have:c.toNat%128*2^(7*D)%2^(7*D)=0:=Nat.mul_mod_left _ _
     exact_mod_cast this
   rw[aR,a9];by_cases dC:c.toNat<128
   ·rw[if_pos (by simp; omega)];rw[if_pos dC] at he;exact aq _ _ _ _ he DS BC H
   ·rw[if_neg (by simp; omega)];rw[if_neg dC] at he;have tP:D≤8:=by omega
    refine ca _ _ ⟨D+1,acc+c.toNat%128*128^D,cl+1,oE,by omega,rfl,by simp only; rw[lw]; omega,?_,DS,BC,he,H⟩ (by simp only; rw[lw]; omega);rw[cY,show 7*(D+1)=7*D+7 from by omega,Nat.pow_add];have:c.toNat%128*2^(7*D)≤127*2^(7*D):=Nat.mul_le_mul_right _ (by omega);have Ot:(2:Nat)^7=128:=rfl;rw[Ot];omega
def Cs(rest:List UInt8):Except Int (Nat×List UInt8):=match oF 8 0 rest with
 |.error j=>.error j
 |.ok (n,r)=>if m1 n≠n then .error 25 else .ok (n,r)
theorem anV{et:er→World→Prop}{aa:Nat→World→Prop}{a:Nat}{rest:List UInt8}(aL:av.length≤9223372036854775806)(k:di 1 m (B .u8) s (aT av))(Y:a≤av.length)(ag:av.drop a=rest)(H:E A (nb l s a::m) w)
  (aE:∀ j cl J,Cs rest=.error j→E A (nb l s cl::m) J→et (xS j) J)
  (aq:∀ n r cl J,Cs rest=.ok (n,r)→cl≤av.length→av.drop cl=r→E A (nb l s cl::m) J→aa n J) :
  nS Pg 188 [.pointer (some ⟨l,0,none⟩)] gP w et aa:=by
 refine ahg ?_;unfold MG;refine hY (fun p w=>∃ (D acc cl:Nat) (r:List UInt8),D≤8∧p.1=(acc:Int)∧p.2=(D:Int)∧acc<256^D∧cl≤av.length∧av.drop cl=r∧oF 8 0 rest=oF (8-D) acc r∧E A (nb l s cl::m) w) (fun p=>(8-p.2).toNat)
  ⟨0,0,a,rest,by omega,rfl,rfl,by simp,Y,ag,rfl,H⟩ ?_
 clear H Y ag;rintro⟨y,t⟩ w ⟨D,acc,cl,r,bR,hm,ao,Pe,Y,ag,he,H⟩ K' ca;simp only at hm ao;subst hm; subst ao;unfold MH;split
 ·rename_i U;have U:D<8:=by simp at U; omega
  rw[show 8-D=(7-D)+1 from by omega] at he;have aJ7:256^(D+1)≤18446744073709551616:=by
   have:=Nat.pow_le_pow_right (n:=256) (by omega) (show D+1≤8 by omega);simpa using this
  have aqB:256^(D+1)=256^D*256:=Nat.pow_succ ..;have F:acc*256+256≤256^(D+1):=by rw[aqB]; omega
  refine sq (by omega) ?_;have aR:IntKind.u64.wrap ((acc:Int)*2^(min ((8:Int)).toNat IntKind.u64.bits))=((acc*256:Nat):Int):=by
   have g9:min ((8:Int)).toNat IntKind.u64.bits=8:=rfl;rw[g9,lw]; omega
  rw[aR];refine Hz aL k Y ag H ?_ ?_
  ·rintro rfl w H;exact aE 22 _ _ (by unfold Cs; rw[he]; rfl) H
  ·rintro c oE w rfl DS BC H;have ao3:c.toNat<256:=c.toNat_lt;have a9:IntKind.u64.wrap (c.toNat:Int)=(c.toNat:Int):=by rw[lw]; omega
   have df:bits .or .u64 ((acc*256:Nat):Int) (c.toNat:Int)=((acc*256+c.toNat:Nat):Int):=by
    rw[bits_join .u64 64 (by decide) kR 8 _ _ (by omega) (by omega) (by omega) (by omega) (by omega) (by omega)];omega
   rw[a9,df];simp only[oF] at he;refine ca _ _ ⟨D+1,acc*256+c.toNat,cl+1,oE,by omega,rfl,by simp only; rw[qL]; omega,by omega,DS,BC,?_,H⟩ (by simp only; rw[qL]; omega);rw[he,show 8-(D+1)=7-D from by omega]
 ·rename_i U;have U:D=8:=by simp at U; omega
  subst U;simp only[Nat.sub_self,oF] at he;have hH:Int.toNat (acc:Int)=acc:=by omega
  rw[hH];refine ap (XE H) ?_;rintro q w ⟨rfl,H⟩;have ik:Cs rest=if m1 acc≠acc then .error 25 else .ok (acc,r):=by unfold Cs; rw[he]
  by_cases dT:m1 acc≠acc
  ·rw[if_pos (by simp; omega)];rw[if_pos dT] at ik;exact aE 25 _ _ ik H
  ·rw[if_neg (by simp at dT ⊢; omega)];rw[if_neg dT] at ik;exact aq _ _ _ _ ik Y ag H
def Cu(rest:List UInt8):Except Int (List UInt8×List UInt8):=match rdNum rest 0 0 with
 |.error j=>.error j
 |.ok (n,r)=>if 1000<n then .error 24 else if r.length<n then .error 22 else .ok (r.take n,r.drop n)
theorem aH0{et:er→World→Prop}{aa:List UInt8→World→Prop}{a:Nat}{rest:List UInt8}(l_:s.len≤s.cap)(aL:av.length≤9223372036854775806)(k:di 1 m (B .u8) s (aT av))(Y:a≤av.length)(ag:av.drop a=rest)(H:E A (nb l s a::m) w)
  (aE:∀ j cl J,Cu rest=.error j→E A (nb l s cl::m) J→et (xS j) J)
  (aq:∀ n r cl J,Cu rest=.ok (n,r)→cl≤av.length→av.drop cl=r→E A (nb l s cl::m) J→aa n J) :
  nS Pg 189 [.pointer (some ⟨l,0,none⟩)] qF w et aa:=by
 have aG:=k.tail.len H;rw[gv] at aG;refine ahh ?_;unfold MI;refine Q8 aL k Y ag H ?_ ?_
 ·intro j cl w he H;exact aE j cl w (by unfold Cu; rw[he]) H
 ·intro n r cl w he Y ag H;have rY:Cu rest=if 1000<n then .error 24 else if r.length<n then .error 22 else .ok (r.take n,r.drop n):=by unfold Cu; rw[he]
  by_cases I:1000<n
  ·rw[if_pos (by simp; omega)];rw[if_pos I] at rY;exact aE 24 _ _ rY H
  ·rw[if_neg (by simp; omega)];rw[if_neg I] at rY;have tV:r.length=av.length-cl:=by rw[← ag,List.length_drop]
   refine dp H fun w H=>?_;refine cb rfl ?_;refine aj (x:=s) 0 H rfl rfl rfl ?_;refine aj (x:=(cl:Int)) 0 H rfl rfl rfl ?_;rw[aG];have aR:IntKind.u64.wrap (IntKind.i64.wrap ((av.length:Int)-(cl:Int)))=((r.length:Nat):Int):=by
    rw[wrap_i64 (by omega) (by omega),kR _ (by omega) (by omega)]; omega
   rw[aR];by_cases O:r.length<n
   ·rw[if_pos (by simp; omega)];rw[if_pos O] at rY;exact aE 22 _ _ rY H
   ·rw[if_neg (by simp; omega)];rw[if_neg O] at rY;refine aj (x:=(cl:Int)) 0 H rfl rfl rfl ?_;have ws:IntKind.i64.wrap (n:Int)=(n:Int):=wrap_i64 (by omega) (by omega);rw[ws];have a9:IntKind.i64.wrap ((cl:Int)+(n:Int))=((cl+n:Nat):Int):=by rw[wrap_i64 (by omega) (by omega)]; omega
    rw[a9];refine dD (x:=((cl+n:Nat):Int)) 0 H rfl rfl (Nat.le_of_ble_eq_true rfl) fun w H=>?_;refine dp H fun w H=>?_;refine aj (x:=s) 0 H rfl rfl rfl ?_;refine aj (x:=((cl+n:Nat):Int)) 0 H rfl rfl rfl ?_;refine aj (x:=((cl+n:Nat):Int)) 0 H rfl rfl rfl ?_;have df:IntKind.i64.wrap (((cl+n:Nat):Int)-(n:Int))=(cl:Int):=by rw[wrap_i64 (by omega) (by omega)]; omega
    rw[df];refine ob (by omega) (by omega) (by omega) (by omega) fun q a8=>?_;have ab:=k.tail.sub (fun _=>rfl) a8 (by rw[gv]; omega) H;have ao:((aT av).take (((cl+n:Nat):Int)).toNat).drop ((cl:Int)).toNat=aT (r.take n):=by
     simp only[Int.toNat_natCast];rw[← ag];unfold aT;rw[← List.map_take,← List.map_drop,List.take_drop,Nat.add_comm]
    rw[ao] at ab;refine akt (r:=r.take n) ab ?_;exact aq _ _ _ _ rY (by omega) (by rw[← ag,List.drop_drop]) H
theorem aJk{n:Nat}(h:n<18446744073709551616) :
  bits .xor .i64 (IntKind.i64.wrap (Int.fdiv (n:Int) (2^(min ((1:Int)).toNat IntKind.u64.bits)))) (IntKind.i64.wrap (0-(IntKind.i64.wrap (bits .and .u64 (n:Int) (1:Int)))))=uB n:=by
 have g9:min ((1:Int)).toNat IntKind.u64.bits=1:=rfl;rw[g9,Gy,aj3 (by omega) (by omega)];have aR:IntKind.i64.wrap ((n/2^1:Nat):Int)=((n/2:Nat):Int):=by rw[qL]; omega
 rw[aR];unfold uB;by_cases aL:n%2=1
 ·rw[if_pos aL];have a9:IntKind.i64.wrap (0-IntKind.i64.wrap ((n:Int)%2))=-1:=by rw[qL,qL]; omega
  rw[a9,aI1 (by omega) (by omega)]
 ·rw[if_neg aL];have a9:IntKind.i64.wrap (0-IntKind.i64.wrap ((n:Int)%2))=0:=by rw[qL,qL]; omega
  rw[a9,aIZ (by omega) (by omega)]
theorem aIk{et:er→World→Prop}{aa:fc→World→Prop}{a:Nat}{rest:List UInt8}(l_:s.len≤s.cap)(aL:av.length≤9223372036854775806)(k:di 1 m (B .u8) s (aT av))(Y:a≤av.length)(ag:av.drop a=rest)(H:E A (nb l s a::m) w)
  (aE:∀ j cl J,ih rest=.error j→E A (nb l s cl::m) J→et (xS j) J)
  (aq:∀ v r cl J,ih rest=.ok (v,r)→cl≤av.length→av.drop cl=r→E A (nb l s cl::m) J→aa v J) :
  nS Pg 147 [.pointer (some ⟨l,0,none⟩)] hv w et aa:=by
 refine agG ?_;unfold Mt;refine bP H fun eb w H=>?_;refine Hz aL k.tail Y ag (H.front 1) ?_ ?_
 ·rintro rfl w H;exact aE 22 a w rfl ((H.front 1).drop)
 ·rintro c r w rfl Y ag H;have ao3:c.toNat<256:=c.toNat_lt;have hH:IntKind.i64.wrap (c.toNat:Int)=(c.toNat:Int):=by rw[qL]; omega
  rw[hH];refine bP H fun uP w H=>?_;refine c5 (x:=tD) (S:=(⟨(c.toNat:Int),0,0,0,[]⟩:fc)) QL 0 H rfl fun w H=>?_;refine aj (x:=(c.toNat:Int)) 0 H rfl rfl rfl ?_;have g4:∀ (v:fc) (cl:Nat) (w:World),(∀ J,E A (nb l s cl::m) J→aa v J)→E A (aH uP (hv.cells v) 197::nb l s cl::aH eb (hv.cells tD) 197::m) w→zi ⟨eb,0,none⟩ ⟨uP,0,none⟩ w aa et:=by
   intro v cl w aK H;unfold zi;refine eh (x:=v) 0 H rfl ?_;refine c5 (x:=tD) (S:=v) QL 2 H rfl fun w H=>?_;refine eh (x:=v) 0 H rfl ?_
   exact aK _ ((H.front 2).imp fun _ _ ⟨I,O,aJ,bl,dq,iu,rX⟩=>⟨I,O,aJ,bl,dq,iu,iA.mono (cv.le_refl _) (cv.le_refl _) (by
    obtain⟨_,_,_,_,cU,_,bA,eR,_,_,yA,_,g⟩:=rX
    exact iA.mono (cv.le_refl _) (cv.le_trans yA cU) g)⟩)
  have tZ:di 1 (aH uP (hv.cells (⟨(c.toNat:Int),0,0,0,[]⟩:fc)) 197::aH eb (hv.cells tD) 197::m) (B .u8) s (aT av):=k.tail.tail;have H:=H.front 1;have GK:∀ j cl J,ih (c::r)=.error j→E A (nb l s cl::aH uP (hv.cells (⟨(c.toNat:Int),0,0,0,[]⟩:fc)) 197::aH eb (hv.cells tD) 197::m) J→et (xS j) J:=by
   intro j cl J he H;exact aE j cl J he (((((H.front 1).drop).front 1).drop))
  by_cases I:c.toNat=1
  ·rw[if_pos (by simp[I])];refine Q8 aL tZ Y ag H ?_ ?_
   ·intro j cl w he H;exact GK j cl w (by simp only[ih,I,if_true,he]) H
   ·intro n oE cl w he Y ag H;refine dD (x:=(n:Int)) 1 H rfl rfl (Nat.le_of_ble_eq_true rfl) fun w H=>?_;refine g4 ⟨(c.toNat:Int),n,0,0,[]⟩ cl w (fun J H=>aq _ oE cl J ?_ Y ag H) H;simp only[ih,I,if_true,he]; rfl
  ·rw[if_neg (by simp; omega)];by_cases O:c.toNat=2
   ·rw[if_pos (by simp[O])];refine Q8 aL tZ Y ag H ?_ ?_
    ·intro j cl w he H;exact GK j cl w (by simp only[ih,O,if_true,he,show ¬ (2:Nat)=1 from by decide,if_false]) H
    ·intro n oE cl w he Y ag H;obtain⟨dC,_⟩:=Ln he;refine sq (by omega) ?_;rw[aJk dC];refine dD (x:=uB n) 1 H rfl rfl (Nat.le_of_ble_eq_true rfl) fun w H=>?_;refine g4 ⟨(c.toNat:Int),0,uB n,0,[]⟩ cl w (fun J H=>aq _ oE cl J ?_ Y ag H) H;simp only[ih,O,if_true,he,show ¬ (2:Nat)=1 from by decide,if_false]; rfl
   ·rw[if_neg (by simp; omega)];by_cases aJ:c.toNat=3
    ·rw[if_pos (by simp[aJ])];have ik:ih (c::r)=match Cs r with | .error j=>.error j | .ok (n,q)=>.ok (⟨3,0,0,n,[]⟩,q):=by
      simp only[ih,aJ,if_true,show ¬ (3:Nat)=1 from by decide,show ¬ (3:Nat)=2 from by decide,if_false,Cs];cases oF 8 0 r with
      |error j=>rfl
      |ok p=>obtain⟨n,q⟩:=p; simp only; split<;>rfl
     refine anV aL tZ Y ag H ?_ ?_
     ·intro j cl w he H;exact GK j cl w (by rw[ik,he]) H
     ·intro n oE cl w he Y ag H;refine dD (T:=gP) (x:=n) 1 H rfl rfl (Nat.le_of_ble_eq_true rfl) fun w H=>?_;refine g4 ⟨(c.toNat:Int),0,0,n,[]⟩ cl w (fun J H=>aq _ oE cl J ?_ Y ag H) H;rw[ik,he,aJ]; rfl
    ·rw[if_neg (by simp; omega)];by_cases bl:c.toNat=4
     ·rw[if_pos (by simp[bl])];have ik:ih (c::r)=match Cu r with | .error j=>.error j | .ok (n,q)=>.ok (⟨4,0,0,0,n⟩,q):=by
       simp only[ih,bl,if_true,show ¬ (4:Nat)=1 from by decide,show ¬ (4:Nat)=2 from by decide,show ¬ (4:Nat)=3 from by decide,if_false,Cu];cases rdNum r 0 0 with
       |error j=>rfl
       |ok p=>
        obtain⟨n,q⟩:=p;simp only;split
        ·rfl
        ·split<;>rfl
      refine aH0 l_ aL tZ Y ag H ?_ ?_
      ·intro j cl w he H;exact GK j cl w (by rw[ik,he]) H
      ·intro n oE cl w he Y ag H;refine dD (T:=qF) (x:=n) 1 H rfl rfl (Nat.le_of_ble_eq_true rfl) fun w H=>?_;refine g4 ⟨(c.toNat:Int),0,0,0,n⟩ cl w (fun J H=>aq _ oE cl J ?_ Y ag H) H;rw[ik,he,bl]; rfl
     ·rw[if_neg (by simp; omega)];exact GK 21 _ _ (by simp only[ih,I,O,aJ,bl,if_false]) H
end
def su:Nat→List UInt8→List fc→Nat→List fc×Nat×Int
 |0,_,m,_=>(m,0,0)
 |_+1,[],m,_=>(m,0,0)
 |f+1,c::av,m,a=>if m.length=1000 then ([],a,20) else match ih (c::av) with
  |.error j=>([],a,j)
  |.ok (v,r)=>su f r (m++[v]) (a+(av.length+1-r.length))
def jL(av:List UInt8):List fc×Nat×Int:=su (av.length+1) av [] 0
theorem X4{av r:List UInt8}{v:fc}(h:ih av=.ok (v,r)):r.length<av.length:=by
 obtain⟨_,_,_,rfl⟩:=X5 h;simp only[iS,List.length_append,List.length_cons];omega
section
variable {A w:World} {m bT:List bC} {s:af} {av:List UInt8}
theorem akZ{aY a6 bY eN:Nat}{q:af}{uh hH:Int}{a:Nat}{j:Int}{e:af×Int×Int→World→Prop}(H:E A (aH eN [.int .i64 a] 3::aH aY [X.enc q] 190::aH a6 [.int .i64 uh] 3::aH bY [.int .i64 hH] 43::m) w)
  (aq:∀ J,E A m J→e (fz,(a:Int),j) J):AU ⟨eN,0,none⟩ ⟨aY,0,none⟩ ⟨a6,0,none⟩ ⟨bY,0,none⟩ e (xS j) w:=by
 unfold AU;refine aby (Ua (aF6 (xS j)) ?_) rfl;unfold ID;rw[if_pos (by rfl)];refine aP (⟨j⟩,true) (.inl ⟨⟨j⟩,rfl,rfl⟩) ?_;refine bP H fun l w H=>?_;refine c5 (x:=F2) (S:=(⟨j⟩:j3)) (fun _=>rfl) 0 H rfl fun w H=>?_;rw[if_neg (by simp)];refine dp H fun w H=>?_;refine aj (x:=(a:Int)) 1 H rfl rfl rfl ?_;refine aj (x:=j) 0 H rfl rfl rfl ?_;refine dD (x:=fz) 2 H rfl rfl (Nat.le_of_ble_eq_true rfl) fun w H=>?_;refine⟨bM (B .i64) (H.front 1) rfl rfl,?_⟩;refine dD (x:=(a:Int)) 3 H rfl rfl (Nat.le_of_ble_eq_true rfl) fun w H=>?_;refine⟨bM (B .i64) (H.front 2) rfl rfl,?_⟩;refine dD (x:=j) 4 H rfl rfl (Nat.le_of_ble_eq_true rfl) fun w H=>?_;refine aj (x:=fz) 2 H rfl rfl rfl ?_;refine aj (x:=(a:Int)) 1 H rfl rfl rfl ?_;refine aj (x:=j) 0 H rfl rfl rfl ?_;exact aq _ H.drop.drop.drop.drop.drop
theorem aAD{args:List Value}{a l c d:Addr}{aa:World→Prop}(aq:aa w):yD Pg 146 [.pointer (some a),.pointer (some l),.pointer (some c),.pointer (some d)] .returning w aa:=by
 refine aby (Ua aF7 ?_) rfl;unfold ID;rw[if_neg (by simp[er.isNil])];exact aq
theorem afg(l_:s.len≤s.cap)(aL:av.length≤9223372036854775806)(k:di 1 m (B .u8) s (aT av))(H:E A m w) :
  M Pg 93 [X.enc s] (mm X (B .i64) (B .i64)) w fun r J=>r.2.1=((jL av).2.1:Int)∧r.2.2=(jL av).2.2∧E A (row hv 197 5 r.1 (jL av).1::m) J:=by
 have aG:=k.len H;rw[gv] at aG;refine ajk ?_;unfold Nv;refine bP H fun aY w H=>?_;refine bP H fun a6 w H=>?_;refine bP H fun bY w H=>?_;refine bP H fun cP w H=>?_;refine bP H fun eN w H=>?_;refine dD (x:=(0:Int)) 0 H rfl rfl (Nat.le_of_ble_eq_true rfl) fun w H=>?_;have H:=kN hv 197 5 H
 refine Ej (fun n _ w=>∃ (f a x:Nat) (q:af) (aX:List fc),n=av.length-a∧a≤av.length∧av.length-a<f∧aX.length≤1000∧jL av=su f (av.drop a) aX a ∧
  E A (nb cP s a::aH eN [.int .i64 x] 3::aH aY [X.enc q] 190::row hv 197 5 q aX::aH a6 [.int .i64 0] 3::aH bY [.int .i64 0] 43::m) w) av.length
  ⟨av.length+1,0,0,fz,[],by omega,by omega,by omega,by simp,rfl,H.ord [2,1,5,0,4,3]⟩ ?_
 clear H;rintro n ⟨⟩ w ⟨f,a,x,q,aX,rfl,Y,am,aK,he,H⟩ aa ca;unfold Nw;refine aj (x:=(a:Int)) 0 H rfl rfl rfl ?_;rw[aG];obtain⟨f,rfl⟩:∃ g,f=g+1:=⟨f-1,by omega⟩
 by_cases dC:a<av.length
 ·rw[if_pos (by simp; omega)];obtain⟨c,r,ag⟩:∃ c r,av.drop a=c::r:=by
   cases h:av.drop a with
   |nil=>have:=congrArg List.length h; simp at this; omega
   |cons c r=>exact⟨c,r,rfl⟩
  have tV:r.length+1=av.length-a:=by
   have:=congrArg List.length ag;simp at this; omega
  rw[ag] at he;simp only[su] at he;refine aj (x:=(a:Int)) 0 H rfl rfl rfl ?_;refine dD (x:=(a:Int)) 1 H rfl rfl (Nat.le_of_ble_eq_true rfl) fun w H=>?_;have H:=H.front 1;refine aj (x:=q) 2 H rfl rfl rfl ?_;have a8:q.len=aX.length:=gr (H.front 3);have ZG:∀ (j:Int) (cl:Nat) (w:World),jL av=([],a,j)→E A (nb cP s cl::aH eN [.int .i64 a] 3::aH aY [X.enc q] 190::row hv 197 5 q aX::aH a6 [.int .i64 0] 3::aH bY [.int .i64 0] 43::m) w →
    AU ⟨eN,0,none⟩ ⟨aY,0,none⟩ ⟨a6,0,none⟩ ⟨bY,0,none⟩ (fun (r:af×Int×Int) J=>r.2.1=((jL av).2.1:Int)∧r.2.2=(jL av).2.2∧E A (row hv 197 5 r.1 (jL av).1::m) J) (xS j) w:=by
   intro j cl w he H;refine akZ (q:=q) (uh:=0) (hH:=0) (H.ord [0,3]).drop.drop ?_
   ·intro J H;rw[he];exact⟨rfl,rfl,kN hv 197 5 H⟩
  by_cases h1000:aX.length=1000
  ·rw[if_pos (by simp; omega)];rw[if_pos h1000] at he;exact ZG 20 a w he H
  ·rw[if_neg (by simp; omega)];rw[if_neg h1000] at he;refine dp H fun w H=>?_;refine aj (x:=q) 2 H rfl rfl rfl ?_;refine aIk l_ aL (k.l7 [aH eN [.int .i64 a] 3,aH aY [X.enc q] 190,row hv 197 5 q aX,aH a6 [.int .i64 0] 3,aH bY [.int .i64 0] 43]) Y ag H ?_ ?_
   ·intro j cl w JR H;rw[JR] at he;exact ZG j cl w he H
   ·intro v oE cl w JR DS BC H;rw[JR] at he;refine⟨bM X (H.front 2) rfl rfl,?_⟩;refine nu (fun _=>rfl) 3 H rfl (by simp; omega) fun gx w H=>?_;refine dD (x:=gx) 3 H rfl rfl (Nat.le_of_ble_eq_true rfl) fun w H=>?_;have Py:=X4 JR;have tU:oE.length=av.length-cl:=by rw[← BC,List.length_drop]
    simp only[List.length_cons] at Py;refine ca (av.length-cl) () _ (by omega) ⟨f,cl,a,gx,aX++[v],rfl,DS,by omega,by simp; omega,?_,H.ord [2,3,0,1]⟩;rw[he,BC];simp only;have Gl:a+(r.length+1-oE.length)=cl:=by omega
    rw[Gl]
 ·have aoS:a=av.length:=by omega
  rw[if_neg (by simp; omega)];rw[aoS,List.drop_length] at he;simp only[su] at he;rw[he];refine aj (x:=q) 2 H rfl rfl rfl ?_;refine dD (x:=q) 2 H rfl rfl (Nat.le_of_ble_eq_true rfl) fun w H=>?_;refine dD (x:=(0:Int)) 4 H rfl rfl (Nat.le_of_ble_eq_true rfl) fun w H=>?_;refine dD (x:=(0:Int)) 5 H rfl rfl (Nat.le_of_ble_eq_true rfl) fun w H=>?_;refine aAD (args:=[]) ?_;refine aj (x:=q) 2 H rfl rfl rfl ?_;refine aj (x:=(0:Int)) 1 H rfl rfl rfl ?_;refine aj (x:=(0:Int)) 0 H rfl rfl rfl ?_;refine⟨rfl,rfl,?_⟩;exact (H.ord [0,1,2,3,4]).drop.drop.drop.drop.drop
end
structure nn(aX:List fc):Prop where
 qb:∀ v∈aX,In v
 ok:∀ v∈aX,jW v=0
theorem nn.tail{v:fc}{aX:List fc}(h:nn (v::aX)):nn aX:=⟨fun x F=>h.qb x (by simp[F]),fun x F=>h.ok x (by simp[F])⟩
theorem nn.l7{m y:List fc}(h:nn m)(k:nn y):nn (m++y):=⟨fun x F=>(List.mem_append.1 F).elim (h.qb x) (k.qb x),fun x F=>(List.mem_append.1 F).elim (h.ok x) (k.ok x)⟩
theorem nn.left{m y:List fc}(h:nn (m++y)):nn m:=⟨fun x F=>h.qb x (by simp[F]),fun x F=>h.ok x (by simp[F])⟩
theorem nn.right{m y:List fc}(h:nn (m++y)):nn y:=⟨fun x F=>h.qb x (by simp[F]),fun x F=>h.ok x (by simp[F])⟩
theorem aId{f a:Nat}{av r:List UInt8}{m:List fc}{v:fc}(h:ih av=.ok (v,r))(al:m.length≠1000):su (f+1) av m a=su f r (m++[v]) (a+(av.length-r.length)):=by
 cases av with
 |nil=>simp[ih] at h
 |cons c av=>
  simp only[su,h];rw[if_neg al];rfl
theorem afb:∀ {aX:List fc} {f a:Nat} {rest:List UInt8} {m:List fc},nn aX→m.length+aX.length≤1000→su (f+aX.length) (hW aX++rest) m a=su f rest (m++aX.map nR) (a+(hW aX).length)
 |[],f,a,rest,m,_,_=>by simp[hW]
 |v::aX,f,a,rest,m,h,al=>by
  have aK:=h.ok v (by simp);have ax:=h.qb v (by simp);simp only[List.length_cons] at al;have j:hW (v::aX)++rest=iS v++(hW aX++rest):=by simp[hW]
  have ag:ih (hW (v::aX)++rest)=.ok (nR v,hW aX++rest):=by rw[j]; exact al1 ax aK _
  rw[show f+(v::aX).length=(f+aX.length)+1 from by simp; omega,aId ag (by omega),afb h.tail (by simp; omega)];have a9:(hW (v::aX)++rest).length-(hW aX++rest).length=(iS v).length:=by rw[j]; simp only[List.length_append]; omega
  have df:(hW (v::aX)).length=(iS v).length+(hW aX).length:=by simp[hW]
  rw[a9,df,Nat.add_assoc];simp
theorem Ox:∀ aX:List fc,aX.length≤(hW aX).length
 |[]=>by simp
 |v::aX=>by
  have:=Ox aX;simp only[hW,List.flatMap_cons,List.length_append,List.length_cons] at *;have:1≤(iS v).length:=by simp[iS]
  omega
theorem aIf{aX:List fc}{rest:List UInt8}(h:nn aX)(al:aX.length≤1000):∃ f,rest.length<f∧jL (hW aX++rest)=su f rest (aX.map nR) (hW aX).length:=by
 refine⟨(hW aX++rest).length+1-aX.length,?_,?_⟩
 ·have:=Ox aX;rw[List.length_append]; omega
 ·have:=Ox aX;have j:(hW aX++rest).length+1=((hW aX++rest).length+1-aX.length)+aX.length:=by rw[List.length_append]; omega
  unfold jL;rw[j,afb h (by simp; omega)];simp
theorem afe{aX:List fc}(h:nn aX)(al:aX.length≤1000):jL (hW aX)=(aX.map nR,0,0):=by
 obtain⟨f,am,he⟩:=aIf (rest:=[]) h al;rw[List.append_nil] at he;rw[he];obtain⟨g,rfl⟩:∃ g,f=g+1:=⟨f-1,by omega⟩
 rfl
theorem Lm:∀ {av:List UInt8} {k acc:Nat} {j:Int},rdNum av k acc=.error j→j≠0
 |[],k,acc,j,h=>by simp[rdNum] at h; omega
 |c::av,k,acc,j,h=>by
  simp only[rdNum] at h;split at h
  ·simp at h; omega
  ·split at h
   ·cases h
   ·exact Lm h
theorem ad2:∀ {i acc:Nat} {av:List UInt8} {j:Int},oF i acc av=.error j→j≠0
 |0,_,_,_,h=>by simp[oF] at h
 |i+1,acc,[],j,h=>by simp[oF] at h; omega
 |i+1,acc,c::av,j,h=>ad2 (by simpa only[oF] using h)
theorem al2{av:List UInt8}{j:Int}(h:ih av=.error j):j≠0:=by
 cases av with
 |nil=>simp[ih] at h; omega
 |cons c av=>
  simp only[ih] at h;split at h
  ·split at h
   ·rename_i I; injection h with h; subst h; exact Lm I
   ·cases h
  ·split at h
   ·split at h
    ·rename_i I; injection h with h; subst h; exact Lm I
    ·cases h
   ·split at h
    ·split at h
     ·rename_i I; injection h with h; subst h; exact ad2 I
     ·split at h
      ·simp at h; omega
      ·cases h
    ·split at h
     ·split at h
      ·rename_i I; injection h with h; subst h; exact Lm I
      ·split at h
       ·simp at h; omega
       ·split at h
        ·simp at h; omega
        ·cases h
     ·simp at h; omega
theorem afc:∀ {f a:Nat} {av:List UInt8} {m y:List fc} {p:Nat},av.length<f→m.length≤1000→su f av m a=(y,p,0)→∃ B1,y=m++B1∧nn B1∧(∀ v∈B1,nR v=v)∧av=hW B1∧y.length≤1000∧p=0
 |0,_,_,_,_,_,h,_,_=>by omega
 |f+1,a,[],m,y,p,_,al,h=>by
  simp only[su,Prod.mk.injEq] at h;obtain⟨rfl,rfl,_⟩:=h;exact⟨[],by simp,⟨by simp,by simp⟩,by simp,rfl,al,rfl⟩
 |f+1,a,c::av,m,y,p,am,al,h=>by
  simp only[su] at h;split at h
  ·simp at h
  ·rename_i I;split at h
   ·rename_i j he;simp only[Prod.mk.injEq] at h;exact absurd h.2.2 (al2 he)
   ·rename_i v r ag;have Py:=X4 ag;obtain⟨bA,eR,je,nx⟩:=X5 ag;obtain⟨B1,dn,dY,gM,jG,nZ,jT⟩:=afc (by simp at am Py; omega) (by simp; omega) h;refine⟨v::B1,by rw[dn]; simp,⟨fun x F=>?_,fun x F=>?_⟩,fun x F=>?_,by rw[nx,jG]; simp[hW],nZ,jT⟩
    ·rcases List.mem_cons.1 F with rfl | F
     ·exact bA
     ·exact dY.qb x F
    ·rcases List.mem_cons.1 F with rfl | F
     ·exact eR
     ·exact dY.ok x F
    ·rcases List.mem_cons.1 F with rfl | F
     ·exact je
     ·exact gM x F
theorem aff{av:List UInt8}{y:List fc}(h:(jL av).2.2=0)(hm:(jL av).1=y):nn y∧(∀ v∈y,nR v=v)∧av=hW y∧y.length≤1000:=by
 obtain⟨B1,dn,dY,gM,jG,nZ,jT⟩:=afc (f:=av.length+1) (a:=0) (av:=av) (m:=[]) (y:=y) (p:=(jL av).2.1) (by omega) (by simp) (by
  show jL av=_
  rw[← h,← hm])
 rw[List.nil_append] at dn;subst dn;exact⟨dY,gM,jG,nZ⟩
end Wire
namespace Store
open bf
structure Row where
 b5:Int
 cf:fw
structure ht where
 rows:List Row
 closed:Int
 mark:Int
def aX(N:List Row)(k:Int):List eI:=(N.filter fun r=>r.cf.Key==k).map fun r=>⟨r.b5,r.cf.V⟩
def upto(m:List eI)(at_:Int):List eI:=m.filter fun v=>decide (v.b5≤at_)
def tL(m:List eI)(at_:Int):Option eI:=(upto m at_).getLast?
def rE(y:ht)(at_:Int):Int:=if at_<0∨at_>1125899906842624 then 120 else if at_>y.closed then 128 else if at_<y.mark then 126 else 0
def pb(m:List eI):eI×Bool:=(m.getLast?.getD ⟨0,0⟩,m.getLast?.isSome)
def xh(N:List Row)(t:Int):List Int→List fw→Int
 |_,[]=>0
 |seen,x::xs=>if x.Key<0∨x.Key>8191 then 123 else if x.Key∈seen then 124 else if (pb (aX N x.Key)).1.b5≥t then 121 else if 10000≤(aX N x.Key).length then 125 else xh N t (seen++[x.Key]) xs
def vz(y:ht)(t:Int)(m:List fw):Int:=
 if t<1∨t>1125899906842624 then 120 else if t≤y.closed then 121 else if m.length>100 then 122 else xh y.rows t [] m
def news(t:Int)(m:List fw):List Row:=m.map fun x=>⟨t,x⟩
def nF(y:ht)(t:Int)(m:List fw):ht:=if vz y t m=0 then { y with rows:=y.rows++news t m } else y
def Jk(t:Int):Int:=if t<0∨t>1125899906842624 then 120 else 0
def sI(y:ht)(t:Int):ht:=if Jk t=0 then { y with closed:=max y.closed t } else y
def gone(mark:Int)(r:Row)(N:List Row):Bool:=N.any fun q=>(q.cf.Key==r.cf.Key)&&decide (q.b5≤mark)
def bG(mark:Int):List Row→List Row
 |[]=>[]
 |r::N=>if gone mark r N=true then bG mark N else r::bG mark N
def o_(mark:Int):List eI→List eI
 |[]=>[]
 |v::m=>if m.any (fun q=>decide (q.b5≤mark))=true then o_ mark m else v::o_ mark m
def vx(y:ht)(t:Int):Int:=if t<0∨t>1125899906842624 then 120 else if t>y.closed then 128 else 0
def sg(y:ht)(t:Int):ht:=if vx y t=0 then ⟨bG (max y.mark t) y.rows,y.closed,max y.mark t⟩ else y
structure Keys(N:List Row)(fy:List Int):Prop where
 rB:fy.Pairwise fun x S=>x<S
 all:∀ k,k∈fy↔aX N k≠[]
def Cz(N:List Row)(at_:Int)(fy:List Int):List fw:=fy.filterMap fun k=>(tL (aX N k) at_).map fun v=>⟨k,v.V⟩
structure Inv(y:ht):Prop where
 cap:∀ k,(aX y.rows k).length≤10000
 key:∀ r∈y.rows,0≤r.cf.Key∧r.cf.Key≤8191
 h4:∀ r∈y.rows,1≤r.b5∧r.b5≤1125899906842624
 rB:y.rows.Pairwise fun a l=>a.cf.Key=l.cf.Key→a.b5<l.b5
 mark:0≤y.mark∧y.mark≤y.closed∧y.closed≤1125899906842624
def C8(m:List eI):Prop:=m.Pairwise fun a l=>a.b5<l.b5
theorem Ij(N o:List Row)(k:Int):aX (N++o) k=aX N k++aX o k:=by simp[aX]
theorem CC(k:Int):aX [] k=[]:=rfl
theorem za(r:Row)(N:List Row)(k:Int):aX (r::N) k=if r.cf.Key=k then ⟨r.b5,r.cf.V⟩::aX N k else aX N k:=by
 unfold aX;by_cases h:r.cf.Key=k
 ·rw[if_pos h,List.filter_cons_of_pos (by simpa using h)]; rfl
 ·rw[if_neg h,List.filter_cons_of_neg (by simpa using h)]
theorem aIv{N:List Row}{k:Int}{v:eI}(h:v∈aX N k):∃ r∈N,r.cf.Key=k∧r.b5=v.b5∧r.cf.V=v.V:=by
 unfold aX at h;obtain⟨r,ab,rfl⟩:=List.mem_map.1 h;obtain⟨I,O⟩:=List.mem_filter.1 ab;exact⟨r,I,by simpa using O,rfl,rfl⟩
theorem SX{N:List Row}{k:Int}:aX N k≠[]↔∃ r∈N,r.cf.Key=k:=by
 constructor
 ·intro h;obtain⟨v,aK⟩:=List.exists_mem_of_ne_nil _ h;obtain⟨r,I,O,_⟩:=aIv aK;exact⟨r,I,O⟩
 ·rintro⟨r,I,O⟩ h;have:(⟨r.b5,r.cf.V⟩:eI)∈aX N k:=List.mem_map.2 ⟨r,List.mem_filter.2 ⟨I,by simpa using O⟩,rfl⟩;rw[h] at this; cases this
theorem Ik{N:List Row}(h:N.Pairwise fun a l=>a.cf.Key=l.cf.Key→a.b5<l.b5)(k:Int):C8 (aX N k):=by
 unfold aX C8;rw[List.pairwise_map];have I:=h.filter (p:=fun r=>r.cf.Key==k);refine List.Pairwise.imp_of_mem ?_ I;intro a l Y ao xZ;have Y:=(List.mem_filter.1 Y).2;have ao:=(List.mem_filter.1 ao).2;simp only[beq_iff_eq] at Y ao;exact xZ (Y.trans ao.symm)
theorem aBv(mark:Int)(r:Row)(N:List Row):gone mark r N=(aX N r.cf.Key).any fun q=>decide (q.b5≤mark):=by
 unfold gone aX;rw[List.any_map,List.any_filter];rfl
theorem LU(mark:Int)(k:Int):∀ N:List Row,aX (bG mark N) k=o_ mark (aX N k)
 |[]=>rfl
 |r::N=>by
  have ck:=LU mark k N;rw[za];unfold bG;by_cases h:r.cf.Key=k
  ·rw[if_pos h];have R:gone mark r N=(aX N k).any fun q=>decide (q.b5≤mark):=by rw[aBv,h]
   rw[o_,← R];split
   ·exact ck
   ·rw[za,if_pos h,ck]
  ·rw[if_neg h];split
   ·exact ck
   ·rw[za,if_neg h,ck]
theorem QA{mark:Int}:∀ {l:List eI},(∀ v∈l,¬ v.b5≤mark)→o_ mark l=l
 |[],_=>rfl
 |v::l,h=>by
  have aL:¬ l.any (fun q=>decide (q.b5≤mark))=true:=by
   rw[List.any_eq_true];rintro⟨q,a8,ag⟩;exact h q (List.mem_cons_of_mem _ a8) (by simpa using ag)
  rw[o_,if_neg aL,QA fun v aK=>h v (List.mem_cons_of_mem _ aK)]
theorem aa6{mark:Int}{l:List eI}(ao:∀ v∈l,¬ v.b5≤mark):∀ {a:List eI},(∀ v∈a,v.b5≤mark)→o_ mark (a++l)=a.drop (a.length-1)++l
 |[],_=>by simpa using QA ao
 |[v],h=>by
  have aL:¬ l.any (fun q=>decide (q.b5≤mark))=true:=by
   rw[List.any_eq_true];rintro⟨q,a8,ag⟩;exact ao q a8 (by simpa using ag)
  show o_ mark (v::l)=_
  rw[o_,if_neg aL,QA ao]; rfl
 |v::u::a,h=>by
  have aL:(u::a++l).any (fun q=>decide (q.b5≤mark))=true:=
   List.any_eq_true.2 ⟨u,by simp,by simpa using h u (by simp)⟩
  show o_ mark (v::(u::a++l))=_
  rw[o_,if_pos aL,aa6 ao fun v aK=>h v (List.mem_cons_of_mem _ aK)];simp
structure Place(m:List eI)(at_:Int)(D:Nat):Prop where
 le:D≤m.length
 nB:∀ v∈m.take D,v.b5≤at_
 ax:∀ v∈m.drop D,¬ v.b5≤at_
theorem Place.upto{m:List eI}{at_:Int}{D:Nat}(h:Place m at_ D):upto m at_=m.take D:=by
 unfold Store.upto
 conv=>lhs; rw[← List.take_append_drop D m]
 rw[List.filter_append,List.filter_eq_self.2 fun v aK=>by simpa using h.nB v aK,List.filter_eq_nil_iff.2 fun v aK=>by simpa using h.ax v aK,List.append_nil]
theorem Place.bG{m:List eI}{at_:Int}{D:Nat}(h:Place m at_ D):o_ at_ m=m.drop (D-1):=by
 conv=>lhs; rw[← List.take_append_drop D m]
 rw[aa6 h.ax h.nB,List.length_take,Nat.min_eq_left h.le]
 conv=>rhs; rw[← List.take_append_drop D m]
 rw[List.drop_append_of_le_length (by rw[List.length_take,Nat.min_eq_left h.le]; omega)]
theorem Place.alJ{m:List eI}{at_:Int}(h:Place m at_ 0):tL m at_=none:=by unfold tL; rw[h.upto]; rfl
theorem Place.tL{m:List eI}{at_:Int}{D:Nat}(h:Place m at_ (D+1)):tL m at_=m[D]?:=by
 unfold Store.tL; rw[h.upto,List.getLast?_take,if_neg (by omega)];have:=h.le;rw[show D+1-1=D from rfl,List.getElem?_eq_getElem (by omega)]; rfl
theorem QB(mark:Int):∀ N:List Row,(bG mark N).Sublist N
 |[]=>List.Sublist.refl _
 |r::N=>by
  have:=QB mark N;unfold bG; split
  ·exact this.cons _
  ·exact this.cons_cons _
theorem aa7{mark:Int}{m:List eI}(al:C8 m):o_ mark m=[]↔m=[]:=by
 constructor
 ·intro h;induction m with
  |nil=>rfl
  |cons v m ck=>
   unfold o_ at h;split at h
   ·rename_i U;have:=ck (List.pairwise_cons.1 al).2 h;subst this; simp at U
   ·cases h
 ·rintro rfl; rfl
theorem Keys.aIc{N o:List Row}{fy Qz:List Int}(h:Keys N fy)(O:Keys o Qz)(he:∀ k,aX N k≠[]↔aX o k≠[]):fy=Qz:=by
 have aE:fy.Perm Qz:=(List.perm_ext_iff_of_nodup (h.rB.imp fun h=>Int.ne_of_lt h) (O.rB.imp fun h=>Int.ne_of_lt h)).2 fun k=>by rw[h.all,O.all,he]
 exact aE.eq_of_pairwise (fun a l _ _ I O=>by omega) h.rB O.rB
section
variable {A w:World} {m bT:List bC}
structure ki where
 l:Nat
 s:af
 mark:Int
def l9(C:ki)(N:List eI):bC:=dA [aH C.l (v9.cells ⟨C.s,C.mark⟩) 328,row dJ 292 2 C.s N]
theorem xH{C:ki}{N:List eI}(H:E A (l9 C N::m) w):E A (aH C.l (v9.cells ⟨C.s,C.mark⟩) 328::row dJ 292 2 C.s N::m) w:=H.open_
theorem tJ{C:ki}{N:List eI}(H:E A (aH C.l (v9.cells ⟨C.s,C.mark⟩) 328::row dJ 292 2 C.s N::m) w):E A (l9 C N::m) w:=
 E.shut (bT:=[aH C.l (v9.cells ⟨C.s,C.mark⟩) 328,row dJ 292 2 C.s N]) H
theorem ak7(H:E A m w):M Pg 245 [] aD w fun r J=>∃ l,r=some ⟨l,0,none⟩∧E A (l9 ⟨l,fz,0⟩ []::m) J:=by
 refine ahT ?_;unfold Vn;refine bP H fun l dF H=>?_;exact⟨l,rfl,tJ ((kN dJ 292 2 H).front 1)⟩
theorem XR{C:ki}{N:List eI}(hm:N.length≤1000000)(H:E A (l9 C N::m) w):M Pg 243 [.pointer (some ⟨C.l,0,none⟩)] (bw dJ bk) w fun r J=>r=pb N∧E A (l9 C N::m) J:=by
 refine ahR ?_;unfold Vl;refine bP H fun l dF H=>?_;have H:=xH (H.front 1);have aG:=gr (H.front 1);refine cb rfl ?_;refine aj (x:=C.s) 0 H rfl rfl rfl ?_;split
 ·rename_i U;have U:N=[]:=List.length_eq_zero_iff.1 (by simp at U; omega);subst U;refine c5 (x:=kn) (S:=(⟨0,0⟩:eI)) qi 2 H rfl fun cB H=>?_;refine eh (x:=(⟨0,0⟩:eI)) 0 H rfl ?_;exact⟨rfl,tJ H.drop⟩
 ·rename_i U;have U:0<N.length:=by simp at U; omega
  have j:IntKind.i64.wrap (((C.s.len:Int))-1)=(N.length:Int)-1:=by rw[aG]; exact wrap_i64 (by omega) (by omega)
  refine dp H fun cB H=>?_;refine aj (x:=C.s) 0 H rfl rfl rfl ?_;refine aj (x:=C.s) 0 H rfl rfl rfl ?_;rw[j];obtain⟨a,Y⟩:=kM (ar:=2) (i:=(N.length:Int)-1) (H.front 1) (by omega) (by omega);have F:N[((N.length:Int)-1).toNat]?=some N[((N.length:Int)-1).toNat]:=List.getElem?_eq_getElem (by omega);refine aP a Y ?_;refine aP _ (mj (fun _=>rfl) Y F (H.front 1)) ?_;have al:N.getLast?=some N[((N.length:Int)-1).toNat]:=by rw[← F,List.getLast?_eq_getElem?]; congr 1; omega
  generalize N[((N.length:Int)-1).toNat]=x at al;refine c5 (x:=kn) (S:=x) qi 2 H rfl fun bm H=>?_;refine eh (x:=x) 0 H rfl ?_;refine⟨?_,tJ H.drop⟩;unfold pb; rw[al]; rfl
theorem ak6{C:ki}{N:List eI}(hm:N.length≤1000000)(H:E A (l9 C N::m) w):M Pg 262 [.pointer (some ⟨C.l,0,none⟩)] X w fun r J=>E A (row dJ 292 2 r N::l9 C N::m) J:=by
 refine aib ?_;unfold VF;have H:=xH H;have aG:=gr (H.front 1);refine cb rfl ?_;refine aj (x:=C.s) 0 H rfl rfl rfl ?_;rw[aG];refine Hw (ar:=2) (by omega) (by omega) (by omega) H fun l dF H=>?_;refine aj (x:=C.s) 1 H rfl rfl rfl ?_;refine Jl (fun _=>rfl) H (C7 (H.front 2)) (by simp) fun cB H=>?_;exact (tJ ((H.front 1).ord [0,2])).front 1
theorem aGO{n:Int}{hI:cm}{td:Int→Bool}(ah:0≤n)(I:n≤1000000)(yf:∀ (w:World) (i:Int),0≤i→i<n→E A m w→tK Pg hI [.int .i64 i] bk w fun r J=>r=td i∧E A m J)
  (Z4:∀ i D,0≤i→i≤D→D<n→td i=true→td D=true) (H:E A m w) :
  M Pg 254 [.int .i64 n,hI.enc] (B .i64) w fun r J=>0≤r∧r≤n∧(∀ i,0≤i→i<r→td i=false)∧(∀ i,r≤i→i<n→td i=true)∧E A m J:=by
 refine ah3 ?_;unfold Vx;refine vo (fun p w=>0≤p.1∧p.1≤p.2∧p.2≤n∧(∀ i,0≤i→i<p.1→td i=false)∧(∀ i,p.2≤i→i<n→td i=true)∧E A m w) (fun p=>(p.2-p.1).toNat)
  ⟨Int.le_refl 0,ah,Int.le_refl _,fun i I O=>by simp only at O; omega,fun i I O=>by simp only at I; omega,H⟩ ?_
 rintro⟨i,D⟩ w ⟨nt,lG,aY,aA,a6,H⟩;simp only at nt lG aY aA a6;simp only;unfold MX;split
 ·rename_i U;have U:i<D:=by simpa using U
  have hH:IntKind.i64.wrap (i+D)=i+D:=wrap_i64 (by omega) (by omega);have aR:IntKind.u64.wrap (i+D)=i+D:=by
   unfold IntKind.wrap;simp[IntKind.bits,IntKind.signed];omega
  have a9:Int.fdiv (i+D) (2^(min ((1:Int)).toNat IntKind.u64.bits))=(i+D)/2:=by
   have:(2:Int)^(min ((1:Int)).toNat IntKind.u64.bits)=2:=rfl;rw[this,Int.fdiv_eq_ediv_of_nonneg _ (by omega)]
  rw[hH,aR,a9];refine aP ((i+D)/2) ⟨by omega,rfl⟩ ?_;have df:IntKind.i64.wrap ((i+D)/2)=(i+D)/2:=wrap_i64 (by omega) (by omega);have m0:IntKind.i64.wrap ((i+D)/2+1)=(i+D)/2+1:=wrap_i64 (by omega) (by omega);rw[df,m0];obtain⟨g,c,R,apg,h⟩:=yf w ((i+D)/2) (by omega) (by omega) H;refine⟨g,c,R,apg,ap h ?_⟩;rintro r dF ⟨rfl,H⟩;show if (!td ((i+D)/2))=true then _ else _
  split
  ·rename_i ab;have ab:td ((i+D)/2)=false:=by simpa using ab
   refine⟨⟨by simp only; omega,by simp only; omega,aY,fun x I O=>?_,a6,H⟩,by simp only; omega⟩;simp only at O;cases aE:td x with
   |false=>rfl
   |true=>rw[Z4 x ((i+D)/2) I (by omega) (by omega) aE] at ab; cases ab
  ·rename_i ab;have ab:td ((i+D)/2)=true:=by simpa using ab
   refine⟨⟨nt,by simp only; omega,by simp only; omega,aA,fun x I O=>?_,H⟩,by simp only; omega⟩;simp only at I;exact Z4 ((i+D)/2) x (by omega) (by omega) O ab
 ·rename_i U;have U:i=D:=by simp at U; omega
  subst U;exact⟨nt,aY,aA,a6,H⟩
theorem acD{C:ki}{N:List eI}{at_:Int}(hm:N.length≤1000000)(ab:C8 N)(H:E A (l9 C N::m) w):M Pg 226 [.pointer (some ⟨C.l,0,none⟩),.int .i64 at_] (B .i64) w fun r J=>∃ D:Nat,r=D∧Place N at_ D∧E A (l9 C N::m) J:=by
 refine ahH ?_;unfold Vc;refine bP H fun e9 dF H=>?_;refine bP H fun eb cB H=>?_;have H:=xH (H.front 2);have aG:=gr (H.front 1);refine aj (x:=some ⟨C.l,0,none⟩) 3 H rfl rfl rfl ?_;refine cb rfl ?_;refine aj (x:=C.s) 0 H rfl rfl rfl ?_;rw[aG];refine ap (aGO (td:=fun i=>match N[i.toNat]? with | some v=>decide (v.b5>at_) | none=>false) (by omega) (by omega) ?_ ?_ H) ?_
 ·intro w i ah I H;refine⟨255,[.pointer (some ⟨e9,0,none⟩),.pointer (some ⟨eb,0,none⟩)],rfl,am1,?_⟩;refine ah4 ?_;unfold Vy;refine dp H fun bm H=>?_;refine aj (x:=some ⟨C.l,0,none⟩) 3 H rfl rfl rfl ?_;refine cb rfl ?_;refine aj (x:=C.s) 0 H rfl rfl rfl ?_;obtain⟨a,Y⟩:=kM (ar:=2) (i:=i) (H.front 1) ah (by omega);have F:N[i.toNat]?=some N[i.toNat]:=List.getElem?_eq_getElem (by omega);refine aP a Y ?_;refine aP N[i.toNat].b5 (qd (fun _=>rfl) Y F rfl (H.front 1)) ?_;refine aj (x:=at_) 2 H rfl rfl rfl ?_;refine⟨?_,H⟩;rw[F]
 ·intro i D ah I O aJ;have F:N[i.toNat]?=some N[i.toNat]:=List.getElem?_eq_getElem (by omega);have aB:N[D.toNat]?=some N[D.toNat]:=List.getElem?_eq_getElem (by omega);simp only[F,aB,decide_eq_true_eq] at aJ ⊢;rcases Int.lt_or_eq_of_le I with h | h
  ·have:=List.pairwise_iff_getElem.1 ab i.toNat D.toNat (by omega) (by omega) (by omega);omega
  ·subst h; exact aJ
 ·rintro r bm ⟨qq,gN,bv,gf,H⟩;refine⟨r.toNat,by omega,⟨by omega,?_,?_⟩,?_⟩
  ·intro v aK;obtain⟨i,ax,rfl⟩:=List.mem_take_iff_getElem.1 aK;have:=bv i (by omega) (by omega);rw[show ((i:Int)).toNat=i from rfl,List.getElem?_eq_getElem (by omega)] at this;simp at this; omega
  ·intro v aK;obtain⟨i,ax,rfl⟩:=List.mem_drop_iff_getElem.1 aK;have:=gf (r+i) (by omega) (by omega);rw[show (r+(i:Int)).toNat=r.toNat+i from by omega,List.getElem?_eq_getElem (by omega)] at this;simp at this; omega
  ·exact tJ ((H.ord [3,2]).drop.drop)
theorem ak5{C:ki}{N:List eI}{at_:Int}(hm:N.length≤1000000)(ab:C8 N)(ah:0≤at_)(I:at_≤1125899906842624)(O:C.mark≤at_)(H:E A (l9 C N::m) w) :
  M Pg 174 [.pointer (some ⟨C.l,0,none⟩),.int .i64 at_] (bw dJ (B .i64)) w fun r J=>r=(match tL N at_ with | none=>((⟨0,0⟩:eI),(114:Int)) | some v=>(v,0))∧E A (l9 C N::m) J:=by
 refine ag3 ?_;unfold UA;refine bP H fun l dF H=>?_;rw[if_neg (by simp; omega)];have H:=xH (H.front 1);have aG:=gr (H.front 1);refine cb rfl ?_;refine aj (x:=C.mark) 0 H rfl rfl rfl ?_;rw[if_neg (by simp; omega)];refine ap (acD (at_:=at_) hm ab (tJ H)) ?_;rintro r cB ⟨D,rfl,aE,H⟩;have H:=xH H;cases D with
 |zero=>
  rw[if_pos (by simp)];refine c5 (x:=kn) (S:=(⟨0,0⟩:eI)) qi 2 H rfl fun bm H=>?_;refine eh (x:=(⟨0,0⟩:eI)) 0 H rfl ?_;refine⟨?_,tJ H.drop⟩;rw[aE.alJ]
 |succ D=>
  rw[if_neg (by simp; omega)];have k3:=aE.le;refine aj (x:=C.s) 0 H rfl rfl rfl ?_;have j:IntKind.i64.wrap (((D+1:Nat):Int)-1)=D:=by rw[show ((D+1:Nat):Int)-1=D from by omega]; exact wrap_i64 (by omega) (by omega)
  rw[j];obtain⟨a,Y⟩:=kM (ar:=2) (i:=(D:Int)) (H.front 1) (by omega) (by omega);have F:N[((D:Int)).toNat]?=some N[D]:=List.getElem?_eq_getElem (by omega);refine aP a Y ?_;refine aP _ (mj (fun _=>rfl) Y F (H.front 1)) ?_;have U:tL N at_=some N[D]:=by rw[aE.tL]; exact F
  generalize N[D]=x at U;refine c5 (x:=kn) (S:=x) qi 2 H rfl fun bm H=>?_;refine eh (x:=x) 0 H rfl ?_;refine⟨?_,tJ H.drop⟩;rw[U]
theorem ak9{C:ki}{N:List eI}{t v:Int}(hm:N.length<10000)(ah:1≤t)(I:t≤1125899906842624)(O:C.mark<t)(aJ:(pb N).1.b5<t)(H:E A (l9 C N::m) w) :
  M Pg 246 [.pointer (some ⟨C.l,0,none⟩),.int .i64 t,.int .i64 v] (B .i64) w fun r J=>∃ s,E A (l9 ⟨C.l,s,C.mark⟩ (N++[⟨t,v⟩])::m) J:=by
 refine ahU ?_;unfold Vo;rw[if_neg (by simp; omega)];refine ap (XR (by omega) H) ?_;rintro r dF ⟨rfl,H⟩;refine bP H fun l cB H=>?_;generalize pb N=q at *;refine c5 (x:=kn) (S:=q.1) qi 0 H rfl fun bm H=>?_;refine aP q.1.b5 (fun _=>bM (B .i64) H rfl rfl) ?_;have H:=xH (H.front 1);have aG:=gr (H.front 1);refine aP (⟨C.l,0,none⟩:Addr) (fun _=>rfl) ?_;refine aP C.mark (fun _=>bM (B .i64) H rfl rfl) ?_;rw[if_neg (by simp; omega)];refine cb rfl ?_;refine aj (x:=C.s) 0 H rfl rfl rfl ?_;rw[if_neg (by simp; omega)];refine aj (x:=C.s) 0 H rfl rfl rfl ?_;refine nu (fun _=>rfl) 1 H rfl (by simp; omega) fun s aV H=>?_;refine dD (x:=s) 1 H rfl rfl (Nat.le_of_ble_eq_true rfl) fun a_ H=>?_;exact⟨s,tJ (C:=⟨C.l,s,C.mark⟩) ((H.front 2).drop)⟩
theorem ak8{C:ki}{N:List eI}{mark:Int}(hm:N.length≤1000000)(ab:C8 N)(ah:0≤mark)(I:mark≤1125899906842624)(O:C.mark≤mark)(H:E A (l9 C N::m) w) :
  M Pg 261 [.pointer (some ⟨C.l,0,none⟩),.int .i64 mark] (B .i64) w fun r J=>∃ s,E A (l9 ⟨C.l,s,mark⟩ (o_ mark N)::m) J:=by
 refine aia ?_;unfold VE;rw[if_neg (by simp; omega)];have H:=xH H;have aG:=gr (H.front 1);refine cb rfl ?_;refine aj (x:=C.mark) 0 H rfl rfl rfl ?_;rw[show max C.mark mark=mark from by omega];refine dD (x:=mark) 0 H rfl rfl (Nat.le_of_ble_eq_true rfl) fun dF H=>?_;have H:=tJ (C:=⟨C.l,C.s,mark⟩) H;have H:=xH H;refine aj (x:=mark) 0 H rfl rfl rfl ?_;refine ap (acD (C:=⟨C.l,C.s,mark⟩) (at_:=mark) hm ab (tJ H)) ?_;rintro r cB ⟨D,rfl,aE,H⟩;have H:=xH H;have k3:=aE.le;refine aj (x:=C.s) 0 H rfl rfl rfl ?_;have j:max (IntKind.i64.wrap ((D:Int)-1)) 0=((D-1:Nat):Int):=by rw[wrap_i64 (by omega) (by omega)]; omega
 rw[j,aE.bG];have a9:IntKind.i64.wrap ((C.s.len:Int)-((D-1:Nat):Int))=((N.length-(D-1):Nat):Int):=by rw[aG,wrap_i64 (by omega) (by omega)]; omega
 rw[a9];refine Hw (ar:=2) (by omega) (by omega) (by omega) H fun l bm H=>?_;refine aj (x:=C.s) 1 H rfl rfl rfl ?_;have l_:C.s.len≤C.s.cap:=EL (H.front 2);refine ob (by omega) (by omega) (by omega) (by omega) fun s1 G4=>?_;have rj:=ad5 (fun _=>rfl) G4 (H.front 2);refine Jl (fun _=>rfl) H rj (by simp) fun aV H=>?_;refine ob (by omega) (by omega) (by omega) (by simp) fun s2 zY=>?_;have df:s2=⟨some ⟨l,0,none⟩,N.length-(D-1),N.length-(D-1)⟩:=by
  obtain⟨_,_,_,_,h⟩:=zY;rw[h];simp only[Int.toNat_natCast];congr 1;split
  ·rfl
  ·rw[Option.map_some,show ((0:Int).toNat*2)=0 from rfl,lI]
 rw[df];simp only[Int.toNat_natCast] at H;refine dD (x:=(⟨some ⟨l,0,none⟩,N.length-(D-1),N.length-(D-1)⟩:af)) 1 H rfl rfl (Nat.le_of_ble_eq_true rfl) fun a_ H=>?_;have H:E A (l9 ⟨C.l,⟨some ⟨l,0,none⟩,N.length-(D-1),N.length-(D-1)⟩,mark⟩ (N.drop (D-1))::row dJ 292 2 C.s N::m) a_:=tJ H;exact⟨_,(H.front 1).drop⟩
end
end Store
namespace Num
open bf
theorem f64:FloatKind.f64.format=Ieee.double:=rfl
def ku(f:Nat):Nat:=if f<4503599627370496 then f else 4503599627370496+f%4503599627370496
def fi(f:Nat):Nat:=if f<4503599627370496 then 0 else f/4503599627370496-1
theorem Ic:Ieee.double.signWeight=9223372036854775808:=by decide
theorem zC:Ieee.double.binade=4503599627370496:=by decide
theorem z3:Ieee.double.infRung=9218868437227405312:=by decide
theorem z_:Ieee.double.leastPlace=-1074:=by decide
theorem DL:Ieee.double.fractionBits=52:=rfl
theorem n3{f:Nat}(h:f<9218868437227405312):Ieee.double.read f=.number false (ku f) (-1074+(fi f:Nat)):=by
 have aR:(f/9223372036854775808%2==1)=false:=by rw[Nat.div_eq_of_lt (by omega)]; rfl
 have a9:f%9223372036854775808=f:=Nat.mod_eq_of_lt (by omega);unfold Ieee.Format.read ku fi;simp only[Ic,zC,z3,z_,aR,a9];by_cases c:f<4503599627370496
 ·simp only[if_pos c]; rfl
 ·simp only[if_neg c,if_pos h]
theorem ad9{f:Nat}(I:9223372036854775808<f)(O:f<18446744073709551616):(∃ y i,1≤y∧Ieee.double.read f=.number true y i)∨Ieee.double.read f=.infinity true∨∃ t,Ieee.double.read f=.nan true t:=by
 have aR:(f/9223372036854775808%2==1)=true:=by
  have:f/9223372036854775808=1:=by omega
  rw[this]; rfl
 unfold Ieee.Format.read;simp only[Ic,zC,z3,z_,aR];by_cases bt:f%9223372036854775808<4503599627370496
 ·simp only[if_pos bt];exact .inl ⟨_,_,by omega,rfl⟩
 ·simp only[if_neg bt];by_cases bI:f%9223372036854775808<9218868437227405312
  ·simp only[if_pos bI];exact .inl ⟨_,_,by omega,rfl⟩
  ·simp only[if_neg bI];by_cases cc:f%9223372036854775808=9218868437227405312
   ·simp only[if_pos cc];exact .inr (.inl (by trivial))
   ·simp only[if_neg cc];exact .inr (.inr ⟨_,rfl⟩)
theorem aF1{f:Nat}(h:f<9223372036854775808):(∃ y i,Ieee.double.read f=.number false y i)∨Ieee.double.read f=.infinity false∨∃ t,Ieee.double.read f=.nan false t:=by
 have aR:(f/9223372036854775808%2==1)=false:=by
  have:f/9223372036854775808=0:=by omega
  rw[this]; rfl
 unfold Ieee.Format.read;simp only[Ic,zC,z3,z_,aR];by_cases bt:f%9223372036854775808<4503599627370496
 ·simp only[if_pos bt];exact .inl ⟨_,_,rfl⟩
 ·simp only[if_neg bt];by_cases bI:f%9223372036854775808<9218868437227405312
  ·simp only[if_pos bI];exact .inl ⟨_,_,rfl⟩
  ·simp only[if_neg bI];by_cases cc:f%9223372036854775808=9218868437227405312
   ·simp only[if_pos cc];exact .inr (.inl (by trivial))
   ·simp only[if_neg cc];exact .inr (.inr ⟨_,rfl⟩)
theorem Dx{a l:Int}(h:a<l):compare a l=.lt:=Std.compare_eq_lt.2 h
theorem XY{a l:Int}(h:l<a):compare a l=.gt:=Std.compare_eq_gt.2 h
theorem XX{a l:Int}(h:l≤a):compare a l≠.lt:=fun j=>by
 have:=Std.compare_eq_lt.1 j;omega
theorem aGY{y k:Nat}(h:1≤y):Ieee.signed true y k<0:=by
 unfold Ieee.signed;rw[if_pos rfl,Nat.shiftLeft_eq];have:1≤y*2^k:=Nat.le_trans h (Nat.le_mul_of_pos_right _ (Nat.two_pow_pos k));omega
theorem aGZ{y k:Nat}:0≤Ieee.signed false y k:=by
 unfold Ieee.signed;rw[if_neg (by simp)];exact Int.natCast_nonneg _
theorem vF(y k:Nat):Ieee.signed false y k=((y*2^k:Nat):Int):=by
 unfold Ieee.signed;rw[if_neg (by simp),Nat.shiftLeft_eq]
theorem aeA{y k:Nat}(h:1≤y):0<Ieee.signed false y k:=by
 rw[vF];have:1≤y*2^k:=Nat.le_trans h (Nat.le_mul_of_pos_right _ (Nat.two_pow_pos k));omega
theorem aCp{f:Nat}(h:0<f):1≤ku f:=by unfold ku; split<;>omega
theorem Sc:Ieee.double.read 0=.number false 0 (-1074):=by rw[n3 (by omega)]; rfl
theorem aCh{f:Nat}(h:f<9223372036854775808):fQ .lss f 0=false:=by
 unfold fQ;rw[f64];simp only[Ieee.Format.order,Sc];rcases aF1 h with ⟨y,i,j⟩ | j | ⟨t,j⟩
 ·rw[j];simp only[Ieee.Datum.order];have:Ieee.signed false 0 (-1074-min i (-1074)).toNat=0:=by rw[vF]; simp
  rw[this];have U:=XX (aGZ (y:=y) (k:=(i-min i (-1074)).toNat));cases cD:compare (Ieee.signed false y (i-min i (-1074)).toNat) 0 with
  |lt=>exact absurd cD U
  |eq=>rfl
  |gt=>rfl
 ·rw[j]; rfl
 ·rw[j]; rfl
theorem aCg{f:Nat}(I:9223372036854775808<f)(O:f<18446744073709551616)(aL:fQ .neq f f=false):fQ .lss f 0=true:=by
 unfold fQ at *;rw[f64] at *;simp only[Ieee.Format.order,Sc] at *;rcases ad9 I O with ⟨y,i,hm,j⟩ | j | ⟨t,j⟩
 ·rw[j];simp only[Ieee.Datum.order];have:Ieee.signed false 0 (-1074-min i (-1074)).toNat=0:=by rw[vF]; simp
  rw[this,Dx (aGY hm)];rfl
 ·rw[j]; rfl
 ·rw[j] at aL;cases aL
theorem YL{f:Nat}(ah:0<f)(h:f<9218868437227405312):fQ .eql f 0=false:=by
 unfold fQ;rw[f64];simp only[Ieee.Format.order,Sc,n3 h,Ieee.Datum.order];have:Ieee.signed false 0 (-1074-min (-1074+(fi f:Int)) (-1074)).toNat=0:=by rw[vF]; simp
 rw[this,XY (aeA (aCp ah))];rfl
theorem ad8:Ieee.double.read 9218868437227405311=.number false 9007199254740991 971:=by rw[n3 (by omega)]; rfl
theorem QS{f:Nat}(h:f≤4611686018427387904):fQ .gtr f 9218868437227405311=false:=by
 unfold fQ;rw[f64];simp only[Ieee.Format.order,ad8,n3 (show f<9218868437227405312 by omega),Ieee.Datum.order];have he:fi f≤1023:=by unfold fi; split<;>omega
 have hm:ku f<9007199254740992:=by unfold ku; split<;>omega
 have BJ:min (-1074+(fi f:Int)) 971=-1074+(fi f:Int):=by omega
 rw[BJ,vF,vF];have aR:(-1074+(fi f:Int)-(-1074+(fi f:Int))).toNat=0:=by omega
 obtain⟨k,aq⟩:∃ k,(971-(-1074+(fi f:Int))).toNat=k+1:=⟨(970-(-1074+(fi f:Int))).toNat,by omega⟩
 rw[aR,aq];have O:1≤2^k:=Nat.two_pow_pos k;have aJ:9007199254740991*2^(k+1)=9007199254740991*2*2^k:=by rw[Nat.pow_succ]; omega
 have bl:9007199254740991*2*1≤9007199254740991*2*2^k:=Nat.mul_le_mul_left _ O;rw[Dx (by rw[aJ]; omega)];rfl
theorem aCj{f:Nat}(h:f<4503599627370496):fQ .lss f 4503599627370496=true:=by
 have aR:Ieee.double.read 4503599627370496=.number false 4503599627370496 (-1074):=by rw[n3 (by omega)]; rfl
 have a9:ku f=f:=by unfold ku; rw[if_pos h]
 have df:fi f=0:=by unfold fi; rw[if_pos h]
 unfold fQ;rw[f64];simp only[Ieee.Format.order,aR,n3 (show f<9218868437227405312 by omega),Ieee.Datum.order,a9,df,vF];rw[Dx (by simp; omega)];rfl
theorem aCi{f:Nat}(ah:4503599627370496≤f)(h:f<9218868437227405312):fQ .lss f 4503599627370496=false:=by
 have aR:Ieee.double.read 4503599627370496=.number false 4503599627370496 (-1074):=by rw[n3 (by omega)]; rfl
 have a9:4503599627370496≤ku f:=by unfold ku; rw[if_neg (by omega)]; omega
 unfold fQ;rw[f64];simp only[Ieee.Format.order,aR,n3 h,Ieee.Datum.order,vF];have BJ:min (-1074+(fi f:Int)) (-1074)=-1074:=by omega
 rw[BJ];have I:4503599627370496*2^(-1074 - -1074:Int).toNat≤ku f*2^(-1074+(fi f:Int) - -1074).toNat:=by
  have:(-1074 - -1074:Int).toNat=0:=by decide
  rw[this];exact Nat.mul_le_mul a9 (Nat.two_pow_pos _)
 have U:=XX (Int.ofNat_le.2 I);cases cD:compare ((ku f*2^(-1074+(fi f:Int) - -1074).toNat:Nat):Int) ((4503599627370496*2^(-1074 - -1074:Int).toNat:Nat):Int) with
 |lt=>exact absurd cD U
 |eq=>rfl
 |gt=>rfl
theorem X1{n k q:Nat}(h:n=q*2^k)(aq:k≤n.log2+2)(neg:Bool):Ieee.Toward.even.cut neg n k=q:=by
 unfold Ieee.Toward.cut;simp only[Nat.min_eq_left aq,Nat.shiftLeft_eq,Nat.one_mul];have aE:=Nat.two_pow_pos k;have aR:n/2^k=q:=by rw[h]; exact Nat.mul_div_cancel _ aE
 have a9:n%2^k=0:=by rw[h]; exact Nat.mul_mod_left _ _
 rw[aR,a9];have df:(decide (2^k<2*0)||(2^k==2*0)&&q%2==1)=false:=by
  have:(2^k==2*0)=false:=by
   rw[beq_eq_false_iff_ne];omega
  rw[this];simp
 rw[df];rfl
theorem mul_one{aU:Nat}(h:aU<4503599627370496):xo .mul 4607182418800017408 (1075*4503599627370496+aU) (1075*4503599627370496+aU):=by
 have aR:Ieee.double.read 4607182418800017408=.number false 4503599627370496 (-52):=by rw[n3 (by omega)]; rfl
 have a9:Ieee.double.read (1075*4503599627370496+aU)=.number false (4503599627370496+aU) 0:=by
  rw[n3 (by omega)];have bt:ku (1075*4503599627370496+aU)=4503599627370496+aU:=by unfold ku; rw[if_neg (by omega)]; omega
  have bI:fi (1075*4503599627370496+aU)=1074:=by unfold fi; rw[if_neg (by omega)]; omega
  rw[bt,bI]; rfl
 unfold xo floatBits;rw[f64];simp only[Ieee.Format.mul,aR,a9,Ieee.Datum.product,Option.map_some,Ieee.Format.write];congr 1;unfold Ieee.Format.nearest;have dT:¬ 4503599627370496*(4503599627370496+aU)=0:=by omega
 have wB:(4503599627370496*(4503599627370496+aU)).log2=104:=by
  rw[Nat.log2_eq_iff dT];omega
 rw[if_neg dT];simp only[wB,DL,z_,zC,z3];have GS:max ((-52:Int)+0+((104:Nat):Int)-((52:Nat):Int)) (-1074)=0:=by decide
 rw[GS];have G4:((-52:Int)+0-0).toNat=0:=by decide
 have zY:((0:Int)-(-52+0)).toNat=52:=by decide
 have PQ:((0:Int) - -1074).toNat=1074:=by decide
 rw[G4,zY,PQ,Nat.shiftLeft_zero];rw[X1 (q:=4503599627370496+aU) (by omega) (by rw[wB]; omega)];show min _ _=_
 omega
theorem ae8{aU:Nat}(h:aU<4503599627370496):zm .i64 (1075*4503599627370496+aU) ((4503599627370496+aU:Nat):Int):=by
 have a9:Ieee.double.read (1075*4503599627370496+aU)=.number false (4503599627370496+aU) 0:=by
  rw[n3 (by omega)];have bt:ku (1075*4503599627370496+aU)=4503599627370496+aU:=by unfold ku; rw[if_neg (by omega)]; omega
  have bI:fi (1075*4503599627370496+aU)=1074:=by unfold fi; rw[if_neg (by omega)]; omega
  rw[bt,bI]; rfl
 unfold zm floatToIntVal FloatKind.decode;rw[f64,a9];have Pm:Ieee.Toward.zero.cut false ((4503599627370496+aU) <<< (0:Int).toNat) (-(0:Int)).toNat=4503599627370496+aU:=by
  unfold Ieee.Toward.cut;simp
 simp only[Ieee.Datum.toInt,Ieee.Datum.integral,Pm,vF];have g9:IntKind.i64.min=-9223372036854775808:=rfl;have jV:IntKind.i64.max=9223372036854775807:=rfl;rw[g9,jV];simp;omega
theorem LL:zm .i64 0 0∧zm .i64 9223372036854775808 0:=by
 refine⟨?_,?_⟩
 ·unfold zm; rfl
 ·unfold zm; rfl
theorem aHz{f k:Nat}(ah:0<f)(h:f<2^52)(aq:f.log2=k):k<52∧(f*2^52).log2=k+52∧2^52≤f*2^(52-k)∧f*2^(52-k)<2*2^52∧f*2^52=f*2^(52-k)*2^k:=by
 have wB:=(Nat.log2_eq_iff (Nat.ne_of_gt ah)).1 aq;have D3:k<52:=by
  apply Classical.byContradiction;intro U;have I:2^52≤2^k:=Nat.pow_le_pow_right (Nat.zero_lt_succ 1) (Nat.le_of_not_lt U);exact absurd (Nat.lt_of_lt_of_le h I) (Nat.not_lt_of_le wB.1)
 obtain⟨D,bR⟩:∃ D,D+k=52:=⟨52-k,by omega⟩
 have zT:52-k=D:=by omega
 have aE:(2:Nat)^52=2^D*2^k:=by rw[← Nat.pow_add,bR]
 rw[zT];generalize (2:Nat)^52=b at *;have a1:0<b:=by rw[aE]; exact Nat.mul_pos (Nat.two_pow_pos _) (Nat.two_pow_pos _)
 refine⟨D3,?_,?_,?_,?_⟩
 ·rw[Nat.log2_eq_iff (Nat.ne_of_gt (Nat.mul_pos ah a1))];have df:(2:Nat)^(k+52)=2^k*b:=by rw[aE,Nat.mul_comm (2^D),← Nat.mul_assoc,← Nat.pow_add,← Nat.pow_add]; congr 1; omega
  have m0:(2:Nat)^(k+52+1)=2^(k+1)*b:=by rw[Nat.pow_succ,df,Nat.pow_succ,Nat.mul_assoc,Nat.mul_assoc,Nat.mul_comm b]
  rw[df,m0];exact⟨Nat.mul_le_mul_right _ wB.1,Nat.mul_lt_mul_of_pos_right wB.2 a1⟩
 ·have:=Nat.mul_le_mul_right (2^D) wB.1;rw[Nat.mul_comm (2^k),← aE] at this;exact this
 ·have:=Nat.mul_lt_mul_of_pos_right wB.2 (Nat.two_pow_pos D);have q9:(2:Nat)^(k+1)*2^D=2*b:=by rw[aE,Nat.pow_succ,Nat.mul_comm (2^D),Nat.mul_comm (2^k) 2,Nat.mul_assoc]
  rw[q9] at this;exact this
 ·rw[aE,Nat.mul_assoc]
theorem Xp{x y o:Nat}(F:x<18446744073709551616)(hm:(~~~ BitVec.ofNat 64 y)=BitVec.ofNat 64 o)(iF:o<18446744073709551616):bits .andNot .u64 (x:Int) (y:Int)=((x&&&o:Nat):Int):=by
 have dC:x&&&o<18446744073709551616:=Nat.lt_of_le_of_lt Nat.and_le_left F;simp only[bits,BitVec.ofInt_natCast];have:(BitVec.ofNat IntKind.u64.bits x &&& ~~~ BitVec.ofNat IntKind.u64.bits y).toNat=x&&&o:=by
  show (BitVec.ofNat 64 x &&& ~~~ BitVec.ofNat 64 y).toNat=x&&&o
  rw[hm,BitVec.toNat_and,BitVec.toNat_ofNat,BitVec.toNat_ofNat,Nat.mod_eq_of_lt F,Nat.mod_eq_of_lt iF]
 rw[this];exact kR _ (by omega) (by omega)
theorem ajV{x:Nat}(F:x<18446744073709551616):bits .andNot .u64 (x:Int) 9223372036854775808=((x%9223372036854775808:Nat):Int):=by
 have:=Xp (y:=9223372036854775808) (o:=9223372036854775807) F (by decide) (by omega);rw[show ((9223372036854775808:Nat):Int)=9223372036854775808 from rfl] at this;rw[this];have j:x&&&9223372036854775807=x%2^63:=Nat.and_two_pow_sub_one_eq_mod x 63;rw[j]
theorem Zb{x:Nat}(F:x<9223372036854775808):bits .andNot .u64 (x:Int) 9218868437227405312=((x%4503599627370496:Nat):Int):=by
 have:=Xp (y:=9218868437227405312) (o:=9227875636482146303) (show x<18446744073709551616 by omega) (by decide) (by omega);rw[show ((9218868437227405312:Nat):Int)=9218868437227405312 from rfl] at this;rw[this];have hH:x&&&9223372036854775807=x%2^63:=Nat.and_two_pow_sub_one_eq_mod x 63;have aR:x=x&&&9223372036854775807:=by rw[hH]; omega
 have a9:x&&&9227875636482146303=x&&&4503599627370495:=by
  conv=>lhs; rw[aR]
  rw[Nat.and_assoc];rfl
 have df:x&&&4503599627370495=x%2^52:=Nat.and_two_pow_sub_one_eq_mod x 52;rw[a9,df]
theorem acm{qQ aU:Nat}(OZ:qQ<2048)(ik:aU<4503599627370496):bits .or .u64 (aU:Int) ((qQ*4503599627370496:Nat):Int)=((qQ*4503599627370496+aU:Nat):Int):=by
 have I:=(bits_nat .u64 64 (by decide) kR aU (qQ*4503599627370496) (by omega) (by omega)).2;have O:=(bits_nat .u64 64 (by decide) kR (qQ*4503599627370496) aU (by omega) (by omega)).2;rw[I,Nat.or_comm,← O];rw[bits_join .u64 64 (by decide) kR 52 _ _ (by omega) (by omega) (by omega) (by omega) (by omega) (by omega)];omega
theorem Xo{x:Int}(ah:0≤x)(I:x<2048):bits .and .u64 x 2047=x∧bits .and .i64 x 2047=x:=by
 constructor
 ·have:=bits_mask .u64 64 (by decide) kR 11 (by decide) x ah (by omega);rw[show (2:Int)^11-1=2047 from rfl] at this;rw[this]; omega
 ·have:=bits_mask .i64 63 (by decide) (fun n ah I=>wrap_i64 (by omega) (by omega)) 11 (by decide) x ah (by omega);rw[show (2:Int)^11-1=2047 from rfl] at this;rw[this]; omega
theorem mul_sub{f:Nat}(ah:0<f)(h:f<4503599627370496):∃ z,xo .mul f 4841369599423283200 z∧4503599627370496≤z∧z<60*4503599627370496:=by
 have aR:Ieee.double.read 4841369599423283200=.number false 4503599627370496 0:=by rw[n3 (by omega)]; rfl
 have a9:Ieee.double.read f=.number false f (-1074):=by
  rw[n3 (by omega)];have bt:ku f=f:=by unfold ku; rw[if_pos h]
  have bI:fi f=0:=by unfold fi; rw[if_pos h]
  rw[bt,bI]; rfl
 have Z9:(2:Nat)^52=4503599627370496:=by decide
 obtain⟨k,aq⟩:∃ k,f.log2=k:=⟨_,rfl⟩
 obtain⟨D3,Pz,wC,r1,F⟩:=aHz ah (by rw[Z9]; exact h) aq;rw[Z9] at Pz wC r1 F;generalize f*2^(52-k)=q at *;have dT:¬ f*4503599627370496=0:=by omega
 refine⟨k*4503599627370496+q,?_,by omega,by omega⟩;unfold xo floatBits;rw[f64];simp only[Ieee.Format.mul,aR,a9,Ieee.Datum.product,Option.map_some,Ieee.Format.write];congr 1;unfold Ieee.Format.nearest;rw[if_neg dT];simp only[Pz,DL,z_,zC,z3];have GS:max ((-1074:Int)+0+((k+52:Nat):Int)-((52:Nat):Int)) (-1074)=-1074+(k:Int):=by omega
 rw[GS];have G4:((-1074:Int)+0-(-1074+(k:Int))).toNat=0:=by omega
 have zY:((-1074+(k:Int))-(-1074+0)).toNat=k:=by omega
 have PQ:((-1074+(k:Int)) - -1074).toNat=k:=by omega
 rw[G4,zY,PQ,Nat.shiftLeft_zero];rw[X1 (q:=q) F (by rw[Pz]; omega)];unfold Ieee.Format.word;rw[if_neg (by simp)];exact Nat.min_eq_left (by omega)
theorem Rp(d:Ieee.Datum):d.order d=if d.isNaN then none else some .eq:=by
 have bt:∀ x:Int,compare x x=.eq:=fun x=>Std.ReflCmp.compare_self;have bI:∀ x:Nat,compare x x=.eq:=fun x=>Std.ReflCmp.compare_self;cases d with
 |nan s t=>rfl
 |infinity s=>simp only[Ieee.Datum.order,bI]; rfl
 |number s y i=>simp only[Ieee.Datum.order,bt]; rfl
theorem QY{f:Nat}(h:f<9218868437227405312):fQ .neq f f=false:=by
 unfold fQ;rw[f64];simp only[Ieee.Format.order,Rp,n3 h];rfl
def ju(f:Nat):Prop:=f=9223372036854775808∨f≤4607182418800017408
section
variable {A w:World} {m bT:List bC}
theorem Xl{f:Nat}(am:f<18446744073709551616)(H:E A m w):M Pg 181 [.float .f64 f] gP w fun r J=>r=f%9223372036854775808∧E A m J:=by
 refine UH ?_;unfold MC;rw[ajV am,Int.toNat_natCast];exact⟨rfl,H⟩
theorem aa2{f:Nat}(H:E A m w):M Pg 230 [.float .f64 f] bk w fun r J=>r=fQ .neq f f∧E A m J:=by
 refine ahL ?_;unfold Vg;exact⟨rfl,H⟩
theorem inf_spec{f:Nat}{s:Int}(am:f<18446744073709551616)(H:E A m w):M Pg 138 [.float .f64 f,.int .i64 s] bk w fun r J=>r=fQ .gtr (if s=0 then f%9223372036854775808 else if s<0 then Op.negFloat .f64 f else f) 9218868437227405311∧E A m J:=by
 refine T3 ?_;unfold Mp CR;by_cases c:s=0
 ·rw[if_pos (by simp[c]),if_pos c];refine ap (Xl am H) ?_;rintro r w ⟨rfl,H⟩;exact⟨rfl,H⟩
 ·rw[if_neg (by simpa using c),if_neg c];by_cases d:s<0
  ·rw[if_pos (by simpa using d),if_pos d];exact⟨rfl,H⟩
  ·rw[if_neg (by simpa using d),if_neg d];exact⟨rfl,H⟩
theorem abN{f:Nat}(ah:0<f)(h:f<9218868437227405312)(H:E A m w):M Pg 231 [.float .f64 f] (bw gP (B .i64)) w fun r J=>(4503599627370496≤f→r=(f,0))∧(f<4503599627370496→r.2=-52∧4503599627370496≤r.1∧r.1<60*4503599627370496)∧E A m J:=by
 refine ahM ?_;unfold Vh;refine ap (Xl (by omega) H) ?_;rintro r w ⟨rfl,H⟩;rw[Nat.mod_eq_of_lt (by omega)];by_cases c:f<4503599627370496
 ·rw[if_pos (aCj c)];obtain⟨z,bL,I,O⟩:=mul_sub ah c;refine aP z bL ?_;exact⟨fun h=>by omega,fun _=>⟨rfl,I,O⟩,H⟩
 ·rw[if_neg (by rw[aCi (by omega) h]; simp)];exact⟨fun _=>rfl,fun h=>absurd h c,H⟩
theorem Zc{f:Nat}(h:f=0∨f=9223372036854775808)(H:E A m w):M Pg 191 [.float .f64 f] (bw gP (B .i64)) w fun r J=>r=(f,0)∧E A m J:=by
 refine UN ?_;unfold MJ;rw[if_pos (by rcases h with rfl | rfl<;>rfl)];exact⟨rfl,H⟩
theorem abn{f:Nat}{j:Int}(h:f=0∨f=9223372036854775808)(H:E A m w):M Pg 193 [.float .f64 f,.int .i64 j] gP w fun r J=>r=f∧E A m J:=by
 refine UO ?_;unfold MK;rw[if_pos (by rcases h with rfl | rfl<;>rfl)];exact⟨rfl,H⟩
theorem aeE(z:Nat):Int.fdiv (z:Int) (2^(min ((52:Int)).toNat IntKind.u64.bits))=((z/4503599627370496:Nat):Int):=by
 have:(2:Int)^(min ((52:Int)).toNat IntKind.u64.bits)=4503599627370496:=by decide
 rw[this,Int.fdiv_eq_ediv_of_nonneg _ (by omega)];omega
theorem Zd{f:Nat}(ah:0<f)(h:f≤4607182418800017408)(H:E A m w):M Pg 191 [.float .f64 f] (bw gP (B .i64)) w fun r J=>(∃ (aU:Nat) (j:Int),r=(1022*4503599627370496+aU,j)∧aU<4503599627370496∧(4503599627370496≤f→aU=f%4503599627370496∧j=(f/4503599627370496:Nat)-1022)∧(f<4503599627370496→-1100≤j∧j≤-1000))∧E A m J:=by
 refine UN ?_;unfold MJ;rw[if_neg (by rw[YL ah (by omega)]; simp)];refine ap (inf_spec (s:=0) (by omega) H) ?_;rintro r w ⟨rfl,H⟩;rw[if_pos rfl,Nat.mod_eq_of_lt (by omega),QS (by omega),if_neg (by simp)];refine ap (aa2 H) ?_;rintro r w ⟨rfl,H⟩;rw[QY (by omega)];unfold IE;rw[if_neg (by simp)];refine ap (abN ah (by omega) H) ?_;rintro⟨z,j⟩ w ⟨I,O,H⟩;have bL:z<9223372036854775808:=by
  by_cases c:f<4503599627370496
  ·have:=(O c).2.2;simp only at this;omega
  ·have:=I (by omega);cases this;omega
 have OZ:z/4503599627370496<2048:=by omega
 dsimp only;rw[aeE z];refine aP ((z/4503599627370496:Nat):Int) ⟨by omega,rfl⟩ ?_;rw[(Xo (x:=((z/4503599627370496:Nat):Int)) (by omega) (by omega)).1,Zb bL];have yl:=acm (qQ:=1022) (aU:=z%4503599627370496) (by omega) (by omega);rw[show ((1022*4503599627370496:Nat):Int)=4602678819172646912 from rfl] at yl;rw[yl];have dF:IntKind.i64.wrap ((z/4503599627370496:Nat):Int)=((z/4503599627370496:Nat):Int):=wrap_i64 (by omega) (by omega);have cB:IntKind.i64.wrap (((z/4503599627370496:Nat):Int)-1023)=((z/4503599627370496:Nat):Int)-1023:=wrap_i64 (by omega) (by omega);have bm:IntKind.i64.wrap (((z/4503599627370496:Nat):Int)-1023+1)=((z/4503599627370496:Nat):Int)-1022:=by rw[wrap_i64 (by omega) (by omega)]; omega
 rw[dF,cB,bm];have he:j=0∨j=-52:=by
  by_cases c:f<4503599627370496
  ·exact .inr (O c).1
  ·have:=I (by omega);cases this;exact .inl rfl
 have aV:IntKind.i64.wrap (j+(((z/4503599627370496:Nat):Int)-1022))=j+(((z/4503599627370496:Nat):Int)-1022):=wrap_i64 (by omega) (by omega);rw[aV];refine⟨⟨z%4503599627370496,_,by rw[Int.toNat_natCast],by omega,fun aL=>?_,fun aL=>?_⟩,H⟩
 ·have:=I aL;cases this;exact⟨rfl,by omega⟩
 ·obtain⟨a,l,c⟩:=O aL;simp only at a l c;omega
theorem abo{aU:Nat}(h:aU<4503599627370496)(H:E A m w):M Pg 193 [.float .f64 (1022*4503599627370496+aU),.int .i64 53] gP w fun r J=>r=1075*4503599627370496+aU∧E A m J:=by
 refine UO ?_;unfold MK;rw[if_neg (by rw[YL (by omega) (by omega)]; simp)];refine ap (inf_spec (s:=0) (by omega) H) ?_;rintro r w ⟨rfl,H⟩;rw[if_pos rfl,Nat.mod_eq_of_lt (by omega),QS (by omega),if_neg (by simp)];refine ap (aa2 H) ?_;rintro r w ⟨rfl,H⟩;rw[QY (by omega)];unfold IF;rw[if_neg (by simp)];refine ap (abN (by omega) (by omega) H) ?_;rintro⟨z,j⟩ w ⟨I,_,H⟩;have:=I (by omega);cases this;dsimp only;rw[aeE (1022*4503599627370496+aU)];refine aP ((1022:Nat):Int) ⟨by omega,by congr 1; omega⟩ ?_;have dF:IntKind.i64.wrap (((1022:Nat):Int))=1022:=by decide
 rw[dF,(Xo (x:=1022) (by omega) (by omega)).2];have cB:IntKind.i64.wrap (IntKind.i64.wrap (53+0)+IntKind.i64.wrap (1022-1023))=52:=by decide
 rw[cB,if_neg (by decide),if_neg (by decide),if_neg (by decide)];unfold IG;have bm:IntKind.u64.wrap ((IntKind.u64.wrap (IntKind.i64.wrap (52+1023)))*2^(min ((52:Int)).toNat IntKind.u64.bits))=4841369599423283200:=by decide
 rw[bm];refine aP 4841369599423283200 ⟨by omega,rfl⟩ ?_;dsimp only;rw[Zb (show 1022*4503599627370496+aU<9223372036854775808 by omega)];have aR:(1022*4503599627370496+aU)%4503599627370496=aU:=by omega
 rw[aR];have yl:=acm (qQ:=1075) (aU:=aU) (by omega) h;rw[show ((1075*4503599627370496:Nat):Int)=4841369599423283200 from rfl] at yl;rw[yl,Int.toNat_natCast];refine aP (1075*4503599627370496+aU) (mul_one h) ?_;exact⟨rfl,H⟩
end
theorem aCF{f:Nat}(h:f<9223372036854775808):Op.negFloat .f64 f=9223372036854775808+f:=by
 have j:(2:Nat)^(FloatKind.f64.format.exponentBits+FloatKind.f64.format.fractionBits)=2^63:=rfl;unfold Op.negFloat;rw[j];have am:f<2^63:=h;have a9:9223372036854775808+f=2^63*1+f:=by omega
 rw[a9];apply Nat.eq_of_testBit_eq;intro D;rw[Nat.testBit_xor,Nat.testBit_two_pow_mul_add 1 am,Nat.testBit_two_pow];by_cases c:D<63
 ·rw[if_pos c];have:decide (63=D)=false:=by simp; omega
  rw[this]; simp
 ·rw[if_neg c];have:f.testBit D=false:=Nat.testBit_lt_two_pow (Nat.lt_of_lt_of_le am (Nat.pow_le_pow_right (by omega) (by omega)));rw[this];by_cases d:63=D
  ·subst d; rfl
  ·have I:decide (63=D)=false:=by simpa using d
   rw[I];have O:Nat.testBit 1 (D-63)=false:=Nat.testBit_lt_two_pow (Nat.one_lt_two_pow (by omega));rw[O]; rfl
theorem aF0{f:Nat}(I:9223372036854775808≤f)(O:f<18446744073709551616):(∃ y i,Ieee.double.read f=.number true y i)∨Ieee.double.read f=.infinity true∨∃ t,Ieee.double.read f=.nan true t:=by
 by_cases c:f=9223372036854775808
 ·subst c;exact .inl ⟨_,_,rfl⟩
 ·rcases ad9 (show 9223372036854775808<f by omega) O with ⟨y,i,_,j⟩ | h
  ·exact .inl ⟨y,i,j⟩
  ·exact .inr h
theorem abC{f:Nat}(I:9223372036854775808≤f)(O:f<18446744073709551616):fQ .gtr f 9218868437227405311=false:=by
 unfold fQ;rw[f64];simp only[Ieee.Format.order,ad8];rcases aF0 I O with ⟨y,i,j⟩ | j | ⟨t,j⟩
 ·rw[j];simp only[Ieee.Datum.order];have aG:Ieee.signed true y (i-min i 971).toNat≤0:=by
   unfold Ieee.signed;rw[if_pos rfl];have:=Int.natCast_nonneg (y <<< (i-min i 971).toNat);omega
  rw[Dx (Int.lt_of_le_of_lt aG (aeA (by omega)))];rfl
 ·rw[j]; rfl
 ·rw[j]; rfl
section
variable {A w:World} {m bT:List bC}
theorem Bl{f:Nat}(am:f<18446744073709551616)(H:E A m w):M Pg 87 [.float .f64 f] (B .i64) w fun r J=>(ju f→3≤r∧r≤5)∧(9223372036854775808<f→r<3)∧(3≤r→fQ .neq f f=false)∧E A m J:=by
 refine WD ?_;unfold Nr;by_cases aL:fQ .neq f f=true
 ·rw[if_pos aL];refine⟨fun h=>?_,fun _=>by omega,fun h=>by omega,H⟩;exfalso;rcases h with rfl | h
  ·exact absurd aL (by decide)
  ·rw[QY (by omega)] at aL;cases aL
 ·rw[if_neg aL];have aL:fQ .neq f f=false:=by simpa using aL
  by_cases b7:f=0
  ·rw[if_pos (by simp[b7])];exact⟨fun _=>by omega,fun h=>by omega,fun _=>aL,H⟩
  ·rw[if_neg (by simpa using b7)];by_cases bt:f=9223372036854775808
   ·rw[if_pos (by simp[bt])];exact⟨fun _=>by omega,fun h=>by omega,fun _=>aL,H⟩
   ·rw[if_neg (by simp; omega)];refine ap (inf_spec (s:=-1) am H) ?_;rintro r w ⟨ab,H⟩;rw[if_neg (by omega),if_pos (by omega)] at ab;subst ab;by_cases aE:f<9223372036854775808
    ·rw[aCF aE,abC (by omega) (by omega),if_neg (by simp)];refine ap (inf_spec (s:=1) am H) ?_;rintro r w ⟨ab,H⟩;rw[if_neg (by omega),if_neg (by omega)] at ab;subst ab;by_cases hm:fQ .gtr f 9218868437227405311=true
     ·rw[if_pos hm];refine⟨fun h=>?_,fun h=>by omega,fun _=>aL,H⟩;exfalso;rcases h with rfl | h
      ·omega
      ·rw[QS (by omega)] at hm;cases hm
     ·rw[if_neg hm,if_neg (by rw[aCh aE]; simp)];exact⟨fun _=>by omega,fun h=>by omega,fun _=>aL,H⟩
    ·split
     ·exact⟨fun h=>by rcases h with h | h<;>omega,fun _=>by omega,fun h=>by omega,H⟩
     ·refine ap (inf_spec (s:=1) am H) ?_;rintro r w ⟨ab,H⟩;rw[if_neg (by omega),if_neg (by omega)] at ab;subst ab;rw[abC (by omega) am,if_neg (by simp),if_pos (aCg (by omega) am aL)];exact⟨fun h=>by rcases h with h | h<;>omega,fun _=>by omega,fun h=>by omega,H⟩
def tY(f:Nat):Int:=if f<9223372036854775808 then (f:Int)+9223372036854775808 else 18446744073709551615-f
theorem aa8{f:Nat}(am:f<18446744073709551616)(aL:fQ .neq f f=false)(H:E A m w):M Pg 139 [.float .f64 f] (B .u64) w fun r J=>r=tY f∧E A m J:=by
 have amo:(2:Int)^(min ((63:Int)).toNat IntKind.u64.bits)=9223372036854775808:=by decide
 refine agy ?_;unfold T4 tY;rw[if_neg (by rw[aL]; simp),amo,Int.fdiv_eq_ediv_of_nonneg _ (by omega)];refine aP _ ⟨by omega,rfl⟩ ?_;by_cases c:f<9223372036854775808
 ·rw[if_neg (by simp; omega),if_pos c];have:=bits_join .u64 64 (by decide) kR 63 9223372036854775808 (f:Int) (by omega) (by omega) (by omega) (by omega) (by omega) (by omega);have O:=(bits_nat .u64 64 (by decide) kR f 9223372036854775808 (by omega) (by omega)).2;have aJ:=(bits_nat .u64 64 (by decide) kR 9223372036854775808 f (by omega) (by omega)).2;have aR:((9223372036854775808:Nat):Int)=9223372036854775808:=rfl;rw[aR] at O aJ;rw[O,Nat.or_comm,← aJ,this];exact⟨by omega,H⟩
 ·rw[if_pos (by simp; omega),if_neg c];have F:bits .xor .u64 IntKind.u64.max (f:Int)=bits .xor .u64 (f:Int) IntKind.u64.max:=by
   simp only[bits,BitVec.xor_comm]
  have I:bits .xor .u64 (f:Int) 18446744073709551615=18446744073709551615-(f:Int):=afN (by omega) (by omega);have O:IntKind.u64.max=18446744073709551615:=rfl;rw[F,O,I];exact⟨rfl,H⟩
theorem alI{f g:Nat}(am:f<18446744073709551616)(R:g<18446744073709551616)(aL:fQ .neq f f=false)(hm:fQ .neq g g=false)(H:E A m w):M Pg 88 [.float .f64 f,.float .f64 g] (B .i64) w fun r J=>(0<r↔tY g<tY f)∧E A m J:=by
 refine aje ?_;unfold WE;refine ap (aa8 am aL H) ?_;rintro r w ⟨rfl,H⟩;refine ap (aa8 R hm H) ?_;rintro r w ⟨rfl,H⟩;by_cases c:tY f<tY g
 ·rw[if_pos (by simpa using c)];exact⟨by omega,H⟩
 ·rw[if_neg (by simpa using c)];by_cases d:tY g<tY f
  ·rw[if_pos (by simpa using d)];exact⟨by omega,H⟩
  ·rw[if_neg (by simpa using d)];exact⟨by omega,H⟩
theorem Ll{f:Nat}(am:f<18446744073709551616)(H:E A m w):M Pg 38 [.float .f64 f] (B .i64) w fun r J=>(r=0↔ju f)∧(r≠0→r=43)∧E A m J:=by
 refine ain ?_;unfold VS IJ;refine ap (Bl am H) ?_;rintro r w ⟨I,O,aJ,H⟩;by_cases c:r<3
 ·rw[if_pos (by simpa using c),if_pos rfl];exact⟨⟨fun h=>by omega,fun h=>by have:=I h; omega⟩,fun _=>rfl,H⟩
 ·rw[if_neg (by simpa using c)];have k3:f≤9223372036854775808:=by
   apply Classical.byContradiction;intro U;have:=O (by omega);omega
  refine ap (alI am (by omega) (aJ (by omega)) (by decide) H) ?_;rintro q w ⟨a8,H⟩;have aR:tY 4607182418800017408=4607182418800017408+9223372036854775808:=rfl;rw[aR] at a8;by_cases d:0<q
  ·rw[if_pos (by simpa using d)];have:=a8.1 d;refine⟨⟨fun h=>by omega,fun h=>?_⟩,fun _=>rfl,H⟩;exfalso;unfold tY at this;rcases h with rfl | h
   ·rw[if_neg (by omega)] at this;omega
   ·rw[if_pos (by omega)] at this;omega
  ·rw[if_neg (by simpa using d)];refine⟨⟨fun _=>?_,fun _=>rfl⟩,fun h=>absurd rfl h,H⟩;by_cases b7:f=9223372036854775808
   ·exact .inl b7
   ·right;have:¬ (4607182418800017408+9223372036854775808:Int)<tY f:=fun h=>d (a8.2 h);unfold tY at this;rw[if_pos (by omega)] at this;omega
theorem uV{n:Int}(H:E A m w):M Pg 213 [.int .i64 n] (B .i64) w fun r J=>r=(if 0≤n∧n≤1000000000000000 then 0 else 40)∧E A m J:=by
 refine ahv ?_;unfold UZ;by_cases c:0≤n∧n≤1000000000000000
 ·rw[if_neg (by simp; omega),if_pos c];exact⟨rfl,H⟩
 ·rw[if_pos (by simp; omega),if_neg c];exact⟨rfl,H⟩
end
def j8(n:Int)(f:Nat):Int:=if f<4503599627370496∨f=9223372036854775808 then 0 else ((n.toNat*(4503599627370496+f%4503599627370496)/2^(1075-f/4503599627370496):Nat):Int)
theorem Jn(b k:Nat)(h:52≤k):b/2^k≤b/4503599627370496:=by
 have aE:(2:Nat)^52=4503599627370496:=by decide
 rw[← aE];exact Nat.div_le_div_left (Nat.pow_le_pow_right (by omega) h) (Nat.two_pow_pos _)
theorem Gz{n:Int}{f:Nat}(ah:0≤n)(I:n≤1000000000000000)(h:ju f):0≤j8 n f∧j8 n f≤2*n:=by
 unfold j8;split
 ·omega
 ·rename_i U;have am:f≤4607182418800017408:=by
   rcases h with h | h
   ·omega
   ·exact h
  have ag:=Jn (n.toNat*(4503599627370496+f%4503599627370496)) (1075-f/4503599627370496) (by omega);have hm:n.toNat*(4503599627370496+f%4503599627370496)≤n.toNat*(2*4503599627370496):=Nat.mul_le_mul_left _ (by omega);refine⟨Int.natCast_nonneg _,?_⟩;generalize n.toNat*(4503599627370496+f%4503599627370496)/2^(1075-f/4503599627370496)=Q at *;generalize n.toNat*(4503599627370496+f%4503599627370496)=cf at *;omega
section
variable {A w:World} {m bT:List bC}
theorem Bo(x:Nat)(k:Nat)(aq:k≤64)(l:Int)(ao:l=(k:Int)):Int.fdiv (x:Int) (2^(min l.toNat IntKind.u64.bits))=((x/2^k:Nat):Int):=by
 subst ao;have j:min ((k:Int)).toNat IntKind.u64.bits=k:=by
  rw[Int.toNat_natCast];exact Nat.min_eq_left aq
 rw[j,Int.fdiv_eq_ediv_of_nonneg _ (Int.le_of_lt (Int.pow_pos (by omega)))];rw[Int.natCast_ediv];congr 1
theorem Cy{n:Int}(ah:0≤n)(I:n≤9223372036854775807)(H:E A m w):M Pg 153 [.int .i64 n] (B .u64) w fun r J=>r=n∧E A m J:=by
 refine Uh ?_;unfold Mv;rw[if_neg (by simp; omega)];exact⟨kR n ah (by omega),H⟩
theorem aG2{n:Int}(ah:0≤n)(I:n<9223372036854775808)(H:E A m w):M Pg 155 [.bool false,.int .u64 n] (bw (B .i64) (B .i64)) w fun r J=>r=(n,0)∧E A m J:=by
 refine Ui ?_;unfold Mw;rw[if_neg (by simp),if_pos (by simp; omega),wrap_i64 (by omega) (by omega)];exact⟨rfl,H⟩
theorem KH{x S:Nat}(F:x<18446744073709551616)(aB:S<18446744073709551616)(H:E A m w):M Pg 152 [.int .u64 (x:Int),.int .u64 (S:Int)] (bw (B .u64) (B .u64)) w fun r J=>r=(((x*S/18446744073709551616:Nat):Int),((x*S%18446744073709551616:Nat):Int))∧E A m J:=by
 refine agM ?_;unfold Ug;have aD7:(2:Nat)^32=4294967296:=by decide
 have m32:∀ z:Nat,z<18446744073709551616→bits .and .u64 (z:Int) 4294967295=((z%4294967296:Nat):Int):=by
  intro z bL;have:=bits_mask .u64 64 (by decide) kR 32 (by decide) (z:Int) (by omega) (by omega);rw[show (2:Int)^32-1=4294967295 from rfl] at this;rw[this];omega
 have H6:∀ z:Nat,Int.fdiv (z:Int) (2^(min ((32:Int)).toNat IntKind.u64.bits))=((z/4294967296:Nat):Int):=by
  intro z;rw[Bo z 32 (by omega) 32 rfl,aD7]
 have wn:∀ z:Nat,z<18446744073709551616→IntKind.u64.wrap (z:Int)=(z:Int):=fun z bL=>kR _ (by omega) (by omega);rw[m32 x F,m32 S aB];obtain⟨cj,z1⟩:∃ z,x/4294967296=z:=⟨_,rfl⟩
 obtain⟨bF,arB⟩:∃ z,x%4294967296=z:=⟨_,rfl⟩
 obtain⟨gV,BQ⟩:∃ z,S/4294967296=z:=⟨_,rfl⟩
 obtain⟨hC,BP⟩:∃ z,S%4294967296=z:=⟨_,rfl⟩
 have XI:cj≤4294967295:=by omega
 have XH:bF≤4294967295:=by omega
 have XK:gV≤4294967295:=by omega
 have XJ:hC≤4294967295:=by omega
 have r2:x=cj*4294967296+bF:=by omega
 have BR:S=gV*4294967296+hC:=by omega
 refine aP (cj:Int) ⟨by omega,by rw[H6 x,z1]⟩ ?_;refine aP (gV:Int) ⟨by omega,by rw[H6 S,BQ]⟩ ?_;rw[arB,BP];have aJv:bF*hC≤4294967295*4294967295:=Nat.mul_le_mul XH XJ;have aJw:bF*gV≤4294967295*4294967295:=Nat.mul_le_mul XH XK;have Xw:cj*hC≤4294967295*4294967295:=Nat.mul_le_mul XI XJ;have Dr:cj*gV≤4294967295*4294967295:=Nat.mul_le_mul XI XK;have aKd:x*S=cj*gV*18446744073709551616+(cj*hC+bF*gV)*4294967296+bF*hC:=by
  rw[r2,BR,Nat.add_mul,Nat.mul_add,Nat.mul_add];have aR:cj*4294967296*(gV*4294967296)=cj*gV*18446744073709551616:=by rw[Nat.mul_mul_mul_comm]
  have a9:cj*4294967296*hC=cj*hC*4294967296:=by rw[Nat.mul_assoc,Nat.mul_comm 4294967296,← Nat.mul_assoc]
  have df:bF*(gV*4294967296)=bF*gV*4294967296:=by rw[Nat.mul_assoc]
  rw[aR,a9,df,Nat.add_mul];omega
 have akE:((bF:Int)*(hC:Int))=((bF*hC:Nat):Int):=by rw[Int.natCast_mul]
 have akF:((bF:Int)*(gV:Int))=((bF*gV:Nat):Int):=by rw[Int.natCast_mul]
 have akG:((cj:Int)*(hC:Int))=((cj*hC:Nat):Int):=by rw[Int.natCast_mul]
 have akH:((cj:Int)*(gV:Int))=((cj*gV:Nat):Int):=by rw[Int.natCast_mul]
 have al0:((x:Int)*(S:Int))=((x*S:Nat):Int):=by rw[Int.natCast_mul]
 rw[akE,akF,akG,akH,al0];generalize bF*hC=d at *;generalize bF*gV=c at *;generalize cj*hC=l at *;generalize cj*gV=a at *;generalize x*S=b at *;rw[wn d (by omega),wn l (by omega),wn c (by omega),wn a (by omega)];refine aP ((d/4294967296:Nat):Int) ⟨by omega,(H6 d).symm⟩ ?_;have aR:(l:Int)+((d/4294967296:Nat):Int)=((l+d/4294967296:Nat):Int):=by omega
 rw[aR,wn _ (by omega),m32 _ (by omega)];refine aP (((l+d/4294967296)/4294967296:Nat):Int) ⟨by omega,(H6 _).symm⟩ ?_;have a9:(((l+d/4294967296)%4294967296:Nat):Int)+(c:Int)=(((l+d/4294967296)%4294967296+c:Nat):Int):=by omega
 rw[a9,wn _ (by omega)];refine aP ((((l+d/4294967296)%4294967296+c)/4294967296:Nat):Int) ⟨by omega,(H6 _).symm⟩ ?_;have df:(a:Int)+(((l+d/4294967296)/4294967296:Nat):Int)=((a+(l+d/4294967296)/4294967296:Nat):Int):=by omega
 rw[df,wn _ (by omega)];have m0:((a+(l+d/4294967296)/4294967296:Nat):Int)+((((l+d/4294967296)%4294967296+c)/4294967296:Nat):Int)=((a+(l+d/4294967296)/4294967296+((l+d/4294967296)%4294967296+c)/4294967296:Nat):Int):=by omega
 rw[m0,wn _ (by omega)];have q9:IntKind.u64.wrap (b:Int)=((b%18446744073709551616:Nat):Int):=by rw[lw]; omega
 rw[q9];refine⟨?_,H⟩;have xP:a+(l+d/4294967296)/4294967296+((l+d/4294967296)%4294967296+c)/4294967296=b/18446744073709551616:=by omega
 rw[xP]
theorem DB{b k:Nat}(a1:b<2^104)(aq:52≤k)(jp:k≤4000)(H:E A m w):M Pg 156 [.int .u64 ((b/18446744073709551616:Nat):Int),.int .u64 ((b%18446744073709551616:Nat):Int),.int .u64 (k:Int)] (mm (B .u64) bk bk) w fun r J=>r.1=((b/2^k:Nat):Int)∧r.2.2=true∧E A m J:=by
 have yS:(2:Nat)^64=18446744073709551616:=by decide
 have yR:(2:Nat)^104=18446744073709551616*1099511627776:=by decide
 refine Uj ?_;unfold Mx;by_cases bt:128≤k
 ·rw[if_pos (by simp; omega)];have:b/2^k=0:=Nat.div_eq_of_lt (Nat.lt_of_lt_of_le a1 (Nat.pow_le_pow_right (by omega) (by omega)));rw[this];exact⟨rfl,rfl,H⟩
 ·rw[if_neg (by simp; omega)];by_cases bI:64<k
  ·rw[if_pos (by simp; omega)];have dF:IntKind.u64.wrap ((k:Int)-64)=((k-64:Nat):Int):=by rw[kR _ (by omega) (by omega)]; omega
   have cB:IntKind.u64.wrap ((128:Int)-(k:Int))=((128-k:Nat):Int):=by rw[kR _ (by omega) (by omega)]; omega
   rw[dF,cB];refine aP _ ⟨by omega,(Bo (b/18446744073709551616) (k-64) (by omega) _ rfl).symm⟩ ?_;refine aP _ ⟨by omega,rfl⟩ ?_;refine⟨?_,rfl,H⟩;have:2^k=18446744073709551616*2^(k-64):=by rw[← yS,← Nat.pow_add]; congr 1; omega
   simp only;rw[this,Nat.div_div_eq_div_mul]
  ·rw[if_neg (by simp; omega)];by_cases cc:k=64
   ·subst cc;rw[if_pos (by simp)];exact⟨by rw[yS],rfl,H⟩
   ·rw[if_neg (by simp; omega)];have dF:IntKind.u64.wrap ((64:Int)-(k:Int))=((64-k:Nat):Int):=by rw[kR _ (by omega) (by omega)]; omega
    rw[dF];obtain⟨D,bR⟩:∃ D,D+k=64:=⟨64-k,by omega⟩
    have zT:64-k=D:=by omega
    rw[zT];have ym:(2:Nat)^D*2^k=18446744073709551616:=by rw[← Nat.pow_add,bR,yS]
    have D3:4503599627370496≤2^k:=by
     have:(2:Nat)^52=4503599627370496:=by decide
     rw[← this];exact Nat.pow_le_pow_right (by omega) aq
    have Pv:2^D≤4096:=by
     have:(2:Nat)^12=4096:=by decide
     rw[← this];exact Nat.pow_le_pow_right (by omega) (by omega)
    have ZW:b/18446744073709551616<1099511627776:=by
     rw[yR] at a1;exact Nat.div_lt_of_lt_mul a1
    have GV:b%18446744073709551616<18446744073709551616:=Nat.mod_lt _ (by omega);have JI:b=b/18446744073709551616*18446744073709551616+b%18446744073709551616:=by omega
    have hdiv:b/2^k=b/18446744073709551616*2^D+b%18446744073709551616/2^k:=by
     conv=>lhs; rw[JI,← ym,← Nat.mul_assoc]
     rw[ym,Nat.add_comm,Nat.add_mul_div_right _ _ (Nat.two_pow_pos k),Nat.add_comm]
    generalize b/18446744073709551616=ax at *;generalize b%18446744073709551616=nB at *;have mb:nB/2^k<2^D:=Nat.div_lt_of_lt_mul (by rw[Nat.mul_comm,ym]; exact GV);have GO:ax*2^D≤1099511627776*4096:=Nat.mul_le_mul (by omega) Pv;refine aP _ ⟨by omega,(Bo nB k (by omega) _ rfl).symm⟩ ?_;have aR:IntKind.u64.wrap ((ax:Int)*2^(min ((D:Int)).toNat IntKind.u64.bits))=((ax*2^D:Nat):Int):=by
     have:min ((D:Int)).toNat IntKind.u64.bits=D:=by
      rw[Int.toNat_natCast];exact Nat.min_eq_left (by show D≤64; omega)
     rw[this];have c:(ax:Int)*2^D=((ax*2^D:Nat):Int):=by rw[Int.natCast_mul]; congr 1
     rw[c];exact kR _ (by omega) (by omega)
    refine aP _ ⟨by omega,rfl⟩ ?_;rw[aR];refine aP _ ⟨by omega,rfl⟩ ?_;refine aP _ ⟨by omega,(Bo ax k (by omega) _ rfl).symm⟩ ?_;have ah:ax/2^k=0:=Nat.div_eq_of_lt (by omega);rw[ah];refine⟨?_,rfl,H⟩;simp only;rw[hdiv];have yl:=(bits_nat .u64 64 (by decide) kR (nB/2^k) (ax*2^D) (by omega) (by omega)).2;rw[yl,Nat.or_comm,Nat.mul_comm ax,← Nat.two_pow_add_eq_or_of_lt mb]
theorem KF{f:Nat}{aa:Nat×Int→World→Prop}(h:M Pg 191 [.float .f64 f] (bw gP (B .i64)) w aa):M Pg 150 [.float .f64 f] (bw gP (B .i64)) w aa:=by
 refine agK ?_;unfold Ue;exact h
theorem KG{f:Nat}{j:Int}{aa:Nat→World→Prop}(h:M Pg 193 [.float .f64 f,.int .i64 j] gP w aa):M Pg 151 [.float .f64 f,.int .i64 j] gP w aa:=by
 refine agL ?_;unfold Uf;exact h
theorem ae4{n:Int}{f:Nat}(ah:0≤n)(I:n≤1000000000000000)(am:ju f)(H:E A m w):M Pg 95 [.int .i64 n,.float .f64 f] (bw (B .i64) (B .i64)) w fun r J=>r=(j8 n f,0)∧E A m J:=by
 have wA:f<18446744073709551616:=by rcases am with h | h<;>omega
 obtain⟨k,rfl⟩:∃ k:Nat,n=(k:Int):=⟨n.toNat,by omega⟩
 refine WK ?_;unfold Nx;refine ap (Bl wA H) ?_;rintro c w ⟨U,_,_,H⟩;have U:=U am;rw[if_neg (by simp; omega),if_neg (by simp; omega)];have xP:(c==6)=false:=by rw[beq_eq_false_iff_ne]; omega
 rw[xP];unfold FQ;rw[if_neg (by simp)];by_cases bL:f=0∨f=9223372036854775808
 ·refine KF (ap (Zc bL H) ?_);rintro r w ⟨rfl,H⟩;refine KG (ap (abn (j:=53) bL H) ?_);rintro r w ⟨rfl,H⟩;refine aP 0 (by rcases bL with h | h<;>subst h; exact LL.1; exact LL.2) ?_;refine ap (Cy ah (by omega) H) ?_;rintro r w ⟨rfl,H⟩;refine ap (Cy (n:=0) (by omega) (by omega) H) ?_;rintro r w ⟨rfl,H⟩;refine ap (KH (x:=k) (S:=0) (by omega) (by omega) H) ?_;rintro r w ⟨rfl,H⟩;rw[if_pos (by simp)];have:j8 k r=0:=by
   unfold j8;rw[if_pos (by omega)]
  rw[this];exact⟨rfl,H⟩
 ·have k3:0<f∧f≤4607182418800017408:=by rcases am with h | h<;>omega
  refine KF (ap (Zd k3.1 k3.2 H) ?_);rintro r w ⟨⟨aU,j,rfl,ik,aL,aG⟩,H⟩;refine KG (ap (abo ik H) ?_);rintro r w ⟨rfl,H⟩;refine aP _ (ae8 ik) ?_;refine ap (Cy ah (by omega) H) ?_;rintro r w ⟨rfl,H⟩;refine ap (Cy (n:=((4503599627370496+aU:Nat):Int)) (by omega) (by omega) H) ?_;rintro r w ⟨rfl,H⟩;refine ap (KH (x:=k) (S:=4503599627370496+aU) (by omega) (by omega) H) ?_;rintro r w ⟨rfl,H⟩;have JL:k*(4503599627370496+aU)≤1000000000000000*9007199254740992:=Nat.mul_le_mul (by omega) (by omega);have yR:(2:Nat)^104=18446744073709551616*1099511627776:=by decide
  have he:j≤1∧-1100≤j∧(f<4503599627370496→j≤-1000):=by
   by_cases c:f<4503599627370496
   ·have:=aG c;omega
   ·have:=(aL (by omega)).2;omega
  have dF:IntKind.i64.wrap (j-53)=j-53:=wrap_i64 (by omega) (by omega);have cB:IntKind.u64.wrap (IntKind.i64.wrap (0-(j-53)))=((53-j).toNat:Nat):=by rw[wrap_i64 (by omega) (by omega),kR _ (by omega) (by omega)]; omega
  dsimp only;rw[dF,cB];have BH:j8 k f=((k*(4503599627370496+aU)/2^(53-j).toNat:Nat):Int):=by
   unfold j8;by_cases c:f<4503599627370496
   ·rw[if_pos (.inl c)];have aq:104≤(53-j).toNat:=by have:=he.2.2 c; omega
    have aE:2^104≤2^(53-j).toNat:=Nat.pow_le_pow_right (by omega) aq;rw[Nat.div_eq_of_lt (Nat.lt_of_lt_of_le (by rw[yR]; omega) aE)];rfl
   ·rw[if_neg (by omega)];obtain⟨a,l⟩:=aL (by omega);have:(53-j).toNat=1075-f/4503599627370496:=by omega
    rw[this,Int.toNat_natCast,a]
  rw[BH];have a8:=Jn (k*(4503599627370496+aU)) (53-j).toNat (by omega);by_cases F:k*(4503599627370496+aU)=0
  ·rw[if_pos (by rw[F]; simp),F];exact⟨by simp,H⟩
  ·generalize k*(4503599627370496+aU)=cf at *;rw[if_neg (by simp; omega),if_neg (by simp; omega)];refine ap (DB (b:=cf) (k:=(53-j).toNat) (by rw[yR]; omega) (by omega) (by omega) H) ?_;rintro⟨q,rest,fits⟩ w ⟨I,O,H⟩;simp only at I O;subst I; subst O;have aR:decide ((k:Int)<0)=false:=by simp
   have a9:decide (((4503599627370496+aU:Nat):Int)<0)=false:=by rw[decide_eq_false_iff_not]; omega
   rw[aR,a9];rw[if_neg (by simp),if_neg (by simp)];unfold CZ;rw[aR,a9];generalize cf/2^(53-j).toNat=Q at *;refine ap (aG2 (n:=((Q:Nat):Int)) (by omega) (by omega) H) ?_;rintro r w ⟨rfl,H⟩;exact⟨rfl,H⟩
theorem anR{n:Int}{f:Nat}(ah:0≤n)(I:n≤1000000000000000)(am:ju f)(H:E A m w):M Pg 248 [.int .i64 n,.float .f64 f] (bw (B .i64) (B .i64)) w fun r J=>r=(j8 n f,0)∧E A m J:=by
 have wA:f<18446744073709551616:=by rcases am with h | h<;>omega
 refine ahW ?_;unfold Vq;refine ap (uV H) ?_;rintro r w ⟨rfl,H⟩;rw[if_pos (⟨ah,I⟩:0≤n∧n≤1000000000000000),if_neg (by simp)];refine ap (Ll wA H) ?_;rintro r w ⟨O,_,H⟩;have:=O.2 am;subst this;rw[if_neg (by simp)];refine ap (ae4 ah I am H) ?_;rintro r w ⟨rfl,H⟩;exact⟨rfl,H⟩
def il(n:Int):Prop:=0≤n∧n≤1000000000000000
theorem aH8{a l:Int}{s:af}(k:di 1 m (B .i64) s [a,l])(H:E A m w):M Pg 260 [X.enc s] (bw (B .i64) (B .i64)) w fun r J=>(r.2=0↔il a∧il l∧a+l≤1000000000000000)∧(r.2=0→r.1=a+l)∧E A m J:=by
 have aG:=k.len H;simp only[List.length_cons,List.length_nil] at aG;refine ah9 ?_;unfold VD;refine hY (fun p w=>(p=(0,0)∨(il a∧p=(a,1))∨(il a∧il l∧p=(a+l,2)))∧E A m w) (fun p=>(2-p.2).toNat) ⟨.inl rfl,H⟩ ?_;clear H;rintro⟨sum,i⟩ w ⟨ax,H⟩ aa ca;unfold M0 II;simp only;rw[aG];have step:∀ (x:Int) (D:Nat),i=(D:Int)→D<2→([a,l]:List Int)[D]?=some x→sum≤1000000000000000→(il x→((sum+x,i+1)=(0,0)∨(il a∧(sum+x,i+1)=(a,1))∨(il a∧il l∧(sum+x,i+1)=(a+l,2)))∧-1000000000000000000≤sum)→(¬ il x→¬ (il a∧il l∧a+l≤1000000000000000)) →
   if decide (i<((0+1+1:Nat):Int))=true then
    ex (cM s 1 i) fun cP=>ex (L (B .i64) cP w) fun cH=>M Pg 213 [.int .i64 (cH)] (B .i64) w fun hh cn=>
     if (hh != (0:Int))=true then (((0:Int),(40:Int)).2=0↔il a∧il l∧a+l≤1000000000000000)∧(((0:Int),(40:Int)).2=0→((0:Int),(40:Int)).1=a+l)∧E A m cn
     else if (decide (sum≤(1000000000000000:Int)))=true then aa (IntKind.i64.wrap (sum+cH),IntKind.i64.wrap (i+(1:Int))) cn else aa (sum,IntKind.i64.wrap (i+(1:Int))) cn
   else M Pg 213 [.int .i64 sum] (B .i64) w fun fU db=>if (fU != (0:Int))=true then (((0:Int),(40:Int)).2=0↔il a∧il l∧a+l≤1000000000000000)∧(((0:Int),(40:Int)).2=0→((0:Int),(40:Int)).1=a+l)∧E A m db else ((sum,(0:Int)).2=0↔il a∧il l∧a+l≤1000000000000000)∧((sum,(0:Int)).2=0→(sum,(0:Int)).1=a+l)∧E A m db:=by
  intro x D GO bR F J7 ok no;rw[if_pos (by simp; omega)];obtain⟨c,U⟩:=k.iw (i:=i) H (by omega) (by simp; omega);refine aP c U ?_;refine aP x (k.rd U (by rw[GO,Int.toNat_natCast]; exact F) H) ?_;refine ap (uV H) ?_;rintro r w ⟨rfl,H⟩;by_cases dr:0≤x∧x≤1000000000000000
  ·rw[if_pos dr,if_neg (by simp),if_pos (by simpa using J7)];obtain⟨I,O⟩:=ok dr;rw[wrap_i64 (x:=sum+x) (by omega) (by omega),wrap_i64 (x:=i+1) (by omega) (by omega)];exact ca _ _ ⟨I,H⟩ (by simp only; omega)
  ·rw[if_neg dr,if_pos (by simp)];exact⟨⟨fun h=>by simp at h,fun h=>absurd h (no dr)⟩,fun h=>by simp at h,H⟩
 rcases ax with ax | ⟨Y,ax⟩ | ⟨Y,ao,ax⟩
 ·cases ax;exact step a 0 rfl (by omega) rfl (by omega) (fun h=>⟨.inr (.inl ⟨h,by simp⟩),by omega⟩) fun h cD=>h cD.1
 ·cases ax;exact step l 1 rfl (by omega) rfl Y.2 (fun h=>⟨.inr (.inr ⟨Y,h,by trivial⟩),by have:=Y.1; omega⟩) fun h cD=>h cD.2.1
 ·cases ax;rw[if_neg (by simp)];refine ap (uV H) ?_;rintro r w ⟨rfl,H⟩;have I:=Y.1;have O:=ao.1;by_cases dr:a+l≤1000000000000000
  ·have j:(if 0≤a+l∧a+l≤1000000000000000 then (0:Int) else 40)=0:=if_pos ⟨by omega,dr⟩;rw[j,if_neg (by simp)];exact⟨⟨fun _=>⟨Y,ao,dr⟩,fun _=>by trivial⟩,fun _=>rfl,H⟩
  ·have j:(if 0≤a+l∧a+l≤1000000000000000 then (0:Int) else 40)=40:=if_neg (fun h=>dr h.2);rw[j,if_pos (by simp)];exact⟨⟨fun h=>by simp at h,fun h=>absurd h.2.2 dr⟩,fun h=>by simp at h,H⟩
theorem aj1{a l:Int}(H:E A m w):M Pg 247 [.int .i64 a,.int .i64 l] (bw (B .i64) (B .i64)) w fun r J=>(r.2=0↔il a∧il l∧a+l≤1000000000000000)∧(r.2=0→r.1=a+l)∧E A m J:=by
 refine ahV ?_;unfold Vp;refine vq H fun iC w H=>?_;have H:=us (ar:=1) (y:=2) rfl H;refine ap (aH8 (a:=a) (l:=l) (di.row (fun _=>rfl) 0 rfl) H) ?_;rintro r w ⟨I,O,H⟩;exact⟨I,O,H.drop⟩
end
end Num
namespace Disk
open bf Wire
def LM(c:Int):Int:=bits .xor .u32 (Int.fdiv c (2^(min ((1:Int)).toNat IntKind.u32.bits))) (bits .and .u32 (IntKind.u32.wrap (0-(bits .and .u32 c (1:Int)))) (3988292384:Int))
def turns:Nat→Int→Int
 |0,c=>c
 |n+1,c=>turns n (LM c)
def sc(c:Int):List UInt8→Int
 |[]=>c
 |x::xs=>sc (turns 8 (bits .xor .u32 c (IntKind.u32.wrap (x.toNat:Int)))) xs
def Sx(a l:List UInt8):Int:=bits .xor .u32 IntKind.u32.max (sc (sc 4294967295 a) l)
def y2(a l:List UInt8):Nat:=(Sx a l).toNat
theorem Ds(op:BinOp)(a l:Int):0≤bits op .u32 a l∧bits op .u32 a l<4294967296:=by
 have h:∀ n:Int,0≤IntKind.u32.wrap n∧IntKind.u32.wrap n<4294967296:=by
  intro n;have:IntKind.u32.wrap n=n%4294967296:=by simp[IntKind.wrap,IntKind.bits,IntKind.signed]
  rw[this]; omega
 exact h _
theorem afa:∀ (n:Nat) (c:Int),0≤c→c<4294967296→0≤turns n c∧turns n c<4294967296
 |0,c,ah,I=>⟨ah,I⟩
 |n+1,c,_,_=>afa n (LM c) (Ds _ _ _).1 (Ds _ _ _).2
theorem acg:∀ (av:List UInt8) (c:Int),0≤c→c<4294967296→0≤sc c av∧sc c av<4294967296
 |[],c,ah,I=>⟨ah,I⟩
 |x::xs,c,ah,I=>by
  have h:=afa 8 (bits .xor .u32 c (IntKind.u32.wrap (x.toNat:Int))) (Ds _ _ _).1 (Ds _ _ _).2;exact acg xs _ h.1 h.2
theorem aeO(a l:List UInt8):((y2 a l:Nat):Int)=Sx a l:=by
 have:=(Ds .xor IntKind.u32.max (sc (sc 4294967295 a) l)).1;unfold y2;exact Int.toNat_of_nonneg this
theorem aeP(a l:List UInt8):y2 a l<4294967296:=by
 have:=(Ds .xor IntKind.u32.max (sc (sc 4294967295 a) l)).2;have h:=aeO a l;unfold Sx at h;omega
def g2(x:List UInt8):List UInt8:=be 4 x.length++(be 4 (y2 (be 4 x.length) x)++x)
def cy(m:List (List UInt8)):List UInt8:=m.flatMap g2
theorem u1(x:List UInt8):(g2 x).length=8+x.length:=by simp[g2,uQ]; omega
theorem Ze(m y:List (List UInt8)):cy (m++y)=cy m++cy y:=by simp[cy]
def pZ:List UInt8→Nat
 |a::l::c::d::_=>((a.toNat*256+l.toNat)*256+c.toNat)*256+d.toNat
 |_=>0
theorem R8{n:Nat}(h:n<4294967296)(rest:List UInt8):pZ (be 4 n++rest)=n:=by
 have ah:(UInt8.ofNat (n/256^3%256)).toNat=n/16777216%256:=by rw[Az (by omega)]
 have I:(UInt8.ofNat (n/256^2%256)).toNat=n/65536%256:=by rw[Az (by omega)]
 have O:(UInt8.ofNat (n/256^1%256)).toNat=n/256%256:=by rw[Az (by omega)]
 have aJ:(UInt8.ofNat (n/256^0%256)).toNat=n%256:=by rw[Az (by omega)]; simp
 simp only[be,List.cons_append,pZ,ah,I,O,aJ];omega
def nD(av:List UInt8):Except Int (List UInt8×Nat):=
 if av.length<8 then .error 31 else if 65536<pZ av then .error 30 else if av.length-8<pZ av then .error 31
 else if y2 (av.take 4) ((av.drop 8).take (pZ av))≠pZ (av.drop 4) then .error 32 else .ok ((av.drop 8).take (pZ av),8+pZ av)
theorem aDZ{x:List UInt8}(h:x.length≤65536)(rest:List UInt8):nD (g2 x++rest)=.ok (x,8+x.length):=by
 have j:g2 x++rest=be 4 x.length++(be 4 (y2 (be 4 x.length) x)++(x++rest)):=by simp[g2]
 have gN:pZ (g2 x++rest)=x.length:=by rw[j]; exact R8 (by omega) _
 have d4:(g2 x++rest).drop 4=be 4 (y2 (be 4 x.length) x)++(x++rest):=by
  rw[j]; exact List.drop_left' (uQ 4 _)
 have t4:(g2 x++rest).take 4=be 4 x.length:=by rw[j]; exact List.take_left' (uQ 4 _)
 have d8:(g2 x++rest).drop 8=x++rest:=by
  have:(g2 x++rest).drop 8=((g2 x++rest).drop 4).drop 4:=by rw[List.drop_drop]
  rw[this,d4]; exact List.drop_left' (uQ 4 _)
 have al:(g2 x++rest).length=8+x.length+rest.length:=by rw[List.length_append,u1]
 unfold nD;rw[gN,d4,t4,d8,R8 (aeP _ _),al,List.take_left];rw[if_neg (by omega),if_neg (by omega),if_neg (by omega),if_neg (by simp)]
theorem aDX{x p q:List UInt8}(h:x.length≤65536)(he:g2 x=p++q)(a8:q≠[]):∃ j,nD p=.error j:=by
 have al:=congrArg List.length he;rw[u1,List.length_append] at al;have j_:q.length≠0:=fun j=>a8 (List.eq_nil_of_length_eq_zero j);unfold nD;by_cases c:p.length<8
 ·exact⟨31,if_pos c⟩
 ·have aS:p.take 4=be 4 x.length:=by
   have:=congrArg (List.take 4) he;rw[List.take_append_of_le_length (by omega)] at this;rw[← this,g2]; exact List.take_left' (uQ 4 _)
  have aE:p=be 4 x.length++p.drop 4:=by rw[← aS,List.take_append_drop]
  have gN:pZ p=x.length:=by rw[aE]; exact R8 (by omega) _
  rw[gN,if_neg c,if_neg (by omega),if_pos (by omega)];exact⟨31,rfl⟩
theorem K2{av x:List UInt8}{n:Nat}(h:nD av=.ok (x,n)):n≤av.length∧8≤n∧n=8+x.length∧x.length≤65536:=by
 unfold nD at h;split at h
 ·cases h
 ·split at h
  ·cases h
  ·split at h
   ·cases h
   ·split at h
    ·cases h
    ·simp only[Except.ok.injEq,Prod.mk.injEq] at h;obtain⟨I,O⟩:=h;have:x.length=pZ av:=by rw[← I,List.length_take,List.length_drop]; omega
     omega
def qz:Nat→List UInt8→List (List UInt8)→Nat→List (List UInt8)×Nat
 |0,_,m,a=>(m,a)
 |f+1,av,m,a=>match nD av with
  |.error _=>(m,a)
  |.ok (x,n)=>qz f (av.drop n) (m++[x]) (a+n)
def scan(av:List UInt8):List (List UInt8)×Nat:=qz (av.length+1) av [] 0
def Small(m:List (List UInt8)):Prop:=∀ x∈m,x.length≤65536
theorem aes:∀ {m:List (List UInt8)} {f a:Nat} {p:List UInt8} {y:List (List UInt8)},Small m→(∃ j,nD p=.error j)→m.length<f→qz f (cy m++p) y a=(y++m,a+(cy m).length)
 |[],f,a,p,y,_,⟨j,he⟩,am=>by
  obtain⟨g,rfl⟩:∃ g,f=g+1:=⟨f-1,by simp at am; omega⟩
  simp[cy,qz,he]
 |x::m,f,a,p,y,aG,aE,am=>by
  obtain⟨g,rfl⟩:∃ g,f=g+1:=⟨f-1,by simp at am; omega⟩
  have F:x.length≤65536:=aG x (by simp);have j:cy (x::m)++p=g2 x++(cy m++p):=by simp[cy]
  simp only[qz];rw[j,aDZ F];simp only;rw[show (g2 x++(cy m++p)).drop (8+x.length)=cy m++p from List.drop_left' (u1 x)];rw[aes (fun S aB=>aG S (by simp[aB])) aE (by simp at am; omega)];have a9:(cy (x::m)).length=8+x.length+(cy m).length:=by
   have:cy (x::m)=g2 x++cy m:=by simp[cy]
   rw[this,List.length_append,u1]
  rw[a9];simp; omega
theorem Zg:∀ m:List (List UInt8),m.length≤(cy m).length
 |[]=>by simp
 |x::m=>by
  have:=Zg m;have j:cy (x::m)=g2 x++cy m:=by simp[cy]
  rw[j,List.length_append,u1];simp; omega
theorem aGK{m:List (List UInt8)}{p:List UInt8}(aG:Small m)(aE:∃ j,nD p=.error j):scan (cy m++p)=(m,(cy m).length):=by
 unfold scan;rw[aes aG aE (by have:=Zg m; rw[List.length_append]; omega)];simp
theorem Zf:∀ (m:List (List UInt8)) (n:Nat),Small m→n≤(cy m).length→∃ i p,i≤m.length∧(cy m).take n=cy (m.take i)++p∧(∃ j,nD p=.error j)∧∀ k,(cy (m.take k)).length≤n→k≤m.length→k≤i
 |[],n,_,h=>⟨0,[],by simp,by simp[cy],⟨31,rfl⟩,fun k _ h=>by simpa using h⟩
 |x::m,n,aG,h=>by
  have j:cy (x::m)=g2 x++cy m:=by simp[cy]
  have F:x.length≤65536:=aG x (by simp);rw[j,List.length_append] at h;rw[j];by_cases c:n<(g2 x).length
  ·refine⟨0,(g2 x).take n,by simp,?_,?_,?_⟩
   ·rw[List.take_append_of_le_length (by omega)]; simp[cy]
   ·refine aDX F (List.take_append_drop n _).symm ?_;intro ah;have:=congrArg List.length ah;rw[List.length_drop] at this;simp at this; omega
   ·intro k aq JX;cases k with
    |zero=>omega
    |succ k=>
     have a9:cy ((x::m).take (k+1))=g2 x++cy (m.take k):=by simp[cy]
     rw[a9,List.length_append] at aq;omega
  ·obtain⟨i,p,I,O,aJ,bl⟩:=Zf m (n-(g2 x).length) (fun S aB=>aG S (by simp[aB])) (by omega);refine⟨i+1,p,by simp; omega,?_,aJ,?_⟩
   ·rw[List.take_append,List.take_of_length_le (by omega),O]; simp[cy]
   ·intro k aq JX;cases k with
    |zero=>omega
    |succ k=>
     have a9:cy ((x::m).take (k+1))=g2 x++cy (m.take k):=by simp[cy]
     rw[a9,List.length_append] at aq;have:=bl k (by omega) (by simpa using JX);omega
theorem ze(n:Int):IntKind.u32.wrap n=n%4294967296:=by simp[IntKind.wrap,IntKind.bits,IntKind.signed]
theorem S4(n:Int)(ah:0≤n)(I:n<2^32):IntKind.u32.wrap n=n:=by rw[ze]; omega
section
variable {A w:World} {m bT:List bC} {s:af} {av:List UInt8}
theorem aCt{Z:Type}{T:bu Z}{t:TypeId}{ar az:Nat}{c:Int}{z:Z}{aa:af→World→Prop}(al:∀ x,(T.cells x).length=ar)(ah:0≤c)(I:(az:Int)*c≤281474976710656)(O:c≤9223372036854775807)(H:E A m w)
  (aq:∀ r J,E A (row T t ar r []::m) J→aa r J):yI t T az z 0 c w aa:=
 ⟨Int.le_refl _,ah,I,O,aq _ _ (ut (rest:=(List.replicate c.toNat z).flatMap T.cells) rfl rfl (by simp) (by rw[nV al]; simp) (H.alloc _))⟩
theorem acf{c:Int}(ah:0≤c)(I:c<4294967296)(aL:av.length≤9223372036854775806)(k:di 1 m (B .u8) s (aT av))(H:E A m w) :
  M Pg 234 [.int .u32 c,X.enc s] (B .u32) w fun r J=>r=sc c av∧E A m J:=by
 have aG:=k.len H;rw[gv] at aG;refine ahN ?_;unfold Vi;refine hY (fun p w=>0≤p.2∧p.2≤av.length∧sc c av=sc p.1 (av.drop p.2.toNat)∧E A m w) (fun p=>(av.length-p.2).toNat) ⟨Int.le_refl 0,by simp only; omega,rfl,H⟩ ?_;clear H;rintro⟨d,i⟩ w ⟨i0,i1,he,H⟩ aa ca;simp only at i0 i1 he;unfold MP;rw[aG];split
 ·rename_i ax;have ax:i<av.length:=by simpa using ax
  have ag:av.drop i.toNat=av[i.toNat]::av.drop (i.toNat+1):=List.drop_eq_getElem_cons (by omega);have F:(aT av)[i.toNat]?=some (av[i.toNat].toNat:Int):=by
   simp only[aT,List.getElem?_map,List.getElem?_eq_getElem (show i.toNat<av.length by omega),Option.map_some]
  rw[ag] at he;generalize av[i.toNat]=x at F he;obtain⟨a,Y⟩:=k.iw (i:=i) H i0 (by rw[gv]; omega);refine aP a Y ?_;refine aP (x.toNat:Int) (k.rd Y F H) ?_;refine hY (fun p w=>∃ D:Nat,D≤8∧p.2=(D:Int)∧turns (8-D) p.1=turns 8 (bits .xor .u32 d (IntKind.u32.wrap (x.toNat:Int)))∧E A m w) (fun p=>(8-p.2).toNat) ⟨0,by omega,rfl,rfl,H⟩ ?_;clear H;rintro⟨q,D⟩ w ⟨D,bR,rfl,a8,H⟩ FU tQ;unfold MQ;split
  ·rename_i U;have U:D<8:=by simp at U; omega
   refine sq (by omega) ?_;have vb:8-D=(8-(D+1))+1:=by omega
   rw[vb] at a8;have a8:turns (8-(D+1)) (LM q)=turns 8 (bits .xor .u32 d (IntKind.u32.wrap (x.toNat:Int))):=a8;unfold LM at a8;have amp:IntKind.i64.wrap ((D:Int)+1)=((D+1:Nat):Int):=by rw[qL]; omega
   rw[amp];generalize turns 8 (bits .xor .u32 d (IntKind.u32.wrap (x.toNat:Int)))=z at a8 tQ;generalize (bits .xor .u32 (Int.fdiv q (2^(min ((1:Int)).toNat IntKind.u32.bits))) (bits .and .u32 (IntKind.u32.wrap (0-(bits .and .u32 q (1:Int)))) (3988292384:Int)))=S at a8 ⊢;exact tQ _ _ ⟨D+1,by omega,rfl,a8,H⟩ (by simp only; omega)
  ·rename_i U;have U:D=8:=by simp at U; omega
   subst U;have aR:IntKind.i64.wrap (i+1)=i+1:=wrap_i64 (by omega) (by omega);rw[aR];rw[Nat.sub_self] at a8;have a8:q=turns 8 (bits .xor .u32 d (IntKind.u32.wrap (x.toNat:Int))):=a8;refine ca _ _ ⟨by simp only; omega,by simp only; omega,?_,H⟩ (by simp only; omega);simp only;have a9:(i+1).toNat=i.toNat+1:=by omega
   rw[he,a9,a8,sc]
 ·rename_i ax;have ax:i=av.length:=by simp at ax; omega
  subst ax;refine⟨?_,H⟩;rw[he]; simp[sc]
theorem XG{s1 s2:af}{e9 eb:List UInt8}(PD:e9.length≤9223372036854775806)(BL:eb.length≤9223372036854775806)(dn:di 1 m (B .u8) s1 (aT e9))(dY:di 1 m (B .u8) s2 (aT eb))(H:E A m w) :
  M Pg 196 [X.enc s1,X.enc s2] (B .u32) w fun r J=>r=(y2 e9 eb:Nat)∧E A m J:=by
 refine ahl ?_;unfold UR;refine ap (acf (by decide) (by decide) PD dn H) ?_;rintro r w ⟨rfl,H⟩;have h:=acg e9 4294967295 (by decide) (by decide);refine ap (acf h.1 h.2 BL dY H) ?_;rintro r w ⟨rfl,H⟩;exact⟨(aeO e9 eb).symm,H⟩
theorem Za{n:Nat}{xs:List Int}(aL:n<4294967296)(ao:xs.length≤100000000)(i:Nat)(H:E A m w)(ax:front i m=row (B .u8) 5 1 s xs::bT) :
  M Pg 195 [X.enc s,.int .u32 n] X w fun r J=>E A (row (B .u8) 5 1 r (xs++aT (be 4 n))::bT) J:=by
 refine ahk ?_;unfold UQ;refine sq (by omega) ?_;refine sq (by omega) ?_;refine sq (by omega) ?_;have g9:min ((24:Int)).toNat IntKind.u32.bits=24:=rfl;have jV:min ((16:Int)).toNat IntKind.u32.bits=16:=rfl;have jH:min ((8:Int)).toNat IntKind.u32.bits=8:=rfl;rw[g9,jV,jH,Gy,Gy,Gy,ES rfl,ES rfl,ES rfl,ES rfl];have j:∀ y:Nat,(UInt8.ofNat y)=UInt8.ofNat (y%256):=fun y=>UInt8.toNat_inj.1 (by simp);have aoW:[((UInt8.ofNat (n/2^24)).toNat:Int),(UInt8.ofNat (n/2^16)).toNat,(UInt8.ofNat (n/2^8)).toNat,(UInt8.ofNat n).toNat]=aT (be 4 n):=by
  rw[j (n/2^24),j (n/2^16),j (n/2^8),j n];simp[aT,be]
 rw[aoW];refine nu (fun _=>rfl) i H ax (by rw[gv,uQ]; omega) fun r w H=>H
theorem aea(aL:av.length≤9223372036854775806)(bl:4≤av.length)(k:di 1 m (B .u8) s (aT av))(H:E A m w) :
  M Pg 228 [X.enc s] (B .u32) w fun r J=>r=(pZ av:Nat)∧E A m J:=by
 refine ahI ?_;unfold Vd;obtain⟨b7,bt,bI,cc,rest,rfl⟩:∃ b7 bt bI cc rest,av=b7::bt::bI::cc::rest:=by
  rcases av with _ | ⟨b7,_ | ⟨bt,_ | ⟨bI,_ | ⟨cc,rest⟩⟩⟩⟩
  ·simp at bl
  ·simp at bl
  ·simp at bl
  ·simp at bl
  ·exact⟨b7,bt,bI,cc,rest,rfl⟩
 refine dp H fun w H=>?_;obtain⟨nt,ah⟩:=k.iw (i:=0) H (by omega) (by rw[gv]; omega);obtain⟨lG,I⟩:=k.iw (i:=1) H (by omega) (by rw[gv]; omega);obtain⟨aY,O⟩:=k.iw (i:=2) H (by omega) (by rw[gv]; omega);obtain⟨aA,aJ⟩:=k.iw (i:=3) H (by omega) (by rw[gv]; omega);refine aP nt ah ?_;refine aP lG I ?_;refine aP aY O ?_;refine aP aA aJ ?_;refine aP (b7.toNat:Int) (k.rd ah (by simp[aT]) H) ?_;refine sq (by omega) ?_;refine aP (bt.toNat:Int) (k.rd I (by simp[aT]) H) ?_;refine sq (by omega) ?_;refine aP (bI.toNat:Int) (k.rd O (by simp[aT]) H) ?_;refine sq (by omega) ?_;refine aP (cc.toNat:Int) (k.rd aJ (by simp[aT]) H) ?_;refine⟨?_,H⟩;have cX:=b7.toNat_lt;have bA:=bt.toNat_lt;have eR:=bI.toNat_lt;have je:=cc.toNat_lt;have g9:min ((24:Int)).toNat IntKind.u32.bits=24:=rfl;have jV:min ((16:Int)).toNat IntKind.u32.bits=16:=rfl;have jH:min ((8:Int)).toNat IntKind.u32.bits=8:=rfl;rw[g9,jV,jH]
 have hH:IntKind.u32.wrap (IntKind.u32.wrap (b7.toNat:Int)*2^24)=(b7.toNat:Int)*16777216:=by rw[ze,ze]; omega
 have aR:IntKind.u32.wrap (IntKind.u32.wrap (bt.toNat:Int)*2^16)=(bt.toNat:Int)*65536:=by rw[ze,ze]; omega
 have a9:IntKind.u32.wrap (IntKind.u32.wrap (bI.toNat:Int)*2^8)=(bI.toNat:Int)*256:=by rw[ze,ze]; omega
 have df:IntKind.u32.wrap (cc.toNat:Int)=(cc.toNat:Int):=by rw[ze]; omega
 rw[hH,aR,a9,df];rw[bits_join .u32 32 (by decide) S4 24 ((b7.toNat:Int)*16777216) ((bt.toNat:Int)*65536) (by omega) (by omega) (by omega) (by omega) (by omega) (by omega)];rw[bits_join .u32 32 (by decide) S4 16 ((b7.toNat:Int)*16777216+(bt.toNat:Int)*65536) ((bI.toNat:Int)*256) (by omega) (by omega) (by omega) (by omega) (by omega) (by omega)];rw[bits_join .u32 32 (by decide) S4 8 ((b7.toNat:Int)*16777216+(bt.toNat:Int)*65536+(bI.toNat:Int)*256) (cc.toNat:Int) (by omega) (by omega) (by omega) (by omega) (by omega) (by omega)];simp only[pZ];omega
theorem aGN(aL:av.length≤9223372036854775806)(k:di 1 m (B .u8) s (aT av))(H:E A m w) :
  M Pg 159 [X.enc s] (bw X (B .i64)) w fun r J=>(65536<av.length→r=(fz,30)∧E A m J)∧(av.length≤65536→r.2=0∧E A (row (B .u8) 5 1 r.1 (aT (g2 av))::m) J):=by
 have aG:=k.len H;rw[gv] at aG;refine agP ?_;unfold Um;rw[aG];split
 ·rename_i U;have U:65536<av.length:=by simp at U; omega
  exact⟨fun _=>⟨rfl,H⟩,fun h=>by omega⟩
 ·rename_i U;have U:av.length≤65536:=by simp at U; omega
  have aR:IntKind.i64.wrap (8+(av.length:Int))=8+(av.length:Int):=wrap_i64 (by omega) (by omega);rw[aR];refine aCt (ar:=1) (fun _=>rfl) (by omega) (by omega) (by omega) H fun r w H=>?_;have a9:IntKind.u32.wrap (av.length:Int)=((av.length:Nat):Int):=by rw[ze]; omega
  rw[a9];refine ap (Za (by omega) (by simp) 0 H rfl) ?_;intro r w H;rw[List.nil_append] at H;refine ap (XG (by rw[uQ]; omega) aL (di.row (fun _=>rfl) 0 rfl) k.tail H) ?_;rintro q w ⟨rfl,H⟩;refine ap (Za (aeP _ _) (by rw[gv,uQ]; omega) 0 H rfl) ?_;intro r w H;rw[← xl] at H;refine Dp (fun _=>rfl) 0 H rfl (k.tail.Ct H) (by simp[gv,uQ]; omega) fun r w H=>?_;rw[← xl,List.append_assoc] at H;exact⟨fun h=>by omega,fun _=>⟨rfl,H⟩⟩
theorem Iz(av:List UInt8)(n:Nat):aT (av.take n)=(aT av).take n:=by simp[aT,List.map_take]
theorem Mb(av:List UInt8)(n:Nat):aT (av.drop n)=(aT av).drop n:=by simp[aT,List.map_drop]
theorem Rm(l_:s.len≤s.cap)(aL:av.length≤9223372036854775806)(k:b6 m (c3 (B .u8) s (aT av)))(H:E A m w) :
  M Pg 184 [X.enc s] (mm X (B .i64) (B .i64)) w fun r J=>match nD av with
   |.error j=>r.2.2=j∧j≠0∧E A m J
   |.ok (x,n)=>r.2.2=0∧r.2.1=(n:Nat)∧r.1.len≤r.1.cap∧E A (ro (B .u8) r.1 (aT x)::m) J:=by
 have aG:=k.len H;rw[gv] at aG;have fy:di 1 m (B .u8) s (aT av):=di.ro (fun _=>rfl) k;refine ahc ?_;unfold UK nD;rw[aG];by_cases U:av.length<8
 ·rw[if_pos (show decide ((av.length:Int)<8)=true by simp; omega),if_pos U];exact⟨rfl,by decide,H⟩
 ·rw[if_neg (show ¬ decide ((av.length:Int)<8)=true by simp; omega),if_neg U];have U:8≤av.length:=by omega
  refine ap (aea aL (by omega) fy H) ?_;rintro r w ⟨rfl,H⟩;have aqE:pZ av<4294967296:=by
   obtain⟨b7,bt,bI,cc,rest,rfl⟩:∃ b7 bt bI cc rest,av=b7::bt::bI::cc::rest:=by
    rcases av with _ | ⟨b7,_ | ⟨bt,_ | ⟨bI,_ | ⟨cc,rest⟩⟩⟩⟩
    ·simp at U
    ·simp at U
    ·simp at U
    ·simp at U
    ·exact⟨b7,bt,bI,cc,rest,rfl⟩
   have cX:=b7.toNat_lt;have bA:=bt.toNat_lt;have eR:=bI.toNat_lt;have je:=cc.toNat_lt;simp only[pZ]; omega
  generalize pZ av=n at aqE;have aR:IntKind.i64.wrap (n:Int)=(n:Int):=wrap_i64 (by omega) (by omega);have a9:IntKind.i64.wrap ((av.length:Int)-8)=(av.length:Int)-8:=wrap_i64 (by omega) (by omega);rw[aR,a9];by_cases I:65536<n
  ·rw[if_pos (show decide ((n:Int)>65536)=true by simp; omega),if_pos I];exact⟨rfl,by decide,H⟩
  ·rw[if_neg (show ¬ decide ((n:Int)>65536)=true by simp; omega),if_neg I];by_cases O:av.length-8<n
   ·rw[if_pos (show decide ((n:Int)>(av.length:Int)-8)=true by simp; omega),if_pos O];exact⟨rfl,by decide,H⟩
   ·rw[if_neg (show ¬ decide ((n:Int)>(av.length:Int)-8)=true by simp; omega),if_neg O];have df:IntKind.i64.wrap (8+(n:Int))=8+(n:Int):=wrap_i64 (by omega) (by omega);rw[df];refine dp H fun w H=>?_;refine ob (by omega) (by omega) (by omega) (by omega) fun aep dq=>?_;refine ob (by omega) (by omega) (by omega) (by omega) fun w7 iu=>?_;refine ob (by omega) (by omega) (by omega) (by omega) fun H7 rX=>?_;have nZ:=k.sub (fun _=>rfl) dq (by rw[gv]; omega);have jT:=k.sub (fun _=>rfl) iu (by rw[gv]; omega);have s4:=k.sub (fun _=>rfl) rX (by rw[gv]; omega);have l8:((aT av).take ((4:Int)).toNat).drop ((0:Int)).toNat=aT (av.take 4):=by rw[Iz]; rfl
    have uP:((aT av).take (8+(n:Int)).toNat).drop ((8:Int)).toNat=aT ((av.drop 8).take n):=by
     have:(8+(n:Int)).toNat=8+n:=by omega
     rw[this,Iz,Mb,List.take_drop]; rfl
    have Gb:((aT av).take (av.length:Int).toNat).drop ((4:Int)).toNat=aT (av.drop 4):=by
     rw[Mb,List.take_of_length_le (by rw[gv]; omega)]; rfl
    rw[l8] at nZ;rw[uP] at jT;rw[Gb] at s4;refine ap (XG (by simp; omega) (by simp; omega) (di.ro (fun _=>rfl) nZ) (di.ro (fun _=>rfl) jT) H) ?_;rintro r w ⟨rfl,H⟩;refine ap (aea (by simp; omega) (by simp; omega) (di.ro (fun _=>rfl) s4) H) ?_;rintro r w ⟨rfl,H⟩;by_cases a8:y2 (av.take 4) ((av.drop 8).take n)≠pZ (av.drop 4)
    ·rw[if_pos (by simp; omega),if_pos a8];exact⟨rfl,by decide,H⟩
    ·rw[if_neg (by simp at a8 ⊢; omega),if_neg a8];refine vq H fun l w H=>?_;have H:=us (ar:=1) (y:=0) rfl H;refine ob (by omega) (by omega) (by omega) (by omega) fun Cw aoa=>?_;have rn:=k.sub (fun _=>rfl) aoa (by rw[gv]; omega);rw[uP] at rn;refine Dp (fun _=>rfl) 0 H rfl (rn.tail.Ct H) (by simp[gv]; omega) fun r w H=>?_;rw[List.nil_append] at H;have z2:((av.drop 8).take n).length=n:=by rw[List.length_take,List.length_drop]; omega
     have tV:=gr H;have J2:=EL H;rw[gv,z2] at tV;refine ob (by omega) (by omega) (by omega) (by omega) fun Lx aob=>?_;obtain⟨aoc,H⟩:=Si (fun _=>rfl) aob (by rw[gv,z2]; omega) H;have Gl:(aT ((av.drop 8).take n)).take (n:Int).toNat=aT ((av.drop 8).take n):=List.take_of_length_le (by rw[gv,z2]; omega);rw[Gl] at H;exact⟨rfl,by simp,by rw[aoc]; exact Nat.le_refl _,vD H⟩
end
abbrev oW:=zu
abbrev ol:=De
abbrev k0:=v5
abbrev xz:=A5
structure dW where
 l:List UInt8
 sure:Nat
structure cR where
 cS:List dW
 lH:Int
 down:Bool
 ef:Int
 bG:List Int
structure cR.hD(K:cR):Prop where
 len:K.cS.length≤16
 log:∀ g∈K.cS,g.sure≤g.l.length∧g.l.length≤4194304
def kept(bG:List Int)(i:Nat)(g:dW):Nat:=g.sure+match bG[i]? with
 |none=>0
 |some k=>(min (max k 0) ((g.l.length:Int)-g.sure)).toNat
def li(bG:List Int)(i:Nat)(g:dW):dW:=⟨g.l.take (kept bG i g),kept bG i g⟩
def hG(bG:List Int)(K:cR):cR:=if K.down then K else { K with down:=true,ef:=0,cS:=K.cS.mapIdx (li bG) }
def j6(K:cR)(n size:Int)(f:dW→dW):cR×Int:=
 if ¬ (0≤n∧n<K.cS.length) then (K,70) else if K.down then (K,71) else if 4194304<size then (K,72)
 else if K.ef=1 then (hG K.bG K,71)
 else ({ K with ef:=if 1<K.ef then IntKind.i64.wrap (K.ef-1) else K.ef,lH:=IntKind.i64.wrap (K.lH+1),cS:=K.cS.modify n.toNat f },0)
theorem Hm{bG:List Int}{i:Nat}{g:dW}(h:g.sure≤g.l.length):g.sure≤kept bG i g∧kept bG i g≤g.l.length:=by
 unfold kept;cases bG[i]? with
 |none=>simp only; omega
 |some k=>simp only; omega
theorem Gi{bG:List Int}{K:cR}(h:K.hD):(hG bG K).hD:=by
 unfold hG;split
 ·exact h
 ·refine⟨by simpa using h.len,fun g R=>?_⟩;simp only[List.mem_mapIdx] at R;obtain⟨i,ax,rfl⟩:=R;have I:=h.log K.cS[i] (List.getElem_mem _);have O:=Hm (bG:=bG) (i:=i) I.1;simp only[li,List.length_take];omega
theorem I3{K:cR}{n size:Int}{f:dW→dW}(h:K.hD)(am:size≤4194304→∀ g,K.cS[n.toNat]?=some g→(f g).sure≤(f g).l.length∧(f g).l.length≤4194304):(j6 K n size f).1.hD:=by
 unfold j6;split
 ·exact h
 ·split
  ·exact h
  ·split
   ·exact h
   ·rename_i aG;split
    ·exact Gi h
    ·refine⟨by simpa using h.len,fun g R=>?_⟩;simp only at R;obtain⟨i,ax,rfl⟩:=List.getElem_of_mem R;rw[List.getElem_modify];split
     ·rename_i kt;subst kt;have apq:n.toNat<K.cS.length:=by simpa using ax
      exact am (by omega) _ (List.getElem?_eq_getElem apq)
     ·exact h.log _ (List.getElem_mem _)
section
variable {A w:World} {m bT:List bC}
def jq(p:af×dW):bC:=row (B .u8) 5 1 p.1 (aT p.2.l)
def mF(p:af×dW):oW:=⟨p.1,p.2.sure⟩
def ez(d:Nat)(K:cR):bC:=hX fun s:af=>hX fun P:List (af×dW)=>hX fun bE:af=>dA [lo (P.map Prod.snd=K.cS),aH d (xz.cells ⟨s,K.lH,K.down,K.ef,bE⟩) 182,row ol 278 2 s (P.map mF),dA (P.map jq),row (B .i64) 3 1 bE K.bG]
theorem xO{d:Nat}{K:cR}(H:E A (ez d K::m) w):∃ (s:af) (P:List (af×dW)) (bE:af),P.map Prod.snd=K.cS∧E A (aH d (xz.cells ⟨s,K.lH,K.down,K.ef,bE⟩) 182::row ol 278 2 s (P.map mF)::dA (P.map jq)::row (B .i64) 3 1 bE K.bG::m) w:=by
 obtain⟨s,H⟩:=H.ex;obtain⟨P,H⟩:=H.ex;obtain⟨bE,H⟩:=H.ex;have H:=H.open_;obtain⟨h,H⟩:=E.vy (fa:=P.map Prod.snd=K.cS) H;exact⟨s,P,bE,h,H⟩
theorem q8{d:Nat}{K:cR}{s bE:af}{P:List (af×dW)}(h:P.map Prod.snd=K.cS)(H:E A (aH d (xz.cells ⟨s,K.lH,K.down,K.ef,bE⟩) 182::row ol 278 2 s (P.map mF)::dA (P.map jq)::row (B .i64) 3 1 bE K.bG::m) w):E A (ez d K::m) w:=
 E.mI s (E.mI P (E.mI bE (E.shut (bT:=[lo _,_,_,_,_]) (E.vO h H))))
theorem CA{Z:Type}{P:List Z}{i:Nat}{p:Z}(h:P[i]?=some p):∃ jk mx,P=jk++p::mx∧jk.length=i:=by
 have ax:=(List.getElem?_eq_some_iff.1 h).1;refine⟨P.take i,P.drop (i+1),?_,by rw[List.length_take]; omega⟩;have:=(List.getElem?_eq_some_iff.1 h).2;rw[← this,← List.drop_eq_getElem_cons ax,List.take_append_drop]
theorem Q0{n:Int}(ah:1≤n)(I:n≤16)(H:E A m w):M Pg 41 [.int .i64 n] (bw aD (B .i64)) w fun r J=>r.2=0∧∃ d,r.1=some ⟨d,0,none⟩∧E A (ez d ⟨List.replicate n.toNat ⟨[],0⟩,0,false,0,[]⟩::m) J:=by
 refine air ?_;unfold VW;rw[if_neg (by simp; omega)];refine Hw (ar:=2) (by omega) (by omega) (by omega) H fun l w H=>?_;refine bP H fun d w H=>?_;refine⟨rfl,d,rfl,?_⟩;refine q8 (s:=⟨some ⟨l,0,none⟩,n.toNat,n.toNat⟩) (P:=List.replicate n.toNat (fz,⟨[],0⟩)) (bE:=fz) (by simp) ?_;have hm:(List.replicate n.toNat (fz,(⟨[],0⟩:dW))).map mF=List.replicate n.toNat (⟨fz,0⟩:oW):=by simp[mF]
 rw[hm];have aL:∀ (y:Nat) {m:List bC},E A m w→E A (dA ((List.replicate y (fz,(⟨[],0⟩:dW))).map jq)::m) w:=by
  intro y;induction y with
  |zero=>intro m H; exact E.shut (bT:=[]) H
  |succ y ck=>
   intro m H;have O:(List.replicate (y+1) (fz,(⟨[],0⟩:dW))).map jq=jq (fz,⟨[],0⟩)::(List.replicate y (fz,(⟨[],0⟩:dW))).map jq:=by rw[List.replicate_succ,List.map_cons]
   rw[O];have H:=kN (B .u8) 5 1 (ck H)
   exact E.shut (bT:=jq (fz,⟨[],0⟩)::_) ((H.front 1).open_ |> fun H=>H.perm (by
    simp only[List.cons_append]
    exact List.perm_middle))
 have H:=aL n.toNat (kN (B .i64) 3 1 H);exact H.ord [2,3,0,1]
theorem JP{d:Nat}{K:cR}{n:Int}(H:E A (ez d K::m) w):M Pg 183 [.pointer (some ⟨d,0,none⟩),.int .i64 n] bk w fun r J=>r=decide (0≤n∧n<K.cS.length)∧E A (ez d K::m) J:=by
 obtain⟨s,P,bE,fj,H⟩:=xO H;refine ahb ?_;unfold UJ;have aG:=gr (H.front 1);rw[List.length_map] at aG;have al:P.length=K.cS.length:=by rw[← fj,List.length_map]
 refine aP ⟨d,0,none⟩ (fun _=>rfl) ?_;refine aP s (fun _=>bM X H rfl rfl) ?_;refine⟨?_,q8 fj H⟩;rw[aG,al,Bool.eq_iff_iff,Bool.and_eq_true,decide_eq_true_eq,decide_eq_true_eq,decide_eq_true_eq]
theorem Eh{P:List (af×dW)}{i:Nat}{p:af×dW}(h:P[i]?=some p)(H:E A (dA (P.map jq)::m) w):E A (jq p::hX (fun jk:List (af×dW)=>hX fun mx:List (af×dW)=>dA [lo (P=jk++p::mx∧jk.length=i),dA ((jk++mx).map jq)])::m) w:=by
 obtain⟨jk,mx,I,O⟩:=CA h;subst I;have H:=Bi H;have H:=H.front 1;have H:=E.vO (fa:=jk++p::mx=jk++p::mx∧jk.length=i) ⟨rfl,O⟩ H;have H:=E.shut (bT:=[lo _,dA _]) H;exact (E.mI (f:=fun NM:List (af×dW)=>hX fun FY:List (af×dW)=>dA [lo (jk++p::mx=NM++p::FY∧NM.length=i),dA ((NM++FY).map jq)]) jk (E.mI (f:=fun FY:List (af×dW)=>dA [lo (jk++p::mx=jk++p::FY∧jk.length=i),dA ((jk++FY).map jq)]) mx H)).front 1
theorem abx{P:List (af×dW)}{i:Nat}{p q:af×dW}(H:E A (jq q::hX (fun jk:List (af×dW)=>hX fun mx:List (af×dW)=>dA [lo (P=jk++p::mx∧jk.length=i),dA ((jk++mx).map jq)])::m) w):E A (dA ((P.set i q).map jq)::m) w:=by
 have H:=H.front 1;obtain⟨jk,H⟩:=H.ex;obtain⟨mx,H⟩:=H.ex;have H:=H.open_;obtain⟨⟨I,O⟩,g7⟩:=E.vy (fa:=P=jk++p::mx∧jk.length=i) H;clear H;subst I; subst O;have j:(jk++p::mx).set jk.length q=jk++q::mx:=by
  rw[List.set_append_right _ _ (Nat.le_refl _)]; simp
 rw[j];exact wj (g7.front 1)
theorem Kx{p:af×dW}(H:E A (jq p::m) w):p.1.len=p.2.l.length∧p.1.len≤p.1.cap:=by
 have I:=gr H;rw[gv] at I;exact⟨I,EL H⟩
theorem aHy(bG:List Int)(N:List dW):(N.mapIdx fun D g=>if D<0 then li bG D g else g)=N:=by
 apply List.ext_getElem?;intro D;rw[List.getElem?_mapIdx];cases N[D]?<;>simp
theorem aHw(bG:List Int)(N:List dW):(N.mapIdx fun D g=>if D<N.length then li bG D g else g)=N.mapIdx (li bG):=by
 apply List.ext_getElem?;intro D;rw[List.getElem?_mapIdx,List.getElem?_mapIdx];cases h:N[D]? with
 |none=>rfl
 |some g=>
  have:=(List.getElem?_eq_some_iff.1 h).1;simp[this]
theorem aHx{bG:List Int}{N:List dW}{i:Nat}{g:dW}(h:N[i]?=some g):(N.mapIdx fun D g=>if D<i+1 then li bG D g else g)=(N.mapIdx fun D g=>if D<i then li bG D g else g).set i (li bG i g):=by
 apply List.ext_getElem?;intro D;have ax:=(List.getElem?_eq_some_iff.1 h).1;rw[List.getElem?_mapIdx,List.getElem?_set,List.length_mapIdx,List.getElem?_mapIdx];by_cases j:i=D
 ·subst j;rw[if_pos rfl,if_pos ax,h]; simp
 ·rw[if_neg j];cases bR:N[D]? with
  |none=>rfl
  |some cI=>
   simp only[Option.map_some];by_cases c:D<i
   ·rw[if_pos c,if_pos (by omega)]
   ·rw[if_neg c,if_neg (by omega)]
theorem XZ{d:Nat}{s bE fy:af}{P:List (af×dW)}{lH ef:Int}{bG:List Int}(dr:∀ p∈P,p.2.sure≤p.2.l.length∧p.2.l.length≤4194304)(aE:P.length≤16)(k:di 1 m (B .i64) fy bG)
  (H:E A (aH d (xz.cells ⟨s,lH,false,ef,bE⟩) 182::row ol 278 2 s (P.map mF)::dA (P.map jq)::m) w) :
  M Pg 103 [.pointer (some ⟨d,0,none⟩),X.enc fy] dZ w fun _ J=>∃ xt:List (af×dW),xt.map Prod.snd=(P.map Prod.snd).mapIdx (li bG)∧E A (aH d (xz.cells ⟨s,lH,true,0,bE⟩) 182::row ol 278 2 s (xt.map mF)::dA (xt.map jq)::m) J:=by
 have JX:=k.tail.tail.tail.len H;refine Tw ?_;unfold Md;refine cb rfl ?_;refine aj (x:=false) 0 H rfl rfl rfl ?_;rw[if_neg (by simp)];refine dD (x:=true) 0 H rfl rfl (Nat.le_of_ble_eq_true rfl) fun w H=>?_;refine dD (x:=(0:Int)) 0 H rfl rfl (Nat.le_of_ble_eq_true rfl) fun w H=>?_;refine aj (x:=s) 0 H rfl rfl rfl ?_;have aG:=gr (H.front 1);rw[List.length_map] at aG;refine hY (fun i w=>∃ (D:Nat) (Q:List (af×dW)),i=(D:Int)∧D≤P.length∧Q.map Prod.snd=((P.map Prod.snd).mapIdx fun y g=>if y<D then li bG y g else g)∧E A (aH d (xz.cells ⟨s,lH,true,0,bE⟩) 182::row ol 278 2 s (Q.map mF)::dA (Q.map jq)::m) w) (fun i=>(P.length-i).toNat)
  ⟨0,P,rfl,by omega,(aHy _ _).symm,H⟩ ?_
 clear H;rintro i w ⟨D,Q,rfl,bR,ec,H⟩ aa ca;have O6:Q.length=P.length:=by
  have:=congrArg List.length ec;simpa using this
 unfold Me;rw[aG];split
 ·rename_i ax;have ax:D<P.length:=by simpa using ax
  refine aj (x:=s) 0 H rfl rfl rfl ?_;obtain⟨a,Y⟩:=kM (i:=(D:Int)) (H.front 1) (by omega) (by simp; omega);refine aP a Y ?_;have yh:P[D]?=some P[D]:=List.getElem?_eq_getElem ax;have j_:Q[D]?=some Q[D]:=List.getElem?_eq_getElem (by omega);have sZ:P[D]∈P:=List.getElem_mem _;have D7:Q[D].2=P[D].2:=by
   have:=congrArg (fun m=>m[D]?) ec;simp only[List.getElem?_map,j_,List.getElem?_mapIdx,yh,Option.map_some] at this;simpa using this
  have PE:=dr _ sZ;have s0:(Q.map mF)[((D:Int)).toNat]?=some (mF Q[D]):=by simp[j_]
  have z0:=aHx (bG:=bG) (N:=P.map Prod.snd) (i:=D) (g:=P[D].2) (by simp[yh]);generalize P[D]=p at yh sZ D7 PE z0;generalize Q[D]=q at j_ s0 D7;obtain⟨ej,jt⟩:=q;obtain⟨eG,aKN⟩:=p;simp only at D7 PE z0;subst D7;have gY:=Eh j_ (H.front 2);have U:=Kx gY;simp only at U;refine aP (jt.sure:Int) ?_ ?_
  ·exact qd (c6:=B .i64) (fun _=>rfl) Y s0 rfl (H.front 1)
  have fin:∀ (w:World) (n:Int),n=(kept bG D jt:Nat)→E A (aH d (xz.cells ⟨s,lH,true,0,bE⟩) 182::row ol 278 2 s (Q.map mF)::dA (Q.map jq)::m) w→E6 (D:Int) a n w aa fun _ J=>∃ xt:List (af×dW),xt.map Prod.snd=(P.map Prod.snd).mapIdx (li bG)∧E A (aH d (xz.cells ⟨s,lH,true,0,bE⟩) 182::row ol 278 2 s (xt.map mF)::dA (xt.map jq)::m) J:=by
   intro w n aL H;subst aL;have aq:=Hm (bG:=bG) (i:=D) PE.1;unfold E6;refine aP ej (qd (c6:=X) (fun _=>rfl) Y s0 rfl (H.front 1)) ?_;refine ob (by omega) (by omega) (by omega) (by omega) fun r ab=>?_;have H:=Eh j_ (H.front 2);obtain⟨PN,H⟩:=Si (fun _=>rfl) ab (by rw[gv]; exact Int.ofNat_le.2 aq.2) H;refine EQ (x:=mF (ej,jt)) (S:=(⟨r,jt.sure⟩:oW)) (G:=0) (c6:=X) (z:=r) (fun _=>rfl) Y s0 rfl (Nat.le_of_ble_eq_true rfl) (H.front 3) fun w H=>?_;refine EQ (x:=(⟨r,jt.sure⟩:oW)) (S:=(⟨r,(kept bG D jt:Nat)⟩:oW)) (G:=1) (c6:=B .i64) (z:=((kept bG D jt:Nat):Int)) (fun _=>rfl) Y (List.getElem?_set_self (by rw[List.length_map,Int.toNat_natCast]; omega)) rfl (Nat.le_of_ble_eq_true rfl) H fun w H=>?_;have aR:IntKind.i64.wrap ((D:Int)+1)=((D+1:Nat):Int):=by rw[qL]; omega
   rw[aR];have ao:(aT jt.l).take ((kept bG D jt:Nat):Int).toNat=aT (li bG D jt).l:=by
    rw[Int.toNat_natCast]; exact (Iz _ _).symm
   rw[ao] at H;have H:=abx (q:=(r,li bG D jt)) (H.ord [1,2]);refine ca _ _ ⟨D+1,Q.set D (r,li bG D jt),rfl,by omega,?_,?_⟩ (by omega)
   ·rw[List.map_set,ec,z0]
   ·have a9:(((Q.map mF).set ((D:Int)).toNat (⟨r,jt.sure⟩:oW)).set ((D:Int)).toNat (⟨r,(kept bG D jt:Nat)⟩:oW))=(Q.set D (r,li bG D jt)).map mF:=by
     rw[List.set_set,List.map_set,Int.toNat_natCast]; rfl
    rw[a9] at H;exact H.ord [2,1,0]
  rw[JX];split
  ·rename_i dC;have dC:D<bG.length:=by simpa using dC
   have D4:bG[((D:Int)).toNat]?=some bG[D]:=by rw[Int.toNat_natCast]; exact List.getElem?_eq_getElem dC
   have tS:bG[D]?=some bG[D]:=List.getElem?_eq_getElem dC;generalize bG[D]=abe at D4 tS;refine dp H fun w H=>?_;obtain⟨tX,Z0⟩:=k.tail.tail.tail.iw (i:=(D:Int)) H (by omega) (by omega);refine aP tX Z0 ?_;refine aP abe (k.tail.tail.tail.rd Z0 D4 H) ?_;refine aP ej (qd (c6:=X) (fun _=>rfl) Y s0 rfl (H.front 1)) ?_;refine aP (jt.sure:Int) (qd (c6:=B .i64) (fun _=>rfl) Y s0 rfl (H.front 1)) ?_;refine fin _ _ ?_ H;have GQ:kept bG D jt=jt.sure+(min (max abe 0) ((jt.l.length:Int)-jt.sure)).toNat:=by unfold kept; rw[tS]
   rw[U.1,wrap_i64 (x:=(jt.l.length:Int)-(jt.sure:Int)) (by omega) (by omega),GQ,wrap_i64 (by omega) (by omega)];omega
  ·rename_i dC;have dC:bG.length≤D:=by simp at dC; omega
   refine fin _ _ ?_ H;have GQ:kept bG D jt=jt.sure:=by
    unfold kept; rw[List.getElem?_eq_none dC]; rfl
   rw[GQ]
 ·rename_i ax;have ax:D=P.length:=by simp at ax; omega
  subst ax;refine⟨Q,?_,H⟩;rw[ec];have:=aHw bG (P.map Prod.snd);rw[List.length_map] at this;exact this
theorem alW{d:Nat}{K:cR}{fy:af}{bG:List Int}(dr:K.hD)(k:di 1 m (B .i64) fy bG)(H:E A (ez d K::m) w) :
  M Pg 103 [.pointer (some ⟨d,0,none⟩),X.enc fy] dZ w fun _ J=>E A (ez d (hG bG K)::m) J:=by
 obtain⟨s,P,bE,fj,H⟩:=xO H;by_cases ag:K.down=true
 ·refine Tw ?_;unfold Md hG;rw[if_pos ag];refine cb rfl ?_;refine aj (x:=K.down) 0 H rfl rfl rfl ?_;rw[if_pos ag];exact q8 fj H
 ·have Po:K.down=false:=by simpa using ag
  rw[Po] at H;have al:P.length=K.cS.length:=by rw[← fj,List.length_map]
  refine ap (XZ (fun p aE=>dr.log p.2 (by rw[← fj]; exact List.mem_map_of_mem aE)) (by rw[al]; exact dr.len) k.tail H) ?_;rintro r w ⟨xt,GD,H⟩;rw[fj] at GD;unfold hG;rw[if_neg ag];exact q8 (K:={ K with down:=true,ef:=0,cS:=K.cS.mapIdx (li bG) }) GD H
end
section
variable {A w:World} {m bT:List bC}
theorem alG{Z:Type}{P:Program}{T:bu Z}{hI:cm}{args:List Value}{aa K':Z→World→Prop}(h:tK P hI args T w aa)(aq:∀ r J,aa r J→K' r J):tK P hI args T w K':=by
 obtain⟨k,c,I,O,aJ⟩:=h;exact⟨k,c,I,O,ap aJ aq⟩
theorem aCx{N:List dW}{i:Nat}{g:dW}{f:dW→dW}(h:N[i]?=some g):N.modify i f=N.set i (f g):=by
 apply List.ext_getElem?;intro D;rw[List.getElem?_modify,List.getElem?_set];by_cases j:i=D
 ·subst j;have cD:=List.getElem?_eq_some_iff.1 h;rw[if_pos rfl,if_pos cD.1,h];simp
 ·simp[j]
theorem NW{d:Nat}{K:cR}{n size:Int}{hI:cm}{f:dW→dW}(dr:K.hD)(H:E A (ez d K::m) w)
  (rh : ∀ (s q : af) (g : dW) (xs : List oW) (a : Addr) (ru : List bC) (w : World), size ≤ 4194304 → K.cS[n.toNat]? = some g → xs[n.toNat]? = some ⟨q, g.sure⟩ → cM s 2 n a → E A (row ol 278 2 s xs :: jq (q, g) :: (ru ++ m)) w →
   tK Pg hI [.pointer (some a)] dZ w fun _ J=>∃ gx:af,E A (row ol 278 2 s (xs.set n.toNat ⟨gx,(f g).sure⟩)::jq (gx,f g)::(ru++m)) J) :
  M Pg 177 [.pointer (some ⟨d,0,none⟩),.int .i64 n,.int .i64 size,hI.enc] (B .i64) w fun r J=>r=(j6 K n size f).2∧E A (ez d (j6 K n size f).1::m) J:=by
 refine ag5 ?_;unfold UC j6;refine ap (JP H) ?_;rintro r w ⟨rfl,H⟩;by_cases cD:0≤n∧n<K.cS.length
 ·rw[decide_eq_true cD,if_neg (by simp),if_neg (not_not_intro cD)];refine cb rfl ?_;obtain⟨s,P,bE,fj,H⟩:=xO H;refine aj (x:=K.down) 0 H rfl rfl rfl ?_;by_cases ag:K.down=true
  ·rw[if_pos ag,if_pos ag];exact⟨rfl,q8 fj H⟩
  ·rw[if_neg ag,if_neg ag];have Po:K.down=false:=by simpa using ag
   by_cases aG:4194304<size
   ·rw[if_pos (by simp; omega),if_pos aG];exact⟨rfl,q8 fj H⟩
   ·rw[if_neg (by simp; omega),if_neg aG];refine aj (x:=K.ef) 0 H rfl rfl rfl ?_;have al:P.length=K.cS.length:=by rw[← fj,List.length_map]
    by_cases Y:K.ef=1
    ·rw[if_pos (by simp[Y]),if_pos Y];refine aj (x:=bE) 0 H rfl rfl rfl ?_;rw[Po] at H;refine ap (XZ (fun p aE=>dr.log p.2 (by rw[← fj]; exact List.mem_map_of_mem aE)) (by rw[al]; exact dr.len) (di.row (fun _=>rfl) 0 rfl) H) ?_;rintro r w ⟨xt,GD,H⟩;rw[fj] at GD;refine⟨rfl,?_⟩;unfold hG;rw[if_neg ag];exact q8 (K:={ K with down:=true,ef:=0,cS:=K.cS.mapIdx (li K.bG) }) GD H
    ·rw[if_neg (by simpa using Y),if_neg Y];have g4:∀ (Bg:Int) (w:World),Bg=(if 1<K.ef then IntKind.i64.wrap (K.ef-1) else K.ef)→E A (aH d (xz.cells ⟨s,K.lH,K.down,Bg,bE⟩) 182::row ol 278 2 s (P.map mF)::dA (P.map jq)::row (B .i64) 3 1 bE K.bG::m) w →
       Fj (some ⟨d,0,none⟩) n hI w fun r J=>r=0∧E A (ez d { K with ef:=if 1<K.ef then IntKind.i64.wrap (K.ef-1) else K.ef,lH:=IntKind.i64.wrap (K.lH+1),cS:=K.cS.modify n.toNat f }::m) J:=by
      intro Bg w aoV H;unfold Fj;refine cb rfl ?_;refine aj (x:=K.lH) 0 H rfl rfl rfl ?_;refine dD (x:=IntKind.i64.wrap (K.lH+1)) 0 H rfl rfl (Nat.le_of_ble_eq_true rfl) fun w H=>?_;refine aj (x:=s) 0 H rfl rfl rfl ?_;obtain⟨a,sY⟩:=kM (i:=n) (H.front 1) cD.1 (by rw[List.length_map,al]; exact cD.2);refine aP a sY ?_;have j_:P[n.toNat]?=some P[n.toNat]:=List.getElem?_eq_getElem (by omega);have R:K.cS[n.toNat]?=some (P[n.toNat]).2:=by rw[← fj,List.getElem?_map,j_]; rfl
      generalize P[n.toNat]=p at j_ R;obtain⟨q,g⟩:=p;simp only at R;have H:=Eh j_ (H.front 2);refine alG (rh s q g (P.map mF) a [_,_,_] w (by omega) R (by rw[List.getElem?_map,j_]; rfl) sY (H.ord [3,0])) ?_;rintro r w ⟨gx,H⟩;have H:=abx (q:=(gx,f g)) (H.ord [1,2]);refine⟨rfl,?_⟩;refine q8 (s:=s) (bE:=bE) (P:=P.set n.toNat (gx,f g)) ?_ ?_
      ·simp only;rw[List.map_set,fj,aCx R]
      ·simp only;rw[← aoV,List.map_set];exact H.ord [2,1,0]
     by_cases ao:1<K.ef
     ·refine aj (x:=K.ef) 0 H rfl rfl rfl ?_;rw[if_pos (by simpa using ao)];refine aj (x:=K.ef) 0 H rfl rfl rfl ?_;refine dD (x:=IntKind.i64.wrap (K.ef-1)) 0 H rfl rfl (Nat.le_of_ble_eq_true rfl) fun w H=>?_;exact g4 (IntKind.i64.wrap (K.ef-1)) w (by rw[if_pos ao]) H
     ·refine aj (x:=K.ef) 0 H rfl rfl rfl ?_;rw[if_neg (by simpa using ao)];exact g4 K.ef w (by rw[if_neg ao]) H
 ·rw[decide_eq_false cD,if_pos (by simp),if_pos cD];exact⟨rfl,H⟩
def sizeOf(K:cR)(n:Int):Nat:=if 0≤n then match K.cS[n.toNat]? with
 |some g=>g.l.length
 |none=>0
 else 0
def ot(K:cR)(n:Int)(av:List UInt8):cR×Int:=j6 K n ((av.length+sizeOf K n:Nat):Int) fun g=>⟨g.l++av,g.sure⟩
def oJ(K:cR)(n:Int):cR×Int:=j6 K n 0 fun g=>⟨g.l,g.l.length⟩
def Av(K:cR)(n:Int)(av:List UInt8):cR×Int:=j6 K n (av.length:Int) fun _=>⟨av,av.length⟩
theorem ake{d:Nat}{K:cR}{n:Int}{l:af}{av:List UInt8}(dr:K.hD)(aL:av.length≤4000000000000000000)(k:di 1 m (B .u8) l (aT av))(H:E A (ez d K::m) w) :
  M Pg 160 [.pointer (some ⟨d,0,none⟩),.int .i64 n,X.enc l] (B .i64) w fun r J=>r=(ot K n av).2∧E A (ez d (ot K n av).1::m) J:=by
 have Bz:=k.tail.len H;rw[gv] at Bz;refine agR ?_;unfold Uo;refine bP H fun iD w H=>?_;refine aj (x:=l) 0 H rfl rfl rfl ?_;have g4:∀ (z:Int) (w:World),z=((av.length+sizeOf K n:Nat):Int)→E A (aH iD (X.cells l) 189::ez d K::m) w→Fi (some ⟨d,0,none⟩) n ⟨iD,0,none⟩ z w fun r J=>r=(ot K n av).2∧E A (ez d (ot K n av).1::m) J:=by
  intro z w bL H;subst bL;unfold Fi;refine ap (NW (f:=fun g=>⟨g.l++av,g.sure⟩) dr (H.front 1) ?_) ?_
  ·intro s q g xs a ru w ny R F Y H;refine⟨197,[.pointer (some ⟨iD,0,none⟩)],rfl,amR,?_⟩;refine ahm ?_;unfold US;refine dp H fun w H=>?_;refine cb rfl ?_;refine aP q (qd (c6:=X) (fun _=>rfl) Y F rfl H) ?_
   have H:=(H.perm (show (row ol 278 2 s xs::jq (q,g)::(ru++(aH iD (X.cells l) 189::m))).Perm (aH iD (X.cells l) 189::row ol 278 2 s xs::jq (q,g)::(ru++m)) from by
    have I:=(List.perm_middle (a:=aH iD (X.cells l) 189) (l₁:=row ol 278 2 s xs::jq (q,g)::ru) (l₂:=m))
    simpa using I))
   refine aj (x:=l) 0 H rfl rfl rfl ?_;have tS:di 1 (aH iD (X.cells l) 189::row ol 278 2 s xs::jq (q,g)::(ru++m)) (B .u8) l (aT av):=((k.l7 ru).tail.tail.tail)
   have D1:=(dr.log g (List.mem_of_getElem? R)).2;refine Dp (fun _=>rfl) 2 H rfl (tS.Ct H) (by rw[gv,gv]; simp only; omega) fun r w H=>?_;refine EQ (x:=(⟨q,g.sure⟩:oW)) (S:=(⟨r,g.sure⟩:oW)) (G:=0) (c6:=X) (z:=r) (fun _=>rfl) Y F rfl (Nat.le_of_ble_eq_true rfl) (H.front 2) fun w H=>?_;refine⟨r,?_⟩;rw[← xl] at H;refine H.perm ?_;refine List.Perm.cons _ (List.Perm.cons _ ?_);exact List.perm_middle.symm
  ·rintro r w ⟨rfl,H⟩;exact⟨rfl,(H.front 1).drop⟩
 refine ap (JP (H.front 1)) ?_;rintro r w ⟨rfl,H⟩;by_cases cD:0≤n∧n<K.cS.length
 ·rw[decide_eq_true cD,if_pos rfl];refine cb rfl ?_;obtain⟨s,P,bE,fj,H⟩:=xO H;have al:P.length=K.cS.length:=by rw[← fj,List.length_map]
  refine aj (x:=s) 0 H rfl rfl rfl ?_;obtain⟨a,sY⟩:=kM (i:=n) (H.front 1) cD.1 (by rw[List.length_map,al]; exact cD.2);refine aP a sY ?_;have j_:P[n.toNat]?=some P[n.toNat]:=List.getElem?_eq_getElem (by omega);have R:K.cS[n.toNat]?=some (P[n.toNat]).2:=by rw[← fj,List.getElem?_map,j_]; rfl
  generalize P[n.toNat]=p at j_ R;have U:=Kx (Eh j_ (H.front 2));obtain⟨q,g⟩:=p;simp only at R U;have D1:=(dr.log g (List.mem_of_getElem? R)).2;refine aP q (qd (x:=mF (q,g)) (c6:=X) (fun _=>rfl) sY (by rw[List.getElem?_map,j_]; rfl) rfl (H.front 1)) ?_;refine g4 _ w ?_ ((q8 fj H).front 1);have j:sizeOf K n=g.l.length:=by unfold sizeOf; rw[if_pos cD.1,R]
  rw[j,Bz,U.1,wrap_i64 (by omega) (by omega)];omega
 ·rw[decide_eq_false cD,if_neg (by simp)];refine g4 _ w ?_ (H.front 1);have j:sizeOf K n=0:=by
   unfold sizeOf;by_cases ah:0≤n
   ·rw[if_pos ah,List.getElem?_eq_none (by omega)]
   ·rw[if_neg ah]
  rw[j,Bz]; rfl
theorem aeS{d:Nat}{K:cR}{n:Int}(dr:K.hD)(H:E A (ez d K::m) w) :
  M Pg 129 [.pointer (some ⟨d,0,none⟩),.int .i64 n] (B .i64) w fun r J=>r=(oJ K n).2∧E A (ez d (oJ K n).1::m) J:=by
 refine agp ?_;unfold TU;refine ap (NW (f:=fun g=>⟨g.l,g.l.length⟩) dr H ?_) ?_
 ·intro s q g xs a ru w ny R F Y H;refine⟨178,[],rfl,amM,?_⟩;refine ag6 ?_;unfold UD;refine cb rfl ?_;refine aP q (qd (c6:=X) (fun _=>rfl) Y F rfl H) ?_;have U:=Kx (H.front 1);simp only at U;rw[U.1];refine EQ (x:=(⟨q,g.sure⟩:oW)) (S:=(⟨q,(g.l.length:Nat)⟩:oW)) (G:=1) (c6:=B .i64) (z:=((g.l.length:Nat):Int)) (fun _=>rfl) Y F rfl (Nat.le_of_ble_eq_true rfl) H fun w H=>?_;exact⟨q,H⟩
 ·rintro r w ⟨rfl,H⟩;exact⟨rfl,H⟩
theorem aHF{d:Nat}{K:cR}{n:Int}{l:af}{av:List UInt8}(dr:K.hD)(aL:av.length≤4000000000000000000)(k:di 1 m (B .u8) l (aT av))(H:E A (ez d K::m) w) :
  M Pg 144 [.pointer (some ⟨d,0,none⟩),.int .i64 n,X.enc l] (B .i64) w fun r J=>r=(Av K n av).2∧E A (ez d (Av K n av).1::m) J:=by
 have Bz:=k.tail.len H;rw[gv] at Bz;refine agE ?_;unfold T9;refine bP H fun iD w H=>?_;refine aj (x:=l) 0 H rfl rfl rfl ?_;rw[Bz];refine ap (NW (f:=fun _=>⟨av,av.length⟩) dr (H.front 1) ?_) ?_
 ·intro s q g xs a ru w ny R F Y H;refine⟨185,[.pointer (some ⟨iD,0,none⟩)],rfl,amN,?_⟩;refine ahd ?_;unfold UL
  have H:=(H.perm (show (row ol 278 2 s xs::jq (q,g)::(ru++(aH iD (X.cells l) 189::m))).Perm (aH iD (X.cells l) 189::row ol 278 2 s xs::jq (q,g)::(ru++m)) from by
   have I:=(List.perm_middle (a:=aH iD (X.cells l) 189) (l₁:=row ol 278 2 s xs::jq (q,g)::ru) (l₂:=m))
   simpa using I))
  refine aj (x:=l) 0 H rfl rfl rfl ?_;rw[Bz];refine Hw (ar:=1) (by omega) (by omega) (by omega) H fun l8 w H=>?_;refine cb rfl ?_;refine EQ (x:=(⟨q,g.sure⟩:oW)) (S:=(⟨⟨some ⟨l8,0,none⟩,av.length,av.length⟩,g.sure⟩:oW)) (G:=0) (c6:=X) (z:=⟨some ⟨l8,0,none⟩,av.length,av.length⟩) (fun _=>rfl) Y F rfl (Nat.le_of_ble_eq_true rfl) (H.front 2) fun w H=>?_;refine dp H fun w H=>?_;have r2:(xs.set n.toNat (⟨⟨some ⟨l8,0,none⟩,av.length,av.length⟩,g.sure⟩:oW))[n.toNat]?=some ⟨⟨some ⟨l8,0,none⟩,av.length,av.length⟩,g.sure⟩:=List.getElem?_set_self (List.getElem?_eq_some_iff.1 F).1;refine aP ⟨some ⟨l8,0,none⟩,av.length,av.length⟩ (qd (c6:=X) (fun _=>rfl) Y r2 rfl H) ?_;refine aj (x:=l) 2 H rfl rfl rfl ?_
  have tS:di 1 (row (B .u8) 5 1 ⟨some ⟨l8,0,none⟩,av.length,av.length⟩ (List.replicate av.length 0)::row ol 278 2 s (xs.set n.toNat (⟨⟨some ⟨l8,0,none⟩,av.length,av.length⟩,g.sure⟩:oW))::aH iD (X.cells l) 189::jq (q,g)::(ru++m)) (B .u8) l (aT av):=((k.l7 ru).tail.tail.tail.tail)
  refine Jl (xs:=List.replicate av.length 0) (fun _=>rfl) (H.front 1) (tS.Ct (H.front 1)) (by rw[gv,List.length_replicate]) fun w H=>?_;rw[gv];refine EQ (x:=(⟨⟨some ⟨l8,0,none⟩,av.length,av.length⟩,g.sure⟩:oW)) (S:=(⟨⟨some ⟨l8,0,none⟩,av.length,av.length⟩,(av.length:Nat)⟩:oW)) (G:=1) (c6:=B .i64) (z:=((av.length:Nat):Int)) (fun _=>rfl) Y r2 rfl (Nat.le_of_ble_eq_true rfl) (H.front 1) fun w H=>?_;refine⟨⟨some ⟨l8,0,none⟩,av.length,av.length⟩,?_⟩;rw[List.set_set] at H;have H:=(H.ord [3]).drop;refine H.perm ?_;refine List.Perm.cons _ (List.Perm.cons _ ?_);exact List.perm_middle.symm
 ·rintro r w ⟨rfl,H⟩;exact⟨rfl,(H.front 1).drop⟩
theorem aFY{d:Nat}{K:cR}{n:Int}(dr:K.hD)(H:E A (ez d K::m) w) :
  M Pg 142 [.pointer (some ⟨d,0,none⟩),.int .i64 n] (bw X (B .i64)) w fun r J=>(¬ (0≤n∧n<K.cS.length)→r.2=70∧E A (ez d K::m) J)∧((0≤n∧n<K.cS.length)→K.down=true→r.2=71∧E A (ez d K::m) J) ∧
   ∀ g,0≤n→K.down=false→K.cS[n.toNat]?=some g→r.2=0∧E A (row (B .u8) 5 1 r.1 (aT g.l)::ez d K::m) J:=by
 refine agC ?_;unfold T7;refine ap (JP H) ?_;rintro r w ⟨rfl,H⟩;by_cases cD:0≤n∧n<K.cS.length
 ·rw[decide_eq_true cD,if_neg (by simp)];refine cb rfl ?_;obtain⟨s,P,bE,fj,H⟩:=xO H;refine aj (x:=K.down) 0 H rfl rfl rfl ?_;by_cases ag:K.down=true
  ·rw[if_pos ag];exact⟨fun h=>absurd cD h,fun _ _=>⟨rfl,q8 fj H⟩,fun g _ h=>by rw[ag] at h; cases h⟩
  ·rw[if_neg ag];have al:P.length=K.cS.length:=by rw[← fj,List.length_map]
   refine aj (x:=s) 0 H rfl rfl rfl ?_;obtain⟨a,sY⟩:=kM (i:=n) (H.front 1) cD.1 (by rw[List.length_map,al]; exact cD.2);refine aP a sY ?_;have j_:P[n.toNat]?=some P[n.toNat]:=List.getElem?_eq_getElem (by omega);have R:K.cS[n.toNat]?=some (P[n.toNat]).2:=by rw[← fj,List.getElem?_map,j_]; rfl
   generalize P[n.toNat]=p at j_ R;have U:=Kx (Eh j_ (H.front 2));obtain⟨q,g⟩:=p;simp only at R U;have D1:=(dr.log g (List.mem_of_getElem? R)).2;have F:(P.map mF)[n.toNat]?=some (mF (q,g)):=by rw[List.getElem?_map,j_]; rfl
   refine aP q (qd (x:=mF (q,g)) (c6:=X) (fun _=>rfl) sY F rfl (H.front 1)) ?_;rw[U.1];refine Hw (ar:=1) (by omega) (by omega) (by omega) H fun l w H=>?_;refine aj (x:=s) 1 H rfl rfl rfl ?_;refine aP a sY ?_;refine aP q (qd (x:=mF (q,g)) (c6:=X) (fun _=>rfl) sY F rfl (H.front 2)) ?_;have ab:k_ (B .u8) w q (aT g.l):=C7 (Eh j_ (H.front 3));refine Jl (xs:=List.replicate ((g.l.length:Int)).toNat 0) (fun _=>rfl) H ab (by rw[gv,List.length_replicate]; omega) fun w H=>?_;refine⟨fun h=>absurd cD h,fun _ h=>absurd h ag,fun cI _ _ yg=>?_⟩;rw[R] at yg;cases yg;exact⟨rfl,(q8 fj (H.ord [1,2,3,4])).front 1⟩
 ·rw[decide_eq_false cD,if_pos (by simp)];refine⟨fun _=>⟨rfl,H⟩,fun h=>absurd h cD,fun g ah _ R=>absurd ⟨ah,?_⟩ cD⟩;have:=(List.getElem?_eq_some_iff.1 R).1;omega
theorem aHC{d:Nat}{K:cR}{n:Int}{g:dW}(ah:0≤n)(R:K.cS[n.toNat]?=some g)(H:E A (ez d K::m) w) :
  M Pg 145 [.pointer (some ⟨d,0,none⟩),.int .i64 n] (B .i64) w fun r J=>r=(g.sure:Nat)∧E A (ez d K::m) J:=by
 have dC:=(List.getElem?_eq_some_iff.1 R).1;refine agF ?_;unfold T_;refine ap (JP H) ?_;rintro r w ⟨rfl,H⟩;rw[decide_eq_true (by omega),if_neg (by simp)];refine cb rfl ?_;obtain⟨s,P,bE,fj,H⟩:=xO H;have al:P.length=K.cS.length:=by rw[← fj,List.length_map]
 refine aj (x:=s) 0 H rfl rfl rfl ?_;obtain⟨a,sY⟩:=kM (i:=n) (H.front 1) ah (by rw[List.length_map,al]; omega);refine aP a sY ?_;have j_:P[n.toNat]?=some P[n.toNat]:=List.getElem?_eq_getElem (by omega);have ks:K.cS[n.toNat]?=some (P[n.toNat]).2:=by rw[← fj,List.getElem?_map,j_]; rfl
 generalize P[n.toNat]=p at j_ ks;rw[R] at ks;cases ks;refine aP (p.2.sure:Int) (qd (x:=mF p) (c6:=B .i64) (fun _=>rfl) sY (by rw[List.getElem?_map,j_]; rfl) rfl (H.front 1)) ?_;exact⟨rfl,q8 fj H⟩
theorem aIg{d:Nat}{K:cR}(H:E A (ez d K::m) w):M Pg 73 [.pointer (some ⟨d,0,none⟩)] dZ w fun _ J=>E A (ez d { K with down:=false }::m) J:=by
 refine aiZ ?_;unfold Wq;refine cb rfl ?_;obtain⟨s,P,bE,fj,H⟩:=xO H;refine dD (x:=false) 0 H rfl rfl (Nat.le_of_ble_eq_true rfl) fun w H=>?_;exact q8 (K:={ K with down:=false }) fj H
end
abbrev ajE:=A7
section
variable {A w:World} {m bT:List bC} {s:af} {av:List UInt8}
def mw(ej:List af)(xs:List (List UInt8))(aW:cv):Prop:=ej.length=xs.length∧∀ (i:Nat) (q:af) (x:List UInt8),ej[i]?=some q→xs[i]?=some x→q.len≤q.cap∧c3 (B .u8) q (aT x) aW
theorem mw.mono{ej:List af}{xs:List (List UInt8)}{aW g8:cv}(h:cv.le aW g8):mw ej xs aW→mw ej xs g8:=fun ⟨I,O⟩=>⟨I,fun i q x a8 F=>⟨(O i q x a8 F).1,c3.mono h (O i q x a8 F).2⟩⟩
def ua(ej:List af)(xs:List (List UInt8)):bC:=rU (mw ej xs) mw.mono
theorem mw.push{ej:List af}{xs:List (List UInt8)}{q:af}{x:List UInt8}{aW:cv}(h:mw ej xs aW)(U:q.len≤q.cap)(ab:c3 (B .u8) q (aT x) aW):mw (ej++[q]) (xs++[x]) aW:=by
 refine⟨by simp[h.1],fun i gx afL a8 F=>?_⟩;by_cases c:i<ej.length
 ·rw[List.getElem?_append_left c] at a8;rw[List.getElem?_append_left (by rw[← h.1]; exact c)] at F;exact h.2 i gx afL a8 F
 ·have ax:i=ej.length:=by
   have:=(List.getElem?_eq_some_iff.1 a8).1;simp at this; omega
  subst ax;rw[List.getElem?_append_right (Nat.le_refl _)] at a8;rw[List.getElem?_append_right (by rw[h.1]; exact Nat.le_refl _),h.1] at F;simp at a8 F;subst a8; subst F;exact⟨U,ab⟩
theorem aGL(l_:s.len≤s.cap)(aL:av.length≤1000000000)(k:b6 m (c3 (B .u8) s (aT av)))(H:E A m w) :
  M Pg 143 [X.enc s] (bw X (B .i64)) w fun r J=>r.2=((scan av).2:Nat)∧∃ ej:List af,E A (row X 189 1 r.1 ej::ua ej (scan av).1::m) J:=by
 have aG:=k.len H;rw[gv] at aG;refine agD ?_;unfold T8;refine Ej (fun y p w=>∃ (a f:Nat) (xs:List (List UInt8)) (ej:List af),y=av.length-a∧p.2=(a:Int)∧a≤av.length∧av.length-a<f∧xs.length≤a∧scan av=qz f (av.drop a) xs a∧E A (row X 189 1 p.1 ej::ua ej xs::m) w) av.length
  ⟨0,av.length+1,[],[],by omega,rfl,by omega,by omega,by simp,rfl,kN X 189 1 (H.z7 (y:=mw.mono) (fun _ _ _=>⟨rfl,fun i q x a8=>by simp at a8⟩))⟩ ?_
 clear H;rintro y ⟨r,a⟩ w ⟨a,f,xs,ej,rfl,rfl,Y,am,aKc,he,H⟩ aa ca;simp only at H;unfold Ms;rw[aG];refine ob (by omega) (by omega) (by omega) (by omega) fun w7 iu=>?_;have jT:=k.sub (fun _=>rfl) iu (by rw[gv]; omega);have uP:((aT av).take (av.length:Int).toNat).drop ((a:Int)).toNat=aT (av.drop a):=by
  rw[Mb,List.take_of_length_le (by rw[gv]; omega)]; rfl
 rw[uP] at jT;have ao2:w7.len≤w7.cap:=by
  obtain⟨cj,fp,_⟩:=H_ iu;rw[cj,fp]; omega
 refine ap (Rm ao2 (by simp; omega) jT.tail.tail H) ?_;rintro⟨q,n,j⟩ w J3;obtain⟨g,rfl⟩:∃ g,f=g+1:=⟨f-1,by omega⟩
 simp only[qz] at he;cases ai:nD (av.drop a) with
 |error hU=>
  rw[ai] at J3 he;obtain⟨I,O,H⟩:=J3;simp only at I he;subst I;rw[if_pos (by simpa using O)];rw[he];exact⟨rfl,ej,H⟩
 |ok p=>
  obtain⟨x,QV⟩:=p;rw[ai] at J3 he;obtain⟨I,O,aJ,H⟩:=J3;simp only at I O aJ he H;subst I; subst O;rw[if_neg (by simp)];obtain⟨bA,eR,je,nx⟩:=K2 ai;rw[List.length_drop] at bA;have wD:ej.length=xs.length:=by
   obtain⟨aW,_,a7⟩:=(b6.pF (b6.tail (b6.tail (b6.here (y:=mw.mono))))) H;exact a7.1
  refine nu (fun _=>rfl) 1 H rfl (by simp; omega) fun oE w H=>?_;have aR:IntKind.i64.wrap ((a:Int)+(QV:Int))=((a+QV:Nat):Int):=by rw[wrap_i64 (by omega) (by omega)]; omega
  rw[aR]
  have g7:=H.z7 (fa:=mw (ej++[q]) (xs++[x])) (y:=mw.mono) (by
   intro aW h cD;have cY:mw ej xs aW:=(b6.tail (b6.tail (b6.here (y:=mw.mono)))) aW h cD;have Ag:c3 (B .u8) q (aT x) aW:=(b6.tail (b6.here (y:=c3.mono))) aW h cD
   exact cY.push aJ Ag)
  refine ca _ _ _ ?_ ⟨a+QV,g,xs++[x],ej++[q],rfl,rfl,by omega,by omega,by simp; omega,by rw[he,List.drop_drop],?_⟩
  ·omega
  ·exact (g7.ord [2,3]).drop.drop.front 1
structure nr where
 all:Int
 sure:Int
 log:Int
 dead:Bool
def h8(l d:Nat)(V:nr):bC:=aH l (ajE.cells ⟨⟨V.all,V.sure⟩,some ⟨d,0,none⟩,V.log,V.dead⟩) 238
def gm(K:cR)(V:nr)(x:List UInt8):cR×nr×Int:=
 if V.dead then (K,V,81) else if 65536<x.length then (K,V,30)
 else ((ot K V.log (g2 x)).1,{ V with all:=if (ot K V.log (g2 x)).2=0 then IntKind.i64.wrap (V.all+1) else V.all,dead:=V.dead||(ot K V.log (g2 x)).2==71 },(ot K V.log (g2 x)).2)
def gu(K:cR)(V:nr):cR×nr×Int:=
 if V.dead then (K,V,81)
 else ((oJ K V.log).1,{ V with sure:=if (oJ K V.log).2=0 then V.all else V.sure,dead:=V.dead||(oJ K V.log).2==71 },(oJ K V.log).2)
theorem B4{l d:Nat}{V:nr}{j:Int}(H:E A (h8 l d V::m) w):M Pg 128 [.pointer (some ⟨l,0,none⟩),.int .i64 j] (B .i64) w fun r J=>r=j∧E A (h8 l d { V with dead:=V.dead||j==71 }::m) J:=by
 refine ago ?_;unfold TT;refine cb rfl ?_;refine aj (x:=V.dead) 0 H rfl rfl rfl ?_;refine dD (x:=V.dead||j==71) 0 H rfl rfl (Nat.le_of_ble_eq_true rfl) fun w H=>?_;exact⟨rfl,H⟩
theorem N0{l d:Nat}{K:cR}{V:nr}{q:af}{x:List UInt8}(dr:K.hD)(aL:x.length≤9223372036854775806)(k:di 1 m (B .u8) q (aT x))(H:E A (h8 l d V::ez d K::m) w) :
  M Pg 98 [.pointer (some ⟨l,0,none⟩),X.enc q] (B .i64) w fun r J=>r=(gm K V x).2.2∧E A (h8 l d (gm K V x).2.1::ez d (gm K V x).1::m) J:=by
 refine ajo ?_;unfold WN IM gm;refine cb rfl ?_;refine aj (x:=V.dead) 0 H rfl rfl rfl ?_;by_cases ag:V.dead=true
 ·rw[if_pos ag,if_pos ag];exact⟨rfl,H⟩
 ·rw[if_neg ag,if_neg ag];refine ap (aGN aL k.tail.tail H) ?_;rintro⟨r,j⟩ w ⟨I,O⟩;by_cases F:65536<x.length
  ·obtain⟨aJ,H⟩:=I F;cases aJ;rw[if_pos (by simp),if_pos F];exact⟨rfl,H⟩
  ·obtain⟨aJ,H⟩:=O (by omega);simp only at aJ H;subst aJ;rw[if_neg (by simp),if_neg F];refine dp H fun w H=>?_;refine aj (x:=some ⟨d,0,none⟩) 1 H rfl rfl rfl ?_;refine aj (x:=V.log) 1 H rfl rfl rfl ?_;refine ap (ake dr (by rw[u1]; omega) (di.row (fun _=>rfl) 0 rfl) (H.front 2)) ?_;rintro j w ⟨rfl,H⟩;refine ap (B4 (H.front 2)) ?_;rintro j w ⟨rfl,H⟩;refine⟨bM aD H rfl rfl,bM (B .i64) H rfl rfl,?_⟩;by_cases he:(ot K V.log (g2 x)).2=0
   ·rw[if_pos (by simp[he]),if_pos he];refine aj (x:=V.all) 0 H rfl rfl rfl ?_;refine dD (x:=IntKind.i64.wrap (V.all+1)) 0 H rfl rfl (Nat.le_of_ble_eq_true rfl) fun w H=>?_;exact⟨rfl,(H.ord [2]).drop⟩
   ·rw[if_neg (by simp[he]),if_neg he];exact⟨rfl,(H.ord [2]).drop⟩
theorem Sz{l d:Nat}{K:cR}{V:nr}(dr:K.hD)(H:E A (h8 l d V::ez d K::m) w) :
  M Pg 80 [.pointer (some ⟨l,0,none⟩)] (B .i64) w fun r J=>r=(gu K V).2.2∧E A (h8 l d (gu K V).2.1::ez d (gu K V).1::m) J:=by
 refine ai7 ?_;unfold Wx IL gu;refine cb rfl ?_;refine aj (x:=V.dead) 0 H rfl rfl rfl ?_;by_cases ag:V.dead=true
 ·rw[if_pos ag,if_pos ag];exact⟨rfl,H⟩
 ·rw[if_neg ag,if_neg ag];refine dp H fun w H=>?_;refine aj (x:=some ⟨d,0,none⟩) 0 H rfl rfl rfl ?_;refine aj (x:=V.log) 0 H rfl rfl rfl ?_;refine ap (aeS dr (H.front 1)) ?_;rintro j w ⟨rfl,H⟩;refine ap (B4 (H.front 1)) ?_;rintro j w ⟨rfl,H⟩;refine⟨bM aD H rfl rfl,bM (B .i64) H rfl rfl,?_⟩;by_cases he:(oJ K V.log).2=0
  ·rw[if_pos (by simp[he]),if_pos he];refine aj (x:=V.all) 0 H rfl rfl rfl ?_;refine dD (x:=V.all) 0 H rfl rfl (Nat.le_of_ble_eq_true rfl) fun w H=>?_;exact⟨rfl,H⟩
  ·rw[if_neg (by simp[he]),if_neg he];exact⟨rfl,H⟩
def dh(K:cR)(n:Int)(g:dW):cR×Int:=
 if (scan g.l).2<g.l.length then Av K n (g.l.take (scan g.l).2) else if g.sure<(scan g.l).2 then oJ K n else (K,0)
theorem aeu(av:List UInt8):(scan av).2≤av.length:=by
 have key:∀ (f:Nat) (av:List UInt8) (m:List (List UInt8)) (a:Nat),(qz f av m a).2≤a+av.length:=by
  intro f;induction f with
  |zero=>intro av m a; simp[qz]
  |succ f ck=>
   intro av m a;simp only[qz];cases ai:nD av with
   |error j=>simp
   |ok p=>
    obtain⟨x,n⟩:=p;have:=ck (av.drop n) (m++[x]) (a+n);have h:=K2 ai;rw[List.length_drop] at this;simp only;omega
 have:=key (av.length+1) av [] 0;unfold scan; omega
theorem aet(av:List UInt8):(scan av).1.length≤av.length:=by
 have key:∀ (f:Nat) (av:List UInt8) (m:List (List UInt8)) (a:Nat),(qz f av m a).1.length≤m.length+av.length:=by
  intro f;induction f with
  |zero=>intro av m a; simp[qz]
  |succ f ck=>
   intro av m a;simp only[qz];cases ai:nD av with
   |error j=>simp
   |ok p=>
    obtain⟨x,n⟩:=p;have:=ck (av.drop n) (m++[x]) (a+n);have h:=K2 ai;rw[List.length_drop] at this;simp only[List.length_append,List.length_cons,List.length_nil] at this;simp only;omega
 have:=key (av.length+1) av [] 0;unfold scan; simpa using this
theorem ach{d:Nat}{K:cR}{n:Int}{g:dW}(dr:K.hD)(ah:0≤n)(DX:K.down=false)(R:K.cS[n.toNat]?=some g)(H:E A (ez d K::m) w) :
  M Pg 91 [.pointer (some ⟨d,0,none⟩),.int .i64 n] (mm aD X (B .i64)) w fun r J=>r.2.2=(dh K n g).2∧((dh K n g).2=0→∃ (l:Nat) (ej:List af),r.1=some ⟨l,0,none⟩ ∧
   E A (h8 l d ⟨(scan g.l).1.length,(scan g.l).1.length,n,false⟩::ez d (dh K n g).1::row X 189 1 r.2.1 ej::ua ej (scan g.l).1::m) J)∧((dh K n g).2≠0→r.1=none∧E A (ez d (dh K n g).1::m) J):=by
 have dC:=(List.getElem?_eq_some_iff.1 R).1;have D1:=dr.log g (List.mem_of_getElem? R);refine aji ?_;unfold Nu;rw[if_neg (by simp)];refine ap (aFY (n:=n) dr H) ?_;rintro⟨r,j⟩ w ⟨_,_,aJ⟩;obtain⟨bl,H⟩:=aJ g ah DX R;simp only at bl H;subst bl;rw[if_neg (by simp)];have tV:=gr H;have J2:=EL H;rw[gv] at tV;have H:=vD H;have aKz:b6 [ro (B .u8) r (aT g.l)] (c3 (B .u8) r (aT g.l)):=b6.here (y:=c3.mono);refine ap (aGL J2 (by omega) (b6.here (y:=c3.mono)) H) ?_;rintro⟨q,y⟩ w ⟨hm,ej,H⟩;simp only at hm H;subst hm;have J5:=aeu g.l;rw[tV]
 have g4:∀ (ee:cR) (j:Int) (w:World),dh K n g=(ee,j)→E A (ez d ee::row X 189 1 q ej::ua ej (scan g.l).1::m) w→AT (some ⟨d,0,none⟩) n (q,((scan g.l).2:Int)) j w fun r J=>r.2.2=(dh K n g).2∧((dh K n g).2=0→∃ (l:Nat) (ej:List af),r.1=some ⟨l,0,none⟩ ∧
   E A (h8 l d ⟨(scan g.l).1.length,(scan g.l).1.length,n,false⟩::ez d (dh K n g).1::row X 189 1 r.2.1 ej::ua ej (scan g.l).1::m) J)∧((dh K n g).2≠0→r.1=none∧E A (ez d (dh K n g).1::m) J):=by
  intro ee j w aqp H;rw[aqp];unfold AT;by_cases he:j=0
  ·subst he;rw[if_neg (by simp)];have wD:=gr (H.front 1);have aqC:ej.length=(scan g.l).1.length:=by
    obtain⟨aW,_,a7⟩:=(b6.pF (b6.tail (b6.tail (b6.here (y:=mw.mono))))) H;exact a7.1
   simp only;rw[wD,aqC];refine bP H fun l w H=>?_;exact⟨by trivial,fun _=>⟨l,ej,rfl,H⟩,fun h=>absurd rfl h⟩
  ·rw[if_pos (by simpa using he)];exact⟨by trivial,fun h=>absurd h he,fun _=>⟨by trivial,((H.ord [1,2]).drop.drop)⟩⟩
 by_cases I:(scan g.l).2<g.l.length
 ·rw[if_pos (by simp; omega)];dsimp only;refine ob (by omega) (by omega) (by omega) (by omega) fun Sk Zm=>?_;have wK:=(b6.tail (b6.tail (b6.here (y:=c3.mono)):b6 (ua ej (scan g.l).1::ro (B .u8) r (aT g.l)::ez d K::m) (c3 (B .u8) r (aT g.l))):b6 (row X 189 1 q ej::ua ej (scan g.l).1::ro (B .u8) r (aT g.l)::ez d K::m) (c3 (B .u8) r (aT g.l)))
  have AW:=H.ord [3,2];have vk:b6 (ro (B .u8) r (aT g.l)::row X 189 1 q ej::ua ej (scan g.l).1::m) (c3 (B .u8) r (aT g.l)):=b6.here (y:=c3.mono);have rn:=vk.sub (fun _=>rfl) Zm (by rw[gv]; omega);have akr:((aT g.l).take (((scan g.l).2:Nat):Int).toNat).drop ((0:Int)).toNat=aT (g.l.take (scan g.l).2):=by rw[Iz]; rfl
  rw[akr] at rn;refine ap (aHF (n:=n) dr (by rw[List.length_take]; omega) (di.ro (fun _=>rfl) rn) AW) ?_;rintro j w ⟨rfl,H⟩;refine g4 _ _ w ?_ ((H.front 1).drop);unfold dh;rw[if_pos I]
 ·rw[if_neg (by simp; omega)];refine ap (aHC ah R (H.ord [3,2])) ?_;rintro j w ⟨rfl,H⟩;by_cases O:g.sure<(scan g.l).2
  ·rw[if_pos (by simp; omega)];refine ap (aeS (n:=n) dr H) ?_;rintro j w ⟨rfl,H⟩;refine g4 _ _ w ?_ ((H.front 1).drop);unfold dh;rw[if_neg I,if_pos O]
  ·rw[if_neg (by simp; omega)];refine g4 K 0 w ?_ ((H.front 1).drop);unfold dh;rw[if_neg I,if_neg O]
end
section
variable {A w:World} {m bT:List bC}
theorem alD{Z:Type}{T:bu Z}{t:TypeId}{ar:Nat}{s:af}{xs:List Z}{z:Z}{aa:World→Prop}(al:∀ x,(T.cells x).length=ar)(i:Nat)(H:E A m w)(ax:front i m=row T t ar s xs::bT)
  (aq:∀ J,E A (row T t ar s (List.replicate xs.length z)::bT) J→aa J):wm T ar z s w aa:=by
 have H:=ax▸H.front i;rcases oG H with ⟨rfl,rfl,lz⟩ | ⟨l,rest,dn,dY,gM,jG,gY⟩
 ·exact aq w (kN T t ar lz)
 ·unfold wm;rw[dn];have m3:(xs.flatMap T.cells).length=s.len*ar:=by rw[nV al,dY]
  have wF:((List.replicate s.len z).flatMap T.cells).length=s.len*ar:=by rw[nV al]; simp
  refine⟨CI gY (by simp only[List.length_append,m3]; omega),aq _ ?_⟩;have:=Aj ((List.replicate s.len z).flatMap T.cells) 0 0 _ _ gY (by simp only[List.length_append,m3,wF]; omega);refine ut (rest:=rest) dn (by simpa using dY) gM jG ?_;have j:jv (xs.flatMap T.cells++rest) (0+0) ((List.replicate s.len z).flatMap T.cells)=(List.replicate xs.length z).flatMap T.cells++rest:=by
   simp only[jv,Nat.add_zero,Nat.zero_add,List.take_zero,List.nil_append,wF];rw[← m3,List.drop_left,dY]
  rw[j] at this;exact this
theorem akf{d:Nat}{K:cR}{n:Int}{s:af}{bG:List Int}(aL:bG.length≤1000000)(k:di 1 m (B .i64) s bG)(H:E A (ez d K::m) w) :
  M Pg 71 [.pointer (some ⟨d,0,none⟩),.int .i64 n,X.enc s] dZ w fun _ J=>E A (ez d { K with ef:=max n 0,bG:=bG }::m) J:=by
 refine aiX ?_;unfold Wo;refine cb rfl ?_;obtain⟨q,P,bE,fj,H⟩:=xO H;refine dD (x:=max n 0) 0 H rfl rfl (Nat.le_of_ble_eq_true rfl) fun w H=>?_;refine aj (x:=bE) 0 H rfl rfl rfl ?_;refine alD (fun _=>rfl) 3 H rfl fun w H=>?_;refine aj (x:=bE) 1 H rfl rfl rfl ?_;refine ob (by omega) (by omega) (by omega) (by omega) fun aeq sO=>?_;obtain⟨_,H⟩:=Si (fun _=>rfl) sO (by omega) H;rw[show (0:Int).toNat=0 from rfl,List.take_zero] at H;refine Dp (fun _=>rfl) 0 H rfl (k.tail.tail.tail.tail.Ct H) (by simp; omega) fun r w H=>?_;rw[List.nil_append] at H;refine dD (x:=r) 1 H rfl rfl (Nat.le_of_ble_eq_true rfl) fun w H=>?_;exact q8 (K:={ K with ef:=max n 0,bG:=bG }) fj (H.ord [0,2,3,1])
end
end Disk
namespace Num
open bf
def pC(n:Int)(f:Nat):Int:=if f=0∨f=9223372036854775808∨n=0 then 0 else if f<4503599627370496 then 1
 else ((n.toNat*(4503599627370496+f%4503599627370496)/2^(1075-f/4503599627370496):Nat):Int)+if n.toNat*(4503599627370496+f%4503599627370496)%2^(1075-f/4503599627370496)=0 then 0 else 1
theorem aeD{x y D:Nat}(h:y+D=64):x*2^D%18446744073709551616=x%2^y*2^D:=by
 have yS:(2:Nat)^64=18446744073709551616:=by decide
 rw[← yS,← h,Nat.pow_add,Nat.mul_mod_mul_right]
theorem Jg{n:Int}{f:Nat}(ah:0≤n)(h:ju f):0≤pC n f∧pC n f≤2*n:=by
 unfold pC;split
 ·omega
 ·rename_i I;split
  ·omega
  ·rename_i U;have am:f≤4607182418800017408:=by rcases h with h | h<;>omega
   have aE:(2:Nat)^52=4503599627370496:=by decide
   have hm:n.toNat*(4503599627370496+f%4503599627370496)<n.toNat*(2*4503599627370496):=(Nat.mul_lt_mul_left (by omega)).2 (by omega);have ag:=Jn (n.toNat*(4503599627370496+f%4503599627370496)) (1075-f/4503599627370496) (by omega);generalize n.toNat*(4503599627370496+f%4503599627370496)=cf at *;generalize cf/2^(1075-f/4503599627370496)=Q at *;have:cf/4503599627370496<2*n.toNat:=Nat.div_lt_of_lt_mul (by omega);split<;>omega
section
variable {A w:World} {m bT:List bC}
theorem aeH{n:Int}(ah:0≤n)(I:n≤4503599627370496)(H:E A m w):M Pg 153 [.int .i64 (-n)] (B .u64) w fun r J=>r=n∧E A m J:=by
 by_cases c:n=0
 ·subst c;exact Cy (by omega) (by omega) H
 ·refine Uh ?_;unfold Mv;rw[if_pos (by simp; omega)];have aR:IntKind.u64.wrap (-n)=18446744073709551616-n:=by rw[lw]; omega
  rw[aR];exact⟨by rw[lw]; omega,H⟩
theorem aeF{n:Int}(ah:0≤n)(I:n<9223372036854775808)(H:E A m w):M Pg 155 [.bool true,.int .u64 n] (bw (B .i64) (B .i64)) w fun r J=>r=(-n,0)∧E A m J:=by
 refine Ui ?_;unfold Mw;rw[if_pos (by simp; omega),wrap_i64 (x:=n) (by omega) (by omega),wrap_i64 (by omega) (by omega)];exact⟨by simp,H⟩
theorem amg{b k:Nat}(ah:0<b)(a1:b<2^104)(aq:52≤k)(jp:k≤4000)(H:E A m w):M Pg 156 [.int .u64 ((b/18446744073709551616:Nat):Int),.int .u64 ((b%18446744073709551616:Nat):Int),.int .u64 (k:Int)] (mm (B .u64) bk bk) w fun r J=>r.2.1=decide (b%2^k≠0)∧r.1=((b/2^k:Nat):Int)∧r.2.2=true∧E A m J:=by
 have yS:(2:Nat)^64=18446744073709551616:=by decide
 have yR:(2:Nat)^104=18446744073709551616*1099511627776:=by decide
 refine Uj ?_;unfold Mx;by_cases bt:128≤k
 ·rw[if_pos (by simp; omega)];have dC:b<2^k:=Nat.lt_of_lt_of_le a1 (Nat.pow_le_pow_right (by omega) (by omega));have:b/2^k=0:=Nat.div_eq_of_lt dC;rw[this,Nat.mod_eq_of_lt dC];exact⟨(decide_eq_true (by omega)).symm,rfl,rfl,H⟩
 ·rw[if_neg (by simp; omega)];by_cases bI:64<k
  ·rw[if_pos (by simp; omega)];have dF:IntKind.u64.wrap ((k:Int)-64)=((k-64:Nat):Int):=by rw[kR _ (by omega) (by omega)]; omega
   have cB:IntKind.u64.wrap ((128:Int)-(k:Int))=((128-k:Nat):Int):=by rw[kR _ (by omega) (by omega)]; omega
   rw[dF,cB];refine aP _ ⟨by omega,(Bo (b/18446744073709551616) (k-64) (by omega) _ rfl).symm⟩ ?_;refine aP _ ⟨by omega,rfl⟩ ?_;have PJ:2^k=18446744073709551616*2^(k-64):=by rw[← yS,← Nat.pow_add]; congr 1; omega
   refine⟨?_,?_,rfl,H⟩
   ·have aR:min ((((128-k:Nat)):Int)).toNat IntKind.u64.bits=128-k:=by
     rw[Int.toNat_natCast];exact Nat.min_eq_left (by show 128-k≤64; omega)
    rw[aR];have a9:((b/18446744073709551616:Nat):Int)*2^(128-k)=((b/18446744073709551616*2^(128-k):Nat):Int):=by rw[Int.natCast_mul]; congr 1
    have df:IntKind.u64.wrap ((b/18446744073709551616*2^(128-k):Nat):Int)=((b/18446744073709551616%2^(k-64)*2^(128-k):Nat):Int):=by
     rw[lw,← aeD (show k-64+(128-k)=64 by omega)];omega
    rw[a9,df];have m0:b%2^k=b%18446744073709551616+18446744073709551616*(b/18446744073709551616%2^(k-64)):=by rw[PJ,Nat.mod_mul]
    rw[m0];have aqA:=Nat.two_pow_pos (128-k);generalize b/18446744073709551616%2^(k-64)=aO at *;generalize b%18446744073709551616=aT at *;rw[Bool.eq_iff_iff];simp only[Bool.or_eq_true,bne_iff_ne,ne_eq,decide_eq_true_eq];have bL:((aO*2^(128-k):Nat):Int)=0↔aO=0:=by
     constructor
     ·intro h;have h:aO*2^(128-k)=0:=by omega
      rcases Nat.mul_eq_zero.1 h with h | h
      ·exact h
      ·omega
     ·rintro rfl;simp
    rw[bL];omega
   ·simp only;rw[PJ,Nat.div_div_eq_div_mul]
  ·rw[if_neg (by simp; omega)];by_cases cc:k=64
   ·subst cc;rw[if_pos (by simp)];rw[yS];refine⟨?_,rfl,rfl,H⟩;rw[Bool.eq_iff_iff];simp only[bne_iff_ne,ne_eq,decide_eq_true_eq];omega
   ·rw[if_neg (by simp; omega)];have dF:IntKind.u64.wrap ((64:Int)-(k:Int))=((64-k:Nat):Int):=by rw[kR _ (by omega) (by omega)]; omega
    rw[dF];obtain⟨D,bR⟩:∃ D,D+k=64:=⟨64-k,by omega⟩
    have zT:64-k=D:=by omega
    rw[zT];have ym:(2:Nat)^D*2^k=18446744073709551616:=by rw[← Nat.pow_add,bR,yS]
    have D3:4503599627370496≤2^k:=by
     have:(2:Nat)^52=4503599627370496:=by decide
     rw[← this];exact Nat.pow_le_pow_right (by omega) aq
    have Pv:2^D≤4096:=by
     have:(2:Nat)^12=4096:=by decide
     rw[← this];exact Nat.pow_le_pow_right (by omega) (by omega)
    have ZW:b/18446744073709551616<1099511627776:=by
     rw[yR] at a1;exact Nat.div_lt_of_lt_mul a1
    have GV:b%18446744073709551616<18446744073709551616:=Nat.mod_lt _ (by omega);have JI:b=b/18446744073709551616*18446744073709551616+b%18446744073709551616:=by omega
    have hdiv:b/2^k=b/18446744073709551616*2^D+b%18446744073709551616/2^k:=by
     conv=>lhs; rw[JI,← ym,← Nat.mul_assoc]
     rw[ym,Nat.add_comm,Nat.add_mul_div_right _ _ (Nat.two_pow_pos k),Nat.add_comm]
    have Z3:b%2^k=b%18446744073709551616%2^k:=by
     conv=>lhs; rw[JI,← ym,← Nat.mul_assoc]
     rw[ym,Nat.add_comm,Nat.add_mul_mod_self_right]
    generalize b/18446744073709551616=ax at *;generalize b%18446744073709551616=nB at *;have mb:nB/2^k<2^D:=Nat.div_lt_of_lt_mul (by rw[Nat.mul_comm,ym]; exact GV);have GO:ax*2^D≤1099511627776*4096:=Nat.mul_le_mul (by omega) Pv;refine aP _ ⟨by omega,(Bo nB k (by omega) _ rfl).symm⟩ ?_;have Yq:min ((D:Int)).toNat IntKind.u64.bits=D:=by
     rw[Int.toNat_natCast];exact Nat.min_eq_left (by show D≤64; omega)
    have aR:IntKind.u64.wrap ((ax:Int)*2^(min ((D:Int)).toNat IntKind.u64.bits))=((ax*2^D:Nat):Int):=by
     rw[Yq];have c:(ax:Int)*2^D=((ax*2^D:Nat):Int):=by rw[Int.natCast_mul]; congr 1
     rw[c];exact kR _ (by omega) (by omega)
    have a9:IntKind.u64.wrap ((nB:Int)*2^(min ((D:Int)).toNat IntKind.u64.bits))=((nB%2^k*2^D:Nat):Int):=by
     rw[Yq];have c:(nB:Int)*2^D=((nB*2^D:Nat):Int):=by rw[Int.natCast_mul]; congr 1
     rw[c,lw,← aeD (show k+D=64 by omega)];omega
    refine aP _ ⟨by omega,rfl⟩ ?_;rw[aR];refine aP _ ⟨by omega,rfl⟩ ?_;rw[a9];refine aP _ ⟨by omega,(Bo ax k (by omega) _ rfl).symm⟩ ?_;have ah:ax/2^k=0:=Nat.div_eq_of_lt (by omega);rw[ah];refine⟨?_,?_,rfl,H⟩
    ·rw[Z3];generalize nB%2^k=aO at *;have aqA:=Nat.two_pow_pos D;rw[Bool.eq_iff_iff];simp only[bne_iff_ne,ne_eq,decide_eq_true_eq];have bL:((aO*2^D:Nat):Int)=0↔aO=0:=by
      constructor
      ·intro h;have h:aO*2^D=0:=by omega
       rcases Nat.mul_eq_zero.1 h with h | h
       ·exact h
       ·omega
      ·rintro rfl;simp
     rw[bL]
    ·simp only;rw[hdiv];have yl:=(bits_nat .u64 64 (by decide) kR (nB/2^k) (ax*2^D) (by omega) (by omega)).2;rw[yl,Nat.or_comm,Nat.mul_comm ax,← Nat.two_pow_add_eq_or_of_lt mb]
theorem aH3{n:Int}{f:Nat}(ah:0≤n)(I:n≤2000000000000000)(am:ju f)(H:E A m w):M Pg 95 [.int .i64 (-n),.float .f64 f] (bw (B .i64) (B .i64)) w fun r J=>r=(-pC n f,0)∧E A m J:=by
 have wA:f<18446744073709551616:=by rcases am with h | h<;>omega
 obtain⟨k,rfl⟩:∃ k:Nat,n=(k:Int):=⟨n.toNat,by omega⟩
 refine WK ?_;unfold Nx;refine ap (Bl wA H) ?_;rintro c w ⟨U,_,_,H⟩;have U:=U am;rw[if_neg (by simp; omega),if_neg (by simp; omega)];have xP:(c==6)=false:=by rw[beq_eq_false_iff_ne]; omega
 rw[xP];unfold FQ;rw[if_neg (by simp)];by_cases bL:f=0∨f=9223372036854775808
 ·refine KF (ap (Zc bL H) ?_);rintro r w ⟨rfl,H⟩;refine KG (ap (abn (j:=53) bL H) ?_);rintro r w ⟨rfl,H⟩;refine aP 0 (by rcases bL with h | h<;>subst h; exact LL.1; exact LL.2) ?_;refine ap (aeH ah (by omega) H) ?_;rintro r w ⟨rfl,H⟩;refine ap (Cy (n:=0) (by omega) (by omega) H) ?_;rintro r w ⟨rfl,H⟩;refine ap (KH (x:=k) (S:=0) (by omega) (by omega) H) ?_;rintro r w ⟨rfl,H⟩;rw[if_pos (by simp)];have:pC k r=0:=by
   unfold pC;rw[if_pos (by omega)]
  rw[this];exact⟨rfl,H⟩
 ·have k3:0<f∧f≤4607182418800017408:=by rcases am with h | h<;>omega
  refine KF (ap (Zd k3.1 k3.2 H) ?_);rintro r w ⟨⟨aU,j,rfl,ik,aL,aG⟩,H⟩;refine KG (ap (abo ik H) ?_);rintro r w ⟨rfl,H⟩;refine aP _ (ae8 ik) ?_;refine ap (aeH ah (by omega) H) ?_;rintro r w ⟨rfl,H⟩;refine ap (Cy (n:=((4503599627370496+aU:Nat):Int)) (by omega) (by omega) H) ?_;rintro r w ⟨rfl,H⟩;refine ap (KH (x:=k) (S:=4503599627370496+aU) (by omega) (by omega) H) ?_;rintro r w ⟨rfl,H⟩;have JL:k*(4503599627370496+aU)≤2000000000000000*9007199254740992:=Nat.mul_le_mul (by omega) (by omega);have yR:(2:Nat)^104=18446744073709551616*1099511627776:=by decide
  have he:j≤1∧-1100≤j∧(f<4503599627370496→j≤-1000):=by
   by_cases c:f<4503599627370496
   ·have:=aG c;omega
   ·have:=(aL (by omega)).2;omega
  have dF:IntKind.i64.wrap (j-53)=j-53:=wrap_i64 (by omega) (by omega);have cB:IntKind.u64.wrap (IntKind.i64.wrap (0-(j-53)))=((53-j).toNat:Nat):=by rw[wrap_i64 (by omega) (by omega),kR _ (by omega) (by omega)]; omega
  dsimp only;rw[dF,cB];have BH:pC k f=((k*(4503599627370496+aU)/2^(53-j).toNat:Nat):Int)+if k*(4503599627370496+aU)%2^(53-j).toNat=0 then 0 else 1:=by
   unfold pC;by_cases aw:k=0
   ·subst aw;rw[if_pos (by simp)];simp
   ·rw[if_neg (by omega)];by_cases c:f<4503599627370496
    ·rw[if_pos c];have aq:104≤(53-j).toNat:=by have:=he.2.2 c; omega
     have aE:2^104≤2^(53-j).toNat:=Nat.pow_le_pow_right (by omega) aq;have dC:k*(4503599627370496+aU)<2^(53-j).toNat:=Nat.lt_of_lt_of_le (by rw[yR]; omega) aE;have dT:k*(4503599627370496+aU)≠0:=Nat.mul_ne_zero aw (by omega);rw[Nat.div_eq_of_lt dC,Nat.mod_eq_of_lt dC,if_neg dT];rfl
    ·rw[if_neg c];obtain⟨a,l⟩:=aL (by omega);have:(53-j).toNat=1075-f/4503599627370496:=by omega
     rw[this,Int.toNat_natCast,a]
  rw[BH];have a8:=Jn (k*(4503599627370496+aU)) (53-j).toNat (by omega);by_cases F:k*(4503599627370496+aU)=0
  ·rw[if_pos (by rw[F]; simp),F];exact⟨by simp,H⟩
  ·have JU:k≠0:=by rintro rfl; simp at F
   generalize k*(4503599627370496+aU)=cf at *;rw[if_neg (by simp; omega),if_neg (by simp; omega)];refine ap (amg (b:=cf) (k:=(53-j).toNat) (by omega) (by rw[yR]; omega) (by omega) (by omega) H) ?_;rintro⟨q,rest,fits⟩ w ⟨aJ,I,O,H⟩;simp only at I O aJ;subst I; subst O; subst aJ;have aR:decide (-(k:Int)<0)=true:=by rw[decide_eq_true_eq]; omega
   have a9:decide (((4503599627370496+aU:Nat):Int)<0)=false:=by rw[decide_eq_false_iff_not]; omega
   rw[aR,a9];generalize cf/2^(53-j).toNat=Q at *;have df:(!(true==false))=true:=rfl;by_cases cr:cf%2^(53-j).toNat=0
   ·rw[decide_eq_false (by omega:¬ cf%2^(53-j).toNat≠0),if_neg (by simp),if_neg (by simp),if_pos cr];unfold CZ;rw[aR,a9];refine ap (aeF (n:=((Q:Nat):Int)) (by omega) (by omega) H) ?_;rintro r w ⟨rfl,H⟩;exact⟨by simp,H⟩
   ·rw[decide_eq_true (by omega:cf%2^(53-j).toNat≠0),if_neg (by simp; omega),if_pos (by simp),if_neg cr];unfold CZ;rw[aR,a9];have m0:IntKind.u64.wrap ((Q:Int)+1)=(Q:Int)+1:=kR _ (by omega) (by omega);rw[m0];refine ap (aeF (n:=(Q:Int)+1) (by omega) (by omega) H) ?_;rintro r w ⟨rfl,H⟩;exact⟨rfl,H⟩
end
end Num
namespace Clock
open bf Num
abbrev lC:=jz
abbrev pw:=cO
abbrev hk:=tz
abbrev ajC:=A4
def ns:lC:=⟨0,0⟩
def e1(n:Int):Prop:=0≤n∧n≤1125899906842624
instance (n:Int):Decidable (e1 n):=by unfold e1; infer_instance
def nv(s:lC):Prop:=e1 s.gS∧e1 s.jx∧s.gS≤s.jx
instance (s:lC):Decidable (nv s):=by unfold nv; infer_instance
def zD(s:lC):Int:=if nv s then 0 else 50
def mM(s:lC)(k:Int):lC×Int:=if ¬ nv s then (ns,50) else if ¬ e1 k then (ns,52) else (⟨max (s.gS-k) 0,min (s.jx+k) 1125899906842624⟩,0)
def DC(s:lC)(k:Int)(f:Nat):lC×Int:=if ¬ nv s then (ns,50) else if ¬ e1 k then (ns,52) else mM s (pC k f)
theorem afH{s:lC}{k:Int}(h:nv s)(aq:e1 k):(mM s k).2=0∧nv (mM s k).1∧(mM s k).1.gS≤s.gS∧s.jx≤(mM s k).1.jx:=by
 obtain⟨⟨I,O⟩,⟨aJ,bl⟩,dq⟩:=h;unfold mM;rw[if_neg (fun c=>c ⟨⟨I,O⟩,⟨aJ,bl⟩,dq⟩),if_neg (fun c=>c aq)];have:=aq.1;refine⟨rfl,⟨⟨?_,?_⟩,⟨?_,?_⟩,?_⟩,?_,?_⟩<;>simp only<;>omega
section
variable {A w:World} {m bT:List bC}
theorem aax(n:Int):(decide (n≥0)&&decide (n≤1125899906842624))=decide (e1 n):=by
 rw[Bool.eq_iff_iff];simp only[Bool.and_eq_true,decide_eq_true_eq];unfold e1;omega
theorem LB{n:Int}(H:E A m w):M Pg 168 [.int .i64 n] bk w fun r J=>r=decide (e1 n)∧E A m J:=by
 refine agW ?_;unfold Ut;exact⟨aax n,H⟩
theorem Jj{n:Int}(H:E A m w):M Pg 89 [.int .i64 n] bk w fun r J=>r=decide (e1 n)∧E A m J:=by
 refine ajf ?_;unfold WG;exact⟨aax n,H⟩
theorem uV{s:lC}(H:E A m w):M Pg 167 [pw.enc s] (B .i64) w fun r J=>r=zD s∧E A m J:=by
 refine agV ?_;unfold Us;refine bP H fun eb w H=>?_;refine aj (x:=s.gS) 0 H rfl rfl rfl ?_;refine ap (LB H) ?_;rintro r w ⟨rfl,H⟩;have bad:∀ (w:World),¬ nv s→E A (aH eb (pw.cells s) 137::m) w→CS ⟨eb,0,none⟩ true w fun r J=>r=zD s∧E A m J:=by
  intro w am H;unfold CS;refine aP 0 (fun h=>by cases h) ?_;refine aP 0 (fun h=>by cases h) ?_;rw[if_pos (by simp)];exact⟨by unfold zD; rw[if_neg am],H.drop⟩
 by_cases bt:e1 s.gS
 ·rw[decide_eq_true bt,if_neg (by simp)];refine aj (x:=s.jx) 0 H rfl rfl rfl ?_;refine ap (LB H) ?_;rintro r w ⟨rfl,H⟩;by_cases bI:e1 s.jx
  ·rw[decide_eq_true bI];unfold CS;refine aP s.gS (fun _=>bM (B .i64) H rfl rfl) ?_;refine aP s.jx (fun _=>bM (B .i64) H rfl rfl) ?_;by_cases cc:s.gS≤s.jx
   ·rw[if_neg (by simp; omega)];exact⟨by unfold zD; rw[if_pos ⟨bt,bI,cc⟩],H.drop⟩
   ·rw[if_pos (by simp; omega)];exact⟨by unfold zD; rw[if_neg (fun h=>cc h.2.2)],H.drop⟩
  ·rw[decide_eq_false bI];exact bad w (fun h=>bI h.2.1) H
 ·rw[decide_eq_false bt,if_pos (by simp)];exact bad w (fun h=>bt h.1) H
theorem afI{s:lC}{k:Int}(aq:-9000000000000000000≤k∧k≤9000000000000000000)(H:E A m w):M Pg 166 [pw.enc s,.int .i64 k] (bw pw (B .i64)) w fun r J=>r=mM s k∧E A m J:=by
 refine agU ?_;unfold Ur mM;refine bP H fun iC w H=>?_;refine bP H fun l8 w H=>?_;refine eh (x:=s) 1 H rfl ?_;refine ap (uV H) ?_;rintro r w ⟨rfl,H⟩;unfold zD;by_cases bt:nv s
 ·rw[if_pos bt,if_neg (by simp),if_neg (fun h=>h bt)];refine ap (LB H) ?_;rintro r w ⟨rfl,H⟩;by_cases bI:e1 k
  ·rw[decide_eq_true bI,if_neg (by simp:¬ (!true)=true),if_neg (fun h=>h bI)];refine aj (x:=s.gS) 1 H rfl rfl rfl ?_;refine aj (x:=s.jx) 1 H rfl rfl rfl ?_;obtain⟨⟨I,O⟩,⟨aJ,bl⟩,dq⟩:=bt;obtain⟨iu,rX⟩:=bI;rw[wrap_i64 (x:=s.gS-k) (by omega) (by omega),wrap_i64 (x:=s.jx+k) (by omega) (by omega)];refine c5 (x:=jB) (S:=(⟨max (s.gS-k) 0,min (s.jx+k) 1125899906842624⟩:lC)) pc 0 H rfl fun w H=>?_;refine eh (x:=(⟨max (s.gS-k) 0,min (s.jx+k) 1125899906842624⟩:lC)) 0 H rfl ?_;exact⟨rfl,H.drop.drop⟩
  ·rw[decide_eq_false bI,if_pos (by simp:(!false)=true),if_pos bI];refine c5 (x:=jB) (S:=ns) pc 0 H rfl fun w H=>?_;refine eh (x:=ns) 0 H rfl ?_;exact⟨rfl,H.drop.drop⟩
 ·rw[if_neg bt,if_pos (by simp),if_pos bt];refine c5 (x:=jB) (S:=ns) pc 0 H rfl fun w H=>?_;refine eh (x:=ns) 0 H rfl ?_;exact⟨rfl,H.drop.drop⟩
theorem Xs{t k:Int}(aq:-9000000000000000000≤k∧k≤9000000000000000000)(H:E A m w):M Pg 111 [.int .i64 t,.int .i64 k] (bw pw (B .i64)) w fun r J=>r=mM ⟨t,t⟩ k∧E A m J:=by
 refine af5 ?_;unfold TC;refine bP H fun iC w H=>?_;refine ap (afI (s:=⟨t,t⟩) aq H) ?_;rintro r w ⟨rfl,H⟩;refine c5 (x:=jB) (S:=(mM ⟨t,t⟩ k).1) pc 0 H rfl fun w H=>?_;refine eh (x:=(mM ⟨t,t⟩ k).1) 0 H rfl ?_;exact⟨rfl,H.drop⟩
theorem amh{s:lC}{k:Int}{f:Nat}(am:ju f)(R:fQ .gtr f 4607182418800017408=false)(H:E A m w):M Pg 112 [pw.enc s,.int .i64 k,.float .f64 f] (bw pw (B .i64)) w fun r J=>r=DC s k f∧E A m J:=by
 have wA:f<18446744073709551616:=by rcases am with h | h<;>omega
 refine af6 ?_;unfold TD DC;refine bP H fun iD w H=>?_;refine bP H fun uP w H=>?_;refine eh (x:=s) 1 H rfl ?_;refine ap (uV H) ?_;rintro r w ⟨rfl,H⟩;unfold zD;by_cases bt:nv s
 ·rw[if_pos bt,if_neg (by simp),if_neg (fun h=>h bt)];refine ap (LB H) ?_;rintro r w ⟨rfl,H⟩;by_cases bI:e1 k
  ·rw[decide_eq_true bI,if_neg (by simp:¬ (!true)=true),if_neg (fun h=>h bI)];refine ap (Bl wA H) ?_;rintro c w ⟨U,_,_,H⟩;have U:=U am;rw[if_neg (by rw[R]; simp; omega)];have rX:=bI.1;have tP:=bI.2;rw[wrap_i64 (x:=0-k) (by omega) (by omega),Int.zero_sub];refine ap (aH3 rX (by omega) am H) ?_;rintro r w ⟨rfl,H⟩;rw[if_neg (by simp)];refine eh (x:=s) 1 H rfl ?_;have k3:=Jg (f:=f) rX am;simp only;rw[wrap_i64 (x:=0 - -pC k f) (by omega) (by omega),show 0 - -pC k f=pC k f from by omega];refine ap (afI (s:=s) (by omega) H) ?_;rintro r w ⟨rfl,H⟩;refine c5 (x:=jB) (S:=(mM s (pC k f)).1) pc 0 H rfl fun w H=>?_;refine eh (x:=(mM s (pC k f)).1) 0 H rfl ?_;exact⟨rfl,H.drop.drop⟩
  ·rw[decide_eq_false bI,if_pos (by simp:(!false)=true),if_pos bI];refine c5 (x:=jB) (S:=ns) pc 0 H rfl fun w H=>?_;refine eh (x:=ns) 0 H rfl ?_;exact⟨rfl,H.drop.drop⟩
 ·rw[if_neg bt,if_pos (by simp),if_pos bt];refine c5 (x:=jB) (S:=ns) pc 0 H rfl fun w H=>?_;refine eh (x:=ns) 0 H rfl ?_;exact⟨rfl,H.drop.drop⟩
end
structure iY(c:hk):Prop where
 eD:ju c.eD
 gtr:fQ .gtr c.eD 4607182418800017408=false
 last:e1 c.last
 floor:e1 c.floor
 at_:e1 c.dk.at_
 h4:e1 c.dk.h4
 width:e1 c.dk.width
 le:c.dk.at_≤c.last
def j7(l:Nat)(c:hk):bC:=aH l (ajC.cells c) 175
def sp(c:hk)(h t j:Int):hk×Int:=if ¬ (e1 h∧e1 t∧e1 j) then (c,61) else if h<c.last then (c,62) else ({ c with dk:=⟨h,t,j,true⟩,last:=h },0)
def sm(c:hk)(h:Int):lC:=(DC (mM ⟨c.dk.h4+(h-c.dk.at_),c.dk.h4+(h-c.dk.at_)⟩ c.dk.width).1 (h-c.dk.at_) c.eD).1
def st(f:Int)(s:lC):lC:=⟨max s.gS f,max s.jx (max s.gS f)⟩
def e6(c:hk)(h:Int):hk×lC×Int:=
 if ¬ e1 h then (c,ns,61) else if c.dk.set=false then (c,ns,63) else if h<c.last then (c,ns,62) else if 1125899906842624<c.dk.h4+(h-c.dk.at_) then (c,ns,64)
 else ({ c with last:=h,floor:=(st c.floor (sm c h)).gS },st c.floor (sm c h),0)
theorem iY.set{c:hk}(k:iY c)(h t j:Int):iY (sp c h t j).1:=by
 unfold sp;split
 ·exact k
 ·rename_i bt;have bt:e1 h∧e1 t∧e1 j:=Classical.not_not.1 bt;split
  ·exact k
  ·exact⟨k.eD,k.gtr,bt.1,k.floor,bt.1,bt.2.1,bt.2.2,Int.le_refl _⟩
theorem aFZ{c:hk}(k:iY c){h:Int}(cD:e1 h)(al:c.last≤h)(aS:c.dk.h4+(h-c.dk.at_)≤1125899906842624):nv (sm c h):=by
 have I:=k.at_;have O:=k.h4;have aJ:=k.le;obtain⟨bl,dq⟩:=cD;have hw:=afH (s:=⟨c.dk.h4+(h-c.dk.at_),c.dk.h4+(h-c.dk.at_)⟩) (k:=c.dk.width) (by refine⟨⟨?_,?_⟩,⟨?_,?_⟩,?_⟩<;>simp only<;>unfold e1 at*<;> omega) k.width;unfold sm DC;unfold e1 at I O;have ax:e1 (h-c.dk.at_):=⟨by omega,by omega⟩
 rw[if_neg (fun aL=>aL hw.2.1),if_neg (fun aL=>aL ax)];have U:=Jg (f:=c.eD) ax.1 k.eD;by_cases ao:e1 (pC (h-c.dk.at_) c.eD)
 ·exact (afH hw.2.1 ao).2.1
 ·unfold mM;rw[if_neg (fun aL=>aL hw.2.1),if_pos ao];exact⟨⟨by decide,by decide⟩,⟨by decide,by decide⟩,by decide⟩
theorem iY.now{c:hk}(k:iY c)(h:Int):iY (e6 c h).1∧((e6 c h).2.2=0→nv (e6 c h).2.1):=by
 unfold e6;split
 ·exact⟨k,fun h=>by cases h⟩
 ·rename_i bt;have bt:e1 h:=Classical.not_not.1 bt;split
  ·exact⟨k,fun h=>by cases h⟩
  ·split
   ·exact⟨k,fun h=>by cases h⟩
   ·split
    ·exact⟨k,fun h=>by cases h⟩
    ·have am:=aFZ k bt (by omega) (by omega);obtain⟨⟨bA,eR⟩,⟨je,nx⟩,Bs⟩:=am;have cE:=k.floor;have rs:=k.le;unfold e1 at cE;have m3:e1 (max (sm c h).gS c.floor):=⟨by omega,by omega⟩
     exact⟨⟨k.eD,k.gtr,bt,m3,k.at_,k.h4,k.width,by simp only; omega⟩,fun _=>⟨m3,⟨by simp only[st]; omega,by simp only[st]; omega⟩,by simp only[st]; omega⟩⟩
section
variable {A w:World} {m bT:List bC}
theorem aez{l:Nat}{c:hk}{h t j:Int}(H:E A (j7 l c::m) w):M Pg 40 [.pointer (some ⟨l,0,none⟩),.int .i64 h,.int .i64 t,.int .i64 j] (B .i64) w fun r J=>r=(sp c h t j).2∧E A (j7 l (sp c h t j).1::m) J:=by
 refine aiq ?_;unfold VV sp;refine ap (Jj H) ?_;rintro r w ⟨rfl,H⟩;have bad:∀ (w:World),¬ (e1 h∧e1 t∧e1 j)→E A (j7 l c::m) w→CU (some ⟨l,0,none⟩) h t j true w fun r J=>r=(if ¬ (e1 h∧e1 t∧e1 j) then (c,(61:Int)) else if h<c.last then (c,62) else ({ c with dk:=⟨h,t,j,true⟩,last:=h },0)).2∧E A (j7 l (if ¬ (e1 h∧e1 t∧e1 j) then (c,(61:Int)) else if h<c.last then (c,62) else ({ c with dk:=⟨h,t,j,true⟩,last:=h },0)).1::m) J:=by
  intro w aL H;unfold CU;rw[if_pos rfl,if_pos aL];exact⟨rfl,H⟩
 by_cases bt:e1 h
 ·rw[decide_eq_true bt,if_neg (by simp:¬ (!true)=true)];refine ap (Jj H) ?_;rintro r w ⟨rfl,H⟩;unfold FA;by_cases bI:e1 t
  ·rw[decide_eq_true bI,if_neg (by simp:¬ (!true)=true)];refine ap (Jj H) ?_;rintro r w ⟨rfl,H⟩;by_cases cc:e1 j
   ·rw[decide_eq_true cc];unfold CU;rw[if_neg (by simp:¬ (!true)=true),if_neg (fun aL=>aL ⟨bt,bI,cc⟩)];refine cb rfl ?_;refine aj (x:=c.last) 0 H rfl rfl rfl ?_;by_cases fe:h<c.last
    ·rw[if_pos (by simpa using fe),if_pos fe];exact⟨rfl,H⟩
    ·rw[if_neg (by simpa using fe),if_neg fe];refine dD (x:=h) 0 H rfl rfl (Nat.le_of_ble_eq_true rfl) fun w H=>?_;refine dD (T:=A3) (x:=(⟨h,t,j,true⟩:ty)) 0 H rfl rfl (Nat.le_of_ble_eq_true rfl) fun w H=>?_;exact⟨rfl,H⟩
   ·rw[decide_eq_false cc];exact bad w (fun h=>cc h.2.2) H
  ·rw[decide_eq_false bI,if_pos (by simp:(!false)=true)];exact bad w (fun h=>bI h.2.1) H
 ·rw[decide_eq_false bt,if_pos (by simp:(!false)=true)];unfold FA;rw[if_pos rfl];exact bad w (fun h=>bt h.1) H
end
end Clock
namespace Num
open bf
theorem KA(f:Nat):ku f+fi f*4503599627370496=f∧ku f<9007199254740992∧(0<fi f→4503599627370496≤ku f):=by
 unfold ku fi;split
 ·exact⟨by omega,by omega,by omega⟩
 ·refine⟨?_,by omega,by omega⟩;have:=Nat.div_add_mod f 4503599627370496;have I:1≤f/4503599627370496:=by omega
  obtain⟨k,aq⟩:∃ k,f/4503599627370496=k+1:=⟨f/4503599627370496-1,by omega⟩
  rw[aq] at this ⊢;simp only[Nat.add_sub_cancel];omega
theorem afn{f g:Nat}(h:f<g):ku f*2^(fi f-min (fi f) (fi g))<ku g*2^(fi g-min (fi f) (fi g)):=by
 obtain⟨f1,f2,f3⟩:=KA f;obtain⟨bA,eR,je⟩:=KA g;generalize ku f=y at *;generalize ku g=n at *;generalize fi f=j at *;generalize fi g=d at *;rcases Nat.lt_trichotomy j d with c | c | c
 ·have aR:j-min j d=0:=by omega
  obtain⟨k,aq⟩:∃ k,d-min j d=k+1:=⟨d-min j d-1,by omega⟩
  rw[aR,aq,Nat.pow_zero,Nat.mul_one,Nat.pow_succ];have I:=je (by omega);have O:4503599627370496*(2^k*2)≤n*(2^k*2):=Nat.mul_le_mul_right _ I;have aJ:1≤2^k:=Nat.two_pow_pos k;omega
 ·subst c;have aR:j-min j j=0:=by omega
  rw[aR,Nat.pow_zero,Nat.mul_one,Nat.mul_one];omega
 ·exfalso;have:(d+1)*4503599627370496≤j*4503599627370496:=Nat.mul_le_mul_right _ c;have I:=f3 (by omega);rw[Nat.add_mul] at this;omega
theorem alH(a:Int):compare a a=.eq:=by simp[compare,compareOfLessAndEq]
theorem JH{f g:Nat}(am:f<9218868437227405312)(R:g<9218868437227405312):fQ .gtr f g=decide (g<f):=by
 unfold fQ;rw[f64];simp only[Ieee.Format.order,n3 am,n3 R,Ieee.Datum.order,vF];have aR:(-1074+(fi f:Int)-min (-1074+(fi f:Int)) (-1074+(fi g:Int))).toNat=fi f-min (fi f) (fi g):=by omega
 have a9:(-1074+(fi g:Int)-min (-1074+(fi f:Int)) (-1074+(fi g:Int))).toNat=fi g-min (fi f) (fi g):=by omega
 rw[aR,a9];rcases Nat.lt_trichotomy f g with c | c | c
 ·rw[Dx (Int.ofNat_lt.2 (afn c)),decide_eq_false (by omega)];rfl
 ·subst c;rw[alH,decide_eq_false (by omega)];rfl
 ·have h:=afn c;rw[Nat.min_comm] at h;rw[XY (Int.ofNat_lt.2 h),decide_eq_true c];rfl
def jc(f:Nat):Prop:=f=9223372036854775808∨f≤4576918229304087675
theorem jc.eD{f:Nat}(h:jc f):ju f:=by
 rcases h with h | h
 ·exact .inl h
 ·exact .inr (by omega)
theorem abG{g:Nat}(R:g<9218868437227405312):fQ .gtr 9223372036854775808 g=false:=by
 have j:Ieee.double.read 9223372036854775808=.number true 0 (-1074):=by decide
 unfold fQ;rw[f64];simp only[Ieee.Format.order,j,n3 R,Ieee.Datum.order,vF];have:Ieee.signed true 0 (-1074-min (-1074) (-1074+(fi g:Int))).toNat=0:=by unfold Ieee.signed; simp
 rw[this];have U:(0:Int)≤((ku g*2^(-1074+(fi g:Int)-min (-1074) (-1074+(fi g:Int))).toNat:Nat):Int):=Int.natCast_nonneg _;rcases Int.lt_or_eq_of_le U with h | h
 ·rw[Dx h]; rfl
 ·rw[← h]; rfl
theorem jc.one{f:Nat}(h:jc f):fQ .gtr f 4607182418800017408=false:=by
 rcases h with rfl | h
 ·exact abG (by omega)
 ·rw[JH (by omega) (by omega),decide_eq_false (by omega)]
theorem jc.gq{f:Nat}(h:jc f):fQ .gtr f 4576918229304087675=false:=by
 rcases h with rfl | h
 ·exact abG (by omega)
 ·rw[JH (by omega) (by omega),decide_eq_false (by omega)]
theorem aFT{f:Nat}(h:ju f)(R:fQ .gtr f 4576918229304087675=false):jc f:=by
 rcases h with h | h
 ·exact .inl h
 ·rw[JH (by omega) (by omega)] at R;exact .inr (by have:=of_decide_eq_false R; omega)
def nW(f:Nat):Nat:=(Ieee.double.div f 4611686018427387904).getD 0
theorem Pf{f:Nat}(h:jc f):xo .quo f 4611686018427387904 (nW f)∧ju (nW f):=by
 have a9:Ieee.double.read 4611686018427387904=.number false 4503599627370496 (-51):=by decide
 have aL:(4503599627370496:Nat).log2=52:=by decide
 have aIS:∀ (l:Bool) (p:Int),Ieee.double.write (.number l 0 p)=if l then 9223372036854775808 else 0:=by
  intro l p;show Ieee.Format.nearest _ _ _ _=_
  unfold Ieee.Format.nearest;rw[if_pos rfl];unfold Ieee.Format.word;rw[Ic]
 have key:∃ z,Ieee.double.div f 4611686018427387904=some z∧ju z:=by
  unfold Ieee.Format.div;rw[a9];rcases h with rfl | h
  ·have j:Ieee.double.read 9223372036854775808=.number true 0 (-1074):=by decide
   rw[j];refine⟨9223372036854775808,by decide,.inl rfl⟩
  ·rw[n3 (by omega)];simp only[Ieee.Datum.quotient];rw[if_neg (by omega),aL,DL];simp only[Option.map_some];refine⟨_,rfl,?_⟩;obtain⟨I,O,aJ⟩:=KA f;have api:fi f≤1015:=by unfold fi; split<;>omega
   generalize ku f=y at *;generalize fi f=j at *;by_cases hm:y=0
   ·subst hm;rw[Nat.zero_shiftLeft];simp only[Nat.zero_div,Nat.mul_zero,Nat.zero_mod];show ju (Ieee.double.write (.number (false ^^ false) (0+(0 != 0).toNat) _))
    rw[show (0+((0:Nat)!=0).toNat)=0 from rfl,aIS];exact .inr (by simp)
   ·have wB:y.log2≤52:=by
     have:y.log2<53:=(Nat.log2_lt hm).2 (by omega);omega
    have JZ:52+2+52-y.log2=52+(54-y.log2):=by omega
    have qg:y <<< (52+2+52-y.log2)=y*2^(54-y.log2)*4503599627370496:=by
     rw[JZ,Nat.shiftLeft_eq,Nat.pow_add,show (2:Nat)^52=4503599627370496 by decide,Nat.mul_assoc,Nat.mul_comm (2^(54-y.log2))]
    rw[qg,Nat.mul_div_cancel _ (by omega),Nat.mul_mod_left];have dC:y*2^(54-y.log2)<36028797018963968:=by
     have dq:y<2^(y.log2+1):=Nat.lt_log2_self;have iu:y*2^(54-y.log2)<2^(y.log2+1)*2^(54-y.log2):=(Nat.mul_lt_mul_right (Nat.two_pow_pos _)).2 dq;rw[← Nat.pow_add,show y.log2+1+(54-y.log2)=55 by omega] at iu;have:(2:Nat)^55=36028797018963968:=by decide
     omega
    have Pu:18014398509481984≤y*2^(54-y.log2):=by
     have dq:2^y.log2≤y:=Nat.log2_self_le hm;have iu:2^y.log2*2^(54-y.log2)≤y*2^(54-y.log2):=Nat.mul_le_mul_right _ dq;rw[← Nat.pow_add,show y.log2+(54-y.log2)=54 by omega] at iu;have:(2:Nat)^54=18014398509481984:=by decide
     omega
    generalize y*2^(54-y.log2)=cf at *;show ju (Ieee.Format.nearest Ieee.double (false ^^ false) (2*cf+((0:Nat)!=0).toNat) _)
    rw[show ((0:Nat)!=0).toNat=0 from rfl,Nat.add_zero];unfold Ieee.Format.nearest;rw[if_neg (by omega)];have pL:(2*cf).log2=55:=(Nat.log2_eq_iff (by omega)).2 ⟨by omega,by omega⟩;rw[pL,z_,DL,zC,z3];generalize aE:(-1074+(j:Int) - -51-((52+2+52-y.log2:Nat):Int)-1)=P;have fj:P≤-1074+(j:Int)-4:=by omega
    have Zw:-1074+(j:Int)-56≤P:=by omega
    simp only;have D5:max (P+((55:Nat):Int)-((52:Nat):Int)) (-1074)=max (P+3) (-1074):=by omega
    rw[D5];have zQ:(P-max (P+3) (-1074)).toNat=0:=by omega
    have BD:3≤(max (P+3) (-1074)-P).toNat:=by omega
    rw[zQ];have GQ:Ieee.Toward.cut .even (false ^^ false) ((2*cf) <<< 0) (max (P+3) (-1074)-P).toNat≤9007199254740992:=by
     generalize (max (P+3) (-1074)-P).toNat=K at *;unfold Ieee.Toward.cut;rw[Nat.shiftLeft_zero,pL];have GN:8≤1 <<< min K (55+2):=by
      rw[Nat.shiftLeft_eq,Nat.one_mul];have:(2:Nat)^3≤2^min K (55+2):=Nat.pow_le_pow_right (by omega) (by omega);omega
     generalize 1 <<< min K (55+2)=ay at *;simp only;have rX:2*cf/ay≤2*cf/8:=Nat.div_le_div_left GN (by omega);have tP:∀ l:Bool,l.toNat≤1:=fun l=>by cases l<;>decide
     refine Nat.le_trans (Nat.add_le_add rX (tP _)) ?_;omega
    have aqI:(max (P+3) (-1074) - -1074).toNat≤1015:=by omega
    generalize (max (P+3) (-1074) - -1074).toNat=Q at *;generalize Ieee.Toward.cut .even (false ^^ false) ((2*cf) <<< 0) (max (P+3) (-1074)-P).toNat=Kp at *;unfold Ieee.Format.word;rw[if_neg (by simp)];refine .inr ?_;have sO:Q*4503599627370496≤1015*4503599627370496:=Nat.mul_le_mul_right _ aqI;exact Nat.le_trans (Nat.min_le_left _ _) (Nat.le_trans (Nat.add_le_add sO GQ) (by decide))
 obtain⟨z,I,O⟩:=key;have bL:nW f=z:=congrArg (fun G:Option Nat=>G.getD 0) I;rw[bL];exact⟨I,O⟩
end Num
namespace Clock
open bf Num
def Gh(f:Nat):hk:=⟨⟨0,0,0,false⟩,f,0,0⟩
theorem j1:e1 0:=by decide
theorem XU{f:Nat}(h:jc f):iY (Gh f):=⟨h.eD,h.one,j1,j1,j1,j1,j1,Int.le_refl 0⟩
theorem foldl_max:∀ (N:List Int) (a:Int),a≤N.foldl max a
 |[],a=>Int.le_refl a
 |x::N,a=>Int.le_trans (by omega) (foldl_max N (max a x))
def jF(t:Int):Prop:=1≤t∧t≤1125899906842624
instance (n:Int):Decidable (jF n):=by unfold jF; infer_instance
def oI(l:Nat)(n:Int):bC:=aH l [.int .i64 n] 223
def oz(last t:Int):Int×Int:=if jF t then (max last t,0) else (last,100)
def Ac(last:Int)(s:lC)(ie:List Int):Int×Int×Int:=
 if ¬ nv s then (last,0,100) else if 1125899906842624≤ie.foldl max (max last s.jx) then (last,0,101) else (ie.foldl max (max last s.jx)+1,ie.foldl max (max last s.jx)+1,0)
section
variable {A w:World} {m bT:List bC}
theorem abH{f:Nat}(am:f<18446744073709551616)(H:E A m w):M Pg 37 [.float .f64 f] (bw aD (B .i64)) w fun r J=>(jc f→r.2=0∧∃ l:Nat,r.1=some ⟨l,0,none⟩∧E A (j7 l (Gh f)::m) J)∧(¬ jc f→r=(none,60)∧E A m J):=by
 refine aim ?_;unfold VR;refine ap (Bl am H) ?_;rintro c w ⟨ao1,hx,yc,H⟩;by_cases ag:jc f
 ·have:=ao1 ag.eD;rw[if_neg (by rw[ag.gq]; simp; omega)];refine bP H fun l w H=>?_;exact⟨fun _=>⟨rfl,l,rfl,H⟩,fun h=>absurd ag h⟩
 ·rw[if_pos ?_]
  ·exact⟨fun h=>absurd h ag,fun _=>⟨rfl,H⟩⟩
  ·by_cases cc:c<3
   ·simp[cc]
   ·have aL:=yc (by omega);have k3:¬ 9223372036854775808<f:=fun h=>cc (hx h);rw[Bool.or_eq_true];right;by_cases ab:ju f
    ·cases R:fQ .gtr f 4576918229304087675 with
     |true=>rfl
     |false=>exact absurd (aFT ab R) ag
    ·have dC:4607182418800017408<f∧f<9223372036854775808:=by
      unfold ju at ab;omega
     by_cases ax:f<9218868437227405312
     ·rw[JH ax (by omega),decide_eq_true (by omega)]
     ·have app:f=9218868437227405312:=by
       by_cases he:f=9218868437227405312
       ·exact he
       ·exfalso;have aqq:∃ t,Ieee.double.read f=.nan false t:=by
         have aR:(f/9223372036854775808%2==1)=false:=by
          have:f/9223372036854775808=0:=by omega
          rw[this]; rfl
         have a9:f%9223372036854775808=f:=Nat.mod_eq_of_lt (by omega);unfold Ieee.Format.read;simp only[Ic,zC,z3,z_,aR,a9];rw[if_neg (by omega),if_neg ax,if_neg he];exact⟨_,rfl⟩
        obtain⟨t,aS⟩:=aqq;unfold fQ at aL;rw[f64] at aL;simp only[Ieee.Format.order,aS] at aL;cases aL
      subst app;have j:Ieee.double.read 9218868437227405312=.infinity false:=by decide
      unfold fQ;rw[f64];simp only[Ieee.Format.order,j,n3 (show 4576918229304087675<9218868437227405312 by omega)];rfl
theorem HB{l:Nat}{c:hk}{h:Int}(k:iY c)(cD:-9000000000000000000≤h∧h≤9000000000000000000)(H:E A (j7 l c::m) w):M Pg 61 [.pointer (some ⟨l,0,none⟩),.int .i64 h] (bw pw (B .i64)) w fun r J=>r=(e6 c h).2∧E A (j7 l (e6 c h).1::m) J:=by
 refine aiM ?_;unfold Ni e6;refine bP H fun iC w H=>?_;refine ap (Jj H) ?_;rintro r w ⟨rfl,H⟩;have bad:∀ (j:Int) (w:World),E A (aH iC (pw.cells jB) 137::j7 l c::m) w→bd pw ⟨iC,0,none⟩ ns w fun J=>ex (L pw ⟨iC,0,none⟩ J) fun x=>(x,j)=((c,ns,j):hk×lC×Int).2∧E A (j7 l ((c,ns,j):hk×lC×Int).1::m) J:=by
  intro j w H;refine c5 (x:=jB) (S:=ns) pc 0 H rfl fun w H=>?_;refine eh (x:=ns) 0 H rfl ?_;exact⟨rfl,H.drop⟩
 by_cases bt:e1 h
 ·rw[decide_eq_true bt,if_neg (by simp:¬ (!true)=true),if_neg (fun aL=>aL bt)];refine cb rfl ?_;refine aj (x:=c.dk.set) 1 H rfl rfl rfl ?_;by_cases bI:c.dk.set=false
  ·rw[if_pos (by simp[bI]),if_pos bI];exact bad 63 w H
  ·rw[if_neg (by simpa using bI),if_neg bI];refine aj (x:=c.last) 1 H rfl rfl rfl ?_;by_cases cc:h<c.last
   ·rw[if_pos (by simpa using cc),if_pos cc];exact bad 62 w H
   ·rw[if_neg (by simpa using cc),if_neg cc];have dn:=k.at_;have dY:=k.h4;have gM:=k.le;have jG:=bt.1;have nZ:=bt.2;unfold e1 at dn dY;have aR:IntKind.i64.wrap (h-c.dk.at_)=h-c.dk.at_:=wrap_i64 (by omega) (by omega);have a9:IntKind.i64.wrap (c.dk.h4+(h-c.dk.at_))=c.dk.h4+(h-c.dk.at_):=wrap_i64 (by omega) (by omega);refine dp H fun w H=>?_;refine aj (x:=c.dk.h4) 1 H rfl rfl rfl ?_;refine aj (x:=c.dk.at_) 1 H rfl rfl rfl ?_;rw[aR,a9];by_cases fe:1125899906842624<c.dk.h4+(h-c.dk.at_)
    ·rw[if_pos (by simpa using fe),if_pos fe];exact bad 64 w H
    ·rw[if_neg (by simpa using fe),if_neg fe];have aBB:=k.width;unfold e1 at aBB;refine dp H fun w H=>?_;refine aj (x:=c.dk.h4) 1 H rfl rfl rfl ?_;refine aj (x:=c.dk.at_) 1 H rfl rfl rfl ?_;refine aj (x:=c.dk.width) 1 H rfl rfl rfl ?_;rw[aR,a9];have fin:∀ (av:Nat) (w:World),E A (aH av (pw.cells (mM ⟨c.dk.h4+(h-c.dk.at_),c.dk.h4+(h-c.dk.at_)⟩ c.dk.width).1) 137::aH iC (pw.cells jB) 137::j7 l c::m) w →
       CV h ⟨iC,0,none⟩ ⟨l,0,none⟩ ⟨av,0,none⟩ w fun r J=>r=(({ c with last:=h,floor:=(st c.floor (sm c h)).gS },st c.floor (sm c h),0):hk×lC×Int).2∧E A (j7 l (({ c with last:=h,floor:=(st c.floor (sm c h)).gS },st c.floor (sm c h),0):hk×lC×Int).1::m) J:=by
      intro av w H;unfold CV;have qf:(DC (mM ⟨c.dk.h4+(h-c.dk.at_),c.dk.h4+(h-c.dk.at_)⟩ c.dk.width).1 (h-c.dk.at_) c.eD).1=sm c h:=rfl;generalize (mM ⟨c.dk.h4+(h-c.dk.at_),c.dk.h4+(h-c.dk.at_)⟩ c.dk.width).1=s1 at *;refine dp H fun w H=>?_;refine eh (x:=s1) 0 H rfl ?_;refine aj (x:=c.dk.at_) 2 H rfl rfl rfl ?_;refine aj (x:=c.eD) 2 H rfl rfl rfl ?_;rw[aR];refine ap (amh (s:=s1) k.eD k.gtr H) ?_;rintro r w ⟨rfl,H⟩;refine⟨bM (B .i64) (H.front 2) rfl rfl,?_⟩;rw[qf];generalize sm c h=s2 at *;refine c5 (x:=s1) (S:=s2) pc 0 H rfl fun w H=>?_;refine dp H fun w H=>?_;refine aj (x:=s2.gS) 0 H rfl rfl rfl ?_;refine aj (x:=c.floor) 2 H rfl rfl rfl ?_;refine dD (x:=max s2.gS c.floor) 0 H rfl rfl (Nat.le_of_ble_eq_true rfl) fun w H=>?_;refine aj (x:=s2.jx) 0 H rfl rfl rfl ?_;refine aj (x:=max s2.gS c.floor) 0 H rfl rfl rfl ?_
      refine dD (x:=max s2.jx (max s2.gS c.floor)) 0 H rfl rfl (Nat.le_of_ble_eq_true rfl) fun w H=>?_;refine dp H fun w H=>?_;refine aj (x:=max s2.gS c.floor) 0 H rfl rfl rfl ?_;refine dD (x:=h) 2 H rfl rfl (Nat.le_of_ble_eq_true rfl) fun w H=>?_;refine⟨bM (B .i64) (H.front 1) rfl rfl,?_⟩;refine dD (x:=max s2.gS c.floor) 0 H rfl rfl (Nat.le_of_ble_eq_true rfl) fun w H=>?_;refine eh (x:=st c.floor s2) 1 H rfl ?_;refine c5 (x:=jB) (S:=st c.floor s2) pc 2 H rfl fun w H=>?_;refine eh (x:=st c.floor s2) 0 H rfl ?_;exact⟨rfl,(H.front 2).drop.drop⟩
     refine⟨?_,?_⟩
     ·refine ap (Xs (by omega) H) ?_;rintro r w ⟨rfl,H⟩;refine⟨bM (B .i64) (H.front 1) rfl rfl,bM (B .i64) (H.front 1) rfl rfl,?_⟩;refine bP H fun aku w H=>?_;refine c5 (x:=jB) (S:=(mM ⟨c.dk.h4+(h-c.dk.at_),c.dk.h4+(h-c.dk.at_)⟩ c.dk.width).1) pc 0 H rfl fun w H=>?_;exact fin aku w H
     ·refine bP H fun akv w H=>?_;refine ap (Xs (by omega) H) ?_;rintro r w ⟨rfl,H⟩;refine⟨bM (B .i64) (H.front 2) rfl rfl,bM (B .i64) (H.front 2) rfl rfl,?_⟩;refine c5 (x:=jB) (S:=(mM ⟨c.dk.h4+(h-c.dk.at_),c.dk.h4+(h-c.dk.at_)⟩ c.dk.width).1) pc 0 H rfl fun w H=>?_;exact fin akv w H
 ·rw[decide_eq_false bt,if_pos (by simp:(!false)=true),if_pos bt];exact bad 61 w H
theorem aEc{l:Nat}{c:hk}{t h:Int}(k:iY c)(cD:-9000000000000000000≤h∧h≤9000000000000000000)(H:E A (j7 l c::m) w):M Pg 105 [.pointer (some ⟨l,0,none⟩),.int .i64 t,.int .i64 h] (bw bk (B .i64)) w fun r J=>r=(((e6 c h).2.2==0)&&decide (t<(e6 c h).2.1.gS),(e6 c h).2.2)∧E A (j7 l (e6 c h).1::m) J:=by
 refine af1 ?_;unfold Ty;refine ap (HB k cD H) ?_;rintro r w ⟨rfl,H⟩;refine bP H fun uP w H=>?_;refine c5 (x:=jB) (S:=(e6 c h).2.1) pc 0 H rfl fun w H=>?_;refine aP (e6 c h).2.1.gS (fun _=>bM (B .i64) H rfl rfl) ?_;exact⟨rfl,H.drop⟩
theorem aCH(H:E A m w):M Pg 92 [] aD w fun r J=>∃ l:Nat,r=some ⟨l,0,none⟩∧E A (oI l 0::m) J:=by
 refine ajj ?_;unfold WI;refine bP H fun e9 w H=>?_;exact⟨e9,rfl,H⟩
theorem aG3{t:Int}(H:E A m w):M Pg 116 [.int .i64 t] bk w fun r J=>r=decide (jF t)∧E A m J:=by
 refine aga ?_;unfold TH;refine⟨?_,H⟩;rw[Bool.eq_iff_iff];simp only[Bool.and_eq_true,decide_eq_true_eq];unfold jF;omega
theorem Kl{l:Nat}{n t:Int}(H:E A (oI l n::m) w):M Pg 63 [.pointer (some ⟨l,0,none⟩),.int .i64 t] (B .i64) w fun r J=>r=(oz n t).2∧E A (oI l (oz n t).1::m) J:=by
 refine aiO ?_;unfold Wf;refine ap (aG3 H) ?_;rintro r w ⟨rfl,H⟩;unfold oz;by_cases c:jF t
 ·rw[decide_eq_true c,if_neg (by simp:¬ (!true)=true),if_pos c];refine cb rfl ?_;refine aj (x:=n) 0 H rfl rfl rfl ?_;refine dD (x:=max n t) 0 H rfl rfl (Nat.le_of_ble_eq_true rfl) fun w H=>?_;exact⟨rfl,H⟩
 ·rw[decide_eq_false c,if_pos (by simp:(!false)=true),if_neg c];exact⟨rfl,H⟩
theorem Hz{l:Nat}{n:Int}{s:lC}{q:af}{ie:List Int}(hm:ie.length≤9000000000000000000)(k:di 1 m (B .i64) q ie)(H:E A (oI l n::m) w):M Pg 157 [.pointer (some ⟨l,0,none⟩),pw.enc s,X.enc q] (bw (B .i64) (B .i64)) w fun r J=>r=(Ac n s ie).2∧E A (oI l (Ac n s ie).1::m) J:=by
 refine agN ?_;unfold Uk Ac;refine bP H fun iD w H=>?_;refine eh (x:=s) 0 H rfl ?_;refine ap (uV H) ?_;rintro r w ⟨rfl,H⟩;unfold zD;by_cases bt:nv s
 ·rw[if_pos bt,if_neg (by simp),if_neg (fun h=>h bt)];refine cb rfl ?_;refine aj (x:=n) 1 H rfl rfl rfl ?_;refine bP H fun Dr w H=>?_;refine dD (x:=n) 0 H rfl rfl (Nat.le_of_ble_eq_true rfl) fun w H=>?_;refine aj (x:=s.jx) 1 H rfl rfl rfl ?_;have raise:∀ (y x:Int) (m:List bC) (w:World) (aa:Unit→World→Prop),E A (aH Dr [.int .i64 y] 2::m) w→(∀ J,E A (aH Dr [.int .i64 (max y x)] 2::m) J→aa () J) →
    tK Pg (cm.mk (.func 194) (List.toArray []) (List.toArray [.pointer (some ⟨Dr,0,none⟩)])) [.int .i64 x] dZ w aa:=by
   intro y x m w aa H ca;refine⟨194,[.pointer (some ⟨Dr,0,none⟩)],rfl,amQ,?_⟩;refine ahj ?_;unfold UP;refine aj (x:=y) 0 H rfl rfl rfl ?_;refine dD (x:=max y x) 0 H rfl rfl (Nat.le_of_ble_eq_true rfl) fun w H=>?_;exact ca _ H
  refine raise n s.jx _ w _ H fun w H=>?_;have a8:=(k.l7 [_,_,_]).len H;refine vo (fun i w=>0≤i∧i≤ie.length∧E A (aH Dr [.int .i64 ((ie.take i.toNat).foldl max (max n s.jx))] 2::aH iD (pw.cells s) 137::oI l n::m) w) (fun i=>(ie.length-i).toNat) ⟨Int.le_refl 0,by omega,H⟩ ?_;clear H;rintro i w ⟨ah,I,H⟩;unfold My;rw[a8];split
  ·rename_i U;have U:i<ie.length:=by simpa using U
   have aR:IntKind.i64.wrap (i+1)=i+1:=wrap_i64 (by omega) (by omega);obtain⟨a,Y⟩:=(k.l7 [_,_,_]).iw (i:=i) H ah U;have F:ie[i.toNat]?=some ie[i.toNat]:=List.getElem?_eq_getElem (by omega);have iG:(ie.take (i+1).toNat).foldl max (max n s.jx)=max ((ie.take i.toNat).foldl max (max n s.jx)) ie[i.toNat]:=by
    rw[show (i+1).toNat=i.toNat+1 from by omega,List.take_succ_eq_append_getElem (by omega),List.foldl_append];rfl
   generalize ie[i.toNat]=S at F iG;refine aP a Y ?_;refine aP S ((k.l7 [_,_,_]).rd Y F H) ?_;refine raise _ S _ w _ H fun w H=>?_;rw[aR];rw[← iG] at H;exact⟨⟨by omega,by omega,H⟩,by omega⟩
  ·rename_i U;have U:i=ie.length:=by
    have:¬ i<ie.length:=by simpa using U
    omega
   have j:ie.take i.toNat=ie:=List.take_of_length_le (by omega);rw[j] at H;have Pu:=foldl_max ie (max n s.jx);have ZW:=bt.2.1.1;generalize ie.foldl max (max n s.jx)=y at *;refine aj (x:=y) 0 H rfl rfl rfl ?_;by_cases bI:1125899906842624≤y
   ·rw[if_pos (by simpa using bI),if_pos bI];exact⟨rfl,H.drop.drop⟩
   ·rw[if_neg (by simpa using bI),if_neg bI];refine aj (x:=y) 0 H rfl rfl rfl ?_;have GV:-9223372036854775808≤y+1:=by omega
    rw[wrap_i64 GV (by omega)];refine dD (x:=y+1) 2 H rfl rfl (Nat.le_of_ble_eq_true rfl) fun w H=>?_;refine aj (x:=y+1) 0 H rfl rfl rfl ?_;exact⟨rfl,((H.front 1).drop.front 1).drop⟩
 ·rw[if_neg bt,if_pos (by simp),if_pos bt];exact⟨rfl,H.drop⟩
end
abbrev oo:=mz
abbrev zv:=lA
structure bN where
 x:oo
 a:zv
 l:zv
 tX:Bool
 z6:Bool
 b4:Int
 at_:Int
def aED(p:bN):List Value:=[.int .i64 p.x.aC,.int .i64 p.x.fF,.int .i64 p.x.fx,.int .i64 p.x.b,.bool p.a.said,.bool p.a.cq,.int .i64 p.a.gQ,.bool p.l.said,.bool p.l.cq,.int .i64 p.l.gQ,.bool p.tX,.bool p.z6,.int .i64 p.b4,.int .i64 p.at_]
def gE(l:Nat)(p:bN):bC:=aH l (aED p) 214
def vi(a:Int):Prop:=0≤a∧a<4096
instance (n:Int):Decidable (vi n):=by unfold vi; infer_instance
def afk:zv:=⟨false,false,0⟩
def jI(x:oo):bN:=⟨x,afk,afk,false,false,0,0⟩
def jw(x:oo):Int:=if x.aC<1∨1000000<x.aC then 170 else if ¬ (vi x.fF∧vi x.fx) then 171 else if x.fF=x.fx then 172 else if x.b<1∨1000000000000000<x.b then 173 else 0
def bN.side(p:bN)(dK:Bool):zv:=if dK then p.a else p.l
def bN.hB(p:bN)(dK:Bool)(v:zv):bN:=if dK then { p with a:=v } else { p with l:=v }
def g6(p:bN)(dK cq:Bool)(t:Int):bN×Int:=
 if cq=true∧¬ jF t then (p,174)
 else if (p.side dK).said=true∧lA.cs (p.side dK) ⟨true,cq,if cq then t else 0⟩=false then (p,175)
 else (if cq=false∧p.b4=0 then { p.hB dK ⟨true,cq,if cq then t else 0⟩ with b4:=3 } else p.hB dK ⟨true,cq,if cq then t else 0⟩,0)
def bN.both(p:bN):Bool:=p.a.cq&&p.l.cq
def n4(p:bN):Int×Bool:=if p.both=true∧p.b4=0 then (max p.a.gQ p.l.gQ,true) else (0,false)
def oZ(p:bN)(t:Int):bN×Int:=
 if ¬ jF t then (p,174) else if p.b4=3∨(p.b4=2∧p.at_≠t) then (p,176) else if p.b4=2 then (p,0) else if p.both=false then (p,177)
 else if t<p.a.gQ∨t<p.l.gQ then (p,178) else ({ p with b4:=2,at_:=t },0)
def pA(p:bN):bN×Int:=if p.b4=2 then (p,176) else ({ p with b4:=3 },0)
def F5(p:bN)(dK:Bool):bN×Int:=if p.b4=0 then (p,176) else (if dK then { p with tX:=true } else { p with z6:=true },0)
def bN.done(p:bN)(dK:Bool):Bool:=if p.b4≠0 then (if dK then p.tX else p.z6) else (p.side dK).said
def nA(p:bN):List Bool:=(if p.done true then [] else [true])++(if p.done false then [] else [false])
def k5(p:bN)(dK:Bool):iz:=if dK then ⟨2*p.x.aC-1,p.x.fF,p.x.b,true⟩ else ⟨2*p.x.aC,p.x.fx,p.x.b,false⟩
section
variable {A w:World} {m bT:List bC}
theorem acw{a:Int}(H:E A m w):M Pg 158 [.int .i64 a] bk w fun r J=>r=decide (vi a)∧E A m J:=by
 refine agO ?_;unfold Ul;refine⟨?_,H⟩;rw[Bool.eq_iff_iff];simp only[Bool.and_eq_true,decide_eq_true_eq];unfold vi;omega
theorem acI{t:Int}(H:E A m w):M Pg 179 [.int .i64 t] bk w fun r J=>r=decide (jF t)∧E A m J:=by
 refine ag7 ?_;unfold UE;refine⟨?_,H⟩;rw[Bool.eq_iff_iff];simp only[Bool.and_eq_true,decide_eq_true_eq];unfold jF;omega
theorem acG{x:oo}(H:E A m w):M Pg 97 [gk.enc x] (bw aD (B .i64)) w fun r J=>(jw x=0→r.2=0∧∃ l:Nat,r.1=some ⟨l,0,none⟩∧E A (gE l (jI x)::m) J)∧(jw x≠0→r=(none,jw x)∧E A m J):=by
 refine ajn ?_;unfold WM;refine bP H fun eb w H=>?_;refine aj (x:=x.aC) 0 H rfl rfl rfl ?_;refine aP x.aC (fun _=>bM (B .i64) H rfl rfl) ?_;by_cases bt:x.aC<1∨1000000<x.aC
 ·have j:jw x=170:=by unfold jw; rw[if_pos bt]
  rw[if_pos (by simp; omega),j];exact⟨fun h=>by omega,fun _=>⟨rfl,H.drop⟩⟩
 ·rw[if_neg (by simp; omega)];refine aj (x:=x.fF) 0 H rfl rfl rfl ?_;refine ap (acw H) ?_;rintro r w ⟨rfl,H⟩;have bad:∀ (w:World),¬ (vi x.fF∧vi x.fx)→E A (aH eb (gk.cells x) 31::m) w→C0 ⟨eb,0,none⟩ true w fun r J=>(jw x=0→r.2=0∧∃ l:Nat,r.1=some ⟨l,0,none⟩∧E A (gE l (jI x)::m) J)∧(jw x≠0→r=(none,jw x)∧E A m J):=by
   intro w aL H;have j:jw x=171:=by unfold jw; rw[if_neg bt,if_pos aL]
   unfold C0;rw[if_pos rfl,j];exact⟨fun h=>by omega,fun _=>⟨rfl,H.drop⟩⟩
  by_cases bI:vi x.fF
  ·rw[decide_eq_true bI,if_neg (by simp:¬ (!true)=true)];refine aj (x:=x.fx) 0 H rfl rfl rfl ?_;refine ap (acw H) ?_;rintro r w ⟨rfl,H⟩;by_cases cc:vi x.fx
   ·rw[decide_eq_true cc];unfold C0;rw[if_neg (by simp:¬ (!true)=true)];refine aj (x:=x.fF) 0 H rfl rfl rfl ?_;refine aj (x:=x.fx) 0 H rfl rfl rfl ?_;by_cases fe:x.fF=x.fx
    ·have j:jw x=172:=by unfold jw; rw[if_neg bt,if_neg (fun h=>h ⟨bI,cc⟩),if_pos fe]
     rw[if_pos (by simpa using fe),j];exact⟨fun h=>by omega,fun _=>⟨rfl,H.drop⟩⟩
    ·rw[if_neg (by simpa using fe)];refine aj (x:=x.b) 0 H rfl rfl rfl ?_;refine aP x.b (fun _=>bM (B .i64) H rfl rfl) ?_;by_cases jl:x.b<1∨1000000000000000<x.b
     ·have j:jw x=173:=by unfold jw; rw[if_neg bt,if_neg (fun h=>h ⟨bI,cc⟩),if_neg fe,if_pos jl]
      rw[if_pos (by simp; omega),j];exact⟨fun h=>by omega,fun _=>⟨rfl,H.drop⟩⟩
     ·have j:jw x=0:=by unfold jw; rw[if_neg bt,if_neg (fun h=>h ⟨bI,cc⟩),if_neg fe,if_neg jl]
      rw[if_neg (by simp; omega),j];refine eh (x:=x) 0 H rfl ?_;refine bP H fun aks w H=>?_;exact⟨fun _=>⟨rfl,aks,rfl,(H.front 1).drop⟩,fun h=>absurd rfl h⟩
   ·rw[decide_eq_false cc];exact bad w (fun h=>cc h.2) H
  ·rw[decide_eq_false bI,if_pos (by simp:(!false)=true)];exact bad w (fun h=>bI h.1) H
theorem K8{dK:Bool}(H:E A m w):M Pg 136 [.bool dK] (B .i64) w fun r J=>r=(if dK then 0 else 1)∧E A m J:=by
 refine agx ?_;unfold T2;cases dK with
 |true=>rw[if_pos rfl]; exact⟨rfl,H⟩
 |false=>rw[if_neg (by simp)]; exact⟨rfl,H⟩
theorem Ce{l:Nat}{p:bN}(H:E A (gE l p::m) w):M Pg 55 [.pointer (some ⟨l,0,none⟩)] (bw (B .i64) (B .i64)) w fun r J=>r=(p.b4,p.at_)∧E A (gE l p::m) J:=by
 refine aiG ?_;unfold V_;refine dp H fun w H=>?_;refine cb rfl ?_;refine aj (x:=p.b4) 0 H rfl rfl rfl ?_;refine aj (x:=p.at_) 0 H rfl rfl rfl ?_;exact⟨rfl,H⟩
theorem acq{l:Nat}{p:bN}(H:E A (gE l p::m) w):M Pg 148 [.pointer (some ⟨l,0,none⟩)] (B .i64) w fun r J=>r=(pA p).2∧E A (gE l (pA p).1::m) J:=by
 refine agH ?_;unfold Ub pA;refine cb rfl ?_;refine aj (x:=p.b4) 0 H rfl rfl rfl ?_;by_cases c:p.b4=2
 ·rw[if_pos (by simpa using c),if_pos c];exact⟨rfl,H⟩
 ·rw[if_neg (by simpa using c),if_neg c];refine dD (x:=(3:Int)) 0 H rfl rfl (Nat.le_of_ble_eq_true rfl) fun w H=>?_;exact⟨rfl,H⟩
theorem aEQ{l:Nat}{p:bN}(H:E A (gE l p::m) w):M Pg 162 [.pointer (some ⟨l,0,none⟩)] gk w fun r J=>r=p.x∧E A (gE l p::m) J:=by
 refine agT ?_;unfold Uq;refine bP H fun eb w H=>?_;refine cb rfl ?_;refine aP p.x (bM gk (H.front 1) rfl rfl) ?_;refine c5 (x:=A_) (S:=p.x) Kr 0 H rfl fun w H=>?_;refine eh (x:=p.x) 0 H rfl ?_;exact⟨rfl,H.drop⟩
theorem aEK{l:Nat}{p:bN}{dK:Bool}(hJ:0≤p.x.aC∧p.x.aC≤1000000000000)(H:E A (gE l p::m) w):M Pg 127 [.pointer (some ⟨l,0,none⟩),.bool dK] g0 w fun r J=>r=k5 p dK∧E A (gE l p::m) J:=by
 refine agn ?_;unfold TS;refine bP H fun iC w H=>?_;cases dK with
 |true=>
  rw[if_pos rfl];refine dp H fun w H=>?_;refine cb rfl ?_;refine aj (x:=p.x.aC) 1 H rfl rfl rfl ?_;refine aj (x:=p.x.fF) 1 H rfl rfl rfl ?_;refine aj (x:=p.x.b) 1 H rfl rfl rfl ?_;rw[wrap_i64 (x:=2*p.x.aC) (by omega) (by omega),wrap_i64 (by omega) (by omega)];refine c5 (x:=zy) (S:=k5 p true) Ks 0 H rfl fun w H=>?_;refine eh (x:=k5 p true) 0 H rfl ?_;exact⟨rfl,H.drop⟩
 |false=>
  rw[if_neg (by simp)];refine dp H fun w H=>?_;refine cb rfl ?_;refine aj (x:=p.x.aC) 1 H rfl rfl rfl ?_;refine aj (x:=p.x.fx) 1 H rfl rfl rfl ?_;refine aj (x:=p.x.b) 1 H rfl rfl rfl ?_;rw[wrap_i64 (x:=2*p.x.aC) (by omega) (by omega)];refine c5 (x:=zy) (S:=k5 p false) Ks 0 H rfl fun w H=>?_;refine eh (x:=k5 p false) 0 H rfl ?_;exact⟨rfl,H.drop⟩
theorem acu{l:Nat}{p:bN}(H:E A (gE l p::m) w):M Pg 180 [.pointer (some ⟨l,0,none⟩)] bk w fun r J=>r=p.both∧E A (gE l p::m) J:=by
 refine ag9 ?_;unfold UG;refine cb rfl ?_;refine aP ⟨l,4,none⟩ ⟨by decide,by decide,rfl⟩ ?_;refine aj (x:=p.a.cq) 0 H rfl rfl rfl ?_;refine aP ⟨l,0,none⟩ (fun _=>rfl) ?_;refine aP ⟨l,7,none⟩ (fun _=>⟨by decide,by decide,rfl⟩) ?_;refine aP p.l.cq (fun _=>bM bk H rfl rfl) ?_;exact⟨rfl,H⟩
theorem aEL{l:Nat}{p:bN}(H:E A (gE l p::m) w):M Pg 135 [.pointer (some ⟨l,0,none⟩)] (bw (B .i64) bk) w fun r J=>r=n4 p∧E A (gE l p::m) J:=by
 refine agw ?_;unfold T1 n4;refine ap (acu H) ?_;rintro r w ⟨rfl,H⟩;refine aP ⟨l,0,none⟩ (fun _=>rfl) ?_;refine aP p.b4 (fun _=>bM (B .i64) H rfl rfl) ?_;by_cases c:p.both=true∧p.b4=0
 ·rw[if_neg (by simp[c.1,c.2]),if_pos c];refine dp H fun w H=>?_;refine cb rfl ?_;refine aP ⟨l,4,none⟩ ⟨by decide,by decide,rfl⟩ ?_;refine aP ⟨l,7,none⟩ ⟨by decide,by decide,rfl⟩ ?_;refine aj (x:=p.a.gQ) 0 H rfl rfl rfl ?_;refine aj (x:=p.l.gQ) 0 H rfl rfl rfl ?_;exact⟨rfl,H⟩
 ·rw[if_pos (by cases ao:p.both with | false=>simp | true=>simp; intro h; exact c ⟨ao,h⟩),if_neg c];exact⟨rfl,H⟩
theorem acv{l:Nat}{p:bN}{t:Int}(H:E A (gE l p::m) w):M Pg 149 [.pointer (some ⟨l,0,none⟩),.int .i64 t] (B .i64) w fun r J=>r=(oZ p t).2∧E A (gE l (oZ p t).1::m) J:=by
 refine agI ?_;unfold Uc oZ;refine ap (acI H) ?_;rintro r w ⟨rfl,H⟩;by_cases bt:jF t
 ·rw[decide_eq_true bt,if_neg (by simp:¬ (!true)=true),if_neg (fun h=>h bt)];refine cb rfl ?_;refine aj (x:=p.b4) 0 H rfl rfl rfl ?_;refine aP ⟨l,0,none⟩ (fun _=>rfl) ?_;refine aP p.b4 (fun _=>bM (B .i64) H rfl rfl) ?_;refine aP ⟨l,0,none⟩ (fun _=>rfl) ?_;refine aP p.at_ (fun _=>bM (B .i64) H rfl rfl) ?_;by_cases bI:p.b4=3∨(p.b4=2∧p.at_≠t)
  ·rw[if_pos (by simpa using bI),if_pos bI];exact⟨rfl,H⟩
  ·rw[if_neg (by simpa using bI),if_neg bI];refine aj (x:=p.b4) 0 H rfl rfl rfl ?_;by_cases cc:p.b4=2
   ·rw[if_pos (by simpa using cc),if_pos cc];exact⟨rfl,H⟩
   ·rw[if_neg (by simpa using cc),if_neg cc];refine ap (acu H) ?_;rintro r w ⟨rfl,H⟩;by_cases fe:p.both=false
    ·rw[if_pos (by simp[fe]),if_pos fe];exact⟨rfl,H⟩
    ·rw[if_neg (by simpa using fe),if_neg fe];refine aP ⟨l,4,none⟩ ⟨by decide,by decide,rfl⟩ ?_;refine aj (x:=p.a.gQ) 0 H rfl rfl rfl ?_;refine aP ⟨l,0,none⟩ (fun _=>rfl) ?_;refine aP ⟨l,7,none⟩ (fun _=>⟨by decide,by decide,rfl⟩) ?_;refine aP p.l.gQ (fun _=>bM (B .i64) H rfl rfl) ?_;by_cases jl:t<p.a.gQ∨t<p.l.gQ
     ·rw[if_pos (by simpa using jl),if_pos jl];exact⟨rfl,H⟩
     ·rw[if_neg (by simpa using jl),if_neg jl];refine dD (x:=(2:Int)) 0 H rfl rfl (Nat.le_of_ble_eq_true rfl) fun w H=>?_;refine dD (x:=t) 0 H rfl rfl (Nat.le_of_ble_eq_true rfl) fun w H=>?_;exact⟨rfl,H⟩
 ·rw[decide_eq_false bt,if_pos (by simp:(!false)=true),if_pos bt];exact⟨rfl,H⟩
theorem K6{l:Nat}{p:bN}{dK:Bool}(H:E A (gE l p::m) w):M Pg 86 [.pointer (some ⟨l,0,none⟩),.bool dK] (B .i64) w fun r J=>r=(F5 p dK).2∧E A (gE l (F5 p dK).1::m) J:=by
 refine ajd ?_;unfold WC F5;refine cb rfl ?_;refine aj (x:=p.b4) 0 H rfl rfl rfl ?_;by_cases c:p.b4=0
 ·rw[if_pos (by simpa using c),if_pos c];exact⟨rfl,H⟩
 ·rw[if_neg (by simpa using c),if_neg c];refine dp H fun w H=>?_;refine ap (K8 H) ?_;rintro r w ⟨rfl,H⟩;cases dK with
  |true=>
   refine aP ⟨l,10,none⟩ ⟨by decide,by decide,rfl⟩ ?_;refine dD (x:=true) 0 H rfl rfl (Nat.le_of_ble_eq_true rfl) fun w H=>?_;exact⟨rfl,H⟩
  |false=>
   refine aP ⟨l,11,none⟩ ⟨by decide,by decide,rfl⟩ ?_;refine dD (x:=true) 0 H rfl rfl (Nat.le_of_ble_eq_true rfl) fun w H=>?_;exact⟨rfl,H⟩
end
abbrev rN:=mV
section
variable {A w:World} {m bT:List bC}
theorem Rx{l:Nat}{p:bN}{dK cq:Bool}{t:Int}(H:E A (gE l p::m) w):M Pg 134 [.pointer (some ⟨l,0,none⟩),.bool dK,.bool cq,.int .i64 t] (B .i64) w fun r J=>r=(g6 p dK cq t).2∧E A (gE l (g6 p dK cq t).1::m) J:=by
 refine agv ?_;unfold T0;have z4:∀ (cg uR:Nat) (w:World),¬ (cq=true∧¬ jF t)→E A (aH uR (rN.cells (p.side dK)) 210::aH cg (rN.cells ⟨true,cq,if cq then t else 0⟩) 210::gE l p::m) w →
   Ff (some ⟨l,0,none⟩) dK cq ⟨cg,0,none⟩ ⟨uR,0,none⟩ w fun r J=>r=(g6 p dK cq t).2∧E A (gE l (g6 p dK cq t).1::m) J:=by
  intro cg uR w aL H;unfold Ff g6;rw[if_neg aL];generalize (⟨true,cq,if cq then t else 0⟩:zv)=v at *;refine aj (x:=(p.side dK).said) 0 H rfl rfl rfl ?_;refine aP (p.side dK) (fun _=>bM rN H rfl (tF _)) ?_;refine aP v (fun _=>bM rN (H.front 1) rfl (tF _)) ?_;by_cases c:(p.side dK).said=true∧lA.cs (p.side dK) v=false
  ·rw[if_pos (by simp[c.1,c.2]),if_pos c];exact⟨rfl,H.drop.drop⟩
  ·rw[if_neg (by simpa using c),if_neg c];refine dp H fun w H=>?_;refine cb rfl ?_;refine eh (x:=v) 1 H rfl ?_;refine ap (K8 H) ?_;rintro r w ⟨rfl,H⟩;refine⟨bM rN (H.front 1) rfl (tF _),?_⟩;have fin:∀ (w:World) (q:bN),q=p.hB dK v→q.b4=p.b4→E A (gE l q::aH cg (rN.cells v) 210::aH uR (rN.cells (p.side dK)) 210::m) w →
     ex (fun x=>(!cq)=true→(bK (some (⟨l,0,none⟩:Addr))) x) fun IZ=>ex (fun x=>(!cq)=true→(L (B .i64) (IZ.add 12) w) x) fun kT=>
      if ((!cq)&&(kT==(0:Int)))=true then (bd (B .i64) (Addr.add ⟨l,0,none⟩ 12) (3:Int) w fun fZ=>AQ fZ fun r J=>r=(if cq=false∧p.b4=0 then ({ p.hB dK v with b4:=3 }:bN) else p.hB dK v,(0:Int)).2∧E A (gE l (if cq=false∧p.b4=0 then ({ p.hB dK v with b4:=3 }:bN) else p.hB dK v,(0:Int)).1::m) J)
      else AQ w fun r J=>r=(if cq=false∧p.b4=0 then ({ p.hB dK v with b4:=3 }:bN) else p.hB dK v,(0:Int)).2∧E A (gE l (if cq=false∧p.b4=0 then ({ p.hB dK v with b4:=3 }:bN) else p.hB dK v,(0:Int)).1::m) J:=by
    intro w q a8 am H;refine aP ⟨l,0,none⟩ (fun _=>rfl) ?_;refine aP q.b4 (fun _=>bM (B .i64) H rfl rfl) ?_;rw[am,← a8];by_cases bI:cq=false∧p.b4=0
    ·rw[if_pos (by simp[bI.1,bI.2]),if_pos bI];refine dD (x:=(3:Int)) 0 H rfl rfl (Nat.le_of_ble_eq_true rfl) fun w H=>?_;unfold AQ;exact⟨rfl,((H.front 1).drop.front 1).drop⟩
    ·rw[if_neg (by simpa using bI),if_neg bI];unfold AQ;exact⟨rfl,((H.front 1).drop.front 1).drop⟩
   cases dK with
   |true=>
    refine aP ⟨l,4,none⟩ ⟨by decide,by decide,rfl⟩ ?_;refine dD (T:=rN) (x:=v) 2 H rfl rfl (Nat.le_of_ble_eq_true rfl) fun w H=>?_;exact fin w { p with a:=v } rfl rfl (H.ord [0,2])
   |false=>
    refine aP ⟨l,7,none⟩ ⟨by decide,by decide,rfl⟩ ?_;refine dD (T:=rN) (x:=v) 2 H rfl rfl (Nat.le_of_ble_eq_true rfl) fun w H=>?_;exact fin w { p with l:=v } rfl rfl (H.ord [0,2])
 have vj:∀ (cg:Nat) (w:World),¬ (cq=true∧¬ jF t)→E A (aH cg (rN.cells ⟨true,cq,if cq then t else 0⟩) 210::gE l p::m) w →
   Fe (some ⟨l,0,none⟩) dK cq ⟨cg,0,none⟩ w fun r J=>r=(g6 p dK cq t).2∧E A (gE l (g6 p dK cq t).1::m) J:=by
  intro cg w aL H;unfold Fe;refine dp H fun w H=>?_;refine cb rfl ?_;refine⟨?_,?_⟩
  ·refine ap (K8 H) ?_;rintro r w ⟨rfl,H⟩;cases dK with
   |true=>
    refine aP ⟨l,4,none⟩ ⟨by decide,by decide,rfl⟩ ?_;refine aP p.a (bM rN (H.front 1) rfl rfl) ?_;refine bP H fun uR w H=>?_;refine c5 (x:=qX) (S:=p.a) BX 0 H rfl fun w H=>?_;exact z4 cg uR w aL H
   |false=>
    refine aP ⟨l,7,none⟩ ⟨by decide,by decide,rfl⟩ ?_;refine aP p.l (bM rN (H.front 1) rfl rfl) ?_;refine bP H fun uR w H=>?_;refine c5 (x:=qX) (S:=p.l) BX 0 H rfl fun w H=>?_;exact z4 cg uR w aL H
  ·refine bP H fun uR w H=>?_;refine ap (K8 H) ?_;rintro r w ⟨rfl,H⟩;cases dK with
   |true=>
    refine aP ⟨l,4,none⟩ ⟨by decide,by decide,rfl⟩ ?_;refine aP p.a (bM rN (H.front 2) rfl rfl) ?_;refine c5 (x:=qX) (S:=p.a) BX 0 H rfl fun w H=>?_;exact z4 cg uR w aL H
   |false=>
    refine aP ⟨l,7,none⟩ ⟨by decide,by decide,rfl⟩ ?_;refine aP p.l (bM rN (H.front 2) rfl rfl) ?_;refine c5 (x:=qX) (S:=p.l) BX 0 H rfl fun w H=>?_;exact z4 cg uR w aL H
 cases cq with
 |true=>
  rw[if_pos rfl];refine ap (acI H) ?_;rintro r w ⟨rfl,H⟩;unfold Fc;by_cases c:jF t
  ·rw[decide_eq_true c,if_neg (by simp:¬ (!true)=true)];refine bP H fun cg w H=>?_;refine c5 (x:=qX) (S:=(⟨true,true,0⟩:zv)) BX 0 H rfl fun w H=>?_;rw[if_pos rfl];refine dD (x:=t) 0 H rfl rfl (Nat.le_of_ble_eq_true rfl) fun w H=>?_;exact vj cg w (fun h=>h.2 c) H
  ·rw[decide_eq_false c,if_pos (by simp:(!false)=true)];unfold g6;rw[if_pos ⟨rfl,c⟩];exact⟨rfl,H⟩
 |false=>
  rw[if_neg (by simp)];unfold Fc;rw[if_neg (by simp)];refine bP H fun cg w H=>?_;refine c5 (x:=qX) (S:=(⟨true,false,0⟩:zv)) BX 0 H rfl fun w H=>?_;rw[if_neg (by simp)];exact vj cg w (fun h=>by cases h.1) H
theorem aEG{l:Nat}{p:bN}(H:E A (gE l p::m) w):M Pg 126 [.pointer (some ⟨l,0,none⟩)] X w fun r J=>E A (row bk 4 1 r (nA p)::gE l p::m) J:=by
 refine agm ?_;unfold TR;have H:=kN bk 4 1 H;refine hY (fun s w=>(s.2=0∧E A (row bk 4 1 s.1 []::gE l p::m) w)∨(s.2=1∧E A (row bk 4 1 s.1 (if p.done true then [] else [true])::gE l p::m) w)∨(s.2=2∧E A (row bk 4 1 s.1 (nA p)::gE l p::m) w)) (fun s=>(2-s.2).toNat) (.inl ⟨rfl,H⟩) ?_;clear H;rintro⟨q,i⟩ w h aa ca;unfold Mn;simp only at h ⊢;rcases h with ⟨rfl,H⟩ | ⟨rfl,H⟩ | ⟨rfl,H⟩
 ·rw[if_pos (by simp)];refine aP true ⟨by decide,rfl⟩ ?_;refine cb rfl ?_;refine aP ⟨l,4,none⟩ ⟨by decide,by decide,rfl⟩ ?_;refine aj (x:=p.a.said) 1 H rfl rfl rfl ?_;refine aj (x:=p.b4) 1 H rfl rfl rfl ?_;have fin:∀ d:Bool,d=p.done true→AP q 0 true d w aa fun r J=>E A (row bk 4 1 r (nA p)::gE l p::m) J:=by
   intro d ag;unfold AP Fb;cases d with
   |true=>
    rw[if_neg (by simp)];refine ca _ _ (.inr (.inl ⟨rfl,?_⟩)) (by show (2-IntKind.i64.wrap (0+1)).toNat<(2-0:Int).toNat; rw[wrap_i64 (by omega) (by omega)]; omega);rw[← ag];exact H
   |false=>
    rw[if_pos (by simp)];refine nu (fun _=>rfl) 0 H rfl (by simp) fun r w H=>?_;refine ca _ _ (.inr (.inl ⟨rfl,?_⟩)) (by show (2-IntKind.i64.wrap (0+1)).toNat<(2-0:Int).toNat; rw[wrap_i64 (by omega) (by omega)]; omega);rw[← ag];exact H
  by_cases c:p.b4=0
  ·rw[if_neg (by simp[c])];exact fin _ (by unfold bN.done; rw[if_neg (fun h=>h c)]; rfl)
  ·rw[if_pos (by simpa using c)];refine aP ⟨l,10,none⟩ ⟨by decide,by decide,rfl⟩ ?_;refine aj (x:=p.tX) 1 H rfl rfl rfl ?_;exact fin _ (by unfold bN.done; rw[if_pos c]; rfl)
 ·rw[if_pos (by simp)];refine aP false ⟨by decide,rfl⟩ ?_;refine cb rfl ?_;refine aP ⟨l,7,none⟩ ⟨by decide,by decide,rfl⟩ ?_;refine aj (x:=p.l.said) 1 H rfl rfl rfl ?_;refine aj (x:=p.b4) 1 H rfl rfl rfl ?_;have fin:∀ d:Bool,d=p.done false→AP q 1 false d w aa fun r J=>E A (row bk 4 1 r (nA p)::gE l p::m) J:=by
   intro d ag;unfold AP Fb;cases d with
   |true=>
    rw[if_neg (by simp)];refine ca _ _ (.inr (.inr ⟨rfl,?_⟩)) (by show (2-IntKind.i64.wrap (1+1)).toNat<(2-1:Int).toNat; rw[wrap_i64 (by omega) (by omega)]; omega);unfold nA;rw[← ag,if_pos rfl,List.append_nil];exact H
   |false=>
    rw[if_pos (by simp)];refine nu (fun _=>rfl) 0 H rfl (by split<;>simp) fun r w H=>?_;refine ca _ _ (.inr (.inr ⟨rfl,?_⟩)) (by show (2-IntKind.i64.wrap (1+1)).toNat<(2-1:Int).toNat; rw[wrap_i64 (by omega) (by omega)]; omega);unfold nA;rw[← ag,if_neg (by simp:¬ false=true)];exact H
  by_cases c:p.b4=0
  ·rw[if_neg (by simp[c])];exact fin _ (by unfold bN.done; rw[if_neg (fun h=>h c)]; rfl)
  ·rw[if_pos (by simpa using c)];refine aP ⟨l,11,none⟩ ⟨by decide,by decide,rfl⟩ ?_;refine aj (x:=p.z6) 1 H rfl rfl rfl ?_;exact fin _ (by unfold bN.done; rw[if_pos c]; rfl)
 ·rw[if_neg (by simp)];exact H
end
end Clock
namespace Post
open bf
structure dH where
 nodes:Int
 qA:Int
 m:List gZ
 off:Int→Bool
def hN(l:Nat)(b:dH):bC:=
 hX fun v=>hX fun lQ=>hX fun es=>dA [lo (∀ x,(es.lookup x).isSome=b.off x),aH l [.int .i64 b.nodes,.int .i64 b.qA,.slice v.a v.len v.cap,.map (some lQ)] 178,row eC 64 10 v b.m,c_ fq .i64 lQ es]
section
variable {A w:World} {m:List bC} {l:Nat} {b:dH}
theorem v3(H:E A (hN l b::m) w):∃ v lQ es,(∀ x,(List.lookup x es).isSome=b.off x) ∧
  E A (aH l [.int .i64 b.nodes,.int .i64 b.qA,.slice v.a v.len v.cap,.map (some lQ)] 178::row eC 64 10 v b.m::c_ fq .i64 lQ es::m) w:=by
 obtain⟨v,H⟩:=H.ex;obtain⟨lQ,H⟩:=H.ex;obtain⟨es,H⟩:=H.ex;obtain⟨h,H⟩:=E.vy H.open_;exact⟨v,lQ,es,h,H⟩
theorem sy{v:af}{lQ:Nat}{es:List (Int×oV)}(h:∀ x,(List.lookup x es).isSome=b.off x)
  (H:E A (aH l [.int .i64 b.nodes,.int .i64 b.qA,.slice v.a v.len v.cap,.map (some lQ)] 178::row eC 64 10 v b.m::c_ fq .i64 lQ es::m) w):E A (hN l b::m) w:=
 E.mI v (E.mI lQ (E.mI es (E.shut (bT:=[lo _,_,_,_]) (E.vO h H))))
def dH.has(b:dH)(x:Int):Bool:=decide (x≥0)&&decide (x<b.nodes)
theorem Hj(H:E A (hN l b::m) w)(x:Int):M Pg 124 [.pointer (some ⟨l,0,none⟩),.int .i64 x] bk w fun r J=>r=b.has x∧E A (hN l b::m) J:=by
 refine agk ?_;obtain⟨v,lQ,es,h,gY⟩:=v3 H;unfold TP;refine⟨⟨l,0,none⟩,fun _=>rfl,b.nodes,fun _=>bM (B .i64) gY rfl rfl,rfl,H⟩
theorem X3(H:E A (hN l b::m) w)(x:Int):M Pg 132 [.pointer (some ⟨l,0,none⟩),.int .i64 x] bk w fun r J=>r=b.off x∧E A (hN l b::m) J:=by
 refine agt ?_;obtain⟨v,lQ,es,h,H⟩:=v3 H;unfold TY;refine cb rfl ?_;refine aj (x:=some lQ) 0 H rfl rfl rfl ?_;refine mc 2 H rfl rfl ?_;refine bP H fun e9 dF H=>?_;refine dD 0 H rfl rfl (Nat.le_refl _) fun cB H=>?_;exact⟨h x,sy h H.drop⟩
def dH.put(b:dH)(x:gZ):dH×Int:=if b.m.length≥1000 then (b,91) else ({ b with m:=b.m++[x] },0)
theorem Ch(H:E A (hN l b::m) w)(a1:b.m.length≤1000)(x:gZ):M Pg 130 [.pointer (some ⟨l,0,none⟩),eC.enc x] (B .i64) w fun r J=>r=(b.put x).2∧E A (hN l (b.put x).1::m) J:=by
 refine agr ?_;unfold TW;refine bP H fun e9 dF H=>?_;obtain⟨v,lQ,es,h,H⟩:=v3 (H.front 1);refine cb rfl ?_;refine aj (x:=v) 0 H rfl rfl rfl ?_;have aL:=gr (H.front 1);split
 ·rename_i U;have U:b.m.length≥1000:=by simp at U; omega
  have j:b.put x=(b,91):=by simp only[dH.put,U,if_true]
  rw[j];exact⟨rfl,sy h (H.front 3).drop⟩
 ·rename_i U;have U:¬ b.m.length≥1000:=by simp at U; omega
  refine dp H fun cB H=>?_;refine aj (x:=v) 0 H rfl rfl rfl ?_;refine eh (x:=x) 3 H rfl ?_;refine nu (xs:=b.m) (fun _=>rfl) 1 H rfl (by simp; omega) fun r bm H=>?_;refine⟨bM eC (H.front 3) rfl (tF _),?_⟩;refine dD (x:=r) 1 H rfl rfl (Nat.le_of_ble_eq_true rfl) fun aV H=>?_;have j:b.put x=({ b with m:=b.m++[x] },0):=by simp only[dH.put,U,if_false]
  rw[j];exact⟨rfl,sy (v:=r) h (H.front 3).drop⟩
end
section
variable {A w:World} {m:List bC} {l:Nat} {b:dH}
def dH.at_(b:dH)(i:Int):gZ×Int:=match (if i<0 then none else b.m[i.toNat]?) with
 |some x=>(x,0)
 |none=>(lb,92)
theorem dH.Xu(b:dH){i:Int}(h:i<0∨(b.m.length:Int)≤i):b.at_ i=(lb,92):=by
 unfold dH.at_;by_cases ah:i<0
 ·simp[ah]
 ·rw[if_neg ah,List.getElem?_eq_none (by omega)]
theorem dH.I8(b:dH){i:Int}{x:gZ}(ah:0≤i)(h:b.m[i.toNat]?=some x):b.at_ i=(x,0):=by
 unfold dH.at_;rw[if_neg (by omega),h]
theorem Bh(H:E A (hN l b::m) w)(i:Int):M Pg 131 [.pointer (some ⟨l,0,none⟩),.int .i64 i] (bw eC (B .i64)) w fun r J=>r=b.at_ i∧E A (hN l b::m) J:=by
 refine ags ?_;unfold TX;refine bP H fun e9 dF H=>?_;obtain⟨v,lQ,es,h,H⟩:=v3 (H.front 1);have aL:=gr (H.front 1);refine aP ⟨l,0,none⟩ (fun _=>rfl) ?_;refine aP v (fun _=>bM X H rfl rfl) ?_;by_cases U:i<0∨(b.m.length:Int)≤i
 ·rw[if_pos (by simp; omega)];refine c5 (x:=lb) (S:=lb) wQ 3 H rfl fun cB H=>?_;refine eh (x:=lb) 0 H rfl ?_;rw[b.Xu U];exact⟨rfl,sy h H.drop⟩
 ·rw[if_neg (by simp; omega)];obtain⟨x,F⟩:∃ x,b.m[i.toNat]?=some x:=⟨_,List.getElem?_eq_getElem (by omega)⟩
  refine cb rfl ?_;refine aj (x:=v) 0 H rfl rfl rfl ?_;refine aa4 (H.front 1) (by omega) (by omega) fun a Y=>?_;refine aP x (mj (fun _=>rfl) Y F (H.front 1)) ?_;refine c5 (x:=lb) (S:=x) wQ 3 H rfl fun cB H=>?_;refine eh (x:=x) 0 H rfl ?_;rw[b.I8 (by omega) F];exact⟨rfl,sy h H.drop⟩
def dH.send(b:dH)(from_ h5:Int)(y:ir):dH×Int×Int:=
 if (!b.has from_||!b.has h5)=true then (b,0,90)
 else if (b.put ⟨IntKind.i64.wrap (b.qA+1),from_,h5,y⟩).2≠0 then (b,0,91)
 else ({ (b.put ⟨IntKind.i64.wrap (b.qA+1),from_,h5,y⟩).1 with qA:=IntKind.i64.wrap (b.qA+1) },IntKind.i64.wrap (b.qA+1),0)
theorem dH.acJ(b:dH)(x:gZ)(h:(b.put x).2≠0):b.put x=(b,91):=by
 unfold dH.put at h ⊢;split<;>simp_all
theorem aGT(H:E A (hN l b::m) w)(a1:b.m.length≤1000)(f t:Int)(y:ir) :
  M Pg 81 [.pointer (some ⟨l,0,none⟩),.int .i64 f,.int .i64 t,eJ.enc y] (bw (B .i64) (B .i64)) w fun r J=>r=(b.send f t y).2∧E A (hN l (b.send f t y).1::m) J:=by
 refine ai8 ?_;unfold Wy;refine bP H fun l8 w H=>?_;have H:=H.front 1;refine ap (Hj H f) ?_;rintro r dF ⟨rfl,H⟩;have tail:∀ (q:Bool) (dF:World),E A (hN l b::aH l8 (eJ.cells y) 62::m) dF→q=(!b.has f||!b.has t)→FJ (some ⟨l,0,none⟩) f t ⟨l8,0,none⟩ q dF (fun r J=>r=(b.send f t y).2∧E A (hN l (b.send f t y).1::m) J):=by
  intro q dF H a8;unfold FJ;subst a8;split
  ·rename_i U;have j:b.send f t y=(b,0,90):=by unfold dH.send; rw[if_pos U]
   rw[j]; exact⟨rfl,(H.front 1).drop⟩
  ·rename_i U;obtain⟨v,lQ,es,h,gY⟩:=v3 H;refine cb rfl ?_;refine aj (x:=b.qA) 0 gY rfl rfl rfl ?_;refine eh (x:=y) 3 gY rfl ?_;refine ap (Ch (sy h gY) a1 _) ?_;rintro r cB ⟨rfl,H⟩;by_cases aE:(b.put ⟨IntKind.i64.wrap (b.qA+1),f,t,y⟩).2=0
   ·rw[if_neg (by simp[aE])];have j:b.send f t y=({ (b.put ⟨IntKind.i64.wrap (b.qA+1),f,t,y⟩).1 with qA:=IntKind.i64.wrap (b.qA+1) },IntKind.i64.wrap (b.qA+1),0):=by
     unfold dH.send; rw[if_neg U,if_neg (by simp[aE])]
    rw[j];obtain⟨v,lQ,es,h,H⟩:=v3 H;refine dD 0 H rfl rfl (Nat.le_of_ble_eq_true rfl) fun bm H=>?_;exact⟨rfl,sy (v:=v) h (H.front 3).drop⟩
   ·rw[if_pos (by simp[aE])];have j:b.send f t y=(b,0,91):=by
     unfold dH.send; rw[if_neg U,if_pos aE]
    have aR:=b.acJ _ aE;rw[aR] at H ⊢;rw[j]; exact⟨rfl,(H.front 1).drop⟩
 split
 ·rename_i U;exact tail _ _ H (by simp at U; simp[U])
 ·rename_i U;refine ap (Hj H t) ?_;rintro r cB ⟨rfl,H⟩;exact tail _ _ H (by simp at U; simp[U])
theorem alz{v:af}{xs:List gZ}(H:E A (row eC 64 10 v xs::m) w)(al:xs.length*80≤140737488355328) :
  M Pg 107 [X.enc v] X w fun r J=>E A (row eC 64 10 r xs::row eC 64 10 v xs::m) J:=by
 refine af3 ?_;unfold TA;split
 ·rename_i U;rcases oG H with ⟨rfl,rfl,_⟩ | ⟨e9,rest,I,_⟩
  ·exact kN eC 64 10 H
  ·simp[I] at U
 ·refine vq H fun e9 dF H=>?_;have gY:=us (T:=eC) (t:=64) (ar:=10) (xs:=[]) (y:=0) rfl H;refine Dp (xs:=[]) (new:=xs) (fun _=>rfl) 0 gY rfl (C7 (gY.front 1)) (by simpa using al) fun r cB H=>?_;exact H
theorem aB6(H:E A (hN l b::m) w)(a1:b.m.length≤1000):M Pg 56 [.pointer (some ⟨l,0,none⟩)] X w fun r J=>E A (row eC 64 10 r b.m::hN l b::m) J:=by
 refine aiH ?_;unfold Wa;obtain⟨v,lQ,es,h,H⟩:=v3 H;refine cb rfl ?_;refine aj (x:=v) 0 H rfl rfl rfl ?_;refine ap (alz (H.front 1) (by omega)) ?_;intro r dF H;exact (sy h (H.ord [2,1,3,0])).front 1
theorem Yg{v:af}{xs:List gZ}(H:E A (row eC 64 10 v xs::m) w)(i:Int)(ah:0≤i)(I:i<xs.length)(hm:xs.length≤1000) :
  M Pg 133 [X.enc v,.int .i64 i,.int .i64 (i+1)] X w fun r J=>E A (row eC 64 10 r (xs.eraseIdx i.toNat)::m) J:=by
 refine agu ?_;unfold TZ;have aL:=gr H;have l_:v.len≤v.cap:=by
  rcases oG H with ⟨rfl,rfl,_⟩ | ⟨_,_,_,_,h,_⟩
  ·exact Nat.le_refl _
  ·exact h
 refine ob ah (by omega) (by omega) (by omega) fun aeo _=>?_;rw[if_neg (by simp; omega)];refine dp H fun cB H=>?_;refine ob (by omega) (by omega) (by omega) (by omega) fun w7 iu=>?_;refine ob (by omega) (by omega) (by omega) (by omega) fun H7 rX=>?_;have ag:=ad5 (fun _=>rfl) rX H;obtain⟨xP,H⟩:=aGv (fun _=>rfl) iu (by omega) H;subst xP;have ZM:(xs.drop (i+1).toNat).length=xs.length-(i+1).toNat:=List.length_drop;refine aj7 (fun _=>rfl) H ag (by simp only[ZM]; omega) fun bm H=>?_;have j:xs.take i.toNat++xs.drop (i+1).toNat=xs.eraseIdx i.toNat:=by
  rw[List.eraseIdx_eq_take_drop_succ]; congr 2; omega
 rw[j] at H;refine ob (by omega) (by simp only[ZM]; omega) (by simp only; omega) (Int.le_refl _) fun aen an9=>?_;exact alE (fun _=>rfl) an9 H fun aV H=>H
def dH.take(b:dH)(i:Int):dH×gZ×Int:=
 if (b.at_ i).2≠0 then (b,(b.at_ i).1,(b.at_ i).2)
 else if (b.off (b.at_ i).1.fF||b.off (b.at_ i).1.fx)=true then (b,lb,93)
 else ({ b with m:=b.m.eraseIdx i.toNat },(b.at_ i).1,0)
theorem dH.I9(b:dH){i:Int}(h:(b.at_ i).2=0):0≤i∧i<b.m.length:=by
 by_cases U:i<0∨(b.m.length:Int)≤i
 ·rw[b.Xu U] at h; cases h
 ·omega
theorem afK{i:Int}{n:Nat}(ah:0≤i)(I:i<n)(aL:n≤1000):IntKind.i64.wrap (i+1)=i+1:=wrap_i64 (by omega) (by omega)
theorem aCf(H:E A (hN l b::m) w)(a1:b.m.length≤1000)(i:Int):M Pg 101 [.pointer (some ⟨l,0,none⟩),.int .i64 i] (B .i64) w fun r J=>
  r=(b.at_ i).2∧E A (hN l (if (b.at_ i).2=0 then { b with m:=b.m.eraseIdx i.toNat } else b)::m) J:=by
 refine afY ?_;unfold Tu;refine ap (Bh H i) ?_;rintro r dF ⟨rfl,H⟩;refine bP H fun e9 cB H=>?_;refine c5 (x:=lb) (S:=(b.at_ i).1) wQ 0 H rfl fun bm H=>?_;have H:=H.drop;by_cases bL:(b.at_ i).2=0
 ·obtain⟨ah,I⟩:=b.I9 bL;rw[if_pos (by simp[bL])];simp only[bL,if_true];obtain⟨v,lQ,es,h,H⟩:=v3 H;refine cb rfl ?_;refine aj (x:=v) 0 H rfl rfl rfl ?_;rw[afK ah I a1];refine ap (Yg (H.front 1) i ah I a1) ?_;intro r aV H;refine dD (x:=r) 1 H rfl rfl (Nat.le_of_ble_eq_true rfl) fun a_ H=>?_;unfold E5;exact⟨bL,sy (v:=r) h H⟩
 ·rw[if_neg (by simp[bL])];simp only[bL,if_false];unfold E5;exact⟨by trivial,H⟩
theorem alU(H:E A (hN l b::m) w)(a1:b.m.length≤1000)(i:Int):M Pg 100 [.pointer (some ⟨l,0,none⟩),.int .i64 i] (B .i64) w fun r J=>
  r=(if (b.at_ i).2≠0 then (b.at_ i).2 else (b.put (b.at_ i).1).2)∧E A (hN l (if (b.at_ i).2≠0 then b else (b.put (b.at_ i).1).1)::m) J:=by
 refine afX ?_;unfold Tt;refine ap (Bh H i) ?_;rintro r dF ⟨rfl,H⟩;refine bP H fun e9 cB H=>?_;refine c5 (x:=lb) (S:=(b.at_ i).1) wQ 0 H rfl fun bm H=>?_;by_cases bL:(b.at_ i).2=0
 ·rw[if_neg (by simp[bL])];simp only[bL,ne_eq,not_true_eq_false,if_false];refine eh (x:=(b.at_ i).1) 0 H rfl ?_;exact Ch H.drop a1 _
 ·rw[if_pos (by simp[bL])];simp only[bL,ne_eq,not_false_eq_true,if_true];exact⟨by trivial,H.drop⟩
theorem alZ(H:E A (hN l b::m) w)(x:Int)(q:Bool):M Pg 69 [.pointer (some ⟨l,0,none⟩),.int .i64 x,.bool q] (B .i64) w fun r J=>
  r=(if b.has x then 0 else 90)∧E A (hN l (if b.has x then { b with off:=fun S=>if S==x then q else b.off S } else b)::m) J:=by
 refine aiU ?_;unfold Wl;refine ap (Hj H x) ?_;rintro r dF ⟨rfl,H⟩;by_cases cD:b.has x=true
 ·rw[if_neg (by simp[cD])];simp only[cD,if_true];obtain⟨v,lQ,es,h,H⟩:=v3 H;have lk:=Hu (H.front 2);cases q with
  |true=>
   rw[if_pos rfl];refine cb rfl ?_;refine aj (x:=some lQ) 0 H rfl rfl rfl ?_;refine r8 2 H rfl rfl fun cB H=>?_;unfold FG;refine⟨rfl,sy (v:=v) ?_ (H.ord [1,2,0])⟩;intro S;rw[s6];by_cases j:(S==x)=true
   ·simp[j]
   ·simp[j,h S]
  |false=>
   rw[if_neg (by simp)];refine cb rfl ?_;refine aj (x:=some lQ) 0 H rfl rfl rfl ?_;refine QT 2 H rfl rfl fun cB H=>?_;unfold FG;refine⟨rfl,sy (v:=v) ?_ (H.ord [1,2,0])⟩;intro S;rw[Hs _ _ _ lk];by_cases j:(S==x)=true
   ·simp[j]
   ·simp[j,h S]
 ·rw[if_pos (by simp[cD])];simp only[cD,Bool.false_eq_true,if_false];exact⟨by trivial,H⟩
theorem dH.aHS(b:dH){i:Int}(h:(b.at_ i).2≠0):b.take i=(b,(b.at_ i).1,(b.at_ i).2):=by unfold dH.take; rw[if_pos h]
theorem dH.aHU(b:dH){i:Int}(h:(b.at_ i).2=0)(ai:(b.off (b.at_ i).1.fF||b.off (b.at_ i).1.fx)=true):b.take i=(b,lb,93):=by
 unfold dH.take; rw[if_neg (by simp[h]),if_pos ai]
theorem dH.aHV(b:dH){i:Int}(h:(b.at_ i).2=0)(ai:(b.off (b.at_ i).1.fF||b.off (b.at_ i).1.fx)=false):b.take i=({ b with m:=b.m.eraseIdx i.toNat },(b.at_ i).1,0):=by
 unfold dH.take; rw[if_neg (by simp[h]),if_neg (by simp[ai])]
theorem SE(H:E A (hN l b::m) w)(a1:b.m.length≤1000)(i:Int):M Pg 82 [.pointer (some ⟨l,0,none⟩),.int .i64 i] (bw eC (B .i64)) w fun r J=>
  r=(b.take i).2∧E A (hN l (b.take i).1::m) J:=by
 refine ai9 ?_;unfold Wz;refine bP H fun e9 dF H=>?_;refine ap (Bh (H.front 1) i) ?_;rintro r cB ⟨rfl,H⟩;refine bP H fun eb bm H=>?_;refine c5 (x:=lb) (S:=(b.at_ i).1) wQ 0 H rfl fun aV H=>?_;by_cases bL:(b.at_ i).2=0
 ·rw[if_neg (by simp[bL])];refine aj (x:=(b.at_ i).1.fF) 0 H rfl rfl rfl ?_;refine ap (X3 (H.front 1) _) ?_;rintro r a_ ⟨rfl,H⟩;have tail:∀ (q:Bool) (w:World),E A (hN l b::aH eb (eC.cells (b.at_ i).1) 64::aH e9 (eC.cells lb) 64::m) w→q=(b.off (b.at_ i).1.fF||b.off (b.at_ i).1.fx) →
    FK (some ⟨l,0,none⟩) i ⟨e9,0,none⟩ ⟨eb,0,none⟩ q w (fun r J=>r=(b.take i).2∧E A (hN l (b.take i).1::m) J):=by
   intro q w H a8;unfold FK;subst a8;split
   ·rename_i U;rw[b.aHU bL U];refine c5 (x:=lb) (S:=lb) wQ 2 H rfl fun b2 H=>?_;refine eh (x:=lb) 0 H rfl ?_;exact⟨rfl,((H.ord [0,2]).drop).drop⟩
   ·rename_i U;rw[b.aHV bL (by simpa using U)];obtain⟨ah,I⟩:=b.I9 bL;obtain⟨v,lQ,es,h,H⟩:=v3 H;refine cb rfl ?_;refine aj (x:=v) 0 H rfl rfl rfl ?_;rw[afK ah I a1];refine ap (Yg (H.front 1) i ah I a1) ?_;intro r b2 H;refine dD (x:=r) 1 H rfl rfl (Nat.le_of_ble_eq_true rfl) fun bV H=>?_;refine eh (x:=(b.at_ i).1) 3 H rfl ?_;refine c5 (x:=lb) (S:=(b.at_ i).1) wQ 4 H rfl fun bH H=>?_;refine eh (x:=(b.at_ i).1) 0 H rfl ?_;exact⟨rfl,sy (v:=r) h ((H.ord [0,4]).drop).drop⟩
  split
  ·rename_i U;exact tail _ _ H (by simp[U])
  ·rename_i U;refine aj (x:=(b.at_ i).1.fx) 1 H rfl rfl rfl ?_;refine ap (X3 H _) ?_;rintro r b2 ⟨rfl,H⟩;exact tail _ _ H (by simp at U; simp[U])
 ·rw[if_pos (by simp[bL])];rw[b.aHS bL];refine eh (x:=(b.at_ i).1) 0 H rfl ?_;refine c5 (x:=lb) (S:=(b.at_ i).1) wQ 2 H rfl fun a_ H=>?_;refine eh (x:=(b.at_ i).1) 0 H rfl ?_;exact⟨rfl,H.drop.drop⟩
end
section
variable {A w:World} {m:List bC} {l:Nat} {b:dH}
def dH.new(n:Int):dH:=⟨n,0,[],fun _=>false⟩
theorem ajy(H:E A m w)(n:Int):M Pg 39 [.int .i64 n] (bw aD (B .i64)) w fun r J=>
  ((n<1∨64<n)∧r=(none,90)∧E A m J)∨((1≤n∧n≤64)∧∃ l,r=(some ⟨l,0,none⟩,0)∧E A (hN l (dH.new n)::m) J):=by
 refine aio ?_;unfold VT;split
 ·rename_i U;exact .inl ⟨by simp at U; omega,rfl,H⟩
 ·rename_i U;refine wY H fun lQ dF H=>?_;refine bP H fun l cB H=>?_;refine .inr ⟨by simp at U; omega,l,rfl,?_⟩;have H:=(wU fq .i64 (H.front 1)).front 1;exact sy (v:=fz) (b:=dH.new n) (fun x=>rfl) ((kN eC 64 10 H).front 1)
end
end Post
section
open bf
theorem K4:ownKnob Tryz.prog.godebug=none:=by kernel_rfl
theorem wP:laidOutB Pg=true:=by kernel_rfl
section
variable {H:Type} {enc:TypeId×Value→H} {A:World} {base:Nat} {spare:Nat→Bool} {held:Bool}
def rJ(A:World)(x:Int):Prop:=IntKind.i64.min≤x∧x≤IntKind.i64.max
theorem Af:qR enc Pg A base spare held 3 (B .i64) (rJ A):=ack Tryz.underlying3
def NA(A:World)(x:Nat):Prop:=x<18446744073709551616
theorem aci:qR enc Pg A base spare held 22 gP (NA A):=aDY Tryz.underlying22
def vZ(A:World)(x:Int):Prop:=IntKind.i64.min≤x∧x≤IntKind.i64.max
theorem K0:qR enc Pg A base spare held 2 (B .i64) (vZ A):=ack Tryz.underlying2
def xp(A:World)(x:kZ):Prop:=rJ A x.hE∧NA A x.gD∧NA A x.kX∧vZ A x.jA
theorem K1:qR enc Pg A base spare held 24 ha (xp A):=by
 refine Rn Tryz.underlying24 (show Tryz.prog.cellsOf 24=4 by kernel_rfl) fun ba al am=>?_;obtain⟨abz,bF,ah⟩:=am 0 0 3 1 ⟨_,rfl,rfl,rfl⟩ (by kernel_rfl);obtain⟨hC,hH,cX⟩:=Af _ _ _ ah;obtain⟨g9,cj,I⟩:=am 1 1 22 1 ⟨_,rfl,rfl,rfl⟩ (by kernel_rfl);obtain⟨gV,aR,bA⟩:=aci _ _ _ I;obtain⟨jV,fp,O⟩:=am 2 2 22 1 ⟨_,rfl,rfl,rfl⟩ (by kernel_rfl);obtain⟨mr,a9,eR⟩:=aci _ _ _ O;obtain⟨jH,ea,aJ⟩:=am 3 3 2 1 ⟨_,rfl,rfl,rfl⟩ (by kernel_rfl);obtain⟨Ir,df,je⟩:=K0 _ _ _ aJ;have cD:=q7 (G:=0) (k:=1) hH (q7 (G:=1) (k:=1) aR (q7 (G:=2) (k:=1) a9 (q7 (G:=3) (k:=1) df (Ol al))));exact⟨⟨hC,gV,mr,Ir⟩,cD,cX,bA,eR,je⟩
def WQ(A:World)(x:mz):Prop:=rJ A x.aC∧rJ A x.fF∧rJ A x.fx∧vZ A x.b
theorem aDU:qR enc Pg A base spare held 31 gk (WQ A):=by
 refine Rn Tryz.underlying31 (show Tryz.prog.cellsOf 31=4 by kernel_rfl) fun ba al am=>?_;obtain⟨abz,bF,ah⟩:=am 0 0 3 1 ⟨_,rfl,rfl,rfl⟩ (by kernel_rfl);obtain⟨hC,hH,cX⟩:=Af _ _ _ ah;obtain⟨g9,cj,I⟩:=am 1 1 3 1 ⟨_,rfl,rfl,rfl⟩ (by kernel_rfl);obtain⟨gV,aR,bA⟩:=Af _ _ _ I;obtain⟨jV,fp,O⟩:=am 2 2 3 1 ⟨_,rfl,rfl,rfl⟩ (by kernel_rfl);obtain⟨mr,a9,eR⟩:=Af _ _ _ O;obtain⟨jH,ea,aJ⟩:=am 3 3 2 1 ⟨_,rfl,rfl,rfl⟩ (by kernel_rfl);obtain⟨Ir,df,je⟩:=K0 _ _ _ aJ;have cD:=q7 (G:=0) (k:=1) hH (q7 (G:=1) (k:=1) aR (q7 (G:=2) (k:=1) a9 (q7 (G:=3) (k:=1) df (Ol al))));exact⟨⟨hC,gV,mr,Ir⟩,cD,cX,bA,eR,je⟩
def WR(A:World)(s:af):Prop:=(s.len≤s.cap∧s.cap≤9223372036854775807)∧∃ xs,(∀ x∈xs,vZ A x)∧c3 (B .i64) s xs fun l=>A.heap[l]?
theorem aDV:qR enc Pg A base spare held 32 X (WR A):=Ro Tryz.underlying32 (show Tryz.prog.cellsOf 2=1 by kernel_rfl) (by decide) (fun _=>rfl) K0
def WS(A:World)(s:af):Prop:=(s.len≤s.cap∧s.cap≤9223372036854775807)∧∃ xs,(∀ x∈xs,rJ A x)∧c3 (B .i64) s xs fun l=>A.heap[l]?
theorem aDW:qR enc Pg A base spare held 33 X (WS A):=Ro Tryz.underlying33 (show Tryz.prog.cellsOf 3=1 by kernel_rfl) (by decide) (fun _=>rfl) Af
def FT(A:World)(x:oj):Prop:=rJ A x.Kind∧rJ A x.aO∧rJ A x.aT∧vZ A x.b∧WQ A x.cf∧WR A x.N∧WS A x.gC
theorem acj:qR enc Pg A base spare held 35 hO (FT A):=by
 refine Rn Tryz.underlying35 (show Tryz.prog.cellsOf 35=10 by kernel_rfl) fun ba al am=>?_;obtain⟨abz,bF,ah⟩:=am 0 0 3 1 ⟨_,rfl,rfl,rfl⟩ (by kernel_rfl);obtain⟨hC,hH,cX⟩:=Af _ _ _ ah;obtain⟨g9,cj,I⟩:=am 1 1 3 1 ⟨_,rfl,rfl,rfl⟩ (by kernel_rfl);obtain⟨gV,aR,bA⟩:=Af _ _ _ I;obtain⟨jV,fp,O⟩:=am 2 2 3 1 ⟨_,rfl,rfl,rfl⟩ (by kernel_rfl);obtain⟨mr,a9,eR⟩:=Af _ _ _ O;obtain⟨jH,ea,aJ⟩:=am 3 3 2 1 ⟨_,rfl,rfl,rfl⟩ (by kernel_rfl);obtain⟨Ir,df,je⟩:=K0 _ _ _ aJ;obtain⟨abA,de,bl⟩:=am 4 4 31 4 ⟨_,rfl,rfl,rfl⟩ (by kernel_rfl);obtain⟨aI3,m0,nx⟩:=aDU _ _ _ bl;obtain⟨jr,dN,dq⟩:=am 5 8 32 1 ⟨_,rfl,rfl,rfl⟩ (by kernel_rfl);obtain⟨aI4,q9,Bs⟩:=aDV _ _ _ dq;obtain⟨QR,cJ,iu⟩:=am 6 9 33 1 ⟨_,rfl,rfl,rfl⟩ (by kernel_rfl);obtain⟨aI5,xP,Bt⟩:=aDW _ _ _ iu
 have cD:=q7 (G:=0) (k:=1) hH (q7 (G:=1) (k:=1) aR (q7 (G:=2) (k:=1) a9 (q7 (G:=3) (k:=1) df (q7 (G:=4) (k:=4) m0 (q7 (G:=8) (k:=1) q9 (q7 (G:=9) (k:=1) xP (Ol al)))))));exact⟨⟨hC,gV,mr,Ir,aI3,aI4,aI5⟩,cD,cX,bA,eR,je,nx,Bs,Bt⟩
def ts(A:World)(s:af):Prop:=(s.len≤s.cap∧s.cap≤9223372036854775807)∧∃ xs,(∀ x∈xs,FT A x)∧c3 hO s xs fun l=>A.heap[l]?
theorem HL:qR enc Pg A base spare held 25 X (ts A):=Ro Tryz.underlying25 (show Tryz.prog.cellsOf 35=10 by kernel_rfl) (by decide) (fun _=>rfl) acj
end
end
namespace Num
open bf
theorem alY(y:Nat):y+(decide ((8:Nat)<2*0)||(8:Nat)==2*0&&y%2==1).toNat=y:=by simp
theorem aoT{f:Nat}(h:jc f):(9007199254740992≤f→f≠9223372036854775808→nW f=f-4503599627370496)∧(f<9007199254740992→nW f≤4503599627370496)∧(f=9223372036854775808→nW f=9223372036854775808):=by
 have a9:Ieee.double.read 4611686018427387904=.number false 4503599627370496 (-51):=by decide
 have aL:(4503599627370496:Nat).log2=52:=by decide
 rcases h with rfl | h
 ·refine⟨fun _ h=>absurd rfl h,fun h=>by omega,fun _=>?_⟩;have j:Ieee.double.read 9223372036854775808=.number true 0 (-1074):=by decide
  unfold nW Ieee.Format.div;rw[a9,j];decide
 ·by_cases f0:f=0
  ·subst f0;refine⟨fun h=>by omega,fun _=>?_,fun h=>by cases h⟩;have j:nW 0=0:=by unfold nW; decide
   rw[j]; omega
  have key:∃ z,Ieee.double.div f 4611686018427387904=some z∧(9007199254740992≤f→z=f-4503599627370496)∧(f<9007199254740992→z≤4503599627370496):=by
   unfold Ieee.Format.div;rw[a9,n3 (by omega)];simp only[Ieee.Datum.quotient];rw[if_neg (by omega),aL,DL];simp only[Option.map_some];refine⟨_,rfl,?_⟩;obtain⟨I,O,aJ⟩:=KA f;have api:fi f≤1015:=by unfold fi; split<;>omega
   have apj:f<9007199254740992→fi f=0:=by intro am; unfold fi; split<;>omega
   have aph:9007199254740992≤f→1≤fi f:=by intro am; unfold fi; split<;>omega
   generalize ku f=y at *;generalize fi f=j at *;have hm:y≠0:=by
    intro hm;subst hm;by_cases he:0<j
    ·have:=aJ he; omega
    ·have:j=0:=by omega
     subst this;omega
   have wB:y.log2≤52:=by
    have:y.log2<53:=(Nat.log2_lt hm).2 (by omega);omega
   have JZ:52+2+52-y.log2=52+(54-y.log2):=by omega
   have qg:y <<< (52+2+52-y.log2)=y*2^(54-y.log2)*4503599627370496:=by
    rw[JZ,Nat.shiftLeft_eq,Nat.pow_add,show (2:Nat)^52=4503599627370496 by decide,Nat.mul_assoc,Nat.mul_comm (2^(54-y.log2))]
   rw[qg,Nat.mul_div_cancel _ (by omega),Nat.mul_mod_left];have dC:y*2^(54-y.log2)<36028797018963968:=by
    have dq:y<2^(y.log2+1):=Nat.lt_log2_self;have iu:y*2^(54-y.log2)<2^(y.log2+1)*2^(54-y.log2):=(Nat.mul_lt_mul_right (Nat.two_pow_pos _)).2 dq;rw[← Nat.pow_add,show y.log2+1+(54-y.log2)=55 by omega] at iu;have:(2:Nat)^55=36028797018963968:=by decide
    omega
   have Pu:18014398509481984≤y*2^(54-y.log2):=by
    have dq:2^y.log2≤y:=Nat.log2_self_le hm;have iu:2^y.log2*2^(54-y.log2)≤y*2^(54-y.log2):=Nat.mul_le_mul_right _ dq;rw[← Nat.pow_add,show y.log2+(54-y.log2)=54 by omega] at iu;have:(2:Nat)^54=18014398509481984:=by decide
    omega
   have JL:∀ K,K=56-y.log2→2*(y*2^(54-y.log2))/2^K=y/2:=by
    intro K ak;subst ak;rw[show 56-y.log2=(54-y.log2)+1+1 from by omega,Nat.pow_succ,Nat.pow_succ];have R:0<2^(54-y.log2):=Nat.two_pow_pos _;generalize 2^(54-y.log2)=g at *;rw[show 2*(y*g)=(2*y)*g from (Nat.mul_assoc ..).symm,show g*2*2=4*g from by omega,Nat.mul_div_mul_right _ _ R];omega
   have aqi:1≤j→y.log2=52:=by
    intro he;have dq:=aJ (by omega);have:52≤y.log2:=(Nat.le_log2 hm).2 (by (have:(2:Nat)^52=4503599627370496:=by decide); omega);omega
   have O7:y.log2=52→y*2^(54-y.log2)=y*4:=by intro h; rw[h]
   generalize al:y.log2=N at *;generalize aox:y*2^(54-N)=cf at *;show (_→Ieee.Format.nearest Ieee.double (false ^^ false) (2*cf+((0:Nat)!=0).toNat) _=_)∧(_→Ieee.Format.nearest Ieee.double (false ^^ false) (2*cf+((0:Nat)!=0).toNat) _≤_)
   rw[show ((0:Nat)!=0).toNat=0 from rfl,Nat.add_zero];unfold Ieee.Format.nearest;rw[if_neg (by omega)];have pL:(2*cf).log2=55:=(Nat.log2_eq_iff (by omega)).2 ⟨by omega,by omega⟩;rw[pL,z_,DL,zC,z3];generalize aE:(-1074+(j:Int) - -51-((52+2+52-N:Nat):Int)-1)=P;simp only;have D5:max (P+((55:Nat):Int)-((52:Nat):Int)) (-1074)=max (P+3) (-1074):=by omega
   rw[D5];have zQ:(P-max (P+3) (-1074)).toNat=0:=by omega
   rw[zQ,Nat.shiftLeft_zero];have tP:∀ l:Bool,l.toNat≤1:=fun l=>by cases l<;>decide
   refine⟨fun am=>?_,fun am=>?_⟩
   ·have he:=aph am;have kE:=aqi he;subst kE;have O7:=O7 rfl;have PC:max (P+3) (-1074)=P+3:=by omega
    rw[PC,show (P+3-P).toNat=3 from by omega,show (P+3 - -1074).toNat=j-1 from by omega];have U:Ieee.Toward.cut .even (false ^^ false) (2*cf) 3=y:=by
     unfold Ieee.Toward.cut;rw[pL];have GN:1 <<< min 3 (55+2)=8:=by decide
     rw[GN];simp only;have lG:2*cf/8=y:=by omega
     have aY:2*cf%8=0:=by omega
     rw[lG,aY];exact alY y
    rw[U];unfold Ieee.Format.word;rw[if_neg (by simp)];have:(j-1)*4503599627370496+y≤9218868437227405312:=by
     have:(j-1)*4503599627370496≤1014*4503599627370496:=Nat.mul_le_mul_right _ (by omega);exact Nat.le_trans (Nat.add_le_add this (Nat.le_of_lt O)) (by decide)
    rw[Nat.min_eq_left this,← I];clear qg JL aox pL D5 tP dC Pu O7 aE JZ U;obtain⟨d,rfl⟩:∃ d,j=d+1:=⟨j-1,by omega⟩
    rw[Nat.add_sub_cancel,Nat.add_mul];omega
   ·have he:=apj am;have PC:max (P+3) (-1074)=-1074:=by omega
    rw[PC,show (-1074 - -1074:Int).toNat=0 from by omega];have ak:(-1074-P).toNat=56-N:=by omega
    rw[ak];have U:Ieee.Toward.cut .even (false ^^ false) (2*cf) (56-N)≤4503599627370496:=by
     unfold Ieee.Toward.cut;rw[pL];have GN:1 <<< min (56-N) (55+2)=2^(56-N):=by rw[Nat.shiftLeft_eq,Nat.one_mul,Nat.min_eq_left (by omega)]
     rw[GN];simp only;have sO:=JL (56-N) rfl;refine Nat.le_trans (Nat.add_le_add (Nat.le_of_eq sO) (tP _)) ?_;omega
    unfold Ieee.Format.word;rw[if_neg (by simp)];refine Nat.le_trans (Nat.min_le_left _ _) ?_;omega
  obtain⟨z,I,O,aJ⟩:=key;have bL:nW f=z:=congrArg (fun G:Option Nat=>G.getD 0) I;rw[bL];exact⟨fun a _=>O a,aJ,fun j=>by omega⟩
def sM(f:Nat):Prop:=f<4503599627370496∨f=9223372036854775808
instance (f:Nat):Decidable (sM f):=by unfold sM; infer_instance
def n1(f:Nat):Nat:=4503599627370496+f%4503599627370496
def lm(f:Nat):Nat:=1075-f/4503599627370496
def v7(f:Nat)(T W:Nat):Prop:=if sM f then W=0 else 2*2^lm f*W≤T*n1 f
theorem OL(d:Nat)(f:Nat):j8 d f=if sM f then 0 else ((d*n1 f/2^lm f:Nat):Int):=by
 unfold j8 sM n1 lm;rw[Int.toNat_natCast]
theorem aG8{d h:Nat}(ag:d≤1048576)(cD:h≤4503599627370496):j8 d h=0:=by
 rw[OL];split
 ·rfl
 ·rename_i am;unfold sM at am;have j:h=4503599627370496:=by omega
  subst j;have aR:n1 4503599627370496=2^52:=by decide
  have a9:lm 4503599627370496=1074:=by decide
  rw[aR,a9];have I:d*2^52<2^1074:=by
   have O:d*2^52≤2^20*2^52:=Nat.mul_le_mul_right _ (by simpa using ag);rw[← Nat.pow_add] at O;exact Nat.lt_of_le_of_lt O (Nat.pow_lt_pow_right (by omega) (by omega))
  rw[Nat.div_eq_of_lt I];rfl
theorem aG6{f d s:Nat}(h:jc f)(ag:d≤1048576)(aG:(s:Int)≤j8 d (nW f)):if sM f then s=0 else 2*2^lm f*s≤d*n1 f:=by
 obtain⟨I,O,aJ⟩:=aoT h;by_cases c:9007199254740992≤f∧f≠9223372036854775808
 ·have am:¬ sM f:=by unfold sM; omega
  rw[if_neg am];rw[I c.1 c.2,OL] at aG;have apk:f≤4576918229304087675:=by rcases h with h | h<;>omega
  have aqs:¬ sM (f-4503599627370496):=by unfold sM; omega
  rw[if_neg aqs] at aG;have aR:n1 (f-4503599627370496)=n1 f:=by unfold n1; omega
  have a9:lm (f-4503599627370496)=lm f+1:=by unfold lm; omega
  rw[aR,a9,Nat.pow_succ] at aG;have aG:s≤d*n1 f/(2^lm f*2):=by omega
  have aE:0<2^lm f*2:=by have:=Nat.two_pow_pos (lm f); omega
  have dq:=(Nat.le_div_iff_mul_le aE).1 aG;rw[Nat.mul_comm s,Nat.mul_comm (2^lm f) 2] at dq;exact dq
 ·have bL:j8 d (nW f)=0:=by
   by_cases j:f=9223372036854775808
   ·rw[aJ j,OL,if_pos (.inr rfl)]
   ·exact aG8 ag (O (by omega))
  rw[bL] at aG;have:s=0:=by omega
  subst this;split
  ·rfl
  ·simp
theorem v7.add{f T W d s:Nat}(h:jc f)(e0:v7 f T W)(ag:d≤1048576)(aG:(s:Int)≤j8 d (nW f)):v7 f (T+d) (W+s):=by
 have I:=aG6 h ag aG;unfold v7 at *;split
 ·rename_i c;rw[if_pos c] at I e0;omega
 ·rename_i c;rw[if_neg c] at I e0;rw[Nat.mul_add,Nat.add_mul];exact Nat.add_le_add e0 I
theorem aG7(f T:Nat):v7 f T 0:=by
 unfold v7;split
 ·rfl
 ·simp
theorem v7.within{f T W e:Nat}(h:jc f)(e0:v7 f T W)(jn:T≤e+W):(W:Int)≤pC e f∧2*W≤T:=by
 unfold v7 at e0;by_cases c:sM f
 ·rw[if_pos c] at e0;subst e0;have:=(Jg (n:=(e:Int)) (f:=f) (by omega) h.eD).1;exact⟨this,by omega⟩
 ·rw[if_neg c] at e0;have apk:4503599627370496≤f∧f≤4576918229304087675:=by
   unfold sM at c;rcases h with h | h<;>omega
  have hm:n1 f≤2^lm f:=by
   have I:n1 f≤2^53:=by
    have:(2:Nat)^53=9007199254740992:=by decide
    unfold n1; omega
   have O:(2:Nat)^53≤2^lm f:=Nat.pow_le_pow_right (by omega) (by unfold lm; omega);omega
  have aE:0<2^lm f:=Nat.two_pow_pos _;have aod:2*W≤T:=by
   have I:2*2^lm f*W≤T*2^lm f:=Nat.le_trans e0 (Nat.mul_le_mul_left _ hm);have O:(2*W)*2^lm f≤T*2^lm f:=by rw[Nat.mul_right_comm] at I; exact I
   exact Nat.le_of_mul_le_mul_right O aE
  have aov:T≤2*e:=by omega
  have aJ:2*(W*2^lm f)≤2*(e*n1 f):=by
   have I:T*n1 f≤2*e*n1 f:=Nat.mul_le_mul_right _ aov;have O:2*(W*2^lm f)=2*2^lm f*W:=by rw[Nat.mul_comm W,Nat.mul_assoc]
   have bl:2*e*n1 f=2*(e*n1 f):=Nat.mul_assoc ..;omega
  have dq:W≤e*n1 f/2^lm f:=(Nat.le_div_iff_mul_le aE).2 (by omega);refine⟨?_,aod⟩;unfold pC;by_cases cz:f=0∨f=9223372036854775808∨(e:Int)=0
  ·rw[if_pos cz];have:e=0:=by omega
   subst this;have:W=0:=by omega
   subst this;exact Int.le_refl 0
  ·rw[if_neg cz,if_neg (by omega),Int.toNat_natCast];show (W:Int)≤((e*n1 f/2^lm f:Nat):Int)+_
   have:(W:Int)≤((e*n1 f/2^lm f:Nat):Int):=by omega
   split<;>omega
end Num
end Go.Proofs.YthaobmpdjcoheaaGreat
