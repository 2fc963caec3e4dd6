/- Own texts of this claim, part 11: short, merged. -/
import Derived.Test.YthaobmpdjcoheaaGreatRows
import Derived.OpenShut
import Derived.ShutString
import Derived.ChangeOld
import Derived.Laws.Cover2
import Derived.Test.YthaobmpdjcoheaaGreatZ2
import Derived.Test.YthaobmpdjcoheaaGreatZ3
import Derived.Test.YthaobmpdjcoheaaGreatZ4
import Derived.Test.YthaobmpdjcoheaaGreatZ5
import Derived.Test.YthaobmpdjcoheaaGreatZ6
import Derived.Test.YthaobmpdjcoheaaGreatZ7
import Derived.Test.YthaobmpdjcoheaaGreatZ8
import Derived.Test.YthaobmpdjcoheaaGreatZ9
import Derived.Test.YthaobmpdjcoheaaGreatZ10
set_option exponentiation.threshold 4000
set_option maxRecDepth 100000
set_option maxHeartbeats 40000000
set_option linter.defProp false
set_option linter.unusedVariables false
set_option linter.unusedSimpArgs false
namespace Go.Proofs.YthaobmpdjcoheaaGreat
namespace Wire
open bj
abbrev fu:=m5
def isNaN(e:Nat):Bool:=decide (18437736874454810624<2*e%18446744073709551616)
def nc(e:Nat):Nat:=if isNaN e then 9221120237041090561 else e
theorem aol(e:Nat):nc (nc e)=nc e:=by
 unfold nc;cases h:isNaN e
 ·simp[h]
 ·have:isNaN 9221120237041090561=true:=by decide
  simp[this]
theorem Zo{e:Nat}(h:e<18446744073709551616):nc e<18446744073709551616:=by unfold nc; split<;>omega
theorem zY:nc 0=0:=by decide
def num(n:Nat):List UInt8:=if n<128 then [UInt8.ofNat n] else UInt8.ofNat (128+n%128)::num (n/128)
termination_by n
decreasing_by omega
theorem Le{n:Nat}(h:n<128):num n=[UInt8.ofNat n]:=by rw[num,if_pos h]
theorem Ld{n:Nat}(h:128≤n):num n=UInt8.ofNat (128+n%128)::num (n/128):=by rw[num,if_neg (by omega)]
def rdNum:List UInt8→Nat→Nat→Except Int (Nat×List UInt8)
 |[],_,_=>.error 22
 |c::aw,k,acc=>
  if (k=9∧1<c.toNat)∨(0<k∧c.toNat=0) then .error 23
  else if c.toNat<128 then .ok (acc+c.toNat%128*128^k,aw)
  else rdNum aw (k+1) (acc+c.toNat%128*128^k)
theorem AQ{n:Nat}(h:n<256):(UInt8.ofNat n).toNat=n:=by simp; omega
theorem acP{k:Nat}(h:k≤9):128^k=1∨128^k=128∨128^k=16384∨128^k=2097152∨128^k=268435456∨128^k=34359738368∨128^k=4398046511104∨128^k=562949953421312∨128^k=72057594037927936∨k=9∧128^k=9223372036854775808:=by
 have:k=0∨k=1∨k=2∨k=3∨k=4∨k=5∨k=6∨k=7∨k=8∨k=9:=by omega
 rcases this with rfl | rfl | rfl | rfl | rfl | rfl | rfl | rfl | rfl | rfl<;>simp
theorem aEF{k:Nat}(h:k≤8):128^k=1∨128^k=128∨128^k=16384∨128^k=2097152∨128^k=268435456∨128^k=34359738368∨128^k=4398046511104∨128^k=562949953421312∨128^k=72057594037927936:=by
 have:k=0∨k=1∨k=2∨k=3∨k=4∨k=5∨k=6∨k=7∨k=8:=by omega
 rcases this with rfl | rfl | rfl | rfl | rfl | rfl | rfl | rfl | rfl<;>simp
theorem rz{n k:Nat}(aq:k≤9)(aM:n*128^k<18446744073709551616)(h:k=9):n<2:=by
 subst h;simp at aM; omega
theorem aGq:∀ (n k acc:Nat) (rest:List UInt8),k≤9→n*128^k<18446744073709551616→(1≤n∨k=0)→rdNum (num n++rest) k acc=.ok (acc+n*128^k,rest):=by
 intro n;induction n using Nat.strongRecOn with
 |_ n cq=>
  intro k acc rest aq aM ah;by_cases h:n<128
  ·rw[Le h];have aT:(UInt8.ofNat n).toNat=n:=AQ (by omega);simp only[List.cons_append,List.nil_append,rdNum,aT];rw[if_neg (by rintro (⟨I,R⟩ | ⟨I,R⟩); (have:=rz aq aM I; omega); (omega)),if_pos h,Nat.mod_eq_of_lt h]
  ·have tZ:k≤8:=by
    rcases Nat.lt_or_ge 8 k with s0 | s0
    ·have:=rz aq aM (by omega); omega
    ·exact s0
   rw[Ld (by omega)];have aT:(UInt8.ofNat (128+n%128)).toNat=128+n%128:=AQ (by omega);simp only[List.cons_append,rdNum,aT];rw[if_neg (by omega),if_neg (by omega)];have aF:(128:Nat)^(k+1)=128^k*128:=Nat.pow_succ ..;have hm:n*128^k=n/128*128^(k+1)+n%128*128^k:=by
    rw[aF,Nat.mul_comm (128^k) 128,← Nat.mul_assoc,← Nat.add_mul];congr 1; omega
   have l:(128+n%128)%128=n%128:=by omega
   rw[cq (n/128) (by omega) (k+1) _ rest (by omega) (by omega) (by omega),l];congr 2; omega
theorem fit{k o c:Nat}(h:k≤8)(hm:o*(128^k*128)<18446744073709551616)(U:c<128^k*128):o*(128^k*128)+c<18446744073709551616:=by
 have ai:∃ K,K*(128^k*128)=18446744073709551616:=by
  refine⟨18446744073709551616/(128^k*128),?_⟩;rcases aEF h with l | l | l | l | l | l | l | l | l<;>rw[l]
 obtain⟨K,ai⟩:=ai;rw[← ai] at hm ⊢;generalize 128^k*128=p at *;have I:o<K:=Nat.lt_of_mul_lt_mul_right hm;have R:(o+1)*p≤K*p:=Nat.mul_le_mul_right _ I;rw[Nat.add_mul,Nat.one_mul] at R;omega
theorem aes:∀ (aw:List UInt8) (k acc n:Nat) (rest:List UInt8),k≤9→rdNum aw k acc=.ok (n,rest)→∃ o,n=acc+o*128^k∧o*128^k<18446744073709551616∧(1≤o∨k=0)∧aw=num o++rest
 |[],k,acc,n,rest,aq,h=>by simp[rdNum] at h
 |c::aw,k,acc,n,rest,aq,h=>by
  simp only[rdNum] at h;split at h
  ·cases h
  ·rename_i I;have U:c.toNat<256:=c.toNat_lt;split at h
   ·rename_i R;simp only[Except.ok.injEq,Prod.mk.injEq] at h;obtain⟨rfl,rfl⟩:=h;refine⟨c.toNat,by rw[Nat.mod_eq_of_lt R],?_,by omega,?_⟩
    ·rcases acP aq with l | l | l | l | l | l | l | l | l | ⟨Gz,l⟩<;>rw[l]<;>omega
    ·rw[Le R]; simp
   ·rename_i R;have tZ:k≤8:=by omega
    obtain⟨o,aS,bb,dn,nb⟩:=aes aw (k+1) _ n rest (by omega) h;have aF:(128:Nat)^(k+1)=128^k*128:=Nat.pow_succ ..;have hm:(o*128+c.toNat%128)*128^k=o*128^(k+1)+c.toNat%128*128^k:=by
     rw[aF,Nat.mul_comm (128^k) 128,← Nat.mul_assoc,← Nat.add_mul]
    refine⟨o*128+c.toNat%128,by rw[hm,aS]; omega,?_,by omega,?_⟩
    ·rw[hm,aF];rw[aF] at bb;exact fit tZ bb (by rw[Nat.mul_comm]; exact Nat.mul_lt_mul_of_pos_left (by omega) (Nat.pow_pos (by omega)))
    ·rw[Ld (by omega),nb];have gS:128+(o*128+c.toNat%128)%128=c.toNat:=by omega
     have gu:(o*128+c.toNat%128)/128=o:=by omega
     rw[gS,gu]; simp
theorem aDy:∀ (n k:Nat),k≤9→n*128^k<18446744073709551616→(num n).length+k≤10:=by
 intro n;induction n using Nat.strongRecOn with
 |_ n cq=>
  intro k aq aM;by_cases h:n<128
  ·rw[Le h]; simp; omega
  ·have tZ:k≤8:=by
    rcases Nat.lt_or_ge 8 k with s0 | s0
    ·have:=rz aq aM (by omega); omega
    ·exact s0
   rw[Ld (by omega)];have aF:(128:Nat)^(k+1)=128^k*128:=Nat.pow_succ ..;have hm:n*128^k=n/128*128^(k+1)+n%128*128^k:=by
    rw[aF,Nat.mul_comm (128^k) 128,← Nat.mul_assoc,← Nat.add_mul];congr 1; omega
   have:=cq (n/128) (by omega) (k+1) (by omega) (by omega);simp only[List.length_cons]; omega
def be:Nat→Nat→List UInt8
 |0,_=>[]
 |i+1,n=>UInt8.ofNat (n/256^i%256)::be i n
theorem uZ:∀ i n,(be i n).length=i
 |0,_=>rfl
 |i+1,n=>by simp[be,uZ i n]
def oU:Nat→Nat→List UInt8→Except Int (Nat×List UInt8)
 |0,acc,aw=>.ok (acc,aw)
 |_+1,_,[]=>.error 22
 |i+1,acc,c::aw=>oU i (acc*256+c.toNat) aw
theorem aC5(n i:Nat):n%256^(i+1)=n/256^i%256*256^i+n%256^i:=by
 rw[Nat.pow_succ,Nat.mod_mul,Nat.mul_comm (256^i),Nat.add_comm]
theorem aep:∀ (i acc n:Nat) (rest:List UInt8),oU i acc (be i n++rest)=.ok (acc*256^i+n%256^i,rest)
 |0,acc,n,rest=>by simp[be,oU,Nat.mod_one]
 |i+1,acc,n,rest=>by
  have aT:(UInt8.ofNat (n/256^i%256)).toNat=n/256^i%256:=AQ (by omega);simp only[be,List.cons_append,oU,aT,aep i];rw[aC5,Nat.pow_succ,Nat.mul_comm (256^i) 256,← Nat.mul_assoc,Nat.add_mul];congr 2; omega
theorem XX(q:Nat):∀ (i n D:Nat),i≤D→be i (q*256^D+n)=be i n
 |0,_,_,_=>rfl
 |i+1,n,D,h=>by
  simp only[be];have l:(q*256^D+n)/256^i%256=n/256^i%256:=by
   have aF:(256:Nat)^D=256^i*(256*256^(D-i-1)):=by
    rw[← Nat.mul_assoc,← Nat.pow_succ,← Nat.pow_add]; congr 1; omega
   have ah:0<256^i:=Nat.pow_pos (by omega);rw[aF];have bb:q*(256^i*(256*256^(D-i-1)))+n=n+256^i*(q*256^(D-i-1)*256):=by
    rw[Nat.add_comm]; congr 1;rw[Nat.mul_left_comm,Nat.mul_comm 256,Nat.mul_assoc]
   rw[bb,Nat.add_mul_div_left _ _ ah,Nat.add_mul_mod_self_right]
  rw[l,XX q i n D (by omega)]
theorem aer:∀ (i acc o:Nat) (aw rest:List UInt8),oU i acc aw=.ok (o,rest)→∃ n,n<256^i∧o=acc*256^i+n∧aw=be i n++rest
 |0,acc,o,aw,rest,h=>by
  simp only[oU,Except.ok.injEq,Prod.mk.injEq] at h;exact⟨0,by simp,by simp[h.1],by simp[be,h.2]⟩
 |i+1,acc,o,[],rest,h=>by simp[oU] at h
 |i+1,acc,o,c::aw,rest,h=>by
  have U:c.toNat<256:=c.toNat_lt;obtain⟨n,I,R,aK⟩:=aer i _ o aw rest h;have ah:0<256^i:=Nat.pow_pos (by omega);refine⟨c.toNat*256^i+n,?_,?_,?_⟩
  ·rw[Nat.pow_succ,Nat.mul_comm (256^i)];have:(c.toNat+1)*256^i≤256*256^i:=Nat.mul_le_mul_right _ (by omega);rw[Nat.add_mul] at this; omega
  ·rw[R,Nat.pow_succ,Nat.mul_comm (256^i) 256,← Nat.mul_assoc,Nat.add_mul]; omega
  ·have aS:(c.toNat*256^i+n)/256^i=c.toNat:=by
    rw[Nat.add_comm,Nat.add_mul_div_right _ _ ah,Nat.div_eq_of_lt I]; omega
   simp only[be,aS,XX c.toNat i n i (Nat.le_refl i),List.cons_append,aK,Nat.mod_eq_of_lt U];simp
def uL(i:Int):Nat:=if i<0 then 2*(-(i+1)).toNat+1 else 2*i.toNat
def uK(n:Nat):Int:=if n%2=1 then -((n/2:Nat):Int)-1 else (n/2:Nat)
theorem aJN(i:Int):uK (uL i)=i:=by
 unfold uK uL;split<;>split<;>omega
theorem aJR(n:Nat):uL (uK n)=n:=by
 unfold uK uL;split<;>split<;>omega
theorem MB{i:Int}(ah:-9223372036854775808≤i)(I:i≤9223372036854775807):uL i<18446744073709551616:=by
 unfold uL; split<;>omega
theorem agj{n:Nat}(h:n<18446744073709551616):-9223372036854775808≤uK n∧uK n≤9223372036854775807:=by
 unfold uK; split<;>omega
structure In(v:fu):Prop where
 Am:-9223372036854775808≤v.Kind
 dx:v.Kind≤9223372036854775807
 IC:0≤v.dg
 v2:v.dg<18446744073709551616
 i0:-9223372036854775808≤v.aZ
 i1:v.aZ≤9223372036854775807
 f:v.aW<18446744073709551616
def so(v:fu):Bool:=
 if v.Kind=1 then (v.aZ==0&&v.aW==0)&&v.W==[]
 else if v.Kind=2 then (v.dg==0&&v.aW==0)&&v.W==[]
 else if v.Kind=3 then (v.dg==0&&v.aZ==0)&&v.W==[]
 else if v.Kind=4 then (v.dg==0&&v.aZ==0)&&v.aW==0
 else false
def ka(v:fu):Int:=if so v=false then 21 else if v.W.length>1000 then 24 else 0
def jh(v:fu):List UInt8:=UInt8.ofNat v.Kind.toNat ::
 (if v.Kind=1 then num v.dg.toNat else if v.Kind=2 then num (uL v.aZ) else if v.Kind=3 then be 8 (nc v.aW) else num v.W.length++v.W)
def n2(v:fu):fu:={ v with aW:=nc v.aW }
def iw:List UInt8→Except Int (fu×List UInt8)
 |[]=>.error 22
 |c::aw=>
  if c.toNat=1 then match rdNum aw 0 0 with
   |.error l=>.error l
   |.ok (n,r)=>.ok (⟨1,n,0,0,[]⟩,r)
  else if c.toNat=2 then match rdNum aw 0 0 with
   |.error l=>.error l
   |.ok (n,r)=>.ok (⟨2,0,uK n,0,[]⟩,r)
  else if c.toNat=3 then match oU 8 0 aw with
   |.error l=>.error l
   |.ok (n,r)=>if nc n≠n then .error 25 else .ok (⟨3,0,0,n,[]⟩,r)
  else if c.toNat=4 then match rdNum aw 0 0 with
   |.error l=>.error l
   |.ok (n,r)=>if 1000<n then .error 24 else if r.length<n then .error 22 else .ok (⟨4,0,0,0,r.take n⟩,r.drop n)
  else .error 21
theorem H0{v:fu}(h:ka v=0):(v.Kind=1∧v.aZ=0∧v.aW=0∧v.W=[])∨(v.Kind=2∧v.dg=0∧v.aW=0∧v.W=[])∨(v.Kind=3∧v.dg=0∧v.aZ=0∧v.W=[])∨(v.Kind=4∧v.dg=0∧v.aZ=0∧v.aW=0∧v.W.length≤1000):=by
 unfold ka at h;split at h
 ·simp at h
 ·rename_i aF;split at h
  ·simp at h
  ·rename_i al;unfold so at aF;split at aF
   ·simp at aF; exact .inl ⟨by assumption,aF.1,aF.2.1,aF.2.2⟩
   ·split at aF
    ·simp at aF; exact .inr (.inl ⟨by assumption,aF.1,aF.2.1,aF.2.2⟩)
    ·split at aF
     ·simp at aF; exact .inr (.inr (.inl ⟨by assumption,aF.1,aF.2.1,aF.2.2⟩))
     ·split at aF
      ·simp at aF; exact .inr (.inr (.inr ⟨by assumption,aF.1,aF.2.1,aF.2.2,by omega⟩))
      ·simp at aF
theorem Sx{n:Nat}(h:n<18446744073709551616)(rest:List UInt8):rdNum (num n++rest) 0 0=.ok (n,rest):=by
 have:=aGq n 0 0 rest (by omega) (by simpa using h) (.inr rfl);simpa using this
theorem amr{v:fu}(ay:In v)(h:ka v=0)(rest:List UInt8):iw (jh v++rest)=.ok (n2 v,rest):=by
 obtain⟨k,u,i,f,s⟩:=v;rcases H0 h with ⟨I,R,aK,bp⟩ | ⟨I,R,aK,bp⟩ | ⟨I,R,aK,bp⟩ | ⟨I,R,aK,bp,dz⟩
 all_goals simp only at I R aK bp
 ·subst I; subst R; subst aK; subst bp;have hu:=ay.v2; have aaI:=ay.IC;simp only at hu aaI;have l:rdNum (num u.toNat++rest) 0 0=.ok (u.toNat,rest):=Sx (by omega) rest;have bb:((u.toNat:Nat):Int)=u:=by omega
  simp[jh,iw,l,n2,zY,bb]
 ·subst I; subst R; subst aK; subst bp;have l:rdNum (num (uL i)++rest) 0 0=.ok (uL i,rest):=Sx (MB ay.i0 ay.i1) rest;simp[jh,iw,l,n2,zY,aJN]
 ·subst I; subst R; subst aK; subst bp;have l:oU 8 0 (be 8 (nc f)++rest)=.ok (nc f,rest):=by
   have:=Zo ay.f;rw[aep,Nat.mod_eq_of_lt (by simpa using this)]; simp
  simp[jh,iw,l,n2,aol]
 ·subst I; subst R; subst aK; subst bp;simp only at dz;have l:rdNum (num s.length++(s++rest)) 0 0=.ok (s.length,s++rest):=Sx (by omega) _;simp[jh,iw,l,n2,zY];rw[if_neg (by omega),if_neg (by omega)]
theorem Cs{n:Nat}(h:n<18446744073709551616):(num n).length≤10:=by
 have:=aDy n 0 (by omega) (by simpa using h); omega
theorem LP{aw rest:List UInt8}{n:Nat}(h:rdNum aw 0 0=.ok (n,rest)):n<18446744073709551616∧aw=num n++rest:=by
 obtain⟨o,I,R,_,aK⟩:=aes aw 0 0 n rest (by omega) h;have:n=o:=by simpa using I
 subst this;exact⟨by simpa using R,aK⟩
theorem Yp{aw rest:List UInt8}{v:fu}(h:iw aw=.ok (v,rest)):In v∧ka v=0∧n2 v=v∧aw=jh v++rest:=by
 cases aw with
 |nil=>simp[iw] at h
 |cons c aw=>
  simp only[iw] at h;split at h
  ·rename_i U;split at h
   ·cases h
   ·rename_i n r aa;simp only[Except.ok.injEq,Prod.mk.injEq] at h;obtain⟨rfl,rfl⟩:=h;obtain⟨I,rfl⟩:=LP aa;refine⟨⟨by simp,by simp,by simp,by simp only; omega,by simp,by simp,by simp⟩,by simp[ka,so],by simp[n2,zY],?_⟩;obtain rfl:c=1:=UInt8.toNat_inj.1 U;simp[jh]
  ·split at h
   ·rename_i U;split at h
    ·cases h
    ·rename_i n r aa;simp only[Except.ok.injEq,Prod.mk.injEq] at h;obtain⟨rfl,rfl⟩:=h;obtain⟨I,rfl⟩:=LP aa;refine⟨⟨by simp,by simp,by simp,by simp,(agj I).1,(agj I).2,by simp⟩,by simp[ka,so],by simp[n2,zY],?_⟩;obtain rfl:c=2:=UInt8.toNat_inj.1 U;simp[jh,aJR]
   ·split at h
    ·rename_i U;split at h
     ·cases h
     ·rename_i n r aa;split at h
      ·cases h
      ·rename_i am;simp only[Except.ok.injEq,Prod.mk.injEq] at h;obtain⟨rfl,rfl⟩:=h;obtain⟨o,I,R,rfl⟩:=aer 8 0 _ _ _ aa;have:n=o:=by simpa using R
       subst this;have am:nc n=n:=by simpa using am
       refine⟨⟨by simp,by simp,by simp,by simp,by simp,by simp,by simpa using I⟩,by simp[ka,so],by simp[n2,am],?_⟩;obtain rfl:c=3:=UInt8.toNat_inj.1 U;simp[jh,am]
    ·split at h
     ·rename_i U;split at h
      ·cases h
      ·rename_i n r aa;split at h
       ·cases h
       ·split at h
        ·cases h
        ·rename_i dz iG;simp only[Except.ok.injEq,Prod.mk.injEq] at h;obtain⟨rfl,rfl⟩:=h;obtain⟨I,rfl⟩:=LP aa;have al:(r.take n).length=n:=by rw[List.length_take]; omega
         refine⟨⟨by simp,by simp,by simp,by simp,by simp,by simp,by simp⟩,?_,by simp[n2,zY],?_⟩
         ·simp only[ka,so]; simp; omega
         ·obtain rfl:c=4:=UInt8.toNat_inj.1 U;simp[jh]; rw[Nat.min_eq_left (by omega)]
     ·cases h
theorem amR{v:fu}(ay:In v)(h:ka v=0):(jh v).length≤1011:=by
 rcases H0 h with ⟨I,_⟩ | ⟨I,_⟩ | ⟨I,_⟩ | ⟨I,_,_,_,dz⟩
 ·have:=Cs (n:=v.dg.toNat) (by have:=ay.v2; have:=ay.IC; omega);simp[jh,I]; omega
 ·have:=Cs (MB ay.i0 ay.i1);simp[jh,I]; omega
 ·simp[jh,I,uZ]
 ·have:=Cs (n:=v.W.length) (by omega);simp[jh,I]; omega
section
variable {A w:World} {m bX:List bE}
abbrev hH:=gy
theorem Rd:∀ x,(hH.cells x).length=5:=fun _=>rfl
theorem RR(d:Ieee.Datum):d.order d=if d.isNaN then none else some .eq:=by
 have bx:∀ x:Int,compare x x=.eq:=fun x=>Std.ReflCmp.compare_self;have bK:∀ x:Nat,compare x x=.eq:=fun x=>Std.ReflCmp.compare_self;cases d with
 |nan s t=>rfl
 |infinity s=>simp only[Ieee.Datum.order,bK]; rfl
 |number s o i=>simp only[Ieee.Datum.order,bx]; rfl
theorem aDa{f:Nat}:ga .neq f f=isNaN f:=by
 have aH:FloatKind.f64.format.signWeight=9223372036854775808:=by decide
 have aa:FloatKind.f64.format.infRung=9218868437227405312:=by decide
 have ao:FloatKind.f64.format.binade=4503599627370496:=by decide
 have l:2*f%18446744073709551616=2*(f%9223372036854775808):=by omega
 unfold ga isNaN;simp only[Ieee.Format.order,RR];rw[l];have R:(FloatKind.f64.format.read f).isNaN=decide (18437736874454810624<2*(f%9223372036854775808)):=by
  simp only[Ieee.Format.read,aH,aa,ao];by_cases I:f%9223372036854775808<4503599627370496
  ·rw[if_pos I];show false=_
   symm; rw[decide_eq_false_iff_not]; omega
  ·rw[if_neg I];by_cases R:f%9223372036854775808<9218868437227405312
   ·rw[if_pos R];show false=_
    symm; rw[decide_eq_false_iff_not]; omega
   ·rw[if_neg R];by_cases aK:f%9223372036854775808=9218868437227405312
    ·rw[if_pos aK];show false=_
     symm; rw[decide_eq_false_iff_not]; omega
    ·rw[if_neg aK];show true=_
     symm; rw[decide_eq_true_iff]; omega
 rw[R];cases decide (18437736874454810624<2*(f%9223372036854775808))<;>rfl
theorem inf_spec{f:Nat}{s:Int}(H:E A m w):M Pg 138 [.float .f64 f,.int .i64 s] bo w fun _ J=>E A m J:=by
 refine Uq ?_;unfold MQ C_;split
 ·refine U3 ?_;unfold M5;exact H
 ·split
  ·exact H
  ·exact H
theorem BE{f:Nat}(H:E A m w):M Pg 87 [.float .f64 f] (B .i64) w fun r J=>(r==0)=isNaN f∧E A m J:=by
 refine WZ ?_;unfold NV;rw[aDa];split
 ·rename_i h; exact⟨by rw[h]; rfl,H⟩
 ·rename_i h;have h:isNaN f=false:=by simpa using h
  rw[h];split
  ·exact⟨rfl,H⟩
  ·split
   ·exact⟨rfl,H⟩
   ·refine ap (inf_spec H) ?_;intro r w H;split
    ·exact⟨rfl,H⟩
    ·refine ap (inf_spec H) ?_;intro r w H;split
     ·exact⟨rfl,H⟩
     ·split
      ·exact⟨rfl,H⟩
      ·exact⟨rfl,H⟩
theorem XZ{f:Nat}(H:E A m w):M Pg 229 [.float .f64 f] (B .u64) w fun r J=>r=(nc f:Nat)∧E A m J:=by
 refine ah9 ?_;unfold VA;refine ap (BE H) ?_;rintro r w ⟨aa,H⟩;rw[aa];unfold nc;split
 ·refine aiv ?_;unfold VV;rw[if_pos (by rfl)];exact⟨rfl,H⟩
 ·exact⟨rfl,H⟩
theorem aFb{v:fu}(H:E A m w):M Pg 235 [hH.enc v] bo w fun r J=>r=so v∧E A m J:=by
 refine aie ?_;unfold VF;refine bR H fun e w H=>?_;refine dy H fun w H=>?_;refine ak (x:=v.dg) 0 H rfl rfl rfl ?_;refine ak (x:=v.aZ) 0 H rfl rfl rfl ?_;refine ak (x:=v.aW) 0 H rfl rfl rfl ?_;refine ak (x:=v.W) 0 H rfl rfl rfl ?_;refine ak (x:=v.Kind) 0 H rfl rfl rfl ?_;have am:((v.aW:Int)==0)=(v.aW==0):=by rw[Bool.eq_iff_iff]; simp
 rw[am];have H:=H.drop;by_cases I:v.Kind=1
 ·simp only[I,beq_self_eq_true,if_true,so]; exact⟨trivial,H⟩
 ·have aS:(v.Kind==1)=false:=by simpa using I
  by_cases R:v.Kind=2
  ·simp only[R,so,show ((2:Int)==1)=false from rfl,show ¬ (2:Int)=1 from by decide,beq_self_eq_true,if_true,if_false,Bool.false_eq_true]; exact⟨trivial,H⟩
  ·have bb:(v.Kind==2)=false:=by simpa using R
   by_cases aK:v.Kind=3
   ·simp only[aK,so,show ((3:Int)==1)=false from rfl,show ((3:Int)==2)=false from rfl,show ¬ (3:Int)=1 from by decide,show ¬ (3:Int)=2 from by decide,beq_self_eq_true,if_true,if_false,Bool.false_eq_true]; exact⟨trivial,H⟩
   ·have dn:(v.Kind==3)=false:=by simpa using aK
    by_cases bp:v.Kind=4
    ·simp only[bp,so,show ((4:Int)==1)=false from rfl,show ((4:Int)==2)=false from rfl,show ((4:Int)==3)=false from rfl,show ¬ (4:Int)=1 from by decide,show ¬ (4:Int)=2 from by decide,show ¬ (4:Int)=3 from by decide,beq_self_eq_true,if_true,if_false,Bool.false_eq_true]; exact⟨trivial,H⟩
    ·have nb:(v.Kind==4)=false:=by simpa using bp
     simp only[aS,bb,dn,nb,I,R,aK,bp,so,if_false,Bool.false_eq_true]; exact⟨trivial,H⟩
theorem aIM{v:fu}(H:E A m w):M Pg 198 [hH.enc v] (B .i64) w fun r J=>r=ka v∧E A m J:=by
 refine ahN ?_;unfold Ve;refine bR H fun e w H=>?_;refine ez (x:=v) 0 H rfl ?_;refine ap (aFb H) ?_;rintro r w ⟨rfl,H⟩;unfold ka;split
 ·rename_i h; rw[if_pos (by simpa using h)]; exact⟨rfl,H.drop⟩
 ·rename_i h;rw[if_neg (by simpa using h)];refine ak (x:=v.W) 0 H rfl rfl rfl ?_;split
  ·rename_i h; rw[if_pos (by simp at h; omega)]; exact⟨rfl,H.drop⟩
  ·rename_i h; rw[if_neg (by simp at h; omega)]; exact⟨rfl,H.drop⟩
theorem E8{n:Int}{o:Nat}(h:n=o):IntKind.u8.wrap n=((UInt8.ofNat o).toNat:Int):=by rw[Mt,h]; simp
theorem Rz{n:Nat}{s:af}{xs:List Int}(aM:n<18446744073709551616)(ao:xs.length≤100000000)(i:Nat)(H:E A m w)(ay:front i m=row (B .u8) 5 1 s xs::bX) :
  M Pg 236 [X.enc s,.int .u64 n] X w fun r J=>E A (row (B .u8) 5 1 r (xs++aV (num n))::bX) J:=by
 have H:E A (row (B .u8) 5 1 s xs::bX) w:=ay▸H.front i;refine aif ?_;unfold VG;refine ia (fun p w=>∃ (o:Nat) (gX:List UInt8),p.2=o∧o<18446744073709551616∧o≤n∧num n=gX++num o∧E A (row (B .u8) 5 1 p.1 (xs++aV gX)::bX) w) (fun p=>p.2.toNat)
  ⟨n,[],rfl,aM,Nat.le_refl n,rfl,by simpa[aV] using H⟩ ?_
 clear H ay;rintro⟨e,o⟩ w ⟨o,gX,rfl,hm,aKx,he,H⟩ ab cg;have al:gX.length≤10:=by
  have:=congrArg List.length he;rw[List.length_append] at this;have:=Cs aM;omega
 unfold Nk;split
 ·rename_i U;have U:128≤o:=by simp at U; omega
  have aS:bits .or .u8 (IntKind.u8.wrap (o:Int)) 128=((UInt8.ofNat (128+o%128)).toNat:Int):=by
   rw[Mt,aEx (by omega) (by omega),AQ (by omega)]; omega
  simp only[aS];refine nF (fun _=>rfl) 0 H rfl (by simp[gI]; omega) fun r w H=>?_;refine sC (by omega) ?_;have bb:Int.fdiv (o:Int) (2^(min (Int.toNat 7) IntKind.u64.bits))=((o/128:Nat):Int):=by
   have:min (Int.toNat 7) IntKind.u64.bits=7:=rfl;rw[this,Int.fdiv_eq_ediv_of_nonneg _ (by decide)];omega
  rw[bb];refine cg _ _ ⟨o/128,gX++[UInt8.ofNat (128+o%128)],rfl,by omega,by omega,by rw[he,Ld U]; simp,?_⟩ (by simp only; omega);rw[xB,← List.append_assoc]; exact H
 ·rename_i U;have U:o<128:=by simp at U; omega
  rw[E8 rfl];refine nF (fun _=>rfl) 0 H rfl (by simp[gI]; omega) fun r w H=>?_;rw[he,Le U,xB,← List.append_assoc]; exact H
end
def h7(a0:List fu):List UInt8:=a0.flatMap jh
def bad:List fu→Int
 |[]=>0
 |v::a0=>if ka v≠0 then ka v else bad a0
def y9(a0:List fu):Int:=if 1000<a0.length then 20 else bad a0
theorem amV(m o:List fu):h7 (m++o)=h7 m++h7 o:=by simp[h7]
theorem OZ:∀ {a0:List fu},(∀ v∈a0,In v)→(∀ v∈a0,ka v=0)→(h7 a0).length≤1011*a0.length
 |[],_,_=>by simp[h7]
 |v::a0,ay,h=>by
  have I:=amR (ay v (by simp)) (h v (by simp));have R:=OZ (a0:=a0) (fun x F=>ay x (by simp[F])) (fun x F=>h x (by simp[F]));simp only[h7,List.flatMap_cons,List.length_append,List.length_cons] at *;omega
theorem Gq{m o:List fu}(h:∀ v∈m,ka v=0):bad (m++o)=bad o:=by
 induction m with
 |nil=>rfl
 |cons v m cq=>
  have I:=h v (by simp);simp only[List.cons_append,bad,I];rw[if_neg (by simp)];exact cq fun x F=>h x (by simp[F])
theorem OE{a0:List fu}(h:∀ v∈a0,ka v=0):bad a0=0:=by
 have:=Gq (m:=a0) (o:=[]) h;rw[List.append_nil] at this;exact this
theorem GN(n o:Nat):Int.fdiv (n:Int) (2^o)=((n/2^o:Nat):Int):=by
 rw[Int.fdiv_eq_ediv_of_nonneg _ (by exact_mod_cast Nat.zero_le _)]; push_cast; rfl
section
variable {A w:World} {m bX:List bE}
theorem aJQ{x:Int}(ah:-9223372036854775808≤x)(I:x≤9223372036854775807) :
  bits .xor .u64 (IntKind.u64.wrap ((IntKind.u64.wrap x)*2^(min ((1:Int)).toNat IntKind.u64.bits))) (IntKind.u64.wrap (Int.fdiv x (2^(min ((63:Int)).toNat IntKind.i64.bits))))=((uL x:Nat):Int):=by
 have hp:min ((1:Int)).toNat IntKind.u64.bits=1:=rfl;have j_:min ((63:Int)).toNat IntKind.i64.bits=63:=rfl;rw[hp,j_,Int.fdiv_eq_ediv_of_nonneg _ (by decide),lP,lP,lP];unfold uL;by_cases h:x<0
 ·rw[if_pos h];have l:x/2^63%18446744073709551616=18446744073709551615:=by omega
  rw[l,agd (by omega) (by omega)];omega
 ·rw[if_neg h];have l:x/2^63%18446744073709551616=0:=by omega
  rw[l,aJs (by omega) (by omega)];omega
theorem CA{v:fu}{s:af}{xs:List Int}(a_:In v)(aL:ka v=0)(ao:xs.length≤90000000)(i:Nat)(H:E A m w)(ay:front i m=row (B .u8) 5 1 s xs::bX) :
  M Pg 199 [X.enc s,hH.enc v] X w fun r J=>E A (row (B .u8) 5 1 r (xs++aV (jh v))::bX) J:=by
 have H:E A (row (B .u8) 5 1 s xs::bX) w:=ay▸H.front i;clear ay;have aq:=H0 aL;have mu:1≤v.Kind∧v.Kind≤4:=by omega
 refine ahO ?_;unfold Vf;refine bR H fun e w H=>?_;refine ak (x:=v.Kind) 0 H rfl rfl rfl ?_;have hU:IntKind.u8.wrap v.Kind=((UInt8.ofNat v.Kind.toNat).toNat:Int):=E8 (by omega);rw[hU];refine nF (fun _=>rfl) 1 H rfl (by simp; omega) fun r w H=>?_;refine ak (x:=v.Kind) 1 H rfl rfl rfl ?_;have hb:E A (row (B .u8) 5 1 r (xs++aV [UInt8.ofNat v.Kind.toNat])::aJ e (hH.cells v) 197::bX) w:=H;clear H hU;have G0:∀ (q:af) (w:World) (gX:List UInt8),jh v=UInt8.ofNat v.Kind.toNat::gX→∀ {m:List bE},E A (row (B .u8) 5 1 q (xs++aV [UInt8.ofNat v.Kind.toNat]++aV gX)::m) w→E A (row (B .u8) 5 1 q (xs++aV (jh v))::m) w:=by
  intro q w gX he m H;rw[he];rw[List.append_assoc,← xB] at H;exact H
 have Aj:(xs++aV [UInt8.ofNat v.Kind.toNat]).length≤100000000:=by simp[gI]; omega
 split
 ·rename_i h;have h:v.Kind=1:=by simpa using h
  refine ak (x:=v.dg) 1 hb rfl rfl rfl ?_;have l:v.dg=((v.dg.toNat:Nat):Int):=by have:=a_.IC; omega
  rw[l];refine ap (Rz (by have:=a_.v2; omega) Aj 0 hb rfl) ?_;intro q w H;exact G0 q w (num v.dg.toNat) (by simp[jh,h]) (H.front 1).drop |> fun H=>H
 ·rename_i h;have I:¬ v.Kind=1:=by simpa using h
  split
  ·rename_i h;have h:v.Kind=2:=by simpa using h
   refine ak (x:=v.aZ) 1 hb rfl rfl rfl ?_;refine sC (by omega) ?_;refine ak (x:=v.aZ) 1 hb rfl rfl rfl ?_;refine sC (by omega) ?_;rw[aJQ a_.i0 a_.i1];refine ap (Rz (MB a_.i0 a_.i1) Aj 0 hb rfl) ?_;intro q w H;have H:=G0 q w (num (uL v.aZ)) (by simp[jh,h]) H;exact ((H.front 1).drop)
  ·rename_i h;have R:¬ v.Kind=2:=by simpa using h
   split
   ·rename_i h;have h:v.Kind=3:=by simpa using h
    refine ak (x:=v.aW) 1 hb rfl rfl rfl ?_;refine ap (XZ hb) ?_;rintro q w ⟨rfl,H⟩;have aM:nc v.aW<18446744073709551616:=Zo a_.f;have aaf:∀ (q:af) (w:World) {m:List bE},E A (row (B .u8) 5 1 q (xs++aV [UInt8.ofNat v.Kind.toNat]++aV (be 8 (nc v.aW)))::m) w→E A (row (B .u8) 5 1 q (xs++aV (jh v))::m) w:=fun q w=>G0 q w (be 8 (nc v.aW)) (by simp[jh,h]);clear G0 hb;generalize nc v.aW=n at aM aaf;refine ia (fun p w=>∃ (D:Nat) (gX:List UInt8),D≤8∧p.2=56-8*(D:Int)∧gX.length=D∧be 8 n=gX++be (8-D) n∧E A (row (B .u8) 5 1 p.1 (xs++aV [UInt8.ofNat v.Kind.toNat]++aV gX)::aJ e (hH.cells v) 197::bX) w) (fun p=>(p.2+8).toNat)
     ⟨0,[],by omega,by omega,rfl,rfl,by simpa[aV] using H⟩ ?_
    clear H;rintro⟨q,i⟩ w ⟨D,gX,bT,ay,asB,he,H⟩ ab cg;simp only at ay H;subst ay;unfold Nd;split
    ·rename_i U;have U:D≤7:=by simp at U; omega
     refine sC (by rw[lP]; omega) ?_;have hp:min (IntKind.u64.wrap (56-8*(D:Int))).toNat IntKind.u64.bits=8*(7-D):=by
      have:IntKind.u64.bits=64:=rfl;rw[lP,this]; omega
     have c6:(2:Nat)^(8*(7-D))=256^(7-D):=by rw[Nat.pow_mul]
     have aS:IntKind.u8.wrap (Int.fdiv (n:Int) (2^(min (IntKind.u64.wrap (56-8*(D:Int))).toNat IntKind.u64.bits)))=((UInt8.ofNat (n/256^(7-D)%256)).toNat:Int):=by
      rw[hp,GN,c6,Mt]; simp
     rw[aS];refine nF (fun _=>rfl) 0 H rfl (by simp[gI]; omega) fun r w H=>?_;refine cg _ _ ⟨D+1,gX++[UInt8.ofNat (n/256^(7-D)%256)],by omega,by simp only; rw[qS]; omega,by simp[asB],?_,?_⟩ (by simp only; rw[qS]; omega)
     ·rw[he,show 8-D=(7-D)+1 from by omega,show 8-(D+1)=7-D from by omega];simp[be]
     ·rw[xB,← List.append_assoc]; exact H
    ·rename_i U;have U:D=8:=by simp at U; omega
     subst U;have l:be 8 n=gX:=by rw[he]; simp[be]
     rw[← l] at H;have H:=aaf q w H;exact ((H.front 1).drop)
   ·rename_i h;have aK:¬ v.Kind=3:=by simpa using h
    have bp:v.Kind=4:=by omega
    have al:v.W.length≤1000:=by
     rcases aq with h | h | h | h
     ·exact absurd h.1 I
     ·exact absurd h.1 R
     ·exact absurd h.1 aK
     ·exact h.2.2.2.2
    refine dy hb fun w H=>?_;refine ak (x:=v.W) 1 H rfl rfl rfl ?_;refine ak (x:=v.W) 1 H rfl rfl rfl ?_;have l:IntKind.u64.wrap (v.W.length:Int)=((v.W.length:Nat):Int):=by rw[lP]; omega
    rw[l];refine ap (Rz (by omega) Aj 0 H rfl) ?_;intro q w H;refine⟨bO qN (H.front 1) rfl rfl,bO qN (H.front 1) rfl rfl,?_⟩;have aM:=Cs (n:=v.W.length) (by omega);refine akw 0 H rfl (by simp[gI]; omega) fun q w H=>?_;refine⟨bO qN (H.front 1) rfl rfl,?_⟩;rw[List.append_assoc,← xB] at H;have H:=G0 q w (num v.W.length++v.W) (by simp[jh,bp]) H;exact ((H.front 1).drop)
theorem Lu{s:af}{a0:List fu}(a_:∀ v∈a0,In v)(aM:a0.length≤9000000000)(k:dr 5 m hH s a0)(H:E A m w) :
  M Pg 161 [X.enc s] (bB X (B .i64)) w fun r J=>r.2=y9 a0∧(y9 a0=0→E A (row (B .u8) 5 1 r.1 (aV (h7 a0))::m) J)∧(y9 a0≠0→r.1=fN)∧E A m J:=by
 have aH:=k.len H;refine ahi ?_;unfold UM;rw[aH];split
 ·rename_i U;have U:1000<a0.length:=by simp at U; omega
  have l:y9 a0=20:=if_pos U;refine⟨l.symm,?_,fun _=>rfl,H⟩;intro h; rw[l] at h; cases h
 ·rename_i U;have U:a0.length≤1000:=by simp at U; omega
  have l:y9 a0=bad a0:=if_neg (by omega);rw[l];refine ia (fun p w=>0≤p.2∧p.2≤a0.length∧(∀ v∈a0.take p.2.toNat,ka v=0)∧E A (row (B .u8) 5 1 p.1 (aV (h7 (a0.take p.2.toNat)))::m) w) (fun p=>(a0.length-p.2).toNat)
   ⟨Int.le_refl 0,by simp only; omega,by simp,k4 (B .u8) 5 1 H⟩ ?_
  clear H;rintro⟨e,i⟩ w ⟨ah,I,dA,H⟩ ab cg;simp only at ah I dA H;unfold M1;rw[aH];split
  ·rename_i ay;have ay:i<a0.length:=by simpa using ay
   have F:a0[i.toNat]?=some a0[i.toNat]:=List.getElem?_eq_getElem (by omega);have hm:a0[i.toNat]∈a0:=List.getElem_mem _;have aT:a0.take (i.toNat+1)=a0.take i.toNat++[a0[i.toNat]]:=by rw[List.take_succ_eq_append_getElem (by omega)]
   have ag:a0=a0.take i.toNat++a0[i.toNat]::a0.drop (i.toNat+1):=by
    conv=>lhs; rw[← List.take_append_drop i.toNat a0]
    rw[List.drop_eq_getElem_cons (by omega)]
   have Z2:ka a0[i.toNat]≠0→bad a0=ka a0[i.toNat]:=by
    intro h;have BV:=congrArg bad ag;rw[BV,Gq dA];simp only[bad];exact if_pos h
   generalize a0[i.toNat]=v at F hm aT Z2;have apI:=OZ (a0:=a0.take i.toNat) (fun x F=>a_ x (List.mem_of_mem_take F)) dA;rw[List.length_take] at apI;obtain⟨a,Y⟩:=k.tail.iH (i:=i) H ah ay;refine aR a Y ?_;refine aR v (k.tail.rd Y F H) ?_;refine bR H fun zR w H=>?_;refine de (x:=tN) (S:=v) Rd 0 H rfl fun w H=>?_;refine ez (x:=v) 0 H rfl ?_;refine ap (aIM H) ?_;rintro r w ⟨rfl,H⟩;split
   ·rename_i d_;have d_:ka v≠0:=by simpa using d_
    have ao:=Z2 d_;exact⟨ao.symm,fun h=>absurd (ao▸h) d_,fun _=>rfl,H.drop.drop⟩
   ·rename_i d_;have aL:ka v=0:=by simpa using d_
    refine ez (x:=v) 0 H rfl ?_;refine ap (CA (a_ v hm) aL (by rw[gI]; omega) 1 H rfl) ?_;intro q w H;have aS:IntKind.i64.wrap (i+1)=i+1:=wrap_i64 (by omega) (by omega);rw[aS];have bb:(i+1).toNat=i.toNat+1:=by omega
    refine cg _ _ ⟨by simp only; omega,by simp only; omega,?_,?_⟩ (by simp only; omega)
    ·simp only[bb,aT];intro x F;rcases List.mem_append.1 F with F | F
     ·exact dA x F
     ·rw[List.mem_singleton.1 F]; exact aL
    ·simp only[bb,aT];rw[amV,xB];have dn:h7 [v]=jh v:=by simp[h7]
     rw[dn];exact ((H.front 1).drop)
  ·rename_i ay;have ay:i=a0.length:=by simp at ay; omega
   subst ay;have dn:a0.take ((a0.length:Int)).toNat=a0:=by simp
   rw[dn] at dA H;have ao:=OE dA;exact⟨ao.symm,fun _=>H,fun h=>absurd ao h,H.drop⟩
end
section
variable {Z:Type} {T:bz Z} {A w:World} {m bX:List bE}
theorem ajZ{ar:Nat}{s r:af}{xs:List Z}{i h o:Int}(al:∀ x,(T.cells x).length=ar)(aH:Sub s ar i h o r)(cK:h≤xs.length)(lD:∀ a,s.a=some a→xs≠[]→a.spot=none)(k:lu T w s xs):lu T w r ((xs.take h.toNat).drop i.toNat):=by
 obtain⟨ah,I,R,aK,rfl⟩:=aH;obtain⟨dx,ef⟩:=k;have hi:((xs.take h.toNat).drop i.toNat).length=h.toNat-i.toNat:=by rw[List.length_drop,List.length_take]; omega
 refine⟨hi,?_⟩;simp only;obtain⟨a,n,c⟩:=s;cases a with
 |none=>
  have:xs=[]:=ef;subst this;split<;>simp[Gb]
 |some a=>
  split
  ·rename_i l;have:(xs.take h.toNat).drop i.toNat=[]:=List.eq_nil_of_length_eq_zero (by rw[hi]; omega);rw[this];intro D v aL; simp at aL
  ·intro D v aL;have d_:xs≠[]:=by
    rintro rfl;simp at aL
   have bb:xs.flatMap T.cells=(xs.take i.toNat).flatMap T.cells++(((xs.take h.toNat).drop i.toNat).flatMap T.cells++(xs.drop h.toNat).flatMap T.cells):=by
    have dn:xs.take i.toNat=(xs.take h.toNat).take i.toNat:=by rw[List.take_take,Nat.min_eq_left (by omega)]
    rw[dn,← List.append_assoc,← List.flatMap_append,List.take_append_drop,← List.flatMap_append,List.take_append_drop]
   have nb:((xs.take i.toNat).flatMap T.cells).length=i.toNat*ar:=by rw[n_ al,List.length_take]; congr 1; omega
   rw[add_add (lD a rfl d_)];refine (ef:o6 w a _) (i.toNat*ar+D) v ?_;rw[bb,← nb,List.getElem?_append_right (by omega),Nat.add_sub_cancel_left];rw[List.getElem?_append_left (List.getElem?_eq_some_iff.1 aL).1]; exact aL
theorem _root_.Go.Proofs.YthaobmpdjcoheaaGreat.bj.dr.spot{ar:Nat}{s:af}{xs:List Z}(k:dr ar m T s xs)(H:E A m w):∀ a,s.a=some a→xs≠[]→a.spot=none:=by
 intro a Y d_;have al:0<xs.length:=by
  cases xs with
  |nil=>exact absurd rfl d_
  |cons=>simp
 obtain⟨e,ao,lD,_⟩:=(k A [] w H).2.2 0 (by omega) (by omega);obtain⟨c,U,_,_,rfl⟩:=ao;rw[Y] at U; injection U with U; subst U
 have l:(0:Int).toNat*ar=0:=by simp
 rw[l] at lD;simpa[Addr.add] using lD
theorem _root_.Go.Proofs.YthaobmpdjcoheaaGreat.bj.dr.sub{ar:Nat}{s r:af}{xs:List Z}{i h o:Int}(k:dr ar m T s xs)(al:∀ x,(T.cells x).length=ar)(aH:Sub s ar i h o r)(cK:h≤xs.length)(H:E A m w):lu T w r ((xs.take h.toNat).drop i.toNat):=
 ajZ al aH cK (k.spot H) (k.CM H)
end
def np(e:Nat)(s:af)(at_:Nat):bE:=aJ e [X.enc s,.int .i64 at_] 257
def x7(l:Int):eF:=eF.mk 259 (j4.enc ⟨l⟩)
section
variable {A w:World} {m bX:List bE} {e:Nat} {s:af} {aw:List UInt8}
theorem drop_cons{rest:List UInt8}{a:Nat}{c:UInt8}(h:aw.drop a=c::rest):a<aw.length∧aw[a]?=some c∧aw.drop (a+1)=rest:=by
 have al:a<aw.length:=by
  rcases Nat.lt_or_ge a aw.length with fG | fG
  ·exact fG
  ·rw[List.drop_eq_nil_of_le fG] at h; cases h
 refine⟨al,?_,?_⟩
 ·have:=congrArg (fun m=>m[0]?) h;simpa using this
 ·have:=congrArg (List.drop 1) h;simpa[List.drop_drop] using this
theorem HR{eG:eF→World→Prop}{ab:Int→World→Prop}{a:Nat}{rest:List UInt8}(aM:aw.length≤9223372036854775806)(k:dr 1 m (B .u8) s (aV aw))(Y:a≤aw.length)(ag:aw.drop a=rest)(H:E A (np e s a::m) w)
  (aF:rest=[]→∀ J,E A (np e s a::m) J→eG (x7 22) J)
  (aq:∀ c r J,rest=c::r→a+1≤aw.length→aw.drop (a+1)=r→E A (np e s (a+1)::m) J→ab (c.toNat:Int) J) :
  n3 Pg 186 [.pointer (some ⟨e,0,none⟩)] (B .u8) w eG ab:=by
 have aH:=k.tail.len H;rw[gI] at aH;refine ahE ?_;unfold M6;refine dy H fun w H=>?_;refine ch rfl ?_;refine ak (x:=(a:Int)) 0 H rfl rfl rfl ?_;refine ak (x:=s) 0 H rfl rfl rfl ?_;rw[aH];cases rest with
 |nil=>
  have al:aw.length≤a:=by
   have:=congrArg List.length ag;simp at this; omega
  rw[if_pos (by simp; omega)];exact aF rfl _ H
 |cons c r=>
  obtain⟨I,R,aK⟩:=drop_cons ag;rw[if_neg (by simp; omega)];refine ak (x:=(a:Int)) 0 H rfl rfl rfl ?_;have aS:IntKind.i64.wrap ((a:Int)+1)=((a+1:Nat):Int):=by rw[qS]; omega
  rw[aS];refine dK (x:=((a+1:Nat):Int)) 0 H rfl rfl (Nat.le_of_ble_eq_true rfl) fun w H=>?_;refine dy H fun w H=>?_;refine ak (x:=s) 0 H rfl rfl rfl ?_;refine ak (x:=((a+1:Nat):Int)) 0 H rfl rfl rfl ?_;have bb:IntKind.i64.wrap (((a+1:Nat):Int)-1)=(a:Int):=by rw[qS]; omega
  rw[bb];obtain⟨x,F⟩:=k.tail.iH (i:=(a:Int)) H (by omega) (by rw[gI]; omega);refine aR x F ?_;refine aR (c.toNat:Int) (k.tail.rd F (by simp[aV,R]) H) ?_;exact aq c r _ rfl (by omega) aK H
theorem RA{eG:eF→World→Prop}{ab:Int→World→Prop}{a:Nat}{rest:List UInt8}(aM:aw.length≤9223372036854775806)(k:dr 1 m (B .u8) s (aV aw))(Y:a≤aw.length)(ag:aw.drop a=rest)(H:E A (np e s a::m) w)
  (aF:∀ l cv J,rdNum rest 0 0=.error l→E A (np e s cv::m) J→eG (x7 l) J)
  (aq:∀ n r cv J,rdNum rest 0 0=.ok (n,r)→cv≤aw.length→aw.drop cv=r→E A (np e s cv::m) J→ab ((n:Nat):Int) J) :
  n3 Pg 187 [.pointer (some ⟨e,0,none⟩)] (B .u64) w eG ab:=by
 refine ahF ?_;unfold M7;refine ia (fun p w=>∃ (D acc cv:Nat) (r:List UInt8),D≤9∧p.1=(acc:Int)∧p.2=((7*D:Nat):Int)∧acc<2^(7*D)∧cv≤aw.length∧aw.drop cv=r∧rdNum rest 0 0=rdNum r D acc∧E A (np e s cv::m) w) (fun p=>(70-p.2).toNat)
  ⟨0,0,a,rest,by omega,rfl,rfl,by simp,Y,ag,rfl,H⟩ ?_
 clear H Y ag;rintro⟨o,av⟩ w ⟨D,acc,cv,r,bT,hm,ao,PJ,Y,ag,he,H⟩ K' cg;simp only at hm ao;subst hm; subst ao;unfold M8;refine HR aM k Y ag H ?_ ?_
 ·rintro rfl w H;exact aF 22 _ _ (by rw[he]; rfl) H
 ·rintro c oT w rfl Ea BU H;have U:c.toNat<256:=c.toNat_lt;simp only[rdNum] at he;have Z8:(((((7*D:Nat):Int)==(63:Int))&&(decide ((c.toNat:Int)>(1:Int))))||((decide (((7*D:Nat):Int)>(0:Int)))&&((c.toNat:Int)==(0:Int))))=true↔(D=9∧1<c.toNat)∨(0<D∧c.toNat=0):=by
   simp only[Bool.or_eq_true,Bool.and_eq_true,beq_iff_eq,decide_eq_true_eq];omega
  by_cases ba:(D=9∧1<c.toNat)∨(0<D∧c.toNat=0)
  ·rw[if_pos (Z8.2 ba)];rw[if_pos ba] at he;exact aF 23 _ _ he H
  ·rw[if_neg (fun h=>ba (Z8.1 h))];rw[if_neg ba] at he;refine sC (by omega) ?_;have c6:(128:Nat)^D=2^(7*D):=by rw[Nat.pow_mul]
   have hp:min (((7*D:Nat):Int)).toNat IntKind.u64.bits=7*D:=by
    have:IntKind.u64.bits=64:=rfl;rw[this]; omega
   have s9:c.toNat%128*2^(7*D)<18446744073709551616:=by
    rw[← c6];rcases acP bT with l | l | l | l | l | l | l | l | l | ⟨Gz,l⟩<;>rw[l]<;>omega
   have aS:IntKind.u64.wrap (IntKind.u64.wrap (bits .and .u8 (c.toNat:Int) 127)*2^(min (((7*D:Nat):Int)).toNat IntKind.u64.bits))=((c.toNat%128*2^(7*D):Nat):Int):=by
    rw[hp,aku (by omega) (by omega)];have l:IntKind.u64.wrap ((c.toNat:Int)%128)=((c.toNat%128:Nat):Int):=by rw[lP]; omega
    rw[l];have bb:((c.toNat%128:Nat):Int)*2^(7*D)=((c.toNat%128*2^(7*D):Nat):Int):=by push_cast; rfl
    rw[bb,lP];generalize c.toNat%128*2^(7*D)=q at s9;omega
   have aoL:acc<18446744073709551616:=Nat.lt_of_lt_of_le PJ (by
    have:=Nat.pow_le_pow_right (n:=2) (by omega) (show 7*D≤64 by omega)
    simpa using this)
   have bb:bits .or .u64 (acc:Int) ((c.toNat%128*2^(7*D):Nat):Int)=((acc+c.toNat%128*128^D:Nat):Int):=by
    rw[aEy .u64 64 (by decide) k7 (7*D) _ _ (by omega) (by exact_mod_cast PJ) (by exact_mod_cast aoL) (by omega) ?_ (by exact_mod_cast s9)]
    ·rw[c6]; push_cast; rfl
    ·have:c.toNat%128*2^(7*D)%2^(7*D)=0:=Nat.mul_mod_left _ _
     exact_mod_cast this
   rw[aS,bb];by_cases dI:c.toNat<128
   ·rw[if_pos (by simp; omega)];rw[if_pos dI] at he;exact aq _ _ _ _ he Ea BU H
   ·rw[if_neg (by simp; omega)];rw[if_neg dI] at he;have tZ:D≤8:=by omega
    refine cg _ _ ⟨D+1,acc+c.toNat%128*128^D,cv+1,oT,by omega,rfl,by simp only; rw[lP]; omega,?_,Ea,BU,he,H⟩ (by simp only; rw[lP]; omega);rw[c6,show 7*(D+1)=7*D+7 from by omega,Nat.pow_add];have:c.toNat%128*2^(7*D)≤127*2^(7*D):=Nat.mul_le_mul_right _ (by omega);have OV:(2:Nat)^7=128:=rfl;rw[OV];omega
def CL(rest:List UInt8):Except Int (Nat×List UInt8):=match oU 8 0 rest with
 |.error l=>.error l
 |.ok (n,r)=>if nc n≠n then .error 25 else .ok (n,r)
theorem aor{eG:eF→World→Prop}{ab:Nat→World→Prop}{a:Nat}{rest:List UInt8}(aM:aw.length≤9223372036854775806)(k:dr 1 m (B .u8) s (aV aw))(Y:a≤aw.length)(ag:aw.drop a=rest)(H:E A (np e s a::m) w)
  (aF:∀ l cv J,CL rest=.error l→E A (np e s cv::m) J→eG (x7 l) J)
  (aq:∀ n r cv J,CL rest=.ok (n,r)→cv≤aw.length→aw.drop cv=r→E A (np e s cv::m) J→ab n J) :
  n3 Pg 188 [.pointer (some ⟨e,0,none⟩)] g4 w eG ab:=by
 refine ahG ?_;unfold M9;refine ia (fun p w=>∃ (D acc cv:Nat) (r:List UInt8),D≤8∧p.1=(acc:Int)∧p.2=(D:Int)∧acc<256^D∧cv≤aw.length∧aw.drop cv=r∧oU 8 0 rest=oU (8-D) acc r∧E A (np e s cv::m) w) (fun p=>(8-p.2).toNat)
  ⟨0,0,a,rest,by omega,rfl,rfl,by simp,Y,ag,rfl,H⟩ ?_
 clear H Y ag;rintro⟨o,t⟩ w ⟨D,acc,cv,r,bT,hm,ao,PJ,Y,ag,he,H⟩ K' cg;simp only at hm ao;subst hm; subst ao;unfold M_;split
 ·rename_i U;have U:D<8:=by simp at U; omega
  rw[show 8-D=(7-D)+1 from by omega] at he;have aKz:256^(D+1)≤18446744073709551616:=by
   have:=Nat.pow_le_pow_right (n:=256) (by omega) (show D+1≤8 by omega);simpa using this
  have arf:256^(D+1)=256^D*256:=Nat.pow_succ ..;have F:acc*256+256≤256^(D+1):=by rw[arf]; omega
  refine sC (by omega) ?_;have aS:IntKind.u64.wrap ((acc:Int)*2^(min ((8:Int)).toNat IntKind.u64.bits))=((acc*256:Nat):Int):=by
   have hp:min ((8:Int)).toNat IntKind.u64.bits=8:=rfl;rw[hp,lP]; omega
  rw[aS];refine HR aM k Y ag H ?_ ?_
  ·rintro rfl w H;exact aF 22 _ _ (by unfold CL; rw[he]; rfl) H
  ·rintro c oT w rfl Ea BU H;have apx:c.toNat<256:=c.toNat_lt;have bb:IntKind.u64.wrap (c.toNat:Int)=(c.toNat:Int):=by rw[lP]; omega
   have dn:bits .or .u64 ((acc*256:Nat):Int) (c.toNat:Int)=((acc*256+c.toNat:Nat):Int):=by
    rw[bits_join .u64 64 (by decide) k7 8 _ _ (by omega) (by omega) (by omega) (by omega) (by omega) (by omega)];omega
   rw[bb,dn];simp only[oU] at he;refine cg _ _ ⟨D+1,acc*256+c.toNat,cv+1,oT,by omega,rfl,by simp only; rw[qS]; omega,by omega,Ea,BU,?_,H⟩ (by simp only; rw[qS]; omega);rw[he,show 8-(D+1)=7-D from by omega]
 ·rename_i U;have U:D=8:=by simp at U; omega
  subst U;simp only[Nat.sub_self,oU] at he;have hU:Int.toNat (acc:Int)=acc:=by omega
  rw[hU];refine ap (XZ H) ?_;rintro q w ⟨rfl,H⟩;have iy:CL rest=if nc acc≠acc then .error 25 else .ok (acc,r):=by unfold CL; rw[he]
  by_cases d_:nc acc≠acc
  ·rw[if_pos (by simp; omega)];rw[if_pos d_] at iy;exact aF 25 _ _ iy H
  ·rw[if_neg (by simp at d_ ⊢; omega)];rw[if_neg d_] at iy;exact aq _ _ _ _ iy Y ag H
def CN(rest:List UInt8):Except Int (List UInt8×List UInt8):=match rdNum rest 0 0 with
 |.error l=>.error l
 |.ok (n,r)=>if 1000<n then .error 24 else if r.length<n then .error 22 else .ok (r.take n,r.drop n)
theorem aIt{eG:eF→World→Prop}{ab:List UInt8→World→Prop}{a:Nat}{rest:List UInt8}(ms:s.len≤s.cap)(aM:aw.length≤9223372036854775806)(k:dr 1 m (B .u8) s (aV aw))(Y:a≤aw.length)(ag:aw.drop a=rest)(H:E A (np e s a::m) w)
  (aF:∀ l cv J,CN rest=.error l→E A (np e s cv::m) J→eG (x7 l) J)
  (aq:∀ n r cv J,CN rest=.ok (n,r)→cv≤aw.length→aw.drop cv=r→E A (np e s cv::m) J→ab n J) :
  n3 Pg 189 [.pointer (some ⟨e,0,none⟩)] qN w eG ab:=by
 have aH:=k.tail.len H;rw[gI] at aH;refine ahH ?_;unfold Na;refine RA aM k Y ag H ?_ ?_
 ·intro l cv w he H;exact aF l cv w (by unfold CN; rw[he]) H
 ·intro n r cv w he Y ag H;have r5:CN rest=if 1000<n then .error 24 else if r.length<n then .error 22 else .ok (r.take n,r.drop n):=by unfold CN; rw[he]
  by_cases I:1000<n
  ·rw[if_pos (by simp; omega)];rw[if_pos I] at r5;exact aF 24 _ _ r5 H
  ·rw[if_neg (by simp; omega)];rw[if_neg I] at r5;have uf:r.length=aw.length-cv:=by rw[← ag,List.length_drop]
   refine dy H fun w H=>?_;refine ch rfl ?_;refine ak (x:=s) 0 H rfl rfl rfl ?_;refine ak (x:=(cv:Int)) 0 H rfl rfl rfl ?_;rw[aH];have aS:IntKind.u64.wrap (IntKind.i64.wrap ((aw.length:Int)-(cv:Int)))=((r.length:Nat):Int):=by
    rw[wrap_i64 (by omega) (by omega),k7 _ (by omega) (by omega)]; omega
   rw[aS];by_cases R:r.length<n
   ·rw[if_pos (by simp; omega)];rw[if_pos R] at r5;exact aF 22 _ _ r5 H
   ·rw[if_neg (by simp; omega)];rw[if_neg R] at r5;refine ak (x:=(cv:Int)) 0 H rfl rfl rfl ?_;have wJ:IntKind.i64.wrap (n:Int)=(n:Int):=wrap_i64 (by omega) (by omega);rw[wJ];have bb:IntKind.i64.wrap ((cv:Int)+(n:Int))=((cv+n:Nat):Int):=by rw[wrap_i64 (by omega) (by omega)]; omega
    rw[bb];refine dK (x:=((cv+n:Nat):Int)) 0 H rfl rfl (Nat.le_of_ble_eq_true rfl) fun w H=>?_;refine dy H fun w H=>?_;refine ak (x:=s) 0 H rfl rfl rfl ?_;refine ak (x:=((cv+n:Nat):Int)) 0 H rfl rfl rfl ?_;refine ak (x:=((cv+n:Nat):Int)) 0 H rfl rfl rfl ?_;have dn:IntKind.i64.wrap (((cv+n:Nat):Int)-(n:Int))=(cv:Int):=by rw[wrap_i64 (by omega) (by omega)]; omega
    rw[dn];refine ot (by omega) (by omega) (by omega) (by omega) fun q ba=>?_;have aa:=k.tail.sub (fun _=>rfl) ba (by rw[gI]; omega) H;have ao:((aV aw).take (((cv+n:Nat):Int)).toNat).drop ((cv:Int)).toNat=aV (r.take n):=by
     simp only[Int.toNat_natCast];rw[← ag];unfold aV;rw[← List.map_take,← List.map_drop,List.take_drop,Nat.add_comm]
    rw[ao] at aa;refine akT (r:=r.take n) aa ?_;exact aq _ _ _ _ r5 (by omega) (by rw[← ag,List.drop_drop]) H
theorem aJM{n:Nat}(h:n<18446744073709551616) :
  bits .xor .i64 (IntKind.i64.wrap (Int.fdiv (n:Int) (2^(min ((1:Int)).toNat IntKind.u64.bits)))) (IntKind.i64.wrap (0-(IntKind.i64.wrap (bits .and .u64 (n:Int) (1:Int)))))=uK n:=by
 have hp:min ((1:Int)).toNat IntKind.u64.bits=1:=rfl;rw[hp,GN,akt (by omega) (by omega)];have aS:IntKind.i64.wrap ((n/2^1:Nat):Int)=((n/2:Nat):Int):=by rw[qS]; omega
 rw[aS];unfold uK;by_cases aM:n%2=1
 ·rw[if_pos aM];have bb:IntKind.i64.wrap (0-IntKind.i64.wrap ((n:Int)%2))=-1:=by rw[qS,qS]; omega
  rw[bb,aJt (by omega) (by omega)]
 ·rw[if_neg aM];have bb:IntKind.i64.wrap (0-IntKind.i64.wrap ((n:Int)%2))=0:=by rw[qS,qS]; omega
  rw[bb,aJr (by omega) (by omega)]
theorem aIN{eG:eF→World→Prop}{ab:fu→World→Prop}{a:Nat}{rest:List UInt8}(ms:s.len≤s.cap)(aM:aw.length≤9223372036854775806)(k:dr 1 m (B .u8) s (aV aw))(Y:a≤aw.length)(ag:aw.drop a=rest)(H:E A (np e s a::m) w)
  (aF:∀ l cv J,iw rest=.error l→E A (np e s cv::m) J→eG (x7 l) J)
  (aq:∀ v r cv J,iw rest=.ok (v,r)→cv≤aw.length→aw.drop cv=r→E A (np e s cv::m) J→ab v J) :
  n3 Pg 147 [.pointer (some ⟨e,0,none⟩)] hH w eG ab:=by
 refine ag6 ?_;unfold MU;refine bR H fun ek w H=>?_;refine HR aM k.tail Y ag (H.front 1) ?_ ?_
 ·rintro rfl w H;exact aF 22 a w rfl ((H.front 1).drop)
 ·rintro c r w rfl Y ag H;have apx:c.toNat<256:=c.toNat_lt;have hU:IntKind.i64.wrap (c.toNat:Int)=(c.toNat:Int):=by rw[qS]; omega
  rw[hU];refine bR H fun uY w H=>?_;refine de (x:=tN) (S:=(⟨(c.toNat:Int),0,0,0,[]⟩:fu)) Rd 0 H rfl fun w H=>?_;refine ak (x:=(c.toNat:Int)) 0 H rfl rfl rfl ?_;have hj:∀ (v:fu) (cv:Nat) (w:World),(∀ J,E A (np e s cv::m) J→ab v J)→E A (aJ uY (hH.cells v) 197::np e s cv::aJ ek (hH.cells tN) 197::m) w→zy ⟨ek,0,none⟩ ⟨uY,0,none⟩ w ab eG:=by
   intro v cv w aL H;unfold zy;refine ez (x:=v) 0 H rfl ?_;refine de (x:=tN) (S:=v) Rd 2 H rfl fun w H=>?_;refine ez (x:=v) 0 H rfl ?_
   exact aL _ ((H.front 2).imp fun _ _ ⟨I,R,aK,bp,dz,iG,r4⟩=>⟨I,R,aK,bp,dz,iG,iP.mono (cD.le_refl _) (cD.le_refl _) (by
    obtain⟨_,_,_,_,c4,_,bD,e4,_,_,yP,_,g⟩:=r4
    exact iP.mono (cD.le_refl _) (cD.le_trans yP c4) g)⟩)
  have uj:dr 1 (aJ uY (hH.cells (⟨(c.toNat:Int),0,0,0,[]⟩:fu)) 197::aJ ek (hH.cells tN) 197::m) (B .u8) s (aV aw):=k.tail.tail;have H:=H.front 1;have GZ:∀ l cv J,iw (c::r)=.error l→E A (np e s cv::aJ uY (hH.cells (⟨(c.toNat:Int),0,0,0,[]⟩:fu)) 197::aJ ek (hH.cells tN) 197::m) J→eG (x7 l) J:=by
   intro l cv J he H;exact aF l cv J he (((((H.front 1).drop).front 1).drop))
  by_cases I:c.toNat=1
  ·rw[if_pos (by simp[I])];refine RA aM uj Y ag H ?_ ?_
   ·intro l cv w he H;exact GZ l cv w (by simp only[iw,I,if_true,he]) H
   ·intro n oT cv w he Y ag H;refine dK (x:=(n:Int)) 1 H rfl rfl (Nat.le_of_ble_eq_true rfl) fun w H=>?_;refine hj ⟨(c.toNat:Int),n,0,0,[]⟩ cv w (fun J H=>aq _ oT cv J ?_ Y ag H) H;simp only[iw,I,if_true,he]; rfl
  ·rw[if_neg (by simp; omega)];by_cases R:c.toNat=2
   ·rw[if_pos (by simp[R])];refine RA aM uj Y ag H ?_ ?_
    ·intro l cv w he H;exact GZ l cv w (by simp only[iw,R,if_true,he,show ¬ (2:Nat)=1 from by decide,if_false]) H
    ·intro n oT cv w he Y ag H;obtain⟨dI,_⟩:=LP he;refine sC (by omega) ?_;rw[aJM dI];refine dK (x:=uK n) 1 H rfl rfl (Nat.le_of_ble_eq_true rfl) fun w H=>?_;refine hj ⟨(c.toNat:Int),0,uK n,0,[]⟩ cv w (fun J H=>aq _ oT cv J ?_ Y ag H) H;simp only[iw,R,if_true,he,show ¬ (2:Nat)=1 from by decide,if_false]; rfl
   ·rw[if_neg (by simp; omega)];by_cases aK:c.toNat=3
    ·rw[if_pos (by simp[aK])];have iy:iw (c::r)=match CL r with | .error l=>.error l | .ok (n,q)=>.ok (⟨3,0,0,n,[]⟩,q):=by
      simp only[iw,aK,if_true,show ¬ (3:Nat)=1 from by decide,show ¬ (3:Nat)=2 from by decide,if_false,CL];cases oU 8 0 r with
      |error l=>rfl
      |ok p=>obtain⟨n,q⟩:=p; simp only; split<;>rfl
     refine aor aM uj Y ag H ?_ ?_
     ·intro l cv w he H;exact GZ l cv w (by rw[iy,he]) H
     ·intro n oT cv w he Y ag H;refine dK (T:=g4) (x:=n) 1 H rfl rfl (Nat.le_of_ble_eq_true rfl) fun w H=>?_;refine hj ⟨(c.toNat:Int),0,0,n,[]⟩ cv w (fun J H=>aq _ oT cv J ?_ Y ag H) H;rw[iy,he,aK]; rfl
    ·rw[if_neg (by simp; omega)];by_cases bp:c.toNat=4
     ·rw[if_pos (by simp[bp])];have iy:iw (c::r)=match CN r with | .error l=>.error l | .ok (n,q)=>.ok (⟨4,0,0,0,n⟩,q):=by
       simp only[iw,bp,if_true,show ¬ (4:Nat)=1 from by decide,show ¬ (4:Nat)=2 from by decide,show ¬ (4:Nat)=3 from by decide,if_false,CN];cases rdNum r 0 0 with
       |error l=>rfl
       |ok p=>
        obtain⟨n,q⟩:=p;simp only;split
        ·rfl
        ·split<;>rfl
      refine aIt ms aM uj Y ag H ?_ ?_
      ·intro l cv w he H;exact GZ l cv w (by rw[iy,he]) H
      ·intro n oT cv w he Y ag H;refine dK (T:=qN) (x:=n) 1 H rfl rfl (Nat.le_of_ble_eq_true rfl) fun w H=>?_;refine hj ⟨(c.toNat:Int),0,0,0,n⟩ cv w (fun J H=>aq _ oT cv J ?_ Y ag H) H;rw[iy,he,bp]; rfl
     ·rw[if_neg (by simp; omega)];exact GZ 21 _ _ (by simp only[iw,I,R,aK,bp,if_false]) H
end
def sG:Nat→List UInt8→List fu→Nat→List fu×Nat×Int
 |0,_,m,_=>(m,0,0)
 |_+1,[],m,_=>(m,0,0)
 |f+1,c::aw,m,a=>if m.length=1000 then ([],a,20) else match iw (c::aw) with
  |.error l=>([],a,l)
  |.ok (v,r)=>sG f r (m++[v]) (a+(aw.length+1-r.length))
def j1(aw:List UInt8):List fu×Nat×Int:=sG (aw.length+1) aw [] 0
theorem Yo{aw r:List UInt8}{v:fu}(h:iw aw=.ok (v,r)):r.length<aw.length:=by
 obtain⟨_,_,_,rfl⟩:=Yp h;simp only[jh,List.length_append,List.length_cons];omega
section
variable {A w:World} {m bX:List bE} {s:af} {aw:List UInt8}
theorem alq{a1 a9 b2 e0:Nat}{q:af}{ut hU:Int}{a:Nat}{l:Int}{j:af×Int×Int→World→Prop}(H:E A (aJ e0 [.int .i64 a] 3::aJ a1 [X.enc q] 190::aJ a9 [.int .i64 ut] 3::aJ b2 [.int .i64 hU] 43::m) w)
  (aq:∀ J,E A m J→j (fN,(a:Int),l) J):Bb ⟨e0,0,none⟩ ⟨a1,0,none⟩ ⟨a9,0,none⟩ ⟨b2,0,none⟩ j (x7 l) w:=by
 unfold Bb;refine abW (Uy (aGB (x7 l)) ?_) rfl;unfold IY;rw[if_pos (by rfl)];refine aR (⟨l⟩,true) (.inl ⟨⟨l⟩,rfl,rfl⟩) ?_;refine bR H fun e w H=>?_;refine de (x:=Ge) (S:=(⟨l⟩:kj)) (fun _=>rfl) 0 H rfl fun w H=>?_;rw[if_neg (by simp)];refine dy H fun w H=>?_;refine ak (x:=(a:Int)) 1 H rfl rfl rfl ?_;refine ak (x:=l) 0 H rfl rfl rfl ?_;refine dK (x:=fN) 2 H rfl rfl (Nat.le_of_ble_eq_true rfl) fun w H=>?_;refine⟨bO (B .i64) (H.front 1) rfl rfl,?_⟩;refine dK (x:=(a:Int)) 3 H rfl rfl (Nat.le_of_ble_eq_true rfl) fun w H=>?_;refine⟨bO (B .i64) (H.front 2) rfl rfl,?_⟩;refine dK (x:=l) 4 H rfl rfl (Nat.le_of_ble_eq_true rfl) fun w H=>?_;refine ak (x:=fN) 2 H rfl rfl rfl ?_;refine ak (x:=(a:Int)) 1 H rfl rfl rfl ?_;refine ak (x:=l) 0 H rfl rfl rfl ?_;exact aq _ H.drop.drop.drop.drop.drop
theorem aBc{args:List Value}{a e c d:Addr}{ab:World→Prop}(aq:ab w):yS Pg 146 [.pointer (some a),.pointer (some e),.pointer (some c),.pointer (some d)] .returning w ab:=by
 refine abW (Uy aGC ?_) rfl;unfold IY;rw[if_neg (by simp[eF.isNil])];exact aq
theorem afG(ms:s.len≤s.cap)(aM:aw.length≤9223372036854775806)(k:dr 1 m (B .u8) s (aV aw))(H:E A m w) :
  M Pg 93 [X.enc s] (mz X (B .i64) (B .i64)) w fun r J=>r.2.1=((j1 aw).2.1:Int)∧r.2.2=(j1 aw).2.2∧E A (row hH 197 5 r.1 (j1 aw).1::m) J:=by
 have aH:=k.len H;rw[gI] at aH;refine ajK ?_;unfold NZ;refine bR H fun a1 w H=>?_;refine bR H fun a9 w H=>?_;refine bR H fun b2 w H=>?_;refine bR H fun cZ w H=>?_;refine bR H fun e0 w H=>?_;refine dK (x:=(0:Int)) 0 H rfl rfl (Nat.le_of_ble_eq_true rfl) fun w H=>?_;have H:=k4 hH 197 5 H
 refine EA (fun n _ w=>∃ (f a x:Nat) (q:af) (a0:List fu),n=aw.length-a∧a≤aw.length∧aw.length-a<f∧a0.length≤1000∧j1 aw=sG f (aw.drop a) a0 a ∧
  E A (np cZ s a::aJ e0 [.int .i64 x] 3::aJ a1 [X.enc q] 190::row hH 197 5 q a0::aJ a9 [.int .i64 0] 3::aJ b2 [.int .i64 0] 43::m) w) aw.length
  ⟨aw.length+1,0,0,fN,[],by omega,by omega,by omega,by simp,rfl,H.ord [2,1,5,0,4,3]⟩ ?_
 clear H;rintro n ⟨⟩ w ⟨f,a,x,q,a0,rfl,Y,am,aL,he,H⟩ ab cg;unfold N0;refine ak (x:=(a:Int)) 0 H rfl rfl rfl ?_;rw[aH];obtain⟨f,rfl⟩:∃ g,f=g+1:=⟨f-1,by omega⟩
 by_cases dI:a<aw.length
 ·rw[if_pos (by simp; omega)];obtain⟨c,r,ag⟩:∃ c r,aw.drop a=c::r:=by
   cases h:aw.drop a with
   |nil=>have:=congrArg List.length h; simp at this; omega
   |cons c r=>exact⟨c,r,rfl⟩
  have uf:r.length+1=aw.length-a:=by
   have:=congrArg List.length ag;simp at this; omega
  rw[ag] at he;simp only[sG] at he;refine ak (x:=(a:Int)) 0 H rfl rfl rfl ?_;refine dK (x:=(a:Int)) 1 H rfl rfl (Nat.le_of_ble_eq_true rfl) fun w H=>?_;have H:=H.front 1;refine ak (x:=q) 2 H rfl rfl rfl ?_;have ba:q.len=a0.length:=gG (H.front 3);have Z4:∀ (l:Int) (cv:Nat) (w:World),j1 aw=([],a,l)→E A (np cZ s cv::aJ e0 [.int .i64 a] 3::aJ a1 [X.enc q] 190::row hH 197 5 q a0::aJ a9 [.int .i64 0] 3::aJ b2 [.int .i64 0] 43::m) w →
    Bb ⟨e0,0,none⟩ ⟨a1,0,none⟩ ⟨a9,0,none⟩ ⟨b2,0,none⟩ (fun (r:af×Int×Int) J=>r.2.1=((j1 aw).2.1:Int)∧r.2.2=(j1 aw).2.2∧E A (row hH 197 5 r.1 (j1 aw).1::m) J) (x7 l) w:=by
   intro l cv w he H;refine alq (q:=q) (ut:=0) (hU:=0) (H.ord [0,3]).drop.drop ?_
   ·intro J H;rw[he];exact⟨rfl,rfl,k4 hH 197 5 H⟩
  by_cases h1000:a0.length=1000
  ·rw[if_pos (by simp; omega)];rw[if_pos h1000] at he;exact Z4 20 a w he H
  ·rw[if_neg (by simp; omega)];rw[if_neg h1000] at he;refine dy H fun w H=>?_;refine ak (x:=q) 2 H rfl rfl rfl ?_;refine aIN ms aM (k.mo [aJ e0 [.int .i64 a] 3,aJ a1 [X.enc q] 190,row hH 197 5 q a0,aJ a9 [.int .i64 0] 3,aJ b2 [.int .i64 0] 43]) Y ag H ?_ ?_
   ·intro l cv w Ke H;rw[Ke] at he;exact Z4 l cv w he H
   ·intro v oT cv w Ke Ea BU H;rw[Ke] at he;refine⟨bO X (H.front 2) rfl rfl,?_⟩;refine nF (fun _=>rfl) 3 H rfl (by simp; omega) fun gK w H=>?_;refine dK (x:=gK) 3 H rfl rfl (Nat.le_of_ble_eq_true rfl) fun w H=>?_;have P2:=Yo Ke;have ue:oT.length=aw.length-cv:=by rw[← BU,List.length_drop]
    simp only[List.length_cons] at P2;refine cg (aw.length-cv) () _ (by omega) ⟨f,cv,a,gK,a0++[v],rfl,Ea,by omega,by simp; omega,?_,H.ord [2,3,0,1]⟩;rw[he,BU];simp only;have Gz:a+(r.length+1-oT.length)=cv:=by omega
    rw[Gz]
 ·have apm:a=aw.length:=by omega
  rw[if_neg (by simp; omega)];rw[apm,List.drop_length] at he;simp only[sG] at he;rw[he];refine ak (x:=q) 2 H rfl rfl rfl ?_;refine dK (x:=q) 2 H rfl rfl (Nat.le_of_ble_eq_true rfl) fun w H=>?_;refine dK (x:=(0:Int)) 4 H rfl rfl (Nat.le_of_ble_eq_true rfl) fun w H=>?_;refine dK (x:=(0:Int)) 5 H rfl rfl (Nat.le_of_ble_eq_true rfl) fun w H=>?_;refine aBc (args:=[]) ?_;refine ak (x:=q) 2 H rfl rfl rfl ?_;refine ak (x:=(0:Int)) 1 H rfl rfl rfl ?_;refine ak (x:=(0:Int)) 0 H rfl rfl rfl ?_;refine⟨rfl,rfl,?_⟩;exact (H.ord [0,1,2,3,4]).drop.drop.drop.drop.drop
end
structure nz(a0:List fu):Prop where
 qk:∀ v∈a0,In v
 ok:∀ v∈a0,ka v=0
theorem nz.tail{v:fu}{a0:List fu}(h:nz (v::a0)):nz a0:=⟨fun x F=>h.qk x (by simp[F]),fun x F=>h.ok x (by simp[F])⟩
theorem nz.mo{m o:List fu}(h:nz m)(k:nz o):nz (m++o):=⟨fun x F=>(List.mem_append.1 F).elim (h.qk x) (k.qk x),fun x F=>(List.mem_append.1 F).elim (h.ok x) (k.ok x)⟩
theorem nz.left{m o:List fu}(h:nz (m++o)):nz m:=⟨fun x F=>h.qk x (by simp[F]),fun x F=>h.ok x (by simp[F])⟩
theorem nz.right{m o:List fu}(h:nz (m++o)):nz o:=⟨fun x F=>h.qk x (by simp[F]),fun x F=>h.ok x (by simp[F])⟩
theorem aIG{f a:Nat}{aw r:List UInt8}{m:List fu}{v:fu}(h:iw aw=.ok (v,r))(al:m.length≠1000):sG (f+1) aw m a=sG f r (m++[v]) (a+(aw.length-r.length)):=by
 cases aw with
 |nil=>simp[iw] at h
 |cons c aw=>
  simp only[sG,h];rw[if_neg al];rfl
theorem afB:∀ {a0:List fu} {f a:Nat} {rest:List UInt8} {m:List fu},nz a0→m.length+a0.length≤1000→sG (f+a0.length) (h7 a0++rest) m a=sG f rest (m++a0.map n2) (a+(h7 a0).length)
 |[],f,a,rest,m,_,_=>by simp[h7]
 |v::a0,f,a,rest,m,h,al=>by
  have aL:=h.ok v (by simp);have ay:=h.qk v (by simp);simp only[List.length_cons] at al;have l:h7 (v::a0)++rest=jh v++(h7 a0++rest):=by simp[h7]
  have ag:iw (h7 (v::a0)++rest)=.ok (n2 v,h7 a0++rest):=by rw[l]; exact amr ay aL _
  rw[show f+(v::a0).length=(f+a0.length)+1 from by simp; omega,aIG ag (by omega),afB h.tail (by simp; omega)];have bb:(h7 (v::a0)++rest).length-(h7 a0++rest).length=(jh v).length:=by rw[l]; simp only[List.length_append]; omega
  have dn:(h7 (v::a0)).length=(jh v).length+(h7 a0).length:=by simp[h7]
  rw[bb,dn,Nat.add_assoc];simp
theorem OY:∀ a0:List fu,a0.length≤(h7 a0).length
 |[]=>by simp
 |v::a0=>by
  have:=OY a0;simp only[h7,List.flatMap_cons,List.length_append,List.length_cons] at *;have:1≤(jh v).length:=by simp[jh]
  omega
theorem aII{a0:List fu}{rest:List UInt8}(h:nz a0)(al:a0.length≤1000):∃ f,rest.length<f∧j1 (h7 a0++rest)=sG f rest (a0.map n2) (h7 a0).length:=by
 refine⟨(h7 a0++rest).length+1-a0.length,?_,?_⟩
 ·have:=OY a0;rw[List.length_append]; omega
 ·have:=OY a0;have l:(h7 a0++rest).length+1=((h7 a0++rest).length+1-a0.length)+a0.length:=by rw[List.length_append]; omega
  unfold j1;rw[l,afB h (by simp; omega)];simp
theorem afE{a0:List fu}(h:nz a0)(al:a0.length≤1000):j1 (h7 a0)=(a0.map n2,0,0):=by
 obtain⟨f,am,he⟩:=aII (rest:=[]) h al;rw[List.append_nil] at he;rw[he];obtain⟨g,rfl⟩:∃ g,f=g+1:=⟨f-1,by omega⟩
 rfl
theorem LO:∀ {aw:List UInt8} {k acc:Nat} {l:Int},rdNum aw k acc=.error l→l≠0
 |[],k,acc,l,h=>by simp[rdNum] at h; omega
 |c::aw,k,acc,l,h=>by
  simp only[rdNum] at h;split at h
  ·simp at h; omega
  ·split at h
   ·cases h
   ·exact LO h
theorem aeq:∀ {i acc:Nat} {aw:List UInt8} {l:Int},oU i acc aw=.error l→l≠0
 |0,_,_,_,h=>by simp[oU] at h
 |i+1,acc,[],l,h=>by simp[oU] at h; omega
 |i+1,acc,c::aw,l,h=>aeq (by simpa only[oU] using h)
theorem ams{aw:List UInt8}{l:Int}(h:iw aw=.error l):l≠0:=by
 cases aw with
 |nil=>simp[iw] at h; omega
 |cons c aw=>
  simp only[iw] at h;split at h
  ·split at h
   ·rename_i I; injection h with h; subst h; exact LO I
   ·cases h
  ·split at h
   ·split at h
    ·rename_i I; injection h with h; subst h; exact LO I
    ·cases h
   ·split at h
    ·split at h
     ·rename_i I; injection h with h; subst h; exact aeq I
     ·split at h
      ·simp at h; omega
      ·cases h
    ·split at h
     ·split at h
      ·rename_i I; injection h with h; subst h; exact LO I
      ·split at h
       ·simp at h; omega
       ·split at h
        ·simp at h; omega
        ·cases h
     ·simp at h; omega
theorem afC:∀ {f a:Nat} {aw:List UInt8} {m o:List fu} {p:Nat},aw.length<f→m.length≤1000→sG f aw m a=(o,p,0)→∃ Ck,o=m++Ck∧nz Ck∧(∀ v∈Ck,n2 v=v)∧aw=h7 Ck∧o.length≤1000∧p=0
 |0,_,_,_,_,_,h,_,_=>by omega
 |f+1,a,[],m,o,p,_,al,h=>by
  simp only[sG,Prod.mk.injEq] at h;obtain⟨rfl,rfl,_⟩:=h;exact⟨[],by simp,⟨by simp,by simp⟩,by simp,rfl,al,rfl⟩
 |f+1,a,c::aw,m,o,p,am,al,h=>by
  simp only[sG] at h;split at h
  ·simp at h
  ·rename_i I;split at h
   ·rename_i l he;simp only[Prod.mk.injEq] at h;exact absurd h.2.2 (ams he)
   ·rename_i v r ag;have P2:=Yo ag;obtain⟨bD,e4,jr,nI⟩:=Yp ag;obtain⟨Ck,dx,ef,g0,jV,od,j8⟩:=afC (by simp at am P2; omega) (by simp; omega) h;refine⟨v::Ck,by rw[dx]; simp,⟨fun x F=>?_,fun x F=>?_⟩,fun x F=>?_,by rw[nI,jV]; simp[h7],od,j8⟩
    ·rcases List.mem_cons.1 F with rfl | F
     ·exact bD
     ·exact ef.qk x F
    ·rcases List.mem_cons.1 F with rfl | F
     ·exact e4
     ·exact ef.ok x F
    ·rcases List.mem_cons.1 F with rfl | F
     ·exact jr
     ·exact g0 x F
theorem afF{aw:List UInt8}{o:List fu}(h:(j1 aw).2.2=0)(hm:(j1 aw).1=o):nz o∧(∀ v∈o,n2 v=v)∧aw=h7 o∧o.length≤1000:=by
 obtain⟨Ck,dx,ef,g0,jV,od,j8⟩:=afC (f:=aw.length+1) (a:=0) (aw:=aw) (m:=[]) (o:=o) (p:=(j1 aw).2.1) (by omega) (by simp) (by
  show j1 aw=_
  rw[← h,← hm])
 rw[List.nil_append] at dx;subst dx;exact⟨ef,g0,jV,od⟩
end Wire
namespace Store
open bj
structure Row where
 b9:Int
 cm:fK
structure hG where
 rows:List Row
 closed:Int
 mark:Int
def a0(N:List Row)(k:Int):List eV:=(N.filter fun r=>r.cm.Key==k).map fun r=>⟨r.b9,r.cm.V⟩
def upto(m:List eV)(at_:Int):List eV:=m.filter fun v=>decide (v.b9≤at_)
def tV(m:List eV)(at_:Int):Option eV:=(upto m at_).getLast?
def rL(o:hG)(at_:Int):Int:=if at_<0∨at_>1125899906842624 then 120 else if at_>o.closed then 128 else if at_<o.mark then 126 else 0
def pn(m:List eV):eV×Bool:=(m.getLast?.getD ⟨0,0⟩,m.getLast?.isSome)
def xw(N:List Row)(t:Int):List Int→List fK→Int
 |_,[]=>0
 |seen,x::xs=>if x.Key<0∨x.Key>8191 then 123 else if x.Key∈seen then 124 else if (pn (a0 N x.Key)).1.b9≥t then 121 else if 10000≤(a0 N x.Key).length then 125 else xw N t (seen++[x.Key]) xs
def vK(o:hG)(t:Int)(m:List fK):Int:=
 if t<1∨t>1125899906842624 then 120 else if t≤o.closed then 121 else if m.length>100 then 122 else xw o.rows t [] m
def news(t:Int)(m:List fK):List Row:=m.map fun x=>⟨t,x⟩
def nQ(o:hG)(t:Int)(m:List fK):hG:=if vK o t m=0 then { o with rows:=o.rows++news t m } else o
def JG(t:Int):Int:=if t<0∨t>1125899906842624 then 120 else 0
def sU(o:hG)(t:Int):hG:=if JG t=0 then { o with closed:=max o.closed t } else o
def gone(mark:Int)(r:Row)(N:List Row):Bool:=N.any fun q=>(q.cm.Key==r.cm.Key)&&decide (q.b9≤mark)
def bI(mark:Int):List Row→List Row
 |[]=>[]
 |r::N=>if gone mark r N=true then bI mark N else r::bI mark N
def pk(mark:Int):List eV→List eV
 |[]=>[]
 |v::m=>if m.any (fun q=>decide (q.b9≤mark))=true then pk mark m else v::pk mark m
def vI(o:hG)(t:Int):Int:=if t<0∨t>1125899906842624 then 120 else if t>o.closed then 128 else 0
def sp(o:hG)(t:Int):hG:=if vI o t=0 then ⟨bI (max o.mark t) o.rows,o.closed,max o.mark t⟩ else o
structure Keys(N:List Row)(fM:List Int):Prop where
 rI:fM.Pairwise fun x S=>x<S
 all:∀ k,k∈fM↔a0 N k≠[]
def CS(N:List Row)(at_:Int)(fM:List Int):List fK:=fM.filterMap fun k=>(tV (a0 N k) at_).map fun v=>⟨k,v.V⟩
structure Inv(o:hG):Prop where
 cap:∀ k,(a0 o.rows k).length≤10000
 key:∀ r∈o.rows,0≤r.cm.Key∧r.cm.Key≤8191
 ih:∀ r∈o.rows,1≤r.b9∧r.b9≤1125899906842624
 rI:o.rows.Pairwise fun a e=>a.cm.Key=e.cm.Key→a.b9<e.b9
 mark:0≤o.mark∧o.mark≤o.closed∧o.closed≤1125899906842624
def Dp(m:List eV):Prop:=m.Pairwise fun a e=>a.b9<e.b9
theorem IE(N y:List Row)(k:Int):a0 (N++y) k=a0 N k++a0 y k:=by simp[a0]
theorem CV(k:Int):a0 [] k=[]:=rfl
theorem zp(r:Row)(N:List Row)(k:Int):a0 (r::N) k=if r.cm.Key=k then ⟨r.b9,r.cm.V⟩::a0 N k else a0 N k:=by
 unfold a0;by_cases h:r.cm.Key=k
 ·rw[if_pos h,List.filter_cons_of_pos (by simpa using h)]; rfl
 ·rw[if_neg h,List.filter_cons_of_neg (by simpa using h)]
theorem aIY{N:List Row}{k:Int}{v:eV}(h:v∈a0 N k):∃ r∈N,r.cm.Key=k∧r.b9=v.b9∧r.cm.V=v.V:=by
 unfold a0 at h;obtain⟨r,aa,rfl⟩:=List.mem_map.1 h;obtain⟨I,R⟩:=List.mem_filter.1 aa;exact⟨r,I,by simpa using R,rfl,rfl⟩
theorem Tl{N:List Row}{k:Int}:a0 N k≠[]↔∃ r∈N,r.cm.Key=k:=by
 constructor
 ·intro h;obtain⟨v,aL⟩:=List.exists_mem_of_ne_nil _ h;obtain⟨r,I,R,_⟩:=aIY aL;exact⟨r,I,R⟩
 ·rintro⟨r,I,R⟩ h;have:(⟨r.b9,r.cm.V⟩:eV)∈a0 N k:=List.mem_map.2 ⟨r,List.mem_filter.2 ⟨I,by simpa using R⟩,rfl⟩;rw[h] at this; cases this
theorem IF{N:List Row}(h:N.Pairwise fun a e=>a.cm.Key=e.cm.Key→a.b9<e.b9)(k:Int):Dp (a0 N k):=by
 unfold a0 Dp;rw[List.pairwise_map];have I:=h.filter (p:=fun r=>r.cm.Key==k);refine List.Pairwise.imp_of_mem ?_ I;intro a e Y ao yd;have Y:=(List.mem_filter.1 Y).2;have ao:=(List.mem_filter.1 ao).2;simp only[beq_iff_eq] at Y ao;exact yd (Y.trans ao.symm)
theorem aB4(mark:Int)(r:Row)(N:List Row):gone mark r N=(a0 N r.cm.Key).any fun q=>decide (q.b9≤mark):=by
 unfold gone a0;rw[List.any_map,List.any_filter];rfl
theorem Mk(mark:Int)(k:Int):∀ N:List Row,a0 (bI mark N) k=pk mark (a0 N k)
 |[]=>rfl
 |r::N=>by
  have cq:=Mk mark k N;rw[zp];unfold bI;by_cases h:r.cm.Key=k
  ·rw[if_pos h];have O:gone mark r N=(a0 N k).any fun q=>decide (q.b9≤mark):=by rw[aB4,h]
   rw[pk,← O];split
   ·exact cq
   ·rw[zp,if_pos h,cq]
  ·rw[if_neg h];split
   ·exact cq
   ·rw[zp,if_neg h,cq]
theorem Q3{mark:Int}:∀ {e:List eV},(∀ v∈e,¬ v.b9≤mark)→pk mark e=e
 |[],_=>rfl
 |v::e,h=>by
  have aM:¬ e.any (fun q=>decide (q.b9≤mark))=true:=by
   rw[List.any_eq_true];rintro⟨q,ba,ag⟩;exact h q (List.mem_cons_of_mem _ ba) (by simpa using ag)
  rw[pk,if_neg aM,Q3 fun v aL=>h v (List.mem_cons_of_mem _ aL)]
theorem abv{mark:Int}{e:List eV}(ao:∀ v∈e,¬ v.b9≤mark):∀ {a:List eV},(∀ v∈a,v.b9≤mark)→pk mark (a++e)=a.drop (a.length-1)++e
 |[],_=>by simpa using Q3 ao
 |[v],h=>by
  have aM:¬ e.any (fun q=>decide (q.b9≤mark))=true:=by
   rw[List.any_eq_true];rintro⟨q,ba,ag⟩;exact ao q ba (by simpa using ag)
  show pk mark (v::e)=_
  rw[pk,if_neg aM,Q3 ao]; rfl
 |v::u::a,h=>by
  have aM:(u::a++e).any (fun q=>decide (q.b9≤mark))=true:=
   List.any_eq_true.2 ⟨u,by simp,by simpa using h u (by simp)⟩
  show pk mark (v::(u::a++e))=_
  rw[pk,if_pos aM,abv ao fun v aL=>h v (List.mem_cons_of_mem _ aL)];simp
structure Place(m:List eV)(at_:Int)(D:Nat):Prop where
 le:D≤m.length
 nM:∀ v∈m.take D,v.b9≤at_
 ay:∀ v∈m.drop D,¬ v.b9≤at_
theorem Place.upto{m:List eV}{at_:Int}{D:Nat}(h:Place m at_ D):upto m at_=m.take D:=by
 unfold Store.upto
 conv=>lhs; rw[← List.take_append_drop D m]
 rw[List.filter_append,List.filter_eq_self.2 fun v aL=>by simpa using h.nM v aL,List.filter_eq_nil_iff.2 fun v aL=>by simpa using h.ay v aL,List.append_nil]
theorem Place.bI{m:List eV}{at_:Int}{D:Nat}(h:Place m at_ D):pk at_ m=m.drop (D-1):=by
 conv=>lhs; rw[← List.take_append_drop D m]
 rw[abv h.ay h.nM,List.length_take,Nat.min_eq_left h.le]
 conv=>rhs; rw[← List.take_append_drop D m]
 rw[List.drop_append_of_le_length (by rw[List.length_take,Nat.min_eq_left h.le]; omega)]
theorem Place.al9{m:List eV}{at_:Int}(h:Place m at_ 0):tV m at_=none:=by unfold tV; rw[h.upto]; rfl
theorem Place.tV{m:List eV}{at_:Int}{D:Nat}(h:Place m at_ (D+1)):tV m at_=m[D]?:=by
 unfold Store.tV; rw[h.upto,List.getLast?_take,if_neg (by omega)];have:=h.le;rw[show D+1-1=D from rfl,List.getElem?_eq_getElem (by omega)]; rfl
theorem Q4(mark:Int):∀ N:List Row,(bI mark N).Sublist N
 |[]=>List.Sublist.refl _
 |r::N=>by
  have:=Q4 mark N;unfold bI; split
  ·exact this.cons _
  ·exact this.cons_cons _
theorem abw{mark:Int}{m:List eV}(al:Dp m):pk mark m=[]↔m=[]:=by
 constructor
 ·intro h;induction m with
  |nil=>rfl
  |cons v m cq=>
   unfold pk at h;split at h
   ·rename_i U;have:=cq (List.pairwise_cons.1 al).2 h;subst this; simp at U
   ·cases h
 ·rintro rfl; rfl
theorem Keys.aIF{N y:List Row}{fM Q2:List Int}(h:Keys N fM)(R:Keys y Q2)(he:∀ k,a0 N k≠[]↔a0 y k≠[]):fM=Q2:=by
 have aF:fM.Perm Q2:=(List.perm_ext_iff_of_nodup (h.rI.imp fun h=>Int.ne_of_lt h) (R.rI.imp fun h=>Int.ne_of_lt h)).2 fun k=>by rw[h.all,R.all,he]
 exact aF.eq_of_pairwise (fun a e _ _ I R=>by omega) h.rI R.rI
section
variable {A w:World} {m bX:List bE}
structure ky where
 e:Nat
 s:af
 mark:Int
def mr(C:ky)(N:List eV):bE:=dH [aJ C.e (wu.cells ⟨C.s,C.mark⟩) 328,row dR 292 2 C.s N]
theorem xW{C:ky}{N:List eV}(H:E A (mr C N::m) w):E A (aJ C.e (wu.cells ⟨C.s,C.mark⟩) 328::row dR 292 2 C.s N::m) w:=H.open_
theorem tT{C:ky}{N:List eV}(H:E A (aJ C.e (wu.cells ⟨C.s,C.mark⟩) 328::row dR 292 2 C.s N::m) w):E A (mr C N::m) w:=
 E.shut (bX:=[aJ C.e (wu.cells ⟨C.s,C.mark⟩) 328,row dR 292 2 C.s N]) H
theorem aly(H:E A m w):M Pg 245 [] aE w fun r J=>∃ e,r=some ⟨e,0,none⟩∧E A (mr ⟨e,fN,0⟩ []::m) J:=by
 refine aij ?_;unfold VJ;refine bR H fun e dL H=>?_;exact⟨e,rfl,tT ((k4 dR 292 2 H).front 1)⟩
theorem Yb{C:ky}{N:List eV}(hm:N.length≤1000000)(H:E A (mr C N::m) w):M Pg 243 [.pointer (some ⟨C.e,0,none⟩)] (bB dR bo) w fun r J=>r=pn N∧E A (mr C N::m) J:=by
 refine aih ?_;unfold VH;refine bR H fun e dL H=>?_;have H:=xW (H.front 1);have aH:=gG (H.front 1);refine ch rfl ?_;refine ak (x:=C.s) 0 H rfl rfl rfl ?_;split
 ·rename_i U;have U:N=[]:=List.length_eq_zero_iff.1 (by simp at U; omega);subst U;refine de (x:=kD) (S:=(⟨0,0⟩:eV)) qq 2 H rfl fun cG H=>?_;refine ez (x:=(⟨0,0⟩:eV)) 0 H rfl ?_;exact⟨rfl,tT H.drop⟩
 ·rename_i U;have U:0<N.length:=by simp at U; omega
  have l:IntKind.i64.wrap (((C.s.len:Int))-1)=(N.length:Int)-1:=by rw[aH]; exact wrap_i64 (by omega) (by omega)
  refine dy H fun cG H=>?_;refine ak (x:=C.s) 0 H rfl rfl rfl ?_;refine ak (x:=C.s) 0 H rfl rfl rfl ?_;rw[l];obtain⟨a,Y⟩:=k3 (ar:=2) (i:=(N.length:Int)-1) (H.front 1) (by omega) (by omega);have F:N[((N.length:Int)-1).toNat]?=some N[((N.length:Int)-1).toNat]:=List.getElem?_eq_getElem (by omega);refine aR a Y ?_;refine aR _ (my (fun _=>rfl) Y F (H.front 1)) ?_;have al:N.getLast?=some N[((N.length:Int)-1).toNat]:=by rw[← F,List.getLast?_eq_getElem?]; congr 1; omega
  generalize N[((N.length:Int)-1).toNat]=x at al;refine de (x:=kD) (S:=x) qq 2 H rfl fun bl H=>?_;refine ez (x:=x) 0 H rfl ?_;refine⟨?_,tT H.drop⟩;unfold pn; rw[al]; rfl
theorem alx{C:ky}{N:List eV}(hm:N.length≤1000000)(H:E A (mr C N::m) w):M Pg 262 [.pointer (some ⟨C.e,0,none⟩)] X w fun r J=>E A (row dR 292 2 r N::mr C N::m) J:=by
 refine aiB ?_;unfold V1;have H:=xW H;have aH:=gG (H.front 1);refine ch rfl ?_;refine ak (x:=C.s) 0 H rfl rfl rfl ?_;rw[aH];refine HO (ar:=2) (by omega) (by omega) (by omega) H fun e dL H=>?_;refine ak (x:=C.s) 1 H rfl rfl rfl ?_;refine JH (fun _=>rfl) H (Do (H.front 2)) (by simp) fun cG H=>?_;exact (tT ((H.front 1).ord [0,2])).front 1
theorem aHj{n:Int}{hV:cw}{tn:Int→Bool}(ah:0≤n)(I:n≤1000000)(yu:∀ (w:World) (i:Int),0≤i→i<n→E A m w→tU Pg hV [.int .i64 i] bo w fun r J=>r=tn i∧E A m J)
  (aar:∀ i D,0≤i→i≤D→D<n→tn i=true→tn D=true) (H:E A m w) :
  M Pg 254 [.int .i64 n,hV.enc] (B .i64) w fun r J=>0≤r∧r≤n∧(∀ i,0≤i→i<r→tn i=false)∧(∀ i,r≤i→i<n→tn i=true)∧E A m J:=by
 refine ait ?_;unfold VT;refine vy (fun p w=>0≤p.1∧p.1≤p.2∧p.2≤n∧(∀ i,0≤i→i<p.1→tn i=false)∧(∀ i,p.2≤i→i<n→tn i=true)∧E A m w) (fun p=>(p.2-p.1).toNat)
  ⟨Int.le_refl 0,ah,Int.le_refl _,fun i I R=>by simp only at R; omega,fun i I R=>by simp only at I; omega,H⟩ ?_
 rintro⟨i,D⟩ w ⟨nE,lY,a1,aA,a9,H⟩;simp only at nE lY a1 aA a9;simp only;unfold Nq;split
 ·rename_i U;have U:i<D:=by simpa using U
  have hU:IntKind.i64.wrap (i+D)=i+D:=wrap_i64 (by omega) (by omega);have aS:IntKind.u64.wrap (i+D)=i+D:=by
   unfold IntKind.wrap;simp[IntKind.bits,IntKind.signed];omega
  have bb:Int.fdiv (i+D) (2^(min ((1:Int)).toNat IntKind.u64.bits))=(i+D)/2:=by
   have:(2:Int)^(min ((1:Int)).toNat IntKind.u64.bits)=2:=rfl;rw[this,Int.fdiv_eq_ediv_of_nonneg _ (by omega)]
  rw[hU,aS,bb];refine aR ((i+D)/2) ⟨by omega,rfl⟩ ?_;have dn:IntKind.i64.wrap ((i+D)/2)=(i+D)/2:=wrap_i64 (by omega) (by omega);have nb:IntKind.i64.wrap ((i+D)/2+1)=(i+D)/2+1:=wrap_i64 (by omega) (by omega);rw[dn,nb];obtain⟨g,c,O,apO,h⟩:=yu w ((i+D)/2) (by omega) (by omega) H;refine⟨g,c,O,apO,ap h ?_⟩;rintro r dL ⟨rfl,H⟩;show if (!tn ((i+D)/2))=true then _ else _
  split
  ·rename_i aa;have aa:tn ((i+D)/2)=false:=by simpa using aa
   refine⟨⟨by simp only; omega,by simp only; omega,a1,fun x I R=>?_,a9,H⟩,by simp only; omega⟩;simp only at R;cases aF:tn x with
   |false=>rfl
   |true=>rw[aar x ((i+D)/2) I (by omega) (by omega) aF] at aa; cases aa
  ·rename_i aa;have aa:tn ((i+D)/2)=true:=by simpa using aa
   refine⟨⟨nE,by simp only; omega,by simp only; omega,aA,fun x I R=>?_,H⟩,by simp only; omega⟩;simp only at I;exact aar ((i+D)/2) x (by omega) (by omega) R aa
 ·rename_i U;have U:i=D:=by simp at U; omega
  subst U;exact⟨nE,a1,aA,a9,H⟩
theorem ac2{C:ky}{N:List eV}{at_:Int}(hm:N.length≤1000000)(aa:Dp N)(H:E A (mr C N::m) w):M Pg 226 [.pointer (some ⟨C.e,0,none⟩),.int .i64 at_] (B .i64) w fun r J=>∃ D:Nat,r=D∧Place N at_ D∧E A (mr C N::m) J:=by
 refine ah7 ?_;unfold Vy;refine bR H fun fp dL H=>?_;refine bR H fun ek cG H=>?_;have H:=xW (H.front 2);have aH:=gG (H.front 1);refine ak (x:=some ⟨C.e,0,none⟩) 3 H rfl rfl rfl ?_;refine ch rfl ?_;refine ak (x:=C.s) 0 H rfl rfl rfl ?_;rw[aH];refine ap (aHj (tn:=fun i=>match N[i.toNat]? with | some v=>decide (v.b9>at_) | none=>false) (by omega) (by omega) ?_ ?_ H) ?_
 ·intro w i ah I H;refine⟨255,[.pointer (some ⟨fp,0,none⟩),.pointer (some ⟨ek,0,none⟩)],rfl,anx,?_⟩;refine aiu ?_;unfold VU;refine dy H fun bl H=>?_;refine ak (x:=some ⟨C.e,0,none⟩) 3 H rfl rfl rfl ?_;refine ch rfl ?_;refine ak (x:=C.s) 0 H rfl rfl rfl ?_;obtain⟨a,Y⟩:=k3 (ar:=2) (i:=i) (H.front 1) ah (by omega);have F:N[i.toNat]?=some N[i.toNat]:=List.getElem?_eq_getElem (by omega);refine aR a Y ?_;refine aR N[i.toNat].b9 (ql (fun _=>rfl) Y F rfl (H.front 1)) ?_;refine ak (x:=at_) 2 H rfl rfl rfl ?_;refine⟨?_,H⟩;rw[F]
 ·intro i D ah I R aK;have F:N[i.toNat]?=some N[i.toNat]:=List.getElem?_eq_getElem (by omega);have aB:N[D.toNat]?=some N[D.toNat]:=List.getElem?_eq_getElem (by omega);simp only[F,aB,decide_eq_true_eq] at aK ⊢;rcases Int.lt_or_eq_of_le I with h | h
  ·have:=List.pairwise_iff_getElem.1 aa i.toNat D.toNat (by omega) (by omega) (by omega);omega
  ·subst h; exact aK
 ·rintro r bl ⟨qz,g2,bA,gv,H⟩;refine⟨r.toNat,by omega,⟨by omega,?_,?_⟩,?_⟩
  ·intro v aL;obtain⟨i,ay,rfl⟩:=List.mem_take_iff_getElem.1 aL;have:=bA i (by omega) (by omega);rw[show ((i:Int)).toNat=i from rfl,List.getElem?_eq_getElem (by omega)] at this;simp at this; omega
  ·intro v aL;obtain⟨i,ay,rfl⟩:=List.mem_drop_iff_getElem.1 aL;have:=gv (r+i) (by omega) (by omega);rw[show (r+(i:Int)).toNat=r.toNat+i from by omega,List.getElem?_eq_getElem (by omega)] at this;simp at this; omega
  ·exact tT ((H.ord [3,2]).drop.drop)
theorem alw{C:ky}{N:List eV}{at_:Int}(hm:N.length≤1000000)(aa:Dp N)(ah:0≤at_)(I:at_≤1125899906842624)(R:C.mark≤at_)(H:E A (mr C N::m) w) :
  M Pg 174 [.pointer (some ⟨C.e,0,none⟩),.int .i64 at_] (bB dR (B .i64)) w fun r J=>r=(match tV N at_ with | none=>((⟨0,0⟩:eV),(114:Int)) | some v=>(v,0))∧E A (mr C N::m) J:=by
 refine aht ?_;unfold UW;refine bR H fun e dL H=>?_;rw[if_neg (by simp; omega)];have H:=xW (H.front 1);have aH:=gG (H.front 1);refine ch rfl ?_;refine ak (x:=C.mark) 0 H rfl rfl rfl ?_;rw[if_neg (by simp; omega)];refine ap (ac2 (at_:=at_) hm aa (tT H)) ?_;rintro r cG ⟨D,rfl,aF,H⟩;have H:=xW H;cases D with
 |zero=>
  rw[if_pos (by simp)];refine de (x:=kD) (S:=(⟨0,0⟩:eV)) qq 2 H rfl fun bl H=>?_;refine ez (x:=(⟨0,0⟩:eV)) 0 H rfl ?_;refine⟨?_,tT H.drop⟩;rw[aF.al9]
 |succ D=>
  rw[if_neg (by simp; omega)];have ll:=aF.le;refine ak (x:=C.s) 0 H rfl rfl rfl ?_;have l:IntKind.i64.wrap (((D+1:Nat):Int)-1)=D:=by rw[show ((D+1:Nat):Int)-1=D from by omega]; exact wrap_i64 (by omega) (by omega)
  rw[l];obtain⟨a,Y⟩:=k3 (ar:=2) (i:=(D:Int)) (H.front 1) (by omega) (by omega);have F:N[((D:Int)).toNat]?=some N[D]:=List.getElem?_eq_getElem (by omega);refine aR a Y ?_;refine aR _ (my (fun _=>rfl) Y F (H.front 1)) ?_;have U:tV N at_=some N[D]:=by rw[aF.tV]; exact F
  generalize N[D]=x at U;refine de (x:=kD) (S:=x) qq 2 H rfl fun bl H=>?_;refine ez (x:=x) 0 H rfl ?_;refine⟨?_,tT H.drop⟩;rw[U]
theorem alA{C:ky}{N:List eV}{t v:Int}(hm:N.length<10000)(ah:1≤t)(I:t≤1125899906842624)(R:C.mark<t)(aK:(pn N).1.b9<t)(H:E A (mr C N::m) w) :
  M Pg 246 [.pointer (some ⟨C.e,0,none⟩),.int .i64 t,.int .i64 v] (B .i64) w fun r J=>∃ s,E A (mr ⟨C.e,s,C.mark⟩ (N++[⟨t,v⟩])::m) J:=by
 refine aik ?_;unfold VK;rw[if_neg (by simp; omega)];refine ap (Yb (by omega) H) ?_;rintro r dL ⟨rfl,H⟩;refine bR H fun e cG H=>?_;generalize pn N=q at *;refine de (x:=kD) (S:=q.1) qq 0 H rfl fun bl H=>?_;refine aR q.1.b9 (fun _=>bO (B .i64) H rfl rfl) ?_;have H:=xW (H.front 1);have aH:=gG (H.front 1);refine aR (⟨C.e,0,none⟩:Addr) (fun _=>rfl) ?_;refine aR C.mark (fun _=>bO (B .i64) H rfl rfl) ?_;rw[if_neg (by simp; omega)];refine ch rfl ?_;refine ak (x:=C.s) 0 H rfl rfl rfl ?_;rw[if_neg (by simp; omega)];refine ak (x:=C.s) 0 H rfl rfl rfl ?_;refine nF (fun _=>rfl) 1 H rfl (by simp; omega) fun s aY H=>?_;refine dK (x:=s) 1 H rfl rfl (Nat.le_of_ble_eq_true rfl) fun bc H=>?_;exact⟨s,tT (C:=⟨C.e,s,C.mark⟩) ((H.front 2).drop)⟩
theorem alz{C:ky}{N:List eV}{mark:Int}(hm:N.length≤1000000)(aa:Dp N)(ah:0≤mark)(I:mark≤1125899906842624)(R:C.mark≤mark)(H:E A (mr C N::m) w) :
  M Pg 261 [.pointer (some ⟨C.e,0,none⟩),.int .i64 mark] (B .i64) w fun r J=>∃ s,E A (mr ⟨C.e,s,mark⟩ (pk mark N)::m) J:=by
 refine aiA ?_;unfold V0;rw[if_neg (by simp; omega)];have H:=xW H;have aH:=gG (H.front 1);refine ch rfl ?_;refine ak (x:=C.mark) 0 H rfl rfl rfl ?_;rw[show max C.mark mark=mark from by omega];refine dK (x:=mark) 0 H rfl rfl (Nat.le_of_ble_eq_true rfl) fun dL H=>?_;have H:=tT (C:=⟨C.e,C.s,mark⟩) H;have H:=xW H;refine ak (x:=mark) 0 H rfl rfl rfl ?_;refine ap (ac2 (C:=⟨C.e,C.s,mark⟩) (at_:=mark) hm aa (tT H)) ?_;rintro r cG ⟨D,rfl,aF,H⟩;have H:=xW H;have ll:=aF.le;refine ak (x:=C.s) 0 H rfl rfl rfl ?_;have l:max (IntKind.i64.wrap ((D:Int)-1)) 0=((D-1:Nat):Int):=by rw[wrap_i64 (by omega) (by omega)]; omega
 rw[l,aF.bI];have bb:IntKind.i64.wrap ((C.s.len:Int)-((D-1:Nat):Int))=((N.length-(D-1):Nat):Int):=by rw[aH,wrap_i64 (by omega) (by omega)]; omega
 rw[bb];refine HO (ar:=2) (by omega) (by omega) (by omega) H fun e bl H=>?_;refine ak (x:=C.s) 1 H rfl rfl rfl ?_;have ms:C.s.len≤C.s.cap:=E1 (H.front 2);refine ot (by omega) (by omega) (by omega) (by omega) fun s1 Hh=>?_;have rq:=aet (fun _=>rfl) Hh (H.front 2);refine JH (fun _=>rfl) H rq (by simp) fun aY H=>?_;refine ot (by omega) (by omega) (by omega) (by simp) fun s2 Af=>?_;have dn:s2=⟨some ⟨e,0,none⟩,N.length-(D-1),N.length-(D-1)⟩:=by
  obtain⟨_,_,_,_,h⟩:=Af;rw[h];simp only[Int.toNat_natCast];congr 1;split
  ·rfl
  ·rw[Option.map_some,show ((0:Int).toNat*2)=0 from rfl,l0]
 rw[dn];simp only[Int.toNat_natCast] at H;refine dK (x:=(⟨some ⟨e,0,none⟩,N.length-(D-1),N.length-(D-1)⟩:af)) 1 H rfl rfl (Nat.le_of_ble_eq_true rfl) fun bc H=>?_;have H:E A (mr ⟨C.e,⟨some ⟨e,0,none⟩,N.length-(D-1),N.length-(D-1)⟩,mark⟩ (N.drop (D-1))::row dR 292 2 C.s N::m) bc:=tT H;exact⟨_,(H.front 1).drop⟩
end
end Store
namespace Num
open bj
theorem f64:FloatKind.f64.format=Ieee.double:=rfl
def kL(f:Nat):Nat:=if f<4503599627370496 then f else 4503599627370496+f%4503599627370496
def fy(f:Nat):Nat:=if f<4503599627370496 then 0 else f/4503599627370496-1
theorem Iy:Ieee.double.signWeight=9223372036854775808:=by decide
theorem zS:Ieee.double.binade=4503599627370496:=by decide
theorem Ak:Ieee.double.infRung=9218868437227405312:=by decide
theorem Ar:Ieee.double.leastPlace=-1074:=by decide
theorem D4:Ieee.double.fractionBits=52:=rfl
theorem oj{f:Nat}(h:f<9218868437227405312):Ieee.double.read f=.number false (kL f) (-1074+(fy f:Nat)):=by
 have aS:(f/9223372036854775808%2==1)=false:=by rw[Nat.div_eq_of_lt (by omega)]; rfl
 have bb:f%9223372036854775808=f:=Nat.mod_eq_of_lt (by omega);unfold Ieee.Format.read kL fy;simp only[Iy,zS,Ak,Ar,aS,bb];by_cases c:f<4503599627370496
 ·simp only[if_pos c]; rfl
 ·simp only[if_neg c,if_pos h]
theorem aex{f:Nat}(I:9223372036854775808<f)(R:f<18446744073709551616):(∃ o i,1≤o∧Ieee.double.read f=.number true o i)∨Ieee.double.read f=.infinity true∨∃ t,Ieee.double.read f=.nan true t:=by
 have aS:(f/9223372036854775808%2==1)=true:=by
  have:f/9223372036854775808=1:=by omega
  rw[this]; rfl
 unfold Ieee.Format.read;simp only[Iy,zS,Ak,Ar,aS];by_cases bx:f%9223372036854775808<4503599627370496
 ·simp only[if_pos bx];exact .inl ⟨_,_,by omega,rfl⟩
 ·simp only[if_neg bx];by_cases bK:f%9223372036854775808<9218868437227405312
  ·simp only[if_pos bK];exact .inl ⟨_,_,by omega,rfl⟩
  ·simp only[if_neg bK];by_cases ck:f%9223372036854775808=9218868437227405312
   ·simp only[if_pos ck];exact .inr (.inl (by trivial))
   ·simp only[if_neg ck];exact .inr (.inr ⟨_,rfl⟩)
theorem aGw{f:Nat}(h:f<9223372036854775808):(∃ o i,Ieee.double.read f=.number false o i)∨Ieee.double.read f=.infinity false∨∃ t,Ieee.double.read f=.nan false t:=by
 have aS:(f/9223372036854775808%2==1)=false:=by
  have:f/9223372036854775808=0:=by omega
  rw[this]; rfl
 unfold Ieee.Format.read;simp only[Iy,zS,Ak,Ar,aS];by_cases bx:f%9223372036854775808<4503599627370496
 ·simp only[if_pos bx];exact .inl ⟨_,_,rfl⟩
 ·simp only[if_neg bx];by_cases bK:f%9223372036854775808<9218868437227405312
  ·simp only[if_pos bK];exact .inl ⟨_,_,rfl⟩
  ·simp only[if_neg bK];by_cases ck:f%9223372036854775808=9218868437227405312
   ·simp only[if_pos ck];exact .inr (.inl (by trivial))
   ·simp only[if_neg ck];exact .inr (.inr ⟨_,rfl⟩)
theorem DP{a e:Int}(h:a<e):compare a e=.lt:=Std.compare_eq_lt.2 h
theorem Yi{a e:Int}(h:e<a):compare a e=.gt:=Std.compare_eq_gt.2 h
theorem Yh{a e:Int}(h:e≤a):compare a e≠.lt:=fun l=>by
 have:=Std.compare_eq_lt.1 l;omega
theorem aHt{o k:Nat}(h:1≤o):Ieee.signed true o k<0:=by
 unfold Ieee.signed;rw[if_pos rfl,Nat.shiftLeft_eq];have:1≤o*2^k:=Nat.le_trans h (Nat.le_mul_of_pos_right _ (Nat.two_pow_pos k));omega
theorem aHu{o k:Nat}:0≤Ieee.signed false o k:=by
 unfold Ieee.signed;rw[if_neg (by simp)];exact Int.natCast_nonneg _
theorem vS(o k:Nat):Ieee.signed false o k=((o*2^k:Nat):Int):=by
 unfold Ieee.signed;rw[if_neg (by simp),Nat.shiftLeft_eq]
theorem aeY{o k:Nat}(h:1≤o):0<Ieee.signed false o k:=by
 rw[vS];have:1≤o*2^k:=Nat.le_trans h (Nat.le_mul_of_pos_right _ (Nat.two_pow_pos k));omega
theorem aCY{f:Nat}(h:0<f):1≤kL f:=by unfold kL; split<;>omega
theorem SB:Ieee.double.read 0=.number false 0 (-1074):=by rw[oj (by omega)]; rfl
theorem aCQ{f:Nat}(h:f<9223372036854775808):ga .lss f 0=false:=by
 unfold ga;rw[f64];simp only[Ieee.Format.order,SB];rcases aGw h with ⟨o,i,l⟩ | l | ⟨t,l⟩
 ·rw[l];simp only[Ieee.Datum.order];have:Ieee.signed false 0 (-1074-min i (-1074)).toNat=0:=by rw[vS]; simp
  rw[this];have U:=Yh (aHu (o:=o) (k:=(i-min i (-1074)).toNat));cases cK:compare (Ieee.signed false o (i-min i (-1074)).toNat) 0 with
  |lt=>exact absurd cK U
  |eq=>rfl
  |gt=>rfl
 ·rw[l]; rfl
 ·rw[l]; rfl
theorem aCP{f:Nat}(I:9223372036854775808<f)(R:f<18446744073709551616)(aM:ga .neq f f=false):ga .lss f 0=true:=by
 unfold ga at *;rw[f64] at *;simp only[Ieee.Format.order,SB] at *;rcases aex I R with ⟨o,i,hm,l⟩ | l | ⟨t,l⟩
 ·rw[l];simp only[Ieee.Datum.order];have:Ieee.signed false 0 (-1074-min i (-1074)).toNat=0:=by rw[vS]; simp
  rw[this,DP (aHt hm)];rfl
 ·rw[l]; rfl
 ·rw[l] at aM;cases aM
theorem Y_{f:Nat}(ah:0<f)(h:f<9218868437227405312):ga .eql f 0=false:=by
 unfold ga;rw[f64];simp only[Ieee.Format.order,SB,oj h,Ieee.Datum.order];have:Ieee.signed false 0 (-1074-min (-1074+(fy f:Int)) (-1074)).toNat=0:=by rw[vS]; simp
 rw[this,Yi (aeY (aCY ah))];rfl
theorem aew:Ieee.double.read 9218868437227405311=.number false 9007199254740991 971:=by rw[oj (by omega)]; rfl
theorem Rk{f:Nat}(h:f≤4611686018427387904):ga .gtr f 9218868437227405311=false:=by
 unfold ga;rw[f64];simp only[Ieee.Format.order,aew,oj (show f<9218868437227405312 by omega),Ieee.Datum.order];have he:fy f≤1023:=by unfold fy; split<;>omega
 have hm:kL f<9007199254740992:=by unfold kL; split<;>omega
 have B1:min (-1074+(fy f:Int)) 971=-1074+(fy f:Int):=by omega
 rw[B1,vS,vS];have aS:(-1074+(fy f:Int)-(-1074+(fy f:Int))).toNat=0:=by omega
 obtain⟨k,aq⟩:∃ k,(971-(-1074+(fy f:Int))).toNat=k+1:=⟨(970-(-1074+(fy f:Int))).toNat,by omega⟩
 rw[aS,aq];have R:1≤2^k:=Nat.two_pow_pos k;have aK:9007199254740991*2^(k+1)=9007199254740991*2*2^k:=by rw[Nat.pow_succ]; omega
 have bp:9007199254740991*2*1≤9007199254740991*2*2^k:=Nat.mul_le_mul_left _ R;rw[DP (by rw[aK]; omega)];rfl
theorem aCS{f:Nat}(h:f<4503599627370496):ga .lss f 4503599627370496=true:=by
 have aS:Ieee.double.read 4503599627370496=.number false 4503599627370496 (-1074):=by rw[oj (by omega)]; rfl
 have bb:kL f=f:=by unfold kL; rw[if_pos h]
 have dn:fy f=0:=by unfold fy; rw[if_pos h]
 unfold ga;rw[f64];simp only[Ieee.Format.order,aS,oj (show f<9218868437227405312 by omega),Ieee.Datum.order,bb,dn,vS];rw[DP (by simp; omega)];rfl
theorem aCR{f:Nat}(ah:4503599627370496≤f)(h:f<9218868437227405312):ga .lss f 4503599627370496=false:=by
 have aS:Ieee.double.read 4503599627370496=.number false 4503599627370496 (-1074):=by rw[oj (by omega)]; rfl
 have bb:4503599627370496≤kL f:=by unfold kL; rw[if_neg (by omega)]; omega
 unfold ga;rw[f64];simp only[Ieee.Format.order,aS,oj h,Ieee.Datum.order,vS];have B1:min (-1074+(fy f:Int)) (-1074)=-1074:=by omega
 rw[B1];have I:4503599627370496*2^(-1074 - -1074:Int).toNat≤kL f*2^(-1074+(fy f:Int) - -1074).toNat:=by
  have:(-1074 - -1074:Int).toNat=0:=by decide
  rw[this];exact Nat.mul_le_mul bb (Nat.two_pow_pos _)
 have U:=Yh (Int.ofNat_le.2 I);cases cK:compare ((kL f*2^(-1074+(fy f:Int) - -1074).toNat:Nat):Int) ((4503599627370496*2^(-1074 - -1074:Int).toNat:Nat):Int) with
 |lt=>exact absurd cK U
 |eq=>rfl
 |gt=>rfl
theorem Yl{n k q:Nat}(h:n=q*2^k)(aq:k≤n.log2+2)(neg:Bool):Ieee.Toward.even.cut neg n k=q:=by
 unfold Ieee.Toward.cut;simp only[Nat.min_eq_left aq,Nat.shiftLeft_eq,Nat.one_mul];have aF:=Nat.two_pow_pos k;have aS:n/2^k=q:=by rw[h]; exact Nat.mul_div_cancel _ aF
 have bb:n%2^k=0:=by rw[h]; exact Nat.mul_mod_left _ _
 rw[aS,bb];have dn:(decide (2^k<2*0)||(2^k==2*0)&&q%2==1)=false:=by
  have:(2^k==2*0)=false:=by
   rw[beq_eq_false_iff_ne];omega
  rw[this];simp
 rw[dn];rfl
theorem mul_one{aW:Nat}(h:aW<4503599627370496):xE .mul 4607182418800017408 (1075*4503599627370496+aW) (1075*4503599627370496+aW):=by
 have aS:Ieee.double.read 4607182418800017408=.number false 4503599627370496 (-52):=by rw[oj (by omega)]; rfl
 have bb:Ieee.double.read (1075*4503599627370496+aW)=.number false (4503599627370496+aW) 0:=by
  rw[oj (by omega)];have bx:kL (1075*4503599627370496+aW)=4503599627370496+aW:=by unfold kL; rw[if_neg (by omega)]; omega
  have bK:fy (1075*4503599627370496+aW)=1074:=by unfold fy; rw[if_neg (by omega)]; omega
  rw[bx,bK]; rfl
 unfold xE floatBits;rw[f64];simp only[Ieee.Format.mul,aS,bb,Ieee.Datum.product,Option.map_some,Ieee.Format.write];congr 1;unfold Ieee.Format.nearest;have d_:¬ 4503599627370496*(4503599627370496+aW)=0:=by omega
 have wQ:(4503599627370496*(4503599627370496+aW)).log2=104:=by
  rw[Nat.log2_eq_iff d_];omega
 rw[if_neg d_];simp only[wQ,D4,Ar,zS,Ak];have G7:max ((-52:Int)+0+((104:Nat):Int)-((52:Nat):Int)) (-1074)=0:=by decide
 rw[G7];have Hh:((-52:Int)+0-0).toNat=0:=by decide
 have Af:((0:Int)-(-52+0)).toNat=52:=by decide
 have Qj:((0:Int) - -1074).toNat=1074:=by decide
 rw[Hh,Af,Qj,Nat.shiftLeft_zero];rw[Yl (q:=4503599627370496+aW) (by omega) (by rw[wQ]; omega)];show min _ _=_
 omega
theorem afy{aW:Nat}(h:aW<4503599627370496):zC .i64 (1075*4503599627370496+aW) ((4503599627370496+aW:Nat):Int):=by
 have bb:Ieee.double.read (1075*4503599627370496+aW)=.number false (4503599627370496+aW) 0:=by
  rw[oj (by omega)];have bx:kL (1075*4503599627370496+aW)=4503599627370496+aW:=by unfold kL; rw[if_neg (by omega)]; omega
  have bK:fy (1075*4503599627370496+aW)=1074:=by unfold fy; rw[if_neg (by omega)]; omega
  rw[bx,bK]; rfl
 unfold zC floatToIntVal FloatKind.decode;rw[f64,bb];have PP:Ieee.Toward.zero.cut false ((4503599627370496+aW) <<< (0:Int).toNat) (-(0:Int)).toNat=4503599627370496+aW:=by
  unfold Ieee.Toward.cut;simp
 simp only[Ieee.Datum.toInt,Ieee.Datum.integral,PP,vS];have hp:IntKind.i64.min=-9223372036854775808:=rfl;have j_:IntKind.i64.max=9223372036854775807:=rfl;rw[hp,j_];simp;omega
theorem Mc:zC .i64 0 0∧zC .i64 9223372036854775808 0:=by
 refine⟨?_,?_⟩
 ·unfold zC; rfl
 ·unfold zC; rfl
theorem aH4{f k:Nat}(ah:0<f)(h:f<2^52)(aq:f.log2=k):k<52∧(f*2^52).log2=k+52∧2^52≤f*2^(52-k)∧f*2^(52-k)<2*2^52∧f*2^52=f*2^(52-k)*2^k:=by
 have wQ:=(Nat.log2_eq_iff (Nat.ne_of_gt ah)).1 aq;have Ej:k<52:=by
  apply Classical.byContradiction;intro U;have I:2^52≤2^k:=Nat.pow_le_pow_right (Nat.zero_lt_succ 1) (Nat.le_of_not_lt U);exact absurd (Nat.lt_of_lt_of_le h I) (Nat.not_lt_of_le wQ.1)
 obtain⟨D,bT⟩:∃ D,D+k=52:=⟨52-k,by omega⟩
 have Aa:52-k=D:=by omega
 have aF:(2:Nat)^52=2^D*2^k:=by rw[← Nat.pow_add,bT]
 rw[Aa];generalize (2:Nat)^52=b at *;have a5:0<b:=by rw[aF]; exact Nat.mul_pos (Nat.two_pow_pos _) (Nat.two_pow_pos _)
 refine⟨Ej,?_,?_,?_,?_⟩
 ·rw[Nat.log2_eq_iff (Nat.ne_of_gt (Nat.mul_pos ah a5))];have dn:(2:Nat)^(k+52)=2^k*b:=by rw[aF,Nat.mul_comm (2^D),← Nat.mul_assoc,← Nat.pow_add,← Nat.pow_add]; congr 1; omega
  have nb:(2:Nat)^(k+52+1)=2^(k+1)*b:=by rw[Nat.pow_succ,dn,Nat.pow_succ,Nat.mul_assoc,Nat.mul_assoc,Nat.mul_comm b]
  rw[dn,nb];exact⟨Nat.mul_le_mul_right _ wQ.1,Nat.mul_lt_mul_of_pos_right wQ.2 a5⟩
 ·have:=Nat.mul_le_mul_right (2^D) wQ.1;rw[Nat.mul_comm (2^k),← aF] at this;exact this
 ·have:=Nat.mul_lt_mul_of_pos_right wQ.2 (Nat.two_pow_pos D);have re:(2:Nat)^(k+1)*2^D=2*b:=by rw[aF,Nat.pow_succ,Nat.mul_comm (2^D),Nat.mul_comm (2^k) 2,Nat.mul_assoc]
  rw[re] at this;exact this
 ·rw[aF,Nat.mul_assoc]
theorem XK{x o y:Nat}(F:x<18446744073709551616)(hm:(~~~ BitVec.ofNat 64 o)=BitVec.ofNat 64 y)(iV:y<18446744073709551616):bits .andNot .u64 (x:Int) (o:Int)=((x&&&y:Nat):Int):=by
 have dI:x&&&y<18446744073709551616:=Nat.lt_of_le_of_lt Nat.and_le_left F;simp only[bits,BitVec.ofInt_natCast];have:(BitVec.ofNat IntKind.u64.bits x &&& ~~~ BitVec.ofNat IntKind.u64.bits o).toNat=x&&&y:=by
  show (BitVec.ofNat 64 x &&& ~~~ BitVec.ofNat 64 o).toNat=x&&&y
  rw[hm,BitVec.toNat_and,BitVec.toNat_ofNat,BitVec.toNat_ofNat,Nat.mod_eq_of_lt F,Nat.mod_eq_of_lt iV]
 rw[this];exact k7 _ (by omega) (by omega)
theorem akl{x:Nat}(F:x<18446744073709551616):bits .andNot .u64 (x:Int) 9223372036854775808=((x%9223372036854775808:Nat):Int):=by
 have:=XK (o:=9223372036854775808) (y:=9223372036854775807) F (by decide) (by omega);rw[show ((9223372036854775808:Nat):Int)=9223372036854775808 from rfl] at this;rw[this];have l:x&&&9223372036854775807=x%2^63:=Nat.and_two_pow_sub_one_eq_mod x 63;rw[l]
theorem ZA{x:Nat}(F:x<9223372036854775808):bits .andNot .u64 (x:Int) 9218868437227405312=((x%4503599627370496:Nat):Int):=by
 have:=XK (o:=9218868437227405312) (y:=9227875636482146303) (show x<18446744073709551616 by omega) (by decide) (by omega);rw[show ((9218868437227405312:Nat):Int)=9218868437227405312 from rfl] at this;rw[this];have hU:x&&&9223372036854775807=x%2^63:=Nat.and_two_pow_sub_one_eq_mod x 63;have aS:x=x&&&9223372036854775807:=by rw[hU]; omega
 have bb:x&&&9227875636482146303=x&&&4503599627370495:=by
  conv=>lhs; rw[aS]
  rw[Nat.and_assoc];rfl
 have dn:x&&&4503599627370495=x%2^52:=Nat.and_two_pow_sub_one_eq_mod x 52;rw[bb,dn]
theorem acL{qW aW:Nat}(Pq:qW<2048)(iy:aW<4503599627370496):bits .or .u64 (aW:Int) ((qW*4503599627370496:Nat):Int)=((qW*4503599627370496+aW:Nat):Int):=by
 have I:=(bits_nat .u64 64 (by decide) k7 aW (qW*4503599627370496) (by omega) (by omega)).2;have R:=(bits_nat .u64 64 (by decide) k7 (qW*4503599627370496) aW (by omega) (by omega)).2;rw[I,Nat.or_comm,← R];rw[bits_join .u64 64 (by decide) k7 52 _ _ (by omega) (by omega) (by omega) (by omega) (by omega) (by omega)];omega
theorem XJ{x:Int}(ah:0≤x)(I:x<2048):bits .and .u64 x 2047=x∧bits .and .i64 x 2047=x:=by
 constructor
 ·have:=bits_mask .u64 64 (by decide) k7 11 (by decide) x ah (by omega);rw[show (2:Int)^11-1=2047 from rfl] at this;rw[this]; omega
 ·have:=bits_mask .i64 63 (by decide) (fun n ah I=>wrap_i64 (by omega) (by omega)) 11 (by decide) x ah (by omega);rw[show (2:Int)^11-1=2047 from rfl] at this;rw[this]; omega
theorem mul_sub{f:Nat}(ah:0<f)(h:f<4503599627370496):∃ z,xE .mul f 4841369599423283200 z∧4503599627370496≤z∧z<60*4503599627370496:=by
 have aS:Ieee.double.read 4841369599423283200=.number false 4503599627370496 0:=by rw[oj (by omega)]; rfl
 have bb:Ieee.double.read f=.number false f (-1074):=by
  rw[oj (by omega)];have bx:kL f=f:=by unfold kL; rw[if_pos h]
  have bK:fy f=0:=by unfold fy; rw[if_pos h]
  rw[bx,bK]; rfl
 have aaw:(2:Nat)^52=4503599627370496:=by decide
 obtain⟨k,aq⟩:∃ k,f.log2=k:=⟨_,rfl⟩
 obtain⟨Ej,P3,wR,r8,F⟩:=aH4 ah (by rw[aaw]; exact h) aq;rw[aaw] at P3 wR r8 F;generalize f*2^(52-k)=q at *;have d_:¬ f*4503599627370496=0:=by omega
 refine⟨k*4503599627370496+q,?_,by omega,by omega⟩;unfold xE floatBits;rw[f64];simp only[Ieee.Format.mul,aS,bb,Ieee.Datum.product,Option.map_some,Ieee.Format.write];congr 1;unfold Ieee.Format.nearest;rw[if_neg d_];simp only[P3,D4,Ar,zS,Ak];have G7:max ((-1074:Int)+0+((k+52:Nat):Int)-((52:Nat):Int)) (-1074)=-1074+(k:Int):=by omega
 rw[G7];have Hh:((-1074:Int)+0-(-1074+(k:Int))).toNat=0:=by omega
 have Af:((-1074+(k:Int))-(-1074+0)).toNat=k:=by omega
 have Qj:((-1074+(k:Int)) - -1074).toNat=k:=by omega
 rw[Hh,Af,Qj,Nat.shiftLeft_zero];rw[Yl (q:=q) F (by rw[P3]; omega)];unfold Ieee.Format.word;rw[if_neg (by simp)];exact Nat.min_eq_left (by omega)
theorem RR(d:Ieee.Datum):d.order d=if d.isNaN then none else some .eq:=by
 have bx:∀ x:Int,compare x x=.eq:=fun x=>Std.ReflCmp.compare_self;have bK:∀ x:Nat,compare x x=.eq:=fun x=>Std.ReflCmp.compare_self;cases d with
 |nan s t=>rfl
 |infinity s=>simp only[Ieee.Datum.order,bK]; rfl
 |number s o i=>simp only[Ieee.Datum.order,bx]; rfl
theorem Rq{f:Nat}(h:f<9218868437227405312):ga .neq f f=false:=by
 unfold ga;rw[f64];simp only[Ieee.Format.order,RR,oj h];rfl
def jL(f:Nat):Prop:=f=9223372036854775808∨f≤4607182418800017408
section
variable {A w:World} {m bX:List bE}
theorem XG{f:Nat}(am:f<18446744073709551616)(H:E A m w):M Pg 181 [.float .f64 f] g4 w fun r J=>r=f%9223372036854775808∧E A m J:=by
 refine U3 ?_;unfold M5;rw[akl am,Int.toNat_natCast];exact⟨rfl,H⟩
theorem abq{f:Nat}(H:E A m w):M Pg 230 [.float .f64 f] bo w fun r J=>r=ga .neq f f∧E A m J:=by
 refine aib ?_;unfold VC;exact⟨rfl,H⟩
theorem inf_spec{f:Nat}{s:Int}(am:f<18446744073709551616)(H:E A m w):M Pg 138 [.float .f64 f,.int .i64 s] bo w fun r J=>r=ga .gtr (if s=0 then f%9223372036854775808 else if s<0 then Op.negFloat .f64 f else f) 9218868437227405311∧E A m J:=by
 refine Uq ?_;unfold MQ C_;by_cases c:s=0
 ·rw[if_pos (by simp[c]),if_pos c];refine ap (XG am H) ?_;rintro r w ⟨rfl,H⟩;exact⟨rfl,H⟩
 ·rw[if_neg (by simpa using c),if_neg c];by_cases d:s<0
  ·rw[if_pos (by simpa using d),if_pos d];exact⟨rfl,H⟩
  ·rw[if_neg (by simpa using d),if_neg d];exact⟨rfl,H⟩
theorem acb{f:Nat}(ah:0<f)(h:f<9218868437227405312)(H:E A m w):M Pg 231 [.float .f64 f] (bB g4 (B .i64)) w fun r J=>(4503599627370496≤f→r=(f,0))∧(f<4503599627370496→r.2=-52∧4503599627370496≤r.1∧r.1<60*4503599627370496)∧E A m J:=by
 refine aic ?_;unfold VD;refine ap (XG (by omega) H) ?_;rintro r w ⟨rfl,H⟩;rw[Nat.mod_eq_of_lt (by omega)];by_cases c:f<4503599627370496
 ·rw[if_pos (aCS c)];obtain⟨z,bN,I,R⟩:=mul_sub ah c;refine aR z bN ?_;exact⟨fun h=>by omega,fun _=>⟨rfl,I,R⟩,H⟩
 ·rw[if_neg (by rw[aCR (by omega) h]; simp)];exact⟨fun _=>rfl,fun h=>absurd h c,H⟩
theorem ZB{f:Nat}(h:f=0∨f=9223372036854775808)(H:E A m w):M Pg 191 [.float .f64 f] (bB g4 (B .i64)) w fun r J=>r=(f,0)∧E A m J:=by
 refine U9 ?_;unfold Nb;rw[if_pos (by rcases h with rfl | rfl<;>rfl)];exact⟨rfl,H⟩
theorem abM{f:Nat}{l:Int}(h:f=0∨f=9223372036854775808)(H:E A m w):M Pg 193 [.float .f64 f,.int .i64 l] g4 w fun r J=>r=f∧E A m J:=by
 refine U_ ?_;unfold Nc;rw[if_pos (by rcases h with rfl | rfl<;>rfl)];exact⟨rfl,H⟩
theorem ae2(z:Nat):Int.fdiv (z:Int) (2^(min ((52:Int)).toNat IntKind.u64.bits))=((z/4503599627370496:Nat):Int):=by
 have:(2:Int)^(min ((52:Int)).toNat IntKind.u64.bits)=4503599627370496:=by decide
 rw[this,Int.fdiv_eq_ediv_of_nonneg _ (by omega)];omega
theorem ZC{f:Nat}(ah:0<f)(h:f≤4607182418800017408)(H:E A m w):M Pg 191 [.float .f64 f] (bB g4 (B .i64)) w fun r J=>(∃ (aW:Nat) (l:Int),r=(1022*4503599627370496+aW,l)∧aW<4503599627370496∧(4503599627370496≤f→aW=f%4503599627370496∧l=(f/4503599627370496:Nat)-1022)∧(f<4503599627370496→-1100≤l∧l≤-1000))∧E A m J:=by
 refine U9 ?_;unfold Nb;rw[if_neg (by rw[Y_ ah (by omega)]; simp)];refine ap (inf_spec (s:=0) (by omega) H) ?_;rintro r w ⟨rfl,H⟩;rw[if_pos rfl,Nat.mod_eq_of_lt (by omega),Rk (by omega),if_neg (by simp)];refine ap (abq H) ?_;rintro r w ⟨rfl,H⟩;rw[Rq (by omega)];unfold IZ;rw[if_neg (by simp)];refine ap (acb ah (by omega) H) ?_;rintro⟨z,l⟩ w ⟨I,R,H⟩;have bN:z<9223372036854775808:=by
  by_cases c:f<4503599627370496
  ·have:=(R c).2.2;simp only at this;omega
  ·have:=I (by omega);cases this;omega
 have Pq:z/4503599627370496<2048:=by omega
 dsimp only;rw[ae2 z];refine aR ((z/4503599627370496:Nat):Int) ⟨by omega,rfl⟩ ?_;rw[(XJ (x:=((z/4503599627370496:Nat):Int)) (by omega) (by omega)).1,ZA bN];have yA:=acL (qW:=1022) (aW:=z%4503599627370496) (by omega) (by omega);rw[show ((1022*4503599627370496:Nat):Int)=4602678819172646912 from rfl] at yA;rw[yA];have dL:IntKind.i64.wrap ((z/4503599627370496:Nat):Int)=((z/4503599627370496:Nat):Int):=wrap_i64 (by omega) (by omega);have cG:IntKind.i64.wrap (((z/4503599627370496:Nat):Int)-1023)=((z/4503599627370496:Nat):Int)-1023:=wrap_i64 (by omega) (by omega);have bl:IntKind.i64.wrap (((z/4503599627370496:Nat):Int)-1023+1)=((z/4503599627370496:Nat):Int)-1022:=by rw[wrap_i64 (by omega) (by omega)]; omega
 rw[dL,cG,bl];have he:l=0∨l=-52:=by
  by_cases c:f<4503599627370496
  ·exact .inr (R c).1
  ·have:=I (by omega);cases this;exact .inl rfl
 have aY:IntKind.i64.wrap (l+(((z/4503599627370496:Nat):Int)-1022))=l+(((z/4503599627370496:Nat):Int)-1022):=wrap_i64 (by omega) (by omega);rw[aY];refine⟨⟨z%4503599627370496,_,by rw[Int.toNat_natCast],by omega,fun aM=>?_,fun aM=>?_⟩,H⟩
 ·have:=I aM;cases this;exact⟨rfl,by omega⟩
 ·obtain⟨a,e,c⟩:=R aM;simp only at a e c;omega
theorem abN{aW:Nat}(h:aW<4503599627370496)(H:E A m w):M Pg 193 [.float .f64 (1022*4503599627370496+aW),.int .i64 53] g4 w fun r J=>r=1075*4503599627370496+aW∧E A m J:=by
 refine U_ ?_;unfold Nc;rw[if_neg (by rw[Y_ (by omega) (by omega)]; simp)];refine ap (inf_spec (s:=0) (by omega) H) ?_;rintro r w ⟨rfl,H⟩;rw[if_pos rfl,Nat.mod_eq_of_lt (by omega),Rk (by omega),if_neg (by simp)];refine ap (abq H) ?_;rintro r w ⟨rfl,H⟩;rw[Rq (by omega)];unfold I0;rw[if_neg (by simp)];refine ap (acb (by omega) (by omega) H) ?_;rintro⟨z,l⟩ w ⟨I,_,H⟩;have:=I (by omega);cases this;dsimp only;rw[ae2 (1022*4503599627370496+aW)];refine aR ((1022:Nat):Int) ⟨by omega,by congr 1; omega⟩ ?_;have dL:IntKind.i64.wrap (((1022:Nat):Int))=1022:=by decide
 rw[dL,(XJ (x:=1022) (by omega) (by omega)).2];have cG:IntKind.i64.wrap (IntKind.i64.wrap (53+0)+IntKind.i64.wrap (1022-1023))=52:=by decide
 rw[cG,if_neg (by decide),if_neg (by decide),if_neg (by decide)];unfold I1;have bl:IntKind.u64.wrap ((IntKind.u64.wrap (IntKind.i64.wrap (52+1023)))*2^(min ((52:Int)).toNat IntKind.u64.bits))=4841369599423283200:=by decide
 rw[bl];refine aR 4841369599423283200 ⟨by omega,rfl⟩ ?_;dsimp only;rw[ZA (show 1022*4503599627370496+aW<9223372036854775808 by omega)];have aS:(1022*4503599627370496+aW)%4503599627370496=aW:=by omega
 rw[aS];have yA:=acL (qW:=1075) (aW:=aW) (by omega) h;rw[show ((1075*4503599627370496:Nat):Int)=4841369599423283200 from rfl] at yA;rw[yA,Int.toNat_natCast];refine aR (1075*4503599627370496+aW) (mul_one h) ?_;exact⟨rfl,H⟩
end
theorem aDc{f:Nat}(h:f<9223372036854775808):Op.negFloat .f64 f=9223372036854775808+f:=by
 have l:(2:Nat)^(FloatKind.f64.format.exponentBits+FloatKind.f64.format.fractionBits)=2^63:=rfl;unfold Op.negFloat;rw[l];have am:f<2^63:=h;have bb:9223372036854775808+f=2^63*1+f:=by omega
 rw[bb];apply Nat.eq_of_testBit_eq;intro D;rw[Nat.testBit_xor,Nat.testBit_two_pow_mul_add 1 am,Nat.testBit_two_pow];by_cases c:D<63
 ·rw[if_pos c];have:decide (63=D)=false:=by simp; omega
  rw[this]; simp
 ·rw[if_neg c];have:f.testBit D=false:=Nat.testBit_lt_two_pow (Nat.lt_of_lt_of_le am (Nat.pow_le_pow_right (by omega) (by omega)));rw[this];by_cases d:63=D
  ·subst d; rfl
  ·have I:decide (63=D)=false:=by simpa using d
   rw[I];have R:Nat.testBit 1 (D-63)=false:=Nat.testBit_lt_two_pow (Nat.one_lt_two_pow (by omega));rw[R]; rfl
theorem aGv{f:Nat}(I:9223372036854775808≤f)(R:f<18446744073709551616):(∃ o i,Ieee.double.read f=.number true o i)∨Ieee.double.read f=.infinity true∨∃ t,Ieee.double.read f=.nan true t:=by
 by_cases c:f=9223372036854775808
 ·subst c;exact .inl ⟨_,_,rfl⟩
 ·rcases aex (show 9223372036854775808<f by omega) R with ⟨o,i,_,l⟩ | h
  ·exact .inl ⟨o,i,l⟩
  ·exact .inr h
theorem ab0{f:Nat}(I:9223372036854775808≤f)(R:f<18446744073709551616):ga .gtr f 9218868437227405311=false:=by
 unfold ga;rw[f64];simp only[Ieee.Format.order,aew];rcases aGv I R with ⟨o,i,l⟩ | l | ⟨t,l⟩
 ·rw[l];simp only[Ieee.Datum.order];have aH:Ieee.signed true o (i-min i 971).toNat≤0:=by
   unfold Ieee.signed;rw[if_pos rfl];have:=Int.natCast_nonneg (o <<< (i-min i 971).toNat);omega
  rw[DP (Int.lt_of_le_of_lt aH (aeY (by omega)))];rfl
 ·rw[l]; rfl
 ·rw[l]; rfl
section
variable {A w:World} {m bX:List bE}
theorem BE{f:Nat}(am:f<18446744073709551616)(H:E A m w):M Pg 87 [.float .f64 f] (B .i64) w fun r J=>(jL f→3≤r∧r≤5)∧(9223372036854775808<f→r<3)∧(3≤r→ga .neq f f=false)∧E A m J:=by
 refine WZ ?_;unfold NV;by_cases aM:ga .neq f f=true
 ·rw[if_pos aM];refine⟨fun h=>?_,fun _=>by omega,fun h=>by omega,H⟩;exfalso;rcases h with rfl | h
  ·exact absurd aM (by decide)
  ·rw[Rq (by omega)] at aM;cases aM
 ·rw[if_neg aM];have aM:ga .neq f f=false:=by simpa using aM
  by_cases cb:f=0
  ·rw[if_pos (by simp[cb])];exact⟨fun _=>by omega,fun h=>by omega,fun _=>aM,H⟩
  ·rw[if_neg (by simpa using cb)];by_cases bx:f=9223372036854775808
   ·rw[if_pos (by simp[bx])];exact⟨fun _=>by omega,fun h=>by omega,fun _=>aM,H⟩
   ·rw[if_neg (by simp; omega)];refine ap (inf_spec (s:=-1) am H) ?_;rintro r w ⟨aa,H⟩;rw[if_neg (by omega),if_pos (by omega)] at aa;subst aa;by_cases aF:f<9223372036854775808
    ·rw[aDc aF,ab0 (by omega) (by omega),if_neg (by simp)];refine ap (inf_spec (s:=1) am H) ?_;rintro r w ⟨aa,H⟩;rw[if_neg (by omega),if_neg (by omega)] at aa;subst aa;by_cases hm:ga .gtr f 9218868437227405311=true
     ·rw[if_pos hm];refine⟨fun h=>?_,fun h=>by omega,fun _=>aM,H⟩;exfalso;rcases h with rfl | h
      ·omega
      ·rw[Rk (by omega)] at hm;cases hm
     ·rw[if_neg hm,if_neg (by rw[aCQ aF]; simp)];exact⟨fun _=>by omega,fun h=>by omega,fun _=>aM,H⟩
    ·split
     ·exact⟨fun h=>by rcases h with h | h<;>omega,fun _=>by omega,fun h=>by omega,H⟩
     ·refine ap (inf_spec (s:=1) am H) ?_;rintro r w ⟨aa,H⟩;rw[if_neg (by omega),if_neg (by omega)] at aa;subst aa;rw[ab0 (by omega) am,if_neg (by simp),if_pos (aCP (by omega) am aM)];exact⟨fun h=>by rcases h with h | h<;>omega,fun _=>by omega,fun h=>by omega,H⟩
def ui(f:Nat):Int:=if f<9223372036854775808 then (f:Int)+9223372036854775808 else 18446744073709551615-f
theorem abx{f:Nat}(am:f<18446744073709551616)(aM:ga .neq f f=false)(H:E A m w):M Pg 139 [.float .f64 f] (B .u64) w fun r J=>r=ui f∧E A m J:=by
 have amO:(2:Int)^(min ((63:Int)).toNat IntKind.u64.bits)=9223372036854775808:=by decide
 refine agY ?_;unfold Ur ui;rw[if_neg (by rw[aM]; simp),amO,Int.fdiv_eq_ediv_of_nonneg _ (by omega)];refine aR _ ⟨by omega,rfl⟩ ?_;by_cases c:f<9223372036854775808
 ·rw[if_neg (by simp; omega),if_pos c];have:=bits_join .u64 64 (by decide) k7 63 9223372036854775808 (f:Int) (by omega) (by omega) (by omega) (by omega) (by omega) (by omega);have R:=(bits_nat .u64 64 (by decide) k7 f 9223372036854775808 (by omega) (by omega)).2;have aK:=(bits_nat .u64 64 (by decide) k7 9223372036854775808 f (by omega) (by omega)).2;have aS:((9223372036854775808:Nat):Int)=9223372036854775808:=rfl;rw[aS] at R aK;rw[R,Nat.or_comm,← aK,this];exact⟨by omega,H⟩
 ·rw[if_pos (by simp; omega),if_neg c];have F:bits .xor .u64 IntKind.u64.max (f:Int)=bits .xor .u64 (f:Int) IntKind.u64.max:=by
   simp only[bits,BitVec.xor_comm]
  have I:bits .xor .u64 (f:Int) 18446744073709551615=18446744073709551615-(f:Int):=agd (by omega) (by omega);have R:IntKind.u64.max=18446744073709551615:=rfl;rw[F,R,I];exact⟨rfl,H⟩
theorem al8{f g:Nat}(am:f<18446744073709551616)(O:g<18446744073709551616)(aM:ga .neq f f=false)(hm:ga .neq g g=false)(H:E A m w):M Pg 88 [.float .f64 f,.float .f64 g] (B .i64) w fun r J=>(0<r↔ui g<ui f)∧E A m J:=by
 refine ajE ?_;unfold W0;refine ap (abx am aM H) ?_;rintro r w ⟨rfl,H⟩;refine ap (abx O hm H) ?_;rintro r w ⟨rfl,H⟩;by_cases c:ui f<ui g
 ·rw[if_pos (by simpa using c)];exact⟨by omega,H⟩
 ·rw[if_neg (by simpa using c)];by_cases d:ui g<ui f
  ·rw[if_pos (by simpa using d)];exact⟨by omega,H⟩
  ·rw[if_neg (by simpa using d)];exact⟨by omega,H⟩
theorem LN{f:Nat}(am:f<18446744073709551616)(H:E A m w):M Pg 38 [.float .f64 f] (B .i64) w fun r J=>(r=0↔jL f)∧(r≠0→r=43)∧E A m J:=by
 refine aiN ?_;unfold Wc I4;refine ap (BE am H) ?_;rintro r w ⟨I,R,aK,H⟩;by_cases c:r<3
 ·rw[if_pos (by simpa using c),if_pos rfl];exact⟨⟨fun h=>by omega,fun h=>by have:=I h; omega⟩,fun _=>rfl,H⟩
 ·rw[if_neg (by simpa using c)];have ll:f≤9223372036854775808:=by
   apply Classical.byContradiction;intro U;have:=R (by omega);omega
  refine ap (al8 am (by omega) (aK (by omega)) (by decide) H) ?_;rintro q w ⟨ba,H⟩;have aS:ui 4607182418800017408=4607182418800017408+9223372036854775808:=rfl;rw[aS] at ba;by_cases d:0<q
  ·rw[if_pos (by simpa using d)];have:=ba.1 d;refine⟨⟨fun h=>by omega,fun h=>?_⟩,fun _=>rfl,H⟩;exfalso;unfold ui at this;rcases h with rfl | h
   ·rw[if_neg (by omega)] at this;omega
   ·rw[if_pos (by omega)] at this;omega
  ·rw[if_neg (by simpa using d)];refine⟨⟨fun _=>?_,fun _=>rfl⟩,fun h=>absurd rfl h,H⟩;by_cases cb:f=9223372036854775808
   ·exact .inl cb
   ·right;have:¬ (4607182418800017408+9223372036854775808:Int)<ui f:=fun h=>d (ba.2 h);unfold ui at this;rw[if_pos (by omega)] at this;omega
theorem u4{n:Int}(H:E A m w):M Pg 213 [.int .i64 n] (B .i64) w fun r J=>r=(if 0≤n∧n≤1000000000000000 then 0 else 40)∧E A m J:=by
 refine ahV ?_;unfold Vk;by_cases c:0≤n∧n≤1000000000000000
 ·rw[if_neg (by simp; omega),if_pos c];exact⟨rfl,H⟩
 ·rw[if_pos (by simp; omega),if_neg c];exact⟨rfl,H⟩
end
def ko(n:Int)(f:Nat):Int:=if f<4503599627370496∨f=9223372036854775808 then 0 else ((n.toNat*(4503599627370496+f%4503599627370496)/2^(1075-f/4503599627370496):Nat):Int)
theorem JJ(b k:Nat)(h:52≤k):b/2^k≤b/4503599627370496:=by
 have aF:(2:Nat)^52=4503599627370496:=by decide
 rw[← aF];exact Nat.div_le_div_left (Nat.pow_le_pow_right (by omega) h) (Nat.two_pow_pos _)
theorem GO{n:Int}{f:Nat}(ah:0≤n)(I:n≤1000000000000000)(h:jL f):0≤ko n f∧ko n f≤2*n:=by
 unfold ko;split
 ·omega
 ·rename_i U;have am:f≤4607182418800017408:=by
   rcases h with h | h
   ·omega
   ·exact h
  have ag:=JJ (n.toNat*(4503599627370496+f%4503599627370496)) (1075-f/4503599627370496) (by omega);have hm:n.toNat*(4503599627370496+f%4503599627370496)≤n.toNat*(2*4503599627370496):=Nat.mul_le_mul_left _ (by omega);refine⟨Int.natCast_nonneg _,?_⟩;generalize n.toNat*(4503599627370496+f%4503599627370496)/2^(1075-f/4503599627370496)=Q at *;generalize n.toNat*(4503599627370496+f%4503599627370496)=cm at *;omega
section
variable {A w:World} {m bX:List bE}
theorem BH(x:Nat)(k:Nat)(aq:k≤64)(e:Int)(ao:e=(k:Int)):Int.fdiv (x:Int) (2^(min e.toNat IntKind.u64.bits))=((x/2^k:Nat):Int):=by
 subst ao;have l:min ((k:Int)).toNat IntKind.u64.bits=k:=by
  rw[Int.toNat_natCast];exact Nat.min_eq_left aq
 rw[l,Int.fdiv_eq_ediv_of_nonneg _ (Int.le_of_lt (Int.pow_pos (by omega)))];rw[Int.natCast_ediv];congr 1
theorem CR{n:Int}(ah:0≤n)(I:n≤9223372036854775807)(H:E A m w):M Pg 153 [.int .i64 n] (B .u64) w fun r J=>r=n∧E A m J:=by
 refine UE ?_;unfold MX;rw[if_neg (by simp; omega)];exact⟨k7 n ah (by omega),H⟩
theorem aHx{n:Int}(ah:0≤n)(I:n<9223372036854775808)(H:E A m w):M Pg 155 [.bool false,.int .u64 n] (bB (B .i64) (B .i64)) w fun r J=>r=(n,0)∧E A m J:=by
 refine UF ?_;unfold MY;rw[if_neg (by simp),if_pos (by simp; omega),wrap_i64 (by omega) (by omega)];exact⟨rfl,H⟩
theorem K7{x S:Nat}(F:x<18446744073709551616)(aB:S<18446744073709551616)(H:E A m w):M Pg 152 [.int .u64 (x:Int),.int .u64 (S:Int)] (bB (B .u64) (B .u64)) w fun r J=>r=(((x*S/18446744073709551616:Nat):Int),((x*S%18446744073709551616:Nat):Int))∧E A m J:=by
 refine ahc ?_;unfold UD;have aEE:(2:Nat)^32=4294967296:=by decide
 have m32:∀ z:Nat,z<18446744073709551616→bits .and .u64 (z:Int) 4294967295=((z%4294967296:Nat):Int):=by
  intro z bN;have:=bits_mask .u64 64 (by decide) k7 32 (by decide) (z:Int) (by omega) (by omega);rw[show (2:Int)^32-1=4294967295 from rfl] at this;rw[this];omega
 have Ir:∀ z:Nat,Int.fdiv (z:Int) (2^(min ((32:Int)).toNat IntKind.u64.bits))=((z/4294967296:Nat):Int):=by
  intro z;rw[BH z 32 (by omega) 32 rfl,aEE]
 have wn:∀ z:Nat,z<18446744073709551616→IntKind.u64.wrap (z:Int)=(z:Int):=fun z bN=>k7 _ (by omega) (by omega);rw[m32 x F,m32 S aB];obtain⟨cp,Ai⟩:∃ z,x/4294967296=z:=⟨_,rfl⟩
 obtain⟨bH,asb⟩:∃ z,x%4294967296=z:=⟨_,rfl⟩
 obtain⟨g9,B_⟩:∃ z,S/4294967296=z:=⟨_,rfl⟩
 obtain⟨hO,B9⟩:∃ z,S%4294967296=z:=⟨_,rfl⟩
 have X3:cp≤4294967295:=by omega
 have X2:bH≤4294967295:=by omega
 have X5:g9≤4294967295:=by omega
 have X4:hO≤4294967295:=by omega
 have r9:x=cp*4294967296+bH:=by omega
 have Ca:S=g9*4294967296+hO:=by omega
 refine aR (cp:Int) ⟨by omega,by rw[Ir x,Ai]⟩ ?_;refine aR (g9:Int) ⟨by omega,by rw[Ir S,B_]⟩ ?_;rw[asb,B9];have aJX:bH*hO≤4294967295*4294967295:=Nat.mul_le_mul X2 X4;have aJY:bH*g9≤4294967295*4294967295:=Nat.mul_le_mul X2 X5;have XR:cp*hO≤4294967295*4294967295:=Nat.mul_le_mul X3 X4;have DJ:cp*g9≤4294967295*4294967295:=Nat.mul_le_mul X3 X5;have aKF:x*S=cp*g9*18446744073709551616+(cp*hO+bH*g9)*4294967296+bH*hO:=by
  rw[r9,Ca,Nat.add_mul,Nat.mul_add,Nat.mul_add];have aS:cp*4294967296*(g9*4294967296)=cp*g9*18446744073709551616:=by rw[Nat.mul_mul_mul_comm]
  have bb:cp*4294967296*hO=cp*hO*4294967296:=by rw[Nat.mul_assoc,Nat.mul_comm 4294967296,← Nat.mul_assoc]
  have dn:bH*(g9*4294967296)=bH*g9*4294967296:=by rw[Nat.mul_assoc]
  rw[aS,bb,dn,Nat.add_mul];omega
 have ak4:((bH:Int)*(hO:Int))=((bH*hO:Nat):Int):=by rw[Int.natCast_mul]
 have ak5:((bH:Int)*(g9:Int))=((bH*g9:Nat):Int):=by rw[Int.natCast_mul]
 have ak6:((cp:Int)*(hO:Int))=((cp*hO:Nat):Int):=by rw[Int.natCast_mul]
 have ak7:((cp:Int)*(g9:Int))=((cp*g9:Nat):Int):=by rw[Int.natCast_mul]
 have amq:((x:Int)*(S:Int))=((x*S:Nat):Int):=by rw[Int.natCast_mul]
 rw[ak4,ak5,ak6,ak7,amq];generalize bH*hO=d at *;generalize bH*g9=c at *;generalize cp*hO=e at *;generalize cp*g9=a at *;generalize x*S=b at *;rw[wn d (by omega),wn e (by omega),wn c (by omega),wn a (by omega)];refine aR ((d/4294967296:Nat):Int) ⟨by omega,(Ir d).symm⟩ ?_;have aS:(e:Int)+((d/4294967296:Nat):Int)=((e+d/4294967296:Nat):Int):=by omega
 rw[aS,wn _ (by omega),m32 _ (by omega)];refine aR (((e+d/4294967296)/4294967296:Nat):Int) ⟨by omega,(Ir _).symm⟩ ?_;have bb:(((e+d/4294967296)%4294967296:Nat):Int)+(c:Int)=(((e+d/4294967296)%4294967296+c:Nat):Int):=by omega
 rw[bb,wn _ (by omega)];refine aR ((((e+d/4294967296)%4294967296+c)/4294967296:Nat):Int) ⟨by omega,(Ir _).symm⟩ ?_;have dn:(a:Int)+(((e+d/4294967296)/4294967296:Nat):Int)=((a+(e+d/4294967296)/4294967296:Nat):Int):=by omega
 rw[dn,wn _ (by omega)];have nb:((a+(e+d/4294967296)/4294967296:Nat):Int)+((((e+d/4294967296)%4294967296+c)/4294967296:Nat):Int)=((a+(e+d/4294967296)/4294967296+((e+d/4294967296)%4294967296+c)/4294967296:Nat):Int):=by omega
 rw[nb,wn _ (by omega)];have re:IntKind.u64.wrap (b:Int)=((b%18446744073709551616:Nat):Int):=by rw[lP]; omega
 rw[re];refine⟨?_,H⟩;have x4:a+(e+d/4294967296)/4294967296+((e+d/4294967296)%4294967296+c)/4294967296=b/18446744073709551616:=by omega
 rw[x4]
theorem DT{b k:Nat}(a5:b<2^104)(aq:52≤k)(jG:k≤4000)(H:E A m w):M Pg 156 [.int .u64 ((b/18446744073709551616:Nat):Int),.int .u64 ((b%18446744073709551616:Nat):Int),.int .u64 (k:Int)] (mz (B .u64) bo bo) w fun r J=>r.1=((b/2^k:Nat):Int)∧r.2.2=true∧E A m J:=by
 have y8:(2:Nat)^64=18446744073709551616:=by decide
 have y7:(2:Nat)^104=18446744073709551616*1099511627776:=by decide
 refine UG ?_;unfold MZ;by_cases bx:128≤k
 ·rw[if_pos (by simp; omega)];have:b/2^k=0:=Nat.div_eq_of_lt (Nat.lt_of_lt_of_le a5 (Nat.pow_le_pow_right (by omega) (by omega)));rw[this];exact⟨rfl,rfl,H⟩
 ·rw[if_neg (by simp; omega)];by_cases bK:64<k
  ·rw[if_pos (by simp; omega)];have dL:IntKind.u64.wrap ((k:Int)-64)=((k-64:Nat):Int):=by rw[k7 _ (by omega) (by omega)]; omega
   have cG:IntKind.u64.wrap ((128:Int)-(k:Int))=((128-k:Nat):Int):=by rw[k7 _ (by omega) (by omega)]; omega
   rw[dL,cG];refine aR _ ⟨by omega,(BH (b/18446744073709551616) (k-64) (by omega) _ rfl).symm⟩ ?_;refine aR _ ⟨by omega,rfl⟩ ?_;refine⟨?_,rfl,H⟩;have:2^k=18446744073709551616*2^(k-64):=by rw[← y8,← Nat.pow_add]; congr 1; omega
   simp only;rw[this,Nat.div_div_eq_div_mul]
  ·rw[if_neg (by simp; omega)];by_cases ck:k=64
   ·subst ck;rw[if_pos (by simp)];exact⟨by rw[y8],rfl,H⟩
   ·rw[if_neg (by simp; omega)];have dL:IntKind.u64.wrap ((64:Int)-(k:Int))=((64-k:Nat):Int):=by rw[k7 _ (by omega) (by omega)]; omega
    rw[dL];obtain⟨D,bT⟩:∃ D,D+k=64:=⟨64-k,by omega⟩
    have Aa:64-k=D:=by omega
    rw[Aa];have yB:(2:Nat)^D*2^k=18446744073709551616:=by rw[← Nat.pow_add,bT,y8]
    have Ej:4503599627370496≤2^k:=by
     have:(2:Nat)^52=4503599627370496:=by decide
     rw[← this];exact Nat.pow_le_pow_right (by omega) aq
    have PY:2^D≤4096:=by
     have:(2:Nat)^12=4096:=by decide
     rw[← this];exact Nat.pow_le_pow_right (by omega) (by omega)
    have aaj:b/18446744073709551616<1099511627776:=by
     rw[y7] at a5;exact Nat.div_lt_of_lt_mul a5
    have G9:b%18446744073709551616<18446744073709551616:=Nat.mod_lt _ (by omega);have J5:b=b/18446744073709551616*18446744073709551616+b%18446744073709551616:=by omega
    have hdiv:b/2^k=b/18446744073709551616*2^D+b%18446744073709551616/2^k:=by
     conv=>lhs; rw[J5,← yB,← Nat.mul_assoc]
     rw[yB,Nat.add_comm,Nat.add_mul_div_right _ _ (Nat.two_pow_pos k),Nat.add_comm]
    generalize b/18446744073709551616=ay at *;generalize b%18446744073709551616=nM at *;have mv:nM/2^k<2^D:=Nat.div_lt_of_lt_mul (by rw[Nat.mul_comm,yB]; exact G9);have G3:ay*2^D≤1099511627776*4096:=Nat.mul_le_mul (by omega) PY;refine aR _ ⟨by omega,(BH nM k (by omega) _ rfl).symm⟩ ?_;have aS:IntKind.u64.wrap ((ay:Int)*2^(min ((D:Int)).toNat IntKind.u64.bits))=((ay*2^D:Nat):Int):=by
     have:min ((D:Int)).toNat IntKind.u64.bits=D:=by
      rw[Int.toNat_natCast];exact Nat.min_eq_left (by show D≤64; omega)
     rw[this];have c:(ay:Int)*2^D=((ay*2^D:Nat):Int):=by rw[Int.natCast_mul]; congr 1
     rw[c];exact k7 _ (by omega) (by omega)
    refine aR _ ⟨by omega,rfl⟩ ?_;rw[aS];refine aR _ ⟨by omega,rfl⟩ ?_;refine aR _ ⟨by omega,(BH ay k (by omega) _ rfl).symm⟩ ?_;have ah:ay/2^k=0:=Nat.div_eq_of_lt (by omega);rw[ah];refine⟨?_,rfl,H⟩;simp only;rw[hdiv];have yA:=(bits_nat .u64 64 (by decide) k7 (nM/2^k) (ay*2^D) (by omega) (by omega)).2;rw[yA,Nat.or_comm,Nat.mul_comm ay,← Nat.two_pow_add_eq_or_of_lt mv]
theorem K5{f:Nat}{ab:Nat×Int→World→Prop}(h:M Pg 191 [.float .f64 f] (bB g4 (B .i64)) w ab):M Pg 150 [.float .f64 f] (bB g4 (B .i64)) w ab:=by
 refine aha ?_;unfold UB;exact h
theorem K6{f:Nat}{l:Int}{ab:Nat→World→Prop}(h:M Pg 193 [.float .f64 f,.int .i64 l] g4 w ab):M Pg 151 [.float .f64 f,.int .i64 l] g4 w ab:=by
 refine ahb ?_;unfold UC;exact h
theorem afu{n:Int}{f:Nat}(ah:0≤n)(I:n≤1000000000000000)(am:jL f)(H:E A m w):M Pg 95 [.int .i64 n,.float .f64 f] (bB (B .i64) (B .i64)) w fun r J=>r=(ko n f,0)∧E A m J:=by
 have wP:f<18446744073709551616:=by rcases am with h | h<;>omega
 obtain⟨k,rfl⟩:∃ k:Nat,n=(k:Int):=⟨n.toNat,by omega⟩
 refine W5 ?_;unfold I7;refine ap (BE wP H) ?_;rintro c w ⟨U,_,_,H⟩;have U:=U am;rw[if_neg (by simp; omega),if_neg (by simp; omega)];have x4:(c==6)=false:=by rw[beq_eq_false_iff_ne]; omega
 rw[x4];unfold Dg;rw[if_neg (by simp)];by_cases bN:f=0∨f=9223372036854775808
 ·refine K5 (ap (ZB bN H) ?_);rintro r w ⟨rfl,H⟩;refine K6 (ap (abM (l:=53) bN H) ?_);rintro r w ⟨rfl,H⟩;refine aR 0 (by rcases bN with h | h<;>subst h; exact Mc.1; exact Mc.2) ?_;refine ap (CR ah (by omega) H) ?_;rintro r w ⟨rfl,H⟩;refine ap (CR (n:=0) (by omega) (by omega) H) ?_;rintro r w ⟨rfl,H⟩;refine ap (K7 (x:=k) (S:=0) (by omega) (by omega) H) ?_;rintro r w ⟨rfl,H⟩;rw[if_pos (by simp)];have:ko k r=0:=by
   unfold ko;rw[if_pos (by omega)]
  rw[this];exact⟨rfl,H⟩
 ·have ll:0<f∧f≤4607182418800017408:=by rcases am with h | h<;>omega
  refine K5 (ap (ZC ll.1 ll.2 H) ?_);rintro r w ⟨⟨aW,l,rfl,iy,aM,aH⟩,H⟩;refine K6 (ap (abN iy H) ?_);rintro r w ⟨rfl,H⟩;refine aR _ (afy iy) ?_;refine ap (CR ah (by omega) H) ?_;rintro r w ⟨rfl,H⟩;refine ap (CR (n:=((4503599627370496+aW:Nat):Int)) (by omega) (by omega) H) ?_;rintro r w ⟨rfl,H⟩;refine ap (K7 (x:=k) (S:=4503599627370496+aW) (by omega) (by omega) H) ?_;rintro r w ⟨rfl,H⟩;have J8:k*(4503599627370496+aW)≤1000000000000000*9007199254740992:=Nat.mul_le_mul (by omega) (by omega);have y7:(2:Nat)^104=18446744073709551616*1099511627776:=by decide
  have he:l≤1∧-1100≤l∧(f<4503599627370496→l≤-1000):=by
   by_cases c:f<4503599627370496
   ·have:=aH c;omega
   ·have:=(aM (by omega)).2;omega
  have dL:IntKind.i64.wrap (l-53)=l-53:=wrap_i64 (by omega) (by omega);have cG:IntKind.u64.wrap (IntKind.i64.wrap (0-(l-53)))=((53-l).toNat:Nat):=by rw[wrap_i64 (by omega) (by omega),k7 _ (by omega) (by omega)]; omega
  dsimp only;rw[dL,cG];have BZ:ko k f=((k*(4503599627370496+aW)/2^(53-l).toNat:Nat):Int):=by
   unfold ko;by_cases c:f<4503599627370496
   ·rw[if_pos (.inl c)];have aq:104≤(53-l).toNat:=by have:=he.2.2 c; omega
    have aF:2^104≤2^(53-l).toNat:=Nat.pow_le_pow_right (by omega) aq;rw[Nat.div_eq_of_lt (Nat.lt_of_lt_of_le (by rw[y7]; omega) aF)];rfl
   ·rw[if_neg (by omega)];obtain⟨a,e⟩:=aM (by omega);have:(53-l).toNat=1075-f/4503599627370496:=by omega
    rw[this,Int.toNat_natCast,a]
  rw[BZ];have ba:=JJ (k*(4503599627370496+aW)) (53-l).toNat (by omega);by_cases F:k*(4503599627370496+aW)=0
  ·rw[if_pos (by rw[F]; simp),F];exact⟨by simp,H⟩
  ·generalize k*(4503599627370496+aW)=cm at *;rw[if_neg (by simp; omega),if_neg (by simp; omega)];refine ap (DT (b:=cm) (k:=(53-l).toNat) (by rw[y7]; omega) (by omega) (by omega) H) ?_;rintro⟨q,rest,fits⟩ w ⟨I,R,H⟩;simp only at I R;subst I; subst R;have aS:decide ((k:Int)<0)=false:=by simp
   have bb:decide (((4503599627370496+aW:Nat):Int)<0)=false:=by rw[decide_eq_false_iff_not]; omega
   rw[aS,bb];rw[if_neg (by simp),if_neg (by simp)];unfold Bc;rw[aS,bb];generalize cm/2^(53-l).toNat=Q at *;refine ap (aHx (n:=((Q:Nat):Int)) (by omega) (by omega) H) ?_;rintro r w ⟨rfl,H⟩;exact⟨rfl,H⟩
theorem aon{n:Int}{f:Nat}(ah:0≤n)(I:n≤1000000000000000)(am:jL f)(H:E A m w):M Pg 248 [.int .i64 n,.float .f64 f] (bB (B .i64) (B .i64)) w fun r J=>r=(ko n f,0)∧E A m J:=by
 have wP:f<18446744073709551616:=by rcases am with h | h<;>omega
 refine aim ?_;unfold VM;refine ap (u4 H) ?_;rintro r w ⟨rfl,H⟩;rw[if_pos (⟨ah,I⟩:0≤n∧n≤1000000000000000),if_neg (by simp)];refine ap (LN wP H) ?_;rintro r w ⟨R,_,H⟩;have:=R.2 am;subst this;rw[if_neg (by simp)];refine ap (afu ah I am H) ?_;rintro r w ⟨rfl,H⟩;exact⟨rfl,H⟩
def iA(n:Int):Prop:=0≤n∧n≤1000000000000000
theorem aIB{a e:Int}{s:af}(k:dr 1 m (B .i64) s [a,e])(H:E A m w):M Pg 260 [X.enc s] (bB (B .i64) (B .i64)) w fun r J=>(r.2=0↔iA a∧iA e∧a+e≤1000000000000000)∧(r.2=0→r.1=a+e)∧E A m J:=by
 have aH:=k.len H;simp only[List.length_cons,List.length_nil] at aH;refine aiz ?_;unfold VZ;refine ia (fun p w=>(p=(0,0)∨(iA a∧p=(a,1))∨(iA a∧iA e∧p=(a+e,2)))∧E A m w) (fun p=>(2-p.2).toNat) ⟨.inl rfl,H⟩ ?_;clear H;rintro⟨sum,i⟩ w ⟨ay,H⟩ ab cg;unfold Nt I3;simp only;rw[aH];have step:∀ (x:Int) (D:Nat),i=(D:Int)→D<2→([a,e]:List Int)[D]?=some x→sum≤1000000000000000→(iA x→((sum+x,i+1)=(0,0)∨(iA a∧(sum+x,i+1)=(a,1))∨(iA a∧iA e∧(sum+x,i+1)=(a+e,2)))∧-1000000000000000000≤sum)→(¬ iA x→¬ (iA a∧iA e∧a+e≤1000000000000000)) →
   if decide (i<((0+1+1:Nat):Int))=true then
    ex (cT s 1 i) fun cZ=>ex (L (B .i64) cZ w) fun cJ=>M Pg 213 [.int .i64 (cJ)] (B .i64) w fun g8 cu=>
     if (g8 != (0:Int))=true then (((0:Int),(40:Int)).2=0↔iA a∧iA e∧a+e≤1000000000000000)∧(((0:Int),(40:Int)).2=0→((0:Int),(40:Int)).1=a+e)∧E A m cu
     else if (decide (sum≤(1000000000000000:Int)))=true then ab (IntKind.i64.wrap (sum+cJ),IntKind.i64.wrap (i+(1:Int))) cu else ab (sum,IntKind.i64.wrap (i+(1:Int))) cu
   else M Pg 213 [.int .i64 sum] (B .i64) w fun fI df=>if (fI != (0:Int))=true then (((0:Int),(40:Int)).2=0↔iA a∧iA e∧a+e≤1000000000000000)∧(((0:Int),(40:Int)).2=0→((0:Int),(40:Int)).1=a+e)∧E A m df else ((sum,(0:Int)).2=0↔iA a∧iA e∧a+e≤1000000000000000)∧((sum,(0:Int)).2=0→(sum,(0:Int)).1=a+e)∧E A m df:=by
  intro x D G3 bT F Kv ok no;rw[if_pos (by simp; omega)];obtain⟨c,U⟩:=k.iH (i:=i) H (by omega) (by simp; omega);refine aR c U ?_;refine aR x (k.rd U (by rw[G3,Int.toNat_natCast]; exact F) H) ?_;refine ap (u4 H) ?_;rintro r w ⟨rfl,H⟩;by_cases dA:0≤x∧x≤1000000000000000
  ·rw[if_pos dA,if_neg (by simp),if_pos (by simpa using Kv)];obtain⟨I,R⟩:=ok dA;rw[wrap_i64 (x:=sum+x) (by omega) (by omega),wrap_i64 (x:=i+1) (by omega) (by omega)];exact cg _ _ ⟨I,H⟩ (by simp only; omega)
  ·rw[if_neg dA,if_pos (by simp)];exact⟨⟨fun h=>by simp at h,fun h=>absurd h (no dA)⟩,fun h=>by simp at h,H⟩
 rcases ay with ay | ⟨Y,ay⟩ | ⟨Y,ao,ay⟩
 ·cases ay;exact step a 0 rfl (by omega) rfl (by omega) (fun h=>⟨.inr (.inl ⟨h,by simp⟩),by omega⟩) fun h cK=>h cK.1
 ·cases ay;exact step e 1 rfl (by omega) rfl Y.2 (fun h=>⟨.inr (.inr ⟨Y,h,by trivial⟩),by have:=Y.1; omega⟩) fun h cK=>h cK.2.1
 ·cases ay;rw[if_neg (by simp)];refine ap (u4 H) ?_;rintro r w ⟨rfl,H⟩;have I:=Y.1;have R:=ao.1;by_cases dA:a+e≤1000000000000000
  ·have l:(if 0≤a+e∧a+e≤1000000000000000 then (0:Int) else 40)=0:=if_pos ⟨by omega,dA⟩;rw[l,if_neg (by simp)];exact⟨⟨fun _=>⟨Y,ao,dA⟩,fun _=>by trivial⟩,fun _=>rfl,H⟩
  ·have l:(if 0≤a+e∧a+e≤1000000000000000 then (0:Int) else 40)=40:=if_neg (fun h=>dA h.2);rw[l,if_pos (by simp)];exact⟨⟨fun h=>by simp at h,fun h=>absurd h.2.2 dA⟩,fun h=>by simp at h,H⟩
theorem akr{a e:Int}(H:E A m w):M Pg 247 [.int .i64 a,.int .i64 e] (bB (B .i64) (B .i64)) w fun r J=>(r.2=0↔iA a∧iA e∧a+e≤1000000000000000)∧(r.2=0→r.1=a+e)∧E A m J:=by
 refine ail ?_;unfold VL;refine vA H fun iS w H=>?_;have H:=uB (ar:=1) (o:=2) rfl H;refine ap (aIB (a:=a) (e:=e) (dr.row (fun _=>rfl) 0 rfl) H) ?_;rintro r w ⟨I,R,H⟩;exact⟨I,R,H.drop⟩
end
end Num
namespace Disk
open bj Wire
def Md(c:Int):Int:=bits .xor .u32 (Int.fdiv c (2^(min ((1:Int)).toNat IntKind.u32.bits))) (bits .and .u32 (IntKind.u32.wrap (0-(bits .and .u32 c (1:Int)))) (3988292384:Int))
def turns:Nat→Int→Int
 |0,c=>c
 |n+1,c=>turns n (Md c)
def sl(c:Int):List UInt8→Int
 |[]=>c
 |x::xs=>sl (turns 8 (bits .xor .u32 c (IntKind.u32.wrap (x.toNat:Int)))) xs
def SX(a e:List UInt8):Int:=bits .xor .u32 IntKind.u32.max (sl (sl 4294967295 a) e)
def zg(a e:List UInt8):Nat:=(SX a e).toNat
theorem DK(op:BinOp)(a e:Int):0≤bits op .u32 a e∧bits op .u32 a e<4294967296:=by
 have h:∀ n:Int,0≤IntKind.u32.wrap n∧IntKind.u32.wrap n<4294967296:=by
  intro n;have:IntKind.u32.wrap n=n%4294967296:=by simp[IntKind.wrap,IntKind.bits,IntKind.signed]
  rw[this]; omega
 exact h _
theorem afA:∀ (n:Nat) (c:Int),0≤c→c<4294967296→0≤turns n c∧turns n c<4294967296
 |0,c,ah,I=>⟨ah,I⟩
 |n+1,c,_,_=>afA n (Md c) (DK _ _ _).1 (DK _ _ _).2
theorem acF:∀ (aw:List UInt8) (c:Int),0≤c→c<4294967296→0≤sl c aw∧sl c aw<4294967296
 |[],c,ah,I=>⟨ah,I⟩
 |x::xs,c,ah,I=>by
  have h:=afA 8 (bits .xor .u32 c (IntKind.u32.wrap (x.toNat:Int))) (DK _ _ _).1 (DK _ _ _).2;exact acF xs _ h.1 h.2
theorem afc(a e:List UInt8):((zg a e:Nat):Int)=SX a e:=by
 have:=(DK .xor IntKind.u32.max (sl (sl 4294967295 a) e)).1;unfold zg;exact Int.toNat_of_nonneg this
theorem afd(a e:List UInt8):zg a e<4294967296:=by
 have:=(DK .xor IntKind.u32.max (sl (sl 4294967295 a) e)).2;have h:=afc a e;unfold SX at h;omega
def hh(x:List UInt8):List UInt8:=be 4 x.length++(be 4 (zg (be 4 x.length) x)++x)
def cF(m:List (List UInt8)):List UInt8:=m.flatMap hh
theorem va(x:List UInt8):(hh x).length=8+x.length:=by simp[hh,uZ]; omega
theorem ZD(m o:List (List UInt8)):cF (m++o)=cF m++cF o:=by simp[cF]
def p7:List UInt8→Nat
 |a::e::c::d::_=>((a.toNat*256+e.toNat)*256+c.toNat)*256+d.toNat
 |_=>0
theorem Sw{n:Nat}(h:n<4294967296)(rest:List UInt8):p7 (be 4 n++rest)=n:=by
 have ah:(UInt8.ofNat (n/256^3%256)).toNat=n/16777216%256:=by rw[AQ (by omega)]
 have I:(UInt8.ofNat (n/256^2%256)).toNat=n/65536%256:=by rw[AQ (by omega)]
 have R:(UInt8.ofNat (n/256^1%256)).toNat=n/256%256:=by rw[AQ (by omega)]
 have aK:(UInt8.ofNat (n/256^0%256)).toNat=n%256:=by rw[AQ (by omega)]; simp
 simp only[be,List.cons_append,p7,ah,I,R,aK];omega
def nO(aw:List UInt8):Except Int (List UInt8×Nat):=
 if aw.length<8 then .error 31 else if 65536<p7 aw then .error 30 else if aw.length-8<p7 aw then .error 31
 else if zg (aw.take 4) ((aw.drop 8).take (p7 aw))≠p7 (aw.drop 4) then .error 32 else .ok ((aw.drop 8).take (p7 aw),8+p7 aw)
theorem aEw{x:List UInt8}(h:x.length≤65536)(rest:List UInt8):nO (hh x++rest)=.ok (x,8+x.length):=by
 have l:hh x++rest=be 4 x.length++(be 4 (zg (be 4 x.length) x)++(x++rest)):=by simp[hh]
 have g2:p7 (hh x++rest)=x.length:=by rw[l]; exact Sw (by omega) _
 have d4:(hh x++rest).drop 4=be 4 (zg (be 4 x.length) x)++(x++rest):=by
  rw[l]; exact List.drop_left' (uZ 4 _)
 have t4:(hh x++rest).take 4=be 4 x.length:=by rw[l]; exact List.take_left' (uZ 4 _)
 have d8:(hh x++rest).drop 8=x++rest:=by
  have:(hh x++rest).drop 8=((hh x++rest).drop 4).drop 4:=by rw[List.drop_drop]
  rw[this,d4]; exact List.drop_left' (uZ 4 _)
 have al:(hh x++rest).length=8+x.length+rest.length:=by rw[List.length_append,va]
 unfold nO;rw[g2,d4,t4,d8,Sw (afd _ _),al,List.take_left];rw[if_neg (by omega),if_neg (by omega),if_neg (by omega),if_neg (by simp)]
theorem aEu{x p q:List UInt8}(h:x.length≤65536)(he:hh x=p++q)(ba:q≠[]):∃ l,nO p=.error l:=by
 have al:=congrArg List.length he;rw[va,List.length_append] at al;have kq:q.length≠0:=fun l=>ba (List.eq_nil_of_length_eq_zero l);unfold nO;by_cases c:p.length<8
 ·exact⟨31,if_pos c⟩
 ·have aT:p.take 4=be 4 x.length:=by
   have:=congrArg (List.take 4) he;rw[List.take_append_of_le_length (by omega)] at this;rw[← this,hh]; exact List.take_left' (uZ 4 _)
  have aF:p=be 4 x.length++p.drop 4:=by rw[← aT,List.take_append_drop]
  have g2:p7 p=x.length:=by rw[aF]; exact Sw (by omega) _
  rw[g2,if_neg c,if_neg (by omega),if_pos (by omega)];exact⟨31,rfl⟩
theorem Lq{aw x:List UInt8}{n:Nat}(h:nO aw=.ok (x,n)):n≤aw.length∧8≤n∧n=8+x.length∧x.length≤65536:=by
 unfold nO at h;split at h
 ·cases h
 ·split at h
  ·cases h
  ·split at h
   ·cases h
   ·split at h
    ·cases h
    ·simp only[Except.ok.injEq,Prod.mk.injEq] at h;obtain⟨I,R⟩:=h;have:x.length=p7 aw:=by rw[← I,List.length_take,List.length_drop]; omega
     omega
def qH:Nat→List UInt8→List (List UInt8)→Nat→List (List UInt8)×Nat
 |0,_,m,a=>(m,a)
 |f+1,aw,m,a=>match nO aw with
  |.error _=>(m,a)
  |.ok (x,n)=>qH f (aw.drop n) (m++[x]) (a+n)
def scan(aw:List UInt8):List (List UInt8)×Nat:=qH (aw.length+1) aw [] 0
def Small(m:List (List UInt8)):Prop:=∀ x∈m,x.length≤65536
theorem aeQ:∀ {m:List (List UInt8)} {f a:Nat} {p:List UInt8} {o:List (List UInt8)},Small m→(∃ l,nO p=.error l)→m.length<f→qH f (cF m++p) o a=(o++m,a+(cF m).length)
 |[],f,a,p,o,_,⟨l,he⟩,am=>by
  obtain⟨g,rfl⟩:∃ g,f=g+1:=⟨f-1,by simp at am; omega⟩
  simp[cF,qH,he]
 |x::m,f,a,p,o,aH,aF,am=>by
  obtain⟨g,rfl⟩:∃ g,f=g+1:=⟨f-1,by simp at am; omega⟩
  have F:x.length≤65536:=aH x (by simp);have l:cF (x::m)++p=hh x++(cF m++p):=by simp[cF]
  simp only[qH];rw[l,aEw F];simp only;rw[show (hh x++(cF m++p)).drop (8+x.length)=cF m++p from List.drop_left' (va x)];rw[aeQ (fun S aB=>aH S (by simp[aB])) aF (by simp at am; omega)];have bb:(cF (x::m)).length=8+x.length+(cF m).length:=by
   have:cF (x::m)=hh x++cF m:=by simp[cF]
   rw[this,List.length_append,va]
  rw[bb];simp; omega
theorem ZF:∀ m:List (List UInt8),m.length≤(cF m).length
 |[]=>by simp
 |x::m=>by
  have:=ZF m;have l:cF (x::m)=hh x++cF m:=by simp[cF]
  rw[l,List.length_append,va];simp; omega
theorem aHf{m:List (List UInt8)}{p:List UInt8}(aH:Small m)(aF:∃ l,nO p=.error l):scan (cF m++p)=(m,(cF m).length):=by
 unfold scan;rw[aeQ aH aF (by have:=ZF m; rw[List.length_append]; omega)];simp
theorem ZE:∀ (m:List (List UInt8)) (n:Nat),Small m→n≤(cF m).length→∃ i p,i≤m.length∧(cF m).take n=cF (m.take i)++p∧(∃ l,nO p=.error l)∧∀ k,(cF (m.take k)).length≤n→k≤m.length→k≤i
 |[],n,_,h=>⟨0,[],by simp,by simp[cF],⟨31,rfl⟩,fun k _ h=>by simpa using h⟩
 |x::m,n,aH,h=>by
  have l:cF (x::m)=hh x++cF m:=by simp[cF]
  have F:x.length≤65536:=aH x (by simp);rw[l,List.length_append] at h;rw[l];by_cases c:n<(hh x).length
  ·refine⟨0,(hh x).take n,by simp,?_,?_,?_⟩
   ·rw[List.take_append_of_le_length (by omega)]; simp[cF]
   ·refine aEu F (List.take_append_drop n _).symm ?_;intro ah;have:=congrArg List.length ah;rw[List.length_drop] at this;simp at this; omega
   ·intro k aq Kk;cases k with
    |zero=>omega
    |succ k=>
     have bb:cF ((x::m).take (k+1))=hh x++cF (m.take k):=by simp[cF]
     rw[bb,List.length_append] at aq;omega
  ·obtain⟨i,p,I,R,aK,bp⟩:=ZE m (n-(hh x).length) (fun S aB=>aH S (by simp[aB])) (by omega);refine⟨i+1,p,by simp; omega,?_,aK,?_⟩
   ·rw[List.take_append,List.take_of_length_le (by omega),R]; simp[cF]
   ·intro k aq Kk;cases k with
    |zero=>omega
    |succ k=>
     have bb:cF ((x::m).take (k+1))=hh x++cF (m.take k):=by simp[cF]
     rw[bb,List.length_append] at aq;have:=bp k (by omega) (by simpa using Kk);omega
theorem zu(n:Int):IntKind.u32.wrap n=n%4294967296:=by simp[IntKind.wrap,IntKind.bits,IntKind.signed]
theorem Ts(n:Int)(ah:0≤n)(I:n<2^32):IntKind.u32.wrap n=n:=by rw[zu]; omega
section
variable {A w:World} {m bX:List bE} {s:af} {aw:List UInt8}
theorem aC2{Z:Type}{T:bz Z}{t:TypeId}{ar av:Nat}{c:Int}{z:Z}{ab:af→World→Prop}(al:∀ x,(T.cells x).length=ar)(ah:0≤c)(I:(av:Int)*c≤281474976710656)(R:c≤9223372036854775807)(H:E A m w)
  (aq:∀ r J,E A (row T t ar r []::m) J→ab r J):yX t T av z 0 c w ab:=
 ⟨Int.le_refl _,ah,I,R,aq _ _ (uC (rest:=(List.replicate c.toNat z).flatMap T.cells) rfl rfl (by simp) (by rw[n_ al]; simp) (H.alloc _))⟩
theorem acE{c:Int}(ah:0≤c)(I:c<4294967296)(aM:aw.length≤9223372036854775806)(k:dr 1 m (B .u8) s (aV aw))(H:E A m w) :
  M Pg 234 [.int .u32 c,X.enc s] (B .u32) w fun r J=>r=sl c aw∧E A m J:=by
 have aH:=k.len H;rw[gI] at aH;refine aid ?_;unfold VE;refine ia (fun p w=>0≤p.2∧p.2≤aw.length∧sl c aw=sl p.1 (aw.drop p.2.toNat)∧E A m w) (fun p=>(aw.length-p.2).toNat) ⟨Int.le_refl 0,by simp only; omega,rfl,H⟩ ?_;clear H;rintro⟨d,i⟩ w ⟨i0,i1,he,H⟩ ab cg;simp only at i0 i1 he;unfold Ni;rw[aH];split
 ·rename_i ay;have ay:i<aw.length:=by simpa using ay
  have ag:aw.drop i.toNat=aw[i.toNat]::aw.drop (i.toNat+1):=List.drop_eq_getElem_cons (by omega);have F:(aV aw)[i.toNat]?=some (aw[i.toNat].toNat:Int):=by
   simp only[aV,List.getElem?_map,List.getElem?_eq_getElem (show i.toNat<aw.length by omega),Option.map_some]
  rw[ag] at he;generalize aw[i.toNat]=x at F he;obtain⟨a,Y⟩:=k.iH (i:=i) H i0 (by rw[gI]; omega);refine aR a Y ?_;refine aR (x.toNat:Int) (k.rd Y F H) ?_;refine ia (fun p w=>∃ D:Nat,D≤8∧p.2=(D:Int)∧turns (8-D) p.1=turns 8 (bits .xor .u32 d (IntKind.u32.wrap (x.toNat:Int)))∧E A m w) (fun p=>(8-p.2).toNat) ⟨0,by omega,rfl,rfl,H⟩ ?_;clear H;rintro⟨q,D⟩ w ⟨D,bT,rfl,ba,H⟩ F7 t_;unfold Nj;split
  ·rename_i U;have U:D<8:=by simp at U; omega
   refine sC (by omega) ?_;have vl:8-D=(8-(D+1))+1:=by omega
   rw[vl] at ba;have ba:turns (8-(D+1)) (Md q)=turns 8 (bits .xor .u32 d (IntKind.u32.wrap (x.toNat:Int))):=ba;unfold Md at ba;have amP:IntKind.i64.wrap ((D:Int)+1)=((D+1:Nat):Int):=by rw[qS]; omega
   rw[amP];generalize turns 8 (bits .xor .u32 d (IntKind.u32.wrap (x.toNat:Int)))=z at ba t_;generalize (bits .xor .u32 (Int.fdiv q (2^(min ((1:Int)).toNat IntKind.u32.bits))) (bits .and .u32 (IntKind.u32.wrap (0-(bits .and .u32 q (1:Int)))) (3988292384:Int)))=S at ba ⊢;exact t_ _ _ ⟨D+1,by omega,rfl,ba,H⟩ (by simp only; omega)
  ·rename_i U;have U:D=8:=by simp at U; omega
   subst U;have aS:IntKind.i64.wrap (i+1)=i+1:=wrap_i64 (by omega) (by omega);rw[aS];rw[Nat.sub_self] at ba;have ba:q=turns 8 (bits .xor .u32 d (IntKind.u32.wrap (x.toNat:Int))):=ba;refine cg _ _ ⟨by simp only; omega,by simp only; omega,?_,H⟩ (by simp only; omega);simp only;have bb:(i+1).toNat=i.toNat+1:=by omega
   rw[he,bb,ba,sl]
 ·rename_i ay;have ay:i=aw.length:=by simp at ay; omega
  subst ay;refine⟨?_,H⟩;rw[he]; simp[sl]
theorem X1{s1 s2:af}{fp ek:List UInt8}(P7:fp.length≤9223372036854775806)(B3:ek.length≤9223372036854775806)(dx:dr 1 m (B .u8) s1 (aV fp))(ef:dr 1 m (B .u8) s2 (aV ek))(H:E A m w) :
  M Pg 196 [X.enc s1,X.enc s2] (B .u32) w fun r J=>r=(zg fp ek:Nat)∧E A m J:=by
 refine ahL ?_;unfold Vc;refine ap (acE (by decide) (by decide) P7 dx H) ?_;rintro r w ⟨rfl,H⟩;have h:=acF fp 4294967295 (by decide) (by decide);refine ap (acE h.1 h.2 B3 ef H) ?_;rintro r w ⟨rfl,H⟩;exact⟨(afc fp ek).symm,H⟩
theorem Zz{n:Nat}{xs:List Int}(aM:n<4294967296)(ao:xs.length≤100000000)(i:Nat)(H:E A m w)(ay:front i m=row (B .u8) 5 1 s xs::bX) :
  M Pg 195 [X.enc s,.int .u32 n] X w fun r J=>E A (row (B .u8) 5 1 r (xs++aV (be 4 n))::bX) J:=by
 refine ahK ?_;unfold Vb;refine sC (by omega) ?_;refine sC (by omega) ?_;refine sC (by omega) ?_;have hp:min ((24:Int)).toNat IntKind.u32.bits=24:=rfl;have j_:min ((16:Int)).toNat IntKind.u32.bits=16:=rfl;have jW:min ((8:Int)).toNat IntKind.u32.bits=8:=rfl;rw[hp,j_,jW,GN,GN,GN,E8 rfl,E8 rfl,E8 rfl,E8 rfl];have l:∀ o:Nat,(UInt8.ofNat o)=UInt8.ofNat (o%256):=fun o=>UInt8.toNat_inj.1 (by simp);have apq:[((UInt8.ofNat (n/2^24)).toNat:Int),(UInt8.ofNat (n/2^16)).toNat,(UInt8.ofNat (n/2^8)).toNat,(UInt8.ofNat n).toNat]=aV (be 4 n):=by
  rw[l (n/2^24),l (n/2^16),l (n/2^8),l n];simp[aV,be]
 rw[apq];refine nF (fun _=>rfl) i H ay (by rw[gI,uZ]; omega) fun r w H=>H
theorem aey(aM:aw.length≤9223372036854775806)(bp:4≤aw.length)(k:dr 1 m (B .u8) s (aV aw))(H:E A m w) :
  M Pg 228 [X.enc s] (B .u32) w fun r J=>r=(p7 aw:Nat)∧E A m J:=by
 refine ah8 ?_;unfold Vz;obtain⟨cb,bx,bK,ck,rest,rfl⟩:∃ cb bx bK ck rest,aw=cb::bx::bK::ck::rest:=by
  rcases aw with _ | ⟨cb,_ | ⟨bx,_ | ⟨bK,_ | ⟨ck,rest⟩⟩⟩⟩
  ·simp at bp
  ·simp at bp
  ·simp at bp
  ·simp at bp
  ·exact⟨cb,bx,bK,ck,rest,rfl⟩
 refine dy H fun w H=>?_;obtain⟨nE,ah⟩:=k.iH (i:=0) H (by omega) (by rw[gI]; omega);obtain⟨lY,I⟩:=k.iH (i:=1) H (by omega) (by rw[gI]; omega);obtain⟨a1,R⟩:=k.iH (i:=2) H (by omega) (by rw[gI]; omega);obtain⟨aA,aK⟩:=k.iH (i:=3) H (by omega) (by rw[gI]; omega);refine aR nE ah ?_;refine aR lY I ?_;refine aR a1 R ?_;refine aR aA aK ?_;refine aR (cb.toNat:Int) (k.rd ah (by simp[aV]) H) ?_;refine sC (by omega) ?_;refine aR (bx.toNat:Int) (k.rd I (by simp[aV]) H) ?_;refine sC (by omega) ?_;refine aR (bK.toNat:Int) (k.rd R (by simp[aV]) H) ?_;refine sC (by omega) ?_;refine aR (ck.toNat:Int) (k.rd aK (by simp[aV]) H) ?_;refine⟨?_,H⟩;have cX:=cb.toNat_lt;have bD:=bx.toNat_lt;have e4:=bK.toNat_lt;have jr:=ck.toNat_lt;have hp:min ((24:Int)).toNat IntKind.u32.bits=24:=rfl;have j_:min ((16:Int)).toNat IntKind.u32.bits=16:=rfl;have jW:min ((8:Int)).toNat IntKind.u32.bits=8:=rfl;rw[hp,j_,jW]
 have hU:IntKind.u32.wrap (IntKind.u32.wrap (cb.toNat:Int)*2^24)=(cb.toNat:Int)*16777216:=by rw[zu,zu]; omega
 have aS:IntKind.u32.wrap (IntKind.u32.wrap (bx.toNat:Int)*2^16)=(bx.toNat:Int)*65536:=by rw[zu,zu]; omega
 have bb:IntKind.u32.wrap (IntKind.u32.wrap (bK.toNat:Int)*2^8)=(bK.toNat:Int)*256:=by rw[zu,zu]; omega
 have dn:IntKind.u32.wrap (ck.toNat:Int)=(ck.toNat:Int):=by rw[zu]; omega
 rw[hU,aS,bb,dn];rw[bits_join .u32 32 (by decide) Ts 24 ((cb.toNat:Int)*16777216) ((bx.toNat:Int)*65536) (by omega) (by omega) (by omega) (by omega) (by omega) (by omega)];rw[bits_join .u32 32 (by decide) Ts 16 ((cb.toNat:Int)*16777216+(bx.toNat:Int)*65536) ((bK.toNat:Int)*256) (by omega) (by omega) (by omega) (by omega) (by omega) (by omega)];rw[bits_join .u32 32 (by decide) Ts 8 ((cb.toNat:Int)*16777216+(bx.toNat:Int)*65536+(bK.toNat:Int)*256) (ck.toNat:Int) (by omega) (by omega) (by omega) (by omega) (by omega) (by omega)];simp only[p7];omega
theorem aHi(aM:aw.length≤9223372036854775806)(k:dr 1 m (B .u8) s (aV aw))(H:E A m w) :
  M Pg 159 [X.enc s] (bB X (B .i64)) w fun r J=>(65536<aw.length→r=(fN,30)∧E A m J)∧(aw.length≤65536→r.2=0∧E A (row (B .u8) 5 1 r.1 (aV (hh aw))::m) J):=by
 have aH:=k.len H;rw[gI] at aH;refine ahf ?_;unfold UJ;rw[aH];split
 ·rename_i U;have U:65536<aw.length:=by simp at U; omega
  exact⟨fun _=>⟨rfl,H⟩,fun h=>by omega⟩
 ·rename_i U;have U:aw.length≤65536:=by simp at U; omega
  have aS:IntKind.i64.wrap (8+(aw.length:Int))=8+(aw.length:Int):=wrap_i64 (by omega) (by omega);rw[aS];refine aC2 (ar:=1) (fun _=>rfl) (by omega) (by omega) (by omega) H fun r w H=>?_;have bb:IntKind.u32.wrap (aw.length:Int)=((aw.length:Nat):Int):=by rw[zu]; omega
  rw[bb];refine ap (Zz (by omega) (by simp) 0 H rfl) ?_;intro r w H;rw[List.nil_append] at H;refine ap (X1 (by rw[uZ]; omega) aM (dr.row (fun _=>rfl) 0 rfl) k.tail H) ?_;rintro q w ⟨rfl,H⟩;refine ap (Zz (afd _ _) (by rw[gI,uZ]; omega) 0 H rfl) ?_;intro r w H;rw[← xB] at H;refine DH (fun _=>rfl) 0 H rfl (k.tail.CM H) (by simp[gI,uZ]; omega) fun r w H=>?_;rw[← xB,List.append_assoc] at H;exact⟨fun h=>by omega,fun _=>⟨rfl,H⟩⟩
theorem IU(aw:List UInt8)(n:Nat):aV (aw.take n)=(aV aw).take n:=by simp[aV,List.map_take]
theorem MC(aw:List UInt8)(n:Nat):aV (aw.drop n)=(aV aw).drop n:=by simp[aV,List.map_drop]
theorem RO(ms:s.len≤s.cap)(aM:aw.length≤9223372036854775806)(k:ca m (dd (B .u8) s (aV aw)))(H:E A m w) :
  M Pg 184 [X.enc s] (mz X (B .i64) (B .i64)) w fun r J=>match nO aw with
   |.error l=>r.2.2=l∧l≠0∧E A m J
   |.ok (x,n)=>r.2.2=0∧r.2.1=(n:Nat)∧r.1.len≤r.1.cap∧E A (ro (B .u8) r.1 (aV x)::m) J:=by
 have aH:=k.len H;rw[gI] at aH;have fM:dr 1 m (B .u8) s (aV aw):=dr.ro (fun _=>rfl) k;refine ahC ?_;unfold U6 nO;rw[aH];by_cases U:aw.length<8
 ·rw[if_pos (show decide ((aw.length:Int)<8)=true by simp; omega),if_pos U];exact⟨rfl,by decide,H⟩
 ·rw[if_neg (show ¬ decide ((aw.length:Int)<8)=true by simp; omega),if_neg U];have U:8≤aw.length:=by omega
  refine ap (aey aM (by omega) fM H) ?_;rintro r w ⟨rfl,H⟩;have arj:p7 aw<4294967296:=by
   obtain⟨cb,bx,bK,ck,rest,rfl⟩:∃ cb bx bK ck rest,aw=cb::bx::bK::ck::rest:=by
    rcases aw with _ | ⟨cb,_ | ⟨bx,_ | ⟨bK,_ | ⟨ck,rest⟩⟩⟩⟩
    ·simp at U
    ·simp at U
    ·simp at U
    ·simp at U
    ·exact⟨cb,bx,bK,ck,rest,rfl⟩
   have cX:=cb.toNat_lt;have bD:=bx.toNat_lt;have e4:=bK.toNat_lt;have jr:=ck.toNat_lt;simp only[p7]; omega
  generalize p7 aw=n at arj;have aS:IntKind.i64.wrap (n:Int)=(n:Int):=wrap_i64 (by omega) (by omega);have bb:IntKind.i64.wrap ((aw.length:Int)-8)=(aw.length:Int)-8:=wrap_i64 (by omega) (by omega);rw[aS,bb];by_cases I:65536<n
  ·rw[if_pos (show decide ((n:Int)>65536)=true by simp; omega),if_pos I];exact⟨rfl,by decide,H⟩
  ·rw[if_neg (show ¬ decide ((n:Int)>65536)=true by simp; omega),if_neg I];by_cases R:aw.length-8<n
   ·rw[if_pos (show decide ((n:Int)>(aw.length:Int)-8)=true by simp; omega),if_pos R];exact⟨rfl,by decide,H⟩
   ·rw[if_neg (show ¬ decide ((n:Int)>(aw.length:Int)-8)=true by simp; omega),if_neg R];have dn:IntKind.i64.wrap (8+(n:Int))=8+(n:Int):=wrap_i64 (by omega) (by omega);rw[dn];refine dy H fun w H=>?_;refine ot (by omega) (by omega) (by omega) (by omega) fun aeN dz=>?_;refine ot (by omega) (by omega) (by omega) (by omega) fun xl iG=>?_;refine ot (by omega) (by omega) (by omega) (by omega) fun Is r4=>?_;have od:=k.sub (fun _=>rfl) dz (by rw[gI]; omega);have j8:=k.sub (fun _=>rfl) iG (by rw[gI]; omega);have te:=k.sub (fun _=>rfl) r4 (by rw[gI]; omega);have mq:((aV aw).take ((4:Int)).toNat).drop ((0:Int)).toNat=aV (aw.take 4):=by rw[IU]; rfl
    have uY:((aV aw).take (8+(n:Int)).toNat).drop ((8:Int)).toNat=aV ((aw.drop 8).take n):=by
     have:(8+(n:Int)).toNat=8+n:=by omega
     rw[this,IU,MC,List.take_drop]; rfl
    have Gp:((aV aw).take (aw.length:Int).toNat).drop ((4:Int)).toNat=aV (aw.drop 4):=by
     rw[MC,List.take_of_length_le (by rw[gI]; omega)]; rfl
    rw[mq] at od;rw[uY] at j8;rw[Gp] at te;refine ap (X1 (by simp; omega) (by simp; omega) (dr.ro (fun _=>rfl) od) (dr.ro (fun _=>rfl) j8) H) ?_;rintro r w ⟨rfl,H⟩;refine ap (aey (by simp; omega) (by simp; omega) (dr.ro (fun _=>rfl) te) H) ?_;rintro r w ⟨rfl,H⟩;by_cases ba:zg (aw.take 4) ((aw.drop 8).take n)≠p7 (aw.drop 4)
    ·rw[if_pos (by simp; omega),if_pos ba];exact⟨rfl,by decide,H⟩
    ·rw[if_neg (by simp at ba ⊢; omega),if_neg ba];refine vA H fun e w H=>?_;have H:=uB (ar:=1) (o:=0) rfl H;refine ot (by omega) (by omega) (by omega) (by omega) fun CP aoG=>?_;have ry:=k.sub (fun _=>rfl) aoG (by rw[gI]; omega);rw[uY] at ry;refine DH (fun _=>rfl) 0 H rfl (ry.tail.CM H) (by simp[gI]; omega) fun r w H=>?_;rw[List.nil_append] at H;have Aj:((aw.drop 8).take n).length=n:=by rw[List.length_take,List.length_drop]; omega
     have uf:=gG H;have Kq:=E1 H;rw[gI,Aj] at uf;refine ot (by omega) (by omega) (by omega) (by omega) fun L0 aoH=>?_;obtain⟨aoI,H⟩:=SH (fun _=>rfl) aoH (by rw[gI,Aj]; omega) H;have Gz:(aV ((aw.drop 8).take n)).take (n:Int).toNat=aV ((aw.drop 8).take n):=List.take_of_length_le (by rw[gI,Aj]; omega);rw[Gz] at H;exact⟨rfl,by simp,by rw[aoI]; exact Nat.le_refl _,vP H⟩
end
abbrev o9:=zK
abbrev oC:=Dw
abbrev lf:=wm
abbrev xO:=Bn
structure ed where
 e:List UInt8
 sure:Nat
structure c1 where
 c3:List ed
 lZ:Int
 down:Bool
 et:Int
 bI:List Int
structure c1.hP(K:c1):Prop where
 len:K.c3.length≤16
 log:∀ g∈K.c3,g.sure≤g.e.length∧g.e.length≤4194304
def kept(bI:List Int)(i:Nat)(g:ed):Nat:=g.sure+match bI[i]? with
 |none=>0
 |some k=>(min (max k 0) ((g.e.length:Int)-g.sure)).toNat
def lA(bI:List Int)(i:Nat)(g:ed):ed:=⟨g.e.take (kept bI i g),kept bI i g⟩
def hT(bI:List Int)(K:c1):c1:=if K.down then K else { K with down:=true,et:=0,c3:=K.c3.mapIdx (lA bI) }
def km(K:c1)(n size:Int)(f:ed→ed):c1×Int:=
 if ¬ (0≤n∧n<K.c3.length) then (K,70) else if K.down then (K,71) else if 4194304<size then (K,72)
 else if K.et=1 then (hT K.bI K,71)
 else ({ K with et:=if 1<K.et then IntKind.i64.wrap (K.et-1) else K.et,lZ:=IntKind.i64.wrap (K.lZ+1),c3:=K.c3.modify n.toNat f },0)
theorem HD{bI:List Int}{i:Nat}{g:ed}(h:g.sure≤g.e.length):g.sure≤kept bI i g∧kept bI i g≤g.e.length:=by
 unfold kept;cases bI[i]? with
 |none=>simp only; omega
 |some k=>simp only; omega
theorem Gw{bI:List Int}{K:c1}(h:K.hP):(hT bI K).hP:=by
 unfold hT;split
 ·exact h
 ·refine⟨by simpa using h.len,fun g O=>?_⟩;simp only[List.mem_mapIdx] at O;obtain⟨i,ay,rfl⟩:=O;have I:=h.log K.c3[i] (List.getElem_mem _);have R:=HD (bI:=bI) (i:=i) I.1;simp only[lA,List.length_take];omega
theorem Jo{K:c1}{n size:Int}{f:ed→ed}(h:K.hP)(am:size≤4194304→∀ g,K.c3[n.toNat]?=some g→(f g).sure≤(f g).e.length∧(f g).e.length≤4194304):(km K n size f).1.hP:=by
 unfold km;split
 ·exact h
 ·split
  ·exact h
  ·split
   ·exact h
   ·rename_i aH;split
    ·exact Gw h
    ·refine⟨by simpa using h.len,fun g O=>?_⟩;simp only at O;obtain⟨i,ay,rfl⟩:=List.getElem_of_mem O;rw[List.getElem_modify];split
     ·rename_i kK;subst kK;have apY:n.toNat<K.c3.length:=by simpa using ay
      exact am (by omega) _ (List.getElem?_eq_getElem apY)
     ·exact h.log _ (List.getElem_mem _)
section
variable {A w:World} {m bX:List bE}
def jH(p:af×ed):bE:=row (B .u8) 5 1 p.1 (aV p.2.e)
def mQ(p:af×ed):o9:=⟨p.1,p.2.sure⟩
def eN(d:Nat)(K:c1):bE:=h8 fun s:af=>h8 fun P:List (af×ed)=>h8 fun bG:af=>dH [lG (P.map Prod.snd=K.c3),aJ d (xO.cells ⟨s,K.lZ,K.down,K.et,bG⟩) 182,row oC 278 2 s (P.map mQ),dH (P.map jH),row (B .i64) 3 1 bG K.bI]
theorem x3{d:Nat}{K:c1}(H:E A (eN d K::m) w):∃ (s:af) (P:List (af×ed)) (bG:af),P.map Prod.snd=K.c3∧E A (aJ d (xO.cells ⟨s,K.lZ,K.down,K.et,bG⟩) 182::row oC 278 2 s (P.map mQ)::dH (P.map jH)::row (B .i64) 3 1 bG K.bI::m) w:=by
 obtain⟨s,H⟩:=H.ex;obtain⟨P,H⟩:=H.ex;obtain⟨bG,H⟩:=H.ex;have H:=H.open_;obtain⟨h,H⟩:=E.vJ (fs:=P.map Prod.snd=K.c3) H;exact⟨s,P,bG,h,H⟩
theorem rc{d:Nat}{K:c1}{s bG:af}{P:List (af×ed)}(h:P.map Prod.snd=K.c3)(H:E A (aJ d (xO.cells ⟨s,K.lZ,K.down,K.et,bG⟩) 182::row oC 278 2 s (P.map mQ)::dH (P.map jH)::row (B .i64) 3 1 bG K.bI::m) w):E A (eN d K::m) w:=
 E.mU s (E.mU P (E.mU bG (E.shut (bX:=[lG _,_,_,_,_]) (E.v1 h H))))
theorem CT{Z:Type}{P:List Z}{i:Nat}{p:Z}(h:P[i]?=some p):∃ jA mI,P=jA++p::mI∧jA.length=i:=by
 have ay:=(List.getElem?_eq_some_iff.1 h).1;refine⟨P.take i,P.drop (i+1),?_,by rw[List.length_take]; omega⟩;have:=(List.getElem?_eq_some_iff.1 h).2;rw[← this,← List.drop_eq_getElem_cons ay,List.take_append_drop]
theorem Rs{n:Int}(ah:1≤n)(I:n≤16)(H:E A m w):M Pg 41 [.int .i64 n] (bB aE (B .i64)) w fun r J=>r.2=0∧∃ d,r.1=some ⟨d,0,none⟩∧E A (eN d ⟨List.replicate n.toNat ⟨[],0⟩,0,false,0,[]⟩::m) J:=by
 refine aiR ?_;unfold Wg;rw[if_neg (by simp; omega)];refine HO (ar:=2) (by omega) (by omega) (by omega) H fun e w H=>?_;refine bR H fun d w H=>?_;refine⟨rfl,d,rfl,?_⟩;refine rc (s:=⟨some ⟨e,0,none⟩,n.toNat,n.toNat⟩) (P:=List.replicate n.toNat (fN,⟨[],0⟩)) (bG:=fN) (by simp) ?_;have hm:(List.replicate n.toNat (fN,(⟨[],0⟩:ed))).map mQ=List.replicate n.toNat (⟨fN,0⟩:o9):=by simp[mQ]
 rw[hm];have aM:∀ (o:Nat) {m:List bE},E A m w→E A (dH ((List.replicate o (fN,(⟨[],0⟩:ed))).map jH)::m) w:=by
  intro o;induction o with
  |zero=>intro m H; exact E.shut (bX:=[]) H
  |succ o cq=>
   intro m H;have R:(List.replicate (o+1) (fN,(⟨[],0⟩:ed))).map jH=jH (fN,⟨[],0⟩)::(List.replicate o (fN,(⟨[],0⟩:ed))).map jH:=by rw[List.replicate_succ,List.map_cons]
   rw[R];have H:=k4 (B .u8) 5 1 (cq H)
   exact E.shut (bX:=jH (fN,⟨[],0⟩)::_) ((H.front 1).open_ |> fun H=>H.perm (by
    simp only[List.cons_append]
    exact List.perm_middle))
 have H:=aM n.toNat (k4 (B .i64) 3 1 H);exact H.ord [2,3,0,1]
theorem Kc{d:Nat}{K:c1}{n:Int}(H:E A (eN d K::m) w):M Pg 183 [.pointer (some ⟨d,0,none⟩),.int .i64 n] bo w fun r J=>r=decide (0≤n∧n<K.c3.length)∧E A (eN d K::m) J:=by
 obtain⟨s,P,bG,fA,H⟩:=x3 H;refine ahB ?_;unfold U5;have aH:=gG (H.front 1);rw[List.length_map] at aH;have al:P.length=K.c3.length:=by rw[← fA,List.length_map]
 refine aR ⟨d,0,none⟩ (fun _=>rfl) ?_;refine aR s (fun _=>bO X H rfl rfl) ?_;refine⟨?_,rc fA H⟩;rw[aH,al,Bool.eq_iff_iff,Bool.and_eq_true,decide_eq_true_eq,decide_eq_true_eq,decide_eq_true_eq]
theorem Ey{P:List (af×ed)}{i:Nat}{p:af×ed}(h:P[i]?=some p)(H:E A (dH (P.map jH)::m) w):E A (jH p::h8 (fun jA:List (af×ed)=>h8 fun mI:List (af×ed)=>dH [lG (P=jA++p::mI∧jA.length=i),dH ((jA++mI).map jH)])::m) w:=by
 obtain⟨jA,mI,I,R⟩:=CT h;subst I;have H:=BB H;have H:=H.front 1;have H:=E.v1 (fs:=jA++p::mI=jA++p::mI∧jA.length=i) ⟨rfl,R⟩ H;have H:=E.shut (bX:=[lG _,dH _]) H;exact (E.mU (f:=fun Od:List (af×ed)=>h8 fun Ga:List (af×ed)=>dH [lG (jA++p::mI=Od++p::Ga∧Od.length=i),dH ((Od++Ga).map jH)]) jA (E.mU (f:=fun Ga:List (af×ed)=>dH [lG (jA++p::mI=jA++p::Ga∧jA.length=i),dH ((jA++Ga).map jH)]) mI H)).front 1
theorem abV{P:List (af×ed)}{i:Nat}{p q:af×ed}(H:E A (jH q::h8 (fun jA:List (af×ed)=>h8 fun mI:List (af×ed)=>dH [lG (P=jA++p::mI∧jA.length=i),dH ((jA++mI).map jH)])::m) w):E A (dH ((P.set i q).map jH)::m) w:=by
 have H:=H.front 1;obtain⟨jA,H⟩:=H.ex;obtain⟨mI,H⟩:=H.ex;have H:=H.open_;obtain⟨⟨I,R⟩,hn⟩:=E.vJ (fs:=P=jA++p::mI∧jA.length=i) H;clear H;subst I; subst R;have l:(jA++p::mI).set jA.length q=jA++q::mI:=by
  rw[List.set_append_right _ _ (Nat.le_refl _)]; simp
 rw[l];exact wE (hn.front 1)
theorem KX{p:af×ed}(H:E A (jH p::m) w):p.1.len=p.2.e.length∧p.1.len≤p.1.cap:=by
 have I:=gG H;rw[gI] at I;exact⟨I,E1 H⟩
theorem aH3(bI:List Int)(N:List ed):(N.mapIdx fun D g=>if D<0 then lA bI D g else g)=N:=by
 apply List.ext_getElem?;intro D;rw[List.getElem?_mapIdx];cases N[D]?<;>simp
theorem aH1(bI:List Int)(N:List ed):(N.mapIdx fun D g=>if D<N.length then lA bI D g else g)=N.mapIdx (lA bI):=by
 apply List.ext_getElem?;intro D;rw[List.getElem?_mapIdx,List.getElem?_mapIdx];cases h:N[D]? with
 |none=>rfl
 |some g=>
  have:=(List.getElem?_eq_some_iff.1 h).1;simp[this]
theorem aH2{bI:List Int}{N:List ed}{i:Nat}{g:ed}(h:N[i]?=some g):(N.mapIdx fun D g=>if D<i+1 then lA bI D g else g)=(N.mapIdx fun D g=>if D<i then lA bI D g else g).set i (lA bI i g):=by
 apply List.ext_getElem?;intro D;have ay:=(List.getElem?_eq_some_iff.1 h).1;rw[List.getElem?_mapIdx,List.getElem?_set,List.length_mapIdx,List.getElem?_mapIdx];by_cases l:i=D
 ·subst l;rw[if_pos rfl,if_pos ay,h]; simp
 ·rw[if_neg l];cases bT:N[D]? with
  |none=>rfl
  |some cP=>
   simp only[Option.map_some];by_cases c:D<i
   ·rw[if_pos c,if_pos (by omega)]
   ·rw[if_neg c,if_neg (by omega)]
theorem Yj{d:Nat}{s bG fM:af}{P:List (af×ed)}{lZ et:Int}{bI:List Int}(dA:∀ p∈P,p.2.sure≤p.2.e.length∧p.2.e.length≤4194304)(aF:P.length≤16)(k:dr 1 m (B .i64) fM bI)
  (H:E A (aJ d (xO.cells ⟨s,lZ,false,et,bG⟩) 182::row oC 278 2 s (P.map mQ)::dH (P.map jH)::m) w) :
  M Pg 103 [.pointer (some ⟨d,0,none⟩),X.enc fM] eh w fun _ J=>∃ xI:List (af×ed),xI.map Prod.snd=(P.map Prod.snd).mapIdx (lA bI)∧E A (aJ d (xO.cells ⟨s,lZ,true,0,bG⟩) 182::row oC 278 2 s (xI.map mQ)::dH (xI.map jH)::m) J:=by
 have Kk:=k.tail.tail.tail.len H;refine TU ?_;unfold ME;refine ch rfl ?_;refine ak (x:=false) 0 H rfl rfl rfl ?_;rw[if_neg (by simp)];refine dK (x:=true) 0 H rfl rfl (Nat.le_of_ble_eq_true rfl) fun w H=>?_;refine dK (x:=(0:Int)) 0 H rfl rfl (Nat.le_of_ble_eq_true rfl) fun w H=>?_;refine ak (x:=s) 0 H rfl rfl rfl ?_;have aH:=gG (H.front 1);rw[List.length_map] at aH;refine ia (fun i w=>∃ (D:Nat) (Q:List (af×ed)),i=(D:Int)∧D≤P.length∧Q.map Prod.snd=((P.map Prod.snd).mapIdx fun o g=>if o<D then lA bI o g else g)∧E A (aJ d (xO.cells ⟨s,lZ,true,0,bG⟩) 182::row oC 278 2 s (Q.map mQ)::dH (Q.map jH)::m) w) (fun i=>(P.length-i).toNat)
  ⟨0,P,rfl,by omega,(aH3 _ _).symm,H⟩ ?_
 clear H;rintro i w ⟨D,Q,rfl,bT,en,H⟩ ab cg;have Px:Q.length=P.length:=by
  have:=congrArg List.length en;simpa using this
 unfold MF;rw[aH];split
 ·rename_i ay;have ay:D<P.length:=by simpa using ay
  refine ak (x:=s) 0 H rfl rfl rfl ?_;obtain⟨a,Y⟩:=k3 (i:=(D:Int)) (H.front 1) (by omega) (by simp; omega);refine aR a Y ?_;have yw:P[D]?=some P[D]:=List.getElem?_eq_getElem ay;have kq:Q[D]?=some Q[D]:=List.getElem?_eq_getElem (by omega);have tb:P[D]∈P:=List.getElem_mem _;have En:Q[D].2=P[D].2:=by
   have:=congrArg (fun m=>m[D]?) en;simp only[List.getElem?_map,kq,List.getElem?_mapIdx,yw,Option.map_some] at this;simpa using this
  have P8:=dA _ tb;have tc:(Q.map mQ)[((D:Int)).toNat]?=some (mQ Q[D]):=by simp[kq]
  have Ah:=aH2 (bI:=bI) (N:=P.map Prod.snd) (i:=D) (g:=P[D].2) (by simp[yw]);generalize P[D]=p at yw tb En P8 Ah;generalize Q[D]=q at kq tc En;obtain⟨eA,jK⟩:=q;obtain⟨eT,aLf⟩:=p;simp only at En P8 Ah;subst En;have hb:=Ey kq (H.front 2);have U:=KX hb;simp only at U;refine aR (jK.sure:Int) ?_ ?_
  ·exact ql (dg:=B .i64) (fun _=>rfl) Y tc rfl (H.front 1)
  have fin:∀ (w:World) (n:Int),n=(kept bI D jK:Nat)→E A (aJ d (xO.cells ⟨s,lZ,true,0,bG⟩) 182::row oC 278 2 s (Q.map mQ)::dH (Q.map jH)::m) w→Fl (D:Int) a n w ab fun _ J=>∃ xI:List (af×ed),xI.map Prod.snd=(P.map Prod.snd).mapIdx (lA bI)∧E A (aJ d (xO.cells ⟨s,lZ,true,0,bG⟩) 182::row oC 278 2 s (xI.map mQ)::dH (xI.map jH)::m) J:=by
   intro w n aM H;subst aM;have aq:=HD (bI:=bI) (i:=D) P8.1;unfold Fl;refine aR eA (ql (dg:=X) (fun _=>rfl) Y tc rfl (H.front 1)) ?_;refine ot (by omega) (by omega) (by omega) (by omega) fun r aa=>?_;have H:=Ey kq (H.front 2);obtain⟨Qg,H⟩:=SH (fun _=>rfl) aa (by rw[gI]; exact Int.ofNat_le.2 aq.2) H;refine E6 (x:=mQ (eA,jK)) (S:=(⟨r,jK.sure⟩:o9)) (G:=0) (dg:=X) (z:=r) (fun _=>rfl) Y tc rfl (Nat.le_of_ble_eq_true rfl) (H.front 3) fun w H=>?_;refine E6 (x:=(⟨r,jK.sure⟩:o9)) (S:=(⟨r,(kept bI D jK:Nat)⟩:o9)) (G:=1) (dg:=B .i64) (z:=((kept bI D jK:Nat):Int)) (fun _=>rfl) Y (List.getElem?_set_self (by rw[List.length_map,Int.toNat_natCast]; omega)) rfl (Nat.le_of_ble_eq_true rfl) H fun w H=>?_;have aS:IntKind.i64.wrap ((D:Int)+1)=((D+1:Nat):Int):=by rw[qS]; omega
   rw[aS];have ao:(aV jK.e).take ((kept bI D jK:Nat):Int).toNat=aV (lA bI D jK).e:=by
    rw[Int.toNat_natCast]; exact (IU _ _).symm
   rw[ao] at H;have H:=abV (q:=(r,lA bI D jK)) (H.ord [1,2]);refine cg _ _ ⟨D+1,Q.set D (r,lA bI D jK),rfl,by omega,?_,?_⟩ (by omega)
   ·rw[List.map_set,en,Ah]
   ·have bb:(((Q.map mQ).set ((D:Int)).toNat (⟨r,jK.sure⟩:o9)).set ((D:Int)).toNat (⟨r,(kept bI D jK:Nat)⟩:o9))=(Q.set D (r,lA bI D jK)).map mQ:=by
     rw[List.set_set,List.map_set,Int.toNat_natCast]; rfl
    rw[bb] at H;exact H.ord [2,1,0]
  rw[Kk];split
  ·rename_i dI;have dI:D<bI.length:=by simpa using dI
   have Ek:bI[((D:Int)).toNat]?=some bI[D]:=by rw[Int.toNat_natCast]; exact List.getElem?_eq_getElem dI
   have uc:bI[D]?=some bI[D]:=List.getElem?_eq_getElem dI;generalize bI[D]=abD at Ek uc;refine dy H fun w H=>?_;obtain⟨uh,aan⟩:=k.tail.tail.tail.iH (i:=(D:Int)) H (by omega) (by omega);refine aR uh aan ?_;refine aR abD (k.tail.tail.tail.rd aan Ek H) ?_;refine aR eA (ql (dg:=X) (fun _=>rfl) Y tc rfl (H.front 1)) ?_;refine aR (jK.sure:Int) (ql (dg:=B .i64) (fun _=>rfl) Y tc rfl (H.front 1)) ?_;refine fin _ _ ?_ H;have G5:kept bI D jK=jK.sure+(min (max abD 0) ((jK.e.length:Int)-jK.sure)).toNat:=by unfold kept; rw[uc]
   rw[U.1,wrap_i64 (x:=(jK.e.length:Int)-(jK.sure:Int)) (by omega) (by omega),G5,wrap_i64 (by omega) (by omega)];omega
  ·rename_i dI;have dI:bI.length≤D:=by simp at dI; omega
   refine fin _ _ ?_ H;have G5:kept bI D jK=jK.sure:=by
    unfold kept; rw[List.getElem?_eq_none dI]; rfl
   rw[G5]
 ·rename_i ay;have ay:D=P.length:=by simp at ay; omega
  subst ay;refine⟨Q,?_,H⟩;rw[en];have:=aH1 bI (P.map Prod.snd);rw[List.length_map] at this;exact this
theorem amm{d:Nat}{K:c1}{fM:af}{bI:List Int}(dA:K.hP)(k:dr 1 m (B .i64) fM bI)(H:E A (eN d K::m) w) :
  M Pg 103 [.pointer (some ⟨d,0,none⟩),X.enc fM] eh w fun _ J=>E A (eN d (hT bI K)::m) J:=by
 obtain⟨s,P,bG,fA,H⟩:=x3 H;by_cases ag:K.down=true
 ·refine TU ?_;unfold ME hT;rw[if_pos ag];refine ch rfl ?_;refine ak (x:=K.down) 0 H rfl rfl rfl ?_;rw[if_pos ag];exact rc fA H
 ·have PR:K.down=false:=by simpa using ag
  rw[PR] at H;have al:P.length=K.c3.length:=by rw[← fA,List.length_map]
  refine ap (Yj (fun p aF=>dA.log p.2 (by rw[← fA]; exact List.mem_map_of_mem aF)) (by rw[al]; exact dA.len) k.tail H) ?_;rintro r w ⟨xI,GS,H⟩;rw[fA] at GS;unfold hT;rw[if_neg ag];exact rc (K:={ K with down:=true,et:=0,c3:=K.c3.mapIdx (lA bI) }) GS H
end
section
variable {A w:World} {m bX:List bE}
theorem al6{Z:Type}{P:Program}{T:bz Z}{hV:cw}{args:List Value}{ab K':Z→World→Prop}(h:tU P hV args T w ab)(aq:∀ r J,ab r J→K' r J):tU P hV args T w K':=by
 obtain⟨k,c,I,R,aK⟩:=h;exact⟨k,c,I,R,ap aK aq⟩
theorem aC6{N:List ed}{i:Nat}{g:ed}{f:ed→ed}(h:N[i]?=some g):N.modify i f=N.set i (f g):=by
 apply List.ext_getElem?;intro D;rw[List.getElem?_modify,List.getElem?_set];by_cases l:i=D
 ·subst l;have cK:=List.getElem?_eq_some_iff.1 h;rw[if_pos rfl,if_pos cK.1,h];simp
 ·simp[l]
theorem On{d:Nat}{K:c1}{n size:Int}{hV:cw}{f:ed→ed}(dA:K.hP)(H:E A (eN d K::m) w)
  (rn : ∀ (s q : af) (g : ed) (xs : List o9) (a : Addr) (rD : List bE) (w : World), size ≤ 4194304 → K.c3[n.toNat]? = some g → xs[n.toNat]? = some ⟨q, g.sure⟩ → cT s 2 n a → E A (row oC 278 2 s xs :: jH (q, g) :: (rD ++ m)) w →
   tU Pg hV [.pointer (some a)] eh w fun _ J=>∃ gK:af,E A (row oC 278 2 s (xs.set n.toNat ⟨gK,(f g).sure⟩)::jH (gK,f g)::(rD++m)) J) :
  M Pg 177 [.pointer (some ⟨d,0,none⟩),.int .i64 n,.int .i64 size,hV.enc] (B .i64) w fun r J=>r=(km K n size f).2∧E A (eN d (km K n size f).1::m) J:=by
 refine ahv ?_;unfold UY km;refine ap (Kc H) ?_;rintro r w ⟨rfl,H⟩;by_cases cK:0≤n∧n<K.c3.length
 ·rw[decide_eq_true cK,if_neg (by simp),if_neg (not_not_intro cK)];refine ch rfl ?_;obtain⟨s,P,bG,fA,H⟩:=x3 H;refine ak (x:=K.down) 0 H rfl rfl rfl ?_;by_cases ag:K.down=true
  ·rw[if_pos ag,if_pos ag];exact⟨rfl,rc fA H⟩
  ·rw[if_neg ag,if_neg ag];have PR:K.down=false:=by simpa using ag
   by_cases aH:4194304<size
   ·rw[if_pos (by simp; omega),if_pos aH];exact⟨rfl,rc fA H⟩
   ·rw[if_neg (by simp; omega),if_neg aH];refine ak (x:=K.et) 0 H rfl rfl rfl ?_;have al:P.length=K.c3.length:=by rw[← fA,List.length_map]
    by_cases Y:K.et=1
    ·rw[if_pos (by simp[Y]),if_pos Y];refine ak (x:=bG) 0 H rfl rfl rfl ?_;rw[PR] at H;refine ap (Yj (fun p aF=>dA.log p.2 (by rw[← fA]; exact List.mem_map_of_mem aF)) (by rw[al]; exact dA.len) (dr.row (fun _=>rfl) 0 rfl) H) ?_;rintro r w ⟨xI,GS,H⟩;rw[fA] at GS;refine⟨rfl,?_⟩;unfold hT;rw[if_neg ag];exact rc (K:={ K with down:=true,et:=0,c3:=K.c3.mapIdx (lA K.bI) }) GS H
    ·rw[if_neg (by simpa using Y),if_neg Y];have hj:∀ (Bz:Int) (w:World),Bz=(if 1<K.et then IntKind.i64.wrap (K.et-1) else K.et)→E A (aJ d (xO.cells ⟨s,K.lZ,K.down,Bz,bG⟩) 182::row oC 278 2 s (P.map mQ)::dH (P.map jH)::row (B .i64) 3 1 bG K.bI::m) w →
       FA (some ⟨d,0,none⟩) n hV w fun r J=>r=0∧E A (eN d { K with et:=if 1<K.et then IntKind.i64.wrap (K.et-1) else K.et,lZ:=IntKind.i64.wrap (K.lZ+1),c3:=K.c3.modify n.toNat f }::m) J:=by
      intro Bz w app H;unfold FA;refine ch rfl ?_;refine ak (x:=K.lZ) 0 H rfl rfl rfl ?_;refine dK (x:=IntKind.i64.wrap (K.lZ+1)) 0 H rfl rfl (Nat.le_of_ble_eq_true rfl) fun w H=>?_;refine ak (x:=s) 0 H rfl rfl rfl ?_;obtain⟨a,ta⟩:=k3 (i:=n) (H.front 1) cK.1 (by rw[List.length_map,al]; exact cK.2);refine aR a ta ?_;have kq:P[n.toNat]?=some P[n.toNat]:=List.getElem?_eq_getElem (by omega);have O:K.c3[n.toNat]?=some (P[n.toNat]).2:=by rw[← fA,List.getElem?_map,kq]; rfl
      generalize P[n.toNat]=p at kq O;obtain⟨q,g⟩:=p;simp only at O;have H:=Ey kq (H.front 2);refine al6 (rn s q g (P.map mQ) a [_,_,_] w (by omega) O (by rw[List.getElem?_map,kq]; rfl) ta (H.ord [3,0])) ?_;rintro r w ⟨gK,H⟩;have H:=abV (q:=(gK,f g)) (H.ord [1,2]);refine⟨rfl,?_⟩;refine rc (s:=s) (bG:=bG) (P:=P.set n.toNat (gK,f g)) ?_ ?_
      ·simp only;rw[List.map_set,fA,aC6 O]
      ·simp only;rw[← app,List.map_set];exact H.ord [2,1,0]
     by_cases ao:1<K.et
     ·refine ak (x:=K.et) 0 H rfl rfl rfl ?_;rw[if_pos (by simpa using ao)];refine ak (x:=K.et) 0 H rfl rfl rfl ?_;refine dK (x:=IntKind.i64.wrap (K.et-1)) 0 H rfl rfl (Nat.le_of_ble_eq_true rfl) fun w H=>?_;exact hj (IntKind.i64.wrap (K.et-1)) w (by rw[if_pos ao]) H
     ·refine ak (x:=K.et) 0 H rfl rfl rfl ?_;rw[if_neg (by simpa using ao)];exact hj K.et w (by rw[if_neg ao]) H
 ·rw[decide_eq_false cK,if_pos (by simp),if_pos cK];exact⟨rfl,H⟩
def sizeOf(K:c1)(n:Int):Nat:=if 0≤n then match K.c3[n.toNat]? with
 |some g=>g.e.length
 |none=>0
 else 0
def oG(K:c1)(n:Int)(aw:List UInt8):c1×Int:=km K n ((aw.length+sizeOf K n:Nat):Int) fun g=>⟨g.e++aw,g.sure⟩
def oY(K:c1)(n:Int):c1×Int:=km K n 0 fun g=>⟨g.e,g.e.length⟩
def AM(K:c1)(n:Int)(aw:List UInt8):c1×Int:=km K n (aw.length:Int) fun _=>⟨aw,aw.length⟩
theorem akE{d:Nat}{K:c1}{n:Int}{e:af}{aw:List UInt8}(dA:K.hP)(aM:aw.length≤4000000000000000000)(k:dr 1 m (B .u8) e (aV aw))(H:E A (eN d K::m) w) :
  M Pg 160 [.pointer (some ⟨d,0,none⟩),.int .i64 n,X.enc e] (B .i64) w fun r J=>r=(oG K n aw).2∧E A (eN d (oG K n aw).1::m) J:=by
 have BR:=k.tail.len H;rw[gI] at BR;refine ahh ?_;unfold UL;refine bR H fun iT w H=>?_;refine ak (x:=e) 0 H rfl rfl rfl ?_;have hj:∀ (z:Int) (w:World),z=((aw.length+sizeOf K n:Nat):Int)→E A (aJ iT (X.cells e) 189::eN d K::m) w→Fz (some ⟨d,0,none⟩) n ⟨iT,0,none⟩ z w fun r J=>r=(oG K n aw).2∧E A (eN d (oG K n aw).1::m) J:=by
  intro z w bN H;subst bN;unfold Fz;refine ap (On (f:=fun g=>⟨g.e++aw,g.sure⟩) dA (H.front 1) ?_) ?_
  ·intro s q g xs a rD w nJ O F Y H;refine⟨197,[.pointer (some ⟨iT,0,none⟩)],rfl,ann,?_⟩;refine ahM ?_;unfold Vd;refine dy H fun w H=>?_;refine ch rfl ?_;refine aR q (ql (dg:=X) (fun _=>rfl) Y F rfl H) ?_
   have H:=(H.perm (show (row oC 278 2 s xs::jH (q,g)::(rD++(aJ iT (X.cells e) 189::m))).Perm (aJ iT (X.cells e) 189::row oC 278 2 s xs::jH (q,g)::(rD++m)) from by
    have I:=(List.perm_middle (a:=aJ iT (X.cells e) 189) (l₁:=row oC 278 2 s xs::jH (q,g)::rD) (l₂:=m))
    simpa using I))
   refine ak (x:=e) 0 H rfl rfl rfl ?_;have uc:dr 1 (aJ iT (X.cells e) 189::row oC 278 2 s xs::jH (q,g)::(rD++m)) (B .u8) e (aV aw):=((k.mo rD).tail.tail.tail)
   have Eh:=(dA.log g (List.mem_of_getElem? O)).2;refine DH (fun _=>rfl) 2 H rfl (uc.CM H) (by rw[gI,gI]; simp only; omega) fun r w H=>?_;refine E6 (x:=(⟨q,g.sure⟩:o9)) (S:=(⟨r,g.sure⟩:o9)) (G:=0) (dg:=X) (z:=r) (fun _=>rfl) Y F rfl (Nat.le_of_ble_eq_true rfl) (H.front 2) fun w H=>?_;refine⟨r,?_⟩;rw[← xB] at H;refine H.perm ?_;refine List.Perm.cons _ (List.Perm.cons _ ?_);exact List.perm_middle.symm
  ·rintro r w ⟨rfl,H⟩;exact⟨rfl,(H.front 1).drop⟩
 refine ap (Kc (H.front 1)) ?_;rintro r w ⟨rfl,H⟩;by_cases cK:0≤n∧n<K.c3.length
 ·rw[decide_eq_true cK,if_pos rfl];refine ch rfl ?_;obtain⟨s,P,bG,fA,H⟩:=x3 H;have al:P.length=K.c3.length:=by rw[← fA,List.length_map]
  refine ak (x:=s) 0 H rfl rfl rfl ?_;obtain⟨a,ta⟩:=k3 (i:=n) (H.front 1) cK.1 (by rw[List.length_map,al]; exact cK.2);refine aR a ta ?_;have kq:P[n.toNat]?=some P[n.toNat]:=List.getElem?_eq_getElem (by omega);have O:K.c3[n.toNat]?=some (P[n.toNat]).2:=by rw[← fA,List.getElem?_map,kq]; rfl
  generalize P[n.toNat]=p at kq O;have U:=KX (Ey kq (H.front 2));obtain⟨q,g⟩:=p;simp only at O U;have Eh:=(dA.log g (List.mem_of_getElem? O)).2;refine aR q (ql (x:=mQ (q,g)) (dg:=X) (fun _=>rfl) ta (by rw[List.getElem?_map,kq]; rfl) rfl (H.front 1)) ?_;refine hj _ w ?_ ((rc fA H).front 1);have l:sizeOf K n=g.e.length:=by unfold sizeOf; rw[if_pos cK.1,O]
  rw[l,BR,U.1,wrap_i64 (by omega) (by omega)];omega
 ·rw[decide_eq_false cK,if_neg (by simp)];refine hj _ w ?_ (H.front 1);have l:sizeOf K n=0:=by
   unfold sizeOf;by_cases ah:0≤n
   ·rw[if_pos ah,List.getElem?_eq_none (by omega)]
   ·rw[if_neg ah]
  rw[l,BR]; rfl
theorem afg{d:Nat}{K:c1}{n:Int}(dA:K.hP)(H:E A (eN d K::m) w) :
  M Pg 129 [.pointer (some ⟨d,0,none⟩),.int .i64 n] (B .i64) w fun r J=>r=(oY K n).2∧E A (eN d (oY K n).1::m) J:=by
 refine agP ?_;unfold Uh;refine ap (On (f:=fun g=>⟨g.e,g.e.length⟩) dA H ?_) ?_
 ·intro s q g xs a rD w nJ O F Y H;refine⟨178,[],rfl,ang,?_⟩;refine ahw ?_;unfold UZ;refine ch rfl ?_;refine aR q (ql (dg:=X) (fun _=>rfl) Y F rfl H) ?_;have U:=KX (H.front 1);simp only at U;rw[U.1];refine E6 (x:=(⟨q,g.sure⟩:o9)) (S:=(⟨q,(g.e.length:Nat)⟩:o9)) (G:=1) (dg:=B .i64) (z:=((g.e.length:Nat):Int)) (fun _=>rfl) Y F rfl (Nat.le_of_ble_eq_true rfl) H fun w H=>?_;exact⟨q,H⟩
 ·rintro r w ⟨rfl,H⟩;exact⟨rfl,H⟩
theorem aIa{d:Nat}{K:c1}{n:Int}{e:af}{aw:List UInt8}(dA:K.hP)(aM:aw.length≤4000000000000000000)(k:dr 1 m (B .u8) e (aV aw))(H:E A (eN d K::m) w) :
  M Pg 144 [.pointer (some ⟨d,0,none⟩),.int .i64 n,X.enc e] (B .i64) w fun r J=>r=(AM K n aw).2∧E A (eN d (AM K n aw).1::m) J:=by
 have BR:=k.tail.len H;rw[gI] at BR;refine ag4 ?_;unfold Uw;refine bR H fun iT w H=>?_;refine ak (x:=e) 0 H rfl rfl rfl ?_;rw[BR];refine ap (On (f:=fun _=>⟨aw,aw.length⟩) dA (H.front 1) ?_) ?_
 ·intro s q g xs a rD w nJ O F Y H;refine⟨185,[.pointer (some ⟨iT,0,none⟩)],rfl,anj,?_⟩;refine ahD ?_;unfold U7
  have H:=(H.perm (show (row oC 278 2 s xs::jH (q,g)::(rD++(aJ iT (X.cells e) 189::m))).Perm (aJ iT (X.cells e) 189::row oC 278 2 s xs::jH (q,g)::(rD++m)) from by
   have I:=(List.perm_middle (a:=aJ iT (X.cells e) 189) (l₁:=row oC 278 2 s xs::jH (q,g)::rD) (l₂:=m))
   simpa using I))
  refine ak (x:=e) 0 H rfl rfl rfl ?_;rw[BR];refine HO (ar:=1) (by omega) (by omega) (by omega) H fun mq w H=>?_;refine ch rfl ?_;refine E6 (x:=(⟨q,g.sure⟩:o9)) (S:=(⟨⟨some ⟨mq,0,none⟩,aw.length,aw.length⟩,g.sure⟩:o9)) (G:=0) (dg:=X) (z:=⟨some ⟨mq,0,none⟩,aw.length,aw.length⟩) (fun _=>rfl) Y F rfl (Nat.le_of_ble_eq_true rfl) (H.front 2) fun w H=>?_;refine dy H fun w H=>?_;have r9:(xs.set n.toNat (⟨⟨some ⟨mq,0,none⟩,aw.length,aw.length⟩,g.sure⟩:o9))[n.toNat]?=some ⟨⟨some ⟨mq,0,none⟩,aw.length,aw.length⟩,g.sure⟩:=List.getElem?_set_self (List.getElem?_eq_some_iff.1 F).1;refine aR ⟨some ⟨mq,0,none⟩,aw.length,aw.length⟩ (ql (dg:=X) (fun _=>rfl) Y r9 rfl H) ?_;refine ak (x:=e) 2 H rfl rfl rfl ?_
  have uc:dr 1 (row (B .u8) 5 1 ⟨some ⟨mq,0,none⟩,aw.length,aw.length⟩ (List.replicate aw.length 0)::row oC 278 2 s (xs.set n.toNat (⟨⟨some ⟨mq,0,none⟩,aw.length,aw.length⟩,g.sure⟩:o9))::aJ iT (X.cells e) 189::jH (q,g)::(rD++m)) (B .u8) e (aV aw):=((k.mo rD).tail.tail.tail.tail)
  refine JH (xs:=List.replicate aw.length 0) (fun _=>rfl) (H.front 1) (uc.CM (H.front 1)) (by rw[gI,List.length_replicate]) fun w H=>?_;rw[gI];refine E6 (x:=(⟨⟨some ⟨mq,0,none⟩,aw.length,aw.length⟩,g.sure⟩:o9)) (S:=(⟨⟨some ⟨mq,0,none⟩,aw.length,aw.length⟩,(aw.length:Nat)⟩:o9)) (G:=1) (dg:=B .i64) (z:=((aw.length:Nat):Int)) (fun _=>rfl) Y r9 rfl (Nat.le_of_ble_eq_true rfl) (H.front 1) fun w H=>?_;refine⟨⟨some ⟨mq,0,none⟩,aw.length,aw.length⟩,?_⟩;rw[List.set_set] at H;have H:=(H.ord [3]).drop;refine H.perm ?_;refine List.Perm.cons _ (List.Perm.cons _ ?_);exact List.perm_middle.symm
 ·rintro r w ⟨rfl,H⟩;exact⟨rfl,(H.front 1).drop⟩
theorem aGt{d:Nat}{K:c1}{n:Int}(dA:K.hP)(H:E A (eN d K::m) w) :
  M Pg 142 [.pointer (some ⟨d,0,none⟩),.int .i64 n] (bB X (B .i64)) w fun r J=>(¬ (0≤n∧n<K.c3.length)→r.2=70∧E A (eN d K::m) J)∧((0≤n∧n<K.c3.length)→K.down=true→r.2=71∧E A (eN d K::m) J) ∧
   ∀ g,0≤n→K.down=false→K.c3[n.toNat]?=some g→r.2=0∧E A (row (B .u8) 5 1 r.1 (aV g.e)::eN d K::m) J:=by
 refine ag2 ?_;unfold Uu;refine ap (Kc H) ?_;rintro r w ⟨rfl,H⟩;by_cases cK:0≤n∧n<K.c3.length
 ·rw[decide_eq_true cK,if_neg (by simp)];refine ch rfl ?_;obtain⟨s,P,bG,fA,H⟩:=x3 H;refine ak (x:=K.down) 0 H rfl rfl rfl ?_;by_cases ag:K.down=true
  ·rw[if_pos ag];exact⟨fun h=>absurd cK h,fun _ _=>⟨rfl,rc fA H⟩,fun g _ h=>by rw[ag] at h; cases h⟩
  ·rw[if_neg ag];have al:P.length=K.c3.length:=by rw[← fA,List.length_map]
   refine ak (x:=s) 0 H rfl rfl rfl ?_;obtain⟨a,ta⟩:=k3 (i:=n) (H.front 1) cK.1 (by rw[List.length_map,al]; exact cK.2);refine aR a ta ?_;have kq:P[n.toNat]?=some P[n.toNat]:=List.getElem?_eq_getElem (by omega);have O:K.c3[n.toNat]?=some (P[n.toNat]).2:=by rw[← fA,List.getElem?_map,kq]; rfl
   generalize P[n.toNat]=p at kq O;have U:=KX (Ey kq (H.front 2));obtain⟨q,g⟩:=p;simp only at O U;have Eh:=(dA.log g (List.mem_of_getElem? O)).2;have F:(P.map mQ)[n.toNat]?=some (mQ (q,g)):=by rw[List.getElem?_map,kq]; rfl
   refine aR q (ql (x:=mQ (q,g)) (dg:=X) (fun _=>rfl) ta F rfl (H.front 1)) ?_;rw[U.1];refine HO (ar:=1) (by omega) (by omega) (by omega) H fun e w H=>?_;refine ak (x:=s) 1 H rfl rfl rfl ?_;refine aR a ta ?_;refine aR q (ql (x:=mQ (q,g)) (dg:=X) (fun _=>rfl) ta F rfl (H.front 2)) ?_;have aa:lu (B .u8) w q (aV g.e):=Do (Ey kq (H.front 3));refine JH (xs:=List.replicate ((g.e.length:Int)).toNat 0) (fun _=>rfl) H aa (by rw[gI,List.length_replicate]; omega) fun w H=>?_;refine⟨fun h=>absurd cK h,fun _ h=>absurd h ag,fun cP _ _ yv=>?_⟩;rw[O] at yv;cases yv;exact⟨rfl,(rc fA (H.ord [1,2,3,4])).front 1⟩
 ·rw[decide_eq_false cK,if_pos (by simp)];refine⟨fun _=>⟨rfl,H⟩,fun h=>absurd h cK,fun g ah _ O=>absurd ⟨ah,?_⟩ cK⟩;have:=(List.getElem?_eq_some_iff.1 O).1;omega
theorem aH7{d:Nat}{K:c1}{n:Int}{g:ed}(ah:0≤n)(O:K.c3[n.toNat]?=some g)(H:E A (eN d K::m) w) :
  M Pg 145 [.pointer (some ⟨d,0,none⟩),.int .i64 n] (B .i64) w fun r J=>r=(g.sure:Nat)∧E A (eN d K::m) J:=by
 have dI:=(List.getElem?_eq_some_iff.1 O).1;refine ag5 ?_;unfold Ux;refine ap (Kc H) ?_;rintro r w ⟨rfl,H⟩;rw[decide_eq_true (by omega),if_neg (by simp)];refine ch rfl ?_;obtain⟨s,P,bG,fA,H⟩:=x3 H;have al:P.length=K.c3.length:=by rw[← fA,List.length_map]
 refine ak (x:=s) 0 H rfl rfl rfl ?_;obtain⟨a,ta⟩:=k3 (i:=n) (H.front 1) ah (by rw[List.length_map,al]; omega);refine aR a ta ?_;have kq:P[n.toNat]?=some P[n.toNat]:=List.getElem?_eq_getElem (by omega);have kJ:K.c3[n.toNat]?=some (P[n.toNat]).2:=by rw[← fA,List.getElem?_map,kq]; rfl
 generalize P[n.toNat]=p at kq kJ;rw[O] at kJ;cases kJ;refine aR (p.2.sure:Int) (ql (x:=mQ p) (dg:=B .i64) (fun _=>rfl) ta (by rw[List.getElem?_map,kq]; rfl) rfl (H.front 1)) ?_;exact⟨rfl,rc fA H⟩
theorem aIJ{d:Nat}{K:c1}(H:E A (eN d K::m) w):M Pg 73 [.pointer (some ⟨d,0,none⟩)] eh w fun _ J=>E A (eN d { K with down:=false }::m) J:=by
 refine ajp ?_;unfold WM;refine ch rfl ?_;obtain⟨s,P,bG,fA,H⟩:=x3 H;refine dK (x:=false) 0 H rfl rfl (Nat.le_of_ble_eq_true rfl) fun w H=>?_;exact rc (K:={ K with down:=false }) fA H
end
abbrev aj4:=Bp
section
variable {A w:World} {m bX:List bE} {s:af} {aw:List UInt8}
def mH(eA:List af)(xs:List (List UInt8))(aZ:cD):Prop:=eA.length=xs.length∧∀ (i:Nat) (q:af) (x:List UInt8),eA[i]?=some q→xs[i]?=some x→q.len≤q.cap∧dd (B .u8) q (aV x) aZ
theorem mH.mono{eA:List af}{xs:List (List UInt8)}{aZ ho:cD}(h:cD.le aZ ho):mH eA xs aZ→mH eA xs ho:=fun ⟨I,R⟩=>⟨I,fun i q x ba F=>⟨(R i q x ba F).1,dd.mono h (R i q x ba F).2⟩⟩
def ul(eA:List af)(xs:List (List UInt8)):bE:=r1 (mH eA xs) mH.mono
theorem mH.push{eA:List af}{xs:List (List UInt8)}{q:af}{x:List UInt8}{aZ:cD}(h:mH eA xs aZ)(U:q.len≤q.cap)(aa:dd (B .u8) q (aV x) aZ):mH (eA++[q]) (xs++[x]) aZ:=by
 refine⟨by simp[h.1],fun i gK agb ba F=>?_⟩;by_cases c:i<eA.length
 ·rw[List.getElem?_append_left c] at ba;rw[List.getElem?_append_left (by rw[← h.1]; exact c)] at F;exact h.2 i gK agb ba F
 ·have ay:i=eA.length:=by
   have:=(List.getElem?_eq_some_iff.1 ba).1;simp at this; omega
  subst ay;rw[List.getElem?_append_right (Nat.le_refl _)] at ba;rw[List.getElem?_append_right (by rw[h.1]; exact Nat.le_refl _),h.1] at F;simp at ba F;subst ba; subst F;exact⟨U,aa⟩
theorem aHg(ms:s.len≤s.cap)(aM:aw.length≤1000000000)(k:ca m (dd (B .u8) s (aV aw)))(H:E A m w) :
  M Pg 143 [X.enc s] (bB X (B .i64)) w fun r J=>r.2=((scan aw).2:Nat)∧∃ eA:List af,E A (row X 189 1 r.1 eA::ul eA (scan aw).1::m) J:=by
 have aH:=k.len H;rw[gI] at aH;refine ag3 ?_;unfold Uv;refine EA (fun o p w=>∃ (a f:Nat) (xs:List (List UInt8)) (eA:List af),o=aw.length-a∧p.2=(a:Int)∧a≤aw.length∧aw.length-a<f∧xs.length≤a∧scan aw=qH f (aw.drop a) xs a∧E A (row X 189 1 p.1 eA::ul eA xs::m) w) aw.length
  ⟨0,aw.length+1,[],[],by omega,rfl,by omega,by omega,by simp,rfl,k4 X 189 1 (H.Ao (o:=mH.mono) (fun _ _ _=>⟨rfl,fun i q x ba=>by simp at ba⟩))⟩ ?_
 clear H;rintro o ⟨r,a⟩ w ⟨a,f,xs,eA,rfl,rfl,Y,am,aKE,he,H⟩ ab cg;simp only at H;unfold MT;rw[aH];refine ot (by omega) (by omega) (by omega) (by omega) fun xl iG=>?_;have j8:=k.sub (fun _=>rfl) iG (by rw[gI]; omega);have uY:((aV aw).take (aw.length:Int).toNat).drop ((a:Int)).toNat=aV (aw.drop a):=by
  rw[MC,List.take_of_length_le (by rw[gI]; omega)]; rfl
 rw[uY] at j8;have apw:xl.len≤xl.cap:=by
  obtain⟨cp,fE,_⟩:=Iv iG;rw[cp,fE]; omega
 refine ap (RO apw (by simp; omega) j8.tail.tail H) ?_;rintro⟨q,n,l⟩ w Kr;obtain⟨g,rfl⟩:∃ g,f=g+1:=⟨f-1,by omega⟩
 simp only[qH] at he;cases aj:nO (aw.drop a) with
 |error h6=>
  rw[aj] at Kr he;obtain⟨I,R,H⟩:=Kr;simp only at I he;subst I;rw[if_pos (by simpa using R)];rw[he];exact⟨rfl,eA,H⟩
 |ok p=>
  obtain⟨x,Rn⟩:=p;rw[aj] at Kr he;obtain⟨I,R,aK,H⟩:=Kr;simp only at I R aK he H;subst I; subst R;rw[if_neg (by simp)];obtain⟨bD,e4,jr,nI⟩:=Lq aj;rw[List.length_drop] at bD;have wS:eA.length=xs.length:=by
   obtain⟨aZ,_,a_⟩:=(ca.pP (ca.tail (ca.tail (ca.here (o:=mH.mono))))) H;exact a_.1
  refine nF (fun _=>rfl) 1 H rfl (by simp; omega) fun oT w H=>?_;have aS:IntKind.i64.wrap ((a:Int)+(Rn:Int))=((a+Rn:Nat):Int):=by rw[wrap_i64 (by omega) (by omega)]; omega
  rw[aS]
  have hn:=H.Ao (fs:=mH (eA++[q]) (xs++[x])) (o:=mH.mono) (by
   intro aZ h cK;have c6:mH eA xs aZ:=(ca.tail (ca.tail (ca.here (o:=mH.mono)))) aZ h cK;have Ay:dd (B .u8) q (aV x) aZ:=(ca.tail (ca.here (o:=dd.mono))) aZ h cK
   exact c6.push aK Ay)
  refine cg _ _ _ ?_ ⟨a+Rn,g,xs++[x],eA++[q],rfl,rfl,by omega,by omega,by simp; omega,by rw[he,List.drop_drop],?_⟩
  ·omega
  ·exact (hn.ord [2,3]).drop.drop.front 1
structure nC where
 all:Int
 sure:Int
 log:Int
 dead:Bool
def il(e d:Nat)(V:nC):bE:=aJ e (aj4.cells ⟨⟨V.all,V.sure⟩,some ⟨d,0,none⟩,V.log,V.dead⟩) 238
def gB(K:c1)(V:nC)(x:List UInt8):c1×nC×Int:=
 if V.dead then (K,V,81) else if 65536<x.length then (K,V,30)
 else ((oG K V.log (hh x)).1,{ V with all:=if (oG K V.log (hh x)).2=0 then IntKind.i64.wrap (V.all+1) else V.all,dead:=V.dead||(oG K V.log (hh x)).2==71 },(oG K V.log (hh x)).2)
def gH(K:c1)(V:nC):c1×nC×Int:=
 if V.dead then (K,V,81)
 else ((oY K V.log).1,{ V with sure:=if (oY K V.log).2=0 then V.all else V.sure,dead:=V.dead||(oY K V.log).2==71 },(oY K V.log).2)
theorem Cn{e d:Nat}{V:nC}{l:Int}(H:E A (il e d V::m) w):M Pg 128 [.pointer (some ⟨e,0,none⟩),.int .i64 l] (B .i64) w fun r J=>r=l∧E A (il e d { V with dead:=V.dead||l==71 }::m) J:=by
 refine agO ?_;unfold Ug;refine ch rfl ?_;refine ak (x:=V.dead) 0 H rfl rfl rfl ?_;refine dK (x:=V.dead||l==71) 0 H rfl rfl (Nat.le_of_ble_eq_true rfl) fun w H=>?_;exact⟨rfl,H⟩
theorem Ou{e d:Nat}{K:c1}{V:nC}{q:af}{x:List UInt8}(dA:K.hP)(aM:x.length≤9223372036854775806)(k:dr 1 m (B .u8) q (aV x))(H:E A (il e d V::eN d K::m) w) :
  M Pg 98 [.pointer (some ⟨e,0,none⟩),X.enc q] (B .i64) w fun r J=>r=(gB K V x).2.2∧E A (il e d (gB K V x).2.1::eN d (gB K V x).1::m) J:=by
 refine ajO ?_;unfold W8 I9 gB;refine ch rfl ?_;refine ak (x:=V.dead) 0 H rfl rfl rfl ?_;by_cases ag:V.dead=true
 ·rw[if_pos ag,if_pos ag];exact⟨rfl,H⟩
 ·rw[if_neg ag,if_neg ag];refine ap (aHi aM k.tail.tail H) ?_;rintro⟨r,l⟩ w ⟨I,R⟩;by_cases F:65536<x.length
  ·obtain⟨aK,H⟩:=I F;cases aK;rw[if_pos (by simp),if_pos F];exact⟨rfl,H⟩
  ·obtain⟨aK,H⟩:=R (by omega);simp only at aK H;subst aK;rw[if_neg (by simp),if_neg F];refine dy H fun w H=>?_;refine ak (x:=some ⟨d,0,none⟩) 1 H rfl rfl rfl ?_;refine ak (x:=V.log) 1 H rfl rfl rfl ?_;refine ap (akE dA (by rw[va]; omega) (dr.row (fun _=>rfl) 0 rfl) (H.front 2)) ?_;rintro l w ⟨rfl,H⟩;refine ap (Cn (H.front 2)) ?_;rintro l w ⟨rfl,H⟩;refine⟨bO aE H rfl rfl,bO (B .i64) H rfl rfl,?_⟩;by_cases he:(oG K V.log (hh x)).2=0
   ·rw[if_pos (by simp[he]),if_pos he];refine ak (x:=V.all) 0 H rfl rfl rfl ?_;refine dK (x:=IntKind.i64.wrap (V.all+1)) 0 H rfl rfl (Nat.le_of_ble_eq_true rfl) fun w H=>?_;exact⟨rfl,(H.ord [2]).drop⟩
   ·rw[if_neg (by simp[he]),if_neg he];exact⟨rfl,(H.ord [2]).drop⟩
theorem SZ{e d:Nat}{K:c1}{V:nC}(dA:K.hP)(H:E A (il e d V::eN d K::m) w) :
  M Pg 80 [.pointer (some ⟨e,0,none⟩)] (B .i64) w fun r J=>r=(gH K V).2.2∧E A (il e d (gH K V).2.1::eN d (gH K V).1::m) J:=by
 refine ajx ?_;unfold WT I6 gH;refine ch rfl ?_;refine ak (x:=V.dead) 0 H rfl rfl rfl ?_;by_cases ag:V.dead=true
 ·rw[if_pos ag,if_pos ag];exact⟨rfl,H⟩
 ·rw[if_neg ag,if_neg ag];refine dy H fun w H=>?_;refine ak (x:=some ⟨d,0,none⟩) 0 H rfl rfl rfl ?_;refine ak (x:=V.log) 0 H rfl rfl rfl ?_;refine ap (afg dA (H.front 1)) ?_;rintro l w ⟨rfl,H⟩;refine ap (Cn (H.front 1)) ?_;rintro l w ⟨rfl,H⟩;refine⟨bO aE H rfl rfl,bO (B .i64) H rfl rfl,?_⟩;by_cases he:(oY K V.log).2=0
  ·rw[if_pos (by simp[he]),if_pos he];refine ak (x:=V.all) 0 H rfl rfl rfl ?_;refine dK (x:=V.all) 0 H rfl rfl (Nat.le_of_ble_eq_true rfl) fun w H=>?_;exact⟨rfl,H⟩
  ·rw[if_neg (by simp[he]),if_neg he];exact⟨rfl,H⟩
def dq(K:c1)(n:Int)(g:ed):c1×Int:=
 if (scan g.e).2<g.e.length then AM K n (g.e.take (scan g.e).2) else if g.sure<(scan g.e).2 then oY K n else (K,0)
theorem aeS(aw:List UInt8):(scan aw).2≤aw.length:=by
 have key:∀ (f:Nat) (aw:List UInt8) (m:List (List UInt8)) (a:Nat),(qH f aw m a).2≤a+aw.length:=by
  intro f;induction f with
  |zero=>intro aw m a; simp[qH]
  |succ f cq=>
   intro aw m a;simp only[qH];cases aj:nO aw with
   |error l=>simp
   |ok p=>
    obtain⟨x,n⟩:=p;have:=cq (aw.drop n) (m++[x]) (a+n);have h:=Lq aj;rw[List.length_drop] at this;simp only;omega
 have:=key (aw.length+1) aw [] 0;unfold scan; omega
theorem aeR(aw:List UInt8):(scan aw).1.length≤aw.length:=by
 have key:∀ (f:Nat) (aw:List UInt8) (m:List (List UInt8)) (a:Nat),(qH f aw m a).1.length≤m.length+aw.length:=by
  intro f;induction f with
  |zero=>intro aw m a; simp[qH]
  |succ f cq=>
   intro aw m a;simp only[qH];cases aj:nO aw with
   |error l=>simp
   |ok p=>
    obtain⟨x,n⟩:=p;have:=cq (aw.drop n) (m++[x]) (a+n);have h:=Lq aj;rw[List.length_drop] at this;simp only[List.length_append,List.length_cons,List.length_nil] at this;simp only;omega
 have:=key (aw.length+1) aw [] 0;unfold scan; simpa using this
theorem acG{d:Nat}{K:c1}{n:Int}{g:ed}(dA:K.hP)(ah:0≤n)(Ed:K.down=false)(O:K.c3[n.toNat]?=some g)(H:E A (eN d K::m) w) :
  M Pg 91 [.pointer (some ⟨d,0,none⟩),.int .i64 n] (mz aE X (B .i64)) w fun r J=>r.2.2=(dq K n g).2∧((dq K n g).2=0→∃ (e:Nat) (eA:List af),r.1=some ⟨e,0,none⟩ ∧
   E A (il e d ⟨(scan g.e).1.length,(scan g.e).1.length,n,false⟩::eN d (dq K n g).1::row X 189 1 r.2.1 eA::ul eA (scan g.e).1::m) J)∧((dq K n g).2≠0→r.1=none∧E A (eN d (dq K n g).1::m) J):=by
 have dI:=(List.getElem?_eq_some_iff.1 O).1;have Eh:=dA.log g (List.mem_of_getElem? O);refine ajI ?_;unfold NY;rw[if_neg (by simp)];refine ap (aGt (n:=n) dA H) ?_;rintro⟨r,l⟩ w ⟨_,_,aK⟩;obtain⟨bp,H⟩:=aK g ah Ed O;simp only at bp H;subst bp;rw[if_neg (by simp)];have uf:=gG H;have Kq:=E1 H;rw[gI] at uf;have H:=vP H;have aK1:ca [ro (B .u8) r (aV g.e)] (dd (B .u8) r (aV g.e)):=ca.here (o:=dd.mono);refine ap (aHg Kq (by omega) (ca.here (o:=dd.mono)) H) ?_;rintro⟨q,o⟩ w ⟨hm,eA,H⟩;simp only at hm H;subst hm;have Kt:=aeS g.e;rw[uf]
 have hj:∀ (er:c1) (l:Int) (w:World),dq K n g=(er,l)→E A (eN d er::row X 189 1 q eA::ul eA (scan g.e).1::m) w→Ba (some ⟨d,0,none⟩) n (q,((scan g.e).2:Int)) l w fun r J=>r.2.2=(dq K n g).2∧((dq K n g).2=0→∃ (e:Nat) (eA:List af),r.1=some ⟨e,0,none⟩ ∧
   E A (il e d ⟨(scan g.e).1.length,(scan g.e).1.length,n,false⟩::eN d (dq K n g).1::row X 189 1 r.2.1 eA::ul eA (scan g.e).1::m) J)∧((dq K n g).2≠0→r.1=none∧E A (eN d (dq K n g).1::m) J):=by
  intro er l w aq3 H;rw[aq3];unfold Ba;by_cases he:l=0
  ·subst he;rw[if_neg (by simp)];have wS:=gG (H.front 1);have arh:eA.length=(scan g.e).1.length:=by
    obtain⟨aZ,_,a_⟩:=(ca.pP (ca.tail (ca.tail (ca.here (o:=mH.mono))))) H;exact a_.1
   simp only;rw[wS,arh];refine bR H fun e w H=>?_;exact⟨by trivial,fun _=>⟨e,eA,rfl,H⟩,fun h=>absurd rfl h⟩
  ·rw[if_pos (by simpa using he)];exact⟨by trivial,fun h=>absurd h he,fun _=>⟨by trivial,((H.ord [1,2]).drop.drop)⟩⟩
 by_cases I:(scan g.e).2<g.e.length
 ·rw[if_pos (by simp; omega)];dsimp only;refine ot (by omega) (by omega) (by omega) (by omega) fun SJ ZL=>?_;have wZ:=(ca.tail (ca.tail (ca.here (o:=dd.mono)):ca (ul eA (scan g.e).1::ro (B .u8) r (aV g.e)::eN d K::m) (dd (B .u8) r (aV g.e))):ca (row X 189 1 q eA::ul eA (scan g.e).1::ro (B .u8) r (aV g.e)::eN d K::m) (dd (B .u8) r (aV g.e)))
  have Be:=H.ord [3,2];have vu:ca (ro (B .u8) r (aV g.e)::row X 189 1 q eA::ul eA (scan g.e).1::m) (dd (B .u8) r (aV g.e)):=ca.here (o:=dd.mono);have ry:=vu.sub (fun _=>rfl) ZL (by rw[gI]; omega);have akR:((aV g.e).take (((scan g.e).2:Nat):Int).toNat).drop ((0:Int)).toNat=aV (g.e.take (scan g.e).2):=by rw[IU]; rfl
  rw[akR] at ry;refine ap (aIa (n:=n) dA (by rw[List.length_take]; omega) (dr.ro (fun _=>rfl) ry) Be) ?_;rintro l w ⟨rfl,H⟩;refine hj _ _ w ?_ ((H.front 1).drop);unfold dq;rw[if_pos I]
 ·rw[if_neg (by simp; omega)];refine ap (aH7 ah O (H.ord [3,2])) ?_;rintro l w ⟨rfl,H⟩;by_cases R:g.sure<(scan g.e).2
  ·rw[if_pos (by simp; omega)];refine ap (afg (n:=n) dA H) ?_;rintro l w ⟨rfl,H⟩;refine hj _ _ w ?_ ((H.front 1).drop);unfold dq;rw[if_neg I,if_pos R]
  ·rw[if_neg (by simp; omega)];refine hj K 0 w ?_ ((H.front 1).drop);unfold dq;rw[if_neg I,if_neg R]
end
section
variable {A w:World} {m bX:List bE}
theorem al3{Z:Type}{T:bz Z}{t:TypeId}{ar:Nat}{s:af}{xs:List Z}{z:Z}{ab:World→Prop}(al:∀ x,(T.cells x).length=ar)(i:Nat)(H:E A m w)(ay:front i m=row T t ar s xs::bX)
  (aq:∀ J,E A (row T t ar s (List.replicate xs.length z)::bX) J→ab J):wG T ar z s w ab:=by
 have H:=ay▸H.front i;rcases oV H with ⟨rfl,rfl,lR⟩ | ⟨e,rest,dx,ef,g0,jV,hb⟩
 ·exact aq w (k4 T t ar lR)
 ·unfold wG;rw[dx];have nf:(xs.flatMap T.cells).length=s.len*ar:=by rw[n_ al,ef]
  have wU:((List.replicate s.len z).flatMap T.cells).length=s.len*ar:=by rw[n_ al]; simp
  refine⟨C1 hb (by simp only[List.length_append,nf]; omega),aq _ ?_⟩;have:=AB ((List.replicate s.len z).flatMap T.cells) 0 0 _ _ hb (by simp only[List.length_append,nf,wU]; omega);refine uC (rest:=rest) dx (by simpa using ef) g0 jV ?_;have l:jM (xs.flatMap T.cells++rest) (0+0) ((List.replicate s.len z).flatMap T.cells)=(List.replicate xs.length z).flatMap T.cells++rest:=by
   simp only[jM,Nat.add_zero,Nat.zero_add,List.take_zero,List.nil_append,wU];rw[← nf,List.drop_left,ef]
  rw[l] at this;exact this
theorem akF{d:Nat}{K:c1}{n:Int}{s:af}{bI:List Int}(aM:bI.length≤1000000)(k:dr 1 m (B .i64) s bI)(H:E A (eN d K::m) w) :
  M Pg 71 [.pointer (some ⟨d,0,none⟩),.int .i64 n,X.enc s] eh w fun _ J=>E A (eN d { K with et:=max n 0,bI:=bI }::m) J:=by
 refine ajn ?_;unfold WK;refine ch rfl ?_;obtain⟨q,P,bG,fA,H⟩:=x3 H;refine dK (x:=max n 0) 0 H rfl rfl (Nat.le_of_ble_eq_true rfl) fun w H=>?_;refine ak (x:=bG) 0 H rfl rfl rfl ?_;refine al3 (fun _=>rfl) 3 H rfl fun w H=>?_;refine ak (x:=bG) 1 H rfl rfl rfl ?_;refine ot (by omega) (by omega) (by omega) (by omega) fun aeO s0=>?_;obtain⟨_,H⟩:=SH (fun _=>rfl) s0 (by omega) H;rw[show (0:Int).toNat=0 from rfl,List.take_zero] at H;refine DH (fun _=>rfl) 0 H rfl (k.tail.tail.tail.tail.CM H) (by simp; omega) fun r w H=>?_;rw[List.nil_append] at H;refine dK (x:=r) 1 H rfl rfl (Nat.le_of_ble_eq_true rfl) fun w H=>?_;exact rc (K:={ K with et:=max n 0,bI:=bI }) fA (H.ord [0,2,3,1])
end
end Disk
namespace Num
open bj
def pM(n:Int)(f:Nat):Int:=if f=0∨f=9223372036854775808∨n=0 then 0 else if f<4503599627370496 then 1
 else ((n.toNat*(4503599627370496+f%4503599627370496)/2^(1075-f/4503599627370496):Nat):Int)+if n.toNat*(4503599627370496+f%4503599627370496)%2^(1075-f/4503599627370496)=0 then 0 else 1
theorem ae1{x o D:Nat}(h:o+D=64):x*2^D%18446744073709551616=x%2^o*2^D:=by
 have y8:(2:Nat)^64=18446744073709551616:=by decide
 rw[← y8,← h,Nat.pow_add,Nat.mul_mod_mul_right]
theorem JC{n:Int}{f:Nat}(ah:0≤n)(h:jL f):0≤pM n f∧pM n f≤2*n:=by
 unfold pM;split
 ·omega
 ·rename_i I;split
  ·omega
  ·rename_i U;have am:f≤4607182418800017408:=by rcases h with h | h<;>omega
   have aF:(2:Nat)^52=4503599627370496:=by decide
   have hm:n.toNat*(4503599627370496+f%4503599627370496)<n.toNat*(2*4503599627370496):=(Nat.mul_lt_mul_left (by omega)).2 (by omega);have ag:=JJ (n.toNat*(4503599627370496+f%4503599627370496)) (1075-f/4503599627370496) (by omega);generalize n.toNat*(4503599627370496+f%4503599627370496)=cm at *;generalize cm/2^(1075-f/4503599627370496)=Q at *;have:cm/4503599627370496<2*n.toNat:=Nat.div_lt_of_lt_mul (by omega);split<;>omega
section
variable {A w:World} {m bX:List bE}
theorem ae5{n:Int}(ah:0≤n)(I:n≤4503599627370496)(H:E A m w):M Pg 153 [.int .i64 (-n)] (B .u64) w fun r J=>r=n∧E A m J:=by
 by_cases c:n=0
 ·subst c;exact CR (by omega) (by omega) H
 ·refine UE ?_;unfold MX;rw[if_pos (by simp; omega)];have aS:IntKind.u64.wrap (-n)=18446744073709551616-n:=by rw[lP]; omega
  rw[aS];exact⟨by rw[lP]; omega,H⟩
theorem ae3{n:Int}(ah:0≤n)(I:n<9223372036854775808)(H:E A m w):M Pg 155 [.bool true,.int .u64 n] (bB (B .i64) (B .i64)) w fun r J=>r=(-n,0)∧E A m J:=by
 refine UF ?_;unfold MY;rw[if_pos (by simp; omega),wrap_i64 (x:=n) (by omega) (by omega),wrap_i64 (by omega) (by omega)];exact⟨by simp,H⟩
theorem amG{b k:Nat}(ah:0<b)(a5:b<2^104)(aq:52≤k)(jG:k≤4000)(H:E A m w):M Pg 156 [.int .u64 ((b/18446744073709551616:Nat):Int),.int .u64 ((b%18446744073709551616:Nat):Int),.int .u64 (k:Int)] (mz (B .u64) bo bo) w fun r J=>r.2.1=decide (b%2^k≠0)∧r.1=((b/2^k:Nat):Int)∧r.2.2=true∧E A m J:=by
 have y8:(2:Nat)^64=18446744073709551616:=by decide
 have y7:(2:Nat)^104=18446744073709551616*1099511627776:=by decide
 refine UG ?_;unfold MZ;by_cases bx:128≤k
 ·rw[if_pos (by simp; omega)];have dI:b<2^k:=Nat.lt_of_lt_of_le a5 (Nat.pow_le_pow_right (by omega) (by omega));have:b/2^k=0:=Nat.div_eq_of_lt dI;rw[this,Nat.mod_eq_of_lt dI];exact⟨(decide_eq_true (by omega)).symm,rfl,rfl,H⟩
 ·rw[if_neg (by simp; omega)];by_cases bK:64<k
  ·rw[if_pos (by simp; omega)];have dL:IntKind.u64.wrap ((k:Int)-64)=((k-64:Nat):Int):=by rw[k7 _ (by omega) (by omega)]; omega
   have cG:IntKind.u64.wrap ((128:Int)-(k:Int))=((128-k:Nat):Int):=by rw[k7 _ (by omega) (by omega)]; omega
   rw[dL,cG];refine aR _ ⟨by omega,(BH (b/18446744073709551616) (k-64) (by omega) _ rfl).symm⟩ ?_;refine aR _ ⟨by omega,rfl⟩ ?_;have Qc:2^k=18446744073709551616*2^(k-64):=by rw[← y8,← Nat.pow_add]; congr 1; omega
   refine⟨?_,?_,rfl,H⟩
   ·have aS:min ((((128-k:Nat)):Int)).toNat IntKind.u64.bits=128-k:=by
     rw[Int.toNat_natCast];exact Nat.min_eq_left (by show 128-k≤64; omega)
    rw[aS];have bb:((b/18446744073709551616:Nat):Int)*2^(128-k)=((b/18446744073709551616*2^(128-k):Nat):Int):=by rw[Int.natCast_mul]; congr 1
    have dn:IntKind.u64.wrap ((b/18446744073709551616*2^(128-k):Nat):Int)=((b/18446744073709551616%2^(k-64)*2^(128-k):Nat):Int):=by
     rw[lP,← ae1 (show k-64+(128-k)=64 by omega)];omega
    rw[bb,dn];have nb:b%2^k=b%18446744073709551616+18446744073709551616*(b/18446744073709551616%2^(k-64)):=by rw[Qc,Nat.mod_mul]
    rw[nb];have are:=Nat.two_pow_pos (128-k);generalize b/18446744073709551616%2^(k-64)=aQ at *;generalize b%18446744073709551616=aV at *;rw[Bool.eq_iff_iff];simp only[Bool.or_eq_true,bne_iff_ne,ne_eq,decide_eq_true_eq];have bN:((aQ*2^(128-k):Nat):Int)=0↔aQ=0:=by
     constructor
     ·intro h;have h:aQ*2^(128-k)=0:=by omega
      rcases Nat.mul_eq_zero.1 h with h | h
      ·exact h
      ·omega
     ·rintro rfl;simp
    rw[bN];omega
   ·simp only;rw[Qc,Nat.div_div_eq_div_mul]
  ·rw[if_neg (by simp; omega)];by_cases ck:k=64
   ·subst ck;rw[if_pos (by simp)];rw[y8];refine⟨?_,rfl,rfl,H⟩;rw[Bool.eq_iff_iff];simp only[bne_iff_ne,ne_eq,decide_eq_true_eq];omega
   ·rw[if_neg (by simp; omega)];have dL:IntKind.u64.wrap ((64:Int)-(k:Int))=((64-k:Nat):Int):=by rw[k7 _ (by omega) (by omega)]; omega
    rw[dL];obtain⟨D,bT⟩:∃ D,D+k=64:=⟨64-k,by omega⟩
    have Aa:64-k=D:=by omega
    rw[Aa];have yB:(2:Nat)^D*2^k=18446744073709551616:=by rw[← Nat.pow_add,bT,y8]
    have Ej:4503599627370496≤2^k:=by
     have:(2:Nat)^52=4503599627370496:=by decide
     rw[← this];exact Nat.pow_le_pow_right (by omega) aq
    have PY:2^D≤4096:=by
     have:(2:Nat)^12=4096:=by decide
     rw[← this];exact Nat.pow_le_pow_right (by omega) (by omega)
    have aaj:b/18446744073709551616<1099511627776:=by
     rw[y7] at a5;exact Nat.div_lt_of_lt_mul a5
    have G9:b%18446744073709551616<18446744073709551616:=Nat.mod_lt _ (by omega);have J5:b=b/18446744073709551616*18446744073709551616+b%18446744073709551616:=by omega
    have hdiv:b/2^k=b/18446744073709551616*2^D+b%18446744073709551616/2^k:=by
     conv=>lhs; rw[J5,← yB,← Nat.mul_assoc]
     rw[yB,Nat.add_comm,Nat.add_mul_div_right _ _ (Nat.two_pow_pos k),Nat.add_comm]
    have aaq:b%2^k=b%18446744073709551616%2^k:=by
     conv=>lhs; rw[J5,← yB,← Nat.mul_assoc]
     rw[yB,Nat.add_comm,Nat.add_mul_mod_self_right]
    generalize b/18446744073709551616=ay at *;generalize b%18446744073709551616=nM at *;have mv:nM/2^k<2^D:=Nat.div_lt_of_lt_mul (by rw[Nat.mul_comm,yB]; exact G9);have G3:ay*2^D≤1099511627776*4096:=Nat.mul_le_mul (by omega) PY;refine aR _ ⟨by omega,(BH nM k (by omega) _ rfl).symm⟩ ?_;have YL:min ((D:Int)).toNat IntKind.u64.bits=D:=by
     rw[Int.toNat_natCast];exact Nat.min_eq_left (by show D≤64; omega)
    have aS:IntKind.u64.wrap ((ay:Int)*2^(min ((D:Int)).toNat IntKind.u64.bits))=((ay*2^D:Nat):Int):=by
     rw[YL];have c:(ay:Int)*2^D=((ay*2^D:Nat):Int):=by rw[Int.natCast_mul]; congr 1
     rw[c];exact k7 _ (by omega) (by omega)
    have bb:IntKind.u64.wrap ((nM:Int)*2^(min ((D:Int)).toNat IntKind.u64.bits))=((nM%2^k*2^D:Nat):Int):=by
     rw[YL];have c:(nM:Int)*2^D=((nM*2^D:Nat):Int):=by rw[Int.natCast_mul]; congr 1
     rw[c,lP,← ae1 (show k+D=64 by omega)];omega
    refine aR _ ⟨by omega,rfl⟩ ?_;rw[aS];refine aR _ ⟨by omega,rfl⟩ ?_;rw[bb];refine aR _ ⟨by omega,(BH ay k (by omega) _ rfl).symm⟩ ?_;have ah:ay/2^k=0:=Nat.div_eq_of_lt (by omega);rw[ah];refine⟨?_,?_,rfl,H⟩
    ·rw[aaq];generalize nM%2^k=aQ at *;have are:=Nat.two_pow_pos D;rw[Bool.eq_iff_iff];simp only[bne_iff_ne,ne_eq,decide_eq_true_eq];have bN:((aQ*2^D:Nat):Int)=0↔aQ=0:=by
      constructor
      ·intro h;have h:aQ*2^D=0:=by omega
       rcases Nat.mul_eq_zero.1 h with h | h
       ·exact h
       ·omega
      ·rintro rfl;simp
     rw[bN]
    ·simp only;rw[hdiv];have yA:=(bits_nat .u64 64 (by decide) k7 (nM/2^k) (ay*2^D) (by omega) (by omega)).2;rw[yA,Nat.or_comm,Nat.mul_comm ay,← Nat.two_pow_add_eq_or_of_lt mv]
theorem aIw{n:Int}{f:Nat}(ah:0≤n)(I:n≤2000000000000000)(am:jL f)(H:E A m w):M Pg 95 [.int .i64 (-n),.float .f64 f] (bB (B .i64) (B .i64)) w fun r J=>r=(-pM n f,0)∧E A m J:=by
 have wP:f<18446744073709551616:=by rcases am with h | h<;>omega
 obtain⟨k,rfl⟩:∃ k:Nat,n=(k:Int):=⟨n.toNat,by omega⟩
 refine W5 ?_;unfold I7;refine ap (BE wP H) ?_;rintro c w ⟨U,_,_,H⟩;have U:=U am;rw[if_neg (by simp; omega),if_neg (by simp; omega)];have x4:(c==6)=false:=by rw[beq_eq_false_iff_ne]; omega
 rw[x4];unfold Dg;rw[if_neg (by simp)];by_cases bN:f=0∨f=9223372036854775808
 ·refine K5 (ap (ZB bN H) ?_);rintro r w ⟨rfl,H⟩;refine K6 (ap (abM (l:=53) bN H) ?_);rintro r w ⟨rfl,H⟩;refine aR 0 (by rcases bN with h | h<;>subst h; exact Mc.1; exact Mc.2) ?_;refine ap (ae5 ah (by omega) H) ?_;rintro r w ⟨rfl,H⟩;refine ap (CR (n:=0) (by omega) (by omega) H) ?_;rintro r w ⟨rfl,H⟩;refine ap (K7 (x:=k) (S:=0) (by omega) (by omega) H) ?_;rintro r w ⟨rfl,H⟩;rw[if_pos (by simp)];have:pM k r=0:=by
   unfold pM;rw[if_pos (by omega)]
  rw[this];exact⟨rfl,H⟩
 ·have ll:0<f∧f≤4607182418800017408:=by rcases am with h | h<;>omega
  refine K5 (ap (ZC ll.1 ll.2 H) ?_);rintro r w ⟨⟨aW,l,rfl,iy,aM,aH⟩,H⟩;refine K6 (ap (abN iy H) ?_);rintro r w ⟨rfl,H⟩;refine aR _ (afy iy) ?_;refine ap (ae5 ah (by omega) H) ?_;rintro r w ⟨rfl,H⟩;refine ap (CR (n:=((4503599627370496+aW:Nat):Int)) (by omega) (by omega) H) ?_;rintro r w ⟨rfl,H⟩;refine ap (K7 (x:=k) (S:=4503599627370496+aW) (by omega) (by omega) H) ?_;rintro r w ⟨rfl,H⟩;have J8:k*(4503599627370496+aW)≤2000000000000000*9007199254740992:=Nat.mul_le_mul (by omega) (by omega);have y7:(2:Nat)^104=18446744073709551616*1099511627776:=by decide
  have he:l≤1∧-1100≤l∧(f<4503599627370496→l≤-1000):=by
   by_cases c:f<4503599627370496
   ·have:=aH c;omega
   ·have:=(aM (by omega)).2;omega
  have dL:IntKind.i64.wrap (l-53)=l-53:=wrap_i64 (by omega) (by omega);have cG:IntKind.u64.wrap (IntKind.i64.wrap (0-(l-53)))=((53-l).toNat:Nat):=by rw[wrap_i64 (by omega) (by omega),k7 _ (by omega) (by omega)]; omega
  dsimp only;rw[dL,cG];have BZ:pM k f=((k*(4503599627370496+aW)/2^(53-l).toNat:Nat):Int)+if k*(4503599627370496+aW)%2^(53-l).toNat=0 then 0 else 1:=by
   unfold pM;by_cases ax:k=0
   ·subst ax;rw[if_pos (by simp)];simp
   ·rw[if_neg (by omega)];by_cases c:f<4503599627370496
    ·rw[if_pos c];have aq:104≤(53-l).toNat:=by have:=he.2.2 c; omega
     have aF:2^104≤2^(53-l).toNat:=Nat.pow_le_pow_right (by omega) aq;have dI:k*(4503599627370496+aW)<2^(53-l).toNat:=Nat.lt_of_lt_of_le (by rw[y7]; omega) aF;have d_:k*(4503599627370496+aW)≠0:=Nat.mul_ne_zero ax (by omega);rw[Nat.div_eq_of_lt dI,Nat.mod_eq_of_lt dI,if_neg d_];rfl
    ·rw[if_neg c];obtain⟨a,e⟩:=aM (by omega);have:(53-l).toNat=1075-f/4503599627370496:=by omega
     rw[this,Int.toNat_natCast,a]
  rw[BZ];have ba:=JJ (k*(4503599627370496+aW)) (53-l).toNat (by omega);by_cases F:k*(4503599627370496+aW)=0
  ·rw[if_pos (by rw[F]; simp),F];exact⟨by simp,H⟩
  ·have Kh:k≠0:=by rintro rfl; simp at F
   generalize k*(4503599627370496+aW)=cm at *;rw[if_neg (by simp; omega),if_neg (by simp; omega)];refine ap (amG (b:=cm) (k:=(53-l).toNat) (by omega) (by rw[y7]; omega) (by omega) (by omega) H) ?_;rintro⟨q,rest,fits⟩ w ⟨aK,I,R,H⟩;simp only at I R aK;subst I; subst R; subst aK;have aS:decide (-(k:Int)<0)=true:=by rw[decide_eq_true_eq]; omega
   have bb:decide (((4503599627370496+aW:Nat):Int)<0)=false:=by rw[decide_eq_false_iff_not]; omega
   rw[aS,bb];generalize cm/2^(53-l).toNat=Q at *;have dn:(!(true==false))=true:=rfl;by_cases cr:cm%2^(53-l).toNat=0
   ·rw[decide_eq_false (by omega:¬ cm%2^(53-l).toNat≠0),if_neg (by simp),if_neg (by simp),if_pos cr];unfold Bc;rw[aS,bb];refine ap (ae3 (n:=((Q:Nat):Int)) (by omega) (by omega) H) ?_;rintro r w ⟨rfl,H⟩;exact⟨by simp,H⟩
   ·rw[decide_eq_true (by omega:cm%2^(53-l).toNat≠0),if_neg (by simp; omega),if_pos (by simp),if_neg cr];unfold Bc;rw[aS,bb];have nb:IntKind.u64.wrap ((Q:Int)+1)=(Q:Int)+1:=k7 _ (by omega) (by omega);rw[nb];refine ap (ae3 (n:=(Q:Int)+1) (by omega) (by omega) H) ?_;rintro r w ⟨rfl,H⟩;exact⟨rfl,H⟩
end
end Num
namespace Clock
open bj Num
abbrev lU:=jB
abbrev pF:=cW
abbrev hz:=tJ
abbrev aj2:=Bm
def nD:lU:=⟨0,0⟩
def fg(n:Int):Prop:=0≤n∧n≤1125899906842624
instance (n:Int):Decidable (fg n):=by unfold fg; infer_instance
def nG(s:lU):Prop:=fg s.g7∧fg s.jO∧s.g7≤s.jO
instance (s:lU):Decidable (nG s):=by unfold nG; infer_instance
def zT(s:lU):Int:=if nG s then 0 else 50
def mY(s:lU)(k:Int):lU×Int:=if ¬ nG s then (nD,50) else if ¬ fg k then (nD,52) else (⟨max (s.g7-k) 0,min (s.jO+k) 1125899906842624⟩,0)
def DU(s:lU)(k:Int)(f:Nat):lU×Int:=if ¬ nG s then (nD,50) else if ¬ fg k then (nD,52) else mY s (pM k f)
theorem af7{s:lU}{k:Int}(h:nG s)(aq:fg k):(mY s k).2=0∧nG (mY s k).1∧(mY s k).1.g7≤s.g7∧s.jO≤(mY s k).1.jO:=by
 obtain⟨⟨I,R⟩,⟨aK,bp⟩,dz⟩:=h;unfold mY;rw[if_neg (fun c=>c ⟨⟨I,R⟩,⟨aK,bp⟩,dz⟩),if_neg (fun c=>c aq)];have:=aq.1;refine⟨rfl,⟨⟨?_,?_⟩,⟨?_,?_⟩,?_⟩,?_,?_⟩<;>simp only<;>omega
section
variable {A w:World} {m bX:List bE}
theorem aaV(n:Int):(decide (n≥0)&&decide (n≤1125899906842624))=decide (fg n):=by
 rw[Bool.eq_iff_iff];simp only[Bool.and_eq_true,decide_eq_true_eq];unfold fg;omega
theorem L4{n:Int}(H:E A m w):M Pg 168 [.int .i64 n] bo w fun r J=>r=decide (fg n)∧E A m J:=by
 refine ahm ?_;unfold UP;exact⟨aaV n,H⟩
theorem JF{n:Int}(H:E A m w):M Pg 89 [.int .i64 n] bo w fun r J=>r=decide (fg n)∧E A m J:=by
 refine ajF ?_;unfold W1;exact⟨aaV n,H⟩
theorem u4{s:lU}(H:E A m w):M Pg 167 [pF.enc s] (B .i64) w fun r J=>r=zT s∧E A m J:=by
 refine ahl ?_;unfold M2;refine bR H fun ek w H=>?_;refine ak (x:=s.g7) 0 H rfl rfl rfl ?_;refine ap (L4 H) ?_;rintro r w ⟨rfl,H⟩;have bad:∀ (w:World),¬ nG s→E A (aJ ek (pF.cells s) 137::m) w→A7 ⟨ek,0,none⟩ true w fun r J=>r=zT s∧E A m J:=by
  intro w am H;unfold A7;refine aR 0 (fun h=>by cases h) ?_;refine aR 0 (fun h=>by cases h) ?_;rw[if_pos (by simp)];exact⟨by unfold zT; rw[if_neg am],H.drop⟩
 by_cases bx:fg s.g7
 ·rw[decide_eq_true bx,if_neg (by simp)];refine ak (x:=s.jO) 0 H rfl rfl rfl ?_;refine ap (L4 H) ?_;rintro r w ⟨rfl,H⟩;by_cases bK:fg s.jO
  ·rw[decide_eq_true bK];unfold A7;refine aR s.g7 (fun _=>bO (B .i64) H rfl rfl) ?_;refine aR s.jO (fun _=>bO (B .i64) H rfl rfl) ?_;by_cases ck:s.g7≤s.jO
   ·rw[if_neg (by simp; omega)];exact⟨by unfold zT; rw[if_pos ⟨bx,bK,ck⟩],H.drop⟩
   ·rw[if_pos (by simp; omega)];exact⟨by unfold zT; rw[if_neg (fun h=>ck h.2.2)],H.drop⟩
  ·rw[decide_eq_false bK];exact bad w (fun h=>bK h.2.1) H
 ·rw[decide_eq_false bx,if_pos (by simp)];exact bad w (fun h=>bx h.1) H
theorem af8{s:lU}{k:Int}(aq:-9000000000000000000≤k∧k≤9000000000000000000)(H:E A m w):M Pg 166 [pF.enc s,.int .i64 k] (bB pF (B .i64)) w fun r J=>r=mY s k∧E A m J:=by
 refine ahk ?_;unfold UO mY;refine bR H fun iS w H=>?_;refine bR H fun mq w H=>?_;refine ez (x:=s) 1 H rfl ?_;refine ap (u4 H) ?_;rintro r w ⟨rfl,H⟩;unfold zT;by_cases bx:nG s
 ·rw[if_pos bx,if_neg (by simp),if_neg (fun h=>h bx)];refine ap (L4 H) ?_;rintro r w ⟨rfl,H⟩;by_cases bK:fg k
  ·rw[decide_eq_true bK,if_neg (by simp:¬ (!true)=true),if_neg (fun h=>h bK)];refine ak (x:=s.g7) 1 H rfl rfl rfl ?_;refine ak (x:=s.jO) 1 H rfl rfl rfl ?_;obtain⟨⟨I,R⟩,⟨aK,bp⟩,dz⟩:=bx;obtain⟨iG,r4⟩:=bK;rw[wrap_i64 (x:=s.g7-k) (by omega) (by omega),wrap_i64 (x:=s.jO+k) (by omega) (by omega)];refine de (x:=jR) (S:=(⟨max (s.g7-k) 0,min (s.jO+k) 1125899906842624⟩:lU)) po 0 H rfl fun w H=>?_;refine ez (x:=(⟨max (s.g7-k) 0,min (s.jO+k) 1125899906842624⟩:lU)) 0 H rfl ?_;exact⟨rfl,H.drop.drop⟩
  ·rw[decide_eq_false bK,if_pos (by simp:(!false)=true),if_pos bK];refine de (x:=jR) (S:=nD) po 0 H rfl fun w H=>?_;refine ez (x:=nD) 0 H rfl ?_;exact⟨rfl,H.drop.drop⟩
 ·rw[if_neg bx,if_pos (by simp),if_pos bx];refine de (x:=jR) (S:=nD) po 0 H rfl fun w H=>?_;refine ez (x:=nD) 0 H rfl ?_;exact⟨rfl,H.drop.drop⟩
theorem XN{t k:Int}(aq:-9000000000000000000≤k∧k≤9000000000000000000)(H:E A m w):M Pg 111 [.int .i64 t,.int .i64 k] (bB pF (B .i64)) w fun r J=>r=mY ⟨t,t⟩ k∧E A m J:=by
 refine agw ?_;unfold T0;refine bR H fun iS w H=>?_;refine ap (af8 (s:=⟨t,t⟩) aq H) ?_;rintro r w ⟨rfl,H⟩;refine de (x:=jR) (S:=(mY ⟨t,t⟩ k).1) po 0 H rfl fun w H=>?_;refine ez (x:=(mY ⟨t,t⟩ k).1) 0 H rfl ?_;exact⟨rfl,H.drop⟩
theorem amH{s:lU}{k:Int}{f:Nat}(am:jL f)(O:ga .gtr f 4607182418800017408=false)(H:E A m w):M Pg 112 [pF.enc s,.int .i64 k,.float .f64 f] (bB pF (B .i64)) w fun r J=>r=DU s k f∧E A m J:=by
 have wP:f<18446744073709551616:=by rcases am with h | h<;>omega
 refine agx ?_;unfold T1 DU;refine bR H fun iT w H=>?_;refine bR H fun uY w H=>?_;refine ez (x:=s) 1 H rfl ?_;refine ap (u4 H) ?_;rintro r w ⟨rfl,H⟩;unfold zT;by_cases bx:nG s
 ·rw[if_pos bx,if_neg (by simp),if_neg (fun h=>h bx)];refine ap (L4 H) ?_;rintro r w ⟨rfl,H⟩;by_cases bK:fg k
  ·rw[decide_eq_true bK,if_neg (by simp:¬ (!true)=true),if_neg (fun h=>h bK)];refine ap (BE wP H) ?_;rintro c w ⟨U,_,_,H⟩;have U:=U am;rw[if_neg (by rw[O]; simp; omega)];have r4:=bK.1;have tZ:=bK.2;rw[wrap_i64 (x:=0-k) (by omega) (by omega),Int.zero_sub];refine ap (aIw r4 (by omega) am H) ?_;rintro r w ⟨rfl,H⟩;rw[if_neg (by simp)];refine ez (x:=s) 1 H rfl ?_;have ll:=JC (f:=f) r4 am;simp only;rw[wrap_i64 (x:=0 - -pM k f) (by omega) (by omega),show 0 - -pM k f=pM k f from by omega];refine ap (af8 (s:=s) (by omega) H) ?_;rintro r w ⟨rfl,H⟩;refine de (x:=jR) (S:=(mY s (pM k f)).1) po 0 H rfl fun w H=>?_;refine ez (x:=(mY s (pM k f)).1) 0 H rfl ?_;exact⟨rfl,H.drop.drop⟩
  ·rw[decide_eq_false bK,if_pos (by simp:(!false)=true),if_pos bK];refine de (x:=jR) (S:=nD) po 0 H rfl fun w H=>?_;refine ez (x:=nD) 0 H rfl ?_;exact⟨rfl,H.drop.drop⟩
 ·rw[if_neg bx,if_pos (by simp),if_pos bx];refine de (x:=jR) (S:=nD) po 0 H rfl fun w H=>?_;refine ez (x:=nD) 0 H rfl ?_;exact⟨rfl,H.drop.drop⟩
end
structure jl(c:hz):Prop where
 eR:jL c.eR
 gtr:ga .gtr c.eR 4607182418800017408=false
 last:fg c.last
 floor:fg c.floor
 at_:fg c.dv.at_
 ih:fg c.dv.ih
 width:fg c.dv.width
 le:c.dv.at_≤c.last
def kn(e:Nat)(c:hz):bE:=aJ e (aj2.cells c) 175
def sB(c:hz)(h t l:Int):hz×Int:=if ¬ (fg h∧fg t∧fg l) then (c,61) else if h<c.last then (c,62) else ({ c with dv:=⟨h,t,l,true⟩,last:=h },0)
def sy(c:hz)(h:Int):lU:=(DU (mY ⟨c.dv.ih+(h-c.dv.at_),c.dv.ih+(h-c.dv.at_)⟩ c.dv.width).1 (h-c.dv.at_) c.eR).1
def sF(f:Int)(s:lU):lU:=⟨max s.g7 f,max s.jO (max s.g7 f)⟩
def fj(c:hz)(h:Int):hz×lU×Int:=
 if ¬ fg h then (c,nD,61) else if c.dv.set=false then (c,nD,63) else if h<c.last then (c,nD,62) else if 1125899906842624<c.dv.ih+(h-c.dv.at_) then (c,nD,64)
 else ({ c with last:=h,floor:=(sF c.floor (sy c h)).g7 },sF c.floor (sy c h),0)
theorem jl.set{c:hz}(k:jl c)(h t l:Int):jl (sB c h t l).1:=by
 unfold sB;split
 ·exact k
 ·rename_i bx;have bx:fg h∧fg t∧fg l:=Classical.not_not.1 bx;split
  ·exact k
  ·exact⟨k.eR,k.gtr,bx.1,k.floor,bx.1,bx.2.1,bx.2.2,Int.le_refl _⟩
theorem aGu{c:hz}(k:jl c){h:Int}(cK:fg h)(al:c.last≤h)(aT:c.dv.ih+(h-c.dv.at_)≤1125899906842624):nG (sy c h):=by
 have I:=k.at_;have R:=k.ih;have aK:=k.le;obtain⟨bp,dz⟩:=cK;have hw:=af7 (s:=⟨c.dv.ih+(h-c.dv.at_),c.dv.ih+(h-c.dv.at_)⟩) (k:=c.dv.width) (by refine⟨⟨?_,?_⟩,⟨?_,?_⟩,?_⟩<;>simp only<;>unfold fg at*<;> omega) k.width;unfold sy DU;unfold fg at I R;have ay:fg (h-c.dv.at_):=⟨by omega,by omega⟩
 rw[if_neg (fun aM=>aM hw.2.1),if_neg (fun aM=>aM ay)];have U:=JC (f:=c.eR) ay.1 k.eR;by_cases ao:fg (pM (h-c.dv.at_) c.eR)
 ·exact (af7 hw.2.1 ao).2.1
 ·unfold mY;rw[if_neg (fun aM=>aM hw.2.1),if_pos ao];exact⟨⟨by decide,by decide⟩,⟨by decide,by decide⟩,by decide⟩
theorem jl.now{c:hz}(k:jl c)(h:Int):jl (fj c h).1∧((fj c h).2.2=0→nG (fj c h).2.1):=by
 unfold fj;split
 ·exact⟨k,fun h=>by cases h⟩
 ·rename_i bx;have bx:fg h:=Classical.not_not.1 bx;split
  ·exact⟨k,fun h=>by cases h⟩
  ·split
   ·exact⟨k,fun h=>by cases h⟩
   ·split
    ·exact⟨k,fun h=>by cases h⟩
    ·have am:=aGu k bx (by omega) (by omega);obtain⟨⟨bD,e4⟩,⟨jr,nI⟩,BL⟩:=am;have cM:=k.floor;have rC:=k.le;unfold fg at cM;have nf:fg (max (sy c h).g7 c.floor):=⟨by omega,by omega⟩
     exact⟨⟨k.eR,k.gtr,bx,nf,k.at_,k.ih,k.width,by simp only; omega⟩,fun _=>⟨nf,⟨by simp only[sF]; omega,by simp only[sF]; omega⟩,by simp only[sF]; omega⟩⟩
section
variable {A w:World} {m bX:List bE}
theorem aeX{e:Nat}{c:hz}{h t l:Int}(H:E A (kn e c::m) w):M Pg 40 [.pointer (some ⟨e,0,none⟩),.int .i64 h,.int .i64 t,.int .i64 l] (B .i64) w fun r J=>r=(sB c h t l).2∧E A (kn e (sB c h t l).1::m) J:=by
 refine aiQ ?_;unfold Wf sB;refine ap (JF H) ?_;rintro r w ⟨rfl,H⟩;have bad:∀ (w:World),¬ (fg h∧fg t∧fg l)→E A (kn e c::m) w→Db (some ⟨e,0,none⟩) h t l true w fun r J=>r=(if ¬ (fg h∧fg t∧fg l) then (c,(61:Int)) else if h<c.last then (c,62) else ({ c with dv:=⟨h,t,l,true⟩,last:=h },0)).2∧E A (kn e (if ¬ (fg h∧fg t∧fg l) then (c,(61:Int)) else if h<c.last then (c,62) else ({ c with dv:=⟨h,t,l,true⟩,last:=h },0)).1::m) J:=by
  intro w aM H;unfold Db;rw[if_pos rfl,if_pos aM];exact⟨rfl,H⟩
 by_cases bx:fg h
 ·rw[decide_eq_true bx,if_neg (by simp:¬ (!true)=true)];refine ap (JF H) ?_;rintro r w ⟨rfl,H⟩;unfold FO;by_cases bK:fg t
  ·rw[decide_eq_true bK,if_neg (by simp:¬ (!true)=true)];refine ap (JF H) ?_;rintro r w ⟨rfl,H⟩;by_cases ck:fg l
   ·rw[decide_eq_true ck];unfold Db;rw[if_neg (by simp:¬ (!true)=true),if_neg (fun aM=>aM ⟨bx,bK,ck⟩)];refine ch rfl ?_;refine ak (x:=c.last) 0 H rfl rfl rfl ?_;by_cases fv:h<c.last
    ·rw[if_pos (by simpa using fv),if_pos fv];exact⟨rfl,H⟩
    ·rw[if_neg (by simpa using fv),if_neg fv];refine dK (x:=h) 0 H rfl rfl (Nat.le_of_ble_eq_true rfl) fun w H=>?_;refine dK (T:=Bl) (x:=(⟨h,t,l,true⟩:tI)) 0 H rfl rfl (Nat.le_of_ble_eq_true rfl) fun w H=>?_;exact⟨rfl,H⟩
   ·rw[decide_eq_false ck];exact bad w (fun h=>ck h.2.2) H
  ·rw[decide_eq_false bK,if_pos (by simp:(!false)=true)];exact bad w (fun h=>bK h.2.1) H
 ·rw[decide_eq_false bx,if_pos (by simp:(!false)=true)];unfold FO;rw[if_pos rfl];exact bad w (fun h=>bx h.1) H
end
end Clock
namespace Num
open bj
theorem K0(f:Nat):kL f+fy f*4503599627370496=f∧kL f<9007199254740992∧(0<fy f→4503599627370496≤kL f):=by
 unfold kL fy;split
 ·exact⟨by omega,by omega,by omega⟩
 ·refine⟨?_,by omega,by omega⟩;have:=Nat.div_add_mod f 4503599627370496;have I:1≤f/4503599627370496:=by omega
  obtain⟨k,aq⟩:∃ k,f/4503599627370496=k+1:=⟨f/4503599627370496-1,by omega⟩
  rw[aq] at this ⊢;simp only[Nat.add_sub_cancel];omega
theorem afN{f g:Nat}(h:f<g):kL f*2^(fy f-min (fy f) (fy g))<kL g*2^(fy g-min (fy f) (fy g)):=by
 obtain⟨f1,f2,f3⟩:=K0 f;obtain⟨bD,e4,jr⟩:=K0 g;generalize kL f=o at *;generalize kL g=n at *;generalize fy f=l at *;generalize fy g=d at *;rcases Nat.lt_trichotomy l d with c | c | c
 ·have aS:l-min l d=0:=by omega
  obtain⟨k,aq⟩:∃ k,d-min l d=k+1:=⟨d-min l d-1,by omega⟩
  rw[aS,aq,Nat.pow_zero,Nat.mul_one,Nat.pow_succ];have I:=jr (by omega);have R:4503599627370496*(2^k*2)≤n*(2^k*2):=Nat.mul_le_mul_right _ I;have aK:1≤2^k:=Nat.two_pow_pos k;omega
 ·subst c;have aS:l-min l l=0:=by omega
  rw[aS,Nat.pow_zero,Nat.mul_one,Nat.mul_one];omega
 ·exfalso;have:(d+1)*4503599627370496≤l*4503599627370496:=Nat.mul_le_mul_right _ c;have I:=f3 (by omega);rw[Nat.add_mul] at this;omega
theorem al7(a:Int):compare a a=.eq:=by simp[compare,compareOfLessAndEq]
theorem J4{f g:Nat}(am:f<9218868437227405312)(O:g<9218868437227405312):ga .gtr f g=decide (g<f):=by
 unfold ga;rw[f64];simp only[Ieee.Format.order,oj am,oj O,Ieee.Datum.order,vS];have aS:(-1074+(fy f:Int)-min (-1074+(fy f:Int)) (-1074+(fy g:Int))).toNat=fy f-min (fy f) (fy g):=by omega
 have bb:(-1074+(fy g:Int)-min (-1074+(fy f:Int)) (-1074+(fy g:Int))).toNat=fy g-min (fy f) (fy g):=by omega
 rw[aS,bb];rcases Nat.lt_trichotomy f g with c | c | c
 ·rw[DP (Int.ofNat_lt.2 (afN c)),decide_eq_false (by omega)];rfl
 ·subst c;rw[al7,decide_eq_false (by omega)];rfl
 ·have h:=afN c;rw[Nat.min_comm] at h;rw[Yi (Int.ofNat_lt.2 h),decide_eq_true c];rfl
def jo(f:Nat):Prop:=f=9223372036854775808∨f≤4576918229304087675
theorem jo.eR{f:Nat}(h:jo f):jL f:=by
 rcases h with h | h
 ·exact .inl h
 ·exact .inr (by omega)
theorem ab4{g:Nat}(O:g<9218868437227405312):ga .gtr 9223372036854775808 g=false:=by
 have l:Ieee.double.read 9223372036854775808=.number true 0 (-1074):=by decide
 unfold ga;rw[f64];simp only[Ieee.Format.order,l,oj O,Ieee.Datum.order,vS];have:Ieee.signed true 0 (-1074-min (-1074) (-1074+(fy g:Int))).toNat=0:=by unfold Ieee.signed; simp
 rw[this];have U:(0:Int)≤((kL g*2^(-1074+(fy g:Int)-min (-1074) (-1074+(fy g:Int))).toNat:Nat):Int):=Int.natCast_nonneg _;rcases Int.lt_or_eq_of_le U with h | h
 ·rw[DP h]; rfl
 ·rw[← h]; rfl
theorem jo.one{f:Nat}(h:jo f):ga .gtr f 4607182418800017408=false:=by
 rcases h with rfl | h
 ·exact ab4 (by omega)
 ·rw[J4 (by omega) (by omega),decide_eq_false (by omega)]
theorem jo.gF{f:Nat}(h:jo f):ga .gtr f 4576918229304087675=false:=by
 rcases h with rfl | h
 ·exact ab4 (by omega)
 ·rw[J4 (by omega) (by omega),decide_eq_false (by omega)]
theorem aGo{f:Nat}(h:jL f)(O:ga .gtr f 4576918229304087675=false):jo f:=by
 rcases h with h | h
 ·exact .inl h
 ·rw[J4 (by omega) (by omega)] at O;exact .inr (by have:=of_decide_eq_false O; omega)
def oa(f:Nat):Nat:=(Ieee.double.div f 4611686018427387904).getD 0
theorem PK{f:Nat}(h:jo f):xE .quo f 4611686018427387904 (oa f)∧jL (oa f):=by
 have bb:Ieee.double.read 4611686018427387904=.number false 4503599627370496 (-51):=by decide
 have aM:(4503599627370496:Nat).log2=52:=by decide
 have aJl:∀ (e:Bool) (p:Int),Ieee.double.write (.number e 0 p)=if e then 9223372036854775808 else 0:=by
  intro e p;show Ieee.Format.nearest _ _ _ _=_
  unfold Ieee.Format.nearest;rw[if_pos rfl];unfold Ieee.Format.word;rw[Iy]
 have key:∃ z,Ieee.double.div f 4611686018427387904=some z∧jL z:=by
  unfold Ieee.Format.div;rw[bb];rcases h with rfl | h
  ·have l:Ieee.double.read 9223372036854775808=.number true 0 (-1074):=by decide
   rw[l];refine⟨9223372036854775808,by decide,.inl rfl⟩
  ·rw[oj (by omega)];simp only[Ieee.Datum.quotient];rw[if_neg (by omega),aM,D4];simp only[Option.map_some];refine⟨_,rfl,?_⟩;obtain⟨I,R,aK⟩:=K0 f;have apQ:fy f≤1015:=by unfold fy; split<;>omega
   generalize kL f=o at *;generalize fy f=l at *;by_cases hm:o=0
   ·subst hm;rw[Nat.zero_shiftLeft];simp only[Nat.zero_div,Nat.mul_zero,Nat.zero_mod];show jL (Ieee.double.write (.number (false ^^ false) (0+(0 != 0).toNat) _))
    rw[show (0+((0:Nat)!=0).toNat)=0 from rfl,aJl];exact .inr (by simp)
   ·have wQ:o.log2≤52:=by
     have:o.log2<53:=(Nat.log2_lt hm).2 (by omega);omega
    have Km:52+2+52-o.log2=52+(54-o.log2):=by omega
    have qo:o <<< (52+2+52-o.log2)=o*2^(54-o.log2)*4503599627370496:=by
     rw[Km,Nat.shiftLeft_eq,Nat.pow_add,show (2:Nat)^52=4503599627370496 by decide,Nat.mul_assoc,Nat.mul_comm (2^(54-o.log2))]
    rw[qo,Nat.mul_div_cancel _ (by omega),Nat.mul_mod_left];have dI:o*2^(54-o.log2)<36028797018963968:=by
     have dz:o<2^(o.log2+1):=Nat.lt_log2_self;have iG:o*2^(54-o.log2)<2^(o.log2+1)*2^(54-o.log2):=(Nat.mul_lt_mul_right (Nat.two_pow_pos _)).2 dz;rw[← Nat.pow_add,show o.log2+1+(54-o.log2)=55 by omega] at iG;have:(2:Nat)^55=36028797018963968:=by decide
     omega
    have PX:18014398509481984≤o*2^(54-o.log2):=by
     have dz:2^o.log2≤o:=Nat.log2_self_le hm;have iG:2^o.log2*2^(54-o.log2)≤o*2^(54-o.log2):=Nat.mul_le_mul_right _ dz;rw[← Nat.pow_add,show o.log2+(54-o.log2)=54 by omega] at iG;have:(2:Nat)^54=18014398509481984:=by decide
     omega
    generalize o*2^(54-o.log2)=cm at *;show jL (Ieee.Format.nearest Ieee.double (false ^^ false) (2*cm+((0:Nat)!=0).toNat) _)
    rw[show ((0:Nat)!=0).toNat=0 from rfl,Nat.add_zero];unfold Ieee.Format.nearest;rw[if_neg (by omega)];have pU:(2*cm).log2=55:=(Nat.log2_eq_iff (by omega)).2 ⟨by omega,by omega⟩;rw[pU,Ar,D4,zS,Ak];generalize aF:(-1074+(l:Int) - -51-((52+2+52-o.log2:Nat):Int)-1)=P;have fA:P≤-1074+(l:Int)-4:=by omega
    have ZV:-1074+(l:Int)-56≤P:=by omega
    simp only;have El:max (P+((55:Nat):Int)-((52:Nat):Int)) (-1074)=max (P+3) (-1074):=by omega
    rw[El];have z8:(P-max (P+3) (-1074)).toNat=0:=by omega
    have BV:3≤(max (P+3) (-1074)-P).toNat:=by omega
    rw[z8];have G5:Ieee.Toward.cut .even (false ^^ false) ((2*cm) <<< 0) (max (P+3) (-1074)-P).toNat≤9007199254740992:=by
     generalize (max (P+3) (-1074)-P).toNat=K at *;unfold Ieee.Toward.cut;rw[Nat.shiftLeft_zero,pU];have G2:8≤1 <<< min K (55+2):=by
      rw[Nat.shiftLeft_eq,Nat.one_mul];have:(2:Nat)^3≤2^min K (55+2):=Nat.pow_le_pow_right (by omega) (by omega);omega
     generalize 1 <<< min K (55+2)=az at *;simp only;have r4:2*cm/az≤2*cm/8:=Nat.div_le_div_left G2 (by omega);have tZ:∀ e:Bool,e.toNat≤1:=fun e=>by cases e<;>decide
     refine Nat.le_trans (Nat.add_le_add r4 (tZ _)) ?_;omega
    have arn:(max (P+3) (-1074) - -1074).toNat≤1015:=by omega
    generalize (max (P+3) (-1074) - -1074).toNat=Q at *;generalize Ieee.Toward.cut .even (false ^^ false) ((2*cm) <<< 0) (max (P+3) (-1074)-P).toNat=Kp at *;unfold Ieee.Format.word;rw[if_neg (by simp)];refine .inr ?_;have s0:Q*4503599627370496≤1015*4503599627370496:=Nat.mul_le_mul_right _ arn;exact Nat.le_trans (Nat.min_le_left _ _) (Nat.le_trans (Nat.add_le_add s0 G5) (by decide))
 obtain⟨z,I,R⟩:=key;have bN:oa f=z:=congrArg (fun G:Option Nat=>G.getD 0) I;rw[bN];exact⟨I,R⟩
end Num
namespace Clock
open bj Num
def Gv(f:Nat):hz:=⟨⟨0,0,0,false⟩,f,0,0⟩
theorem kh:fg 0:=by decide
theorem Ye{f:Nat}(h:jo f):jl (Gv f):=⟨h.eR,h.one,kh,kh,kh,kh,kh,Int.le_refl 0⟩
theorem foldl_max:∀ (N:List Int) (a:Int),a≤N.foldl max a
 |[],a=>Int.le_refl a
 |x::N,a=>Int.le_trans (by omega) (foldl_max N (max a x))
def jU(t:Int):Prop:=1≤t∧t≤1125899906842624
instance (n:Int):Decidable (jU n):=by unfold jU; infer_instance
def oX(e:Nat)(n:Int):bE:=aJ e [.int .i64 n] 223
def oO(last t:Int):Int×Int:=if jU t then (max last t,0) else (last,100)
def Au(last:Int)(s:lU)(iu:List Int):Int×Int×Int:=
 if ¬ nG s then (last,0,100) else if 1125899906842624≤iu.foldl max (max last s.jO) then (last,0,101) else (iu.foldl max (max last s.jO)+1,iu.foldl max (max last s.jO)+1,0)
section
variable {A w:World} {m bX:List bE}
theorem ab5{f:Nat}(am:f<18446744073709551616)(H:E A m w):M Pg 37 [.float .f64 f] (bB aE (B .i64)) w fun r J=>(jo f→r.2=0∧∃ e:Nat,r.1=some ⟨e,0,none⟩∧E A (kn e (Gv f)::m) J)∧(¬ jo f→r=(none,60)∧E A m J):=by
 refine aiM ?_;unfold Wb;refine ap (BE am H) ?_;rintro c w ⟨apv,hI,yr,H⟩;by_cases ag:jo f
 ·have:=apv ag.eR;rw[if_neg (by rw[ag.gF]; simp; omega)];refine bR H fun e w H=>?_;exact⟨fun _=>⟨rfl,e,rfl,H⟩,fun h=>absurd ag h⟩
 ·rw[if_pos ?_]
  ·exact⟨fun h=>absurd h ag,fun _=>⟨rfl,H⟩⟩
  ·by_cases ck:c<3
   ·simp[ck]
   ·have aM:=yr (by omega);have ll:¬ 9223372036854775808<f:=fun h=>ck (hI h);rw[Bool.or_eq_true];right;by_cases aa:jL f
    ·cases O:ga .gtr f 4576918229304087675 with
     |true=>rfl
     |false=>exact absurd (aGo aa O) ag
    ·have dI:4607182418800017408<f∧f<9223372036854775808:=by
      unfold jL at aa;omega
     by_cases ay:f<9218868437227405312
     ·rw[J4 ay (by omega),decide_eq_true (by omega)]
     ·have apX:f=9218868437227405312:=by
       by_cases he:f=9218868437227405312
       ·exact he
       ·exfalso;have aq4:∃ t,Ieee.double.read f=.nan false t:=by
         have aS:(f/9223372036854775808%2==1)=false:=by
          have:f/9223372036854775808=0:=by omega
          rw[this]; rfl
         have bb:f%9223372036854775808=f:=Nat.mod_eq_of_lt (by omega);unfold Ieee.Format.read;simp only[Iy,zS,Ak,Ar,aS,bb];rw[if_neg (by omega),if_neg ay,if_neg he];exact⟨_,rfl⟩
        obtain⟨t,aT⟩:=aq4;unfold ga at aM;rw[f64] at aM;simp only[Ieee.Format.order,aT] at aM;cases aM
      subst apX;have l:Ieee.double.read 9218868437227405312=.infinity false:=by decide
      unfold ga;rw[f64];simp only[Ieee.Format.order,l,oj (show 4576918229304087675<9218868437227405312 by omega)];rfl
theorem HT{e:Nat}{c:hz}{h:Int}(k:jl c)(cK:-9000000000000000000≤h∧h≤9000000000000000000)(H:E A (kn e c::m) w):M Pg 61 [.pointer (some ⟨e,0,none⟩),.int .i64 h] (bB pF (B .i64)) w fun r J=>r=(fj c h).2∧E A (kn e (fj c h).1::m) J:=by
 refine ajc ?_;unfold NM fj;refine bR H fun iS w H=>?_;refine ap (JF H) ?_;rintro r w ⟨rfl,H⟩;have bad:∀ (l:Int) (w:World),E A (aJ iS (pF.cells jR) 137::kn e c::m) w→bi pF ⟨iS,0,none⟩ nD w fun J=>ex (L pF ⟨iS,0,none⟩ J) fun x=>(x,l)=((c,nD,l):hz×lU×Int).2∧E A (kn e ((c,nD,l):hz×lU×Int).1::m) J:=by
  intro l w H;refine de (x:=jR) (S:=nD) po 0 H rfl fun w H=>?_;refine ez (x:=nD) 0 H rfl ?_;exact⟨rfl,H.drop⟩
 by_cases bx:fg h
 ·rw[decide_eq_true bx,if_neg (by simp:¬ (!true)=true),if_neg (fun aM=>aM bx)];refine ch rfl ?_;refine ak (x:=c.dv.set) 1 H rfl rfl rfl ?_;by_cases bK:c.dv.set=false
  ·rw[if_pos (by simp[bK]),if_pos bK];exact bad 63 w H
  ·rw[if_neg (by simpa using bK),if_neg bK];refine ak (x:=c.last) 1 H rfl rfl rfl ?_;by_cases ck:h<c.last
   ·rw[if_pos (by simpa using ck),if_pos ck];exact bad 62 w H
   ·rw[if_neg (by simpa using ck),if_neg ck];have dx:=k.at_;have ef:=k.ih;have g0:=k.le;have jV:=bx.1;have od:=bx.2;unfold fg at dx ef;have aS:IntKind.i64.wrap (h-c.dv.at_)=h-c.dv.at_:=wrap_i64 (by omega) (by omega);have bb:IntKind.i64.wrap (c.dv.ih+(h-c.dv.at_))=c.dv.ih+(h-c.dv.at_):=wrap_i64 (by omega) (by omega);refine dy H fun w H=>?_;refine ak (x:=c.dv.ih) 1 H rfl rfl rfl ?_;refine ak (x:=c.dv.at_) 1 H rfl rfl rfl ?_;rw[aS,bb];by_cases fv:1125899906842624<c.dv.ih+(h-c.dv.at_)
    ·rw[if_pos (by simpa using fv),if_pos fv];exact bad 64 w H
    ·rw[if_neg (by simpa using fv),if_neg fv];have aCa:=k.width;unfold fg at aCa;refine dy H fun w H=>?_;refine ak (x:=c.dv.ih) 1 H rfl rfl rfl ?_;refine ak (x:=c.dv.at_) 1 H rfl rfl rfl ?_;refine ak (x:=c.dv.width) 1 H rfl rfl rfl ?_;rw[aS,bb];have fin:∀ (aw:Nat) (w:World),E A (aJ aw (pF.cells (mY ⟨c.dv.ih+(h-c.dv.at_),c.dv.ih+(h-c.dv.at_)⟩ c.dv.width).1) 137::aJ iS (pF.cells jR) 137::kn e c::m) w →
       Dc h ⟨iS,0,none⟩ ⟨e,0,none⟩ ⟨aw,0,none⟩ w fun r J=>r=(({ c with last:=h,floor:=(sF c.floor (sy c h)).g7 },sF c.floor (sy c h),0):hz×lU×Int).2∧E A (kn e (({ c with last:=h,floor:=(sF c.floor (sy c h)).g7 },sF c.floor (sy c h),0):hz×lU×Int).1::m) J:=by
      intro aw w H;unfold Dc;have qn:(DU (mY ⟨c.dv.ih+(h-c.dv.at_),c.dv.ih+(h-c.dv.at_)⟩ c.dv.width).1 (h-c.dv.at_) c.eR).1=sy c h:=rfl;generalize (mY ⟨c.dv.ih+(h-c.dv.at_),c.dv.ih+(h-c.dv.at_)⟩ c.dv.width).1=s1 at *;refine dy H fun w H=>?_;refine ez (x:=s1) 0 H rfl ?_;refine ak (x:=c.dv.at_) 2 H rfl rfl rfl ?_;refine ak (x:=c.eR) 2 H rfl rfl rfl ?_;rw[aS];refine ap (amH (s:=s1) k.eR k.gtr H) ?_;rintro r w ⟨rfl,H⟩;refine⟨bO (B .i64) (H.front 2) rfl rfl,?_⟩;rw[qn];generalize sy c h=s2 at *;refine de (x:=s1) (S:=s2) po 0 H rfl fun w H=>?_;refine dy H fun w H=>?_;refine ak (x:=s2.g7) 0 H rfl rfl rfl ?_;refine ak (x:=c.floor) 2 H rfl rfl rfl ?_;refine dK (x:=max s2.g7 c.floor) 0 H rfl rfl (Nat.le_of_ble_eq_true rfl) fun w H=>?_;refine ak (x:=s2.jO) 0 H rfl rfl rfl ?_;refine ak (x:=max s2.g7 c.floor) 0 H rfl rfl rfl ?_
      refine dK (x:=max s2.jO (max s2.g7 c.floor)) 0 H rfl rfl (Nat.le_of_ble_eq_true rfl) fun w H=>?_;refine dy H fun w H=>?_;refine ak (x:=max s2.g7 c.floor) 0 H rfl rfl rfl ?_;refine dK (x:=h) 2 H rfl rfl (Nat.le_of_ble_eq_true rfl) fun w H=>?_;refine⟨bO (B .i64) (H.front 1) rfl rfl,?_⟩;refine dK (x:=max s2.g7 c.floor) 0 H rfl rfl (Nat.le_of_ble_eq_true rfl) fun w H=>?_;refine ez (x:=sF c.floor s2) 1 H rfl ?_;refine de (x:=jR) (S:=sF c.floor s2) po 2 H rfl fun w H=>?_;refine ez (x:=sF c.floor s2) 0 H rfl ?_;exact⟨rfl,(H.front 2).drop.drop⟩
     refine⟨?_,?_⟩
     ·refine ap (XN (by omega) H) ?_;rintro r w ⟨rfl,H⟩;refine⟨bO (B .i64) (H.front 1) rfl rfl,bO (B .i64) (H.front 1) rfl rfl,?_⟩;refine bR H fun akU w H=>?_;refine de (x:=jR) (S:=(mY ⟨c.dv.ih+(h-c.dv.at_),c.dv.ih+(h-c.dv.at_)⟩ c.dv.width).1) po 0 H rfl fun w H=>?_;exact fin akU w H
     ·refine bR H fun akV w H=>?_;refine ap (XN (by omega) H) ?_;rintro r w ⟨rfl,H⟩;refine⟨bO (B .i64) (H.front 2) rfl rfl,bO (B .i64) (H.front 2) rfl rfl,?_⟩;refine de (x:=jR) (S:=(mY ⟨c.dv.ih+(h-c.dv.at_),c.dv.ih+(h-c.dv.at_)⟩ c.dv.width).1) po 0 H rfl fun w H=>?_;exact fin akV w H
 ·rw[decide_eq_false bx,if_pos (by simp:(!false)=true),if_pos bx];exact bad 61 w H
theorem aEJ{e:Nat}{c:hz}{t h:Int}(k:jl c)(cK:-9000000000000000000≤h∧h≤9000000000000000000)(H:E A (kn e c::m) w):M Pg 105 [.pointer (some ⟨e,0,none⟩),.int .i64 t,.int .i64 h] (bB bo (B .i64)) w fun r J=>r=(((fj c h).2.2==0)&&decide (t<(fj c h).2.1.g7),(fj c h).2.2)∧E A (kn e (fj c h).1::m) J:=by
 refine ags ?_;unfold TW;refine ap (HT k cK H) ?_;rintro r w ⟨rfl,H⟩;refine bR H fun uY w H=>?_;refine de (x:=jR) (S:=(fj c h).2.1) po 0 H rfl fun w H=>?_;refine aR (fj c h).2.1.g7 (fun _=>bO (B .i64) H rfl rfl) ?_;exact⟨rfl,H.drop⟩
theorem aDe(H:E A m w):M Pg 92 [] aE w fun r J=>∃ e:Nat,r=some ⟨e,0,none⟩∧E A (oX e 0::m) J:=by
 refine ajJ ?_;unfold W3;refine bR H fun fp w H=>?_;exact⟨fp,rfl,H⟩
theorem aHy{t:Int}(H:E A m w):M Pg 116 [.int .i64 t] bo w fun r J=>r=decide (jU t)∧E A m J:=by
 refine agB ?_;unfold T5;refine⟨?_,H⟩;rw[Bool.eq_iff_iff];simp only[Bool.and_eq_true,decide_eq_true_eq];unfold jU;omega
theorem KM{e:Nat}{n t:Int}(H:E A (oX e n::m) w):M Pg 63 [.pointer (some ⟨e,0,none⟩),.int .i64 t] (B .i64) w fun r J=>r=(oO n t).2∧E A (oX e (oO n t).1::m) J:=by
 refine aje ?_;unfold WA;refine ap (aHy H) ?_;rintro r w ⟨rfl,H⟩;unfold oO;by_cases c:jU t
 ·rw[decide_eq_true c,if_neg (by simp:¬ (!true)=true),if_pos c];refine ch rfl ?_;refine ak (x:=n) 0 H rfl rfl rfl ?_;refine dK (x:=max n t) 0 H rfl rfl (Nat.le_of_ble_eq_true rfl) fun w H=>?_;exact⟨rfl,H⟩
 ·rw[decide_eq_false c,if_pos (by simp:(!false)=true),if_neg c];exact⟨rfl,H⟩
theorem HR{e:Nat}{n:Int}{s:lU}{q:af}{iu:List Int}(hm:iu.length≤9000000000000000000)(k:dr 1 m (B .i64) q iu)(H:E A (oX e n::m) w):M Pg 157 [.pointer (some ⟨e,0,none⟩),pF.enc s,X.enc q] (bB (B .i64) (B .i64)) w fun r J=>r=(Au n s iu).2∧E A (oX e (Au n s iu).1::m) J:=by
 refine ahd ?_;unfold UH Au;refine bR H fun iT w H=>?_;refine ez (x:=s) 0 H rfl ?_;refine ap (u4 H) ?_;rintro r w ⟨rfl,H⟩;unfold zT;by_cases bx:nG s
 ·rw[if_pos bx,if_neg (by simp),if_neg (fun h=>h bx)];refine ch rfl ?_;refine ak (x:=n) 1 H rfl rfl rfl ?_;refine bR H fun DJ w H=>?_;refine dK (x:=n) 0 H rfl rfl (Nat.le_of_ble_eq_true rfl) fun w H=>?_;refine ak (x:=s.jO) 1 H rfl rfl rfl ?_;have raise:∀ (o x:Int) (m:List bE) (w:World) (ab:Unit→World→Prop),E A (aJ DJ [.int .i64 o] 2::m) w→(∀ J,E A (aJ DJ [.int .i64 (max o x)] 2::m) J→ab () J) →
    tU Pg (cw.mk (.func 194) (List.toArray []) (List.toArray [.pointer (some ⟨DJ,0,none⟩)])) [.int .i64 x] eh w ab:=by
   intro o x m w ab H cg;refine⟨194,[.pointer (some ⟨DJ,0,none⟩)],rfl,anm,?_⟩;refine ahJ ?_;unfold Va;refine ak (x:=o) 0 H rfl rfl rfl ?_;refine dK (x:=max o x) 0 H rfl rfl (Nat.le_of_ble_eq_true rfl) fun w H=>?_;exact cg _ H
  refine raise n s.jO _ w _ H fun w H=>?_;have ba:=(k.mo [_,_,_]).len H;refine vy (fun i w=>0≤i∧i≤iu.length∧E A (aJ DJ [.int .i64 ((iu.take i.toNat).foldl max (max n s.jO))] 2::aJ iT (pF.cells s) 137::oX e n::m) w) (fun i=>(iu.length-i).toNat) ⟨Int.le_refl 0,by omega,H⟩ ?_;clear H;rintro i w ⟨ah,I,H⟩;unfold M0;rw[ba];split
  ·rename_i U;have U:i<iu.length:=by simpa using U
   have aS:IntKind.i64.wrap (i+1)=i+1:=wrap_i64 (by omega) (by omega);obtain⟨a,Y⟩:=(k.mo [_,_,_]).iH (i:=i) H ah U;have F:iu[i.toNat]?=some iu[i.toNat]:=List.getElem?_eq_getElem (by omega);have iW:(iu.take (i+1).toNat).foldl max (max n s.jO)=max ((iu.take i.toNat).foldl max (max n s.jO)) iu[i.toNat]:=by
    rw[show (i+1).toNat=i.toNat+1 from by omega,List.take_succ_eq_append_getElem (by omega),List.foldl_append];rfl
   generalize iu[i.toNat]=S at F iW;refine aR a Y ?_;refine aR S ((k.mo [_,_,_]).rd Y F H) ?_;refine raise _ S _ w _ H fun w H=>?_;rw[aS];rw[← iW] at H;exact⟨⟨by omega,by omega,H⟩,by omega⟩
  ·rename_i U;have U:i=iu.length:=by
    have:¬ i<iu.length:=by simpa using U
    omega
   have l:iu.take i.toNat=iu:=List.take_of_length_le (by omega);rw[l] at H;have PX:=foldl_max iu (max n s.jO);have aaj:=bx.2.1.1;generalize iu.foldl max (max n s.jO)=o at *;refine ak (x:=o) 0 H rfl rfl rfl ?_;by_cases bK:1125899906842624≤o
   ·rw[if_pos (by simpa using bK),if_pos bK];exact⟨rfl,H.drop.drop⟩
   ·rw[if_neg (by simpa using bK),if_neg bK];refine ak (x:=o) 0 H rfl rfl rfl ?_;have G9:-9223372036854775808≤o+1:=by omega
    rw[wrap_i64 G9 (by omega)];refine dK (x:=o+1) 2 H rfl rfl (Nat.le_of_ble_eq_true rfl) fun w H=>?_;refine ak (x:=o+1) 0 H rfl rfl rfl ?_;exact⟨rfl,((H.front 1).drop.front 1).drop⟩
 ·rw[if_neg bx,if_pos (by simp),if_pos bx];exact⟨rfl,H.drop⟩
end
abbrev oE:=mK
abbrev zL:=lS
structure bP where
 x:oE
 a:zL
 e:zL
 uh:Bool
 An:Bool
 b8:Int
 at_:Int
def aFa(p:bP):List Value:=[.int .i64 p.x.aD,.int .i64 p.x.fR,.int .i64 p.x.fL,.int .i64 p.x.b,.bool p.a.said,.bool p.a.b7,.int .i64 p.a.g5,.bool p.e.said,.bool p.e.b7,.int .i64 p.e.g5,.bool p.uh,.bool p.An,.int .i64 p.b8,.int .i64 p.at_]
def gR(e:Nat)(p:bP):bE:=aJ e (aFa p) 214
def vs(a:Int):Prop:=0≤a∧a<4096
instance (n:Int):Decidable (vs n):=by unfold vs; infer_instance
def afK:zL:=⟨false,false,0⟩
def jX(x:oE):bP:=⟨x,afK,afK,false,false,0,0⟩
def jN(x:oE):Int:=if x.aD<1∨1000000<x.aD then 170 else if ¬ (vs x.fR∧vs x.fL) then 171 else if x.fR=x.fL then 172 else if x.b<1∨1000000000000000<x.b then 173 else 0
def bP.side(p:bP)(dS:Bool):zL:=if dS then p.a else p.e
def bP.hN(p:bP)(dS:Bool)(v:zL):bP:=if dS then { p with a:=v } else { p with e:=v }
def hl(p:bP)(dS b7:Bool)(t:Int):bP×Int:=
 if b7=true∧¬ jU t then (p,174)
 else if (p.side dS).said=true∧lS.cB (p.side dS) ⟨true,b7,if b7 then t else 0⟩=false then (p,175)
 else (if b7=false∧p.b8=0 then { p.hN dS ⟨true,b7,if b7 then t else 0⟩ with b8:=3 } else p.hN dS ⟨true,b7,if b7 then t else 0⟩,0)
def bP.both(p:bP):Bool:=p.a.b7&&p.e.b7
def ol(p:bP):Int×Bool:=if p.both=true∧p.b8=0 then (max p.a.g5 p.e.g5,true) else (0,false)
def pb(p:bP)(t:Int):bP×Int:=
 if ¬ jU t then (p,174) else if p.b8=3∨(p.b8=2∧p.at_≠t) then (p,176) else if p.b8=2 then (p,0) else if p.both=false then (p,177)
 else if t<p.a.g5∨t<p.e.g5 then (p,178) else ({ p with b8:=2,at_:=t },0)
def pK(p:bP):bP×Int:=if p.b8=2 then (p,176) else ({ p with b8:=3 },0)
def Gh(p:bP)(dS:Bool):bP×Int:=if p.b8=0 then (p,176) else (if dS then { p with uh:=true } else { p with An:=true },0)
def bP.done(p:bP)(dS:Bool):Bool:=if p.b8≠0 then (if dS then p.uh else p.An) else (p.side dS).said
def nL(p:bP):List Bool:=(if p.done true then [] else [true])++(if p.done false then [] else [false])
def ln(p:bP)(dS:Bool):iO:=if dS then ⟨2*p.x.aD-1,p.x.fR,p.x.b,true⟩ else ⟨2*p.x.aD,p.x.fL,p.x.b,false⟩
section
variable {A w:World} {m bX:List bE}
theorem acV{a:Int}(H:E A m w):M Pg 158 [.int .i64 a] bo w fun r J=>r=decide (vs a)∧E A m J:=by
 refine ahe ?_;unfold UI;refine⟨?_,H⟩;rw[Bool.eq_iff_iff];simp only[Bool.and_eq_true,decide_eq_true_eq];unfold vs;omega
theorem ac7{t:Int}(H:E A m w):M Pg 179 [.int .i64 t] bo w fun r J=>r=decide (jU t)∧E A m J:=by
 refine ahx ?_;unfold U0;refine⟨?_,H⟩;rw[Bool.eq_iff_iff];simp only[Bool.and_eq_true,decide_eq_true_eq];unfold jU;omega
theorem ac5{x:oE}(H:E A m w):M Pg 97 [gz.enc x] (bB aE (B .i64)) w fun r J=>(jN x=0→r.2=0∧∃ e:Nat,r.1=some ⟨e,0,none⟩∧E A (gR e (jX x)::m) J)∧(jN x≠0→r=(none,jN x)∧E A m J):=by
 refine ajN ?_;unfold W7;refine bR H fun ek w H=>?_;refine ak (x:=x.aD) 0 H rfl rfl rfl ?_;refine aR x.aD (fun _=>bO (B .i64) H rfl rfl) ?_;by_cases bx:x.aD<1∨1000000<x.aD
 ·have l:jN x=170:=by unfold jN; rw[if_pos bx]
  rw[if_pos (by simp; omega),l];exact⟨fun h=>by omega,fun _=>⟨rfl,H.drop⟩⟩
 ·rw[if_neg (by simp; omega)];refine ak (x:=x.fR) 0 H rfl rfl rfl ?_;refine ap (acV H) ?_;rintro r w ⟨rfl,H⟩;have bad:∀ (w:World),¬ (vs x.fR∧vs x.fL)→E A (aJ ek (gz.cells x) 31::m) w→Dh ⟨ek,0,none⟩ true w fun r J=>(jN x=0→r.2=0∧∃ e:Nat,r.1=some ⟨e,0,none⟩∧E A (gR e (jX x)::m) J)∧(jN x≠0→r=(none,jN x)∧E A m J):=by
   intro w aM H;have l:jN x=171:=by unfold jN; rw[if_neg bx,if_pos aM]
   unfold Dh;rw[if_pos rfl,l];exact⟨fun h=>by omega,fun _=>⟨rfl,H.drop⟩⟩
  by_cases bK:vs x.fR
  ·rw[decide_eq_true bK,if_neg (by simp:¬ (!true)=true)];refine ak (x:=x.fL) 0 H rfl rfl rfl ?_;refine ap (acV H) ?_;rintro r w ⟨rfl,H⟩;by_cases ck:vs x.fL
   ·rw[decide_eq_true ck];unfold Dh;rw[if_neg (by simp:¬ (!true)=true)];refine ak (x:=x.fR) 0 H rfl rfl rfl ?_;refine ak (x:=x.fL) 0 H rfl rfl rfl ?_;by_cases fv:x.fR=x.fL
    ·have l:jN x=172:=by unfold jN; rw[if_neg bx,if_neg (fun h=>h ⟨bK,ck⟩),if_pos fv]
     rw[if_pos (by simpa using fv),l];exact⟨fun h=>by omega,fun _=>⟨rfl,H.drop⟩⟩
    ·rw[if_neg (by simpa using fv)];refine ak (x:=x.b) 0 H rfl rfl rfl ?_;refine aR x.b (fun _=>bO (B .i64) H rfl rfl) ?_;by_cases jC:x.b<1∨1000000000000000<x.b
     ·have l:jN x=173:=by unfold jN; rw[if_neg bx,if_neg (fun h=>h ⟨bK,ck⟩),if_neg fv,if_pos jC]
      rw[if_pos (by simp; omega),l];exact⟨fun h=>by omega,fun _=>⟨rfl,H.drop⟩⟩
     ·have l:jN x=0:=by unfold jN; rw[if_neg bx,if_neg (fun h=>h ⟨bK,ck⟩),if_neg fv,if_neg jC]
      rw[if_neg (by simp; omega),l];refine ez (x:=x) 0 H rfl ?_;refine bR H fun akS w H=>?_;exact⟨fun _=>⟨rfl,akS,rfl,(H.front 1).drop⟩,fun h=>absurd rfl h⟩
   ·rw[decide_eq_false ck];exact bad w (fun h=>ck h.2) H
  ·rw[decide_eq_false bK,if_pos (by simp:(!false)=true)];exact bad w (fun h=>bK h.1) H
theorem Lw{dS:Bool}(H:E A m w):M Pg 136 [.bool dS] (B .i64) w fun r J=>r=(if dS then 0 else 1)∧E A m J:=by
 refine agX ?_;unfold Up;cases dS with
 |true=>rw[if_pos rfl]; exact⟨rfl,H⟩
 |false=>rw[if_neg (by simp)]; exact⟨rfl,H⟩
theorem Cx{e:Nat}{p:bP}(H:E A (gR e p::m) w):M Pg 55 [.pointer (some ⟨e,0,none⟩)] (bB (B .i64) (B .i64)) w fun r J=>r=(p.b8,p.at_)∧E A (gR e p::m) J:=by
 refine ai6 ?_;unfold Wu;refine dy H fun w H=>?_;refine ch rfl ?_;refine ak (x:=p.b8) 0 H rfl rfl rfl ?_;refine ak (x:=p.at_) 0 H rfl rfl rfl ?_;exact⟨rfl,H⟩
theorem acQ{e:Nat}{p:bP}(H:E A (gR e p::m) w):M Pg 148 [.pointer (some ⟨e,0,none⟩)] (B .i64) w fun r J=>r=(pK p).2∧E A (gR e (pK p).1::m) J:=by
 refine ag7 ?_;unfold Uz pK;refine ch rfl ?_;refine ak (x:=p.b8) 0 H rfl rfl rfl ?_;by_cases c:p.b8=2
 ·rw[if_pos (by simpa using c),if_pos c];exact⟨rfl,H⟩
 ·rw[if_neg (by simpa using c),if_neg c];refine dK (x:=(3:Int)) 0 H rfl rfl (Nat.le_of_ble_eq_true rfl) fun w H=>?_;exact⟨rfl,H⟩
theorem aFn{e:Nat}{p:bP}(H:E A (gR e p::m) w):M Pg 162 [.pointer (some ⟨e,0,none⟩)] gz w fun r J=>r=p.x∧E A (gR e p::m) J:=by
 refine ahj ?_;unfold UN;refine bR H fun ek w H=>?_;refine ch rfl ?_;refine aR p.x (bO gz (H.front 1) rfl rfl) ?_;refine de (x:=Bs) (S:=p.x) KR 0 H rfl fun w H=>?_;refine ez (x:=p.x) 0 H rfl ?_;exact⟨rfl,H.drop⟩
theorem aFh{e:Nat}{p:bP}{dS:Bool}(hW:0≤p.x.aD∧p.x.aD≤1000000000000)(H:E A (gR e p::m) w):M Pg 127 [.pointer (some ⟨e,0,none⟩),.bool dS] hd w fun r J=>r=ln p dS∧E A (gR e p::m) J:=by
 refine agN ?_;unfold Uf;refine bR H fun iS w H=>?_;cases dS with
 |true=>
  rw[if_pos rfl];refine dy H fun w H=>?_;refine ch rfl ?_;refine ak (x:=p.x.aD) 1 H rfl rfl rfl ?_;refine ak (x:=p.x.fR) 1 H rfl rfl rfl ?_;refine ak (x:=p.x.b) 1 H rfl rfl rfl ?_;rw[wrap_i64 (x:=2*p.x.aD) (by omega) (by omega),wrap_i64 (by omega) (by omega)];refine de (x:=zO) (S:=ln p true) KS 0 H rfl fun w H=>?_;refine ez (x:=ln p true) 0 H rfl ?_;exact⟨rfl,H.drop⟩
 |false=>
  rw[if_neg (by simp)];refine dy H fun w H=>?_;refine ch rfl ?_;refine ak (x:=p.x.aD) 1 H rfl rfl rfl ?_;refine ak (x:=p.x.fL) 1 H rfl rfl rfl ?_;refine ak (x:=p.x.b) 1 H rfl rfl rfl ?_;rw[wrap_i64 (x:=2*p.x.aD) (by omega) (by omega)];refine de (x:=zO) (S:=ln p false) KS 0 H rfl fun w H=>?_;refine ez (x:=ln p false) 0 H rfl ?_;exact⟨rfl,H.drop⟩
theorem acT{e:Nat}{p:bP}(H:E A (gR e p::m) w):M Pg 180 [.pointer (some ⟨e,0,none⟩)] bo w fun r J=>r=p.both∧E A (gR e p::m) J:=by
 refine ahz ?_;unfold U2;refine ch rfl ?_;refine aR ⟨e,4,none⟩ ⟨by decide,by decide,rfl⟩ ?_;refine ak (x:=p.a.b7) 0 H rfl rfl rfl ?_;refine aR ⟨e,0,none⟩ (fun _=>rfl) ?_;refine aR ⟨e,7,none⟩ (fun _=>⟨by decide,by decide,rfl⟩) ?_;refine aR p.e.b7 (fun _=>bO bo H rfl rfl) ?_;exact⟨rfl,H⟩
theorem aFi{e:Nat}{p:bP}(H:E A (gR e p::m) w):M Pg 135 [.pointer (some ⟨e,0,none⟩)] (bB (B .i64) bo) w fun r J=>r=ol p∧E A (gR e p::m) J:=by
 refine agW ?_;unfold Uo ol;refine ap (acT H) ?_;rintro r w ⟨rfl,H⟩;refine aR ⟨e,0,none⟩ (fun _=>rfl) ?_;refine aR p.b8 (fun _=>bO (B .i64) H rfl rfl) ?_;by_cases c:p.both=true∧p.b8=0
 ·rw[if_neg (by simp[c.1,c.2]),if_pos c];refine dy H fun w H=>?_;refine ch rfl ?_;refine aR ⟨e,4,none⟩ ⟨by decide,by decide,rfl⟩ ?_;refine aR ⟨e,7,none⟩ ⟨by decide,by decide,rfl⟩ ?_;refine ak (x:=p.a.g5) 0 H rfl rfl rfl ?_;refine ak (x:=p.e.g5) 0 H rfl rfl rfl ?_;exact⟨rfl,H⟩
 ·rw[if_pos (by cases ao:p.both with | false=>simp | true=>simp; intro h; exact c ⟨ao,h⟩),if_neg c];exact⟨rfl,H⟩
theorem acU{e:Nat}{p:bP}{t:Int}(H:E A (gR e p::m) w):M Pg 149 [.pointer (some ⟨e,0,none⟩),.int .i64 t] (B .i64) w fun r J=>r=(pb p t).2∧E A (gR e (pb p t).1::m) J:=by
 refine ag8 ?_;unfold MV pb;refine ap (ac7 H) ?_;rintro r w ⟨rfl,H⟩;by_cases bx:jU t
 ·rw[decide_eq_true bx,if_neg (by simp:¬ (!true)=true),if_neg (fun h=>h bx)];refine ch rfl ?_;refine ak (x:=p.b8) 0 H rfl rfl rfl ?_;refine aR ⟨e,0,none⟩ (fun _=>rfl) ?_;refine aR p.b8 (fun _=>bO (B .i64) H rfl rfl) ?_;refine aR ⟨e,0,none⟩ (fun _=>rfl) ?_;refine aR p.at_ (fun _=>bO (B .i64) H rfl rfl) ?_;by_cases bK:p.b8=3∨(p.b8=2∧p.at_≠t)
  ·rw[if_pos (by simpa using bK),if_pos bK];exact⟨rfl,H⟩
  ·rw[if_neg (by simpa using bK),if_neg bK];refine ak (x:=p.b8) 0 H rfl rfl rfl ?_;by_cases ck:p.b8=2
   ·rw[if_pos (by simpa using ck),if_pos ck];exact⟨rfl,H⟩
   ·rw[if_neg (by simpa using ck),if_neg ck];refine ap (acT H) ?_;rintro r w ⟨rfl,H⟩;by_cases fv:p.both=false
    ·rw[if_pos (by simp[fv]),if_pos fv];exact⟨rfl,H⟩
    ·rw[if_neg (by simpa using fv),if_neg fv];refine aR ⟨e,4,none⟩ ⟨by decide,by decide,rfl⟩ ?_;refine ak (x:=p.a.g5) 0 H rfl rfl rfl ?_;refine aR ⟨e,0,none⟩ (fun _=>rfl) ?_;refine aR ⟨e,7,none⟩ (fun _=>⟨by decide,by decide,rfl⟩) ?_;refine aR p.e.g5 (fun _=>bO (B .i64) H rfl rfl) ?_;by_cases jC:t<p.a.g5∨t<p.e.g5
     ·rw[if_pos (by simpa using jC),if_pos jC];exact⟨rfl,H⟩
     ·rw[if_neg (by simpa using jC),if_neg jC];refine dK (x:=(2:Int)) 0 H rfl rfl (Nat.le_of_ble_eq_true rfl) fun w H=>?_;refine dK (x:=t) 0 H rfl rfl (Nat.le_of_ble_eq_true rfl) fun w H=>?_;exact⟨rfl,H⟩
 ·rw[decide_eq_false bx,if_pos (by simp:(!false)=true),if_pos bx];exact⟨rfl,H⟩
theorem Lu{e:Nat}{p:bP}{dS:Bool}(H:E A (gR e p::m) w):M Pg 86 [.pointer (some ⟨e,0,none⟩),.bool dS] (B .i64) w fun r J=>r=(Gh p dS).2∧E A (gR e (Gh p dS).1::m) J:=by
 refine ajD ?_;unfold WY Gh;refine ch rfl ?_;refine ak (x:=p.b8) 0 H rfl rfl rfl ?_;by_cases c:p.b8=0
 ·rw[if_pos (by simpa using c),if_pos c];exact⟨rfl,H⟩
 ·rw[if_neg (by simpa using c),if_neg c];refine dy H fun w H=>?_;refine ap (Lw H) ?_;rintro r w ⟨rfl,H⟩;cases dS with
  |true=>
   refine aR ⟨e,10,none⟩ ⟨by decide,by decide,rfl⟩ ?_;refine dK (x:=true) 0 H rfl rfl (Nat.le_of_ble_eq_true rfl) fun w H=>?_;exact⟨rfl,H⟩
  |false=>
   refine aR ⟨e,11,none⟩ ⟨by decide,by decide,rfl⟩ ?_;refine dK (x:=true) 0 H rfl rfl (Nat.le_of_ble_eq_true rfl) fun w H=>?_;exact⟨rfl,H⟩
end
abbrev rU:=m7
section
variable {A w:World} {m bX:List bE}
theorem RZ{e:Nat}{p:bP}{dS b7:Bool}{t:Int}(H:E A (gR e p::m) w):M Pg 134 [.pointer (some ⟨e,0,none⟩),.bool dS,.bool b7,.int .i64 t] (B .i64) w fun r J=>r=(hl p dS b7 t).2∧E A (gR e (hl p dS b7 t).1::m) J:=by
 refine agV ?_;unfold Un;have Al:∀ (cj u0:Nat) (w:World),¬ (b7=true∧¬ jU t)→E A (aJ u0 (rU.cells (p.side dS)) 210::aJ cj (rU.cells ⟨true,b7,if b7 then t else 0⟩) 210::gR e p::m) w →
   Fw (some ⟨e,0,none⟩) dS b7 ⟨cj,0,none⟩ ⟨u0,0,none⟩ w fun r J=>r=(hl p dS b7 t).2∧E A (gR e (hl p dS b7 t).1::m) J:=by
  intro cj u0 w aM H;unfold Fw hl;rw[if_neg aM];generalize (⟨true,b7,if b7 then t else 0⟩:zL)=v at *;refine ak (x:=(p.side dS).said) 0 H rfl rfl rfl ?_;refine aR (p.side dS) (fun _=>bO rU H rfl (tP _)) ?_;refine aR v (fun _=>bO rU (H.front 1) rfl (tP _)) ?_;by_cases c:(p.side dS).said=true∧lS.cB (p.side dS) v=false
  ·rw[if_pos (by simp[c.1,c.2]),if_pos c];exact⟨rfl,H.drop.drop⟩
  ·rw[if_neg (by simpa using c),if_neg c];refine dy H fun w H=>?_;refine ch rfl ?_;refine ez (x:=v) 1 H rfl ?_;refine ap (Lw H) ?_;rintro r w ⟨rfl,H⟩;refine⟨bO rU (H.front 1) rfl (tP _),?_⟩;have fin:∀ (w:World) (q:bP),q=p.hN dS v→q.b8=p.b8→E A (gR e q::aJ cj (rU.cells v) 210::aJ u0 (rU.cells (p.side dS)) 210::m) w →
     ex (fun x=>(!b7)=true→(bM (some (⟨e,0,none⟩:Addr))) x) fun Jk=>ex (fun x=>(!b7)=true→(L (B .i64) (Jk.add 12) w) x) fun gi=>
      if ((!b7)&&(gi==(0:Int)))=true then (bi (B .i64) (Addr.add ⟨e,0,none⟩ 12) (3:Int) w fun gp=>A6 gp fun r J=>r=(if b7=false∧p.b8=0 then ({ p.hN dS v with b8:=3 }:bP) else p.hN dS v,(0:Int)).2∧E A (gR e (if b7=false∧p.b8=0 then ({ p.hN dS v with b8:=3 }:bP) else p.hN dS v,(0:Int)).1::m) J)
      else A6 w fun r J=>r=(if b7=false∧p.b8=0 then ({ p.hN dS v with b8:=3 }:bP) else p.hN dS v,(0:Int)).2∧E A (gR e (if b7=false∧p.b8=0 then ({ p.hN dS v with b8:=3 }:bP) else p.hN dS v,(0:Int)).1::m) J:=by
    intro w q ba am H;refine aR ⟨e,0,none⟩ (fun _=>rfl) ?_;refine aR q.b8 (fun _=>bO (B .i64) H rfl rfl) ?_;rw[am,← ba];by_cases bK:b7=false∧p.b8=0
    ·rw[if_pos (by simp[bK.1,bK.2]),if_pos bK];refine dK (x:=(3:Int)) 0 H rfl rfl (Nat.le_of_ble_eq_true rfl) fun w H=>?_;unfold A6;exact⟨rfl,((H.front 1).drop.front 1).drop⟩
    ·rw[if_neg (by simpa using bK),if_neg bK];unfold A6;exact⟨rfl,((H.front 1).drop.front 1).drop⟩
   cases dS with
   |true=>
    refine aR ⟨e,4,none⟩ ⟨by decide,by decide,rfl⟩ ?_;refine dK (T:=rU) (x:=v) 2 H rfl rfl (Nat.le_of_ble_eq_true rfl) fun w H=>?_;exact fin w { p with a:=v } rfl rfl (H.ord [0,2])
   |false=>
    refine aR ⟨e,7,none⟩ ⟨by decide,by decide,rfl⟩ ?_;refine dK (T:=rU) (x:=v) 2 H rfl rfl (Nat.le_of_ble_eq_true rfl) fun w H=>?_;exact fin w { p with e:=v } rfl rfl (H.ord [0,2])
 have vt:∀ (cj:Nat) (w:World),¬ (b7=true∧¬ jU t)→E A (aJ cj (rU.cells ⟨true,b7,if b7 then t else 0⟩) 210::gR e p::m) w →
   Fv (some ⟨e,0,none⟩) dS b7 ⟨cj,0,none⟩ w fun r J=>r=(hl p dS b7 t).2∧E A (gR e (hl p dS b7 t).1::m) J:=by
  intro cj w aM H;unfold Fv;refine dy H fun w H=>?_;refine ch rfl ?_;refine⟨?_,?_⟩
  ·refine ap (Lw H) ?_;rintro r w ⟨rfl,H⟩;cases dS with
   |true=>
    refine aR ⟨e,4,none⟩ ⟨by decide,by decide,rfl⟩ ?_;refine aR p.a (bO rU (H.front 1) rfl rfl) ?_;refine bR H fun u0 w H=>?_;refine de (x:=q3) (S:=p.a) Cg 0 H rfl fun w H=>?_;exact Al cj u0 w aM H
   |false=>
    refine aR ⟨e,7,none⟩ ⟨by decide,by decide,rfl⟩ ?_;refine aR p.e (bO rU (H.front 1) rfl rfl) ?_;refine bR H fun u0 w H=>?_;refine de (x:=q3) (S:=p.e) Cg 0 H rfl fun w H=>?_;exact Al cj u0 w aM H
  ·refine bR H fun u0 w H=>?_;refine ap (Lw H) ?_;rintro r w ⟨rfl,H⟩;cases dS with
   |true=>
    refine aR ⟨e,4,none⟩ ⟨by decide,by decide,rfl⟩ ?_;refine aR p.a (bO rU (H.front 2) rfl rfl) ?_;refine de (x:=q3) (S:=p.a) Cg 0 H rfl fun w H=>?_;exact Al cj u0 w aM H
   |false=>
    refine aR ⟨e,7,none⟩ ⟨by decide,by decide,rfl⟩ ?_;refine aR p.e (bO rU (H.front 2) rfl rfl) ?_;refine de (x:=q3) (S:=p.e) Cg 0 H rfl fun w H=>?_;exact Al cj u0 w aM H
 cases b7 with
 |true=>
  rw[if_pos rfl];refine ap (ac7 H) ?_;rintro r w ⟨rfl,H⟩;unfold Fu;by_cases c:jU t
  ·rw[decide_eq_true c,if_neg (by simp:¬ (!true)=true)];refine bR H fun cj w H=>?_;refine de (x:=q3) (S:=(⟨true,true,0⟩:zL)) Cg 0 H rfl fun w H=>?_;rw[if_pos rfl];refine dK (x:=t) 0 H rfl rfl (Nat.le_of_ble_eq_true rfl) fun w H=>?_;exact vt cj w (fun h=>h.2 c) H
  ·rw[decide_eq_false c,if_pos (by simp:(!false)=true)];unfold hl;rw[if_pos ⟨rfl,c⟩];exact⟨rfl,H⟩
 |false=>
  rw[if_neg (by simp)];unfold Fu;rw[if_neg (by simp)];refine bR H fun cj w H=>?_;refine de (x:=q3) (S:=(⟨true,false,0⟩:zL)) Cg 0 H rfl fun w H=>?_;rw[if_neg (by simp)];exact vt cj w (fun h=>by cases h.1) H
theorem aFd{e:Nat}{p:bP}(H:E A (gR e p::m) w):M Pg 126 [.pointer (some ⟨e,0,none⟩)] X w fun r J=>E A (row bo 4 1 r (nL p)::gR e p::m) J:=by
 refine agM ?_;unfold Ue;have H:=k4 bo 4 1 H;refine ia (fun s w=>(s.2=0∧E A (row bo 4 1 s.1 []::gR e p::m) w)∨(s.2=1∧E A (row bo 4 1 s.1 (if p.done true then [] else [true])::gR e p::m) w)∨(s.2=2∧E A (row bo 4 1 s.1 (nL p)::gR e p::m) w)) (fun s=>(2-s.2).toNat) (.inl ⟨rfl,H⟩) ?_;clear H;rintro⟨q,i⟩ w h ab cg;unfold MO;simp only at h ⊢;rcases h with ⟨rfl,H⟩ | ⟨rfl,H⟩ | ⟨rfl,H⟩
 ·rw[if_pos (by simp)];refine aR true ⟨by decide,rfl⟩ ?_;refine ch rfl ?_;refine aR ⟨e,4,none⟩ ⟨by decide,by decide,rfl⟩ ?_;refine ak (x:=p.a.said) 1 H rfl rfl rfl ?_;refine ak (x:=p.b8) 1 H rfl rfl rfl ?_;have fin:∀ d:Bool,d=p.done true→A5 q 0 true d w ab fun r J=>E A (row bo 4 1 r (nL p)::gR e p::m) J:=by
   intro d ag;unfold A5 Ft;cases d with
   |true=>
    rw[if_neg (by simp)];refine cg _ _ (.inr (.inl ⟨rfl,?_⟩)) (by show (2-IntKind.i64.wrap (0+1)).toNat<(2-0:Int).toNat; rw[wrap_i64 (by omega) (by omega)]; omega);rw[← ag];exact H
   |false=>
    rw[if_pos (by simp)];refine nF (fun _=>rfl) 0 H rfl (by simp) fun r w H=>?_;refine cg _ _ (.inr (.inl ⟨rfl,?_⟩)) (by show (2-IntKind.i64.wrap (0+1)).toNat<(2-0:Int).toNat; rw[wrap_i64 (by omega) (by omega)]; omega);rw[← ag];exact H
  by_cases c:p.b8=0
  ·rw[if_neg (by simp[c])];exact fin _ (by unfold bP.done; rw[if_neg (fun h=>h c)]; rfl)
  ·rw[if_pos (by simpa using c)];refine aR ⟨e,10,none⟩ ⟨by decide,by decide,rfl⟩ ?_;refine ak (x:=p.uh) 1 H rfl rfl rfl ?_;exact fin _ (by unfold bP.done; rw[if_pos c]; rfl)
 ·rw[if_pos (by simp)];refine aR false ⟨by decide,rfl⟩ ?_;refine ch rfl ?_;refine aR ⟨e,7,none⟩ ⟨by decide,by decide,rfl⟩ ?_;refine ak (x:=p.e.said) 1 H rfl rfl rfl ?_;refine ak (x:=p.b8) 1 H rfl rfl rfl ?_;have fin:∀ d:Bool,d=p.done false→A5 q 1 false d w ab fun r J=>E A (row bo 4 1 r (nL p)::gR e p::m) J:=by
   intro d ag;unfold A5 Ft;cases d with
   |true=>
    rw[if_neg (by simp)];refine cg _ _ (.inr (.inr ⟨rfl,?_⟩)) (by show (2-IntKind.i64.wrap (1+1)).toNat<(2-1:Int).toNat; rw[wrap_i64 (by omega) (by omega)]; omega);unfold nL;rw[← ag,if_pos rfl,List.append_nil];exact H
   |false=>
    rw[if_pos (by simp)];refine nF (fun _=>rfl) 0 H rfl (by split<;>simp) fun r w H=>?_;refine cg _ _ (.inr (.inr ⟨rfl,?_⟩)) (by show (2-IntKind.i64.wrap (1+1)).toNat<(2-1:Int).toNat; rw[wrap_i64 (by omega) (by omega)]; omega);unfold nL;rw[← ag,if_neg (by simp:¬ false=true)];exact H
  by_cases c:p.b8=0
  ·rw[if_neg (by simp[c])];exact fin _ (by unfold bP.done; rw[if_neg (fun h=>h c)]; rfl)
  ·rw[if_pos (by simpa using c)];refine aR ⟨e,11,none⟩ ⟨by decide,by decide,rfl⟩ ?_;refine ak (x:=p.An) 1 H rfl rfl rfl ?_;exact fin _ (by unfold bP.done; rw[if_pos c]; rfl)
 ·rw[if_neg (by simp)];exact H
end
end Clock
namespace Post
open bj
structure dN where
 nodes:Int
 qI:Int
 m:List hc
 off:Int→Bool
def h0(e:Nat)(b:dN):bE:=
 h8 fun v=>h8 fun l8=>h8 fun es=>dH [lG (∀ x,(es.lookup x).isSome=b.off x),aJ e [.int .i64 b.nodes,.int .i64 b.qI,.slice v.a v.len v.cap,.map (some l8)] 178,row eQ 64 10 v b.m,dh fF .i64 l8 es]
section
variable {A w:World} {m:List bE} {e:Nat} {b:dN}
theorem wj(H:E A (h0 e b::m) w):∃ v l8 es,(∀ x,(List.lookup x es).isSome=b.off x) ∧
  E A (aJ e [.int .i64 b.nodes,.int .i64 b.qI,.slice v.a v.len v.cap,.map (some l8)] 178::row eQ 64 10 v b.m::dh fF .i64 l8 es::m) w:=by
 obtain⟨v,H⟩:=H.ex;obtain⟨l8,H⟩:=H.ex;obtain⟨es,H⟩:=H.ex;obtain⟨h,H⟩:=E.vJ H.open_;exact⟨v,l8,es,h,H⟩
theorem sK{v:af}{l8:Nat}{es:List (Int×o8)}(h:∀ x,(List.lookup x es).isSome=b.off x)
  (H:E A (aJ e [.int .i64 b.nodes,.int .i64 b.qI,.slice v.a v.len v.cap,.map (some l8)] 178::row eQ 64 10 v b.m::dh fF .i64 l8 es::m) w):E A (h0 e b::m) w:=
 E.mU v (E.mU l8 (E.mU es (E.shut (bX:=[lG _,_,_,_]) (E.v1 h H))))
def dN.has(b:dN)(x:Int):Bool:=decide (x≥0)&&decide (x<b.nodes)
theorem HB(H:E A (h0 e b::m) w)(x:Int):M Pg 124 [.pointer (some ⟨e,0,none⟩),.int .i64 x] bo w fun r J=>r=b.has x∧E A (h0 e b::m) J:=by
 refine agK ?_;obtain⟨v,l8,es,h,hb⟩:=wj H;unfold Uc;refine⟨⟨e,0,none⟩,fun _=>rfl,b.nodes,fun _=>bO (B .i64) hb rfl rfl,rfl,H⟩
theorem Yn(H:E A (h0 e b::m) w)(x:Int):M Pg 132 [.pointer (some ⟨e,0,none⟩),.int .i64 x] bo w fun r J=>r=b.off x∧E A (h0 e b::m) J:=by
 refine agT ?_;obtain⟨v,l8,es,h,H⟩:=wj H;unfold Ul;refine ch rfl ?_;refine ak (x:=some l8) 0 H rfl rfl rfl ?_;refine mw 2 H rfl rfl ?_;refine bR H fun fp dL H=>?_;refine dK 0 H rfl rfl (Nat.le_refl _) fun cG H=>?_;exact⟨h x,sK h H.drop⟩
def dN.put(b:dN)(x:hc):dN×Int:=if b.m.length≥1000 then (b,91) else ({ b with m:=b.m++[x] },0)
theorem CA(H:E A (h0 e b::m) w)(a5:b.m.length≤1000)(x:hc):M Pg 130 [.pointer (some ⟨e,0,none⟩),eQ.enc x] (B .i64) w fun r J=>r=(b.put x).2∧E A (h0 e (b.put x).1::m) J:=by
 refine agR ?_;unfold Uj;refine bR H fun fp dL H=>?_;obtain⟨v,l8,es,h,H⟩:=wj (H.front 1);refine ch rfl ?_;refine ak (x:=v) 0 H rfl rfl rfl ?_;have aM:=gG (H.front 1);split
 ·rename_i U;have U:b.m.length≥1000:=by simp at U; omega
  have l:b.put x=(b,91):=by simp only[dN.put,U,if_true]
  rw[l];exact⟨rfl,sK h (H.front 3).drop⟩
 ·rename_i U;have U:¬ b.m.length≥1000:=by simp at U; omega
  refine dy H fun cG H=>?_;refine ak (x:=v) 0 H rfl rfl rfl ?_;refine ez (x:=x) 3 H rfl ?_;refine nF (xs:=b.m) (fun _=>rfl) 1 H rfl (by simp; omega) fun r bl H=>?_;refine⟨bO eQ (H.front 3) rfl (tP _),?_⟩;refine dK (x:=r) 1 H rfl rfl (Nat.le_of_ble_eq_true rfl) fun aY H=>?_;have l:b.put x=({ b with m:=b.m++[x] },0):=by simp only[dN.put,U,if_false]
  rw[l];exact⟨rfl,sK (v:=r) h (H.front 3).drop⟩
end
section
variable {A w:World} {m:List bE} {e:Nat} {b:dN}
def dN.at_(b:dN)(i:Int):hc×Int:=match (if i<0 then none else b.m[i.toNat]?) with
 |some x=>(x,0)
 |none=>(lw,92)
theorem dN.XP(b:dN){i:Int}(h:i<0∨(b.m.length:Int)≤i):b.at_ i=(lw,92):=by
 unfold dN.at_;by_cases ah:i<0
 ·simp[ah]
 ·rw[if_neg ah,List.getElem?_eq_none (by omega)]
theorem dN.Jt(b:dN){i:Int}{x:hc}(ah:0≤i)(h:b.m[i.toNat]?=some x):b.at_ i=(x,0):=by
 unfold dN.at_;rw[if_neg (by omega),h]
theorem BA(H:E A (h0 e b::m) w)(i:Int):M Pg 131 [.pointer (some ⟨e,0,none⟩),.int .i64 i] (bB eQ (B .i64)) w fun r J=>r=b.at_ i∧E A (h0 e b::m) J:=by
 refine agS ?_;unfold Uk;refine bR H fun fp dL H=>?_;obtain⟨v,l8,es,h,H⟩:=wj (H.front 1);have aM:=gG (H.front 1);refine aR ⟨e,0,none⟩ (fun _=>rfl) ?_;refine aR v (fun _=>bO X H rfl rfl) ?_;by_cases U:i<0∨(b.m.length:Int)≤i
 ·rw[if_pos (by simp; omega)];refine de (x:=lw) (S:=lw) w5 3 H rfl fun cG H=>?_;refine ez (x:=lw) 0 H rfl ?_;rw[b.XP U];exact⟨rfl,sK h H.drop⟩
 ·rw[if_neg (by simp; omega)];obtain⟨x,F⟩:∃ x,b.m[i.toNat]?=some x:=⟨_,List.getElem?_eq_getElem (by omega)⟩
  refine ch rfl ?_;refine ak (x:=v) 0 H rfl rfl rfl ?_;refine abt (H.front 1) (by omega) (by omega) fun a Y=>?_;refine aR x (my (fun _=>rfl) Y F (H.front 1)) ?_;refine de (x:=lw) (S:=x) w5 3 H rfl fun cG H=>?_;refine ez (x:=x) 0 H rfl ?_;rw[b.Jt (by omega) F];exact⟨rfl,sK h H.drop⟩
def dN.send(b:dN)(from_ ij:Int)(o:iE):dN×Int×Int:=
 if (!b.has from_||!b.has ij)=true then (b,0,90)
 else if (b.put ⟨IntKind.i64.wrap (b.qI+1),from_,ij,o⟩).2≠0 then (b,0,91)
 else ({ (b.put ⟨IntKind.i64.wrap (b.qI+1),from_,ij,o⟩).1 with qI:=IntKind.i64.wrap (b.qI+1) },IntKind.i64.wrap (b.qI+1),0)
theorem dN.ac8(b:dN)(x:hc)(h:(b.put x).2≠0):b.put x=(b,91):=by
 unfold dN.put at h ⊢;split<;>simp_all
theorem aHo(H:E A (h0 e b::m) w)(a5:b.m.length≤1000)(f t:Int)(o:iE) :
  M Pg 81 [.pointer (some ⟨e,0,none⟩),.int .i64 f,.int .i64 t,eW.enc o] (bB (B .i64) (B .i64)) w fun r J=>r=(b.send f t o).2∧E A (h0 e (b.send f t o).1::m) J:=by
 refine ajy ?_;unfold WU;refine bR H fun mq w H=>?_;have H:=H.front 1;refine ap (HB H f) ?_;rintro r dL ⟨rfl,H⟩;have tail:∀ (q:Bool) (dL:World),E A (h0 e b::aJ mq (eW.cells o) 62::m) dL→q=(!b.has f||!b.has t)→FY (some ⟨e,0,none⟩) f t ⟨mq,0,none⟩ q dL (fun r J=>r=(b.send f t o).2∧E A (h0 e (b.send f t o).1::m) J):=by
  intro q dL H ba;unfold FY;subst ba;split
  ·rename_i U;have l:b.send f t o=(b,0,90):=by unfold dN.send; rw[if_pos U]
   rw[l]; exact⟨rfl,(H.front 1).drop⟩
  ·rename_i U;obtain⟨v,l8,es,h,hb⟩:=wj H;refine ch rfl ?_;refine ak (x:=b.qI) 0 hb rfl rfl rfl ?_;refine ez (x:=o) 3 hb rfl ?_;refine ap (CA (sK h hb) a5 _) ?_;rintro r cG ⟨rfl,H⟩;by_cases aF:(b.put ⟨IntKind.i64.wrap (b.qI+1),f,t,o⟩).2=0
   ·rw[if_neg (by simp[aF])];have l:b.send f t o=({ (b.put ⟨IntKind.i64.wrap (b.qI+1),f,t,o⟩).1 with qI:=IntKind.i64.wrap (b.qI+1) },IntKind.i64.wrap (b.qI+1),0):=by
     unfold dN.send; rw[if_neg U,if_neg (by simp[aF])]
    rw[l];obtain⟨v,l8,es,h,H⟩:=wj H;refine dK 0 H rfl rfl (Nat.le_of_ble_eq_true rfl) fun bl H=>?_;exact⟨rfl,sK (v:=v) h (H.front 3).drop⟩
   ·rw[if_pos (by simp[aF])];have l:b.send f t o=(b,0,91):=by
     unfold dN.send; rw[if_neg U,if_pos aF]
    have aS:=b.ac8 _ aF;rw[aS] at H ⊢;rw[l]; exact⟨rfl,(H.front 1).drop⟩
 split
 ·rename_i U;exact tail _ _ H (by simp at U; simp[U])
 ·rename_i U;refine ap (HB H t) ?_;rintro r cG ⟨rfl,H⟩;exact tail _ _ H (by simp at U; simp[U])
theorem alZ{v:af}{xs:List hc}(H:E A (row eQ 64 10 v xs::m) w)(al:xs.length*80≤140737488355328) :
  M Pg 107 [X.enc v] X w fun r J=>E A (row eQ 64 10 r xs::row eQ 64 10 v xs::m) J:=by
 refine agu ?_;unfold TY;split
 ·rename_i U;rcases oV H with ⟨rfl,rfl,_⟩ | ⟨fp,rest,I,_⟩
  ·exact k4 eQ 64 10 H
  ·simp[I] at U
 ·refine vA H fun fp dL H=>?_;have hb:=uB (T:=eQ) (t:=64) (ar:=10) (xs:=[]) (o:=0) rfl H;refine DH (xs:=[]) (new:=xs) (fun _=>rfl) 0 hb rfl (Do (hb.front 1)) (by simpa using al) fun r cG H=>?_;exact H
theorem aCF(H:E A (h0 e b::m) w)(a5:b.m.length≤1000):M Pg 56 [.pointer (some ⟨e,0,none⟩)] X w fun r J=>E A (row eQ 64 10 r b.m::h0 e b::m) J:=by
 refine ai7 ?_;unfold Wv;obtain⟨v,l8,es,h,H⟩:=wj H;refine ch rfl ?_;refine ak (x:=v) 0 H rfl rfl rfl ?_;refine ap (alZ (H.front 1) (by omega)) ?_;intro r dL H;exact (sK h (H.ord [2,1,3,0])).front 1
theorem YB{v:af}{xs:List hc}(H:E A (row eQ 64 10 v xs::m) w)(i:Int)(ah:0≤i)(I:i<xs.length)(hm:xs.length≤1000) :
  M Pg 133 [X.enc v,.int .i64 i,.int .i64 (i+1)] X w fun r J=>E A (row eQ 64 10 r (xs.eraseIdx i.toNat)::m) J:=by
 refine agU ?_;unfold Um;have aM:=gG H;have ms:v.len≤v.cap:=by
  rcases oV H with ⟨rfl,rfl,_⟩ | ⟨_,_,_,_,h,_⟩
  ·exact Nat.le_refl _
  ·exact h
 refine ot ah (by omega) (by omega) (by omega) fun aeM _=>?_;rw[if_neg (by simp; omega)];refine dy H fun cG H=>?_;refine ot (by omega) (by omega) (by omega) (by omega) fun xl iG=>?_;refine ot (by omega) (by omega) (by omega) (by omega) fun Is r4=>?_;have ag:=aet (fun _=>rfl) r4 H;obtain⟨x4,H⟩:=aG0 (fun _=>rfl) iG (by omega) H;subst x4;have Z_:(xs.drop (i+1).toNat).length=xs.length-(i+1).toNat:=List.length_drop;refine akx (fun _=>rfl) H ag (by simp only[Z_]; omega) fun bl H=>?_;have l:xs.take i.toNat++xs.drop (i+1).toNat=xs.eraseIdx i.toNat:=by
  rw[List.eraseIdx_eq_take_drop_succ]; congr 2; omega
 rw[l] at H;refine ot (by omega) (by simp only[Z_]; omega) (by simp only; omega) (Int.le_refl _) fun aeL aoF=>?_;exact al4 (fun _=>rfl) aoF H fun aY H=>H
def dN.take(b:dN)(i:Int):dN×hc×Int:=
 if (b.at_ i).2≠0 then (b,(b.at_ i).1,(b.at_ i).2)
 else if (b.off (b.at_ i).1.fR||b.off (b.at_ i).1.fL)=true then (b,lw,93)
 else ({ b with m:=b.m.eraseIdx i.toNat },(b.at_ i).1,0)
theorem dN.Ju(b:dN){i:Int}(h:(b.at_ i).2=0):0≤i∧i<b.m.length:=by
 by_cases U:i<0∨(b.m.length:Int)≤i
 ·rw[b.XP U] at h; cases h
 ·omega
theorem aga{i:Int}{n:Nat}(ah:0≤i)(I:i<n)(aM:n≤1000):IntKind.i64.wrap (i+1)=i+1:=wrap_i64 (by omega) (by omega)
theorem aCO(H:E A (h0 e b::m) w)(a5:b.m.length≤1000)(i:Int):M Pg 101 [.pointer (some ⟨e,0,none⟩),.int .i64 i] (B .i64) w fun r J=>
  r=(b.at_ i).2∧E A (h0 e (if (b.at_ i).2=0 then { b with m:=b.m.eraseIdx i.toNat } else b)::m) J:=by
 refine agp ?_;unfold TS;refine ap (BA H i) ?_;rintro r dL ⟨rfl,H⟩;refine bR H fun fp cG H=>?_;refine de (x:=lw) (S:=(b.at_ i).1) w5 0 H rfl fun bl H=>?_;have H:=H.drop;by_cases bN:(b.at_ i).2=0
 ·obtain⟨ah,I⟩:=b.Ju bN;rw[if_pos (by simp[bN])];simp only[bN,if_true];obtain⟨v,l8,es,h,H⟩:=wj H;refine ch rfl ?_;refine ak (x:=v) 0 H rfl rfl rfl ?_;rw[aga ah I a5];refine ap (YB (H.front 1) i ah I a5) ?_;intro r aY H;refine dK (x:=r) 1 H rfl rfl (Nat.le_of_ble_eq_true rfl) fun bc H=>?_;unfold Fk;exact⟨bN,sK (v:=r) h H⟩
 ·rw[if_neg (by simp[bN])];simp only[bN,if_false];unfold Fk;exact⟨by trivial,H⟩
theorem amk(H:E A (h0 e b::m) w)(a5:b.m.length≤1000)(i:Int):M Pg 100 [.pointer (some ⟨e,0,none⟩),.int .i64 i] (B .i64) w fun r J=>
  r=(if (b.at_ i).2≠0 then (b.at_ i).2 else (b.put (b.at_ i).1).2)∧E A (h0 e (if (b.at_ i).2≠0 then b else (b.put (b.at_ i).1).1)::m) J:=by
 refine ago ?_;unfold TR;refine ap (BA H i) ?_;rintro r dL ⟨rfl,H⟩;refine bR H fun fp cG H=>?_;refine de (x:=lw) (S:=(b.at_ i).1) w5 0 H rfl fun bl H=>?_;by_cases bN:(b.at_ i).2=0
 ·rw[if_neg (by simp[bN])];simp only[bN,ne_eq,not_true_eq_false,if_false];refine ez (x:=(b.at_ i).1) 0 H rfl ?_;exact CA H.drop a5 _
 ·rw[if_pos (by simp[bN])];simp only[bN,ne_eq,not_false_eq_true,if_true];exact⟨by trivial,H.drop⟩
theorem amp(H:E A (h0 e b::m) w)(x:Int)(q:Bool):M Pg 69 [.pointer (some ⟨e,0,none⟩),.int .i64 x,.bool q] (B .i64) w fun r J=>
  r=(if b.has x then 0 else 90)∧E A (h0 e (if b.has x then { b with off:=fun S=>if S==x then q else b.off S } else b)::m) J:=by
 refine ajk ?_;unfold WH;refine ap (HB H x) ?_;rintro r dL ⟨rfl,H⟩;by_cases cK:b.has x=true
 ·rw[if_neg (by simp[cK])];simp only[cK,if_true];obtain⟨v,l8,es,h,H⟩:=wj H;have lC:=HM (H.front 2);cases q with
  |true=>
   rw[if_pos rfl];refine ch rfl ?_;refine ak (x:=some l8) 0 H rfl rfl rfl ?_;refine sf 2 H rfl rfl fun cG H=>?_;unfold FV;refine⟨rfl,sK (v:=v) ?_ (H.ord [1,2,0])⟩;intro S;rw[tg];by_cases l:(S==x)=true
   ·simp[l]
   ·simp[l,h S]
  |false=>
   rw[if_neg (by simp)];refine ch rfl ?_;refine ak (x:=some l8) 0 H rfl rfl rfl ?_;refine Rl 2 H rfl rfl fun cG H=>?_;unfold FV;refine⟨rfl,sK (v:=v) ?_ (H.ord [1,2,0])⟩;intro S;rw[HK _ _ _ lC];by_cases l:(S==x)=true
   ·simp[l]
   ·simp[l,h S]
 ·rw[if_pos (by simp[cK])];simp only[cK,Bool.false_eq_true,if_false];exact⟨by trivial,H⟩
theorem dN.aIl(b:dN){i:Int}(h:(b.at_ i).2≠0):b.take i=(b,(b.at_ i).1,(b.at_ i).2):=by unfold dN.take; rw[if_pos h]
theorem dN.aIn(b:dN){i:Int}(h:(b.at_ i).2=0)(aj:(b.off (b.at_ i).1.fR||b.off (b.at_ i).1.fL)=true):b.take i=(b,lw,93):=by
 unfold dN.take; rw[if_neg (by simp[h]),if_pos aj]
theorem dN.aIo(b:dN){i:Int}(h:(b.at_ i).2=0)(aj:(b.off (b.at_ i).1.fR||b.off (b.at_ i).1.fL)=false):b.take i=({ b with m:=b.m.eraseIdx i.toNat },(b.at_ i).1,0):=by
 unfold dN.take; rw[if_neg (by simp[h]),if_neg (by simp[aj])]
theorem S4(H:E A (h0 e b::m) w)(a5:b.m.length≤1000)(i:Int):M Pg 82 [.pointer (some ⟨e,0,none⟩),.int .i64 i] (bB eQ (B .i64)) w fun r J=>
  r=(b.take i).2∧E A (h0 e (b.take i).1::m) J:=by
 refine ajz ?_;unfold WV;refine bR H fun fp dL H=>?_;refine ap (BA (H.front 1) i) ?_;rintro r cG ⟨rfl,H⟩;refine bR H fun ek bl H=>?_;refine de (x:=lw) (S:=(b.at_ i).1) w5 0 H rfl fun aY H=>?_;by_cases bN:(b.at_ i).2=0
 ·rw[if_neg (by simp[bN])];refine ak (x:=(b.at_ i).1.fR) 0 H rfl rfl rfl ?_;refine ap (Yn (H.front 1) _) ?_;rintro r bc ⟨rfl,H⟩;have tail:∀ (q:Bool) (w:World),E A (h0 e b::aJ ek (eQ.cells (b.at_ i).1) 64::aJ fp (eQ.cells lw) 64::m) w→q=(b.off (b.at_ i).1.fR||b.off (b.at_ i).1.fL) →
    FZ (some ⟨e,0,none⟩) i ⟨fp,0,none⟩ ⟨ek,0,none⟩ q w (fun r J=>r=(b.take i).2∧E A (h0 e (b.take i).1::m) J):=by
   intro q w H ba;unfold FZ;subst ba;split
   ·rename_i U;rw[b.aIn bN U];refine de (x:=lw) (S:=lw) w5 2 H rfl fun b3 H=>?_;refine ez (x:=lw) 0 H rfl ?_;exact⟨rfl,((H.ord [0,2]).drop).drop⟩
   ·rename_i U;rw[b.aIo bN (by simpa using U)];obtain⟨ah,I⟩:=b.Ju bN;obtain⟨v,l8,es,h,H⟩:=wj H;refine ch rfl ?_;refine ak (x:=v) 0 H rfl rfl rfl ?_;rw[aga ah I a5];refine ap (YB (H.front 1) i ah I a5) ?_;intro r b3 H;refine dK (x:=r) 1 H rfl rfl (Nat.le_of_ble_eq_true rfl) fun bZ H=>?_;refine ez (x:=(b.at_ i).1) 3 H rfl ?_;refine de (x:=lw) (S:=(b.at_ i).1) w5 4 H rfl fun bJ H=>?_;refine ez (x:=(b.at_ i).1) 0 H rfl ?_;exact⟨rfl,sK (v:=r) h ((H.ord [0,4]).drop).drop⟩
  split
  ·rename_i U;exact tail _ _ H (by simp[U])
  ·rename_i U;refine ak (x:=(b.at_ i).1.fL) 1 H rfl rfl rfl ?_;refine ap (Yn H _) ?_;rintro r b3 ⟨rfl,H⟩;exact tail _ _ H (by simp at U; simp[U])
 ·rw[if_pos (by simp[bN])];rw[b.aIl bN];refine ez (x:=(b.at_ i).1) 0 H rfl ?_;refine de (x:=lw) (S:=(b.at_ i).1) w5 2 H rfl fun bc H=>?_;refine ez (x:=(b.at_ i).1) 0 H rfl ?_;exact⟨rfl,H.drop.drop⟩
end
section
variable {A w:World} {m:List bE} {e:Nat} {b:dN}
def dN.new(n:Int):dN:=⟨n,0,[],fun _=>false⟩
theorem ajY(H:E A m w)(n:Int):M Pg 39 [.int .i64 n] (bB aE (B .i64)) w fun r J=>
  ((n<1∨64<n)∧r=(none,90)∧E A m J)∨((1≤n∧n≤64)∧∃ e,r=(some ⟨e,0,none⟩,0)∧E A (h0 e (dN.new n)::m) J):=by
 refine aiO ?_;unfold Wd;split
 ·rename_i U;exact .inl ⟨by simp at U; omega,rfl,H⟩
 ·rename_i U;refine xc H fun l8 dL H=>?_;refine bR H fun e cG H=>?_;refine .inr ⟨by simp at U; omega,e,rfl,?_⟩;have H:=(w9 fF .i64 (H.front 1)).front 1;exact sK (v:=fN) (b:=dN.new n) (fun x=>rfl) ((k4 eQ 64 10 H).front 1)
end
end Post
section
open bj
theorem Ls:ownKnob Tryz.prog.godebug=none:=by kernel_rfl
theorem w4:laidOutB Pg=true:=by kernel_rfl
section
variable {H:Type} {enc:TypeId×Value→H} {A:World} {base:Nat} {spare:Nat→Bool} {held:Bool}
def rQ(A:World)(x:Int):Prop:=IntKind.i64.min≤x∧x≤IntKind.i64.max
theorem Ax:qX enc Pg A base spare held 3 (B .i64) (rQ A):=acJ Tryz.underlying3
def N2(A:World)(x:Nat):Prop:=x<18446744073709551616
theorem acH:qX enc Pg A base spare held 22 g4 (N2 A):=aEv Tryz.underlying22
def we(A:World)(x:Int):Prop:=IntKind.i64.min≤x∧x≤IntKind.i64.max
theorem Lo:qX enc Pg A base spare held 2 (B .i64) (we A):=acJ Tryz.underlying2
def xF(A:World)(x:kU):Prop:=rQ A x.hQ∧N2 A x.gP∧N2 A x.lc∧we A x.jQ
theorem Lp:qX enc Pg A base spare held 24 hr (xF A):=by
 refine RP Tryz.underlying24 (show Tryz.prog.cellsOf 24=4 by kernel_rfl) fun bd al am=>?_;obtain⟨abX,bH,ah⟩:=am 0 0 3 1 ⟨_,rfl,rfl,rfl⟩ (by kernel_rfl);obtain⟨hO,hU,cX⟩:=Ax _ _ _ ah;obtain⟨hp,cp,I⟩:=am 1 1 22 1 ⟨_,rfl,rfl,rfl⟩ (by kernel_rfl);obtain⟨g9,aS,bD⟩:=acH _ _ _ I;obtain⟨j_,fE,R⟩:=am 2 2 22 1 ⟨_,rfl,rfl,rfl⟩ (by kernel_rfl);obtain⟨mD,bb,e4⟩:=acH _ _ _ R;obtain⟨jW,ej,aK⟩:=am 3 3 2 1 ⟨_,rfl,rfl,rfl⟩ (by kernel_rfl);obtain⟨IM,dn,jr⟩:=Lo _ _ _ aK;have cK:=rb (G:=0) (k:=1) hU (rb (G:=1) (k:=1) aS (rb (G:=2) (k:=1) bb (rb (G:=3) (k:=1) dn (OQ al))));exact⟨⟨hO,g9,mD,IM⟩,cK,cX,bD,e4,jr⟩
def Xa(A:World)(x:mK):Prop:=rQ A x.aD∧rQ A x.fR∧rQ A x.fL∧we A x.b
theorem aEr:qX enc Pg A base spare held 31 gz (Xa A):=by
 refine RP Tryz.underlying31 (show Tryz.prog.cellsOf 31=4 by kernel_rfl) fun bd al am=>?_;obtain⟨abX,bH,ah⟩:=am 0 0 3 1 ⟨_,rfl,rfl,rfl⟩ (by kernel_rfl);obtain⟨hO,hU,cX⟩:=Ax _ _ _ ah;obtain⟨hp,cp,I⟩:=am 1 1 3 1 ⟨_,rfl,rfl,rfl⟩ (by kernel_rfl);obtain⟨g9,aS,bD⟩:=Ax _ _ _ I;obtain⟨j_,fE,R⟩:=am 2 2 3 1 ⟨_,rfl,rfl,rfl⟩ (by kernel_rfl);obtain⟨mD,bb,e4⟩:=Ax _ _ _ R;obtain⟨jW,ej,aK⟩:=am 3 3 2 1 ⟨_,rfl,rfl,rfl⟩ (by kernel_rfl);obtain⟨IM,dn,jr⟩:=Lo _ _ _ aK;have cK:=rb (G:=0) (k:=1) hU (rb (G:=1) (k:=1) aS (rb (G:=2) (k:=1) bb (rb (G:=3) (k:=1) dn (OQ al))));exact⟨⟨hO,g9,mD,IM⟩,cK,cX,bD,e4,jr⟩
def Xb(A:World)(s:af):Prop:=(s.len≤s.cap∧s.cap≤9223372036854775807)∧∃ xs,(∀ x∈xs,we A x)∧dd (B .i64) s xs fun e=>A.heap[e]?
theorem aEs:qX enc Pg A base spare held 32 X (Xb A):=RQ Tryz.underlying32 (show Tryz.prog.cellsOf 2=1 by kernel_rfl) (by decide) (fun _=>rfl) Lo
def Xc(A:World)(s:af):Prop:=(s.len≤s.cap∧s.cap≤9223372036854775807)∧∃ xs,(∀ x∈xs,rQ A x)∧dd (B .i64) s xs fun e=>A.heap[e]?
theorem aEt:qX enc Pg A base spare held 33 X (Xc A):=RQ Tryz.underlying33 (show Tryz.prog.cellsOf 3=1 by kernel_rfl) (by decide) (fun _=>rfl) Ax
def F6(A:World)(x:oB):Prop:=rQ A x.Kind∧rQ A x.aQ∧rQ A x.aV∧we A x.b∧Xa A x.cm∧Xb A x.N∧Xc A x.gO
theorem acI:qX enc Pg A base spare held 35 h1 (F6 A):=by
 refine RP Tryz.underlying35 (show Tryz.prog.cellsOf 35=10 by kernel_rfl) fun bd al am=>?_;obtain⟨abX,bH,ah⟩:=am 0 0 3 1 ⟨_,rfl,rfl,rfl⟩ (by kernel_rfl);obtain⟨hO,hU,cX⟩:=Ax _ _ _ ah;obtain⟨hp,cp,I⟩:=am 1 1 3 1 ⟨_,rfl,rfl,rfl⟩ (by kernel_rfl);obtain⟨g9,aS,bD⟩:=Ax _ _ _ I;obtain⟨j_,fE,R⟩:=am 2 2 3 1 ⟨_,rfl,rfl,rfl⟩ (by kernel_rfl);obtain⟨mD,bb,e4⟩:=Ax _ _ _ R;obtain⟨jW,ej,aK⟩:=am 3 3 2 1 ⟨_,rfl,rfl,rfl⟩ (by kernel_rfl);obtain⟨IM,dn,jr⟩:=Lo _ _ _ aK;obtain⟨abY,dk,bp⟩:=am 4 4 31 4 ⟨_,rfl,rfl,rfl⟩ (by kernel_rfl);obtain⟨aJv,nb,nI⟩:=aEr _ _ _ bp;obtain⟨jI,dQ,dz⟩:=am 5 8 32 1 ⟨_,rfl,rfl,rfl⟩ (by kernel_rfl);obtain⟨aJw,re,BL⟩:=aEs _ _ _ dz;obtain⟨Rj,b_,iG⟩:=am 6 9 33 1 ⟨_,rfl,rfl,rfl⟩ (by kernel_rfl);obtain⟨aJx,x4,BM⟩:=aEt _ _ _ iG
 have cK:=rb (G:=0) (k:=1) hU (rb (G:=1) (k:=1) aS (rb (G:=2) (k:=1) bb (rb (G:=3) (k:=1) dn (rb (G:=4) (k:=4) nb (rb (G:=8) (k:=1) re (rb (G:=9) (k:=1) x4 (OQ al)))))));exact⟨⟨hO,g9,mD,IM,aJv,aJw,aJx⟩,cK,cX,bD,e4,jr,nI,BL,BM⟩
def tC(A:World)(s:af):Prop:=(s.len≤s.cap∧s.cap≤9223372036854775807)∧∃ xs,(∀ x∈xs,F6 A x)∧dd h1 s xs fun e=>A.heap[e]?
theorem H3:qX enc Pg A base spare held 25 X (tC A):=RQ Tryz.underlying25 (show Tryz.prog.cellsOf 35=10 by kernel_rfl) (by decide) (fun _=>rfl) acI
end
end
namespace Num
open bj
theorem amo(o:Nat):o+(decide ((8:Nat)<2*0)||(8:Nat)==2*0&&o%2==1).toNat=o:=by simp
theorem apn{f:Nat}(h:jo f):(9007199254740992≤f→f≠9223372036854775808→oa f=f-4503599627370496)∧(f<9007199254740992→oa f≤4503599627370496)∧(f=9223372036854775808→oa f=9223372036854775808):=by
 have bb:Ieee.double.read 4611686018427387904=.number false 4503599627370496 (-51):=by decide
 have aM:(4503599627370496:Nat).log2=52:=by decide
 rcases h with rfl | h
 ·refine⟨fun _ h=>absurd rfl h,fun h=>by omega,fun _=>?_⟩;have l:Ieee.double.read 9223372036854775808=.number true 0 (-1074):=by decide
  unfold oa Ieee.Format.div;rw[bb,l];decide
 ·by_cases f0:f=0
  ·subst f0;refine⟨fun h=>by omega,fun _=>?_,fun h=>by cases h⟩;have l:oa 0=0:=by unfold oa; decide
   rw[l]; omega
  have key:∃ z,Ieee.double.div f 4611686018427387904=some z∧(9007199254740992≤f→z=f-4503599627370496)∧(f<9007199254740992→z≤4503599627370496):=by
   unfold Ieee.Format.div;rw[bb,oj (by omega)];simp only[Ieee.Datum.quotient];rw[if_neg (by omega),aM,D4];simp only[Option.map_some];refine⟨_,rfl,?_⟩;obtain⟨I,R,aK⟩:=K0 f;have apQ:fy f≤1015:=by unfold fy; split<;>omega
   have apR:f<9007199254740992→fy f=0:=by intro am; unfold fy; split<;>omega
   have apP:9007199254740992≤f→1≤fy f:=by intro am; unfold fy; split<;>omega
   generalize kL f=o at *;generalize fy f=l at *;have hm:o≠0:=by
    intro hm;subst hm;by_cases he:0<l
    ·have:=aK he; omega
    ·have:l=0:=by omega
     subst this;omega
   have wQ:o.log2≤52:=by
    have:o.log2<53:=(Nat.log2_lt hm).2 (by omega);omega
   have Km:52+2+52-o.log2=52+(54-o.log2):=by omega
   have qo:o <<< (52+2+52-o.log2)=o*2^(54-o.log2)*4503599627370496:=by
    rw[Km,Nat.shiftLeft_eq,Nat.pow_add,show (2:Nat)^52=4503599627370496 by decide,Nat.mul_assoc,Nat.mul_comm (2^(54-o.log2))]
   rw[qo,Nat.mul_div_cancel _ (by omega),Nat.mul_mod_left];have dI:o*2^(54-o.log2)<36028797018963968:=by
    have dz:o<2^(o.log2+1):=Nat.lt_log2_self;have iG:o*2^(54-o.log2)<2^(o.log2+1)*2^(54-o.log2):=(Nat.mul_lt_mul_right (Nat.two_pow_pos _)).2 dz;rw[← Nat.pow_add,show o.log2+1+(54-o.log2)=55 by omega] at iG;have:(2:Nat)^55=36028797018963968:=by decide
    omega
   have PX:18014398509481984≤o*2^(54-o.log2):=by
    have dz:2^o.log2≤o:=Nat.log2_self_le hm;have iG:2^o.log2*2^(54-o.log2)≤o*2^(54-o.log2):=Nat.mul_le_mul_right _ dz;rw[← Nat.pow_add,show o.log2+(54-o.log2)=54 by omega] at iG;have:(2:Nat)^54=18014398509481984:=by decide
    omega
   have J8:∀ K,K=56-o.log2→2*(o*2^(54-o.log2))/2^K=o/2:=by
    intro K ai;subst ai;rw[show 56-o.log2=(54-o.log2)+1+1 from by omega,Nat.pow_succ,Nat.pow_succ];have O:0<2^(54-o.log2):=Nat.two_pow_pos _;generalize 2^(54-o.log2)=g at *;rw[show 2*(o*g)=(2*o)*g from (Nat.mul_assoc ..).symm,show g*2*2=4*g from by omega,Nat.mul_div_mul_right _ _ O];omega
   have aqW:1≤l→o.log2=52:=by
    intro he;have dz:=aK (by omega);have:52≤o.log2:=(Nat.le_log2 hm).2 (by (have:(2:Nat)^52=4503599627370496:=by decide); omega);omega
   have Py:o.log2=52→o*2^(54-o.log2)=o*4:=by intro h; rw[h]
   generalize al:o.log2=N at *;generalize ao3:o*2^(54-N)=cm at *;show (_→Ieee.Format.nearest Ieee.double (false ^^ false) (2*cm+((0:Nat)!=0).toNat) _=_)∧(_→Ieee.Format.nearest Ieee.double (false ^^ false) (2*cm+((0:Nat)!=0).toNat) _≤_)
   rw[show ((0:Nat)!=0).toNat=0 from rfl,Nat.add_zero];unfold Ieee.Format.nearest;rw[if_neg (by omega)];have pU:(2*cm).log2=55:=(Nat.log2_eq_iff (by omega)).2 ⟨by omega,by omega⟩;rw[pU,Ar,D4,zS,Ak];generalize aF:(-1074+(l:Int) - -51-((52+2+52-N:Nat):Int)-1)=P;simp only;have El:max (P+((55:Nat):Int)-((52:Nat):Int)) (-1074)=max (P+3) (-1074):=by omega
   rw[El];have z8:(P-max (P+3) (-1074)).toNat=0:=by omega
   rw[z8,Nat.shiftLeft_zero];have tZ:∀ e:Bool,e.toNat≤1:=fun e=>by cases e<;>decide
   refine⟨fun am=>?_,fun am=>?_⟩
   ·have he:=apP am;have kX:=aqW he;subst kX;have Py:=Py rfl;have P6:max (P+3) (-1074)=P+3:=by omega
    rw[P6,show (P+3-P).toNat=3 from by omega,show (P+3 - -1074).toNat=l-1 from by omega];have U:Ieee.Toward.cut .even (false ^^ false) (2*cm) 3=o:=by
     unfold Ieee.Toward.cut;rw[pU];have G2:1 <<< min 3 (55+2)=8:=by decide
     rw[G2];simp only;have lY:2*cm/8=o:=by omega
     have a1:2*cm%8=0:=by omega
     rw[lY,a1];exact amo o
    rw[U];unfold Ieee.Format.word;rw[if_neg (by simp)];have:(l-1)*4503599627370496+o≤9218868437227405312:=by
     have:(l-1)*4503599627370496≤1014*4503599627370496:=Nat.mul_le_mul_right _ (by omega);exact Nat.le_trans (Nat.add_le_add this (Nat.le_of_lt R)) (by decide)
    rw[Nat.min_eq_left this,← I];clear qo J8 ao3 pU El tZ dI PX Py aF Km U;obtain⟨d,rfl⟩:∃ d,l=d+1:=⟨l-1,by omega⟩
    rw[Nat.add_sub_cancel,Nat.add_mul];omega
   ·have he:=apR am;have P6:max (P+3) (-1074)=-1074:=by omega
    rw[P6,show (-1074 - -1074:Int).toNat=0 from by omega];have ai:(-1074-P).toNat=56-N:=by omega
    rw[ai];have U:Ieee.Toward.cut .even (false ^^ false) (2*cm) (56-N)≤4503599627370496:=by
     unfold Ieee.Toward.cut;rw[pU];have G2:1 <<< min (56-N) (55+2)=2^(56-N):=by rw[Nat.shiftLeft_eq,Nat.one_mul,Nat.min_eq_left (by omega)]
     rw[G2];simp only;have s0:=J8 (56-N) rfl;refine Nat.le_trans (Nat.add_le_add (Nat.le_of_eq s0) (tZ _)) ?_;omega
    unfold Ieee.Format.word;rw[if_neg (by simp)];refine Nat.le_trans (Nat.min_le_left _ _) ?_;omega
  obtain⟨z,I,R,aK⟩:=key;have bN:oa f=z:=congrArg (fun G:Option Nat=>G.getD 0) I;rw[bN];exact⟨fun a _=>R a,aK,fun l=>by omega⟩
def sY(f:Nat):Prop:=f<4503599627370496∨f=9223372036854775808
instance (f:Nat):Decidable (sY f):=by unfold sY; infer_instance
def og(f:Nat):Nat:=4503599627370496+f%4503599627370496
def lE(f:Nat):Nat:=1075-f/4503599627370496
def wq(f:Nat)(T W:Nat):Prop:=if sY f then W=0 else 2*2^lE f*W≤T*og f
theorem Pa(d:Nat)(f:Nat):ko d f=if sY f then 0 else ((d*og f/2^lE f:Nat):Int):=by
 unfold ko sY og lE;rw[Int.toNat_natCast]
theorem aHD{d h:Nat}(ag:d≤1048576)(cK:h≤4503599627370496):ko d h=0:=by
 rw[Pa];split
 ·rfl
 ·rename_i am;unfold sY at am;have l:h=4503599627370496:=by omega
  subst l;have aS:og 4503599627370496=2^52:=by decide
  have bb:lE 4503599627370496=1074:=by decide
  rw[aS,bb];have I:d*2^52<2^1074:=by
   have R:d*2^52≤2^20*2^52:=Nat.mul_le_mul_right _ (by simpa using ag);rw[← Nat.pow_add] at R;exact Nat.lt_of_le_of_lt R (Nat.pow_lt_pow_right (by omega) (by omega))
  rw[Nat.div_eq_of_lt I];rfl
theorem aHB{f d s:Nat}(h:jo f)(ag:d≤1048576)(aH:(s:Int)≤ko d (oa f)):if sY f then s=0 else 2*2^lE f*s≤d*og f:=by
 obtain⟨I,R,aK⟩:=apn h;by_cases c:9007199254740992≤f∧f≠9223372036854775808
 ·have am:¬ sY f:=by unfold sY; omega
  rw[if_neg am];rw[I c.1 c.2,Pa] at aH;have apS:f≤4576918229304087675:=by rcases h with h | h<;>omega
  have aq6:¬ sY (f-4503599627370496):=by unfold sY; omega
  rw[if_neg aq6] at aH;have aS:og (f-4503599627370496)=og f:=by unfold og; omega
  have bb:lE (f-4503599627370496)=lE f+1:=by unfold lE; omega
  rw[aS,bb,Nat.pow_succ] at aH;have aH:s≤d*og f/(2^lE f*2):=by omega
  have aF:0<2^lE f*2:=by have:=Nat.two_pow_pos (lE f); omega
  have dz:=(Nat.le_div_iff_mul_le aF).1 aH;rw[Nat.mul_comm s,Nat.mul_comm (2^lE f) 2] at dz;exact dz
 ·have bN:ko d (oa f)=0:=by
   by_cases l:f=9223372036854775808
   ·rw[aK l,Pa,if_pos (.inr rfl)]
   ·exact aHD ag (R (by omega))
  rw[bN] at aH;have:s=0:=by omega
  subst this;split
  ·rfl
  ·simp
theorem wq.add{f T W d s:Nat}(h:jo f)(ff:wq f T W)(ag:d≤1048576)(aH:(s:Int)≤ko d (oa f)):wq f (T+d) (W+s):=by
 have I:=aHB h ag aH;unfold wq at *;split
 ·rename_i c;rw[if_pos c] at I ff;omega
 ·rename_i c;rw[if_neg c] at I ff;rw[Nat.mul_add,Nat.add_mul];exact Nat.add_le_add ff I
theorem aHC(f T:Nat):wq f T 0:=by
 unfold wq;split
 ·rfl
 ·simp
theorem wq.within{f T W j:Nat}(h:jo f)(ff:wq f T W)(jE:T≤j+W):(W:Int)≤pM j f∧2*W≤T:=by
 unfold wq at ff;by_cases c:sY f
 ·rw[if_pos c] at ff;subst ff;have:=(JC (n:=(j:Int)) (f:=f) (by omega) h.eR).1;exact⟨this,by omega⟩
 ·rw[if_neg c] at ff;have apS:4503599627370496≤f∧f≤4576918229304087675:=by
   unfold sY at c;rcases h with h | h<;>omega
  have hm:og f≤2^lE f:=by
   have I:og f≤2^53:=by
    have:(2:Nat)^53=9007199254740992:=by decide
    unfold og; omega
   have R:(2:Nat)^53≤2^lE f:=Nat.pow_le_pow_right (by omega) (by unfold lE; omega);omega
  have aF:0<2^lE f:=Nat.two_pow_pos _;have aoJ:2*W≤T:=by
   have I:2*2^lE f*W≤T*2^lE f:=Nat.le_trans ff (Nat.mul_le_mul_left _ hm);have R:(2*W)*2^lE f≤T*2^lE f:=by rw[Nat.mul_right_comm] at I; exact I
   exact Nat.le_of_mul_le_mul_right R aF
  have ao1:T≤2*j:=by omega
  have aK:2*(W*2^lE f)≤2*(j*og f):=by
   have I:T*og f≤2*j*og f:=Nat.mul_le_mul_right _ ao1;have R:2*(W*2^lE f)=2*2^lE f*W:=by rw[Nat.mul_comm W,Nat.mul_assoc]
   have bp:2*j*og f=2*(j*og f):=Nat.mul_assoc ..;omega
  have dz:W≤j*og f/2^lE f:=(Nat.le_div_iff_mul_le aF).2 (by omega);refine⟨?_,aoJ⟩;unfold pM;by_cases cz:f=0∨f=9223372036854775808∨(j:Int)=0
  ·rw[if_pos cz];have:j=0:=by omega
   subst this;have:W=0:=by omega
   subst this;exact Int.le_refl 0
  ·rw[if_neg cz,if_neg (by omega),Int.toNat_natCast];show (W:Int)≤((j*og f/2^lE f:Nat):Int)+_
   have:(W:Int)≤((j*og f/2^lE f:Nat):Int):=by omega
   split<;>omega
end Num
end Go.Proofs.YthaobmpdjcoheaaGreat
