/- Own texts of this claim, part 11: short, merged. -/
import Derived.Test.YtnmmjkjkkmbhiaaGreatRows
import Derived.OpenShut
import Derived.ShutString
import Derived.ChangeOld
import Derived.Laws.Cover2
import Derived.Test.YtnmmjkjkkmbhiaaGreatZ2
import Derived.Test.YtnmmjkjkkmbhiaaGreatZ3
import Derived.Test.YtnmmjkjkkmbhiaaGreatZ4
import Derived.Test.YtnmmjkjkkmbhiaaGreatZ5
import Derived.Test.YtnmmjkjkkmbhiaaGreatZ6
import Derived.Test.YtnmmjkjkkmbhiaaGreatZ7
import Derived.Test.YtnmmjkjkkmbhiaaGreatZ8
import Derived.Test.YtnmmjkjkkmbhiaaGreatZ9
import Derived.Test.YtnmmjkjkkmbhiaaGreatZ10
set_option exponentiation.threshold 4000
set_option maxRecDepth 100000
set_option maxHeartbeats 40000000
set_option linter.defProp false
set_option linter.unusedVariables false
set_option linter.unusedSimpArgs false
namespace Go.Proofs.YtnmmjkjkkmbhiaaGreat
namespace Wire
open ba
abbrev dp:=ib
def isNaN(b:Nat):Bool:=decide (18437736874454810624<2*b%18446744073709551616)
def k4(b:Nat):Nat:=if isNaN b then 9221120237041090561 else b
theorem ag1(b:Nat):k4 (k4 b)=k4 b:=by
 unfold k4;cases h:isNaN b
 ·simp[h]
 ·have:isNaN 9221120237041090561=true:=by decide
  simp[this]
theorem S9{b:Nat}(h:b<18446744073709551616):k4 b<18446744073709551616:=by unfold k4; split<;>omega
theorem xS:k4 0=0:=by decide
def num(n:Nat):List UInt8:=if n<128 then [UInt8.ofNat n] else UInt8.ofNat (128+n%128)::num (n/128)
termination_by n
decreasing_by omega
theorem Gd{n:Nat}(h:n<128):num n=[UInt8.ofNat n]:=by rw[num,if_pos h]
theorem Gc{n:Nat}(h:128≤n):num n=UInt8.ofNat (128+n%128)::num (n/128):=by rw[num,if_neg (by omega)]
def rdNum:List UInt8→Nat→Nat→Except Int (Nat×List UInt8)
 |[],_,_=>.error 22
 |o::az,k,acc=>
  if (k=9∧1<o.toNat)∨(0<k∧o.toNat=0) then .error 23
  else if o.toNat<128 then .ok (acc+o.toNat%128*128^k,az)
  else rdNum az (k+1) (acc+o.toNat%128*128^k)
theorem w7{n:Nat}(h:n<256):(UInt8.ofNat n).toNat=n:=by simp; omega
theorem WC{k:Nat}(h:k≤9):128^k=1∨128^k=128∨128^k=16384∨128^k=2097152∨128^k=268435456∨128^k=34359738368∨128^k=4398046511104∨128^k=562949953421312∨128^k=72057594037927936∨k=9∧128^k=9223372036854775808:=by
 have:k=0∨k=1∨k=2∨k=3∨k=4∨k=5∨k=6∨k=7∨k=8∨k=9:=by omega
 rcases this with rfl | rfl | rfl | rfl | rfl | rfl | rfl | rfl | rfl | rfl<;>simp
theorem avV{k:Nat}(h:k≤8):128^k=1∨128^k=128∨128^k=16384∨128^k=2097152∨128^k=268435456∨128^k=34359738368∨128^k=4398046511104∨128^k=562949953421312∨128^k=72057594037927936:=by
 have:k=0∨k=1∨k=2∨k=3∨k=4∨k=5∨k=6∨k=7∨k=8:=by omega
 rcases this with rfl | rfl | rfl | rfl | rfl | rfl | rfl | rfl | rfl<;>simp
theorem pa{n k:Nat}(al:k≤9)(aO:n*128^k<18446744073709551616)(h:k=9):n<2:=by
 subst h;simp at aO; omega
theorem axx:∀ (n k acc:Nat) (rest:List UInt8),k≤9→n*128^k<18446744073709551616→(1≤n∨k=0)→rdNum (num n++rest) k acc=.ok (acc+n*128^k,rest):=by
 intro n;induction n using Nat.strongRecOn with
 |_ n b8=>
  intro k acc rest al aO am;by_cases h:n<128
  ·rw[Gd h];have ak:(UInt8.ofNat n).toNat=n:=w7 (by omega);simp only[List.cons_append,List.nil_append,rdNum,ak];rw[if_neg (by rintro (⟨B,J⟩ | ⟨B,J⟩); (have:=pa al aO B; omega); (omega)),if_pos h,Nat.mod_eq_of_lt h]
  ·have wj:k≤8:=by
    rcases Nat.lt_or_ge 8 k with uI | uI
    ·have:=pa al aO (by omega); omega
    ·exact uI
   rw[Gc (by omega)];have ak:(UInt8.ofNat (128+n%128)).toNat=128+n%128:=w7 (by omega);simp only[List.cons_append,rdNum,ak];rw[if_neg (by omega),if_neg (by omega)];have aH:(128:Nat)^(k+1)=128^k*128:=Nat.pow_succ ..;have hm:n*128^k=n/128*128^(k+1)+n%128*128^k:=by
    rw[aH,Nat.mul_comm (128^k) 128,← Nat.mul_assoc,← Nat.add_mul];congr 1; omega
   have e:(128+n%128)%128=n%128:=by omega
   rw[b8 (n/128) (by omega) (k+1) _ rest (by omega) (by omega) (by omega),e];congr 2; omega
theorem fit{k m o:Nat}(h:k≤8)(hm:m*(128^k*128)<18446744073709551616)(W:o<128^k*128):m*(128^k*128)+o<18446744073709551616:=by
 have G:∃ ah,ah*(128^k*128)=18446744073709551616:=by
  refine⟨18446744073709551616/(128^k*128),?_⟩;rcases avV h with e | e | e | e | e | e | e | e | e<;>rw[e]
 obtain⟨ah,G⟩:=G;rw[← G] at hm ⊢;generalize 128^k*128=p at *;have B:m<ah:=Nat.lt_of_mul_lt_mul_right hm;have J:(m+1)*p≤ah*p:=Nat.mul_le_mul_right _ B;rw[Nat.add_mul,Nat.one_mul] at J;omega
theorem X_:∀ (az:List UInt8) (k acc n:Nat) (rest:List UInt8),k≤9→rdNum az k acc=.ok (n,rest)→∃ m,n=acc+m*128^k∧m*128^k<18446744073709551616∧(1≤m∨k=0)∧az=num m++rest
 |[],k,acc,n,rest,al,h=>by simp[rdNum] at h
 |o::az,k,acc,n,rest,al,h=>by
  simp only[rdNum] at h;split at h
  ·cases h
  ·rename_i B;have W:o.toNat<256:=o.toNat_lt;split at h
   ·rename_i J;simp only[Except.ok.injEq,Prod.mk.injEq] at h;obtain⟨rfl,rfl⟩:=h;refine⟨o.toNat,by rw[Nat.mod_eq_of_lt J],?_,by omega,?_⟩
    ·rcases WC al with e | e | e | e | e | e | e | e | e | ⟨BX,e⟩<;>rw[e]<;>omega
    ·rw[Gd J]; simp
   ·rename_i J;have wj:k≤8:=by omega
    obtain⟨m,aT,a0,cS,j9⟩:=X_ az (k+1) _ n rest (by omega) h;have aH:(128:Nat)^(k+1)=128^k*128:=Nat.pow_succ ..;have hm:(m*128+o.toNat%128)*128^k=m*128^(k+1)+o.toNat%128*128^k:=by
     rw[aH,Nat.mul_comm (128^k) 128,← Nat.mul_assoc,← Nat.add_mul]
    refine⟨m*128+o.toNat%128,by rw[hm,aT]; omega,?_,by omega,?_⟩
    ·rw[hm,aH];rw[aH] at a0;exact fit wj a0 (by rw[Nat.mul_comm]; exact Nat.mul_lt_mul_of_pos_left (by omega) (Nat.pow_pos (by omega)))
    ·rw[Gc (by omega),j9];have qG:128+(m*128+o.toNat%128)%128=o.toNat:=by omega
     have l2:(m*128+o.toNat%128)/128=m:=by omega
     rw[qG,l2]; simp
theorem auZ:∀ (n k:Nat),k≤9→n*128^k<18446744073709551616→(num n).length+k≤10:=by
 intro n;induction n using Nat.strongRecOn with
 |_ n b8=>
  intro k al aO;by_cases h:n<128
  ·rw[Gd h]; simp; omega
  ·have wj:k≤8:=by
    rcases Nat.lt_or_ge 8 k with uI | uI
    ·have:=pa al aO (by omega); omega
    ·exact uI
   rw[Gc (by omega)];have aH:(128:Nat)^(k+1)=128^k*128:=Nat.pow_succ ..;have hm:n*128^k=n/128*128^(k+1)+n%128*128^k:=by
    rw[aH,Nat.mul_comm (128^k) 128,← Nat.mul_assoc,← Nat.add_mul];congr 1; omega
   have:=b8 (n/128) (by omega) (k+1) (by omega) (by omega);simp only[List.length_cons]; omega
def be:Nat→Nat→List UInt8
 |0,_=>[]
 |i+1,n=>UInt8.ofNat (n/256^i%256)::be i n
theorem rW:∀ i n,(be i n).length=i
 |0,_=>rfl
 |i+1,n=>by simp[be,rW i n]
def mA:Nat→Nat→List UInt8→Except Int (Nat×List UInt8)
 |0,acc,az=>.ok (acc,az)
 |_+1,_,[]=>.error 22
 |i+1,acc,o::az=>mA i (acc*256+o.toNat) az
theorem auF(n i:Nat):n%256^(i+1)=n/256^i%256*256^i+n%256^i:=by
 rw[Nat.pow_succ,Nat.mod_mul,Nat.mul_comm (256^i),Nat.add_comm]
theorem X7:∀ (i acc n:Nat) (rest:List UInt8),mA i acc (be i n++rest)=.ok (acc*256^i+n%256^i,rest)
 |0,acc,n,rest=>by simp[be,mA,Nat.mod_one]
 |i+1,acc,n,rest=>by
  have ak:(UInt8.ofNat (n/256^i%256)).toNat=n/256^i%256:=w7 (by omega);simp only[be,List.cons_append,mA,ak,X7 i];rw[auF,Nat.pow_succ,Nat.mul_comm (256^i) 256,← Nat.mul_assoc,Nat.add_mul];congr 2; omega
theorem Sd(q:Nat):∀ (i n l:Nat),i≤l→be i (q*256^l+n)=be i n
 |0,_,_,_=>rfl
 |i+1,n,l,h=>by
  simp only[be];have e:(q*256^l+n)/256^i%256=n/256^i%256:=by
   have aH:(256:Nat)^l=256^i*(256*256^(l-i-1)):=by
    rw[← Nat.mul_assoc,← Nat.pow_succ,← Nat.pow_add]; congr 1; omega
   have am:0<256^i:=Nat.pow_pos (by omega);rw[aH];have a0:q*(256^i*(256*256^(l-i-1)))+n=n+256^i*(q*256^(l-i-1)*256):=by
    rw[Nat.add_comm]; congr 1;rw[Nat.mul_left_comm,Nat.mul_comm 256,Nat.mul_assoc]
   rw[a0,Nat.add_mul_div_left _ _ am,Nat.add_mul_mod_self_right]
  rw[e,Sd q i n l (by omega)]
theorem X9:∀ (i acc m:Nat) (az rest:List UInt8),mA i acc az=.ok (m,rest)→∃ n,n<256^i∧m=acc*256^i+n∧az=be i n++rest
 |0,acc,m,az,rest,h=>by
  simp only[mA,Except.ok.injEq,Prod.mk.injEq] at h;exact⟨0,by simp,by simp[h.1],by simp[be,h.2]⟩
 |i+1,acc,m,[],rest,h=>by simp[mA] at h
 |i+1,acc,m,o::az,rest,h=>by
  have W:o.toNat<256:=o.toNat_lt;obtain⟨n,B,J,au⟩:=X9 i _ m az rest h;have am:0<256^i:=Nat.pow_pos (by omega);refine⟨o.toNat*256^i+n,?_,?_,?_⟩
  ·rw[Nat.pow_succ,Nat.mul_comm (256^i)];have:(o.toNat+1)*256^i≤256*256^i:=Nat.mul_le_mul_right _ (by omega);rw[Nat.add_mul] at this; omega
  ·rw[J,Nat.pow_succ,Nat.mul_comm (256^i) 256,← Nat.mul_assoc,Nat.add_mul]; omega
  ·have aT:(o.toNat*256^i+n)/256^i=o.toNat:=by
    rw[Nat.add_comm,Nat.add_mul_div_right _ _ am,Nat.div_eq_of_lt B]; omega
   simp only[be,aT,Sd o.toNat i n i (Nat.le_refl i),List.cons_append,au,Nat.mod_eq_of_lt W];simp
def rL(i:Int):Nat:=if i<0 then 2*(-(i+1)).toNat+1 else 2*i.toNat
def rK(n:Nat):Int:=if n%2=1 then -((n/2:Nat):Int)-1 else (n/2:Nat)
theorem aAh(i:Int):rK (rL i)=i:=by
 unfold rK rL;split<;>split<;>omega
theorem aAk(n:Nat):rL (rK n)=n:=by
 unfold rK rL;split<;>split<;>omega
theorem HE{i:Int}(am:-9223372036854775808≤i)(B:i≤9223372036854775807):rL i<18446744073709551616:=by
 unfold rL; split<;>omega
theorem Z2{n:Nat}(h:n<18446744073709551616):-9223372036854775808≤rK n∧rK n≤9223372036854775807:=by
 unfold rK; split<;>omega
structure In(v:dp):Prop where
 yn:-9223372036854775808≤v.Kind
 fj:v.Kind≤9223372036854775807
 DS:0≤v.cc
 NY:v.cc<18446744073709551616
 i0:-9223372036854775808≤v.aG
 i1:v.aG≤9223372036854775807
 f:v.aD<18446744073709551616
def mw(v:dp):Bool:=
 if v.Kind=1 then (v.aG==0&&v.aD==0)&&v.ad==[]
 else if v.Kind=2 then (v.cc==0&&v.aD==0)&&v.ad==[]
 else if v.Kind=3 then (v.cc==0&&v.aG==0)&&v.ad==[]
 else if v.Kind=4 then (v.cc==0&&v.aG==0)&&v.aD==0
 else false
def hH(v:dp):Int:=if mw v=false then 21 else if v.ad.length>1000 then 24 else 0
def hE(v:dp):List UInt8:=UInt8.ofNat v.Kind.toNat ::
 (if v.Kind=1 then num v.cc.toNat else if v.Kind=2 then num (rL v.aG) else if v.Kind=3 then be 8 (k4 v.aD) else num v.ad.length++v.ad)
def mR(v:dp):dp:={ v with aD:=k4 v.aD }
def jr:List UInt8→Except Int (dp×List UInt8)
 |[]=>.error 22
 |o::az=>
  if o.toNat=1 then match rdNum az 0 0 with
   |.error e=>.error e
   |.ok (n,r)=>.ok (⟨1,n,0,0,[]⟩,r)
  else if o.toNat=2 then match rdNum az 0 0 with
   |.error e=>.error e
   |.ok (n,r)=>.ok (⟨2,0,rK n,0,[]⟩,r)
  else if o.toNat=3 then match mA 8 0 az with
   |.error e=>.error e
   |.ok (n,r)=>if k4 n≠n then .error 25 else .ok (⟨3,0,0,n,[]⟩,r)
  else if o.toNat=4 then match rdNum az 0 0 with
   |.error e=>.error e
   |.ok (n,r)=>if 1000<n then .error 24 else if r.length<n then .error 22 else .ok (⟨4,0,0,0,r.take n⟩,r.drop n)
  else .error 21
theorem Dd{v:dp}(h:hH v=0):(v.Kind=1∧v.aG=0∧v.aD=0∧v.ad=[])∨(v.Kind=2∧v.cc=0∧v.aD=0∧v.ad=[])∨(v.Kind=3∧v.cc=0∧v.aG=0∧v.ad=[])∨(v.Kind=4∧v.cc=0∧v.aG=0∧v.aD=0∧v.ad.length≤1000):=by
 unfold hH at h;split at h
 ·simp at h
 ·rename_i aH;split at h
  ·simp at h
  ·rename_i aj;unfold mw at aH;split at aH
   ·simp at aH; exact .inl ⟨by assumption,aH.1,aH.2.1,aH.2.2⟩
   ·split at aH
    ·simp at aH; exact .inr (.inl ⟨by assumption,aH.1,aH.2.1,aH.2.2⟩)
    ·split at aH
     ·simp at aH; exact .inr (.inr (.inl ⟨by assumption,aH.1,aH.2.1,aH.2.2⟩))
     ·split at aH
      ·simp at aH; exact .inr (.inr (.inr ⟨by assumption,aH.1,aH.2.1,aH.2.2,by omega⟩))
      ·simp at aH
theorem Nz{n:Nat}(h:n<18446744073709551616)(rest:List UInt8):rdNum (num n++rest) 0 0=.ok (n,rest):=by
 have:=axx n 0 0 rest (by omega) (by simpa using h) (.inr rfl);simpa using this
theorem aft{v:dp}(aq:In v)(h:hH v=0)(rest:List UInt8):jr (hE v++rest)=.ok (mR v,rest):=by
 obtain⟨k,u,i,f,s⟩:=v;rcases Dd h with ⟨B,J,au,a8⟩ | ⟨B,J,au,a8⟩ | ⟨B,J,au,a8⟩ | ⟨B,J,au,a8,b_⟩
 all_goals simp only at B J au a8
 ·subst B; subst J; subst au; subst a8;have hu:=aq.NY; have Uh:=aq.DS;simp only at hu Uh;have e:rdNum (num u.toNat++rest) 0 0=.ok (u.toNat,rest):=Nz (by omega) rest;have a0:((u.toNat:Nat):Int)=u:=by omega
  simp[hE,jr,e,mR,xS,a0]
 ·subst B; subst J; subst au; subst a8;have e:rdNum (num (rL i)++rest) 0 0=.ok (rL i,rest):=Nz (HE aq.i0 aq.i1) rest;simp[hE,jr,e,mR,xS,aAh]
 ·subst B; subst J; subst au; subst a8;have e:mA 8 0 (be 8 (k4 f)++rest)=.ok (k4 f,rest):=by
   have:=S9 aq.f;rw[X7,Nat.mod_eq_of_lt (by simpa using this)]; simp
  simp[hE,jr,e,mR,ag1]
 ·subst B; subst J; subst au; subst a8;simp only at b_;have e:rdNum (num s.length++(s++rest)) 0 0=.ok (s.length,s++rest):=Nz (by omega) _;simp[hE,jr,e,mR,xS];rw[if_neg (by omega),if_neg (by omega)]
theorem yz{n:Nat}(h:n<18446744073709551616):(num n).length≤10:=by
 have:=auZ n 0 (by omega) (by simpa using h); omega
theorem GN{az rest:List UInt8}{n:Nat}(h:rdNum az 0 0=.ok (n,rest)):n<18446744073709551616∧az=num n++rest:=by
 obtain⟨m,B,J,_,au⟩:=X_ az 0 0 n rest (by omega) h;have:n=m:=by simpa using B
 subst this;exact⟨by simpa using J,au⟩
theorem SC{az rest:List UInt8}{v:dp}(h:jr az=.ok (v,rest)):In v∧hH v=0∧mR v=v∧az=hE v++rest:=by
 cases az with
 |nil=>simp[jr] at h
 |cons o az=>
  simp only[jr] at h;split at h
  ·rename_i W;split at h
   ·cases h
   ·rename_i n r Z;simp only[Except.ok.injEq,Prod.mk.injEq] at h;obtain⟨rfl,rfl⟩:=h;obtain⟨B,rfl⟩:=GN Z;refine⟨⟨by simp,by simp,by simp,by simp only; omega,by simp,by simp,by simp⟩,by simp[hH,mw],by simp[mR,xS],?_⟩;obtain rfl:o=1:=UInt8.toNat_inj.1 W;simp[hE]
  ·split at h
   ·rename_i W;split at h
    ·cases h
    ·rename_i n r Z;simp only[Except.ok.injEq,Prod.mk.injEq] at h;obtain⟨rfl,rfl⟩:=h;obtain⟨B,rfl⟩:=GN Z;refine⟨⟨by simp,by simp,by simp,by simp,(Z2 B).1,(Z2 B).2,by simp⟩,by simp[hH,mw],by simp[mR,xS],?_⟩;obtain rfl:o=2:=UInt8.toNat_inj.1 W;simp[hE,aAk]
   ·split at h
    ·rename_i W;split at h
     ·cases h
     ·rename_i n r Z;split at h
      ·cases h
      ·rename_i ap;simp only[Except.ok.injEq,Prod.mk.injEq] at h;obtain⟨rfl,rfl⟩:=h;obtain⟨m,B,J,rfl⟩:=X9 8 0 _ _ _ Z;have:n=m:=by simpa using J
       subst this;have ap:k4 n=n:=by simpa using ap
       refine⟨⟨by simp,by simp,by simp,by simp,by simp,by simp,by simpa using B⟩,by simp[hH,mw],by simp[mR,ap],?_⟩;obtain rfl:o=3:=UInt8.toNat_inj.1 W;simp[hE,ap]
    ·split at h
     ·rename_i W;split at h
      ·cases h
      ·rename_i n r Z;split at h
       ·cases h
       ·split at h
        ·cases h
        ·rename_i b_ hv;simp only[Except.ok.injEq,Prod.mk.injEq] at h;obtain⟨rfl,rfl⟩:=h;obtain⟨B,rfl⟩:=GN Z;have aj:(r.take n).length=n:=by rw[List.length_take]; omega
         refine⟨⟨by simp,by simp,by simp,by simp,by simp,by simp,by simp⟩,?_,by simp[mR,xS],?_⟩
         ·simp only[hH,mw]; simp; omega
         ·obtain rfl:o=4:=UInt8.toNat_inj.1 W;simp[hE]; rw[Nat.min_eq_left (by omega)]
     ·cases h
theorem afN{v:dp}(aq:In v)(h:hH v=0):(hE v).length≤1011:=by
 rcases Dd h with ⟨B,_⟩ | ⟨B,_⟩ | ⟨B,_⟩ | ⟨B,_,_,_,b_⟩
 ·have:=yz (n:=v.cc.toNat) (by have:=aq.NY; have:=aq.DS; omega);simp[hE,B]; omega
 ·have:=yz (HE aq.i0 aq.i1);simp[hE,B]; omega
 ·simp[hE,B,rW]
 ·have:=yz (n:=v.ad.length) (by omega);simp[hE,B]; omega
section
variable {y w:World} {c bx:List bt}
abbrev gG:=fh
theorem LR:∀ x,(gG.cells x).length=5:=fun _=>rfl
theorem MD(d:Ieee.Datum):d.order d=if d.isNaN then none else some .eq:=by
 have bF:∀ x:Int,compare x x=.eq:=fun x=>Std.ReflCmp.compare_self;have bP:∀ x:Nat,compare x x=.eq:=fun x=>Std.ReflCmp.compare_self;cases d with
 |nan s t=>rfl
 |infinity s=>simp only[Ieee.Datum.order,bP]; rfl
 |number s m i=>simp only[Ieee.Datum.order,bF]; rfl
theorem auK{f:Nat}:gS .neq f f=isNaN f:=by
 have aF:FloatKind.f64.format.signWeight=9223372036854775808:=by decide
 have Z:FloatKind.f64.format.infRung=9218868437227405312:=by decide
 have aA:FloatKind.f64.format.binade=4503599627370496:=by decide
 have e:2*f%18446744073709551616=2*(f%9223372036854775808):=by omega
 unfold gS isNaN;simp only[Ieee.Format.order,MD];rw[e];have J:(FloatKind.f64.format.read f).isNaN=decide (18437736874454810624<2*(f%9223372036854775808)):=by
  simp only[Ieee.Format.read,aF,Z,aA];by_cases B:f%9223372036854775808<4503599627370496
  ·rw[if_pos B];show false=_
   symm; rw[decide_eq_false_iff_not]; omega
  ·rw[if_neg B];by_cases J:f%9223372036854775808<9218868437227405312
   ·rw[if_pos J];show false=_
    symm; rw[decide_eq_false_iff_not]; omega
   ·rw[if_neg J];by_cases au:f%9223372036854775808=9218868437227405312
    ·rw[if_pos au];show false=_
     symm; rw[decide_eq_false_iff_not]; omega
    ·rw[if_neg au];show true=_
     symm; rw[decide_eq_true_iff]; omega
 rw[J];cases decide (18437736874454810624<2*(f%9223372036854775808))<;>rfl
theorem inf_spec{f:Nat}{s:Int}(H:E y c w):L Pg 94 [.float .f64 f,.int .i64 s] bi w fun _ I=>E y c I:=by
 refine RF ?_;unfold IQ zt;split
 ·refine O9 ?_;unfold HS;exact H
 ·split
  ·exact H
  ·exact H
theorem E4{f:Nat}(H:E y c w):L Pg 44 [.float .f64 f] (D .i64) w fun r I=>(r==0)=isNaN f∧E y c I:=by
 refine QR ?_;unfold IA;rw[auK];split
 ·rename_i h; exact⟨by rw[h]; rfl,H⟩
 ·rename_i h;have h:isNaN f=false:=by simpa using h
  rw[h];split
  ·exact⟨rfl,H⟩
  ·split
   ·exact⟨rfl,H⟩
   ·refine aE (inf_spec H) ?_;intro r w H;split
    ·exact⟨rfl,H⟩
    ·refine aE (inf_spec H) ?_;intro r w H;split
     ·exact⟨rfl,H⟩
     ·split
      ·exact⟨rfl,H⟩
      ·exact⟨rfl,H⟩
theorem Sg{f:Nat}(H:E y c w):L Pg 143 [.float .f64 f] (D .u64) w fun r I=>r=(k4 f:Nat)∧E y c I:=by
 refine aaJ ?_;unfold Po;refine aE (E4 H) ?_;rintro r w ⟨Z,H⟩;rw[Z];unfold k4;split
 ·refine aa0 ?_;unfold PE;rw[if_pos (by rfl)];exact⟨rfl,H⟩
 ·exact⟨rfl,H⟩
theorem awo{v:dp}(H:E y c w):L Pg 141 [gG.enc v] bi w fun r I=>r=mw v∧E y c I:=by
 refine aaH ?_;unfold Pm;refine cj H fun b w H=>?_;refine dH H fun w H=>?_;refine an (x:=v.cc) 0 H rfl rfl rfl ?_;refine an (x:=v.aG) 0 H rfl rfl rfl ?_;refine an (x:=v.aD) 0 H rfl rfl rfl ?_;refine an (x:=v.ad) 0 H rfl rfl rfl ?_;refine an (x:=v.Kind) 0 H rfl rfl rfl ?_;have ap:((v.aD:Int)==0)=(v.aD==0):=by rw[Bool.eq_iff_iff]; simp
 rw[ap];have H:=H.drop;by_cases B:v.Kind=1
 ·simp only[B,beq_self_eq_true,if_true,mw]; exact⟨trivial,H⟩
 ·have aT:(v.Kind==1)=false:=by simpa using B
  by_cases J:v.Kind=2
  ·simp only[J,mw,show ((2:Int)==1)=false from rfl,show ¬ (2:Int)=1 from by decide,beq_self_eq_true,if_true,if_false,Bool.false_eq_true]; exact⟨trivial,H⟩
  ·have a0:(v.Kind==2)=false:=by simpa using J
   by_cases au:v.Kind=3
   ·simp only[au,mw,show ((3:Int)==1)=false from rfl,show ((3:Int)==2)=false from rfl,show ¬ (3:Int)=1 from by decide,show ¬ (3:Int)=2 from by decide,beq_self_eq_true,if_true,if_false,Bool.false_eq_true]; exact⟨trivial,H⟩
   ·have cS:(v.Kind==3)=false:=by simpa using au
    by_cases a8:v.Kind=4
    ·simp only[a8,mw,show ((4:Int)==1)=false from rfl,show ((4:Int)==2)=false from rfl,show ((4:Int)==3)=false from rfl,show ¬ (4:Int)=1 from by decide,show ¬ (4:Int)=2 from by decide,show ¬ (4:Int)=3 from by decide,beq_self_eq_true,if_true,if_false,Bool.false_eq_true]; exact⟨trivial,H⟩
    ·have j9:(v.Kind==4)=false:=by simpa using a8
     simp only[aT,a0,cS,j9,B,J,au,a8,mw,if_false,Bool.false_eq_true]; exact⟨trivial,H⟩
theorem azw{v:dp}(H:E y c w):L Pg 106 [gG.enc v] (D .i64) w fun r I=>r=hH v∧E y c I:=by
 refine aaa ?_;unfold OQ;refine cj H fun b w H=>?_;refine gV (x:=v) 0 H rfl ?_;refine aE (awo H) ?_;rintro r w ⟨rfl,H⟩;unfold hH;split
 ·rename_i h; rw[if_pos (by simpa using h)]; exact⟨rfl,H.drop⟩
 ·rename_i h;rw[if_neg (by simpa using h)];refine an (x:=v.ad) 0 H rfl rfl rfl ?_;split
  ·rename_i h; rw[if_pos (by simp at h; omega)]; exact⟨rfl,H.drop⟩
  ·rename_i h; rw[if_neg (by simp at h; omega)]; exact⟨rfl,H.drop⟩
theorem AT{n:Int}{m:Nat}(h:n=m):IntKind.u8.wrap n=((UInt8.ofNat m).toNat:Int):=by rw[Hw,h]; simp
theorem Mm{n:Nat}{s:X}{xs:List Int}(aO:n<18446744073709551616)(aA:xs.length≤100000000)(i:Nat)(H:E y c w)(aq:front i c=row (D .u8) 5 1 s xs::bx) :
  L Pg 142 [O.enc s,.int .u64 n] O w fun r I=>E y (row (D .u8) 5 1 r (xs++ai (num n))::bx) I:=by
 have H:E y (row (D .u8) 5 1 s xs::bx) w:=aq▸H.front i;refine aaI ?_;unfold Pn;refine hU (fun p w=>∃ (m:Nat) (hs:List UInt8),p.2=m∧m<18446744073709551616∧m≤n∧num n=hs++num m∧E y (row (D .u8) 5 1 p.1 (xs++ai hs)::bx) w) (fun p=>p.2.toNat)
  ⟨n,[],rfl,aO,Nat.le_refl n,rfl,by simpa[ai] using H⟩ ?_
 clear H aq;rintro⟨b,m⟩ w ⟨m,hs,rfl,hm,aA0,he,H⟩ aa b7;have aj:hs.length≤10:=by
  have:=congrArg List.length he;rw[List.length_append] at this;have:=yz aO;omega
 unfold HX;split
 ·rename_i W;have W:128≤m:=by simp at W; omega
  have aT:bits .or .u8 (IntKind.u8.wrap (m:Int)) 128=((UInt8.ofNat (128+m%128)).toNat:Int):=by
   rw[Hw,avS (by omega) (by omega),w7 (by omega)]; omega
  simp only[aT];refine me (fun _=>rfl) 0 H rfl (by simp[fr]; omega) fun r w H=>?_;refine pU (by omega) ?_;have a0:Int.fdiv (m:Int) (2^(min (Int.toNat 7) IntKind.u64.bits))=((m/128:Nat):Int):=by
   have:min (Int.toNat 7) IntKind.u64.bits=7:=rfl;rw[this,Int.fdiv_eq_ediv_of_nonneg _ (by decide)];omega
  rw[a0];refine b7 _ _ ⟨m/128,hs++[UInt8.ofNat (128+m%128)],rfl,by omega,by omega,by rw[he,Gc W]; simp,?_⟩ (by simp only; omega);rw[tS,← List.append_assoc]; exact H
 ·rename_i W;have W:m<128:=by simp at W; omega
  rw[AT rfl];refine me (fun _=>rfl) 0 H rfl (by simp[fr]; omega) fun r w H=>?_;rw[he,Gd W,tS,← List.append_assoc]; exact H
end
def g7(aK:List dp):List UInt8:=aK.flatMap hE
def bad:List dp→Int
 |[]=>0
 |v::aK=>if hH v≠0 then hH v else bad aK
def vs(aK:List dp):Int:=if 1000<aK.length then 20 else bad aK
theorem afP(c m:List dp):g7 (c++m)=g7 c++g7 m:=by simp[g7]
theorem JA:∀ {aK:List dp},(∀ v∈aK,In v)→(∀ v∈aK,hH v=0)→(g7 aK).length≤1011*aK.length
 |[],_,_=>by simp[g7]
 |v::aK,aq,h=>by
  have B:=afN (aq v (by simp)) (h v (by simp));have J:=JA (aK:=aK) (fun x F=>aq x (by simp[F])) (fun x F=>h x (by simp[F]));simp only[g7,List.flatMap_cons,List.length_append,List.length_cons] at *;omega
theorem Sb{c m:List dp}(h:∀ v∈c,hH v=0):bad (c++m)=bad m:=by
 induction c with
 |nil=>rfl
 |cons v c b8=>
  have B:=h v (by simp);simp only[List.cons_append,bad,B];rw[if_neg (by simp)];exact b8 fun x F=>h x (by simp[F])
theorem Jk{aK:List dp}(h:∀ v∈aK,hH v=0):bad aK=0:=by
 have:=Sb (c:=aK) (m:=[]) h;rw[List.append_nil] at this;exact this
theorem B9(n m:Nat):Int.fdiv (n:Int) (2^m)=((n/2^m:Nat):Int):=by
 rw[Int.fdiv_eq_ediv_of_nonneg _ (by exact_mod_cast Nat.zero_le _)]; push_cast; rfl
section
variable {y w:World} {c bx:List bt}
theorem aAj{x:Int}(am:-9223372036854775808≤x)(B:x≤9223372036854775807) :
  bits .xor .u64 (IntKind.u64.wrap ((IntKind.u64.wrap x)*2^(min ((1:Int)).toNat IntKind.u64.bits))) (IntKind.u64.wrap (Int.fdiv x (2^(min ((63:Int)).toNat IntKind.i64.bits))))=((rL x:Nat):Int):=by
 have eR:min ((1:Int)).toNat IntKind.u64.bits=1:=rfl;have f_:min ((63:Int)).toNat IntKind.i64.bits=63:=rfl;rw[eR,f_,Int.fdiv_eq_ediv_of_nonneg _ (by decide),lF,lF,lF];unfold rL;by_cases h:x<0
 ·rw[if_pos h];have e:x/2^63%18446744073709551616=18446744073709551615:=by omega
  rw[e,ZY (by omega) (by omega)];omega
 ·rw[if_neg h];have e:x/2^63%18446744073709551616=0:=by omega
  rw[e,az3 (by omega) (by omega)];omega
theorem yH{v:dp}{s:X}{xs:List Int}(b6:In v)(ax:hH v=0)(aA:xs.length≤90000000)(i:Nat)(H:E y c w)(aq:front i c=row (D .u8) 5 1 s xs::bx) :
  L Pg 107 [O.enc s,gG.enc v] O w fun r I=>E y (row (D .u8) 5 1 r (xs++ai (hE v))::bx) I:=by
 have H:E y (row (D .u8) 5 1 s xs::bx) w:=aq▸H.front i;clear aq;have al:=Dd ax;have qo:1≤v.Kind∧v.Kind≤4:=by omega
 refine aab ?_;unfold OR;refine cj H fun b w H=>?_;refine an (x:=v.Kind) 0 H rfl rfl rfl ?_;have gf:IntKind.u8.wrap v.Kind=((UInt8.ofNat v.Kind.toNat).toNat:Int):=AT (by omega);rw[gf];refine me (fun _=>rfl) 1 H rfl (by simp; omega) fun r w H=>?_;refine an (x:=v.Kind) 1 H rfl rfl rfl ?_;have fN:E y (row (D .u8) 5 1 r (xs++ai [UInt8.ofNat v.Kind.toNat])::aN b (gG.cells v) 133::bx) w:=H;clear H gf;have wq:∀ (q:X) (w:World) (hs:List UInt8),hE v=UInt8.ofNat v.Kind.toNat::hs→∀ {c:List bt},E y (row (D .u8) 5 1 q (xs++ai [UInt8.ofNat v.Kind.toNat]++ai hs)::c) w→E y (row (D .u8) 5 1 q (xs++ai (hE v))::c) w:=by
  intro q w hs he c H;rw[he];rw[List.append_assoc,← tS] at H;exact H
 have sy:(xs++ai [UInt8.ofNat v.Kind.toNat]).length≤100000000:=by simp[fr]; omega
 split
 ·rename_i h;have h:v.Kind=1:=by simpa using h
  refine an (x:=v.cc) 1 fN rfl rfl rfl ?_;have e:v.cc=((v.cc.toNat:Nat):Int):=by have:=b6.DS; omega
  rw[e];refine aE (Mm (by have:=b6.NY; omega) sy 0 fN rfl) ?_;intro q w H;exact wq q w (num v.cc.toNat) (by simp[hE,h]) (H.front 1).drop |> fun H=>H
 ·rename_i h;have B:¬ v.Kind=1:=by simpa using h
  split
  ·rename_i h;have h:v.Kind=2:=by simpa using h
   refine an (x:=v.aG) 1 fN rfl rfl rfl ?_;refine pU (by omega) ?_;refine an (x:=v.aG) 1 fN rfl rfl rfl ?_;refine pU (by omega) ?_;rw[aAj b6.i0 b6.i1];refine aE (Mm (HE b6.i0 b6.i1) sy 0 fN rfl) ?_;intro q w H;have H:=wq q w (num (rL v.aG)) (by simp[hE,h]) H;exact ((H.front 1).drop)
  ·rename_i h;have J:¬ v.Kind=2:=by simpa using h
   split
   ·rename_i h;have h:v.Kind=3:=by simpa using h
    refine an (x:=v.aD) 1 fN rfl rfl rfl ?_;refine aE (Sg fN) ?_;rintro q w ⟨rfl,H⟩;have aO:k4 v.aD<18446744073709551616:=S9 b6.f;have TT:∀ (q:X) (w:World) {c:List bt},E y (row (D .u8) 5 1 q (xs++ai [UInt8.ofNat v.Kind.toNat]++ai (be 8 (k4 v.aD)))::c) w→E y (row (D .u8) 5 1 q (xs++ai (hE v))::c) w:=fun q w=>wq q w (be 8 (k4 v.aD)) (by simp[hE,h]);clear wq fN;generalize k4 v.aD=n at aO TT;refine hU (fun p w=>∃ (l:Nat) (hs:List UInt8),l≤8∧p.2=56-8*(l:Int)∧hs.length=l∧be 8 n=hs++be (8-l) n∧E y (row (D .u8) 5 1 p.1 (xs++ai [UInt8.ofNat v.Kind.toNat]++ai hs)::aN b (gG.cells v) 133::bx) w) (fun p=>(p.2+8).toNat)
     ⟨0,[],by omega,by omega,rfl,rfl,by simpa[ai] using H⟩ ?_
    clear H;rintro⟨q,i⟩ w ⟨l,hs,a7,aq,ald,he,H⟩ aa b7;simp only at aq H;subst aq;unfold HI;split
    ·rename_i W;have W:l≤7:=by simp at W; omega
     refine pU (by rw[lF]; omega) ?_;have eR:min (IntKind.u64.wrap (56-8*(l:Int))).toNat IntKind.u64.bits=8*(7-l):=by
      have:IntKind.u64.bits=64:=rfl;rw[lF,this]; omega
     have kx:(2:Nat)^(8*(7-l))=256^(7-l):=by rw[Nat.pow_mul]
     have aT:IntKind.u8.wrap (Int.fdiv (n:Int) (2^(min (IntKind.u64.wrap (56-8*(l:Int))).toNat IntKind.u64.bits)))=((UInt8.ofNat (n/256^(7-l)%256)).toNat:Int):=by
      rw[eR,B9,kx,Hw]; simp
     rw[aT];refine me (fun _=>rfl) 0 H rfl (by simp[fr]; omega) fun r w H=>?_;refine b7 _ _ ⟨l+1,hs++[UInt8.ofNat (n/256^(7-l)%256)],by omega,by simp only; rw[oK]; omega,by simp[ald],?_,?_⟩ (by simp only; rw[oK]; omega)
     ·rw[he,show 8-l=(7-l)+1 from by omega,show 8-(l+1)=7-l from by omega];simp[be]
     ·rw[tS,← List.append_assoc]; exact H
    ·rename_i W;have W:l=8:=by simp at W; omega
     subst W;have e:be 8 n=hs:=by rw[he]; simp[be]
     rw[← e] at H;have H:=TT q w H;exact ((H.front 1).drop)
   ·rename_i h;have au:¬ v.Kind=3:=by simpa using h
    have a8:v.Kind=4:=by omega
    have aj:v.ad.length≤1000:=by
     rcases al with h | h | h | h
     ·exact absurd h.1 B
     ·exact absurd h.1 J
     ·exact absurd h.1 au
     ·exact h.2.2.2.2
    refine dH fN fun w H=>?_;refine an (x:=v.ad) 1 H rfl rfl rfl ?_;refine an (x:=v.ad) 1 H rfl rfl rfl ?_;have e:IntKind.u64.wrap (v.ad.length:Int)=((v.ad.length:Nat):Int):=by rw[lF]; omega
    rw[e];refine aE (Mm (by omega) sy 0 H rfl) ?_;intro q w H;refine⟨cW dT (H.front 1) rfl rfl,cW dT (H.front 1) rfl rfl,?_⟩;have aO:=yz (n:=v.ad.length) (by omega);refine aec 0 H rfl (by simp[fr]; omega) fun q w H=>?_;refine⟨cW dT (H.front 1) rfl rfl,?_⟩;rw[List.append_assoc,← tS] at H;have H:=wq q w (num v.ad.length++v.ad) (by simp[hE,a8]) H;exact ((H.front 1).drop)
theorem WD{s:X}{aK:List dp}(b6:∀ v∈aK,In v)(aO:aK.length≤9000000000)(k:c0 5 c gG s aK)(H:E y c w) :
  L Pg 58 [O.enc s] (bJ O (D .i64)) w fun r I=>r.2=vs aK∧(vs aK=0→E y (row (D .u8) 5 1 r.1 (ai (g7 aK))::c) I)∧(vs aK≠0→r.1=er)∧E y c I:=by
 have aF:=k.len H;refine acv ?_;unfold Q5;rw[aF];split
 ·rename_i W;have W:1000<aK.length:=by simp at W; omega
  have e:vs aK=20:=if_pos W;refine⟨e.symm,?_,fun _=>rfl,H⟩;intro h; rw[e] at h; cases h
 ·rename_i W;have W:aK.length≤1000:=by simp at W; omega
  have e:vs aK=bad aK:=if_neg (by omega);rw[e];refine hU (fun p w=>0≤p.2∧p.2≤aK.length∧(∀ v∈aK.take p.2.toNat,hH v=0)∧E y (row (D .u8) 5 1 p.1 (ai (g7 (aK.take p.2.toNat)))::c) w) (fun p=>(aK.length-p.2).toNat)
   ⟨Int.le_refl 0,by simp only; omega,by simp,jW (D .u8) 5 1 H⟩ ?_
  clear H;rintro⟨b,i⟩ w ⟨am,B,dW,H⟩ aa b7;simp only at am B dW H;unfold IG;rw[aF];split
  ·rename_i aq;have aq:i<aK.length:=by simpa using aq
   have F:aK[i.toNat]?=some aK[i.toNat]:=List.getElem?_eq_getElem (by omega);have hm:aK[i.toNat]∈aK:=List.getElem_mem _;have ak:aK.take (i.toNat+1)=aK.take i.toNat++[aK[i.toNat]]:=by rw[List.take_succ_eq_append_getElem (by omega)]
   have aC:aK=aK.take i.toNat++aK[i.toNat]::aK.drop (i.toNat+1):=by
    conv=>lhs; rw[← List.take_append_drop i.toNat aK]
    rw[List.drop_eq_getElem_cons (by omega)]
   have TJ:hH aK[i.toNat]≠0→bad aK=hH aK[i.toNat]:=by
    intro h;have J7:=congrArg bad aC;rw[J7,Sb dW];simp only[bad];exact if_pos h
   generalize aK[i.toNat]=v at F hm ak TJ;have aih:=JA (aK:=aK.take i.toNat) (fun x F=>b6 x (List.mem_of_mem_take F)) dW;rw[List.length_take] at aih;obtain⟨a,ag⟩:=k.tail.jI (i:=i) H am aq;refine aQ a ag ?_;refine aQ v (k.tail.rd ag F H) ?_;refine cj H fun aAB w H=>?_;refine fb (x:=q0) (N:=v) LR 0 H rfl fun w H=>?_;refine gV (x:=v) 0 H rfl ?_;refine aE (azw H) ?_;rintro r w ⟨rfl,H⟩;split
   ·rename_i ec;have ec:hH v≠0:=by simpa using ec
    have aA:=TJ ec;exact⟨aA.symm,fun h=>absurd (aA▸h) ec,fun _=>rfl,H.drop.drop⟩
   ·rename_i ec;have ax:hH v=0:=by simpa using ec
    refine gV (x:=v) 0 H rfl ?_;refine aE (yH (b6 v hm) ax (by rw[fr]; omega) 1 H rfl) ?_;intro q w H;have aT:IntKind.i64.wrap (i+1)=i+1:=wrap_i64 (by omega) (by omega);rw[aT];have a0:(i+1).toNat=i.toNat+1:=by omega
    refine b7 _ _ ⟨by simp only; omega,by simp only; omega,?_,?_⟩ (by simp only; omega)
    ·simp only[a0,ak];intro x F;rcases List.mem_append.1 F with F | F
     ·exact dW x F
     ·rw[List.mem_singleton.1 F]; exact ax
    ·simp only[a0,ak];rw[afP,tS];have cS:g7 [v]=hE v:=by simp[g7]
     rw[cS];exact ((H.front 1).drop)
  ·rename_i aq;have aq:i=aK.length:=by simp at aq; omega
   subst aq;have cS:aK.take ((aK.length:Int)).toNat=aK:=by simp
   rw[cS] at dW H;have aA:=Jk dW;exact⟨aA.symm,fun _=>H,fun h=>absurd aA h,H.drop⟩
end
section
variable {S:Type} {T:a_ S} {y w:World} {c bx:List bt}
theorem adu{ao:Nat}{s r:X}{xs:List S}{i h m:Int}(aj:∀ x,(T.cells x).length=ao)(aF:Sub s ao i h m r)(bV:h≤xs.length)(nD:∀ a,s.a=some a→xs≠[]→a.spot=none)(k:jN T w s xs):jN T w r ((xs.take h.toNat).drop i.toNat):=by
 obtain⟨am,B,J,au,rfl⟩:=aF;obtain⟨fj,fF⟩:=k;have hR:((xs.take h.toNat).drop i.toNat).length=h.toNat-i.toNat:=by rw[List.length_drop,List.length_take]; omega
 refine⟨hR,?_⟩;simp only;obtain⟨a,n,o⟩:=s;cases a with
 |none=>
  have:xs=[]:=fF;subst this;split<;>simp[BA]
 |some a=>
  split
  ·rename_i e;have:(xs.take h.toNat).drop i.toNat=[]:=List.eq_nil_of_length_eq_zero (by rw[hR]; omega);rw[this];intro l v ax; simp at ax
  ·intro l v ax;have ec:xs≠[]:=by
    rintro rfl;simp at ax
   have a0:xs.flatMap T.cells=(xs.take i.toNat).flatMap T.cells++(((xs.take h.toNat).drop i.toNat).flatMap T.cells++(xs.drop h.toNat).flatMap T.cells):=by
    have cS:xs.take i.toNat=(xs.take h.toNat).take i.toNat:=by rw[List.take_take,Nat.min_eq_left (by omega)]
    rw[cS,← List.append_assoc,← List.flatMap_append,List.take_append_drop,← List.flatMap_append,List.take_append_drop]
   have j9:((xs.take i.toNat).flatMap T.cells).length=i.toNat*ao:=by rw[lR aj,List.length_take]; congr 1; omega
   rw[add_add (nD a rfl ec)];refine (fF:mb w a _) (i.toNat*ao+l) v ?_;rw[a0,← j9,List.getElem?_append_right (by omega),Nat.add_sub_cancel_left];rw[List.getElem?_append_left (List.getElem?_eq_some_iff.1 ax).1]; exact ax
theorem _root_.Go.Proofs.YtnmmjkjkkmbhiaaGreat.ba.c0.spot{ao:Nat}{s:X}{xs:List S}(k:c0 ao c T s xs)(H:E y c w):∀ a,s.a=some a→xs≠[]→a.spot=none:=by
 intro a ag ec;have aj:0<xs.length:=by
  cases xs with
  |nil=>exact absurd rfl ec
  |cons=>simp
 obtain⟨b,aA,nD,_⟩:=(k y [] w H).2.2 0 (by omega) (by omega);obtain⟨o,W,_,_,rfl⟩:=aA;rw[ag] at W; injection W with W; subst W
 have e:(0:Int).toNat*ao=0:=by simp
 rw[e] at nD;simpa[Addr.add] using nD
theorem _root_.Go.Proofs.YtnmmjkjkkmbhiaaGreat.ba.c0.sub{ao:Nat}{s r:X}{xs:List S}{i h m:Int}(k:c0 ao c T s xs)(aj:∀ x,(T.cells x).length=ao)(aF:Sub s ao i h m r)(bV:h≤xs.length)(H:E y c w):jN T w r ((xs.take h.toNat).drop i.toNat):=
 adu aj aF bV (k.spot H) (k.y2 H)
end
def k9(b:Nat)(s:X)(at_:Nat):bt:=aN b [O.enc s,.int .i64 at_] 245
def uA(e:Int):dP:=dP.mk 247 (iw.enc ⟨e⟩)
section
variable {y w:World} {c bx:List bt} {b:Nat} {s:X} {az:List UInt8}
theorem drop_cons{rest:List UInt8}{a:Nat}{o:UInt8}(h:az.drop a=o::rest):a<az.length∧az[a]?=some o∧az.drop (a+1)=rest:=by
 have aj:a<az.length:=by
  rcases Nat.lt_or_ge a az.length with eI | eI
  ·exact eI
  ·rw[List.drop_eq_nil_of_le eI] at h; cases h
 refine⟨aj,?_,?_⟩
 ·have:=congrArg (fun c=>c[0]?) h;simpa using this
 ·have:=congrArg (List.drop 1) h;simpa[List.drop_drop] using this
theorem Mh{dQ:dP→World→Prop}{aa:Int→World→Prop}{a:Nat}{rest:List UInt8}(aO:az.length≤9223372036854775806)(k:c0 1 c (D .u8) s (ai az))(ag:a≤az.length)(aC:az.drop a=rest)(H:E y (k9 b s a::c) w)
  (aH:rest=[]→∀ I,E y (k9 b s a::c) I→dQ (uA 22) I)
  (al:∀ o r I,rest=o::r→a+1≤az.length→az.drop (a+1)=r→E y (k9 b s (a+1)::c) I→aa (o.toNat:Int) I) :
  lM Pg 184 [.pointer (some ⟨b,0,none⟩)] (D .u8) w dQ aa:=by
 have aF:=k.tail.len H;rw[fr] at aF;refine abd ?_;unfold H8;refine dH H fun w H=>?_;refine b2 rfl ?_;refine an (x:=(a:Int)) 0 H rfl rfl rfl ?_;refine an (x:=s) 0 H rfl rfl rfl ?_;rw[aF];cases rest with
 |nil=>
  have aj:az.length≤a:=by
   have:=congrArg List.length aC;simp at this; omega
  rw[if_pos (by simp; omega)];exact aH rfl _ H
 |cons o r=>
  obtain⟨B,J,au⟩:=drop_cons aC;rw[if_neg (by simp; omega)];refine an (x:=(a:Int)) 0 H rfl rfl rfl ?_;have aT:IntKind.i64.wrap ((a:Int)+1)=((a+1:Nat):Int):=by rw[oK]; omega
  rw[aT];refine eg (x:=((a+1:Nat):Int)) 0 H rfl rfl (Nat.le_of_ble_eq_true rfl) fun w H=>?_;refine dH H fun w H=>?_;refine an (x:=s) 0 H rfl rfl rfl ?_;refine an (x:=((a+1:Nat):Int)) 0 H rfl rfl rfl ?_;have a0:IntKind.i64.wrap (((a+1:Nat):Int)-1)=(a:Int):=by rw[oK]; omega
  rw[a0];obtain⟨x,F⟩:=k.tail.jI (i:=(a:Int)) H (by omega) (by rw[fr]; omega);refine aQ x F ?_;refine aQ (o.toNat:Int) (k.tail.rd F (by simp[ai,J]) H) ?_;exact al o r _ rfl (by omega) au H
theorem Mo{dQ:dP→World→Prop}{aa:Int→World→Prop}{a:Nat}{rest:List UInt8}(aO:az.length≤9223372036854775806)(k:c0 1 c (D .u8) s (ai az))(ag:a≤az.length)(aC:az.drop a=rest)(H:E y (k9 b s a::c) w)
  (aH:∀ e bS I,rdNum rest 0 0=.error e→E y (k9 b s bS::c) I→dQ (uA e) I)
  (al:∀ n r bS I,rdNum rest 0 0=.ok (n,r)→bS≤az.length→az.drop bS=r→E y (k9 b s bS::c) I→aa ((n:Nat):Int) I) :
  lM Pg 185 [.pointer (some ⟨b,0,none⟩)] (D .u64) w dQ aa:=by
 refine abe ?_;unfold H9;refine hU (fun p w=>∃ (l acc bS:Nat) (r:List UInt8),l≤9∧p.1=(acc:Int)∧p.2=((7*l:Nat):Int)∧acc<2^(7*l)∧bS≤az.length∧az.drop bS=r∧rdNum rest 0 0=rdNum r l acc∧E y (k9 b s bS::c) w) (fun p=>(70-p.2).toNat)
  ⟨0,0,a,rest,by omega,rfl,rfl,by simp,ag,aC,rfl,H⟩ ?_
 clear H ag aC;rintro⟨m,U⟩ w ⟨l,acc,bS,r,a7,hm,aA,J3,ag,aC,he,H⟩ K' b7;simp only at hm aA;subst hm; subst aA;unfold H_;refine Mh aO k ag aC H ?_ ?_
 ·rintro rfl w H;exact aH 22 _ _ (by rw[he]; rfl) H
 ·rintro o oh w rfl z3 x3 H;have W:o.toNat<256:=o.toNat_lt;simp only[rdNum] at he;have TM:(((((7*l:Nat):Int)==(63:Int))&&(decide ((o.toNat:Int)>(1:Int))))||((decide (((7*l:Nat):Int)>(0:Int)))&&((o.toNat:Int)==(0:Int))))=true↔(l=9∧1<o.toNat)∨(0<l∧o.toNat=0):=by
   simp only[Bool.or_eq_true,Bool.and_eq_true,beq_iff_eq,decide_eq_true_eq];omega
  by_cases a5:(l=9∧1<o.toNat)∨(0<l∧o.toNat=0)
  ·rw[if_pos (TM.2 a5)];rw[if_pos a5] at he;exact aH 23 _ _ he H
  ·rw[if_neg (fun h=>a5 (TM.1 h))];rw[if_neg a5] at he;refine pU (by omega) ?_;have kx:(128:Nat)^l=2^(7*l):=by rw[Nat.pow_mul]
   have eR:min (((7*l:Nat):Int)).toNat IntKind.u64.bits=7*l:=by
    have:IntKind.u64.bits=64:=rfl;rw[this]; omega
   have tn:o.toNat%128*2^(7*l)<18446744073709551616:=by
    rw[← kx];rcases WC a7 with e | e | e | e | e | e | e | e | e | ⟨BX,e⟩<;>rw[e]<;>omega
   have aT:IntKind.u64.wrap (IntKind.u64.wrap (bits .and .u8 (o.toNat:Int) 127)*2^(min (((7*l:Nat):Int)).toNat IntKind.u64.bits))=((o.toNat%128*2^(7*l):Nat):Int):=by
    rw[eR,ad9 (by omega) (by omega)];have e:IntKind.u64.wrap ((o.toNat:Int)%128)=((o.toNat%128:Nat):Int):=by rw[lF]; omega
    rw[e];have a0:((o.toNat%128:Nat):Int)*2^(7*l)=((o.toNat%128*2^(7*l):Nat):Int):=by push_cast; rfl
    rw[a0,lF];generalize o.toNat%128*2^(7*l)=q at tn;omega
   have ahv:acc<18446744073709551616:=Nat.lt_of_lt_of_le J3 (by
    have:=Nat.pow_le_pow_right (n:=2) (by omega) (show 7*l≤64 by omega)
    simpa using this)
   have a0:bits .or .u64 (acc:Int) ((o.toNat%128*2^(7*l):Nat):Int)=((acc+o.toNat%128*128^l:Nat):Int):=by
    rw[avT .u64 64 (by decide) lE (7*l) _ _ (by omega) (by exact_mod_cast J3) (by exact_mod_cast ahv) (by omega) ?_ (by exact_mod_cast tn)]
    ·rw[kx]; push_cast; rfl
    ·have:o.toNat%128*2^(7*l)%2^(7*l)=0:=Nat.mul_mod_left _ _
     exact_mod_cast this
   rw[aT,a0];by_cases cA:o.toNat<128
   ·rw[if_pos (by simp; omega)];rw[if_pos cA] at he;exact al _ _ _ _ he z3 x3 H
   ·rw[if_neg (by simp; omega)];rw[if_neg cA] at he;have wj:l≤8:=by omega
    refine b7 _ _ ⟨l+1,acc+o.toNat%128*128^l,bS+1,oh,by omega,rfl,by simp only; rw[lF]; omega,?_,z3,x3,he,H⟩ (by simp only; rw[lF]; omega);rw[kx,show 7*(l+1)=7*l+7 from by omega,Nat.pow_add];have:o.toNat%128*2^(7*l)≤127*2^(7*l):=Nat.mul_le_mul_right _ (by omega);have Jv:(2:Nat)^7=128:=rfl;rw[Jv];omega
def y1(rest:List UInt8):Except Int (Nat×List UInt8):=match mA 8 0 rest with
 |.error e=>.error e
 |.ok (n,r)=>if k4 n≠n then .error 25 else .ok (n,r)
theorem ahc{dQ:dP→World→Prop}{aa:Nat→World→Prop}{a:Nat}{rest:List UInt8}(aO:az.length≤9223372036854775806)(k:c0 1 c (D .u8) s (ai az))(ag:a≤az.length)(aC:az.drop a=rest)(H:E y (k9 b s a::c) w)
  (aH:∀ e bS I,y1 rest=.error e→E y (k9 b s bS::c) I→dQ (uA e) I)
  (al:∀ n r bS I,y1 rest=.ok (n,r)→bS≤az.length→az.drop bS=r→E y (k9 b s bS::c) I→aa n I) :
  lM Pg 186 [.pointer (some ⟨b,0,none⟩)] g2 w dQ aa:=by
 refine abf ?_;unfold Ia;refine hU (fun p w=>∃ (l acc bS:Nat) (r:List UInt8),l≤8∧p.1=(acc:Int)∧p.2=(l:Int)∧acc<256^l∧bS≤az.length∧az.drop bS=r∧mA 8 0 rest=mA (8-l) acc r∧E y (k9 b s bS::c) w) (fun p=>(8-p.2).toNat)
  ⟨0,0,a,rest,by omega,rfl,rfl,by simp,ag,aC,rfl,H⟩ ?_
 clear H ag aC;rintro⟨m,t⟩ w ⟨l,acc,bS,r,a7,hm,aA,J3,ag,aC,he,H⟩ K' b7;simp only at hm aA;subst hm; subst aA;unfold Ib;split
 ·rename_i W;have W:l<8:=by simp at W; omega
  rw[show 8-l=(7-l)+1 from by omega] at he;have aA3:256^(l+1)≤18446744073709551616:=by
   have:=Nat.pow_le_pow_right (n:=256) (by omega) (show l+1≤8 by omega);simpa using this
  have FB:256^(l+1)=256^l*256:=Nat.pow_succ ..;have F:acc*256+256≤256^(l+1):=by rw[FB]; omega
  refine pU (by omega) ?_;have aT:IntKind.u64.wrap ((acc:Int)*2^(min ((8:Int)).toNat IntKind.u64.bits))=((acc*256:Nat):Int):=by
   have eR:min ((8:Int)).toNat IntKind.u64.bits=8:=rfl;rw[eR,lF]; omega
  rw[aT];refine Mh aO k ag aC H ?_ ?_
  ·rintro rfl w H;exact aH 22 _ _ (by unfold y1; rw[he]; rfl) H
  ·rintro o oh w rfl z3 x3 H;have ah8:o.toNat<256:=o.toNat_lt;have a0:IntKind.u64.wrap (o.toNat:Int)=(o.toNat:Int):=by rw[lF]; omega
   have cS:bits .or .u64 ((acc*256:Nat):Int) (o.toNat:Int)=((acc*256+o.toNat:Nat):Int):=by
    rw[bits_join .u64 64 (by decide) lE 8 _ _ (by omega) (by omega) (by omega) (by omega) (by omega) (by omega)];omega
   rw[a0,cS];simp only[mA] at he;refine b7 _ _ ⟨l+1,acc*256+o.toNat,bS+1,oh,by omega,rfl,by simp only; rw[oK]; omega,by omega,z3,x3,?_,H⟩ (by simp only; rw[oK]; omega);rw[he,show 8-(l+1)=7-l from by omega]
 ·rename_i W;have W:l=8:=by simp at W; omega
  subst W;simp only[Nat.sub_self,mA] at he;have gf:Int.toNat (acc:Int)=acc:=by omega
  rw[gf];refine aE (Sg H) ?_;rintro q w ⟨rfl,H⟩;have jG:y1 rest=if k4 acc≠acc then .error 25 else .ok (acc,r):=by unfold y1; rw[he]
  by_cases ec:k4 acc≠acc
  ·rw[if_pos (by simp; omega)];rw[if_pos ec] at jG;exact aH 25 _ _ jG H
  ·rw[if_neg (by simp at ec ⊢; omega)];rw[if_neg ec] at jG;exact al _ _ _ _ jG ag aC H
def y3(rest:List UInt8):Except Int (List UInt8×List UInt8):=match rdNum rest 0 0 with
 |.error e=>.error e
 |.ok (n,r)=>if 1000<n then .error 24 else if r.length<n then .error 22 else .ok (r.take n,r.drop n)
theorem azh{dQ:dP→World→Prop}{aa:List UInt8→World→Prop}{a:Nat}{rest:List UInt8}(lU:s.len≤s.cap)(aO:az.length≤9223372036854775806)(k:c0 1 c (D .u8) s (ai az))(ag:a≤az.length)(aC:az.drop a=rest)(H:E y (k9 b s a::c) w)
  (aH:∀ e bS I,y3 rest=.error e→E y (k9 b s bS::c) I→dQ (uA e) I)
  (al:∀ n r bS I,y3 rest=.ok (n,r)→bS≤az.length→az.drop bS=r→E y (k9 b s bS::c) I→aa n I) :
  lM Pg 187 [.pointer (some ⟨b,0,none⟩)] dT w dQ aa:=by
 have aF:=k.tail.len H;rw[fr] at aF;refine abg ?_;unfold Ic;refine Mo aO k ag aC H ?_ ?_
 ·intro e bS w he H;exact aH e bS w (by unfold y3; rw[he]) H
 ·intro n r bS w he ag aC H;have xX:y3 rest=if 1000<n then .error 24 else if r.length<n then .error 22 else .ok (r.take n,r.drop n):=by unfold y3; rw[he]
  by_cases B:1000<n
  ·rw[if_pos (by simp; omega)];rw[if_pos B] at xX;exact aH 24 _ _ xX H
  ·rw[if_neg (by simp; omega)];rw[if_neg B] at xX;have re:r.length=az.length-bS:=by rw[← aC,List.length_drop]
   refine dH H fun w H=>?_;refine b2 rfl ?_;refine an (x:=s) 0 H rfl rfl rfl ?_;refine an (x:=(bS:Int)) 0 H rfl rfl rfl ?_;rw[aF];have aT:IntKind.u64.wrap (IntKind.i64.wrap ((az.length:Int)-(bS:Int)))=((r.length:Nat):Int):=by
    rw[wrap_i64 (by omega) (by omega),lE _ (by omega) (by omega)]; omega
   rw[aT];by_cases J:r.length<n
   ·rw[if_pos (by simp; omega)];rw[if_pos J] at xX;exact aH 22 _ _ xX H
   ·rw[if_neg (by simp; omega)];rw[if_neg J] at xX;refine an (x:=(bS:Int)) 0 H rfl rfl rfl ?_;have we:IntKind.i64.wrap (n:Int)=(n:Int):=wrap_i64 (by omega) (by omega);rw[we];have a0:IntKind.i64.wrap ((bS:Int)+(n:Int))=((bS+n:Nat):Int):=by rw[wrap_i64 (by omega) (by omega)]; omega
    rw[a0];refine eg (x:=((bS+n:Nat):Int)) 0 H rfl rfl (Nat.le_of_ble_eq_true rfl) fun w H=>?_;refine dH H fun w H=>?_;refine an (x:=s) 0 H rfl rfl rfl ?_;refine an (x:=((bS+n:Nat):Int)) 0 H rfl rfl rfl ?_;refine an (x:=((bS+n:Nat):Int)) 0 H rfl rfl rfl ?_;have cS:IntKind.i64.wrap (((bS+n:Nat):Int)-(n:Int))=(bS:Int):=by rw[wrap_i64 (by omega) (by omega)]; omega
    rw[cS];refine nn (by omega) (by omega) (by omega) (by omega) fun q a5=>?_;have Z:=k.tail.sub (fun _=>rfl) a5 (by rw[fr]; omega) H;have aA:((ai az).take (((bS+n:Nat):Int)).toNat).drop ((bS:Int)).toNat=ai (r.take n):=by
     simp only[Int.toNat_natCast];rw[← aC];unfold ai;rw[← List.map_take,← List.map_drop,List.take_drop,Nat.add_comm]
    rw[aA] at Z;refine R9 (r:=r.take n) Z ?_;exact al _ _ _ _ xX (by omega) (by rw[← aC,List.drop_drop]) H
theorem aAg{n:Nat}(h:n<18446744073709551616) :
  bits .xor .i64 (IntKind.i64.wrap (Int.fdiv (n:Int) (2^(min ((1:Int)).toNat IntKind.u64.bits)))) (IntKind.i64.wrap (0-(IntKind.i64.wrap (bits .and .u64 (n:Int) (1:Int)))))=rK n:=by
 have eR:min ((1:Int)).toNat IntKind.u64.bits=1:=rfl;rw[eR,B9,ad8 (by omega) (by omega)];have aT:IntKind.i64.wrap ((n/2^1:Nat):Int)=((n/2:Nat):Int):=by rw[oK]; omega
 rw[aT];unfold rK;by_cases aO:n%2=1
 ·rw[if_pos aO];have a0:IntKind.i64.wrap (0-IntKind.i64.wrap ((n:Int)%2))=-1:=by rw[oK,oK]; omega
  rw[a0,az4 (by omega) (by omega)]
 ·rw[if_neg aO];have a0:IntKind.i64.wrap (0-IntKind.i64.wrap ((n:Int)%2))=0:=by rw[oK,oK]; omega
  rw[a0,az2 (by omega) (by omega)]
theorem azx{dQ:dP→World→Prop}{aa:dp→World→Prop}{a:Nat}{rest:List UInt8}(lU:s.len≤s.cap)(aO:az.length≤9223372036854775806)(k:c0 1 c (D .u8) s (ai az))(ag:a≤az.length)(aC:az.drop a=rest)(H:E y (k9 b s a::c) w)
  (aH:∀ e bS I,jr rest=.error e→E y (k9 b s bS::c) I→dQ (uA e) I)
  (al:∀ v r bS I,jr rest=.ok (v,r)→bS≤az.length→az.drop bS=r→E y (k9 b s bS::c) I→aa v I) :
  lM Pg 157 [.pointer (some ⟨b,0,none⟩)] gG w dQ aa:=by
 refine aaU ?_;unfold H0;refine cj H fun gR w H=>?_;refine Mh aO k.tail ag aC (H.front 1) ?_ ?_
 ·rintro rfl w H;exact aH 22 a w rfl ((H.front 1).drop)
 ·rintro o r w rfl ag aC H;have ah8:o.toNat<256:=o.toNat_lt;have gf:IntKind.i64.wrap (o.toNat:Int)=(o.toNat:Int):=by rw[oK]; omega
  rw[gf];refine cj H fun ur w H=>?_;refine fb (x:=q0) (N:=(⟨(o.toNat:Int),0,0,0,[]⟩:dp)) LR 0 H rfl fun w H=>?_;refine an (x:=(o.toNat:Int)) 0 H rfl rfl rfl ?_;have jJ:∀ (v:dp) (bS:Nat) (w:World),(∀ I,E y (k9 b s bS::c) I→aa v I)→E y (aN ur (gG.cells v) 133::k9 b s bS::aN gR (gG.cells q0) 133::c) w→vU ⟨gR,0,none⟩ ⟨ur,0,none⟩ w aa dQ:=by
   intro v bS w ax H;unfold vU;refine gV (x:=v) 0 H rfl ?_;refine fb (x:=q0) (N:=v) LR 2 H rfl fun w H=>?_;refine gV (x:=v) 0 H rfl ?_
   exact ax _ ((H.front 2).imp fun _ _ ⟨B,J,au,a8,b_,hv,r5⟩=>⟨B,J,au,a8,b_,hv,ht.mono (b9.le_refl _) (b9.le_refl _) (by
    obtain⟨_,_,_,_,cE,_,cD,dC,_,_,tv,_,g⟩:=r5
    exact ht.mono (b9.le_refl _) (b9.le_trans tv cE) g)⟩)
  have wF:c0 1 (aN ur (gG.cells (⟨(o.toNat:Int),0,0,0,[]⟩:dp)) 133::aN gR (gG.cells q0) 133::c) (D .u8) s (ai az):=k.tail.tail;have H:=H.front 1;have Cp:∀ e bS I,jr (o::r)=.error e→E y (k9 b s bS::aN ur (gG.cells (⟨(o.toNat:Int),0,0,0,[]⟩:dp)) 133::aN gR (gG.cells q0) 133::c) I→dQ (uA e) I:=by
   intro e bS I he H;exact aH e bS I he (((((H.front 1).drop).front 1).drop))
  by_cases B:o.toNat=1
  ·rw[if_pos (by simp[B])];refine Mo aO wF ag aC H ?_ ?_
   ·intro e bS w he H;exact Cp e bS w (by simp only[jr,B,if_true,he]) H
   ·intro n oh bS w he ag aC H;refine eg (x:=(n:Int)) 1 H rfl rfl (Nat.le_of_ble_eq_true rfl) fun w H=>?_;refine jJ ⟨(o.toNat:Int),n,0,0,[]⟩ bS w (fun I H=>al _ oh bS I ?_ ag aC H) H;simp only[jr,B,if_true,he]; rfl
  ·rw[if_neg (by simp; omega)];by_cases J:o.toNat=2
   ·rw[if_pos (by simp[J])];refine Mo aO wF ag aC H ?_ ?_
    ·intro e bS w he H;exact Cp e bS w (by simp only[jr,J,if_true,he,show ¬ (2:Nat)=1 from by decide,if_false]) H
    ·intro n oh bS w he ag aC H;obtain⟨cA,_⟩:=GN he;refine pU (by omega) ?_;rw[aAg cA];refine eg (x:=rK n) 1 H rfl rfl (Nat.le_of_ble_eq_true rfl) fun w H=>?_;refine jJ ⟨(o.toNat:Int),0,rK n,0,[]⟩ bS w (fun I H=>al _ oh bS I ?_ ag aC H) H;simp only[jr,J,if_true,he,show ¬ (2:Nat)=1 from by decide,if_false]; rfl
   ·rw[if_neg (by simp; omega)];by_cases au:o.toNat=3
    ·rw[if_pos (by simp[au])];have jG:jr (o::r)=match y1 r with | .error e=>.error e | .ok (n,q)=>.ok (⟨3,0,0,n,[]⟩,q):=by
      simp only[jr,au,if_true,show ¬ (3:Nat)=1 from by decide,show ¬ (3:Nat)=2 from by decide,if_false,y1];cases mA 8 0 r with
      |error e=>rfl
      |ok p=>obtain⟨n,q⟩:=p; simp only; split<;>rfl
     refine ahc aO wF ag aC H ?_ ?_
     ·intro e bS w he H;exact Cp e bS w (by rw[jG,he]) H
     ·intro n oh bS w he ag aC H;refine eg (T:=g2) (x:=n) 1 H rfl rfl (Nat.le_of_ble_eq_true rfl) fun w H=>?_;refine jJ ⟨(o.toNat:Int),0,0,n,[]⟩ bS w (fun I H=>al _ oh bS I ?_ ag aC H) H;rw[jG,he,au]; rfl
    ·rw[if_neg (by simp; omega)];by_cases a8:o.toNat=4
     ·rw[if_pos (by simp[a8])];have jG:jr (o::r)=match y3 r with | .error e=>.error e | .ok (n,q)=>.ok (⟨4,0,0,0,n⟩,q):=by
       simp only[jr,a8,if_true,show ¬ (4:Nat)=1 from by decide,show ¬ (4:Nat)=2 from by decide,show ¬ (4:Nat)=3 from by decide,if_false,y3];cases rdNum r 0 0 with
       |error e=>rfl
       |ok p=>
        obtain⟨n,q⟩:=p;simp only;split
        ·rfl
        ·split<;>rfl
      refine azh lU aO wF ag aC H ?_ ?_
      ·intro e bS w he H;exact Cp e bS w (by rw[jG,he]) H
      ·intro n oh bS w he ag aC H;refine eg (T:=dT) (x:=n) 1 H rfl rfl (Nat.le_of_ble_eq_true rfl) fun w H=>?_;refine jJ ⟨(o.toNat:Int),0,0,0,n⟩ bS w (fun I H=>al _ oh bS I ?_ ag aC H) H;rw[jG,he,a8]; rfl
     ·rw[if_neg (by simp; omega)];exact Cp 21 _ _ (by simp only[jr,B,J,au,a8,if_false]) H
end
def pX:Nat→List UInt8→List dp→Nat→List dp×Nat×Int
 |0,_,c,_=>(c,0,0)
 |_+1,[],c,_=>(c,0,0)
 |f+1,o::az,c,a=>if c.length=1000 then ([],a,20) else match jr (o::az) with
  |.error e=>([],a,e)
  |.ok (v,r)=>pX f r (c++[v]) (a+(az.length+1-r.length))
def jY(az:List UInt8):List dp×Nat×Int:=pX (az.length+1) az [] 0
theorem SB{az r:List UInt8}{v:dp}(h:jr az=.ok (v,r)):r.length<az.length:=by
 obtain⟨_,_,_,rfl⟩:=SC h;simp only[hE,List.length_append,List.length_cons];omega
section
variable {y w:World} {c bx:List bt} {s:X} {az:List UInt8}
theorem aeV{aY bh bU cs:Nat}{q:X}{sJ gf:Int}{a:Nat}{e:Int}{j:X×Int×Int→World→Prop}(H:E y (aN cs [.int .i64 a] 3::aN aY [O.enc q] 134::aN bh [.int .i64 sJ] 3::aN bU [.int .i64 gf] 25::c) w)
  (al:∀ I,E y c I→j (er,(a:Int),e) I):xi ⟨cs,0,none⟩ ⟨aY,0,none⟩ ⟨bh,0,none⟩ ⟨bU,0,none⟩ j (uA e) w:=by
 unfold xi;refine VL (Py (axD (uA e)) ?_) rfl;unfold Ey;rw[if_pos (by rfl)];refine aQ (⟨e⟩,true) (.inl ⟨⟨e⟩,rfl,rfl⟩) ?_;refine cj H fun b w H=>?_;refine fb (x:=BF) (N:=(⟨e⟩:iJ)) (fun _=>rfl) 0 H rfl fun w H=>?_;rw[if_neg (by simp)];refine dH H fun w H=>?_;refine an (x:=(a:Int)) 1 H rfl rfl rfl ?_;refine an (x:=e) 0 H rfl rfl rfl ?_;refine eg (x:=er) 2 H rfl rfl (Nat.le_of_ble_eq_true rfl) fun w H=>?_;refine⟨cW (D .i64) (H.front 1) rfl rfl,?_⟩;refine eg (x:=(a:Int)) 3 H rfl rfl (Nat.le_of_ble_eq_true rfl) fun w H=>?_;refine⟨cW (D .i64) (H.front 2) rfl rfl,?_⟩;refine eg (x:=e) 4 H rfl rfl (Nat.le_of_ble_eq_true rfl) fun w H=>?_;refine an (x:=er) 2 H rfl rfl rfl ?_;refine an (x:=(a:Int)) 1 H rfl rfl rfl ?_;refine an (x:=e) 0 H rfl rfl rfl ?_;exact al _ H.drop.drop.drop.drop.drop
theorem asx{args:List Value}{a b o d:Addr}{aa:World→Prop}(al:aa w):vk Pg 156 [.pointer (some a),.pointer (some b),.pointer (some o),.pointer (some d)] .returning w aa:=by
 refine VL (Py axE ?_) rfl;unfold Ey;rw[if_neg (by simp[dP.isNil])];exact al
theorem Zj(lU:s.len≤s.cap)(aO:az.length≤9223372036854775806)(k:c0 1 c (D .u8) s (ai az))(H:E y c w) :
  L Pg 132 [O.enc s] (qO O (D .i64) (D .i64)) w fun r I=>r.2.1=((jY az).2.1:Int)∧r.2.2=(jY az).2.2∧E y (row gG 133 5 r.1 (jY az).1::c) I:=by
 have aF:=k.len H;rw[fr] at aF;refine aaA ?_;unfold HU;refine cj H fun aY w H=>?_;refine cj H fun bh w H=>?_;refine cj H fun bU w H=>?_;refine cj H fun eH w H=>?_;refine cj H fun cs w H=>?_;refine eg (x:=(0:Int)) 0 H rfl rfl (Nat.le_of_ble_eq_true rfl) fun w H=>?_;have H:=jW gG 133 5 H
 refine Aq (fun n _ w=>∃ (f a x:Nat) (q:X) (aK:List dp),n=az.length-a∧a≤az.length∧az.length-a<f∧aK.length≤1000∧jY az=pX f (az.drop a) aK a ∧
  E y (k9 eH s a::aN cs [.int .i64 x] 3::aN aY [O.enc q] 134::row gG 133 5 q aK::aN bh [.int .i64 0] 3::aN bU [.int .i64 0] 25::c) w) az.length
  ⟨az.length+1,0,0,er,[],by omega,by omega,by omega,by simp,rfl,H.ord [2,1,5,0,4,3]⟩ ?_
 clear H;rintro n ⟨⟩ w ⟨f,a,x,q,aK,rfl,ag,ap,ax,he,H⟩ aa b7;unfold HV;refine an (x:=(a:Int)) 0 H rfl rfl rfl ?_;rw[aF];obtain⟨f,rfl⟩:∃ g,f=g+1:=⟨f-1,by omega⟩
 by_cases cA:a<az.length
 ·rw[if_pos (by simp; omega)];obtain⟨o,r,aC⟩:∃ o r,az.drop a=o::r:=by
   cases h:az.drop a with
   |nil=>have:=congrArg List.length h; simp at this; omega
   |cons o r=>exact⟨o,r,rfl⟩
  have re:r.length+1=az.length-a:=by
   have:=congrArg List.length aC;simp at this; omega
  rw[aC] at he;simp only[pX] at he;refine an (x:=(a:Int)) 0 H rfl rfl rfl ?_;refine eg (x:=(a:Int)) 1 H rfl rfl (Nat.le_of_ble_eq_true rfl) fun w H=>?_;have H:=H.front 1;refine an (x:=q) 2 H rfl rfl rfl ?_;have a5:q.len=aK.length:=ho (H.front 3);have TL:∀ (e:Int) (bS:Nat) (w:World),jY az=([],a,e)→E y (k9 eH s bS::aN cs [.int .i64 a] 3::aN aY [O.enc q] 134::row gG 133 5 q aK::aN bh [.int .i64 0] 3::aN bU [.int .i64 0] 25::c) w →
    xi ⟨cs,0,none⟩ ⟨aY,0,none⟩ ⟨bh,0,none⟩ ⟨bU,0,none⟩ (fun (r:X×Int×Int) I=>r.2.1=((jY az).2.1:Int)∧r.2.2=(jY az).2.2∧E y (row gG 133 5 r.1 (jY az).1::c) I) (uA e) w:=by
   intro e bS w he H;refine aeV (q:=q) (sJ:=0) (gf:=0) (H.ord [0,3]).drop.drop ?_
   ·intro I H;rw[he];exact⟨rfl,rfl,jW gG 133 5 H⟩
  by_cases h1000:aK.length=1000
  ·rw[if_pos (by simp; omega)];rw[if_pos h1000] at he;exact TL 20 a w he H
  ·rw[if_neg (by simp; omega)];rw[if_neg h1000] at he;refine dH H fun w H=>?_;refine an (x:=q) 2 H rfl rfl rfl ?_;refine azx lU aO (k.k0 [aN cs [.int .i64 a] 3,aN aY [O.enc q] 134,row gG 133 5 q aK,aN bh [.int .i64 0] 3,aN bU [.int .i64 0] 25]) ag aC H ?_ ?_
   ·intro e bS w Fw H;rw[Fw] at he;exact TL e bS w he H
   ·intro v oh bS w Fw z3 x3 H;rw[Fw] at he;refine⟨cW O (H.front 2) rfl rfl,?_⟩;refine me (fun _=>rfl) 3 H rfl (by simp; omega) fun od w H=>?_;refine eg (x:=od) 3 H rfl rfl (Nat.le_of_ble_eq_true rfl) fun w H=>?_;have KF:=SB Fw;have T9:oh.length=az.length-bS:=by rw[← x3,List.length_drop]
    simp only[List.length_cons] at KF;refine b7 (az.length-bS) () _ (by omega) ⟨f,bS,a,od,aK++[v],rfl,z3,by omega,by simp; omega,?_,H.ord [2,3,0,1]⟩;rw[he,x3];simp only;have BX:a+(r.length+1-oh.length)=bS:=by omega
    rw[BX]
 ·have ahY:a=az.length:=by omega
  rw[if_neg (by simp; omega)];rw[ahY,List.drop_length] at he;simp only[pX] at he;rw[he];refine an (x:=q) 2 H rfl rfl rfl ?_;refine eg (x:=q) 2 H rfl rfl (Nat.le_of_ble_eq_true rfl) fun w H=>?_;refine eg (x:=(0:Int)) 4 H rfl rfl (Nat.le_of_ble_eq_true rfl) fun w H=>?_;refine eg (x:=(0:Int)) 5 H rfl rfl (Nat.le_of_ble_eq_true rfl) fun w H=>?_;refine asx (args:=[]) ?_;refine an (x:=q) 2 H rfl rfl rfl ?_;refine an (x:=(0:Int)) 1 H rfl rfl rfl ?_;refine an (x:=(0:Int)) 0 H rfl rfl rfl ?_;refine⟨rfl,rfl,?_⟩;exact (H.ord [0,1,2,3,4]).drop.drop.drop.drop.drop
end
structure lg(aK:List dp):Prop where
 n4:∀ v∈aK,In v
 ok:∀ v∈aK,hH v=0
theorem lg.tail{v:dp}{aK:List dp}(h:lg (v::aK)):lg aK:=⟨fun x F=>h.n4 x (by simp[F]),fun x F=>h.ok x (by simp[F])⟩
theorem lg.k0{c m:List dp}(h:lg c)(k:lg m):lg (c++m):=⟨fun x F=>(List.mem_append.1 F).elim (h.n4 x) (k.n4 x),fun x F=>(List.mem_append.1 F).elim (h.ok x) (k.ok x)⟩
theorem lg.left{c m:List dp}(h:lg (c++m)):lg c:=⟨fun x F=>h.n4 x (by simp[F]),fun x F=>h.ok x (by simp[F])⟩
theorem lg.right{c m:List dp}(h:lg (c++m)):lg m:=⟨fun x F=>h.n4 x (by simp[F]),fun x F=>h.ok x (by simp[F])⟩
theorem azp{f a:Nat}{az r:List UInt8}{c:List dp}{v:dp}(h:jr az=.ok (v,r))(aj:c.length≠1000):pX (f+1) az c a=pX f r (c++[v]) (a+(az.length-r.length)):=by
 cases az with
 |nil=>simp[jr] at h
 |cons o az=>
  simp only[pX,h];rw[if_neg aj];rfl
theorem Zf:∀ {aK:List dp} {f a:Nat} {rest:List UInt8} {c:List dp},lg aK→c.length+aK.length≤1000→pX (f+aK.length) (g7 aK++rest) c a=pX f rest (c++aK.map mR) (a+(g7 aK).length)
 |[],f,a,rest,c,_,_=>by simp[g7]
 |v::aK,f,a,rest,c,h,aj=>by
  have ax:=h.ok v (by simp);have aq:=h.n4 v (by simp);simp only[List.length_cons] at aj;have e:g7 (v::aK)++rest=hE v++(g7 aK++rest):=by simp[g7]
  have aC:jr (g7 (v::aK)++rest)=.ok (mR v,g7 aK++rest):=by rw[e]; exact aft aq ax _
  rw[show f+(v::aK).length=(f+aK.length)+1 from by simp; omega,azp aC (by omega),Zf h.tail (by simp; omega)];have a0:(g7 (v::aK)++rest).length-(g7 aK++rest).length=(hE v).length:=by rw[e]; simp only[List.length_append]; omega
  have cS:(g7 (v::aK)).length=(hE v).length+(g7 aK).length:=by simp[g7]
  rw[a0,cS,Nat.add_assoc];simp
theorem Jz:∀ aK:List dp,aK.length≤(g7 aK).length
 |[]=>by simp
 |v::aK=>by
  have:=Jz aK;simp only[g7,List.flatMap_cons,List.length_append,List.length_cons] at *;have:1≤(hE v).length:=by simp[hE]
  omega
theorem azr{aK:List dp}{rest:List UInt8}(h:lg aK)(aj:aK.length≤1000):∃ f,rest.length<f∧jY (g7 aK++rest)=pX f rest (aK.map mR) (g7 aK).length:=by
 refine⟨(g7 aK++rest).length+1-aK.length,?_,?_⟩
 ·have:=Jz aK;rw[List.length_append]; omega
 ·have:=Jz aK;have e:(g7 aK++rest).length+1=((g7 aK++rest).length+1-aK.length)+aK.length:=by rw[List.length_append]; omega
  unfold jY;rw[e,Zf h (by simp; omega)];simp
theorem azq{aK:List dp}(h:lg aK)(aj:aK.length≤1000):jY (g7 aK)=(aK.map mR,0,0):=by
 obtain⟨f,ap,he⟩:=azr (rest:=[]) h aj;rw[List.append_nil] at he;rw[he];obtain⟨g,rfl⟩:∃ g,f=g+1:=⟨f-1,by omega⟩
 rfl
theorem GM:∀ {az:List UInt8} {k acc:Nat} {e:Int},rdNum az k acc=.error e→e≠0
 |[],k,acc,e,h=>by simp[rdNum] at h; omega
 |o::az,k,acc,e,h=>by
  simp only[rdNum] at h;split at h
  ·simp at h; omega
  ·split at h
   ·cases h
   ·exact GM h
theorem X8:∀ {i acc:Nat} {az:List UInt8} {e:Int},mA i acc az=.error e→e≠0
 |0,_,_,_,h=>by simp[mA] at h
 |i+1,acc,[],e,h=>by simp[mA] at h; omega
 |i+1,acc,o::az,e,h=>X8 (by simpa only[mA] using h)
theorem afu{az:List UInt8}{e:Int}(h:jr az=.error e):e≠0:=by
 cases az with
 |nil=>simp[jr] at h; omega
 |cons o az=>
  simp only[jr] at h;split at h
  ·split at h
   ·rename_i B; injection h with h; subst h; exact GM B
   ·cases h
  ·split at h
   ·split at h
    ·rename_i B; injection h with h; subst h; exact GM B
    ·cases h
   ·split at h
    ·split at h
     ·rename_i B; injection h with h; subst h; exact X8 B
     ·split at h
      ·simp at h; omega
      ·cases h
    ·split at h
     ·split at h
      ·rename_i B; injection h with h; subst h; exact GM B
      ·split at h
       ·simp at h; omega
       ·split at h
        ·simp at h; omega
        ·cases h
     ·simp at h; omega
theorem Zg:∀ {f a:Nat} {az:List UInt8} {c m:List dp} {p:Nat},az.length<f→c.length≤1000→pX f az c a=(m,p,0)→∃ yt,m=c++yt∧lg yt∧(∀ v∈yt,mR v=v)∧az=g7 yt∧m.length≤1000∧p=0
 |0,_,_,_,_,_,h,_,_=>by omega
 |f+1,a,[],c,m,p,_,aj,h=>by
  simp only[pX,Prod.mk.injEq] at h;obtain⟨rfl,rfl,_⟩:=h;exact⟨[],by simp,⟨by simp,by simp⟩,by simp,rfl,aj,rfl⟩
 |f+1,a,o::az,c,m,p,ap,aj,h=>by
  simp only[pX] at h;split at h
  ·simp at h
  ·rename_i B;split at h
   ·rename_i e he;simp only[Prod.mk.injEq] at h;exact absurd h.2.2 (afu he)
   ·rename_i v r aC;have KF:=SB aC;obtain⟨cD,dC,fx,jO⟩:=SC aC;obtain⟨yt,fj,fF,iT,kK,mo,iB⟩:=Zg (by simp at ap KF; omega) (by simp; omega) h;refine⟨v::yt,by rw[fj]; simp,⟨fun x F=>?_,fun x F=>?_⟩,fun x F=>?_,by rw[jO,kK]; simp[g7],mo,iB⟩
    ·rcases List.mem_cons.1 F with rfl | F
     ·exact cD
     ·exact fF.n4 x F
    ·rcases List.mem_cons.1 F with rfl | F
     ·exact dC
     ·exact fF.ok x F
    ·rcases List.mem_cons.1 F with rfl | F
     ·exact fx
     ·exact iT x F
theorem Zi{az:List UInt8}{m:List dp}(h:(jY az).2.2=0)(hm:(jY az).1=m):lg m∧(∀ v∈m,mR v=v)∧az=g7 m∧m.length≤1000:=by
 obtain⟨yt,fj,fF,iT,kK,mo,iB⟩:=Zg (f:=az.length+1) (a:=0) (az:=az) (c:=[]) (m:=m) (p:=(jY az).2.1) (by omega) (by simp) (by
  show jY az=_
  rw[← h,← hm])
 rw[List.nil_append] at fj;subst fj;exact⟨fF,iT,kK,mo⟩
end Wire
namespace Disk
open ba Wire
def G4(o:Int):Int:=bits .xor .u32 (Int.fdiv o (2^(min ((1:Int)).toNat IntKind.u32.bits))) (bits .and .u32 (IntKind.u32.wrap (0-(bits .and .u32 o (1:Int)))) (3988292384:Int))
def turns:Nat→Int→Int
 |0,o=>o
 |n+1,o=>turns n (G4 o)
def pK(o:Int):List UInt8→Int
 |[]=>o
 |x::xs=>pK (turns 8 (bits .xor .u32 o (IntKind.u32.wrap (x.toNat:Int)))) xs
def NM(a b:List UInt8):Int:=bits .xor .u32 IntKind.u32.max (pK (pK 4294967295 a) b)
def vE(a b:List UInt8):Nat:=(NM a b).toNat
theorem zM(op:BinOp)(a b:Int):0≤bits op .u32 a b∧bits op .u32 a b<4294967296:=by
 have h:∀ n:Int,0≤IntKind.u32.wrap n∧IntKind.u32.wrap n<4294967296:=by
  intro n;have:IntKind.u32.wrap n=n%4294967296:=by simp[IntKind.wrap,IntKind.bits,IntKind.signed]
  rw[this]; omega
 exact h _
theorem Ze:∀ (n:Nat) (o:Int),0≤o→o<4294967296→0≤turns n o∧turns n o<4294967296
 |0,o,am,B=>⟨am,B⟩
 |n+1,o,_,_=>Ze n (G4 o) (zM _ _ _).1 (zM _ _ _).2
theorem Wr:∀ (az:List UInt8) (o:Int),0≤o→o<4294967296→0≤pK o az∧pK o az<4294967296
 |[],o,am,B=>⟨am,B⟩
 |x::xs,o,am,B=>by
  have h:=Ze 8 (bits .xor .u32 o (IntKind.u32.wrap (x.toNat:Int))) (zM _ _ _).1 (zM _ _ _).2;exact Wr xs _ h.1 h.2
theorem YW(a b:List UInt8):((vE a b:Nat):Int)=NM a b:=by
 have:=(zM .xor IntKind.u32.max (pK (pK 4294967295 a) b)).1;unfold vE;exact Int.toNat_of_nonneg this
theorem YX(a b:List UInt8):vE a b<4294967296:=by
 have:=(zM .xor IntKind.u32.max (pK (pK 4294967295 a) b)).2;have h:=YW a b;unfold NM at h;omega
def fv(x:List UInt8):List UInt8:=be 4 x.length++(be 4 (vE (be 4 x.length) x)++x)
def gI(c:List (List UInt8)):List UInt8:=c.flatMap fv
theorem uB(x:List UInt8):(fv x).length=8+x.length:=by simp[fv,rW]; omega
def nK:List UInt8→Nat
 |a::b::o::d::_=>((a.toNat*256+b.toNat)*256+o.toNat)*256+d.toNat
 |_=>0
theorem Ny{n:Nat}(h:n<4294967296)(rest:List UInt8):nK (be 4 n++rest)=n:=by
 have am:(UInt8.ofNat (n/256^3%256)).toNat=n/16777216%256:=by rw[w7 (by omega)]
 have B:(UInt8.ofNat (n/256^2%256)).toNat=n/65536%256:=by rw[w7 (by omega)]
 have J:(UInt8.ofNat (n/256^1%256)).toNat=n/256%256:=by rw[w7 (by omega)]
 have au:(UInt8.ofNat (n/256^0%256)).toNat=n%256:=by rw[w7 (by omega)]; simp
 simp only[be,List.cons_append,nK,am,B,J,au];omega
def nI(az:List UInt8):Except Int (List UInt8×Nat):=
 if az.length<8 then .error 31 else if 65536<nK az then .error 30 else if az.length-8<nK az then .error 31
 else if vE (az.take 4) ((az.drop 8).take (nK az))≠nK (az.drop 4) then .error 32 else .ok ((az.drop 8).take (nK az),8+nK az)
theorem avR{x:List UInt8}(h:x.length≤65536)(rest:List UInt8):nI (fv x++rest)=.ok (x,8+x.length):=by
 have e:fv x++rest=be 4 x.length++(be 4 (vE (be 4 x.length) x)++(x++rest)):=by simp[fv]
 have k8:nK (fv x++rest)=x.length:=by rw[e]; exact Ny (by omega) _
 have d4:(fv x++rest).drop 4=be 4 (vE (be 4 x.length) x)++(x++rest):=by
  rw[e]; exact List.drop_left' (rW 4 _)
 have t4:(fv x++rest).take 4=be 4 x.length:=by rw[e]; exact List.take_left' (rW 4 _)
 have d8:(fv x++rest).drop 8=x++rest:=by
  have:(fv x++rest).drop 8=((fv x++rest).drop 4).drop 4:=by rw[List.drop_drop]
  rw[this,d4]; exact List.drop_left' (rW 4 _)
 have aj:(fv x++rest).length=8+x.length+rest.length:=by rw[List.length_append,uB]
 unfold nI;rw[k8,d4,t4,d8,Ny (YX _ _),aj,List.take_left];rw[if_neg (by omega),if_neg (by omega),if_neg (by omega),if_neg (by simp)]
theorem avQ{x p q:List UInt8}(h:x.length≤65536)(he:fv x=p++q)(a5:q≠[]):∃ e,nI p=.error e:=by
 have aj:=congrArg List.length he;rw[uB,List.length_append] at aj;have jR:q.length≠0:=fun e=>a5 (List.eq_nil_of_length_eq_zero e);unfold nI;by_cases o:p.length<8
 ·exact⟨31,if_pos o⟩
 ·have ak:p.take 4=be 4 x.length:=by
   have:=congrArg (List.take 4) he;rw[List.take_append_of_le_length (by omega)] at this;rw[← this,fv]; exact List.take_left' (rW 4 _)
  have aH:p=be 4 x.length++p.drop 4:=by rw[← ak,List.take_append_drop]
  have k8:nK p=x.length:=by rw[aH]; exact Ny (by omega) _
  rw[k8,if_neg o,if_neg (by omega),if_pos (by omega)];exact⟨31,rfl⟩
theorem MC{az x:List UInt8}{n:Nat}(h:nI az=.ok (x,n)):n≤az.length∧8≤n∧n=8+x.length∧x.length≤65536:=by
 unfold nI at h;split at h
 ·cases h
 ·split at h
  ·cases h
  ·split at h
   ·cases h
   ·split at h
    ·cases h
    ·simp only[Except.ok.injEq,Prod.mk.injEq] at h;obtain⟨B,J⟩:=h;have:x.length=nK az:=by rw[← B,List.length_take,List.length_drop]; omega
     omega
def qL:Nat→List UInt8→List (List UInt8)→Nat→List (List UInt8)×Nat
 |0,_,c,a=>(c,a)
 |f+1,az,c,a=>match nI az with
  |.error _=>(c,a)
  |.ok (x,n)=>qL f (az.drop n) (c++[x]) (a+n)
def scan(az:List UInt8):List (List UInt8)×Nat:=qL (az.length+1) az [] 0
def Small(c:List (List UInt8)):Prop:=∀ x∈c,x.length≤65536
theorem YF:∀ {c:List (List UInt8)} {f a:Nat} {p:List UInt8} {m:List (List UInt8)},Small c→(∃ e,nI p=.error e)→c.length<f→qL f (gI c++p) m a=(m++c,a+(gI c).length)
 |[],f,a,p,m,_,⟨e,he⟩,ap=>by
  obtain⟨g,rfl⟩:∃ g,f=g+1:=⟨f-1,by simp at ap; omega⟩
  simp[gI,qL,he]
 |x::c,f,a,p,m,aF,aH,ap=>by
  obtain⟨g,rfl⟩:∃ g,f=g+1:=⟨f-1,by simp at ap; omega⟩
  have F:x.length≤65536:=aF x (by simp);have e:gI (x::c)++p=fv x++(gI c++p):=by simp[gI]
  simp only[qL];rw[e,avR F];simp only;rw[show (fv x++(gI c++p)).drop (8+x.length)=gI c++p from List.drop_left' (uB x)];rw[YF (fun N aJ=>aF N (by simp[aJ])) aH (by simp at ap; omega)];have a0:(gI (x::c)).length=8+x.length+(gI c).length:=by
   have:gI (x::c)=fv x++gI c:=by simp[gI]
   rw[this,List.length_append,uB]
  rw[a0];simp; omega
theorem To:∀ c:List (List UInt8),c.length≤(gI c).length
 |[]=>by simp
 |x::c=>by
  have:=To c;have e:gI (x::c)=fv x++gI c:=by simp[gI]
  rw[e,List.length_append,uB];simp; omega
theorem aye{c:List (List UInt8)}{p:List UInt8}(aF:Small c)(aH:∃ e,nI p=.error e):scan (gI c++p)=(c,(gI c).length):=by
 unfold scan;rw[YF aF aH (by have:=To c; rw[List.length_append]; omega)];simp
theorem Tn:∀ (c:List (List UInt8)) (n:Nat),Small c→n≤(gI c).length→∃ i p,i≤c.length∧(gI c).take n=gI (c.take i)++p∧(∃ e,nI p=.error e)∧∀ k,(gI (c.take k)).length≤n→k≤c.length→k≤i
 |[],n,_,h=>⟨0,[],by simp,by simp[gI],⟨31,rfl⟩,fun k _ h=>by simpa using h⟩
 |x::c,n,aF,h=>by
  have e:gI (x::c)=fv x++gI c:=by simp[gI]
  have F:x.length≤65536:=aF x (by simp);rw[e,List.length_append] at h;rw[e];by_cases o:n<(fv x).length
  ·refine⟨0,(fv x).take n,by simp,?_,?_,?_⟩
   ·rw[List.take_append_of_le_length (by omega)]; simp[gI]
   ·refine avQ F (List.take_append_drop n _).symm ?_;intro am;have:=congrArg List.length am;rw[List.length_drop] at this;simp at this; omega
   ·intro k al Cs;cases k with
    |zero=>omega
    |succ k=>
     have a0:gI ((x::c).take (k+1))=fv x++gI (c.take k):=by simp[gI]
     rw[a0,List.length_append] at al;omega
  ·obtain⟨i,p,B,J,au,a8⟩:=Tn c (n-(fv x).length) (fun N aJ=>aF N (by simp[aJ])) (by omega);refine⟨i+1,p,by simp; omega,?_,au,?_⟩
   ·rw[List.take_append,List.take_of_length_le (by omega),J]; simp[gI]
   ·intro k al Cs;cases k with
    |zero=>omega
    |succ k=>
     have a0:gI ((x::c).take (k+1))=fv x++gI (c.take k):=by simp[gI]
     rw[a0,List.length_append] at al;have:=a8 k (by omega) (by simpa using Cs);omega
theorem vR(n:Int):IntKind.u32.wrap n=n%4294967296:=by simp[IntKind.wrap,IntKind.bits,IntKind.signed]
theorem Oj(n:Int)(am:0≤n)(B:n<2^32):IntKind.u32.wrap n=n:=by rw[vR]; omega
section
variable {y w:World} {c bx:List bt} {s:X} {az:List UInt8}
theorem auC{S:Type}{T:a_ S}{t:TypeId}{ao U:Nat}{o:Int}{aL:S}{aa:X→World→Prop}(aj:∀ x,(T.cells x).length=ao)(am:0≤o)(B:(U:Int)*o≤281474976710656)(J:o≤9223372036854775807)(H:E y c w)
  (al:∀ r I,E y (row T t ao r []::c) I→aa r I):vn t T U aL 0 o w aa:=
 ⟨Int.le_refl _,am,B,J,al _ _ (rA (rest:=(List.replicate o.toNat aL).flatMap T.cells) rfl rfl (by simp) (by rw[lR aj]; simp) (H.alloc _))⟩
theorem Wq{o:Int}(am:0≤o)(B:o<4294967296)(aO:az.length≤9223372036854775806)(k:c0 1 c (D .u8) s (ai az))(H:E y c w) :
  L Pg 209 [.int .u32 o,O.enc s] (D .u32) w fun r I=>r=pK o az∧E y c I:=by
 have aF:=k.len H;rw[fr] at aF;refine abz ?_;unfold P6;refine hU (fun p w=>0≤p.2∧p.2≤az.length∧pK o az=pK p.1 (az.drop p.2.toNat)∧E y c w) (fun p=>(az.length-p.2).toNat) ⟨Int.le_refl 0,by simp only; omega,rfl,H⟩ ?_;clear H;rintro⟨d,i⟩ w ⟨i0,i1,he,H⟩ aa b7;simp only at i0 i1 he;unfold Ih;rw[aF];split
 ·rename_i aq;have aq:i<az.length:=by simpa using aq
  have aC:az.drop i.toNat=az[i.toNat]::az.drop (i.toNat+1):=List.drop_eq_getElem_cons (by omega);have F:(ai az)[i.toNat]?=some (az[i.toNat].toNat:Int):=by
   simp only[ai,List.getElem?_map,List.getElem?_eq_getElem (show i.toNat<az.length by omega),Option.map_some]
  rw[aC] at he;generalize az[i.toNat]=x at F he;obtain⟨a,ag⟩:=k.jI (i:=i) H i0 (by rw[fr]; omega);refine aQ a ag ?_;refine aQ (x.toNat:Int) (k.rd ag F H) ?_;refine hU (fun p w=>∃ l:Nat,l≤8∧p.2=(l:Int)∧turns (8-l) p.1=turns 8 (bits .xor .u32 d (IntKind.u32.wrap (x.toNat:Int)))∧E y c w) (fun p=>(8-p.2).toNat) ⟨0,by omega,rfl,rfl,H⟩ ?_;clear H;rintro⟨q,l⟩ w ⟨l,a7,rfl,a5,H⟩ tT ql;unfold Ii;split
  ·rename_i W;have W:l<8:=by simp at W; omega
   refine pU (by omega) ?_;have wv:8-l=(8-(l+1))+1:=by omega
   rw[wv] at a5;have a5:turns (8-(l+1)) (G4 q)=turns 8 (bits .xor .u32 d (IntKind.u32.wrap (x.toNat:Int))):=a5;unfold G4 at a5;have afH:IntKind.i64.wrap ((l:Int)+1)=((l+1:Nat):Int):=by rw[oK]; omega
   rw[afH];generalize turns 8 (bits .xor .u32 d (IntKind.u32.wrap (x.toNat:Int)))=aL at a5 ql;generalize (bits .xor .u32 (Int.fdiv q (2^(min ((1:Int)).toNat IntKind.u32.bits))) (bits .and .u32 (IntKind.u32.wrap (0-(bits .and .u32 q (1:Int)))) (3988292384:Int)))=N at a5 ⊢;exact ql _ _ ⟨l+1,by omega,rfl,a5,H⟩ (by simp only; omega)
  ·rename_i W;have W:l=8:=by simp at W; omega
   subst W;have aT:IntKind.i64.wrap (i+1)=i+1:=wrap_i64 (by omega) (by omega);rw[aT];rw[Nat.sub_self] at a5;have a5:q=turns 8 (bits .xor .u32 d (IntKind.u32.wrap (x.toNat:Int))):=a5;refine b7 _ _ ⟨by simp only; omega,by simp only; omega,?_,H⟩ (by simp only; omega);simp only;have a0:(i+1).toNat=i.toNat+1:=by omega
   rw[he,a0,a5,pK]
 ·rename_i aq;have aq:i=az.length:=by simp at aq; omega
  subst aq;refine⟨?_,H⟩;rw[he]; simp[pK]
theorem Sh{s1 s2:X}{gn gR:List UInt8}(o6:gn.length≤9223372036854775806)(wA:gR.length≤9223372036854775806)(fj:c0 1 c (D .u8) s1 (ai gn))(fF:c0 1 c (D .u8) s2 (ai gR))(H:E y c w) :
  L Pg 183 [O.enc s1,O.enc s2] (D .u32) w fun r I=>r=(vE gn gR:Nat)∧E y c I:=by
 refine abc ?_;unfold PQ;refine aE (Wq (by decide) (by decide) o6 fj H) ?_;rintro r w ⟨rfl,H⟩;have h:=Wr gn 4294967295 (by decide) (by decide);refine aE (Wq h.1 h.2 wA fF H) ?_;rintro r w ⟨rfl,H⟩;exact⟨(YW gn gR).symm,H⟩
theorem Tl{n:Nat}{xs:List Int}(aO:n<4294967296)(aA:xs.length≤100000000)(i:Nat)(H:E y c w)(aq:front i c=row (D .u8) 5 1 s xs::bx) :
  L Pg 188 [O.enc s,.int .u32 n] O w fun r I=>E y (row (D .u8) 5 1 r (xs++ai (be 4 n))::bx) I:=by
 refine abh ?_;unfold PR;refine pU (by omega) ?_;refine pU (by omega) ?_;refine pU (by omega) ?_;have eR:min ((24:Int)).toNat IntKind.u32.bits=24:=rfl;have f_:min ((16:Int)).toNat IntKind.u32.bits=16:=rfl;have fQ:min ((8:Int)).toNat IntKind.u32.bits=8:=rfl;rw[eR,f_,fQ,B9,B9,B9,AT rfl,AT rfl,AT rfl,AT rfl];have e:∀ m:Nat,(UInt8.ofNat m)=UInt8.ofNat (m%256):=fun m=>UInt8.toNat_inj.1 (by simp);have ah2:[((UInt8.ofNat (n/2^24)).toNat:Int),(UInt8.ofNat (n/2^16)).toNat,(UInt8.ofNat (n/2^8)).toNat,(UInt8.ofNat n).toNat]=ai (be 4 n):=by
  rw[e (n/2^24),e (n/2^16),e (n/2^8),e n];simp[ai,be]
 rw[ah2];refine me (fun _=>rfl) i H aq (by rw[fr,rW]; omega) fun r w H=>H
theorem Yf(aO:az.length≤9223372036854775806)(a8:4≤az.length)(k:c0 1 c (D .u8) s (ai az))(H:E y c w) :
  L Pg 182 [O.enc s] (D .u32) w fun r I=>r=(nK az:Nat)∧E y c I:=by
 refine abb ?_;unfold PP;obtain⟨dk,bF,bP,di,rest,rfl⟩:∃ dk bF bP di rest,az=dk::bF::bP::di::rest:=by
  rcases az with _ | ⟨dk,_ | ⟨bF,_ | ⟨bP,_ | ⟨di,rest⟩⟩⟩⟩
  ·simp at a8
  ·simp at a8
  ·simp at a8
  ·simp at a8
  ·exact⟨dk,bF,bP,di,rest,rfl⟩
 refine dH H fun w H=>?_;obtain⟨iL,am⟩:=k.jI (i:=0) H (by omega) (by rw[fr]; omega);obtain⟨dM,B⟩:=k.jI (i:=1) H (by omega) (by rw[fr]; omega);obtain⟨aY,J⟩:=k.jI (i:=2) H (by omega) (by rw[fr]; omega);obtain⟨aI,au⟩:=k.jI (i:=3) H (by omega) (by rw[fr]; omega);refine aQ iL am ?_;refine aQ dM B ?_;refine aQ aY J ?_;refine aQ aI au ?_;refine aQ (dk.toNat:Int) (k.rd am (by simp[ai]) H) ?_;refine pU (by omega) ?_;refine aQ (bF.toNat:Int) (k.rd B (by simp[ai]) H) ?_;refine pU (by omega) ?_;refine aQ (bP.toNat:Int) (k.rd J (by simp[ai]) H) ?_;refine pU (by omega) ?_;refine aQ (di.toNat:Int) (k.rd au (by simp[ai]) H) ?_;refine⟨?_,H⟩;have gr:=dk.toNat_lt;have cD:=bF.toNat_lt;have dC:=bP.toNat_lt;have fx:=di.toNat_lt;have eR:min ((24:Int)).toNat IntKind.u32.bits=24:=rfl;have f_:min ((16:Int)).toNat IntKind.u32.bits=16:=rfl;have fQ:min ((8:Int)).toNat IntKind.u32.bits=8:=rfl;rw[eR,f_,fQ]
 have gf:IntKind.u32.wrap (IntKind.u32.wrap (dk.toNat:Int)*2^24)=(dk.toNat:Int)*16777216:=by rw[vR,vR]; omega
 have aT:IntKind.u32.wrap (IntKind.u32.wrap (bF.toNat:Int)*2^16)=(bF.toNat:Int)*65536:=by rw[vR,vR]; omega
 have a0:IntKind.u32.wrap (IntKind.u32.wrap (bP.toNat:Int)*2^8)=(bP.toNat:Int)*256:=by rw[vR,vR]; omega
 have cS:IntKind.u32.wrap (di.toNat:Int)=(di.toNat:Int):=by rw[vR]; omega
 rw[gf,aT,a0,cS];rw[bits_join .u32 32 (by decide) Oj 24 ((dk.toNat:Int)*16777216) ((bF.toNat:Int)*65536) (by omega) (by omega) (by omega) (by omega) (by omega) (by omega)];rw[bits_join .u32 32 (by decide) Oj 16 ((dk.toNat:Int)*16777216+(bF.toNat:Int)*65536) ((bP.toNat:Int)*256) (by omega) (by omega) (by omega) (by omega) (by omega) (by omega)];rw[bits_join .u32 32 (by decide) Oj 8 ((dk.toNat:Int)*16777216+(bF.toNat:Int)*65536+(bP.toNat:Int)*256) (di.toNat:Int) (by omega) (by omega) (by omega) (by omega) (by omega) (by omega)];simp only[nK];omega
theorem ayh(aO:az.length≤9223372036854775806)(k:c0 1 c (D .u8) s (ai az))(H:E y c w) :
  L Pg 158 [O.enc s] (bJ O (D .i64)) w fun r I=>(65536<az.length→r=(er,30)∧E y c I)∧(az.length≤65536→r.2=0∧E y (row (D .u8) 5 1 r.1 (ai (fv az))::c) I):=by
 have aF:=k.len H;rw[fr] at aF;refine aaV ?_;unfold Pz;rw[aF];split
 ·rename_i W;have W:65536<az.length:=by simp at W; omega
  exact⟨fun _=>⟨rfl,H⟩,fun h=>by omega⟩
 ·rename_i W;have W:az.length≤65536:=by simp at W; omega
  have aT:IntKind.i64.wrap (8+(az.length:Int))=8+(az.length:Int):=wrap_i64 (by omega) (by omega);rw[aT];refine auC (ao:=1) (fun _=>rfl) (by omega) (by omega) (by omega) H fun r w H=>?_;have a0:IntKind.u32.wrap (az.length:Int)=((az.length:Nat):Int):=by rw[vR]; omega
  rw[a0];refine aE (Tl (by omega) (by simp) 0 H rfl) ?_;intro r w H;rw[List.nil_append] at H;refine aE (Sh (by rw[rW]; omega) aO (c0.row (fun _=>rfl) 0 rfl) k.tail H) ?_;rintro q w ⟨rfl,H⟩;refine aE (Tl (YX _ _) (by rw[fr,rW]; omega) 0 H rfl) ?_;intro r w H;rw[← tS] at H;refine zJ (fun _=>rfl) 0 H rfl (k.tail.y2 H) (by simp[fr,rW]; omega) fun r w H=>?_;rw[← tS,List.append_assoc] at H;exact⟨fun h=>by omega,fun _=>⟨rfl,H⟩⟩
theorem Et(az:List UInt8)(n:Nat):ai (az.take n)=(ai az).take n:=by simp[ai,List.map_take]
theorem HG(az:List UInt8)(n:Nat):ai (az.drop n)=(ai az).drop n:=by simp[ai,List.map_drop]
theorem MB(lU:s.len≤s.cap)(aO:az.length≤9223372036854775806)(k:cn c (dL (D .u8) s (ai az)))(H:E y c w) :
  L Pg 154 [O.enc s] (qO O (D .i64) (D .i64)) w fun r I=>match nI az with
   |.error e=>r.2.2=e∧e≠0∧E y c I
   |.ok (x,n)=>r.2.2=0∧r.2.1=(n:Nat)∧r.1.len≤r.1.cap∧E y (ro (D .u8) r.1 (ai x)::c) I:=by
 have aF:=k.len H;rw[fr] at aF;have bu:c0 1 c (D .u8) s (ai az):=c0.ro (fun _=>rfl) k;refine aaS ?_;unfold Pw nI;rw[aF];by_cases W:az.length<8
 ·rw[if_pos (show decide ((az.length:Int)<8)=true by simp; omega),if_pos W];exact⟨rfl,by decide,H⟩
 ·rw[if_neg (show ¬ decide ((az.length:Int)<8)=true by simp; omega),if_neg W];have W:8≤az.length:=by omega
  refine aE (Yf aO (by omega) bu H) ?_;rintro r w ⟨rfl,H⟩;have KS:nK az<4294967296:=by
   obtain⟨dk,bF,bP,di,rest,rfl⟩:∃ dk bF bP di rest,az=dk::bF::bP::di::rest:=by
    rcases az with _ | ⟨dk,_ | ⟨bF,_ | ⟨bP,_ | ⟨di,rest⟩⟩⟩⟩
    ·simp at W
    ·simp at W
    ·simp at W
    ·simp at W
    ·exact⟨dk,bF,bP,di,rest,rfl⟩
   have gr:=dk.toNat_lt;have cD:=bF.toNat_lt;have dC:=bP.toNat_lt;have fx:=di.toNat_lt;simp only[nK]; omega
  generalize nK az=n at KS;have aT:IntKind.i64.wrap (n:Int)=(n:Int):=wrap_i64 (by omega) (by omega);have a0:IntKind.i64.wrap ((az.length:Int)-8)=(az.length:Int)-8:=wrap_i64 (by omega) (by omega);rw[aT,a0];by_cases B:65536<n
  ·rw[if_pos (show decide ((n:Int)>65536)=true by simp; omega),if_pos B];exact⟨rfl,by decide,H⟩
  ·rw[if_neg (show ¬ decide ((n:Int)>65536)=true by simp; omega),if_neg B];by_cases J:az.length-8<n
   ·rw[if_pos (show decide ((n:Int)>(az.length:Int)-8)=true by simp; omega),if_pos J];exact⟨rfl,by decide,H⟩
   ·rw[if_neg (show ¬ decide ((n:Int)>(az.length:Int)-8)=true by simp; omega),if_neg J];have cS:IntKind.i64.wrap (8+(n:Int))=8+(n:Int):=wrap_i64 (by omega) (by omega);rw[cS];refine dH H fun w H=>?_;refine nn (by omega) (by omega) (by omega) (by omega) fun YC b_=>?_;refine nn (by omega) (by omega) (by omega) (by omega) fun tG hv=>?_;refine nn (by omega) (by omega) (by omega) (by omega) fun DC r5=>?_;have mo:=k.sub (fun _=>rfl) b_ (by rw[fr]; omega);have iB:=k.sub (fun _=>rfl) hv (by rw[fr]; omega);have qx:=k.sub (fun _=>rfl) r5 (by rw[fr]; omega);have n1:((ai az).take ((4:Int)).toNat).drop ((0:Int)).toNat=ai (az.take 4):=by rw[Et]; rfl
    have ur:((ai az).take (8+(n:Int)).toNat).drop ((8:Int)).toNat=ai ((az.drop 8).take n):=by
     have:(8+(n:Int)).toNat=8+n:=by omega
     rw[this,Et,HG,List.take_drop]; rfl
    have R_:((ai az).take (az.length:Int).toNat).drop ((4:Int)).toNat=ai (az.drop 4):=by
     rw[HG,List.take_of_length_le (by rw[fr]; omega)]; rfl
    rw[n1] at mo;rw[ur] at iB;rw[R_] at qx;refine aE (Sh (by simp; omega) (by simp; omega) (c0.ro (fun _=>rfl) mo) (c0.ro (fun _=>rfl) iB) H) ?_;rintro r w ⟨rfl,H⟩;refine aE (Yf (by simp; omega) (by simp; omega) (c0.ro (fun _=>rfl) qx) H) ?_;rintro r w ⟨rfl,H⟩;by_cases a5:vE (az.take 4) ((az.drop 8).take n)≠nK (az.drop 4)
    ·rw[if_pos (by simp; omega),if_pos a5];exact⟨rfl,by decide,H⟩
    ·rw[if_neg (by simp at a5 ⊢; omega),if_neg a5];refine sE H fun b w H=>?_;have H:=rz (ao:=1) (m:=0) rfl H;refine nn (by omega) (by omega) (by omega) (by omega) fun y6 ahq=>?_;have o_:=k.sub (fun _=>rfl) ahq (by rw[fr]; omega);rw[ur] at o_;refine zJ (fun _=>rfl) 0 H rfl (o_.tail.y2 H) (by simp[fr]; omega) fun r w H=>?_;rw[List.nil_append] at H;have sy:((az.drop 8).take n).length=n:=by rw[List.length_take,List.length_drop]; omega
     have re:=ho H;have FC:=AL H;rw[fr,sy] at re;refine nn (by omega) (by omega) (by omega) (by omega) fun GW ahr=>?_;obtain⟨ahs,H⟩:=NF (fun _=>rfl) ahr (by rw[fr,sy]; omega) H;have BX:(ai ((az.drop 8).take n)).take (n:Int).toNat=ai ((az.drop 8).take n):=List.take_of_length_le (by rw[fr,sy]; omega);rw[BX] at H;exact⟨rfl,by simp,by rw[ahs]; exact Nat.le_refl _,GR H⟩
end
abbrev mM:=v1
abbrev mc:=zC
abbrev ug:=xv
structure eW where
 b:List UInt8
 sure:Nat
structure eQ where
 e_:List eW
 j5:Int
 down:Bool
 hD:Int
 bL:List Int
structure eQ.j4(ah:eQ):Prop where
 len:ah.e_.length≤16
 log:∀ g∈ah.e_,g.sure≤g.b.length∧g.b.length≤4194304
def kept(bL:List Int)(i:Nat)(g:eW):Nat:=g.sure+match bL[i]? with
 |none=>0
 |some k=>(min (max k 0) ((g.b.length:Int)-g.sure)).toNat
def lN(bL:List Int)(i:Nat)(g:eW):eW:=⟨g.b.take (kept bL i g),kept bL i g⟩
def j8(bL:List Int)(ah:eQ):eQ:=if ah.down then ah else { ah with down:=true,hD:=0,e_:=ah.e_.mapIdx (lN bL) }
def nv(ah:eQ)(n size:Int)(f:eW→eW):eQ×Int:=
 if ¬ (0≤n∧n<ah.e_.length) then (ah,70) else if ah.down then (ah,71) else if 4194304<size then (ah,72)
 else if ah.hD=1 then (j8 ah.bL ah,71)
 else ({ ah with hD:=if 1<ah.hD then IntKind.i64.wrap (ah.hD-1) else ah.hD,j5:=IntKind.i64.wrap (ah.j5+1),e_:=ah.e_.modify n.toNat f },0)
theorem FP{bL:List Int}{i:Nat}{g:eW}(h:g.sure≤g.b.length):g.sure≤kept bL i g∧kept bL i g≤g.b.length:=by
 unfold kept;cases bL[i]? with
 |none=>simp only; omega
 |some k=>simp only; omega
theorem Sz{bL:List Int}{ah:eQ}(h:ah.j4):(j8 bL ah).j4:=by
 unfold j8;split
 ·exact h
 ·refine⟨by simpa using h.len,fun g ae=>?_⟩;simp only[List.mem_mapIdx] at ae;obtain⟨i,aq,rfl⟩:=ae;have B:=h.log ah.e_[i] (List.getElem_mem _);have J:=FP (bL:=bL) (i:=i) B.1;simp only[lN,List.length_take];omega
section
variable {y w:World} {c bx:List bt}
def h3(p:X×eW):bt:=row (D .u8) 5 1 p.1 (ai p.2.b)
def kM(p:X×eW):mM:=⟨p.1,p.2.sure⟩
def fi(d:Nat)(ah:eQ):bt:=fE fun s:X=>fE fun P:List (X×eW)=>fE fun bk:X=>de [jT (P.map Prod.snd=ah.e_),aN d (ug.cells ⟨s,ah.j5,ah.down,ah.hD,bk⟩) 112,row mc 203 2 s (P.map kM),de (P.map h3),row (D .i64) 3 1 bk ah.bL]
theorem uw{d:Nat}{ah:eQ}(H:E y (fi d ah::c) w):∃ (s:X) (P:List (X×eW)) (bk:X),P.map Prod.snd=ah.e_∧E y (aN d (ug.cells ⟨s,ah.j5,ah.down,ah.hD,bk⟩) 112::row mc 203 2 s (P.map kM)::de (P.map h3)::row (D .i64) 3 1 bk ah.bL::c) w:=by
 obtain⟨s,H⟩:=H.ex;obtain⟨P,H⟩:=H.ex;obtain⟨bk,H⟩:=H.ex;have H:=H.open_;obtain⟨h,H⟩:=E.sM (eK:=P.map Prod.snd=ah.e_) H;exact⟨s,P,bk,h,H⟩
theorem oY{d:Nat}{ah:eQ}{s bk:X}{P:List (X×eW)}(h:P.map Prod.snd=ah.e_)(H:E y (aN d (ug.cells ⟨s,ah.j5,ah.down,ah.hD,bk⟩) 112::row mc 203 2 s (P.map kM)::de (P.map h3)::row (D .i64) 3 1 bk ah.bL::c) w):E y (fi d ah::c) w:=
 E.kQ s (E.kQ P (E.kQ bk (E.shut (bx:=[jT _,_,_,_,_]) (E.rD h H))))
theorem AR{S:Type}{P:List S}{i:Nat}{p:S}(h:P[i]?=some p):∃ fs gX,P=fs++p::gX∧fs.length=i:=by
 have aq:=(List.getElem?_eq_some_iff.1 h).1;refine⟨P.take i,P.drop (i+1),?_,by rw[List.length_take]; omega⟩;have:=(List.getElem?_eq_some_iff.1 h).2;rw[← this,← List.drop_eq_getElem_cons aq,List.take_append_drop]
theorem Mg{n:Int}(am:1≤n)(B:n≤16)(H:E y c w):L Pg 14 [.int .i64 n] (bJ aM (D .i64)) w fun r I=>r.2=0∧∃ d,r.1=some ⟨d,0,none⟩∧E y (fi d ⟨List.replicate n.toNat ⟨[],0⟩,0,false,0,[]⟩::c) I:=by
 refine aaP ?_;unfold Pl;rw[if_neg (by simp; omega)];refine C7 (ao:=2) (by omega) (by omega) (by omega) H fun b w H=>?_;refine cj H fun d w H=>?_;refine⟨rfl,d,rfl,?_⟩;refine oY (s:=⟨some ⟨b,0,none⟩,n.toNat,n.toNat⟩) (P:=List.replicate n.toNat (er,⟨[],0⟩)) (bk:=er) (by simp) ?_;have hm:(List.replicate n.toNat (er,(⟨[],0⟩:eW))).map kM=List.replicate n.toNat (⟨er,0⟩:mM):=by simp[kM]
 rw[hm];have aO:∀ (m:Nat) {c:List bt},E y c w→E y (de ((List.replicate m (er,(⟨[],0⟩:eW))).map h3)::c) w:=by
  intro m;induction m with
  |zero=>intro c H; exact E.shut (bx:=[]) H
  |succ m b8=>
   intro c H;have J:(List.replicate (m+1) (er,(⟨[],0⟩:eW))).map h3=h3 (er,⟨[],0⟩)::(List.replicate m (er,(⟨[],0⟩:eW))).map h3:=by rw[List.replicate_succ,List.map_cons]
   rw[J];have H:=jW (D .u8) 5 1 (b8 H)
   exact E.shut (bx:=h3 (er,⟨[],0⟩)::_) ((H.front 1).open_ |> fun H=>H.perm (by
    simp only[List.cons_append]
    exact List.perm_middle))
 have H:=aO n.toNat (jW (D .i64) 3 1 H);exact H.ord [2,3,0,1]
theorem Fv{d:Nat}{ah:eQ}{n:Int}(H:E y (fi d ah::c) w):L Pg 153 [.pointer (some ⟨d,0,none⟩),.int .i64 n] bi w fun r I=>r=decide (0≤n∧n<ah.e_.length)∧E y (fi d ah::c) I:=by
 obtain⟨s,P,bk,gA,H⟩:=uw H;refine aaR ?_;unfold Pv;have aF:=ho (H.front 1);rw[List.length_map] at aF;have aj:P.length=ah.e_.length:=by rw[← gA,List.length_map]
 refine aQ ⟨d,0,none⟩ (fun _=>rfl) ?_;refine aQ s (fun _=>cW O H rfl rfl) ?_;refine⟨?_,oY gA H⟩;rw[aF,aj,Bool.eq_iff_iff,Bool.and_eq_true,decide_eq_true_eq,decide_eq_true_eq,decide_eq_true_eq]
theorem Am{P:List (X×eW)}{i:Nat}{p:X×eW}(h:P[i]?=some p)(H:E y (de (P.map h3)::c) w):E y (h3 p::fE (fun fs:List (X×eW)=>fE fun gX:List (X×eW)=>de [jT (P=fs++p::gX∧fs.length=i),de ((fs++gX).map h3)])::c) w:=by
 obtain⟨fs,gX,B,J⟩:=AR h;subst B;have H:=xM H;have H:=H.front 1;have H:=E.rD (eK:=fs++p::gX=fs++p::gX∧fs.length=i) ⟨rfl,J⟩ H;have H:=E.shut (bx:=[jT _,de _]) H;exact (E.kQ (f:=fun IZ:List (X×eW)=>fE fun Bz:List (X×eW)=>de [jT (fs++p::gX=IZ++p::Bz∧IZ.length=i),de ((IZ++Bz).map h3)]) fs (E.kQ (f:=fun Bz:List (X×eW)=>de [jT (fs++p::gX=fs++p::Bz∧fs.length=i),de ((fs++Bz).map h3)]) gX H)).front 1
theorem VJ{P:List (X×eW)}{i:Nat}{p q:X×eW}(H:E y (h3 q::fE (fun fs:List (X×eW)=>fE fun gX:List (X×eW)=>de [jT (P=fs++p::gX∧fs.length=i),de ((fs++gX).map h3)])::c) w):E y (de ((P.set i q).map h3)::c) w:=by
 have H:=H.front 1;obtain⟨fs,H⟩:=H.ex;obtain⟨gX,H⟩:=H.ex;have H:=H.open_;obtain⟨⟨B,J⟩,eL⟩:=E.sM (eK:=P=fs++p::gX∧fs.length=i) H;clear H;subst B; subst J;have e:(fs++p::gX).set fs.length q=fs++q::gX:=by
  rw[List.set_append_right _ _ (Nat.le_refl _)]; simp
 rw[e];exact xL (eL.front 1)
theorem F1{p:X×eW}(H:E y (h3 p::c) w):p.1.len=p.2.b.length∧p.1.len≤p.1.cap:=by
 have B:=ho H;rw[fr] at B;exact⟨B,AL H⟩
theorem ayS(bL:List Int)(R:List eW):(R.mapIdx fun l g=>if l<0 then lN bL l g else g)=R:=by
 apply List.ext_getElem?;intro l;rw[List.getElem?_mapIdx];cases R[l]?<;>simp
theorem ayQ(bL:List Int)(R:List eW):(R.mapIdx fun l g=>if l<R.length then lN bL l g else g)=R.mapIdx (lN bL):=by
 apply List.ext_getElem?;intro l;rw[List.getElem?_mapIdx,List.getElem?_mapIdx];cases h:R[l]? with
 |none=>rfl
 |some g=>
  have:=(List.getElem?_eq_some_iff.1 h).1;simp[this]
theorem ayR{bL:List Int}{R:List eW}{i:Nat}{g:eW}(h:R[i]?=some g):(R.mapIdx fun l g=>if l<i+1 then lN bL l g else g)=(R.mapIdx fun l g=>if l<i then lN bL l g else g).set i (lN bL i g):=by
 apply List.ext_getElem?;intro l;have aq:=(List.getElem?_eq_some_iff.1 h).1;rw[List.getElem?_mapIdx,List.getElem?_set,List.length_mapIdx,List.getElem?_mapIdx];by_cases e:i=l
 ·subst e;rw[if_pos rfl,if_pos aq,h]; simp
 ·rw[if_neg e];cases a7:R[l]? with
  |none=>rfl
  |some lm=>
   simp only[Option.map_some];by_cases o:l<i
   ·rw[if_pos o,if_pos (by omega)]
   ·rw[if_neg o,if_neg (by omega)]
theorem Sy{d:Nat}{s bk bu:X}{P:List (X×eW)}{j5 hD:Int}{bL:List Int}(dW:∀ p∈P,p.2.sure≤p.2.b.length∧p.2.b.length≤4194304)(aH:P.length≤16)(k:c0 1 c (D .i64) bu bL)
  (H:E y (aN d (ug.cells ⟨s,j5,false,hD,bk⟩) 112::row mc 203 2 s (P.map kM)::de (P.map h3)::c) w) :
  L Pg 79 [.pointer (some ⟨d,0,none⟩),O.enc bu] cJ w fun _ I=>∃ tZ:List (X×eW),tZ.map Prod.snd=(P.map Prod.snd).mapIdx (lN bL)∧E y (aN d (ug.cells ⟨s,j5,true,0,bk⟩) 112::row mc 203 2 s (tZ.map kM)::de (tZ.map h3)::c) I:=by
 have Cs:=k.tail.tail.tail.len H;refine Rq ?_;unfold IL;refine b2 rfl ?_;refine an (x:=false) 0 H rfl rfl rfl ?_;rw[if_neg (by simp)];refine eg (x:=true) 0 H rfl rfl (Nat.le_of_ble_eq_true rfl) fun w H=>?_;refine eg (x:=(0:Int)) 0 H rfl rfl (Nat.le_of_ble_eq_true rfl) fun w H=>?_;refine an (x:=s) 0 H rfl rfl rfl ?_;have aF:=ho (H.front 1);rw[List.length_map] at aF;refine hU (fun i w=>∃ (l:Nat) (Q:List (X×eW)),i=(l:Int)∧l≤P.length∧Q.map Prod.snd=((P.map Prod.snd).mapIdx fun m g=>if m<l then lN bL m g else g)∧E y (aN d (ug.cells ⟨s,j5,true,0,bk⟩) 112::row mc 203 2 s (Q.map kM)::de (Q.map h3)::c) w) (fun i=>(P.length-i).toNat)
  ⟨0,P,rfl,by omega,(ayS _ _).symm,H⟩ ?_
 clear H;rintro i w ⟨l,Q,rfl,a7,ku,H⟩ aa b7;have TE:Q.length=P.length:=by
  have:=congrArg List.length ku;simpa using this
 unfold IM;rw[aF];split
 ·rename_i aq;have aq:l<P.length:=by simpa using aq
  refine an (x:=s) 0 H rfl rfl rfl ?_;obtain⟨a,ag⟩:=ih (i:=(l:Int)) (H.front 1) (by omega) (by simp; omega);refine aQ a ag ?_;have Ke:P[l]?=some P[l]:=List.getElem?_eq_getElem aq;have jR:Q[l]?=some Q[l]:=List.getElem?_eq_getElem (by omega);have lo:P[l]∈P:=List.getElem_mem _;have x_:Q[l].2=P[l].2:=by
   have:=congrArg (fun c=>c[l]?) ku;simp only[List.getElem?_map,jR,List.getElem?_mapIdx,Ke,Option.map_some] at this;simpa using this
  have KN:=dW _ lo;have Ab:(Q.map kM)[((l:Int)).toNat]?=some (kM Q[l]):=by simp[jR]
  have K1:=ayR (bL:=bL) (R:=P.map Prod.snd) (i:=l) (g:=P[l].2) (by simp[Ke]);generalize P[l]=p at Ke lo x_ KN K1;generalize Q[l]=q at jR Ab x_;obtain⟨dS,h7⟩:=q;obtain⟨dy,aBO⟩:=p;simp only at x_ KN K1;subst x_;have fN:=Am jR (H.front 2);have W:=F1 fN;simp only at W;refine aQ (h7.sure:Int) ?_ ?_
  ·exact iz (cc:=D .i64) (fun _=>rfl) ag Ab rfl (H.front 1)
  have fin:∀ (w:World) (n:Int),n=(kept bL l h7:Nat)→E y (aN d (ug.cells ⟨s,j5,true,0,bk⟩) 112::row mc 203 2 s (Q.map kM)::de (Q.map h3)::c) w→Br (l:Int) a n w aa fun _ I=>∃ tZ:List (X×eW),tZ.map Prod.snd=(P.map Prod.snd).mapIdx (lN bL)∧E y (aN d (ug.cells ⟨s,j5,true,0,bk⟩) 112::row mc 203 2 s (tZ.map kM)::de (tZ.map h3)::c) I:=by
   intro w n aO H;subst aO;have al:=FP (bL:=bL) (i:=l) KN.1;unfold Br;refine aQ dS (iz (cc:=O) (fun _=>rfl) ag Ab rfl (H.front 1)) ?_;refine nn (by omega) (by omega) (by omega) (by omega) fun r Z=>?_;have H:=Am jR (H.front 2);obtain⟨o7,H⟩:=NF (fun _=>rfl) Z (by rw[fr]; exact Int.ofNat_le.2 al.2) H;refine y9 (x:=kM (dS,h7)) (N:=(⟨r,h7.sure⟩:mM)) (A:=0) (cc:=O) (aL:=r) (fun _=>rfl) ag Ab rfl (Nat.le_of_ble_eq_true rfl) (H.front 3) fun w H=>?_;refine y9 (x:=(⟨r,h7.sure⟩:mM)) (N:=(⟨r,(kept bL l h7:Nat)⟩:mM)) (A:=1) (cc:=D .i64) (aL:=((kept bL l h7:Nat):Int)) (fun _=>rfl) ag (List.getElem?_set_self (by rw[List.length_map,Int.toNat_natCast]; omega)) rfl (Nat.le_of_ble_eq_true rfl) H fun w H=>?_;have aT:IntKind.i64.wrap ((l:Int)+1)=((l+1:Nat):Int):=by rw[oK]; omega
   rw[aT];have aA:(ai h7.b).take ((kept bL l h7:Nat):Int).toNat=ai (lN bL l h7).b:=by
    rw[Int.toNat_natCast]; exact (Et _ _).symm
   rw[aA] at H;have H:=VJ (q:=(r,lN bL l h7)) (H.ord [1,2]);refine b7 _ _ ⟨l+1,Q.set l (r,lN bL l h7),rfl,by omega,?_,?_⟩ (by omega)
   ·rw[List.map_set,ku,K1]
   ·have a0:(((Q.map kM).set ((l:Int)).toNat (⟨r,h7.sure⟩:mM)).set ((l:Int)).toNat (⟨r,(kept bL l h7:Nat)⟩:mM))=(Q.set l (r,lN bL l h7)).map kM:=by
     rw[List.set_set,List.map_set,Int.toNat_natCast]; rfl
    rw[a0] at H;exact H.ord [2,1,0]
  rw[Cs];split
  ·rename_i cA;have cA:l<bL.length:=by simpa using cA
   have z9:bL[((l:Int)).toNat]?=some bL[l]:=by rw[Int.toNat_natCast]; exact List.getElem?_eq_getElem cA
   have rb:bL[l]?=some bL[l]:=List.getElem?_eq_getElem cA;generalize bL[l]=Vf at z9 rb;refine dH H fun w H=>?_;obtain⟨rk,TX⟩:=k.tail.tail.tail.jI (i:=(l:Int)) H (by omega) (by omega);refine aQ rk TX ?_;refine aQ Vf (k.tail.tail.tail.rd TX z9 H) ?_;refine aQ dS (iz (cc:=O) (fun _=>rfl) ag Ab rfl (H.front 1)) ?_;refine aQ (h7.sure:Int) (iz (cc:=D .i64) (fun _=>rfl) ag Ab rfl (H.front 1)) ?_;refine fin _ _ ?_ H;have KC:kept bL l h7=h7.sure+(min (max Vf 0) ((h7.b.length:Int)-h7.sure)).toNat:=by unfold kept; rw[rb]
   rw[W.1,wrap_i64 (x:=(h7.b.length:Int)-(h7.sure:Int)) (by omega) (by omega),KC,wrap_i64 (by omega) (by omega)];omega
  ·rename_i cA;have cA:bL.length≤l:=by simp at cA; omega
   refine fin _ _ ?_ H;have KC:kept bL l h7=h7.sure:=by
    unfold kept; rw[List.getElem?_eq_none cA]; rfl
   rw[KC]
 ·rename_i aq;have aq:l=P.length:=by simp at aq; omega
  subst aq;refine⟨Q,?_,H⟩;rw[ku];have:=ayQ bL (P.map Prod.snd);rw[List.length_map] at this;exact this
theorem afn{d:Nat}{ah:eQ}{bu:X}{bL:List Int}(dW:ah.j4)(k:c0 1 c (D .i64) bu bL)(H:E y (fi d ah::c) w) :
  L Pg 79 [.pointer (some ⟨d,0,none⟩),O.enc bu] cJ w fun _ I=>E y (fi d (j8 bL ah)::c) I:=by
 obtain⟨s,P,bk,gA,H⟩:=uw H;by_cases aC:ah.down=true
 ·refine Rq ?_;unfold IL j8;rw[if_pos aC];refine b2 rfl ?_;refine an (x:=ah.down) 0 H rfl rfl rfl ?_;rw[if_pos aC];exact oY gA H
 ·have J9:ah.down=false:=by simpa using aC
  rw[J9] at H;have aj:P.length=ah.e_.length:=by rw[← gA,List.length_map]
  refine aE (Sy (fun p aH=>dW.log p.2 (by rw[← gA]; exact List.mem_map_of_mem aH)) (by rw[aj]; exact dW.len) k.tail H) ?_;rintro r w ⟨tZ,Cj,H⟩;rw[gA] at Cj;unfold j8;rw[if_neg aC];exact oY (ah:={ ah with down:=true,hD:=0,e_:=ah.e_.mapIdx (lN bL) }) Cj H
end
section
variable {y w:World} {c bx:List bt}
theorem afh{S:Type}{P:Program}{T:a_ S}{gJ:dz}{args:List Value}{aa K':S→World→Prop}(h:xO P gJ args T w aa)(al:∀ r I,aa r I→K' r I):xO P gJ args T w K':=by
 obtain⟨k,o,B,J,au⟩:=h;exact⟨k,o,B,J,aE au al⟩
theorem auG{R:List eW}{i:Nat}{g:eW}{f:eW→eW}(h:R[i]?=some g):R.modify i f=R.set i (f g):=by
 apply List.ext_getElem?;intro l;rw[List.getElem?_modify,List.getElem?_set];by_cases e:i=l
 ·subst e;have bV:=List.getElem?_eq_some_iff.1 h;rw[if_pos rfl,if_pos bV.1,h];simp
 ·simp[e]
theorem Jc{d:Nat}{ah:eQ}{n size:Int}{gJ:dz}{f:eW→eW}(dW:ah.j4)(H:E y (fi d ah::c) w)
  (tm : ∀ (s q : X) (g : eW) (xs : List mM) (a : Addr) (mq : List bt) (w : World), size ≤ 4194304 → ah.e_[n.toNat]? = some g → xs[n.toNat]? = some ⟨q, g.sure⟩ → cz s 2 n a → E y (row mc 203 2 s xs :: h3 (q, g) :: (mq ++ c)) w →
   xO Pg gJ [.pointer (some a)] cJ w fun _ I=>∃ od:X,E y (row mc 203 2 s (xs.set n.toNat ⟨od,(f g).sure⟩)::h3 (od,f g)::(mq++c)) I) :
  L Pg 144 [.pointer (some ⟨d,0,none⟩),.int .i64 n,.int .i64 size,gJ.enc] (D .i64) w fun r I=>r=(nv ah n size f).2∧E y (fi d (nv ah n size f).1::c) I:=by
 refine aaK ?_;unfold Pp nv;refine aE (Fv H) ?_;rintro r w ⟨rfl,H⟩;by_cases bV:0≤n∧n<ah.e_.length
 ·rw[decide_eq_true bV,if_neg (by simp),if_neg (not_not_intro bV)];refine b2 rfl ?_;obtain⟨s,P,bk,gA,H⟩:=uw H;refine an (x:=ah.down) 0 H rfl rfl rfl ?_;by_cases aC:ah.down=true
  ·rw[if_pos aC,if_pos aC];exact⟨rfl,oY gA H⟩
  ·rw[if_neg aC,if_neg aC];have J9:ah.down=false:=by simpa using aC
   by_cases aF:4194304<size
   ·rw[if_pos (by simp; omega),if_pos aF];exact⟨rfl,oY gA H⟩
   ·rw[if_neg (by simp; omega),if_neg aF];refine an (x:=ah.hD) 0 H rfl rfl rfl ?_;have aj:P.length=ah.e_.length:=by rw[← gA,List.length_map]
    by_cases ag:ah.hD=1
    ·rw[if_pos (by simp[ag]),if_pos ag];refine an (x:=bk) 0 H rfl rfl rfl ?_;rw[J9] at H;refine aE (Sy (fun p aH=>dW.log p.2 (by rw[← gA]; exact List.mem_map_of_mem aH)) (by rw[aj]; exact dW.len) (c0.row (fun _=>rfl) 0 rfl) H) ?_;rintro r w ⟨tZ,Cj,H⟩;rw[gA] at Cj;refine⟨rfl,?_⟩;unfold j8;rw[if_neg aC];exact oY (ah:={ ah with down:=true,hD:=0,e_:=ah.e_.mapIdx (lN ah.bL) }) Cj H
    ·rw[if_neg (by simpa using ag),if_neg ag];have jJ:∀ (BM:Int) (w:World),BM=(if 1<ah.hD then IntKind.i64.wrap (ah.hD-1) else ah.hD)→E y (aN d (ug.cells ⟨s,ah.j5,ah.down,BM,bk⟩) 112::row mc 203 2 s (P.map kM)::de (P.map h3)::row (D .i64) 3 1 bk ah.bL::c) w →
       Bd (some ⟨d,0,none⟩) n gJ w fun r I=>r=0∧E y (fi d { ah with hD:=if 1<ah.hD then IntKind.i64.wrap (ah.hD-1) else ah.hD,j5:=IntKind.i64.wrap (ah.j5+1),e_:=ah.e_.modify n.toNat f }::c) I:=by
      intro BM w ah0 H;unfold Bd;refine b2 rfl ?_;refine an (x:=ah.j5) 0 H rfl rfl rfl ?_;refine eg (x:=IntKind.i64.wrap (ah.j5+1)) 0 H rfl rfl (Nat.le_of_ble_eq_true rfl) fun w H=>?_;refine an (x:=s) 0 H rfl rfl rfl ?_;obtain⟨a,qn⟩:=ih (i:=n) (H.front 1) bV.1 (by rw[List.length_map,aj]; exact bV.2);refine aQ a qn ?_;have jR:P[n.toNat]?=some P[n.toNat]:=List.getElem?_eq_getElem (by omega);have ae:ah.e_[n.toNat]?=some (P[n.toNat]).2:=by rw[← gA,List.getElem?_map,jR]; rfl
      generalize P[n.toNat]=p at jR ae;obtain⟨q,g⟩:=p;simp only at ae;have H:=Am jR (H.front 2);refine afh (tm s q g (P.map kM) a [_,_,_] w (by omega) ae (by rw[List.getElem?_map,jR]; rfl) qn (H.ord [3,0])) ?_;rintro r w ⟨od,H⟩;have H:=VJ (q:=(od,f g)) (H.ord [1,2]);refine⟨rfl,?_⟩;refine oY (s:=s) (bk:=bk) (P:=P.set n.toNat (od,f g)) ?_ ?_
      ·simp only;rw[List.map_set,gA,auG ae]
      ·simp only;rw[← ah0,List.map_set];exact H.ord [2,1,0]
     by_cases aA:1<ah.hD
     ·refine an (x:=ah.hD) 0 H rfl rfl rfl ?_;rw[if_pos (by simpa using aA)];refine an (x:=ah.hD) 0 H rfl rfl rfl ?_;refine eg (x:=IntKind.i64.wrap (ah.hD-1)) 0 H rfl rfl (Nat.le_of_ble_eq_true rfl) fun w H=>?_;exact jJ (IntKind.i64.wrap (ah.hD-1)) w (by rw[if_pos aA]) H
     ·refine an (x:=ah.hD) 0 H rfl rfl rfl ?_;rw[if_neg (by simpa using aA)];exact jJ ah.hD w (by rw[if_neg aA]) H
 ·rw[decide_eq_false bV,if_pos (by simp),if_pos bV];exact⟨rfl,H⟩
def sizeOf(ah:eQ)(n:Int):Nat:=if 0≤n then match ah.e_[n.toNat]? with
 |some g=>g.b.length
 |none=>0
 else 0
def n0(ah:eQ)(n:Int)(az:List UInt8):eQ×Int:=nv ah n ((az.length+sizeOf ah n:Nat):Int) fun g=>⟨g.b++az,g.sure⟩
def pV(ah:eQ)(n:Int):eQ×Int:=nv ah n 0 fun g=>⟨g.b,g.b.length⟩
def DM(ah:eQ)(n:Int)(az:List UInt8):eQ×Int:=nv ah n (az.length:Int) fun _=>⟨az,az.length⟩
theorem aef{d:Nat}{ah:eQ}{n:Int}{b:X}{az:List UInt8}(dW:ah.j4)(aO:az.length≤4000000000000000000)(k:c0 1 c (D .u8) b (ai az))(H:E y (fi d ah::c) w) :
  L Pg 159 [.pointer (some ⟨d,0,none⟩),.int .i64 n,O.enc b] (D .i64) w fun r I=>r=(n0 ah n az).2∧E y (fi d (n0 ah n az).1::c) I:=by
 have xY:=k.tail.len H;rw[fr] at xY;refine aaW ?_;unfold PA;refine cj H fun mQ w H=>?_;refine an (x:=b) 0 H rfl rfl rfl ?_;have jJ:∀ (aL:Int) (w:World),aL=((az.length+sizeOf ah n:Nat):Int)→E y (aN mQ (O.cells b) 79::fi d ah::c) w→Be (some ⟨d,0,none⟩) n ⟨mQ,0,none⟩ aL w fun r I=>r=(n0 ah n az).2∧E y (fi d (n0 ah n az).1::c) I:=by
  intro aL w cb H;subst cb;unfold Be;refine aE (Jc (f:=fun g=>⟨g.b++az,g.sure⟩) dW (H.front 1) ?_) ?_
  ·intro s q g xs a mq w lq ae F ag H;refine⟨189,[.pointer (some ⟨mQ,0,none⟩)],rfl,aga,?_⟩;refine abi ?_;unfold PS;refine dH H fun w H=>?_;refine b2 rfl ?_;refine aQ q (iz (cc:=O) (fun _=>rfl) ag F rfl H) ?_
   have H:=(H.perm (show (row mc 203 2 s xs::h3 (q,g)::(mq++(aN mQ (O.cells b) 79::c))).Perm (aN mQ (O.cells b) 79::row mc 203 2 s xs::h3 (q,g)::(mq++c)) from by
    have B:=(List.perm_middle (a:=aN mQ (O.cells b) 79) (l₁:=row mc 203 2 s xs::h3 (q,g)::mq) (l₂:=c))
    simpa using B))
   refine an (x:=b) 0 H rfl rfl rfl ?_;have rb:c0 1 (aN mQ (O.cells b) 79::row mc 203 2 s xs::h3 (q,g)::(mq++c)) (D .u8) b (ai az):=((k.k0 mq).tail.tail.tail)
   have Kf:=(dW.log g (List.mem_of_getElem? ae)).2;refine zJ (fun _=>rfl) 2 H rfl (rb.y2 H) (by rw[fr,fr]; simp only; omega) fun r w H=>?_;refine y9 (x:=(⟨q,g.sure⟩:mM)) (N:=(⟨r,g.sure⟩:mM)) (A:=0) (cc:=O) (aL:=r) (fun _=>rfl) ag F rfl (Nat.le_of_ble_eq_true rfl) (H.front 2) fun w H=>?_;refine⟨r,?_⟩;rw[← tS] at H;refine H.perm ?_;refine List.Perm.cons _ (List.Perm.cons _ ?_);exact List.perm_middle.symm
  ·rintro r w ⟨rfl,H⟩;exact⟨rfl,(H.front 1).drop⟩
 refine aE (Fv (H.front 1)) ?_;rintro r w ⟨rfl,H⟩;by_cases bV:0≤n∧n<ah.e_.length
 ·rw[decide_eq_true bV,if_pos rfl];refine b2 rfl ?_;obtain⟨s,P,bk,gA,H⟩:=uw H;have aj:P.length=ah.e_.length:=by rw[← gA,List.length_map]
  refine an (x:=s) 0 H rfl rfl rfl ?_;obtain⟨a,qn⟩:=ih (i:=n) (H.front 1) bV.1 (by rw[List.length_map,aj]; exact bV.2);refine aQ a qn ?_;have jR:P[n.toNat]?=some P[n.toNat]:=List.getElem?_eq_getElem (by omega);have ae:ah.e_[n.toNat]?=some (P[n.toNat]).2:=by rw[← gA,List.getElem?_map,jR]; rfl
  generalize P[n.toNat]=p at jR ae;have W:=F1 (Am jR (H.front 2));obtain⟨q,g⟩:=p;simp only at ae W;have Kf:=(dW.log g (List.mem_of_getElem? ae)).2;refine aQ q (iz (x:=kM (q,g)) (cc:=O) (fun _=>rfl) qn (by rw[List.getElem?_map,jR]; rfl) rfl (H.front 1)) ?_;refine jJ _ w ?_ ((oY gA H).front 1);have e:sizeOf ah n=g.b.length:=by unfold sizeOf; rw[if_pos bV.1,ae]
  rw[e,xY,W.1,wrap_i64 (by omega) (by omega)];omega
 ·rw[decide_eq_false bV,if_neg (by simp)];refine jJ _ w ?_ (H.front 1);have e:sizeOf ah n=0:=by
   unfold sizeOf;by_cases am:0≤n
   ·rw[if_pos am,List.getElem?_eq_none (by omega)]
   ·rw[if_neg am]
  rw[e,xY]; rfl
theorem DN{d:Nat}{ah:eQ}{n:Int}(dW:ah.j4)(H:E y (fi d ah::c) w) :
  L Pg 110 [.pointer (some ⟨d,0,none⟩),.int .i64 n] (D .i64) w fun r I=>r=(pV ah n).2∧E y (fi d (pV ah n).1::c) I:=by
 refine aaf ?_;unfold OU;refine aE (Jc (f:=fun g=>⟨g.b,g.b.length⟩) dW H ?_) ?_
 ·intro s q g xs a mq w lq ae F ag H;refine⟨145,[],rfl,af2,?_⟩;refine aaL ?_;unfold Pq;refine b2 rfl ?_;refine aQ q (iz (cc:=O) (fun _=>rfl) ag F rfl H) ?_;have W:=F1 (H.front 1);simp only at W;rw[W.1];refine y9 (x:=(⟨q,g.sure⟩:mM)) (N:=(⟨q,(g.b.length:Nat)⟩:mM)) (A:=1) (cc:=D .i64) (aL:=((g.b.length:Nat):Int)) (fun _=>rfl) ag F rfl (Nat.le_of_ble_eq_true rfl) H fun w H=>?_;exact⟨q,H⟩
 ·rintro r w ⟨rfl,H⟩;exact⟨rfl,H⟩
theorem ayZ{d:Nat}{ah:eQ}{n:Int}{b:X}{az:List UInt8}(dW:ah.j4)(aO:az.length≤4000000000000000000)(k:c0 1 c (D .u8) b (ai az))(H:E y (fi d ah::c) w) :
  L Pg 130 [.pointer (some ⟨d,0,none⟩),.int .i64 n,O.enc b] (D .i64) w fun r I=>r=(DM ah n az).2∧E y (fi d (DM ah n az).1::c) I:=by
 have xY:=k.tail.len H;rw[fr] at xY;refine aay ?_;unfold Pc;refine cj H fun mQ w H=>?_;refine an (x:=b) 0 H rfl rfl rfl ?_;rw[xY];refine aE (Jc (f:=fun _=>⟨az,az.length⟩) dW (H.front 1) ?_) ?_
 ·intro s q g xs a mq w lq ae F ag H;refine⟨155,[.pointer (some ⟨mQ,0,none⟩)],rfl,af3,?_⟩;refine aaT ?_;unfold Px
  have H:=(H.perm (show (row mc 203 2 s xs::h3 (q,g)::(mq++(aN mQ (O.cells b) 79::c))).Perm (aN mQ (O.cells b) 79::row mc 203 2 s xs::h3 (q,g)::(mq++c)) from by
   have B:=(List.perm_middle (a:=aN mQ (O.cells b) 79) (l₁:=row mc 203 2 s xs::h3 (q,g)::mq) (l₂:=c))
   simpa using B))
  refine an (x:=b) 0 H rfl rfl rfl ?_;rw[xY];refine C7 (ao:=1) (by omega) (by omega) (by omega) H fun n1 w H=>?_;refine b2 rfl ?_;refine y9 (x:=(⟨q,g.sure⟩:mM)) (N:=(⟨⟨some ⟨n1,0,none⟩,az.length,az.length⟩,g.sure⟩:mM)) (A:=0) (cc:=O) (aL:=⟨some ⟨n1,0,none⟩,az.length,az.length⟩) (fun _=>rfl) ag F rfl (Nat.le_of_ble_eq_true rfl) (H.front 2) fun w H=>?_;refine dH H fun w H=>?_;have wE:(xs.set n.toNat (⟨⟨some ⟨n1,0,none⟩,az.length,az.length⟩,g.sure⟩:mM))[n.toNat]?=some ⟨⟨some ⟨n1,0,none⟩,az.length,az.length⟩,g.sure⟩:=List.getElem?_set_self (List.getElem?_eq_some_iff.1 F).1;refine aQ ⟨some ⟨n1,0,none⟩,az.length,az.length⟩ (iz (cc:=O) (fun _=>rfl) ag wE rfl H) ?_;refine an (x:=b) 2 H rfl rfl rfl ?_
  have rb:c0 1 (row (D .u8) 5 1 ⟨some ⟨n1,0,none⟩,az.length,az.length⟩ (List.replicate az.length 0)::row mc 203 2 s (xs.set n.toNat (⟨⟨some ⟨n1,0,none⟩,az.length,az.length⟩,g.sure⟩:mM))::aN mQ (O.cells b) 79::h3 (q,g)::(mq++c)) (D .u8) b (ai az):=((k.k0 mq).tail.tail.tail.tail)
  refine E8 (xs:=List.replicate az.length 0) (fun _=>rfl) (H.front 1) (rb.y2 (H.front 1)) (by rw[fr,List.length_replicate]) fun w H=>?_;rw[fr];refine y9 (x:=(⟨⟨some ⟨n1,0,none⟩,az.length,az.length⟩,g.sure⟩:mM)) (N:=(⟨⟨some ⟨n1,0,none⟩,az.length,az.length⟩,(az.length:Nat)⟩:mM)) (A:=1) (cc:=D .i64) (aL:=((az.length:Nat):Int)) (fun _=>rfl) ag wE rfl (Nat.le_of_ble_eq_true rfl) (H.front 1) fun w H=>?_;refine⟨⟨some ⟨n1,0,none⟩,az.length,az.length⟩,?_⟩;rw[List.set_set] at H;have H:=(H.ord [3]).drop;refine H.perm ?_;refine List.Perm.cons _ (List.Perm.cons _ ?_);exact List.perm_middle.symm
 ·rintro r w ⟨rfl,H⟩;exact⟨rfl,(H.front 1).drop⟩
theorem axA{d:Nat}{ah:eQ}{n:Int}(dW:ah.j4)(H:E y (fi d ah::c) w) :
  L Pg 128 [.pointer (some ⟨d,0,none⟩),.int .i64 n] (bJ O (D .i64)) w fun r I=>(¬ (0≤n∧n<ah.e_.length)→r.2=70∧E y (fi d ah::c) I)∧((0≤n∧n<ah.e_.length)→ah.down=true→r.2=71∧E y (fi d ah::c) I) ∧
   ∀ g,0≤n→ah.down=false→ah.e_[n.toNat]?=some g→r.2=0∧E y (row (D .u8) 5 1 r.1 (ai g.b)::fi d ah::c) I:=by
 refine aav ?_;unfold O_;refine aE (Fv H) ?_;rintro r w ⟨rfl,H⟩;by_cases bV:0≤n∧n<ah.e_.length
 ·rw[decide_eq_true bV,if_neg (by simp)];refine b2 rfl ?_;obtain⟨s,P,bk,gA,H⟩:=uw H;refine an (x:=ah.down) 0 H rfl rfl rfl ?_;by_cases aC:ah.down=true
  ·rw[if_pos aC];exact⟨fun h=>absurd bV h,fun _ _=>⟨rfl,oY gA H⟩,fun g _ h=>by rw[aC] at h; cases h⟩
  ·rw[if_neg aC];have aj:P.length=ah.e_.length:=by rw[← gA,List.length_map]
   refine an (x:=s) 0 H rfl rfl rfl ?_;obtain⟨a,qn⟩:=ih (i:=n) (H.front 1) bV.1 (by rw[List.length_map,aj]; exact bV.2);refine aQ a qn ?_;have jR:P[n.toNat]?=some P[n.toNat]:=List.getElem?_eq_getElem (by omega);have ae:ah.e_[n.toNat]?=some (P[n.toNat]).2:=by rw[← gA,List.getElem?_map,jR]; rfl
   generalize P[n.toNat]=p at jR ae;have W:=F1 (Am jR (H.front 2));obtain⟨q,g⟩:=p;simp only at ae W;have Kf:=(dW.log g (List.mem_of_getElem? ae)).2;have F:(P.map kM)[n.toNat]?=some (kM (q,g)):=by rw[List.getElem?_map,jR]; rfl
   refine aQ q (iz (x:=kM (q,g)) (cc:=O) (fun _=>rfl) qn F rfl (H.front 1)) ?_;rw[W.1];refine C7 (ao:=1) (by omega) (by omega) (by omega) H fun b w H=>?_;refine an (x:=s) 1 H rfl rfl rfl ?_;refine aQ a qn ?_;refine aQ q (iz (x:=kM (q,g)) (cc:=O) (fun _=>rfl) qn F rfl (H.front 2)) ?_;have Z:jN (D .u8) w q (ai g.b):=xq (Am jR (H.front 3));refine E8 (xs:=List.replicate ((g.b.length:Int)).toNat 0) (fun _=>rfl) H Z (by rw[fr,List.length_replicate]; omega) fun w H=>?_;refine⟨fun h=>absurd bV h,fun _ h=>absurd h aC,fun lm _ _ z6=>?_⟩;rw[ae] at z6;cases z6;exact⟨rfl,(oY gA (H.ord [1,2,3,4])).front 1⟩
 ·rw[decide_eq_false bV,if_pos (by simp)];refine⟨fun _=>⟨rfl,H⟩,fun h=>absurd h bV,fun g am _ ae=>absurd ⟨am,?_⟩ bV⟩;have:=(List.getElem?_eq_some_iff.1 ae).1;omega
theorem ayY{d:Nat}{ah:eQ}{n:Int}{g:eW}(am:0≤n)(ae:ah.e_[n.toNat]?=some g)(H:E y (fi d ah::c) w) :
  L Pg 131 [.pointer (some ⟨d,0,none⟩),.int .i64 n] (D .i64) w fun r I=>r=(g.sure:Nat)∧E y (fi d ah::c) I:=by
 have cA:=(List.getElem?_eq_some_iff.1 ae).1;refine aaz ?_;unfold Pd;refine aE (Fv H) ?_;rintro r w ⟨rfl,H⟩;rw[decide_eq_true (by omega),if_neg (by simp)];refine b2 rfl ?_;obtain⟨s,P,bk,gA,H⟩:=uw H;have aj:P.length=ah.e_.length:=by rw[← gA,List.length_map]
 refine an (x:=s) 0 H rfl rfl rfl ?_;obtain⟨a,qn⟩:=ih (i:=n) (H.front 1) am (by rw[List.length_map,aj]; omega);refine aQ a qn ?_;have jR:P[n.toNat]?=some P[n.toNat]:=List.getElem?_eq_getElem (by omega);have u4:ah.e_[n.toNat]?=some (P[n.toNat]).2:=by rw[← gA,List.getElem?_map,jR]; rfl
 generalize P[n.toNat]=p at jR u4;rw[ae] at u4;cases u4;refine aQ (p.2.sure:Int) (iz (x:=kM p) (cc:=D .i64) (fun _=>rfl) qn (by rw[List.getElem?_map,jR]; rfl) rfl (H.front 1)) ?_;exact⟨rfl,oY gA H⟩
theorem azu{d:Nat}{ah:eQ}(H:E y (fi d ah::c) w):L Pg 82 [.pointer (some ⟨d,0,none⟩)] cJ w fun _ I=>E y (fi d { ah with down:=false }::c) I:=by
 refine acV ?_;unfold Ru;refine b2 rfl ?_;obtain⟨s,P,bk,gA,H⟩:=uw H;refine eg (x:=false) 0 H rfl rfl (Nat.le_of_ble_eq_true rfl) fun w H=>?_;exact oY (ah:={ ah with down:=false }) gA H
end
abbrev adx:=xz
section
variable {y w:World} {c bx:List bt} {s:X} {az:List UInt8}
def lj(dS:List X)(xs:List (List UInt8))(aG:b9):Prop:=dS.length=xs.length∧∀ (i:Nat) (q:X) (x:List UInt8),dS[i]?=some q→xs[i]?=some x→q.len≤q.cap∧dL (D .u8) q (ai x) aG
theorem lj.mono{dS:List X}{xs:List (List UInt8)}{aG g3:b9}(h:b9.le aG g3):lj dS xs aG→lj dS xs g3:=fun ⟨B,J⟩=>⟨B,fun i q x a5 F=>⟨(J i q x a5 F).1,dL.mono h (J i q x a5 F).2⟩⟩
def sB(dS:List X)(xs:List (List UInt8)):bt:=qj (lj dS xs) lj.mono
theorem lj.push{dS:List X}{xs:List (List UInt8)}{q:X}{x:List UInt8}{aG:b9}(h:lj dS xs aG)(W:q.len≤q.cap)(Z:dL (D .u8) q (ai x) aG):lj (dS++[q]) (xs++[x]) aG:=by
 refine⟨by simp[h.1],fun i od ZX a5 F=>?_⟩;by_cases o:i<dS.length
 ·rw[List.getElem?_append_left o] at a5;rw[List.getElem?_append_left (by rw[← h.1]; exact o)] at F;exact h.2 i od ZX a5 F
 ·have aq:i=dS.length:=by
   have:=(List.getElem?_eq_some_iff.1 a5).1;simp at this; omega
  subst aq;rw[List.getElem?_append_right (Nat.le_refl _)] at a5;rw[List.getElem?_append_right (by rw[h.1]; exact Nat.le_refl _),h.1] at F;simp at a5 F;subst a5; subst F;exact⟨W,Z⟩
theorem ayg(lU:s.len≤s.cap)(aO:az.length≤1000000000)(k:cn c (dL (D .u8) s (ai az)))(H:E y c w) :
  L Pg 129 [O.enc s] (bJ O (D .i64)) w fun r I=>r.2=((scan az).2:Nat)∧∃ dS:List X,E y (row O 79 1 r.1 dS::sB dS (scan az).1::c) I:=by
 have aF:=k.len H;rw[fr] at aF;refine aaw ?_;unfold Pa;refine Aq (fun m p w=>∃ (a f:Nat) (xs:List (List UInt8)) (dS:List X),m=az.length-a∧p.2=(a:Int)∧a≤az.length∧az.length-a<f∧xs.length≤a∧scan az=qL f (az.drop a) xs a∧E y (row O 79 1 p.1 dS::sB dS xs::c) w) az.length
  ⟨0,az.length+1,[],[],by omega,rfl,by omega,by omega,by simp,rfl,jW O 79 1 (H.vh (m:=lj.mono) (fun _ _ _=>⟨rfl,fun i q x a5=>by simp at a5⟩))⟩ ?_
 clear H;rintro m ⟨r,a⟩ w ⟨a,f,xs,dS,rfl,rfl,ag,ap,Lm,he,H⟩ aa b7;simp only at H;unfold HT;rw[aF];refine nn (by omega) (by omega) (by omega) (by omega) fun tG hv=>?_;have iB:=k.sub (fun _=>rfl) hv (by rw[fr]; omega);have ur:((ai az).take (az.length:Int).toNat).drop ((a:Int)).toNat=ai (az.drop a):=by
  rw[HG,List.take_of_length_le (by rw[fr]; omega)]; rfl
 rw[ur] at iB;have ah7:tG.len≤tG.cap:=by
  obtain⟨cH,fp,_⟩:=DK hv;rw[cH,fp]; omega
 refine aE (MB ah7 (by simp; omega) iB.tail.tail H) ?_;rintro⟨q,n,e⟩ w FD;obtain⟨g,rfl⟩:∃ g,f=g+1:=⟨f-1,by omega⟩
 simp only[qL] at he;cases ab:nI (az.drop a) with
 |error lP=>
  rw[ab] at FD he;obtain⟨B,J,H⟩:=FD;simp only at B he;subst B;rw[if_pos (by simpa using J)];rw[he];exact⟨rfl,dS,H⟩
 |ok p=>
  obtain⟨x,L_⟩:=p;rw[ab] at FD he;obtain⟨B,J,au,H⟩:=FD;simp only at B J au he H;subst B; subst J;rw[if_neg (by simp)];obtain⟨cD,dC,fx,jO⟩:=MC ab;rw[List.length_drop] at cD;have sw:dS.length=xs.length:=by
   obtain⟨aG,_,b6⟩:=(cn.q7 (cn.tail (cn.tail (cn.here (m:=lj.mono))))) H;exact b6.1
  refine me (fun _=>rfl) 1 H rfl (by simp; omega) fun oh w H=>?_;have aT:IntKind.i64.wrap ((a:Int)+(L_:Int))=((a+L_:Nat):Int):=by rw[wrap_i64 (by omega) (by omega)]; omega
  rw[aT]
  have eL:=H.vh (eK:=lj (dS++[q]) (xs++[x])) (m:=lj.mono) (by
   intro aG h bV;have kx:lj dS xs aG:=(cn.tail (cn.tail (cn.here (m:=lj.mono)))) aG h bV;have vq:dL (D .u8) q (ai x) aG:=(cn.tail (cn.here (m:=dL.mono))) aG h bV
   exact kx.push au vq)
  refine b7 _ _ _ ?_ ⟨a+L_,g,xs++[x],dS++[q],rfl,rfl,by omega,by omega,by simp; omega,by rw[he,List.drop_drop],?_⟩
  ·omega
  ·exact (eL.ord [2,3]).drop.drop.front 1
structure ui where
 all:Int
 sure:Int
 log:Int
 dead:Bool
def sX(b d:Nat)(V:ui):bt:=aN b (adx.cells ⟨⟨V.all,V.sure⟩,some ⟨d,0,none⟩,V.log,V.dead⟩) 192
def rT(ah:eQ)(V:ui)(x:List UInt8):eQ×ui×Int:=
 if V.dead then (ah,V,81) else if 65536<x.length then (ah,V,30)
 else ((n0 ah V.log (fv x)).1,{ V with all:=if (n0 ah V.log (fv x)).2=0 then IntKind.i64.wrap (V.all+1) else V.all,dead:=V.dead||(n0 ah V.log (fv x)).2==71 },(n0 ah V.log (fv x)).2)
def tK(ah:eQ)(V:ui):eQ×ui×Int:=
 if V.dead then (ah,V,81)
 else ((pV ah V.log).1,{ V with sure:=if (pV ah V.log).2=0 then V.all else V.sure,dead:=V.dead||(pV ah V.log).2==71 },(pV ah V.log).2)
theorem yv{b d:Nat}{V:ui}{e:Int}(H:E y (sX b d V::c) w):L Pg 109 [.pointer (some ⟨b,0,none⟩),.int .i64 e] (D .i64) w fun r I=>r=e∧E y (sX b d { V with dead:=V.dead||e==71 }::c) I:=by
 refine aad ?_;unfold OT;refine b2 rfl ?_;refine an (x:=V.dead) 0 H rfl rfl rfl ?_;refine eg (x:=V.dead||e==71) 0 H rfl rfl (Nat.le_of_ble_eq_true rfl) fun w H=>?_;exact⟨rfl,H⟩
theorem aej{b d:Nat}{ah:eQ}{V:ui}{q:X}{x:List UInt8}(dW:ah.j4)(aO:x.length≤9223372036854775806)(k:c0 1 c (D .u8) q (ai x))(H:E y (sX b d V::fi d ah::c) w) :
  L Pg 136 [.pointer (some ⟨b,0,none⟩),O.enc q] (D .i64) w fun r I=>r=(rT ah V x).2.2∧E y (sX b d (rT ah V x).2.1::fi d (rT ah V x).1::c) I:=by
 refine aaE ?_;unfold Pj Ex rT;refine b2 rfl ?_;refine an (x:=V.dead) 0 H rfl rfl rfl ?_;by_cases aC:V.dead=true
 ·rw[if_pos aC,if_pos aC];exact⟨rfl,H⟩
 ·rw[if_neg aC,if_neg aC];refine aE (ayh aO k.tail.tail H) ?_;rintro⟨r,e⟩ w ⟨B,J⟩;by_cases F:65536<x.length
  ·obtain⟨au,H⟩:=B F;cases au;rw[if_pos (by simp),if_pos F];exact⟨rfl,H⟩
  ·obtain⟨au,H⟩:=J (by omega);simp only at au H;subst au;rw[if_neg (by simp),if_neg F];refine dH H fun w H=>?_;refine an (x:=some ⟨d,0,none⟩) 1 H rfl rfl rfl ?_;refine an (x:=V.log) 1 H rfl rfl rfl ?_;refine aE (aef dW (by rw[uB]; omega) (c0.row (fun _=>rfl) 0 rfl) (H.front 2)) ?_;rintro e w ⟨rfl,H⟩;refine aE (yv (H.front 2)) ?_;rintro e w ⟨rfl,H⟩;refine⟨cW aM H rfl rfl,cW (D .i64) H rfl rfl,?_⟩;by_cases he:(n0 ah V.log (fv x)).2=0
   ·rw[if_pos (by simp[he]),if_pos he];refine an (x:=V.all) 0 H rfl rfl rfl ?_;refine eg (x:=IntKind.i64.wrap (V.all+1)) 0 H rfl rfl (Nat.le_of_ble_eq_true rfl) fun w H=>?_;exact⟨rfl,(H.ord [2]).drop⟩
   ·rw[if_neg (by simp[he]),if_neg he];exact⟨rfl,(H.ord [2]).drop⟩
theorem ay5{b d:Nat}{ah:eQ}{V:ui}(dW:ah.j4)(H:E y (sX b d V::fi d ah::c) w) :
  L Pg 61 [.pointer (some ⟨b,0,none⟩)] (D .i64) w fun r I=>r=(tK ah V).2.2∧E y (sX b d (tK ah V).2.1::fi d (tK ah V).1::c) I:=by
 refine acz ?_;unfold Q9 EH tK;refine b2 rfl ?_;refine an (x:=V.dead) 0 H rfl rfl rfl ?_;by_cases aC:V.dead=true
 ·rw[if_pos aC,if_pos aC];exact⟨rfl,H⟩
 ·rw[if_neg aC,if_neg aC];refine dH H fun w H=>?_;refine an (x:=some ⟨d,0,none⟩) 0 H rfl rfl rfl ?_;refine an (x:=V.log) 0 H rfl rfl rfl ?_;refine aE (DN dW (H.front 1)) ?_;rintro e w ⟨rfl,H⟩;refine aE (yv (H.front 1)) ?_;rintro e w ⟨rfl,H⟩;refine⟨cW aM H rfl rfl,cW (D .i64) H rfl rfl,?_⟩;by_cases he:(pV ah V.log).2=0
  ·rw[if_pos (by simp[he]),if_pos he];refine an (x:=V.all) 0 H rfl rfl rfl ?_;refine eg (x:=V.all) 0 H rfl rfl (Nat.le_of_ble_eq_true rfl) fun w H=>?_;exact⟨rfl,H⟩
  ·rw[if_neg (by simp[he]),if_neg he];exact⟨rfl,H⟩
def fR(ah:eQ)(n:Int)(g:eW):eQ×Int:=
 if (scan g.b).2<g.b.length then DM ah n (g.b.take (scan g.b).2) else if g.sure<(scan g.b).2 then pV ah n else (ah,0)
theorem ayf(az:List UInt8):(scan az).2≤az.length:=by
 have key:∀ (f:Nat) (az:List UInt8) (c:List (List UInt8)) (a:Nat),(qL f az c a).2≤a+az.length:=by
  intro f;induction f with
  |zero=>intro az c a; simp[qL]
  |succ f b8=>
   intro az c a;simp only[qL];cases ab:nI az with
   |error e=>simp
   |ok p=>
    obtain⟨x,n⟩:=p;have:=b8 (az.drop n) (c++[x]) (a+n);have h:=MC ab;rw[List.length_drop] at this;simp only;omega
 have:=key (az.length+1) az [] 0;unfold scan; omega
theorem ayd(az:List UInt8):(scan az).1.length≤az.length:=by
 have key:∀ (f:Nat) (az:List UInt8) (c:List (List UInt8)) (a:Nat),(qL f az c a).1.length≤c.length+az.length:=by
  intro f;induction f with
  |zero=>intro az c a; simp[qL]
  |succ f b8=>
   intro az c a;simp only[qL];cases ab:nI az with
   |error e=>simp
   |ok p=>
    obtain⟨x,n⟩:=p;have:=b8 (az.drop n) (c++[x]) (a+n);have h:=MC ab;rw[List.length_drop] at this;simp only[List.length_append,List.length_cons,List.length_nil] at this;simp only;omega
 have:=key (az.length+1) az [] 0;unfold scan; simpa using this
theorem Ws{d:Nat}{ah:eQ}{n:Int}{g:eW}(dW:ah.j4)(am:0≤n)(wo:ah.down=false)(ae:ah.e_[n.toNat]?=some g)(H:E y (fi d ah::c) w) :
  L Pg 96 [.pointer (some ⟨d,0,none⟩),.int .i64 n] (qO aM O (D .i64)) w fun r I=>r.2.2=(fR ah n g).2∧((fR ah n g).2=0→∃ (b:Nat) (dS:List X),r.1=some ⟨b,0,none⟩ ∧
   E y (sX b d ⟨(scan g.b).1.length,(scan g.b).1.length,n,false⟩::fi d (fR ah n g).1::row O 79 1 r.2.1 dS::sB dS (scan g.b).1::c) I)∧((fR ah n g).2≠0→r.1=none∧E y (fi d (fR ah n g).1::c) I):=by
 have cA:=(List.getElem?_eq_some_iff.1 ae).1;have Kf:=dW.log g (List.mem_of_getElem? ae);refine ac8 ?_;unfold IR;rw[if_neg (by simp)];refine aE (axA (n:=n) dW H) ?_;rintro⟨r,e⟩ w ⟨_,_,au⟩;obtain⟨a8,H⟩:=au g am wo ae;simp only at a8 H;subst a8;rw[if_neg (by simp)];have re:=ho H;have FC:=AL H;rw[fr] at re;have H:=GR H;have yp:cn [ro (D .u8) r (ai g.b)] (dL (D .u8) r (ai g.b)):=cn.here (m:=dL.mono);refine aE (ayg FC (by omega) (cn.here (m:=dL.mono)) H) ?_;rintro⟨q,m⟩ w ⟨hm,dS,H⟩;simp only at hm H;subst hm;have rf:=ayf g.b;rw[re]
 have jJ:∀ (HH:eQ) (e:Int) (w:World),fR ah n g=(HH,e)→E y (fi d HH::row O 79 1 q dS::sB dS (scan g.b).1::c) w→xj (some ⟨d,0,none⟩) n (q,((scan g.b).2:Int)) e w fun r I=>r.2.2=(fR ah n g).2∧((fR ah n g).2=0→∃ (b:Nat) (dS:List X),r.1=some ⟨b,0,none⟩ ∧
   E y (sX b d ⟨(scan g.b).1.length,(scan g.b).1.length,n,false⟩::fi d (fR ah n g).1::row O 79 1 r.2.1 dS::sB dS (scan g.b).1::c) I)∧((fR ah n g).2≠0→r.1=none∧E y (fi d (fR ah n g).1::c) I):=by
  intro HH e w ajR H;rw[ajR];unfold xj;by_cases he:e=0
  ·subst he;rw[if_neg (by simp)];have sw:=ho (H.front 1);have KR:dS.length=(scan g.b).1.length:=by
    obtain⟨aG,_,b6⟩:=(cn.q7 (cn.tail (cn.tail (cn.here (m:=lj.mono))))) H;exact b6.1
   simp only;rw[sw,KR];refine cj H fun b w H=>?_;exact⟨by trivial,fun _=>⟨b,dS,rfl,H⟩,fun h=>absurd rfl h⟩
  ·rw[if_pos (by simpa using he)];exact⟨by trivial,fun h=>absurd h he,fun _=>⟨by trivial,((H.ord [1,2]).drop.drop)⟩⟩
 by_cases B:(scan g.b).2<g.b.length
 ·rw[if_pos (by simp; omega)];dsimp only;refine nn (by omega) (by omega) (by omega) (by omega) fun Dy Ty=>?_;have ts:=(cn.tail (cn.tail (cn.here (m:=dL.mono)):cn (sB dS (scan g.b).1::ro (D .u8) r (ai g.b)::fi d ah::c) (dL (D .u8) r (ai g.b))):cn (row O 79 1 q dS::sB dS (scan g.b).1::ro (D .u8) r (ai g.b)::fi d ah::c) (dL (D .u8) r (ai g.b)))
  have lh:=H.ord [3,2];have sz:cn (ro (D .u8) r (ai g.b)::row O 79 1 q dS::sB dS (scan g.b).1::c) (dL (D .u8) r (ai g.b)):=cn.here (m:=dL.mono);have o_:=sz.sub (fun _=>rfl) Ty (by rw[fr]; omega);have aeu:((ai g.b).take (((scan g.b).2:Nat):Int).toNat).drop ((0:Int)).toNat=ai (g.b.take (scan g.b).2):=by rw[Et]; rfl
  rw[aeu] at o_;refine aE (ayZ (n:=n) dW (by rw[List.length_take]; omega) (c0.ro (fun _=>rfl) o_) lh) ?_;rintro e w ⟨rfl,H⟩;refine jJ _ _ w ?_ ((H.front 1).drop);unfold fR;rw[if_pos B]
 ·rw[if_neg (by simp; omega)];refine aE (ayY am ae (H.ord [3,2])) ?_;rintro e w ⟨rfl,H⟩;by_cases J:g.sure<(scan g.b).2
  ·rw[if_pos (by simp; omega)];refine aE (DN (n:=n) dW H) ?_;rintro e w ⟨rfl,H⟩;refine jJ _ _ w ?_ ((H.front 1).drop);unfold fR;rw[if_neg B,if_pos J]
  ·rw[if_neg (by simp; omega)];refine jJ ah 0 w ?_ ((H.front 1).drop);unfold fR;rw[if_neg B,if_neg J]
end
end Disk
namespace Store
open ba
structure Row where
 c6:Int
 K:h0
structure gF where
 rows:List Row
 closed:Int
 mark:Int
def aK(R:List Row)(k:Int):List ei:=(R.filter fun r=>r.K.Key==k).map fun r=>⟨r.c6,r.K.V⟩
def upto(c:List ei)(at_:Int):List ei:=c.filter fun v=>decide (v.c6≤at_)
def j7(c:List ei)(at_:Int):Option ei:=(upto c at_).getLast?
def vH(m:gF)(at_:Int):Int:=if at_<0∨at_>1125899906842624 then 120 else if at_>m.closed then 128 else if at_<m.mark then 126 else 0
def m5(c:List ei):ei×Bool:=(c.getLast?.getD ⟨0,0⟩,c.getLast?.isSome)
def tP(R:List Row)(t:Int):List Int→List h0→Int
 |_,[]=>0
 |seen,x::xs=>if x.Key<0∨x.Key>8191 then 123 else if x.Key∈seen then 124 else if (m5 (aK R x.Key)).1.c6≥t then 121 else if 10000≤(aK R x.Key).length then 125 else tP R t (seen++[x.Key]) xs
def sN(m:gF)(t:Int)(c:List h0):Int:=
 if t<1∨t>1125899906842624 then 120 else if t≤m.closed then 121 else if c.length>100 then 122 else tP m.rows t [] c
def news(t:Int)(c:List h0):List Row:=c.map fun x=>⟨t,x⟩
def lw(m:gF)(t:Int)(c:List h0):gF:=if sN m t c=0 then { m with rows:=m.rows++news t c } else m
def E5(t:Int):Int:=if t<0∨t>1125899906842624 then 120 else 0
def qi(m:gF)(t:Int):gF:=if E5 t=0 then { m with closed:=max m.closed t } else m
def gone(mark:Int)(r:Row)(R:List Row):Bool:=R.any fun q=>(q.K.Key==r.K.Key)&&decide (q.c6≤mark)
def bL(mark:Int):List Row→List Row
 |[]=>[]
 |r::R=>if gone mark r R=true then bL mark R else r::bL mark R
def m3(mark:Int):List ei→List ei
 |[]=>[]
 |v::c=>if c.any (fun q=>decide (q.c6≤mark))=true then m3 mark c else v::m3 mark c
def tE(m:gF)(t:Int):Int:=if t<0∨t>1125899906842624 then 120 else if t>m.closed then 128 else 0
def qF(m:gF)(t:Int):gF:=if tE m t=0 then ⟨bL (max m.mark t) m.rows,m.closed,max m.mark t⟩ else m
structure Keys(R:List Row)(bu:List Int):Prop where
 oB:bu.Pairwise fun x N=>x<N
 all:∀ k,k∈bu↔aK R k≠[]
def w1(R:List Row)(at_:Int)(bu:List Int):List h0:=bu.filterMap fun k=>(j7 (aK R k) at_).map fun v=>⟨k,v.V⟩
structure Inv(m:gF):Prop where
 cap:∀ k,(aK m.rows k).length≤10000
 key:∀ r∈m.rows,0≤r.K.Key∧r.K.Key≤8191
 NV:∀ r∈m.rows,1≤r.c6∧r.c6≤1125899906842624
 oB:m.rows.Pairwise fun a b=>a.K.Key=b.K.Key→a.c6<b.c6
 mark:0≤m.mark∧m.mark≤m.closed∧m.closed≤1125899906842624
def zz(c:List ei):Prop:=c.Pairwise fun a b=>a.c6<b.c6
theorem D0(R z:List Row)(k:Int):aK (R++z) k=aK R k++aK z k:=by simp[aK]
theorem D1(k:Int):aK [] k=[]:=rfl
theorem zc(r:Row)(R:List Row)(k:Int):aK (r::R) k=if r.K.Key=k then ⟨r.c6,r.K.V⟩::aK R k else aK R k:=by
 unfold aK;by_cases h:r.K.Key=k
 ·rw[if_pos h,List.filter_cons_of_pos (by simpa using h)]; rfl
 ·rw[if_neg h,List.filter_cons_of_neg (by simpa using h)]
theorem azE{R:List Row}{k:Int}{v:ei}(h:v∈aK R k):∃ r∈R,r.K.Key=k∧r.c6=v.c6∧r.K.V=v.V:=by
 unfold aK at h;obtain⟨r,Z,rfl⟩:=List.mem_map.1 h;obtain⟨B,J⟩:=List.mem_filter.1 Z;exact⟨r,B,by simpa using J,rfl,rfl⟩
theorem G_{R:List Row}{k:Int}:aK R k≠[]↔∃ r∈R,r.K.Key=k:=by
 constructor
 ·intro h;obtain⟨v,ax⟩:=List.exists_mem_of_ne_nil _ h;obtain⟨r,B,J,_⟩:=azE ax;exact⟨r,B,J⟩
 ·rintro⟨r,B,J⟩ h;have:(⟨r.c6,r.K.V⟩:ei)∈aK R k:=List.mem_map.2 ⟨r,List.mem_filter.2 ⟨B,by simpa using J⟩,rfl⟩;rw[h] at this; cases this
theorem D2{R:List Row}(h:R.Pairwise fun a b=>a.K.Key=b.K.Key→a.c6<b.c6)(k:Int):zz (aK R k):=by
 unfold aK zz;rw[List.pairwise_map];have B:=h.filter (p:=fun r=>r.K.Key==k);refine List.Pairwise.imp_of_mem ?_ B;intro a b ag aA ahX;have ag:=(List.mem_filter.1 ag).2;have aA:=(List.mem_filter.1 aA).2;simp only[beq_iff_eq] at ag aA;exact ahX (ag.trans aA.symm)
theorem atl(mark:Int)(r:Row)(R:List Row):gone mark r R=(aK R r.K.Key).any fun q=>decide (q.c6≤mark):=by
 unfold gone aK;rw[List.any_map,List.any_filter];rfl
theorem G9(mark:Int)(k:Int):∀ R:List Row,aK (bL mark R) k=m3 mark (aK R k)
 |[]=>rfl
 |r::R=>by
  have b8:=G9 mark k R;rw[zc];unfold bL;by_cases h:r.K.Key=k
  ·rw[if_pos h];have ae:gone mark r R=(aK R k).any fun q=>decide (q.c6≤mark):=by rw[atl,h]
   rw[m3,← ae];split
   ·exact b8
   ·rw[zc,if_pos h,b8]
  ·rw[if_neg h];split
   ·exact b8
   ·rw[zc,if_neg h,b8]
theorem LD{mark:Int}:∀ {b:List ei},(∀ v∈b,¬ v.c6≤mark)→m3 mark b=b
 |[],_=>rfl
 |v::b,h=>by
  have aO:¬ b.any (fun q=>decide (q.c6≤mark))=true:=by
   rw[List.any_eq_true];rintro⟨q,a5,aC⟩;exact h q (List.mem_cons_of_mem _ a5) (by simpa using aC)
  rw[m3,if_neg aO,LD fun v ax=>h v (List.mem_cons_of_mem _ ax)]
theorem U5{mark:Int}{b:List ei}(aA:∀ v∈b,¬ v.c6≤mark):∀ {a:List ei},(∀ v∈a,v.c6≤mark)→m3 mark (a++b)=a.drop (a.length-1)++b
 |[],_=>by simpa using LD aA
 |[v],h=>by
  have aO:¬ b.any (fun q=>decide (q.c6≤mark))=true:=by
   rw[List.any_eq_true];rintro⟨q,a5,aC⟩;exact aA q a5 (by simpa using aC)
  show m3 mark (v::b)=_
  rw[m3,if_neg aO,LD aA]; rfl
 |v::u::a,h=>by
  have aO:(u::a++b).any (fun q=>decide (q.c6≤mark))=true:=
   List.any_eq_true.2 ⟨u,by simp,by simpa using h u (by simp)⟩
  show m3 mark (v::(u::a++b))=_
  rw[m3,if_pos aO,U5 aA fun v ax=>h v (List.mem_cons_of_mem _ ax)];simp
structure Place(c:List ei)(at_:Int)(l:Nat):Prop where
 le:l≤c.length
 qy:∀ v∈c.take l,v.c6≤at_
 aq:∀ v∈c.drop l,¬ v.c6≤at_
theorem Place.upto{c:List ei}{at_:Int}{l:Nat}(h:Place c at_ l):upto c at_=c.take l:=by
 unfold Store.upto
 conv=>lhs; rw[← List.take_append_drop l c]
 rw[List.filter_append,List.filter_eq_self.2 fun v ax=>by simpa using h.qy v ax,List.filter_eq_nil_iff.2 fun v ax=>by simpa using h.aq v ax,List.append_nil]
theorem Place.bL{c:List ei}{at_:Int}{l:Nat}(h:Place c at_ l):m3 at_ c=c.drop (l-1):=by
 conv=>lhs; rw[← List.take_append_drop l c]
 rw[U5 h.aq h.qy,List.length_take,Nat.min_eq_left h.le]
 conv=>rhs; rw[← List.take_append_drop l c]
 rw[List.drop_append_of_le_length (by rw[List.length_take,Nat.min_eq_left h.le]; omega)]
theorem Place.afk{c:List ei}{at_:Int}(h:Place c at_ 0):j7 c at_=none:=by unfold j7; rw[h.upto]; rfl
theorem Place.j7{c:List ei}{at_:Int}{l:Nat}(h:Place c at_ (l+1)):j7 c at_=c[l]?:=by
 unfold Store.j7; rw[h.upto,List.getLast?_take,if_neg (by omega)];have:=h.le;rw[show l+1-1=l from rfl,List.getElem?_eq_getElem (by omega)]; rfl
theorem LF(mark:Int):∀ R:List Row,(bL mark R).Sublist R
 |[]=>List.Sublist.refl _
 |r::R=>by
  have:=LF mark R;unfold bL; split
  ·exact this.cons _
  ·exact this.cons_cons _
theorem U6{mark:Int}{c:List ei}(aj:zz c):m3 mark c=[]↔c=[]:=by
 constructor
 ·intro h;induction c with
  |nil=>rfl
  |cons v c b8=>
   unfold m3 at h;split at h
   ·rename_i W;have:=b8 (List.pairwise_cons.1 aj).2 h;subst this; simp at W
   ·cases h
 ·rintro rfl; rfl
theorem Keys.azo{R z:List Row}{bu LC:List Int}(h:Keys R bu)(J:Keys z LC)(he:∀ k,aK R k≠[]↔aK z k≠[]):bu=LC:=by
 have aH:bu.Perm LC:=(List.perm_ext_iff_of_nodup (h.oB.imp fun h=>Int.ne_of_lt h) (J.oB.imp fun h=>Int.ne_of_lt h)).2 fun k=>by rw[h.all,J.all,he]
 exact aH.eq_of_pairwise (fun a b _ _ B J=>by omega) h.oB J.oB
section
variable {y w:World} {c bx:List bt}
structure i_ where
 b:Nat
 s:X
 mark:Int
def kq(C:i_)(R:List ei):bt:=de [aN C.b (tb.cells ⟨C.s,C.mark⟩) 238,row cX 210 2 C.s R]
theorem ut{C:i_}{R:List ei}(H:E y (kq C R::c) w):E y (aN C.b (tb.cells ⟨C.s,C.mark⟩) 238::row cX 210 2 C.s R::c) w:=H.open_
theorem q5{C:i_}{R:List ei}(H:E y (aN C.b (tb.cells ⟨C.s,C.mark⟩) 238::row cX 210 2 C.s R::c) w):E y (kq C R::c) w:=
 E.shut (bx:=[aN C.b (tb.cells ⟨C.s,C.mark⟩) 238,row cX 210 2 C.s R]) H
theorem ae4(H:E y c w):L Pg 213 [] aM w fun r I=>∃ b,r=some ⟨b,0,none⟩∧E y (kq ⟨b,er,0⟩ []::c) I:=by
 refine abD ?_;unfold P_;refine cj H fun b eu H=>?_;exact⟨b,rfl,q5 ((jW cX 210 2 H).front 1)⟩
theorem Sq{C:i_}{R:List ei}(hm:R.length≤1000000)(H:E y (kq C R::c) w):L Pg 211 [.pointer (some ⟨C.b,0,none⟩)] (bJ cX bi) w fun r I=>r=m5 R∧E y (kq C R::c) I:=by
 refine abB ?_;unfold P8;refine cj H fun b eu H=>?_;have H:=ut (H.front 1);have aF:=ho (H.front 1);refine b2 rfl ?_;refine an (x:=C.s) 0 H rfl rfl rfl ?_;split
 ·rename_i W;have W:R=[]:=List.length_eq_zero_iff.1 (by simp at W; omega);subst W;refine fb (x:=iy) (N:=(⟨0,0⟩:ei)) oa 2 H rfl fun cK H=>?_;refine gV (x:=(⟨0,0⟩:ei)) 0 H rfl ?_;exact⟨rfl,q5 H.drop⟩
 ·rename_i W;have W:0<R.length:=by simp at W; omega
  have e:IntKind.i64.wrap (((C.s.len:Int))-1)=(R.length:Int)-1:=by rw[aF]; exact wrap_i64 (by omega) (by omega)
  refine dH H fun cK H=>?_;refine an (x:=C.s) 0 H rfl rfl rfl ?_;refine an (x:=C.s) 0 H rfl rfl rfl ?_;rw[e];obtain⟨a,ag⟩:=ih (ao:=2) (i:=(R.length:Int)-1) (H.front 1) (by omega) (by omega);have F:R[((R.length:Int)-1).toNat]?=some R[((R.length:Int)-1).toNat]:=List.getElem?_eq_getElem (by omega);refine aQ a ag ?_;refine aQ _ (lz (fun _=>rfl) ag F (H.front 1)) ?_;have aj:R.getLast?=some R[((R.length:Int)-1).toNat]:=by rw[← F,List.getLast?_eq_getElem?]; congr 1; omega
  generalize R[((R.length:Int)-1).toNat]=x at aj;refine fb (x:=iy) (N:=x) oa 2 H rfl fun a6 H=>?_;refine gV (x:=x) 0 H rfl ?_;refine⟨?_,q5 H.drop⟩;unfold m5; rw[aj]; rfl
theorem ae3{C:i_}{R:List ei}(hm:R.length≤1000000)(H:E y (kq C R::c) w):L Pg 222 [.pointer (some ⟨C.b,0,none⟩)] O w fun r I=>E y (row cX 210 2 r R::kq C R::c) I:=by
 refine abN ?_;unfold Qj;have H:=ut H;have aF:=ho (H.front 1);refine b2 rfl ?_;refine an (x:=C.s) 0 H rfl rfl rfl ?_;rw[aF];refine C7 (ao:=2) (by omega) (by omega) (by omega) H fun b eu H=>?_;refine an (x:=C.s) 1 H rfl rfl rfl ?_;refine E8 (fun _=>rfl) H (xq (H.front 2)) (by simp) fun cK H=>?_;exact (q5 ((H.front 1).ord [0,2])).front 1
theorem ayi{n:Int}{gJ:dz}{bz:Int→Bool}(am:0≤n)(B:n≤1000000)(u3:∀ (w:World) (i:Int),0≤i→i<n→E y c w→xO Pg gJ [.int .i64 i] bi w fun r I=>r=bz i∧E y c I)
  (TZ:∀ i l,0≤i→i≤l→l<n→bz i=true→bz l=true) (H:E y c w) :
  L Pg 180 [.int .i64 n,gJ.enc] (D .i64) w fun r I=>0≤r∧r≤n∧(∀ i,0≤i→i<r→bz i=false)∧(∀ i,r≤i→i<n→bz i=true)∧E y c I:=by
 refine aa9 ?_;unfold PN;refine wH (fun p w=>0≤p.1∧p.1≤p.2∧p.2≤n∧(∀ i,0≤i→i<p.1→bz i=false)∧(∀ i,p.2≤i→i<n→bz i=true)∧E y c w) (fun p=>(p.2-p.1).toNat)
  ⟨Int.le_refl 0,am,Int.le_refl _,fun i B J=>by simp only at J; omega,fun i B J=>by simp only at B; omega,H⟩ ?_
 rintro⟨i,l⟩ w ⟨iL,dM,aY,aI,bh,H⟩;simp only at iL dM aY aI bh;simp only;unfold H7;split
 ·rename_i W;have W:i<l:=by simpa using W
  have gf:IntKind.i64.wrap (i+l)=i+l:=wrap_i64 (by omega) (by omega);have aT:IntKind.u64.wrap (i+l)=i+l:=by
   unfold IntKind.wrap;simp[IntKind.bits,IntKind.signed];omega
  have a0:Int.fdiv (i+l) (2^(min ((1:Int)).toNat IntKind.u64.bits))=(i+l)/2:=by
   have:(2:Int)^(min ((1:Int)).toNat IntKind.u64.bits)=2:=rfl;rw[this,Int.fdiv_eq_ediv_of_nonneg _ (by omega)]
  rw[gf,aT,a0];refine aQ ((i+l)/2) ⟨by omega,rfl⟩ ?_;have cS:IntKind.i64.wrap ((i+l)/2)=(i+l)/2:=wrap_i64 (by omega) (by omega);have j9:IntKind.i64.wrap ((i+l)/2+1)=(i+l)/2+1:=wrap_i64 (by omega) (by omega);rw[cS,j9];obtain⟨g,o,ae,aim,h⟩:=u3 w ((i+l)/2) (by omega) (by omega) H;refine⟨g,o,ae,aim,aE h ?_⟩;rintro r eu ⟨rfl,H⟩;show if (!bz ((i+l)/2))=true then _ else _
  split
  ·rename_i Z;have Z:bz ((i+l)/2)=false:=by simpa using Z
   refine⟨⟨by simp only; omega,by simp only; omega,aY,fun x B J=>?_,bh,H⟩,by simp only; omega⟩;simp only at J;cases aH:bz x with
   |false=>rfl
   |true=>rw[TZ x ((i+l)/2) B (by omega) (by omega) aH] at Z; cases Z
  ·rename_i Z;have Z:bz ((i+l)/2)=true:=by simpa using Z
   refine⟨⟨iL,by simp only; omega,by simp only; omega,aI,fun x B J=>?_,H⟩,by simp only; omega⟩;simp only at B;exact TZ ((i+l)/2) x (by omega) (by omega) J Z
 ·rename_i W;have W:i=l:=by simp at W; omega
  subst W;exact⟨iL,aY,aI,bh,H⟩
theorem WO{C:i_}{R:List ei}{at_:Int}(hm:R.length≤1000000)(Z:zz R)(H:E y (kq C R::c) w):L Pg 151 [.pointer (some ⟨C.b,0,none⟩),.int .i64 at_] (D .i64) w fun r I=>∃ l:Nat,r=l∧Place R at_ l∧E y (kq C R::c) I:=by
 refine aaQ ?_;unfold Pu;refine cj H fun gn eu H=>?_;refine cj H fun gR cK H=>?_;have H:=ut (H.front 2);have aF:=ho (H.front 1);refine an (x:=some ⟨C.b,0,none⟩) 3 H rfl rfl rfl ?_;refine b2 rfl ?_;refine an (x:=C.s) 0 H rfl rfl rfl ?_;rw[aF];refine aE (ayi (bz:=fun i=>match R[i.toNat]? with | some v=>decide (v.c6>at_) | none=>false) (by omega) (by omega) ?_ ?_ H) ?_
 ·intro w i am B H;refine⟨181,[.pointer (some ⟨gn,0,none⟩),.pointer (some ⟨gR,0,none⟩)],rfl,af7,?_⟩;refine aba ?_;unfold PO;refine dH H fun a6 H=>?_;refine an (x:=some ⟨C.b,0,none⟩) 3 H rfl rfl rfl ?_;refine b2 rfl ?_;refine an (x:=C.s) 0 H rfl rfl rfl ?_;obtain⟨a,ag⟩:=ih (ao:=2) (i:=i) (H.front 1) am (by omega);have F:R[i.toNat]?=some R[i.toNat]:=List.getElem?_eq_getElem (by omega);refine aQ a ag ?_;refine aQ R[i.toNat].c6 (iz (fun _=>rfl) ag F rfl (H.front 1)) ?_;refine an (x:=at_) 2 H rfl rfl rfl ?_;refine⟨?_,H⟩;rw[F]
 ·intro i l am B J au;have F:R[i.toNat]?=some R[i.toNat]:=List.getElem?_eq_getElem (by omega);have aJ:R[l.toNat]?=some R[l.toNat]:=List.getElem?_eq_getElem (by omega);simp only[F,aJ,decide_eq_true_eq] at au ⊢;rcases Int.lt_or_eq_of_le B with h | h
  ·have:=List.pairwise_iff_getElem.1 Z i.toNat l.toNat (by omega) (by omega) (by omega);omega
  ·subst h; exact au
 ·rintro r a6 ⟨my,k8,bs,fT,H⟩;refine⟨r.toNat,by omega,⟨by omega,?_,?_⟩,?_⟩
  ·intro v ax;obtain⟨i,aq,rfl⟩:=List.mem_take_iff_getElem.1 ax;have:=bs i (by omega) (by omega);rw[show ((i:Int)).toNat=i from rfl,List.getElem?_eq_getElem (by omega)] at this;simp at this; omega
  ·intro v ax;obtain⟨i,aq,rfl⟩:=List.mem_drop_iff_getElem.1 ax;have:=fT (r+i) (by omega) (by omega);rw[show (r+(i:Int)).toNat=r.toNat+i from by omega,List.getElem?_eq_getElem (by omega)] at this;simp at this; omega
  ·exact q5 ((H.ord [3,2]).drop.drop)
theorem ae2{C:i_}{R:List ei}{at_:Int}(hm:R.length≤1000000)(Z:zz R)(am:0≤at_)(B:at_≤1125899906842624)(J:C.mark≤at_)(H:E y (kq C R::c) w) :
  L Pg 125 [.pointer (some ⟨C.b,0,none⟩),.int .i64 at_] (bJ cX (D .i64)) w fun r I=>r=(match j7 R at_ with | none=>((⟨0,0⟩:ei),(114:Int)) | some v=>(v,0))∧E y (kq C R::c) I:=by
 refine aau ?_;unfold O8;refine cj H fun b eu H=>?_;rw[if_neg (by simp; omega)];have H:=ut (H.front 1);have aF:=ho (H.front 1);refine b2 rfl ?_;refine an (x:=C.mark) 0 H rfl rfl rfl ?_;rw[if_neg (by simp; omega)];refine aE (WO (at_:=at_) hm Z (q5 H)) ?_;rintro r cK ⟨l,rfl,aH,H⟩;have H:=ut H;cases l with
 |zero=>
  rw[if_pos (by simp)];refine fb (x:=iy) (N:=(⟨0,0⟩:ei)) oa 2 H rfl fun a6 H=>?_;refine gV (x:=(⟨0,0⟩:ei)) 0 H rfl ?_;refine⟨?_,q5 H.drop⟩;rw[aH.afk]
 |succ l=>
  rw[if_neg (by simp; omega)];have k6:=aH.le;refine an (x:=C.s) 0 H rfl rfl rfl ?_;have e:IntKind.i64.wrap (((l+1:Nat):Int)-1)=l:=by rw[show ((l+1:Nat):Int)-1=l from by omega]; exact wrap_i64 (by omega) (by omega)
  rw[e];obtain⟨a,ag⟩:=ih (ao:=2) (i:=(l:Int)) (H.front 1) (by omega) (by omega);have F:R[((l:Int)).toNat]?=some R[l]:=List.getElem?_eq_getElem (by omega);refine aQ a ag ?_;refine aQ _ (lz (fun _=>rfl) ag F (H.front 1)) ?_;have W:j7 R at_=some R[l]:=by rw[aH.j7]; exact F
  generalize R[l]=x at W;refine fb (x:=iy) (N:=x) oa 2 H rfl fun a6 H=>?_;refine gV (x:=x) 0 H rfl ?_;refine⟨?_,q5 H.drop⟩;rw[W]
theorem afa{C:i_}{R:List ei}{t v:Int}(hm:R.length<10000)(am:1≤t)(B:t≤1125899906842624)(J:C.mark<t)(au:(m5 R).1.c6<t)(H:E y (kq C R::c) w) :
  L Pg 214 [.pointer (some ⟨C.b,0,none⟩),.int .i64 t,.int .i64 v] (D .i64) w fun r I=>∃ s,E y (kq ⟨C.b,s,C.mark⟩ (R++[⟨t,v⟩])::c) I:=by
 refine abE ?_;unfold Qa;rw[if_neg (by simp; omega)];refine aE (Sq (by omega) H) ?_;rintro r eu ⟨rfl,H⟩;refine cj H fun b cK H=>?_;generalize m5 R=q at *;refine fb (x:=iy) (N:=q.1) oa 0 H rfl fun a6 H=>?_;refine aQ q.1.c6 (fun _=>cW (D .i64) H rfl rfl) ?_;have H:=ut (H.front 1);have aF:=ho (H.front 1);refine aQ (⟨C.b,0,none⟩:Addr) (fun _=>rfl) ?_;refine aQ C.mark (fun _=>cW (D .i64) H rfl rfl) ?_;rw[if_neg (by simp; omega)];refine b2 rfl ?_;refine an (x:=C.s) 0 H rfl rfl rfl ?_;rw[if_neg (by simp; omega)];refine an (x:=C.s) 0 H rfl rfl rfl ?_;refine me (fun _=>rfl) 1 H rfl (by simp; omega) fun s aV H=>?_;refine eg (x:=s) 1 H rfl rfl (Nat.le_of_ble_eq_true rfl) fun bb H=>?_;exact⟨s,q5 (C:=⟨C.b,s,C.mark⟩) ((H.front 2).drop)⟩
theorem ae9{C:i_}{R:List ei}{mark:Int}(hm:R.length≤1000000)(Z:zz R)(am:0≤mark)(B:mark≤1125899906842624)(J:C.mark≤mark)(H:E y (kq C R::c) w) :
  L Pg 217 [.pointer (some ⟨C.b,0,none⟩),.int .i64 mark] (D .i64) w fun r I=>∃ s,E y (kq ⟨C.b,s,mark⟩ (m3 mark R)::c) I:=by
 refine abH ?_;unfold Qd;rw[if_neg (by simp; omega)];have H:=ut H;have aF:=ho (H.front 1);refine b2 rfl ?_;refine an (x:=C.mark) 0 H rfl rfl rfl ?_;rw[show max C.mark mark=mark from by omega];refine eg (x:=mark) 0 H rfl rfl (Nat.le_of_ble_eq_true rfl) fun eu H=>?_;have H:=q5 (C:=⟨C.b,C.s,mark⟩) H;have H:=ut H;refine an (x:=mark) 0 H rfl rfl rfl ?_;refine aE (WO (C:=⟨C.b,C.s,mark⟩) (at_:=mark) hm Z (q5 H)) ?_;rintro r cK ⟨l,rfl,aH,H⟩;have H:=ut H;have k6:=aH.le;refine an (x:=C.s) 0 H rfl rfl rfl ?_;have e:max (IntKind.i64.wrap ((l:Int)-1)) 0=((l-1:Nat):Int):=by rw[wrap_i64 (by omega) (by omega)]; omega
 rw[e,aH.bL];have a0:IntKind.i64.wrap ((C.s.len:Int)-((l-1:Nat):Int))=((R.length-(l-1):Nat):Int):=by rw[aF,wrap_i64 (by omega) (by omega)]; omega
 rw[a0];refine C7 (ao:=2) (by omega) (by omega) (by omega) H fun b a6 H=>?_;refine an (x:=C.s) 1 H rfl rfl rfl ?_;have lU:C.s.len≤C.s.cap:=AL (H.front 2);refine nn (by omega) (by omega) (by omega) (by omega) fun s1 CD=>?_;have lp:=Ya (fun _=>rfl) CD (H.front 2);refine E8 (fun _=>rfl) H lp (by simp) fun aV H=>?_;refine nn (by omega) (by omega) (by omega) (by simp) fun s2 CE=>?_;have cS:s2=⟨some ⟨b,0,none⟩,R.length-(l-1),R.length-(l-1)⟩:=by
  obtain⟨_,_,_,_,h⟩:=CE;rw[h];simp only[Int.toNat_natCast];congr 1;split
  ·rfl
  ·rw[Option.map_some,show ((0:Int).toNat*2)=0 from rfl,iN]
 rw[cS];simp only[Int.toNat_natCast] at H;refine eg (x:=(⟨some ⟨b,0,none⟩,R.length-(l-1),R.length-(l-1)⟩:X)) 1 H rfl rfl (Nat.le_of_ble_eq_true rfl) fun bb H=>?_;have H:E y (kq ⟨C.b,⟨some ⟨b,0,none⟩,R.length-(l-1),R.length-(l-1)⟩,mark⟩ (R.drop (l-1))::row cX 210 2 C.s R::c) bb:=q5 H;exact⟨_,(H.front 1).drop⟩
end
end Store
namespace Num
open ba
theorem f64:FloatKind.f64.format=Ieee.double:=rfl
def m7(f:Nat):Nat:=if f<4503599627370496 then f else 4503599627370496+f%4503599627370496
def k3(f:Nat):Nat:=if f<4503599627370496 then 0 else f/4503599627370496-1
theorem NN:Ieee.double.signWeight=9223372036854775808:=by decide
theorem BQ:Ieee.double.binade=4503599627370496:=by decide
theorem CP:Ieee.double.infRung=9218868437227405312:=by decide
theorem C5:Ieee.double.leastPlace=-1074:=by decide
theorem S8:Ieee.double.fractionBits=52:=rfl
theorem pT{f:Nat}(h:f<9218868437227405312):Ieee.double.read f=.number false (m7 f) (-1074+(k3 f:Nat)):=by
 have aT:(f/9223372036854775808%2==1)=false:=by rw[Nat.div_eq_of_lt (by omega)]; rfl
 have a0:f%9223372036854775808=f:=Nat.mod_eq_of_lt (by omega);unfold Ieee.Format.read m7 k3;simp only[NN,BQ,CP,C5,aT,a0];by_cases o:f<4503599627370496
 ·simp only[if_pos o]; rfl
 ·simp only[if_neg o,if_pos h]
theorem Ye{f:Nat}(B:9223372036854775808<f)(J:f<18446744073709551616):(∃ m i,1≤m∧Ieee.double.read f=.number true m i)∨Ieee.double.read f=.infinity true∨∃ t,Ieee.double.read f=.nan true t:=by
 have aT:(f/9223372036854775808%2==1)=true:=by
  have:f/9223372036854775808=1:=by omega
  rw[this]; rfl
 unfold Ieee.Format.read;simp only[NN,BQ,CP,C5,aT];by_cases bF:f%9223372036854775808<4503599627370496
 ·simp only[if_pos bF];exact .inl ⟨_,_,by omega,rfl⟩
 ·simp only[if_neg bF];by_cases bP:f%9223372036854775808<9218868437227405312
  ·simp only[if_pos bP];exact .inl ⟨_,_,by omega,rfl⟩
  ·simp only[if_neg bP];by_cases di:f%9223372036854775808=9218868437227405312
   ·simp only[if_pos di];exact .inr (.inl (by trivial))
   ·simp only[if_neg di];exact .inr (.inr ⟨_,rfl⟩)
theorem axC{f:Nat}(h:f<9223372036854775808):(∃ m i,Ieee.double.read f=.number false m i)∨Ieee.double.read f=.infinity false∨∃ t,Ieee.double.read f=.nan false t:=by
 have aT:(f/9223372036854775808%2==1)=false:=by
  have:f/9223372036854775808=0:=by omega
  rw[this]; rfl
 unfold Ieee.Format.read;simp only[NN,BQ,CP,C5,aT];by_cases bF:f%9223372036854775808<4503599627370496
 ·simp only[if_pos bF];exact .inl ⟨_,_,rfl⟩
 ·simp only[if_neg bF];by_cases bP:f%9223372036854775808<9218868437227405312
  ·simp only[if_pos bP];exact .inl ⟨_,_,rfl⟩
  ·simp only[if_neg bP];by_cases di:f%9223372036854775808=9218868437227405312
   ·simp only[if_pos di];exact .inr (.inl (by trivial))
   ·simp only[if_neg di];exact .inr (.inr ⟨_,rfl⟩)
theorem E6{a b:Int}(h:a<b):compare a b=.lt:=Std.compare_eq_lt.2 h
theorem afi{a b:Int}(h:b<a):compare a b=.gt:=Std.compare_eq_gt.2 h
theorem Su{a b:Int}(h:b≤a):compare a b≠.lt:=fun e=>by
 have:=Std.compare_eq_lt.1 e;omega
theorem ayp{m k:Nat}(h:1≤m):Ieee.signed true m k<0:=by
 unfold Ieee.signed;rw[if_pos rfl,Nat.shiftLeft_eq];have:1≤m*2^k:=Nat.le_trans h (Nat.le_mul_of_pos_right _ (Nat.two_pow_pos k));omega
theorem ayq{m k:Nat}:0≤Ieee.signed false m k:=by
 unfold Ieee.signed;rw[if_neg (by simp)];exact Int.natCast_nonneg _
theorem vB(m k:Nat):Ieee.signed false m k=((m*2^k:Nat):Int):=by
 unfold Ieee.signed;rw[if_neg (by simp),Nat.shiftLeft_eq]
theorem YJ{m k:Nat}(h:1≤m):0<Ieee.signed false m k:=by
 rw[vB];have:1≤m*2^k:=Nat.le_trans h (Nat.le_mul_of_pos_right _ (Nat.two_pow_pos k));omega
theorem aut{f:Nat}(h:0<f):1≤m7 f:=by unfold m7; split<;>omega
theorem ND:Ieee.double.read 0=.number false 0 (-1074):=by rw[pT (by omega)]; rfl
theorem aui{f:Nat}(h:f<9223372036854775808):gS .lss f 0=false:=by
 unfold gS;rw[f64];simp only[Ieee.Format.order,ND];rcases axC h with ⟨m,i,e⟩ | e | ⟨t,e⟩
 ·rw[e];simp only[Ieee.Datum.order];have:Ieee.signed false 0 (-1074-min i (-1074)).toNat=0:=by rw[vB]; simp
  rw[this];have W:=Su (ayq (m:=m) (k:=(i-min i (-1074)).toNat));cases bV:compare (Ieee.signed false m (i-min i (-1074)).toNat) 0 with
  |lt=>exact absurd bV W
  |eq=>rfl
  |gt=>rfl
 ·rw[e]; rfl
 ·rw[e]; rfl
theorem auh{f:Nat}(B:9223372036854775808<f)(J:f<18446744073709551616)(aO:gS .neq f f=false):gS .lss f 0=true:=by
 unfold gS at *;rw[f64] at *;simp only[Ieee.Format.order,ND] at *;rcases Ye B J with ⟨m,i,hm,e⟩ | e | ⟨t,e⟩
 ·rw[e];simp only[Ieee.Datum.order];have:Ieee.signed false 0 (-1074-min i (-1074)).toNat=0:=by rw[vB]; simp
  rw[this,E6 (ayp hm)];rfl
 ·rw[e]; rfl
 ·rw[e] at aO;cases aO
theorem S1{f:Nat}(am:0<f)(h:f<9218868437227405312):gS .eql f 0=false:=by
 unfold gS;rw[f64];simp only[Ieee.Format.order,ND,pT h,Ieee.Datum.order];have:Ieee.signed false 0 (-1074-min (-1074+(k3 f:Int)) (-1074)).toNat=0:=by rw[vB]; simp
 rw[this,afi (YJ (aut am))];rfl
theorem Yd:Ieee.double.read 9218868437227405311=.number false 9007199254740991 971:=by rw[pT (by omega)]; rfl
theorem L5{f:Nat}(h:f≤4611686018427387904):gS .gtr f 9218868437227405311=false:=by
 unfold gS;rw[f64];simp only[Ieee.Format.order,Yd,pT (show f<9218868437227405312 by omega),Ieee.Datum.order];have he:k3 f≤1023:=by unfold k3; split<;>omega
 have hm:m7 f<9007199254740992:=by unfold m7; split<;>omega
 have x7:min (-1074+(k3 f:Int)) 971=-1074+(k3 f:Int):=by omega
 rw[x7,vB,vB];have aT:(-1074+(k3 f:Int)-(-1074+(k3 f:Int))).toNat=0:=by omega
 obtain⟨k,al⟩:∃ k,(971-(-1074+(k3 f:Int))).toNat=k+1:=⟨(970-(-1074+(k3 f:Int))).toNat,by omega⟩
 rw[aT,al];have J:1≤2^k:=Nat.two_pow_pos k;have au:9007199254740991*2^(k+1)=9007199254740991*2*2^k:=by rw[Nat.pow_succ]; omega
 have a8:9007199254740991*2*1≤9007199254740991*2*2^k:=Nat.mul_le_mul_left _ J;rw[E6 (by rw[au]; omega)];rfl
theorem auk{f:Nat}(h:f<4503599627370496):gS .lss f 4503599627370496=true:=by
 have aT:Ieee.double.read 4503599627370496=.number false 4503599627370496 (-1074):=by rw[pT (by omega)]; rfl
 have a0:m7 f=f:=by unfold m7; rw[if_pos h]
 have cS:k3 f=0:=by unfold k3; rw[if_pos h]
 unfold gS;rw[f64];simp only[Ieee.Format.order,aT,pT (show f<9218868437227405312 by omega),Ieee.Datum.order,a0,cS,vB];rw[E6 (by simp; omega)];rfl
theorem auj{f:Nat}(am:4503599627370496≤f)(h:f<9218868437227405312):gS .lss f 4503599627370496=false:=by
 have aT:Ieee.double.read 4503599627370496=.number false 4503599627370496 (-1074):=by rw[pT (by omega)]; rfl
 have a0:4503599627370496≤m7 f:=by unfold m7; rw[if_neg (by omega)]; omega
 unfold gS;rw[f64];simp only[Ieee.Format.order,aT,pT h,Ieee.Datum.order,vB];have x7:min (-1074+(k3 f:Int)) (-1074)=-1074:=by omega
 rw[x7];have B:4503599627370496*2^(-1074 - -1074:Int).toNat≤m7 f*2^(-1074+(k3 f:Int) - -1074).toNat:=by
  have:(-1074 - -1074:Int).toNat=0:=by decide
  rw[this];exact Nat.mul_le_mul a0 (Nat.two_pow_pos _)
 have W:=Su (Int.ofNat_le.2 B);cases bV:compare ((m7 f*2^(-1074+(k3 f:Int) - -1074).toNat:Nat):Int) ((4503599627370496*2^(-1074 - -1074:Int).toNat:Nat):Int) with
 |lt=>exact absurd bV W
 |eq=>rfl
 |gt=>rfl
theorem SA{n k q:Nat}(h:n=q*2^k)(al:k≤n.log2+2)(neg:Bool):Ieee.Toward.even.cut neg n k=q:=by
 unfold Ieee.Toward.cut;simp only[Nat.min_eq_left al,Nat.shiftLeft_eq,Nat.one_mul];have aH:=Nat.two_pow_pos k;have aT:n/2^k=q:=by rw[h]; exact Nat.mul_div_cancel _ aH
 have a0:n%2^k=0:=by rw[h]; exact Nat.mul_mod_left _ _
 rw[aT,a0];have cS:(decide (2^k<2*0)||(2^k==2*0)&&q%2==1)=false:=by
  have:(2^k==2*0)=false:=by
   rw[beq_eq_false_iff_ne];omega
  rw[this];simp
 rw[cS];rfl
theorem mul_one{aD:Nat}(h:aD<4503599627370496):xk .mul 4607182418800017408 (1075*4503599627370496+aD) (1075*4503599627370496+aD):=by
 have aT:Ieee.double.read 4607182418800017408=.number false 4503599627370496 (-52):=by rw[pT (by omega)]; rfl
 have a0:Ieee.double.read (1075*4503599627370496+aD)=.number false (4503599627370496+aD) 0:=by
  rw[pT (by omega)];have bF:m7 (1075*4503599627370496+aD)=4503599627370496+aD:=by unfold m7; rw[if_neg (by omega)]; omega
  have bP:k3 (1075*4503599627370496+aD)=1074:=by unfold k3; rw[if_neg (by omega)]; omega
  rw[bF,bP]; rfl
 unfold xk floatBits;rw[f64];simp only[Ieee.Format.mul,aT,a0,Ieee.Datum.product,Option.map_some,Ieee.Format.write];congr 1;unfold Ieee.Format.nearest;have ec:¬ 4503599627370496*(4503599627370496+aD)=0:=by omega
 have wz:(4503599627370496*(4503599627370496+aD)).log2=104:=by
  rw[Nat.log2_eq_iff ec];omega
 rw[if_neg ec];simp only[wz,S8,C5,BQ,CP];have tp:max ((-52:Int)+0+((104:Nat):Int)-((52:Nat):Int)) (-1074)=0:=by decide
 rw[tp];have CD:((-52:Int)+0-0).toNat=0:=by decide
 have CE:((0:Int)-(-52+0)).toNat=52:=by decide
 have KW:((0:Int) - -1074).toNat=1074:=by decide
 rw[CD,CE,KW,Nat.shiftLeft_zero];rw[SA (q:=4503599627370496+aD) (by omega) (by rw[wz]; omega)];show min _ _=_
 omega
theorem azl{aD:Nat}(h:aD<4503599627370496):vV .i64 (1075*4503599627370496+aD) ((4503599627370496+aD:Nat):Int):=by
 have a0:Ieee.double.read (1075*4503599627370496+aD)=.number false (4503599627370496+aD) 0:=by
  rw[pT (by omega)];have bF:m7 (1075*4503599627370496+aD)=4503599627370496+aD:=by unfold m7; rw[if_neg (by omega)]; omega
  have bP:k3 (1075*4503599627370496+aD)=1074:=by unfold k3; rw[if_neg (by omega)]; omega
  rw[bF,bP]; rfl
 unfold vV floatToIntVal FloatKind.decode;rw[f64,a0];have J6:Ieee.Toward.zero.cut false ((4503599627370496+aD) <<< (0:Int).toNat) (-(0:Int)).toNat=4503599627370496+aD:=by
  unfold Ieee.Toward.cut;simp
 simp only[Ieee.Datum.toInt,Ieee.Datum.integral,J6,vB];have eR:IntKind.i64.min=-9223372036854775808:=rfl;have f_:IntKind.i64.max=9223372036854775807:=rfl;rw[eR,f_];simp;omega
theorem Zb:vV .i64 0 0∧vV .i64 9223372036854775808 0:=by
 refine⟨?_,?_⟩
 ·unfold vV; rfl
 ·unfold vV; rfl
theorem ayT{f k:Nat}(am:0<f)(h:f<2^52)(al:f.log2=k):k<52∧(f*2^52).log2=k+52∧2^52≤f*2^(52-k)∧f*2^(52-k)<2*2^52∧f*2^52=f*2^(52-k)*2^k:=by
 have wz:=(Nat.log2_eq_iff (Nat.ne_of_gt am)).1 al;have Cr:k<52:=by
  apply Classical.byContradiction;intro W;have B:2^52≤2^k:=Nat.pow_le_pow_right (Nat.zero_lt_succ 1) (Nat.le_of_not_lt W);exact absurd (Nat.lt_of_lt_of_le h B) (Nat.not_lt_of_le wz.1)
 obtain⟨l,a7⟩:∃ l,l+k=52:=⟨52-k,by omega⟩
 have z7:52-k=l:=by omega
 have aH:(2:Nat)^52=2^l*2^k:=by rw[← Nat.pow_add,a7]
 rw[z7];generalize (2:Nat)^52=ar at *;have mX:0<ar:=by rw[aH]; exact Nat.mul_pos (Nat.two_pow_pos _) (Nat.two_pow_pos _)
 refine⟨Cr,?_,?_,?_,?_⟩
 ·rw[Nat.log2_eq_iff (Nat.ne_of_gt (Nat.mul_pos am mX))];have cS:(2:Nat)^(k+52)=2^k*ar:=by rw[aH,Nat.mul_comm (2^l),← Nat.mul_assoc,← Nat.pow_add,← Nat.pow_add]; congr 1; omega
  have j9:(2:Nat)^(k+52+1)=2^(k+1)*ar:=by rw[Nat.pow_succ,cS,Nat.pow_succ,Nat.mul_assoc,Nat.mul_assoc,Nat.mul_comm ar]
  rw[cS,j9];exact⟨Nat.mul_le_mul_right _ wz.1,Nat.mul_lt_mul_of_pos_right wz.2 mX⟩
 ·have:=Nat.mul_le_mul_right (2^l) wz.1;rw[Nat.mul_comm (2^k),← aH] at this;exact this
 ·have:=Nat.mul_lt_mul_of_pos_right wz.2 (Nat.two_pow_pos l);have ny:(2:Nat)^(k+1)*2^l=2*ar:=by rw[aH,Nat.pow_succ,Nat.mul_comm (2^l),Nat.mul_comm (2^k) 2,Nat.mul_assoc]
  rw[ny] at this;exact this
 ·rw[aH,Nat.mul_assoc]
theorem R3{x m z:Nat}(F:x<18446744073709551616)(hm:(~~~ BitVec.ofNat 64 m)=BitVec.ofNat 64 z)(ahA:z<18446744073709551616):bits .andNot .u64 (x:Int) (m:Int)=((x&&&z:Nat):Int):=by
 have cA:x&&&z<18446744073709551616:=Nat.lt_of_le_of_lt Nat.and_le_left F;simp only[bits,BitVec.ofInt_natCast];have:(BitVec.ofNat IntKind.u64.bits x &&& ~~~ BitVec.ofNat IntKind.u64.bits m).toNat=x&&&z:=by
  show (BitVec.ofNat 64 x &&& ~~~ BitVec.ofNat 64 m).toNat=x&&&z
  rw[hm,BitVec.toNat_and,BitVec.toNat_ofNat,BitVec.toNat_ofNat,Nat.mod_eq_of_lt F,Nat.mod_eq_of_lt ahA]
 rw[this];exact lE _ (by omega) (by omega)
theorem adP{x:Nat}(F:x<18446744073709551616):bits .andNot .u64 (x:Int) 9223372036854775808=((x%9223372036854775808:Nat):Int):=by
 have:=R3 (m:=9223372036854775808) (z:=9223372036854775807) F (by decide) (by omega);rw[show ((9223372036854775808:Nat):Int)=9223372036854775808 from rfl] at this;rw[this];have e:x&&&9223372036854775807=x%2^63:=Nat.and_two_pow_sub_one_eq_mod x 63;rw[e]
theorem Tm{x:Nat}(F:x<9223372036854775808):bits .andNot .u64 (x:Int) 9218868437227405312=((x%4503599627370496:Nat):Int):=by
 have:=R3 (m:=9218868437227405312) (z:=9227875636482146303) (show x<18446744073709551616 by omega) (by decide) (by omega);rw[show ((9218868437227405312:Nat):Int)=9218868437227405312 from rfl] at this;rw[this];have gf:x&&&9223372036854775807=x%2^63:=Nat.and_two_pow_sub_one_eq_mod x 63;have aT:x=x&&&9223372036854775807:=by rw[gf]; omega
 have a0:x&&&9227875636482146303=x&&&4503599627370495:=by
  conv=>lhs; rw[aT]
  rw[Nat.and_assoc];rfl
 have cS:x&&&4503599627370495=x%2^52:=Nat.and_two_pow_sub_one_eq_mod x 52;rw[a0,cS]
theorem Wy{oP aD:Nat}(ti:oP<2048)(jG:aD<4503599627370496):bits .or .u64 (aD:Int) ((oP*4503599627370496:Nat):Int)=((oP*4503599627370496+aD:Nat):Int):=by
 have B:=(bits_nat .u64 64 (by decide) lE aD (oP*4503599627370496) (by omega) (by omega)).2;have J:=(bits_nat .u64 64 (by decide) lE (oP*4503599627370496) aD (by omega) (by omega)).2;rw[B,Nat.or_comm,← J];rw[bits_join .u64 64 (by decide) lE 52 _ _ (by omega) (by omega) (by omega) (by omega) (by omega) (by omega)];omega
theorem R2{x:Int}(am:0≤x)(B:x<2048):bits .and .u64 x 2047=x∧bits .and .i64 x 2047=x:=by
 constructor
 ·have:=bits_mask .u64 64 (by decide) lE 11 (by decide) x am (by omega);rw[show (2:Int)^11-1=2047 from rfl] at this;rw[this]; omega
 ·have:=bits_mask .i64 63 (by decide) (fun n am B=>wrap_i64 (by omega) (by omega)) 11 (by decide) x am (by omega);rw[show (2:Int)^11-1=2047 from rfl] at this;rw[this]; omega
theorem mul_sub{f:Nat}(am:0<f)(h:f<4503599627370496):∃ aL,xk .mul f 4841369599423283200 aL∧4503599627370496≤aL∧aL<60*4503599627370496:=by
 have aT:Ieee.double.read 4841369599423283200=.number false 4503599627370496 0:=by rw[pT (by omega)]; rfl
 have a0:Ieee.double.read f=.number false f (-1074):=by
  rw[pT (by omega)];have bF:m7 f=f:=by unfold m7; rw[if_pos h]
  have bP:k3 f=0:=by unfold k3; rw[if_pos h]
  rw[bF,bP]; rfl
 have T4:(2:Nat)^52=4503599627370496:=by decide
 obtain⟨k,al⟩:∃ k,f.log2=k:=⟨_,rfl⟩
 obtain⟨Cr,KG,aj1,mn,F⟩:=ayT am (by rw[T4]; exact h) al;rw[T4] at KG aj1 mn F;generalize f*2^(52-k)=q at *;have ec:¬ f*4503599627370496=0:=by omega
 refine⟨k*4503599627370496+q,?_,by omega,by omega⟩;unfold xk floatBits;rw[f64];simp only[Ieee.Format.mul,aT,a0,Ieee.Datum.product,Option.map_some,Ieee.Format.write];congr 1;unfold Ieee.Format.nearest;rw[if_neg ec];simp only[KG,S8,C5,BQ,CP];have tp:max ((-1074:Int)+0+((k+52:Nat):Int)-((52:Nat):Int)) (-1074)=-1074+(k:Int):=by omega
 rw[tp];have CD:((-1074:Int)+0-(-1074+(k:Int))).toNat=0:=by omega
 have CE:((-1074+(k:Int))-(-1074+0)).toNat=k:=by omega
 have KW:((-1074+(k:Int)) - -1074).toNat=k:=by omega
 rw[CD,CE,KW,Nat.shiftLeft_zero];rw[SA (q:=q) F (by rw[KG]; omega)];unfold Ieee.Format.word;rw[if_neg (by simp)];exact Nat.min_eq_left (by omega)
theorem MD(d:Ieee.Datum):d.order d=if d.isNaN then none else some .eq:=by
 have bF:∀ x:Int,compare x x=.eq:=fun x=>Std.ReflCmp.compare_self;have bP:∀ x:Nat,compare x x=.eq:=fun x=>Std.ReflCmp.compare_self;cases d with
 |nan s t=>rfl
 |infinity s=>simp only[Ieee.Datum.order,bP]; rfl
 |number s m i=>simp only[Ieee.Datum.order,bF]; rfl
theorem Md{f:Nat}(h:f<9218868437227405312):gS .neq f f=false:=by
 unfold gS;rw[f64];simp only[Ieee.Format.order,MD,pT h];rfl
def iE(f:Nat):Prop:=f=9223372036854775808∨f≤4607182418800017408
section
variable {y w:World} {c bx:List bt}
theorem RY{f:Nat}(ap:f<18446744073709551616)(H:E y c w):L Pg 127 [.float .f64 f] g2 w fun r I=>r=f%9223372036854775808∧E y c I:=by
 refine O9 ?_;unfold HS;rw[adP ap,Int.toNat_natCast];exact⟨rfl,H⟩
theorem UX{f:Nat}(H:E y c w):L Pg 233 [.float .f64 f] bi w fun r I=>r=gS .neq f f∧E y c I:=by
 refine abV ?_;unfold Qt;exact⟨rfl,H⟩
theorem inf_spec{f:Nat}{s:Int}(ap:f<18446744073709551616)(H:E y c w):L Pg 94 [.float .f64 f,.int .i64 s] bi w fun r I=>r=gS .gtr (if s=0 then f%9223372036854775808 else if s<0 then Op.negFloat .f64 f else f) 9218868437227405311∧E y c I:=by
 refine RF ?_;unfold IQ zt;by_cases o:s=0
 ·rw[if_pos (by simp[o]),if_pos o];refine aE (RY ap H) ?_;rintro r w ⟨rfl,H⟩;exact⟨rfl,H⟩
 ·rw[if_neg (by simpa using o),if_neg o];by_cases d:s<0
  ·rw[if_pos (by simpa using d),if_pos d];exact⟨rfl,H⟩
  ·rw[if_neg (by simpa using d),if_neg d];exact⟨rfl,H⟩
theorem VY{f:Nat}(am:0<f)(h:f<9218868437227405312)(H:E y c w):L Pg 234 [.float .f64 f] (bJ g2 (D .i64)) w fun r I=>(4503599627370496≤f→r=(f,0))∧(f<4503599627370496→r.2=-52∧4503599627370496≤r.1∧r.1<60*4503599627370496)∧E y c I:=by
 refine abW ?_;unfold Qu;refine aE (RY (by omega) H) ?_;rintro r w ⟨rfl,H⟩;rw[Nat.mod_eq_of_lt (by omega)];by_cases o:f<4503599627370496
 ·rw[if_pos (auk o)];obtain⟨aL,cb,B,J⟩:=mul_sub am o;refine aQ aL cb ?_;exact⟨fun h=>by omega,fun _=>⟨rfl,B,J⟩,H⟩
 ·rw[if_neg (by rw[auj (by omega) h]; simp)];exact⟨fun _=>rfl,fun h=>absurd h o,H⟩
theorem ahe{f:Nat}(h:f=0∨f=9223372036854775808)(H:E y c w):L Pg 230 [.float .f64 f] (bJ g2 (D .i64)) w fun r I=>r=(f,0)∧E y c I:=by
 refine Qr ?_;unfold Io;rw[if_pos (by rcases h with rfl | rfl<;>rfl)];exact⟨rfl,H⟩
theorem atD{f:Nat}{e:Int}(h:f=0∨f=9223372036854775808)(H:E y c w):L Pg 232 [.float .f64 f,.int .i64 e] g2 w fun r I=>r=f∧E y c I:=by
 refine Qs ?_;unfold Ip;rw[if_pos (by rcases h with rfl | rfl<;>rfl)];exact⟨rfl,H⟩
theorem YK(aL:Nat):Int.fdiv (aL:Int) (2^(min ((52:Int)).toNat IntKind.u64.bits))=((aL/4503599627370496:Nat):Int):=by
 have:(2:Int)^(min ((52:Int)).toNat IntKind.u64.bits)=4503599627370496:=by decide
 rw[this,Int.fdiv_eq_ediv_of_nonneg _ (by omega)];omega
theorem ahf{f:Nat}(am:0<f)(h:f≤4607182418800017408)(H:E y c w):L Pg 230 [.float .f64 f] (bJ g2 (D .i64)) w fun r I=>(∃ (aD:Nat) (e:Int),r=(1022*4503599627370496+aD,e)∧aD<4503599627370496∧(4503599627370496≤f→aD=f%4503599627370496∧e=(f/4503599627370496:Nat)-1022)∧(f<4503599627370496→-1100≤e∧e≤-1000))∧E y c I:=by
 refine Qr ?_;unfold Io;rw[if_neg (by rw[S1 am (by omega)]; simp)];refine aE (inf_spec (s:=0) (by omega) H) ?_;rintro r w ⟨rfl,H⟩;rw[if_pos rfl,Nat.mod_eq_of_lt (by omega),L5 (by omega),if_neg (by simp)];refine aE (UX H) ?_;rintro r w ⟨rfl,H⟩;rw[Md (by omega)];unfold EE;rw[if_neg (by simp)];refine aE (VY am (by omega) H) ?_;rintro⟨aL,e⟩ w ⟨B,J,H⟩;have cb:aL<9223372036854775808:=by
  by_cases o:f<4503599627370496
  ·have:=(J o).2.2;simp only at this;omega
  ·have:=B (by omega);cases this;omega
 have ti:aL/4503599627370496<2048:=by omega
 dsimp only;rw[YK aL];refine aQ ((aL/4503599627370496:Nat):Int) ⟨by omega,rfl⟩ ?_;rw[(R2 (x:=((aL/4503599627370496:Nat):Int)) (by omega) (by omega)).1,Tm cb];have x8:=Wy (oP:=1022) (aD:=aL%4503599627370496) (by omega) (by omega);rw[show ((1022*4503599627370496:Nat):Int)=4602678819172646912 from rfl] at x8;rw[x8];have eu:IntKind.i64.wrap ((aL/4503599627370496:Nat):Int)=((aL/4503599627370496:Nat):Int):=wrap_i64 (by omega) (by omega);have cK:IntKind.i64.wrap (((aL/4503599627370496:Nat):Int)-1023)=((aL/4503599627370496:Nat):Int)-1023:=wrap_i64 (by omega) (by omega);have a6:IntKind.i64.wrap (((aL/4503599627370496:Nat):Int)-1023+1)=((aL/4503599627370496:Nat):Int)-1022:=by rw[wrap_i64 (by omega) (by omega)]; omega
 rw[eu,cK,a6];have he:e=0∨e=-52:=by
  by_cases o:f<4503599627370496
  ·exact .inr (J o).1
  ·have:=B (by omega);cases this;exact .inl rfl
 have aV:IntKind.i64.wrap (e+(((aL/4503599627370496:Nat):Int)-1022))=e+(((aL/4503599627370496:Nat):Int)-1022):=wrap_i64 (by omega) (by omega);rw[aV];refine⟨⟨aL%4503599627370496,_,by rw[Int.toNat_natCast],by omega,fun aO=>?_,fun aO=>?_⟩,H⟩
 ·have:=B aO;cases this;exact⟨rfl,by omega⟩
 ·obtain⟨a,b,o⟩:=J aO;simp only at a b o;omega
theorem atE{aD:Nat}(h:aD<4503599627370496)(H:E y c w):L Pg 232 [.float .f64 (1022*4503599627370496+aD),.int .i64 53] g2 w fun r I=>r=1075*4503599627370496+aD∧E y c I:=by
 refine Qs ?_;unfold Ip;rw[if_neg (by rw[S1 (by omega) (by omega)]; simp)];refine aE (inf_spec (s:=0) (by omega) H) ?_;rintro r w ⟨rfl,H⟩;rw[if_pos rfl,Nat.mod_eq_of_lt (by omega),L5 (by omega),if_neg (by simp)];refine aE (UX H) ?_;rintro r w ⟨rfl,H⟩;rw[Md (by omega)];unfold EF;rw[if_neg (by simp)];refine aE (VY (by omega) (by omega) H) ?_;rintro⟨aL,e⟩ w ⟨B,_,H⟩;have:=B (by omega);cases this;dsimp only;rw[YK (1022*4503599627370496+aD)];refine aQ ((1022:Nat):Int) ⟨by omega,by congr 1; omega⟩ ?_;have eu:IntKind.i64.wrap (((1022:Nat):Int))=1022:=by decide
 rw[eu,(R2 (x:=1022) (by omega) (by omega)).2];have cK:IntKind.i64.wrap (IntKind.i64.wrap (53+0)+IntKind.i64.wrap (1022-1023))=52:=by decide
 rw[cK,if_neg (by decide),if_neg (by decide),if_neg (by decide)];unfold EG;have a6:IntKind.u64.wrap ((IntKind.u64.wrap (IntKind.i64.wrap (52+1023)))*2^(min ((52:Int)).toNat IntKind.u64.bits))=4841369599423283200:=by decide
 rw[a6];refine aQ 4841369599423283200 ⟨by omega,rfl⟩ ?_;dsimp only;rw[Tm (show 1022*4503599627370496+aD<9223372036854775808 by omega)];have aT:(1022*4503599627370496+aD)%4503599627370496=aD:=by omega
 rw[aT];have x8:=Wy (oP:=1075) (aD:=aD) (by omega) h;rw[show ((1075*4503599627370496:Nat):Int)=4841369599423283200 from rfl] at x8;rw[x8,Int.toNat_natCast];refine aQ (1075*4503599627370496+aD) (mul_one h) ?_;exact⟨rfl,H⟩
end
theorem auL{f:Nat}(h:f<9223372036854775808):Op.negFloat .f64 f=9223372036854775808+f:=by
 have e:(2:Nat)^(FloatKind.f64.format.exponentBits+FloatKind.f64.format.fractionBits)=2^63:=rfl;unfold Op.negFloat;rw[e];have ap:f<2^63:=h;have a0:9223372036854775808+f=2^63*1+f:=by omega
 rw[a0];apply Nat.eq_of_testBit_eq;intro l;rw[Nat.testBit_xor,Nat.testBit_two_pow_mul_add 1 ap,Nat.testBit_two_pow];by_cases o:l<63
 ·rw[if_pos o];have:decide (63=l)=false:=by simp; omega
  rw[this]; simp
 ·rw[if_neg o];have:f.testBit l=false:=Nat.testBit_lt_two_pow (Nat.lt_of_lt_of_le ap (Nat.pow_le_pow_right (by omega) (by omega)));rw[this];by_cases d:63=l
  ·subst d; rfl
  ·have B:decide (63=l)=false:=by simpa using d
   rw[B];have J:Nat.testBit 1 (l-63)=false:=Nat.testBit_lt_two_pow (Nat.one_lt_two_pow (by omega));rw[J]; rfl
theorem axB{f:Nat}(B:9223372036854775808≤f)(J:f<18446744073709551616):(∃ m i,Ieee.double.read f=.number true m i)∨Ieee.double.read f=.infinity true∨∃ t,Ieee.double.read f=.nan true t:=by
 by_cases o:f=9223372036854775808
 ·subst o;exact .inl ⟨_,_,rfl⟩
 ·rcases Ye (show 9223372036854775808<f by omega) J with ⟨m,i,_,e⟩ | h
  ·exact .inl ⟨m,i,e⟩
  ·exact .inr h
theorem VO{f:Nat}(B:9223372036854775808≤f)(J:f<18446744073709551616):gS .gtr f 9218868437227405311=false:=by
 unfold gS;rw[f64];simp only[Ieee.Format.order,Yd];rcases axB B J with ⟨m,i,e⟩ | e | ⟨t,e⟩
 ·rw[e];simp only[Ieee.Datum.order];have aF:Ieee.signed true m (i-min i 971).toNat≤0:=by
   unfold Ieee.signed;rw[if_pos rfl];have:=Int.natCast_nonneg (m <<< (i-min i 971).toNat);omega
  rw[E6 (Int.lt_of_le_of_lt aF (YJ (by omega)))];rfl
 ·rw[e]; rfl
 ·rw[e]; rfl
section
variable {y w:World} {c bx:List bt}
theorem E4{f:Nat}(ap:f<18446744073709551616)(H:E y c w):L Pg 44 [.float .f64 f] (D .i64) w fun r I=>(iE f→3≤r∧r≤5)∧(9223372036854775808<f→r<3)∧(3≤r→gS .neq f f=false)∧E y c I:=by
 refine QR ?_;unfold IA;by_cases aO:gS .neq f f=true
 ·rw[if_pos aO];refine⟨fun h=>?_,fun _=>by omega,fun h=>by omega,H⟩;exfalso;rcases h with rfl | h
  ·exact absurd aO (by decide)
  ·rw[Md (by omega)] at aO;cases aO
 ·rw[if_neg aO];have aO:gS .neq f f=false:=by simpa using aO
  by_cases dk:f=0
  ·rw[if_pos (by simp[dk])];exact⟨fun _=>by omega,fun h=>by omega,fun _=>aO,H⟩
  ·rw[if_neg (by simpa using dk)];by_cases bF:f=9223372036854775808
   ·rw[if_pos (by simp[bF])];exact⟨fun _=>by omega,fun h=>by omega,fun _=>aO,H⟩
   ·rw[if_neg (by simp; omega)];refine aE (inf_spec (s:=-1) ap H) ?_;rintro r w ⟨Z,H⟩;rw[if_neg (by omega),if_pos (by omega)] at Z;subst Z;by_cases aH:f<9223372036854775808
    ·rw[auL aH,VO (by omega) (by omega),if_neg (by simp)];refine aE (inf_spec (s:=1) ap H) ?_;rintro r w ⟨Z,H⟩;rw[if_neg (by omega),if_neg (by omega)] at Z;subst Z;by_cases hm:gS .gtr f 9218868437227405311=true
     ·rw[if_pos hm];refine⟨fun h=>?_,fun h=>by omega,fun _=>aO,H⟩;exfalso;rcases h with rfl | h
      ·omega
      ·rw[L5 (by omega)] at hm;cases hm
     ·rw[if_neg hm,if_neg (by rw[aui aH]; simp)];exact⟨fun _=>by omega,fun h=>by omega,fun _=>aO,H⟩
    ·split
     ·exact⟨fun h=>by rcases h with h | h<;>omega,fun _=>by omega,fun h=>by omega,H⟩
     ·refine aE (inf_spec (s:=1) ap H) ?_;rintro r w ⟨Z,H⟩;rw[if_neg (by omega),if_neg (by omega)] at Z;subst Z;rw[VO (by omega) ap,if_neg (by simp),if_pos (auh (by omega) ap aO)];exact⟨fun h=>by rcases h with h | h<;>omega,fun _=>by omega,fun h=>by omega,H⟩
def rl(f:Nat):Int:=if f<9223372036854775808 then (f:Int)+9223372036854775808 else 18446744073709551615-f
theorem U8{f:Nat}(ap:f<18446744073709551616)(aO:gS .neq f f=false)(H:E y c w):L Pg 95 [.float .f64 f] (D .u64) w fun r I=>r=rl f∧E y c I:=by
 have afG:(2:Int)^(min ((63:Int)).toNat IntKind.u64.bits)=9223372036854775808:=by decide
 refine ac7 ?_;unfold RG rl;rw[if_neg (by rw[aO]; simp),afG,Int.fdiv_eq_ediv_of_nonneg _ (by omega)];refine aQ _ ⟨by omega,rfl⟩ ?_;by_cases o:f<9223372036854775808
 ·rw[if_neg (by simp; omega),if_pos o];have:=bits_join .u64 64 (by decide) lE 63 9223372036854775808 (f:Int) (by omega) (by omega) (by omega) (by omega) (by omega) (by omega);have J:=(bits_nat .u64 64 (by decide) lE f 9223372036854775808 (by omega) (by omega)).2;have au:=(bits_nat .u64 64 (by decide) lE 9223372036854775808 f (by omega) (by omega)).2;have aT:((9223372036854775808:Nat):Int)=9223372036854775808:=rfl;rw[aT] at J au;rw[J,Nat.or_comm,← au,this];exact⟨by omega,H⟩
 ·rw[if_pos (by simp; omega),if_neg o];have F:bits .xor .u64 IntKind.u64.max (f:Int)=bits .xor .u64 (f:Int) IntKind.u64.max:=by
   simp only[bits,BitVec.xor_comm]
  have B:bits .xor .u64 (f:Int) 18446744073709551615=18446744073709551615-(f:Int):=ZY (by omega) (by omega);have J:IntKind.u64.max=18446744073709551615:=rfl;rw[F,J,B];exact⟨rfl,H⟩
theorem afj{f g:Nat}(ap:f<18446744073709551616)(ae:g<18446744073709551616)(aO:gS .neq f f=false)(hm:gS .neq g g=false)(H:E y c w):L Pg 45 [.float .f64 f,.float .f64 g] (D .i64) w fun r I=>(0<r↔rl g<rl f)∧E y c I:=by
 refine acj ?_;unfold QS;refine aE (U8 ap aO H) ?_;rintro r w ⟨rfl,H⟩;refine aE (U8 ae hm H) ?_;rintro r w ⟨rfl,H⟩;by_cases o:rl f<rl g
 ·rw[if_pos (by simpa using o)];exact⟨by omega,H⟩
 ·rw[if_neg (by simpa using o)];by_cases d:rl g<rl f
  ·rw[if_pos (by simpa using d)];exact⟨by omega,H⟩
  ·rw[if_neg (by simpa using d)];exact⟨by omega,H⟩
theorem Nx{f:Nat}(ap:f<18446744073709551616)(H:E y c w):L Pg 12 [.float .f64 f] (D .i64) w fun r I=>(r=0↔iE f)∧(r≠0→r=43)∧E y c I:=by
 refine aax ?_;unfold O3 Ew;refine aE (E4 ap H) ?_;rintro r w ⟨B,J,au,H⟩;by_cases o:r<3
 ·rw[if_pos (by simpa using o),if_pos rfl];exact⟨⟨fun h=>by omega,fun h=>by have:=B h; omega⟩,fun _=>rfl,H⟩
 ·rw[if_neg (by simpa using o)];have k6:f≤9223372036854775808:=by
   apply Classical.byContradiction;intro W;have:=J (by omega);omega
  refine aE (afj ap (by omega) (au (by omega)) (by decide) H) ?_;rintro q w ⟨a5,H⟩;have aT:rl 4607182418800017408=4607182418800017408+9223372036854775808:=rfl;rw[aT] at a5;by_cases d:0<q
  ·rw[if_pos (by simpa using d)];have:=a5.1 d;refine⟨⟨fun h=>by omega,fun h=>?_⟩,fun _=>rfl,H⟩;exfalso;unfold rl at this;rcases h with rfl | h
   ·rw[if_neg (by omega)] at this;omega
   ·rw[if_pos (by omega)] at this;omega
  ·rw[if_neg (by simpa using d)];refine⟨⟨fun _=>?_,fun _=>rfl⟩,fun h=>absurd rfl h,H⟩;by_cases dk:f=9223372036854775808
   ·exact .inl dk
   ·right;have:¬ (4607182418800017408+9223372036854775808:Int)<rl f:=fun h=>d (a5.2 h);unfold rl at this;rw[if_pos (by omega)] at this;omega
theorem BT{n:Int}(H:E y c w):L Pg 200 [.int .i64 n] (D .i64) w fun r I=>r=(if 0≤n∧n≤1000000000000000 then 0 else 40)∧E y c I:=by
 refine abp ?_;unfold PY;by_cases o:0≤n∧n≤1000000000000000
 ·rw[if_neg (by simp; omega),if_pos o];exact⟨rfl,H⟩
 ·rw[if_pos (by simp; omega),if_neg o];exact⟨rfl,H⟩
end
def mj(n:Int)(f:Nat):Int:=if f<4503599627370496∨f=9223372036854775808 then 0 else ((n.toNat*(4503599627370496+f%4503599627370496)/2^(1075-f/4503599627370496):Nat):Int)
theorem SK(ar k:Nat)(h:52≤k):ar/2^k≤ar/4503599627370496:=by
 have aH:(2:Nat)^52=4503599627370496:=by decide
 rw[← aH];exact Nat.div_le_div_left (Nat.pow_le_pow_right (by omega) h) (Nat.two_pow_pos _)
theorem S_{n:Int}{f:Nat}(am:0≤n)(B:n≤1000000000000000)(h:iE f):0≤mj n f∧mj n f≤2*n:=by
 unfold mj;split
 ·omega
 ·rename_i W;have ap:f≤4607182418800017408:=by
   rcases h with h | h
   ·omega
   ·exact h
  have aC:=SK (n.toNat*(4503599627370496+f%4503599627370496)) (1075-f/4503599627370496) (by omega);have hm:n.toNat*(4503599627370496+f%4503599627370496)≤n.toNat*(2*4503599627370496):=Nat.mul_le_mul_left _ (by omega);refine⟨Int.natCast_nonneg _,?_⟩;generalize n.toNat*(4503599627370496+f%4503599627370496)/2^(1075-f/4503599627370496)=Q at *;generalize n.toNat*(4503599627370496+f%4503599627370496)=K at *;omega
section
variable {y w:World} {c bx:List bt}
theorem Fl(x:Nat)(k:Nat)(al:k≤64)(b:Int)(aA:b=(k:Int)):Int.fdiv (x:Int) (2^(min b.toNat IntKind.u64.bits))=((x/2^k:Nat):Int):=by
 subst aA;have e:min ((k:Int)).toNat IntKind.u64.bits=k:=by
  rw[Int.toNat_natCast];exact Nat.min_eq_left al
 rw[e,Int.fdiv_eq_ediv_of_nonneg _ (Int.le_of_lt (Int.pow_pos (by omega)))];rw[Int.natCast_ediv];congr 1
theorem y8{n:Int}(am:0≤n)(B:n≤9223372036854775807)(H:E y c w):L Pg 226 [.int .i64 n] (D .u64) w fun r I=>r=n∧E y c I:=by
 refine abR ?_;unfold Qn;rw[if_neg (by simp; omega)];exact⟨lE n am (by omega),H⟩
theorem ayv{n:Int}(am:0≤n)(B:n<9223372036854775808)(H:E y c w):L Pg 227 [.bool false,.int .u64 n] (bJ (D .i64) (D .i64)) w fun r I=>r=(n,0)∧E y c I:=by
 refine abS ?_;unfold Qo;rw[if_neg (by simp),if_pos (by simp; omega),wrap_i64 (by omega) (by omega)];exact⟨rfl,H⟩
theorem VV{x N:Nat}(F:x<18446744073709551616)(aJ:N<18446744073709551616)(H:E y c w):L Pg 225 [.int .u64 (x:Int),.int .u64 (N:Int)] (bJ (D .u64) (D .u64)) w fun r I=>r=(((x*N/18446744073709551616:Nat):Int),((x*N%18446744073709551616:Nat):Int))∧E y c I:=by
 refine abQ ?_;unfold Qm;have avU:(2:Nat)^32=4294967296:=by decide
 have m32:∀ aL:Nat,aL<18446744073709551616→bits .and .u64 (aL:Int) 4294967295=((aL%4294967296:Nat):Int):=by
  intro aL cb;have:=bits_mask .u64 64 (by decide) lE 32 (by decide) (aL:Int) (by omega) (by omega);rw[show (2:Int)^32-1=4294967295 from rfl] at this;rw[this];omega
 have DA:∀ aL:Nat,Int.fdiv (aL:Int) (2^(min ((32:Int)).toNat IntKind.u64.bits))=((aL/4294967296:Nat):Int):=by
  intro aL;rw[Fl aL 32 (by omega) 32 rfl,avU]
 have wn:∀ aL:Nat,aL<18446744073709551616→IntKind.u64.wrap (aL:Int)=(aL:Int):=fun aL cb=>lE _ (by omega) (by omega);rw[m32 x F,m32 N aJ];obtain⟨cH,akL⟩:∃ aL,x/4294967296=aL:=⟨_,rfl⟩
 obtain⟨bD,akK⟩:∃ aL,x%4294967296=aL:=⟨_,rfl⟩
 obtain⟨eP,yi⟩:∃ aL,N/4294967296=aL:=⟨_,rfl⟩
 obtain⟨hM,yh⟩:∃ aL,N%4294967296=aL:=⟨_,rfl⟩
 have Sj:cH≤4294967295:=by omega
 have Si:bD≤4294967295:=by omega
 have Sl:eP≤4294967295:=by omega
 have Sk:hM≤4294967295:=by omega
 have wE:x=cH*4294967296+bD:=by omega
 have yj:N=eP*4294967296+hM:=by omega
 refine aQ (cH:Int) ⟨by omega,by rw[DA x,akL]⟩ ?_;refine aQ (eP:Int) ⟨by omega,by rw[DA N,yi]⟩ ?_;rw[akK,yh];have aAv:bD*hM≤4294967295*4294967295:=Nat.mul_le_mul Si Sk;have aAw:bD*eP≤4294967295*4294967295:=Nat.mul_le_mul Si Sl;have Jj:cH*hM≤4294967295*4294967295:=Nat.mul_le_mul Sj Sk;have aAx:cH*eP≤4294967295*4294967295:=Nat.mul_le_mul Sj Sl;have Um:x*N=cH*eP*18446744073709551616+(cH*hM+bD*eP)*4294967296+bD*hM:=by
  rw[wE,yj,Nat.add_mul,Nat.mul_add,Nat.mul_add];have aT:cH*4294967296*(eP*4294967296)=cH*eP*18446744073709551616:=by rw[Nat.mul_mul_mul_comm]
  have a0:cH*4294967296*hM=cH*hM*4294967296:=by rw[Nat.mul_assoc,Nat.mul_comm 4294967296,← Nat.mul_assoc]
  have cS:bD*(eP*4294967296)=bD*eP*4294967296:=by rw[Nat.mul_assoc]
  rw[aT,a0,cS,Nat.add_mul];omega
 have aeA:((bD:Int)*(hM:Int))=((bD*hM:Nat):Int):=by rw[Int.natCast_mul]
 have aeB:((bD:Int)*(eP:Int))=((bD*eP:Nat):Int):=by rw[Int.natCast_mul]
 have aeC:((cH:Int)*(hM:Int))=((cH*hM:Nat):Int):=by rw[Int.natCast_mul]
 have aeD:((cH:Int)*(eP:Int))=((cH*eP:Nat):Int):=by rw[Int.natCast_mul]
 have afr:((x:Int)*(N:Int))=((x*N:Nat):Int):=by rw[Int.natCast_mul]
 rw[aeA,aeB,aeC,aeD,afr];generalize bD*hM=d at *;generalize bD*eP=o at *;generalize cH*hM=b at *;generalize cH*eP=a at *;generalize x*N=ar at *;rw[wn d (by omega),wn b (by omega),wn o (by omega),wn a (by omega)];refine aQ ((d/4294967296:Nat):Int) ⟨by omega,(DA d).symm⟩ ?_;have aT:(b:Int)+((d/4294967296:Nat):Int)=((b+d/4294967296:Nat):Int):=by omega
 rw[aT,wn _ (by omega),m32 _ (by omega)];refine aQ (((b+d/4294967296)/4294967296:Nat):Int) ⟨by omega,(DA _).symm⟩ ?_;have a0:(((b+d/4294967296)%4294967296:Nat):Int)+(o:Int)=(((b+d/4294967296)%4294967296+o:Nat):Int):=by omega
 rw[a0,wn _ (by omega)];refine aQ ((((b+d/4294967296)%4294967296+o)/4294967296:Nat):Int) ⟨by omega,(DA _).symm⟩ ?_;have cS:(a:Int)+(((b+d/4294967296)/4294967296:Nat):Int)=((a+(b+d/4294967296)/4294967296:Nat):Int):=by omega
 rw[cS,wn _ (by omega)];have j9:((a+(b+d/4294967296)/4294967296:Nat):Int)+((((b+d/4294967296)%4294967296+o)/4294967296:Nat):Int)=((a+(b+d/4294967296)/4294967296+((b+d/4294967296)%4294967296+o)/4294967296:Nat):Int):=by omega
 rw[j9,wn _ (by omega)];have ny:IntKind.u64.wrap (ar:Int)=((ar%18446744073709551616:Nat):Int):=by rw[lF]; omega
 rw[ny];refine⟨?_,H⟩;have BW:a+(b+d/4294967296)/4294967296+((b+d/4294967296)%4294967296+o)/4294967296=ar/18446744073709551616:=by omega
 rw[BW]
theorem Fc{ar k:Nat}(mX:ar<2^104)(al:52≤k)(o5:k≤4000)(H:E y c w):L Pg 228 [.int .u64 ((ar/18446744073709551616:Nat):Int),.int .u64 ((ar%18446744073709551616:Nat):Int),.int .u64 (k:Int)] (qO (D .u64) bi bi) w fun r I=>r.1=((ar/2^k:Nat):Int)∧r.2.2=true∧E y c I:=by
 have ME:(2:Nat)^64=18446744073709551616:=by decide
 have Gp:(2:Nat)^104=18446744073709551616*1099511627776:=by decide
 refine abT ?_;unfold Qp;by_cases bF:128≤k
 ·rw[if_pos (by simp; omega)];have:ar/2^k=0:=Nat.div_eq_of_lt (Nat.lt_of_lt_of_le mX (Nat.pow_le_pow_right (by omega) (by omega)));rw[this];exact⟨rfl,rfl,H⟩
 ·rw[if_neg (by simp; omega)];by_cases bP:64<k
  ·rw[if_pos (by simp; omega)];have eu:IntKind.u64.wrap ((k:Int)-64)=((k-64:Nat):Int):=by rw[lE _ (by omega) (by omega)]; omega
   have cK:IntKind.u64.wrap ((128:Int)-(k:Int))=((128-k:Nat):Int):=by rw[lE _ (by omega) (by omega)]; omega
   rw[eu,cK];refine aQ _ ⟨by omega,(Fl (ar/18446744073709551616) (k-64) (by omega) _ rfl).symm⟩ ?_;refine aQ _ ⟨by omega,rfl⟩ ?_;refine⟨?_,rfl,H⟩;have:2^k=18446744073709551616*2^(k-64):=by rw[← ME,← Nat.pow_add]; congr 1; omega
   simp only;rw[this,Nat.div_div_eq_div_mul]
  ·rw[if_neg (by simp; omega)];by_cases di:k=64
   ·subst di;rw[if_pos (by simp)];exact⟨by rw[ME],rfl,H⟩
   ·rw[if_neg (by simp; omega)];have eu:IntKind.u64.wrap ((64:Int)-(k:Int))=((64-k:Nat):Int):=by rw[lE _ (by omega) (by omega)]; omega
    rw[eu];obtain⟨l,a7⟩:∃ l,l+k=64:=⟨64-k,by omega⟩
    have z7:64-k=l:=by omega
    rw[z7];have KQ:(2:Nat)^l*2^k=18446744073709551616:=by rw[← Nat.pow_add,a7,ME]
    have Cr:4503599627370496≤2^k:=by
     have:(2:Nat)^52=4503599627370496:=by decide
     rw[← this];exact Nat.pow_le_pow_right (by omega) al
    have aix:2^l≤4096:=by
     have:(2:Nat)^12=4096:=by decide
     rw[← this];exact Nat.pow_le_pow_right (by omega) (by omega)
    have aAX:ar/18446744073709551616<1099511627776:=by
     rw[Gp] at mX;exact Nat.div_lt_of_lt_mul mX
    have ajO:ar%18446744073709551616<18446744073709551616:=Nat.mod_lt _ (by omega);have ahB:ar=ar/18446744073709551616*18446744073709551616+ar%18446744073709551616:=by omega
    have hdiv:ar/2^k=ar/18446744073709551616*2^l+ar%18446744073709551616/2^k:=by
     conv=>lhs; rw[ahB,← KQ,← Nat.mul_assoc]
     rw[KQ,Nat.add_comm,Nat.add_mul_div_right _ _ (Nat.two_pow_pos k),Nat.add_comm]
    generalize ar/18446744073709551616=aq at *;generalize ar%18446744073709551616=qy at *;have jc:qy/2^k<2^l:=Nat.div_lt_of_lt_mul (by rw[Nat.mul_comm,KQ]; exact ajO);have Kg:aq*2^l≤1099511627776*4096:=Nat.mul_le_mul (by omega) aix;refine aQ _ ⟨by omega,(Fl qy k (by omega) _ rfl).symm⟩ ?_;have aT:IntKind.u64.wrap ((aq:Int)*2^(min ((l:Int)).toNat IntKind.u64.bits))=((aq*2^l:Nat):Int):=by
     have:min ((l:Int)).toNat IntKind.u64.bits=l:=by
      rw[Int.toNat_natCast];exact Nat.min_eq_left (by show l≤64; omega)
     rw[this];have o:(aq:Int)*2^l=((aq*2^l:Nat):Int):=by rw[Int.natCast_mul]; congr 1
     rw[o];exact lE _ (by omega) (by omega)
    refine aQ _ ⟨by omega,rfl⟩ ?_;rw[aT];refine aQ _ ⟨by omega,rfl⟩ ?_;refine aQ _ ⟨by omega,(Fl aq k (by omega) _ rfl).symm⟩ ?_;have am:aq/2^k=0:=Nat.div_eq_of_lt (by omega);rw[am];refine⟨?_,rfl,H⟩;simp only;rw[hdiv];have x8:=(bits_nat .u64 64 (by decide) lE (qy/2^k) (aq*2^l) (by omega) (by omega)).2;rw[x8,Nat.or_comm,Nat.mul_comm aq,← Nat.two_pow_add_eq_or_of_lt jc]
theorem VT{f:Nat}{aa:Nat×Int→World→Prop}(h:L Pg 230 [.float .f64 f] (bJ g2 (D .i64)) w aa):L Pg 223 [.float .f64 f] (bJ g2 (D .i64)) w aa:=by
 refine abO ?_;unfold Qk;exact h
theorem VU{f:Nat}{e:Int}{aa:Nat→World→Prop}(h:L Pg 232 [.float .f64 f,.int .i64 e] g2 w aa):L Pg 224 [.float .f64 f,.int .i64 e] g2 w aa:=by
 refine abP ?_;unfold Ql;exact h
theorem azk{n:Int}{f:Nat}(am:0≤n)(B:n≤1000000000000000)(ap:iE f)(H:E y c w):L Pg 221 [.int .i64 n,.float .f64 f] (bJ (D .i64) (D .i64)) w fun r I=>r=(mj n f,0)∧E y c I:=by
 have Ka:f<18446744073709551616:=by rcases ap with h | h<;>omega
 obtain⟨k,rfl⟩:∃ k:Nat,n=(k:Int):=⟨n.toNat,by omega⟩
 refine abM ?_;unfold Qi;refine aE (E4 Ka H) ?_;rintro o w ⟨W,_,_,H⟩;have W:=W ap;rw[if_neg (by simp; omega),if_neg (by simp; omega)];have BW:(o==6)=false:=by rw[beq_eq_false_iff_ne]; omega
 rw[BW];unfold EC;rw[if_neg (by simp)];by_cases cb:f=0∨f=9223372036854775808
 ·refine VT (aE (ahe cb H) ?_);rintro r w ⟨rfl,H⟩;refine VU (aE (atD (e:=53) cb H) ?_);rintro r w ⟨rfl,H⟩;refine aQ 0 (by rcases cb with h | h<;>subst h; exact Zb.1; exact Zb.2) ?_;refine aE (y8 am (by omega) H) ?_;rintro r w ⟨rfl,H⟩;refine aE (y8 (n:=0) (by omega) (by omega) H) ?_;rintro r w ⟨rfl,H⟩;refine aE (VV (x:=k) (N:=0) (by omega) (by omega) H) ?_;rintro r w ⟨rfl,H⟩;rw[if_pos (by simp)];have:mj k r=0:=by
   unfold mj;rw[if_pos (by omega)]
  rw[this];exact⟨rfl,H⟩
 ·have k6:0<f∧f≤4607182418800017408:=by rcases ap with h | h<;>omega
  refine VT (aE (ahf k6.1 k6.2 H) ?_);rintro r w ⟨⟨aD,e,rfl,jG,aO,aF⟩,H⟩;refine VU (aE (atE jG H) ?_);rintro r w ⟨rfl,H⟩;refine aQ _ (azl jG) ?_;refine aE (y8 am (by omega) H) ?_;rintro r w ⟨rfl,H⟩;refine aE (y8 (n:=((4503599627370496+aD:Nat):Int)) (by omega) (by omega) H) ?_;rintro r w ⟨rfl,H⟩;refine aE (VV (x:=k) (N:=4503599627370496+aD) (by omega) (by omega) H) ?_;rintro r w ⟨rfl,H⟩;have aAT:k*(4503599627370496+aD)≤1000000000000000*9007199254740992:=Nat.mul_le_mul (by omega) (by omega);have Gp:(2:Nat)^104=18446744073709551616*1099511627776:=by decide
  have he:e≤1∧-1100≤e∧(f<4503599627370496→e≤-1000):=by
   by_cases o:f<4503599627370496
   ·have:=aF o;omega
   ·have:=(aO (by omega)).2;omega
  have eu:IntKind.i64.wrap (e-53)=e-53:=wrap_i64 (by omega) (by omega);have cK:IntKind.u64.wrap (IntKind.i64.wrap (0-(e-53)))=((53-e).toNat:Nat):=by rw[wrap_i64 (by omega) (by omega),lE _ (by omega) (by omega)]; omega
  dsimp only;rw[eu,cK];have Cq:mj k f=((k*(4503599627370496+aD)/2^(53-e).toNat:Nat):Int):=by
   unfold mj;by_cases o:f<4503599627370496
   ·rw[if_pos (.inl o)];have al:104≤(53-e).toNat:=by have:=he.2.2 o; omega
    have aH:2^104≤2^(53-e).toNat:=Nat.pow_le_pow_right (by omega) al;rw[Nat.div_eq_of_lt (Nat.lt_of_lt_of_le (by rw[Gp]; omega) aH)];rfl
   ·rw[if_neg (by omega)];obtain⟨a,b⟩:=aO (by omega);have:(53-e).toNat=1075-f/4503599627370496:=by omega
    rw[this,Int.toNat_natCast,a]
  rw[Cq];have a5:=SK (k*(4503599627370496+aD)) (53-e).toNat (by omega);by_cases F:k*(4503599627370496+aD)=0
  ·rw[if_pos (by rw[F]; simp),F];exact⟨by simp,H⟩
  ·generalize k*(4503599627370496+aD)=K at *;rw[if_neg (by simp; omega),if_neg (by simp; omega)];refine aE (Fc (ar:=K) (k:=(53-e).toNat) (by rw[Gp]; omega) (by omega) (by omega) H) ?_;rintro⟨q,rest,fits⟩ w ⟨B,J,H⟩;simp only at B J;subst B; subst J;have aT:decide ((k:Int)<0)=false:=by simp
   have a0:decide (((4503599627370496+aD:Nat):Int)<0)=false:=by rw[decide_eq_false_iff_not]; omega
   rw[aT,a0];rw[if_neg (by simp),if_neg (by simp)];unfold ED;rw[aT,a0];generalize K/2^(53-e).toNat=Q at *;refine aE (ayv (n:=((Q:Nat):Int)) (by omega) (by omega) H) ?_;rintro r w ⟨rfl,H⟩;exact⟨rfl,H⟩
theorem ag3{n:Int}{f:Nat}(am:0≤n)(B:n≤1000000000000000)(ap:iE f)(H:E y c w):L Pg 216 [.int .i64 n,.float .f64 f] (bJ (D .i64) (D .i64)) w fun r I=>r=(mj n f,0)∧E y c I:=by
 have Ka:f<18446744073709551616:=by rcases ap with h | h<;>omega
 refine abG ?_;unfold Qc;refine aE (BT H) ?_;rintro r w ⟨rfl,H⟩;rw[if_pos (⟨am,B⟩:0≤n∧n≤1000000000000000),if_neg (by simp)];refine aE (Nx Ka H) ?_;rintro r w ⟨J,_,H⟩;have:=J.2 ap;subst this;rw[if_neg (by simp)];refine aE (azk am B ap H) ?_;rintro r w ⟨rfl,H⟩;exact⟨rfl,H⟩
def g_(n:Int):Prop:=0≤n∧n≤1000000000000000
theorem azn{a b:Int}{s:X}(k:c0 1 c (D .i64) s [a,b])(H:E y c w):L Pg 220 [O.enc s] (bJ (D .i64) (D .i64)) w fun r I=>(r.2=0↔g_ a∧g_ b∧a+b≤1000000000000000)∧(r.2=0→r.1=a+b)∧E y c I:=by
 have aF:=k.len H;simp only[List.length_cons,List.length_nil] at aF;refine abL ?_;unfold Qh;refine hU (fun p w=>(p=(0,0)∨(g_ a∧p=(a,1))∨(g_ a∧g_ b∧p=(a+b,2)))∧E y c w) (fun p=>(2-p.2).toNat) ⟨.inl rfl,H⟩ ?_;clear H;rintro⟨sum,i⟩ w ⟨aq,H⟩ aa b7;unfold Il EB;simp only;rw[aF];have step:∀ (x:Int) (l:Nat),i=(l:Int)→l<2→([a,b]:List Int)[l]?=some x→sum≤1000000000000000→(g_ x→((sum+x,i+1)=(0,0)∨(g_ a∧(sum+x,i+1)=(a,1))∨(g_ a∧g_ b∧(sum+x,i+1)=(a+b,2)))∧-1000000000000000000≤sum)→(¬ g_ x→¬ (g_ a∧g_ b∧a+b≤1000000000000000)) →
   if decide (i<((0+1+1:Nat):Int))=true then
    ex (cz s 1 i) fun eH=>ex (M (D .i64) eH w) fun cy=>L Pg 200 [.int .i64 (cy)] (D .i64) w fun dt b3=>
     if (dt != (0:Int))=true then (((0:Int),(40:Int)).2=0↔g_ a∧g_ b∧a+b≤1000000000000000)∧(((0:Int),(40:Int)).2=0→((0:Int),(40:Int)).1=a+b)∧E y c b3
     else if (decide (sum≤(1000000000000000:Int)))=true then aa (IntKind.i64.wrap (sum+cy),IntKind.i64.wrap (i+(1:Int))) b3 else aa (sum,IntKind.i64.wrap (i+(1:Int))) b3
   else L Pg 200 [.int .i64 sum] (D .i64) w fun ga cQ=>if (ga != (0:Int))=true then (((0:Int),(40:Int)).2=0↔g_ a∧g_ b∧a+b≤1000000000000000)∧(((0:Int),(40:Int)).2=0→((0:Int),(40:Int)).1=a+b)∧E y c cQ else ((sum,(0:Int)).2=0↔g_ a∧g_ b∧a+b≤1000000000000000)∧((sum,(0:Int)).2=0→(sum,(0:Int)).1=a+b)∧E y c cQ:=by
  intro x l Kg a7 F akq ok no;rw[if_pos (by simp; omega)];obtain⟨o,W⟩:=k.jI (i:=i) H (by omega) (by simp; omega);refine aQ o W ?_;refine aQ x (k.rd W (by rw[Kg,Int.toNat_natCast]; exact F) H) ?_;refine aE (BT H) ?_;rintro r w ⟨rfl,H⟩;by_cases dW:0≤x∧x≤1000000000000000
  ·rw[if_pos dW,if_neg (by simp),if_pos (by simpa using akq)];obtain⟨B,J⟩:=ok dW;rw[wrap_i64 (x:=sum+x) (by omega) (by omega),wrap_i64 (x:=i+1) (by omega) (by omega)];exact b7 _ _ ⟨B,H⟩ (by simp only; omega)
  ·rw[if_neg dW,if_pos (by simp)];exact⟨⟨fun h=>by simp at h,fun h=>absurd h (no dW)⟩,fun h=>by simp at h,H⟩
 rcases aq with aq | ⟨ag,aq⟩ | ⟨ag,aA,aq⟩
 ·cases aq;exact step a 0 rfl (by omega) rfl (by omega) (fun h=>⟨.inr (.inl ⟨h,by simp⟩),by omega⟩) fun h bV=>h bV.1
 ·cases aq;exact step b 1 rfl (by omega) rfl ag.2 (fun h=>⟨.inr (.inr ⟨ag,h,by trivial⟩),by have:=ag.1; omega⟩) fun h bV=>h bV.2.1
 ·cases aq;rw[if_neg (by simp)];refine aE (BT H) ?_;rintro r w ⟨rfl,H⟩;have B:=ag.1;have J:=aA.1;by_cases dW:a+b≤1000000000000000
  ·have e:(if 0≤a+b∧a+b≤1000000000000000 then (0:Int) else 40)=0:=if_pos ⟨by omega,dW⟩;rw[e,if_neg (by simp)];exact⟨⟨fun _=>⟨ag,aA,dW⟩,fun _=>by trivial⟩,fun _=>rfl,H⟩
  ·have e:(if 0≤a+b∧a+b≤1000000000000000 then (0:Int) else 40)=40:=if_neg (fun h=>dW h.2);rw[e,if_pos (by simp)];exact⟨⟨fun h=>by simp at h,fun h=>absurd h.2.2 dW⟩,fun h=>by simp at h,H⟩
theorem ad2{a b:Int}(H:E y c w):L Pg 215 [.int .i64 a,.int .i64 b] (bJ (D .i64) (D .i64)) w fun r I=>(r.2=0↔g_ a∧g_ b∧a+b≤1000000000000000)∧(r.2=0→r.1=a+b)∧E y c I:=by
 refine abF ?_;unfold Qb;refine sE H fun mP w H=>?_;have H:=rz (ao:=1) (m:=2) rfl H;refine aE (azn (a:=a) (b:=b) (c0.row (fun _=>rfl) 0 rfl) H) ?_;rintro r w ⟨B,J,H⟩;exact⟨B,J,H.drop⟩
end
end Num
namespace Disk
open ba Wire
section
variable {y w:World} {c bx:List bt}
theorem aff{S:Type}{T:a_ S}{t:TypeId}{ao:Nat}{s:X}{xs:List S}{aL:S}{aa:World→Prop}(aj:∀ x,(T.cells x).length=ao)(i:Nat)(H:E y c w)(aq:front i c=row T t ao s xs::bx)
  (al:∀ I,E y (row T t ao s (List.replicate xs.length aL)::bx) I→aa I):tf T ao aL s w aa:=by
 have H:=aq▸H.front i;rcases nj H with ⟨rfl,rfl,ma⟩ | ⟨b,rest,fj,fF,iT,kK,fN⟩
 ·exact al w (jW T t ao ma)
 ·unfold tf;rw[fj];have jQ:(xs.flatMap T.cells).length=s.len*ao:=by rw[lR aj,fF]
  have tq:((List.replicate s.len aL).flatMap T.cells).length=s.len*ao:=by rw[lR aj]; simp
  refine⟨zj fN (by simp only[List.length_append,jQ]; omega),al _ ?_⟩;have:=wU ((List.replicate s.len aL).flatMap T.cells) 0 0 _ _ fN (by simp only[List.length_append,jQ,tq]; omega);refine rA (rest:=rest) fj (by simpa using fF) iT kK ?_;have e:iG (xs.flatMap T.cells++rest) (0+0) ((List.replicate s.len aL).flatMap T.cells)=(List.replicate xs.length aL).flatMap T.cells++rest:=by
   simp only[iG,Nat.add_zero,Nat.zero_add,List.take_zero,List.nil_append,tq];rw[← jQ,List.drop_left,fF]
  rw[e] at this;exact this
theorem ael{d:Nat}{ah:eQ}{n:Int}{s:X}{bL:List Int}(aO:bL.length≤1000000)(k:c0 1 c (D .i64) s bL)(H:E y (fi d ah::c) w) :
  L Pg 77 [.pointer (some ⟨d,0,none⟩),.int .i64 n,O.enc s] cJ w fun _ I=>E y (fi d { ah with hD:=max n 0,bL:=bL }::c) I:=by
 refine acQ ?_;unfold Ro;refine b2 rfl ?_;obtain⟨q,P,bk,gA,H⟩:=uw H;refine eg (x:=max n 0) 0 H rfl rfl (Nat.le_of_ble_eq_true rfl) fun w H=>?_;refine an (x:=bk) 0 H rfl rfl rfl ?_;refine aff (fun _=>rfl) 3 H rfl fun w H=>?_;refine an (x:=bk) 1 H rfl rfl rfl ?_;refine nn (by omega) (by omega) (by omega) (by omega) fun YD uI=>?_;obtain⟨_,H⟩:=NF (fun _=>rfl) uI (by omega) H;rw[show (0:Int).toNat=0 from rfl,List.take_zero] at H;refine zJ (fun _=>rfl) 0 H rfl (k.tail.tail.tail.tail.y2 H) (by simp; omega) fun r w H=>?_;rw[List.nil_append] at H;refine eg (x:=r) 1 H rfl rfl (Nat.le_of_ble_eq_true rfl) fun w H=>?_;exact oY (ah:={ ah with hD:=max n 0,bL:=bL }) gA (H.ord [0,2,3,1])
end
end Disk
namespace Post
open ba
structure eh where
 nodes:Int
 kl:Int
 c:List iv
 off:Int→Bool
def gW(b:Nat)(ar:eh):bt:=
 fE fun v=>fE fun aB=>fE fun es=>de [jT (∀ x,(es.lookup x).isSome=ar.off x),aN b [.int .i64 ar.nodes,.int .i64 ar.kl,.slice v.a v.len v.cap,.map (some aB)] 109,row ej 140 9 v ar.c,bR jn .i64 aB es]
section
variable {y w:World} {c:List bt} {b:Nat} {ar:eh}
theorem s6(H:E y (gW b ar::c) w):∃ v aB es,(∀ x,(List.lookup x es).isSome=ar.off x) ∧
  E y (aN b [.int .i64 ar.nodes,.int .i64 ar.kl,.slice v.a v.len v.cap,.map (some aB)] 109::row ej 140 9 v ar.c::bR jn .i64 aB es::c) w:=by
 obtain⟨v,H⟩:=H.ex;obtain⟨aB,H⟩:=H.ex;obtain⟨es,H⟩:=H.ex;obtain⟨h,H⟩:=E.sM H.open_;exact⟨v,aB,es,h,H⟩
theorem p9{v:X}{aB:Nat}{es:List (Int×nW)}(h:∀ x,(List.lookup x es).isSome=ar.off x)
  (H:E y (aN b [.int .i64 ar.nodes,.int .i64 ar.kl,.slice v.a v.len v.cap,.map (some aB)] 109::row ej 140 9 v ar.c::bR jn .i64 aB es::c) w):E y (gW b ar::c) w:=
 E.kQ v (E.kQ aB (E.kQ es (E.shut (bx:=[jT _,_,_,_]) (E.rD h H))))
def eh.has(ar:eh)(x:Int):Bool:=decide (x≥0)&&decide (x<ar.nodes)
theorem CQ(H:E y (gW b ar::c) w)(x:Int):L Pg 111 [.pointer (some ⟨b,0,none⟩),.int .i64 x] bi w fun r I=>r=ar.has x∧E y (gW b ar::c) I:=by
 refine aag ?_;obtain⟨v,aB,es,h,fN⟩:=s6 H;unfold OV;refine⟨⟨b,0,none⟩,fun _=>rfl,ar.nodes,fun _=>cW (D .i64) fN rfl rfl,rfl,H⟩
theorem BU(H:E y (gW b ar::c) w)(x:Int):L Pg 114 [.pointer (some ⟨b,0,none⟩),.int .i64 x] bi w fun r I=>r=ar.off x∧E y (gW b ar::c) I:=by
 refine aaj ?_;obtain⟨v,aB,es,h,H⟩:=s6 H;unfold OY;refine b2 rfl ?_;refine an (x:=some aB) 0 H rfl rfl rfl ?_;refine iV 2 H rfl rfl ?_;refine cj H fun gn eu H=>?_;refine eg 0 H rfl rfl (Nat.le_refl _) fun cK H=>?_;exact⟨h x,p9 h H.drop⟩
def eh.put(ar:eh)(x:iv):eh×Int:=if ar.c.length≥1000 then (ar,91) else ({ ar with c:=ar.c++[x] },0)
theorem yH(H:E y (gW b ar::c) w)(mX:ar.c.length≤1000)(x:iv):L Pg 112 [.pointer (some ⟨b,0,none⟩),ej.enc x] (D .i64) w fun r I=>r=(ar.put x).2∧E y (gW b (ar.put x).1::c) I:=by
 refine aah ?_;unfold OW;refine cj H fun gn eu H=>?_;obtain⟨v,aB,es,h,H⟩:=s6 (H.front 1);refine b2 rfl ?_;refine an (x:=v) 0 H rfl rfl rfl ?_;have aO:=ho (H.front 1);split
 ·rename_i W;have W:ar.c.length≥1000:=by simp at W; omega
  have e:ar.put x=(ar,91):=by simp only[eh.put,W,if_true]
  rw[e];exact⟨rfl,p9 h (H.front 3).drop⟩
 ·rename_i W;have W:¬ ar.c.length≥1000:=by simp at W; omega
  refine dH H fun cK H=>?_;refine an (x:=v) 0 H rfl rfl rfl ?_;refine gV (x:=x) 3 H rfl ?_;refine me (xs:=ar.c) (fun _=>rfl) 1 H rfl (by simp; omega) fun r a6 H=>?_;refine⟨cW ej (H.front 3) rfl (EW _),?_⟩;refine eg (x:=r) 1 H rfl rfl (Nat.le_of_ble_eq_true rfl) fun aV H=>?_;have e:ar.put x=({ ar with c:=ar.c++[x] },0):=by simp only[eh.put,W,if_false]
  rw[e];exact⟨rfl,p9 (v:=r) h (H.front 3).drop⟩
end
section
variable {y w:World} {c:List bt} {b:Nat} {ar:eh}
def eh.at_(ar:eh)(i:Int):iv×Int:=match (if i<0 then none else ar.c[i.toNat]?) with
 |some x=>(x,0)
 |none=>(ix,92)
theorem eh.EX(ar:eh){i:Int}(h:i<0∨(ar.c.length:Int)≤i):ar.at_ i=(ix,92):=by
 unfold eh.at_;by_cases am:i<0
 ·simp[am]
 ·rw[if_neg am,List.getElem?_eq_none (by omega)]
theorem eh.R5(ar:eh){i:Int}{x:iv}(am:0≤i)(h:ar.c[i.toNat]?=some x):ar.at_ i=(x,0):=by
 unfold eh.at_;rw[if_neg (by omega),h]
theorem oV(H:E y (gW b ar::c) w)(i:Int):L Pg 113 [.pointer (some ⟨b,0,none⟩),.int .i64 i] (bJ ej (D .i64)) w fun r I=>r=ar.at_ i∧E y (gW b ar::c) I:=by
 refine aai ?_;unfold OX;refine cj H fun gn eu H=>?_;obtain⟨v,aB,es,h,H⟩:=s6 (H.front 1);have aO:=ho (H.front 1);refine aQ ⟨b,0,none⟩ (fun _=>rfl) ?_;refine aQ v (fun _=>cW O H rfl rfl) ?_;by_cases W:i<0∨(ar.c.length:Int)≤i
 ·rw[if_pos (by simp; omega)];refine fb (x:=ix) (N:=ix) rn 3 H rfl fun cK H=>?_;refine gV (x:=ix) 0 H rfl ?_;rw[ar.EX W];exact⟨rfl,p9 h H.drop⟩
 ·rw[if_neg (by simp; omega)];obtain⟨x,F⟩:∃ x,ar.c[i.toNat]?=some x:=⟨_,List.getElem?_eq_getElem (by omega)⟩
  refine b2 rfl ?_;refine an (x:=v) 0 H rfl rfl rfl ?_;refine U1 (H.front 1) (by omega) (by omega) fun a ag=>?_;refine aQ x (lz (fun _=>rfl) ag F (H.front 1)) ?_;refine fb (x:=ix) (N:=x) rn 3 H rfl fun cK H=>?_;refine gV (x:=x) 0 H rfl ?_;rw[ar.R5 (by omega) F];exact⟨rfl,p9 h H.drop⟩
def eh.send(ar:eh)(from_ bw:Int)(m:g4):eh×Int×Int:=
 if (!ar.has from_||!ar.has bw)=true then (ar,0,90)
 else if (ar.put ⟨IntKind.i64.wrap (ar.kl+1),from_,bw,m⟩).2≠0 then (ar,0,91)
 else ({ (ar.put ⟨IntKind.i64.wrap (ar.kl+1),from_,bw,m⟩).1 with kl:=IntKind.i64.wrap (ar.kl+1) },IntKind.i64.wrap (ar.kl+1),0)
theorem eh.awG(ar:eh)(x:iv)(h:(ar.put x).2≠0):ar.put x=(ar,91):=by
 unfold eh.put at h ⊢;split<;>simp_all
theorem aym(H:E y (gW b ar::c) w)(mX:ar.c.length≤1000)(f t:Int)(m:g4) :
  L Pg 62 [.pointer (some ⟨b,0,none⟩),.int .i64 f,.int .i64 t,eB.enc m] (bJ (D .i64) (D .i64)) w fun r I=>r=(ar.send f t m).2∧E y (gW b (ar.send f t m).1::c) I:=by
 refine acA ?_;unfold Q_;refine cj H fun n1 w H=>?_;have H:=H.front 1;refine aE (CQ H f) ?_;rintro r eu ⟨rfl,H⟩;have tail:∀ (q:Bool) (eu:World),E y (gW b ar::aN n1 (eB.cells m) 56::c) eu→q=(!ar.has f||!ar.has t)→Bm (some ⟨b,0,none⟩) f t ⟨n1,0,none⟩ q eu (fun r I=>r=(ar.send f t m).2∧E y (gW b (ar.send f t m).1::c) I):=by
  intro q eu H a5;unfold Bm;subst a5;split
  ·rename_i W;have e:ar.send f t m=(ar,0,90):=by unfold eh.send; rw[if_pos W]
   rw[e]; exact⟨rfl,(H.front 1).drop⟩
  ·rename_i W;obtain⟨v,aB,es,h,fN⟩:=s6 H;refine b2 rfl ?_;refine an (x:=ar.kl) 0 fN rfl rfl rfl ?_;refine gV (x:=m) 3 fN rfl ?_;refine aE (yH (p9 h fN) mX _) ?_;rintro r cK ⟨rfl,H⟩;by_cases aH:(ar.put ⟨IntKind.i64.wrap (ar.kl+1),f,t,m⟩).2=0
   ·rw[if_neg (by simp[aH])];have e:ar.send f t m=({ (ar.put ⟨IntKind.i64.wrap (ar.kl+1),f,t,m⟩).1 with kl:=IntKind.i64.wrap (ar.kl+1) },IntKind.i64.wrap (ar.kl+1),0):=by
     unfold eh.send; rw[if_neg W,if_neg (by simp[aH])]
    rw[e];obtain⟨v,aB,es,h,H⟩:=s6 H;refine eg 0 H rfl rfl (Nat.le_of_ble_eq_true rfl) fun a6 H=>?_;exact⟨rfl,p9 (v:=v) h (H.front 3).drop⟩
   ·rw[if_pos (by simp[aH])];have e:ar.send f t m=(ar,0,91):=by
     unfold eh.send; rw[if_neg W,if_pos aH]
    have aT:=ar.awG _ aH;rw[aT] at H ⊢;rw[e]; exact⟨rfl,(H.front 1).drop⟩
 split
 ·rename_i W;exact tail _ _ H (by simp at W; simp[W])
 ·rename_i W;refine aE (CQ H t) ?_;rintro r cK ⟨rfl,H⟩;exact tail _ _ H (by simp at W; simp[W])
theorem afc{v:X}{xs:List iv}(H:E y (row ej 140 9 v xs::c) w)(aj:xs.length*96≤140737488355328) :
  L Pg 108 [O.enc v] O w fun r I=>E y (row ej 140 9 r xs::row ej 140 9 v xs::c) I:=by
 refine aac ?_;unfold OS;split
 ·rename_i W;rcases nj H with ⟨rfl,rfl,_⟩ | ⟨gn,rest,B,_⟩
  ·exact jW ej 140 9 H
  ·simp[B] at W
 ·refine sE H fun gn eu H=>?_;have fN:=rz (T:=ej) (t:=140) (ao:=9) (xs:=[]) (m:=0) rfl H;refine zJ (xs:=[]) (new:=xs) (fun _=>rfl) 0 fN rfl (xq (fN.front 1)) (by simpa using aj) fun r cK H=>?_;exact H
theorem FY(H:E y (gW b ar::c) w)(mX:ar.c.length≤1000):L Pg 59 [.pointer (some ⟨b,0,none⟩)] O w fun r I=>E y (row ej 140 9 r ar.c::gW b ar::c) I:=by
 refine acw ?_;unfold Q6;obtain⟨v,aB,es,h,H⟩:=s6 H;refine b2 rfl ?_;refine an (x:=v) 0 H rfl rfl rfl ?_;refine aE (afc (H.front 1) (by omega)) ?_;intro r eu H;exact (p9 h (H.ord [2,1,3,0])).front 1
theorem SH{v:X}{xs:List iv}(H:E y (row ej 140 9 v xs::c) w)(i:Int)(am:0≤i)(B:i<xs.length)(hm:xs.length≤1000) :
  L Pg 115 [O.enc v,.int .i64 i,.int .i64 (i+1)] O w fun r I=>E y (row ej 140 9 r (xs.eraseIdx i.toNat)::c) I:=by
 refine aak ?_;unfold OZ;have aO:=ho H;have lU:v.len≤v.cap:=by
  rcases nj H with ⟨rfl,rfl,_⟩ | ⟨_,_,_,_,h,_⟩
  ·exact Nat.le_refl _
  ·exact h
 refine nn am (by omega) (by omega) (by omega) fun DB _=>?_;rw[if_neg (by simp; omega)];refine dH H fun cK H=>?_;refine nn (by omega) (by omega) (by omega) (by omega) fun tG hv=>?_;refine nn (by omega) (by omega) (by omega) (by omega) fun DC r5=>?_;have aC:=Ya (fun _=>rfl) r5 H;obtain⟨BW,H⟩:=axR (fun _=>rfl) hv (by omega) H;subst BW;have TP:(xs.drop (i+1).toNat).length=xs.length-(i+1).toNat:=List.length_drop;refine aed (fun _=>rfl) H aC (by simp only[TP]; omega) fun a6 H=>?_;have e:xs.take i.toNat++xs.drop (i+1).toNat=xs.eraseIdx i.toNat:=by
  rw[List.eraseIdx_eq_take_drop_succ]; congr 2; omega
 rw[e] at H;refine nn (by omega) (by simp only[TP]; omega) (by simp only; omega) (Int.le_refl _) fun YA ahp=>?_;exact afg (fun _=>rfl) ahp H fun aV H=>H
def eh.take(ar:eh)(i:Int):eh×iv×Int:=
 if (ar.at_ i).2≠0 then (ar,(ar.at_ i).1,(ar.at_ i).2)
 else if (ar.off (ar.at_ i).1.xn||ar.off (ar.at_ i).1.xF)=true then (ar,ix,93)
 else ({ ar with c:=ar.c.eraseIdx i.toNat },(ar.at_ i).1,0)
theorem eh.R6(ar:eh){i:Int}(h:(ar.at_ i).2=0):0≤i∧i<ar.c.length:=by
 by_cases W:i<0∨(ar.c.length:Int)≤i
 ·rw[ar.EX W] at h; cases h
 ·omega
theorem ZW{i:Int}{n:Nat}(am:0≤i)(B:i<n)(aO:n≤1000):IntKind.i64.wrap (i+1)=i+1:=wrap_i64 (by omega) (by omega)
theorem LX(H:E y (gW b ar::c) w)(mX:ar.c.length≤1000)(i:Int):L Pg 72 [.pointer (some ⟨b,0,none⟩),.int .i64 i] (D .i64) w fun r I=>
  r=(ar.at_ i).2∧E y (gW b (if (ar.at_ i).2=0 then { ar with c:=ar.c.eraseIdx i.toNat } else ar)::c) I:=by
 refine acL ?_;unfold Rj;refine aE (oV H i) ?_;rintro r eu ⟨rfl,H⟩;refine cj H fun gn cK H=>?_;refine fb (x:=ix) (N:=(ar.at_ i).1) rn 0 H rfl fun a6 H=>?_;have H:=H.drop;by_cases cb:(ar.at_ i).2=0
 ·obtain⟨am,B⟩:=ar.R6 cb;rw[if_pos (by simp[cb])];simp only[cb,if_true];obtain⟨v,aB,es,h,H⟩:=s6 H;refine b2 rfl ?_;refine an (x:=v) 0 H rfl rfl rfl ?_;rw[ZW am B mX];refine aE (SH (H.front 1) i am B mX) ?_;intro r aV H;refine eg (x:=r) 1 H rfl rfl (Nat.le_of_ble_eq_true rfl) fun bb H=>?_;unfold Bp;exact⟨cb,p9 (v:=r) h H⟩
 ·rw[if_neg (by simp[cb])];simp only[cb,if_false];unfold Bp;exact⟨by trivial,H⟩
theorem Jo(H:E y (gW b ar::c) w)(mX:ar.c.length≤1000)(i:Int):L Pg 71 [.pointer (some ⟨b,0,none⟩),.int .i64 i] (D .i64) w fun r I=>
  r=(if (ar.at_ i).2≠0 then (ar.at_ i).2 else (ar.put (ar.at_ i).1).2)∧E y (gW b (if (ar.at_ i).2≠0 then ar else (ar.put (ar.at_ i).1).1)::c) I:=by
 refine acK ?_;unfold Ri;refine aE (oV H i) ?_;rintro r eu ⟨rfl,H⟩;refine cj H fun gn cK H=>?_;refine fb (x:=ix) (N:=(ar.at_ i).1) rn 0 H rfl fun a6 H=>?_;by_cases cb:(ar.at_ i).2=0
 ·rw[if_neg (by simp[cb])];simp only[cb,ne_eq,not_true_eq_false,if_false];refine gV (x:=(ar.at_ i).1) 0 H rfl ?_;exact yH H.drop mX _
 ·rw[if_pos (by simp[cb])];simp only[cb,ne_eq,not_false_eq_true,if_true];exact⟨by trivial,H.drop⟩
theorem afp(H:E y (gW b ar::c) w)(x:Int)(q:Bool):L Pg 75 [.pointer (some ⟨b,0,none⟩),.int .i64 x,.bool q] (D .i64) w fun r I=>
  r=(if ar.has x then 0 else 90)∧E y (gW b (if ar.has x then { ar with off:=fun N=>if N==x then q else ar.off N } else ar)::c) I:=by
 refine acO ?_;unfold Rm;refine aE (CQ H x) ?_;rintro r eu ⟨rfl,H⟩;by_cases bV:ar.has x=true
 ·rw[if_neg (by simp[bV])];simp only[bV,if_true];obtain⟨v,aB,es,h,H⟩:=s6 H;have lV:=L3 (H.front 2);cases q with
  |true=>
   rw[if_pos rfl];refine b2 rfl ?_;refine an (x:=some aB) 0 H rfl rfl rfl ?_;refine pd 2 H rfl rfl fun cK H=>?_;unfold Bq;refine⟨rfl,p9 (v:=v) ?_ (H.ord [1,2,0])⟩;intro N;rw[lZ];by_cases e:(N==x)=true
   ·simp[e]
   ·simp[e,h N]
  |false=>
   rw[if_neg (by simp)];refine b2 rfl ?_;refine an (x:=some aB) 0 H rfl rfl rfl ?_;refine L7 2 H rfl rfl fun cK H=>?_;unfold Bq;refine⟨rfl,p9 (v:=v) ?_ (H.ord [1,2,0])⟩;intro N;rw[C2 _ _ _ lV];by_cases e:(N==x)=true
   ·simp[e]
   ·simp[e,h N]
 ·rw[if_pos (by simp[bV])];simp only[bV,Bool.false_eq_true,if_false];exact⟨by trivial,H⟩
theorem eh.Y5(ar:eh){i:Int}(h:(ar.at_ i).2≠0):ar.take i=(ar,(ar.at_ i).1,(ar.at_ i).2):=by unfold eh.take; rw[if_pos h]
theorem eh.Y6(ar:eh){i:Int}(h:(ar.at_ i).2=0)(ab:(ar.off (ar.at_ i).1.xn||ar.off (ar.at_ i).1.xF)=true):ar.take i=(ar,ix,93):=by
 unfold eh.take; rw[if_neg (by simp[h]),if_pos ab]
theorem eh.Y7(ar:eh){i:Int}(h:(ar.at_ i).2=0)(ab:(ar.off (ar.at_ i).1.xn||ar.off (ar.at_ i).1.xF)=false):ar.take i=({ ar with c:=ar.c.eraseIdx i.toNat },(ar.at_ i).1,0):=by
 unfold eh.take; rw[if_neg (by simp[h]),if_neg (by simp[ab])]
theorem NS(H:E y (gW b ar::c) w)(mX:ar.c.length≤1000)(i:Int):L Pg 63 [.pointer (some ⟨b,0,none⟩),.int .i64 i] (bJ ej (D .i64)) w fun r I=>
  r=(ar.take i).2∧E y (gW b (ar.take i).1::c) I:=by
 refine acB ?_;unfold Ra;refine cj H fun gn eu H=>?_;refine aE (oV (H.front 1) i) ?_;rintro r cK ⟨rfl,H⟩;refine cj H fun gR a6 H=>?_;refine fb (x:=ix) (N:=(ar.at_ i).1) rn 0 H rfl fun aV H=>?_;by_cases cb:(ar.at_ i).2=0
 ·rw[if_neg (by simp[cb])];refine an (x:=(ar.at_ i).1.xn) 0 H rfl rfl rfl ?_;refine aE (BU (H.front 1) _) ?_;rintro r bb ⟨rfl,H⟩;have tail:∀ (q:Bool) (w:World),E y (gW b ar::aN gR (ej.cells (ar.at_ i).1) 140::aN gn (ej.cells ix) 140::c) w→q=(ar.off (ar.at_ i).1.xn||ar.off (ar.at_ i).1.xF) →
    Bn (some ⟨b,0,none⟩) i ⟨gn,0,none⟩ ⟨gR,0,none⟩ q w (fun r I=>r=(ar.take i).2∧E y (gW b (ar.take i).1::c) I):=by
   intro q w H a5;unfold Bn;subst a5;split
   ·rename_i W;rw[ar.Y6 cb W];refine fb (x:=ix) (N:=ix) rn 2 H rfl fun bK H=>?_;refine gV (x:=ix) 0 H rfl ?_;exact⟨rfl,((H.ord [0,2]).drop).drop⟩
   ·rename_i W;rw[ar.Y7 cb (by simpa using W)];obtain⟨am,B⟩:=ar.R6 cb;obtain⟨v,aB,es,h,H⟩:=s6 H;refine b2 rfl ?_;refine an (x:=v) 0 H rfl rfl rfl ?_;rw[ZW am B mX];refine aE (SH (H.front 1) i am B mX) ?_;intro r bK H;refine eg (x:=r) 1 H rfl rfl (Nat.le_of_ble_eq_true rfl) fun bH H=>?_;refine gV (x:=(ar.at_ i).1) 3 H rfl ?_;refine fb (x:=ix) (N:=(ar.at_ i).1) rn 4 H rfl fun bQ H=>?_;refine gV (x:=(ar.at_ i).1) 0 H rfl ?_;exact⟨rfl,p9 (v:=r) h ((H.ord [0,4]).drop).drop⟩
  split
  ·rename_i W;exact tail _ _ H (by simp[W])
  ·rename_i W;refine an (x:=(ar.at_ i).1.xF) 1 H rfl rfl rfl ?_;refine aE (BU H _) ?_;rintro r bK ⟨rfl,H⟩;exact tail _ _ H (by simp at W; simp[W])
 ·rw[if_pos (by simp[cb])];rw[ar.Y5 cb];refine gV (x:=(ar.at_ i).1) 0 H rfl ?_;refine fb (x:=ix) (N:=(ar.at_ i).1) rn 2 H rfl fun bb H=>?_;refine gV (x:=(ar.at_ i).1) 0 H rfl ?_;exact⟨rfl,H.drop.drop⟩
end
section
variable {y w:World} {c:List bt} {b:Nat} {ar:eh}
def eh.new(n:Int):eh:=⟨n,0,[],fun _=>false⟩
theorem adt(H:E y c w)(n:Int):L Pg 13 [.int .i64 n] (bJ aM (D .i64)) w fun r I=>
  ((n<1∨64<n)∧r=(none,90)∧E y c I)∨((1≤n∧n≤64)∧∃ b,r=(some ⟨b,0,none⟩,0)∧E y (gW b (eh.new n)::c) I):=by
 refine aaG ?_;unfold Pb;split
 ·rename_i W;exact .inl ⟨by simp at W; omega,rfl,H⟩
 ·rename_i W;refine qB H fun aB eu H=>?_;refine cj H fun b cK H=>?_;refine .inr ⟨by simp at W; omega,b,rfl,?_⟩;have H:=(qz jn .i64 (H.front 1)).front 1;exact p9 (v:=er) (ar:=eh.new n) (fun x=>rfl) ((jW ej 140 9 H).front 1)
end
end Post
section
open ba
theorem Wz:ownKnob Tryz.prog.godebug=none:=by kernel_rfl
theorem FU:laidOutB Pg=true:=by kernel_rfl
section
variable {H:Type} {enc:TypeId×Value→H} {y:World} {base:Nat} {spare:Nat→Bool} {held:Bool}
def qT(y:World)(x:Int):Prop:=IntKind.i64.min≤x∧x≤IntKind.i64.max
theorem vp:qa enc Pg y base spare held 3 (D .i64) (qT y):=Ww Tryz.underlying3
def IT(y:World)(x:Int):Prop:=IntKind.i64.min≤x∧x≤IntKind.i64.max
theorem Wt:qa enc Pg y base spare held 2 (D .i64) (IT y):=Ww Tryz.underlying2
def RL(y:World)(x:Bool):Prop:=True
theorem avN:qa enc Pg y base spare held 4 bi (RL y):=avP Tryz.underlying4
def RJ(y:World)(x:jB):Prop:=qT y x.Kind∧IT y x.c6∧qT y x.df∧qT y x.b4∧IT y x.ar∧RL y x.jm
theorem avL:qa enc Pg y base spare held 38 ft (RJ y):=by
 refine Wv Tryz.underlying38 (show Tryz.prog.cellsOf 38=6 by kernel_rfl) fun a4 aj ap=>?_;obtain⟨yu,bD,am⟩:=ap 0 0 3 1 ⟨_,rfl,rfl,rfl⟩ (by kernel_rfl);obtain⟨hM,gf,gr⟩:=vp _ _ _ am;obtain⟨eR,cH,B⟩:=ap 1 1 2 1 ⟨_,rfl,rfl,rfl⟩ (by kernel_rfl);obtain⟨eP,aT,cD⟩:=Wt _ _ _ B;obtain⟨f_,fp,J⟩:=ap 2 2 3 1 ⟨_,rfl,rfl,rfl⟩ (by kernel_rfl);obtain⟨gD,a0,dC⟩:=vp _ _ _ J;obtain⟨fQ,ez,au⟩:=ap 3 3 3 1 ⟨_,rfl,rfl,rfl⟩ (by kernel_rfl);obtain⟨nU,cS,fx⟩:=vp _ _ _ au;obtain⟨F6,dr,a8⟩:=ap 4 4 2 1 ⟨_,rfl,rfl,rfl⟩ (by kernel_rfl);obtain⟨pp,j9,jO⟩:=Wt _ _ _ a8;obtain⟨jd,dn,b_⟩:=ap 5 5 4 1 ⟨_,rfl,rfl,rfl⟩ (by kernel_rfl);obtain⟨Ej,ny,q_⟩:=avN _ _ _ b_;have bV:=r2 (A:=0) (k:=1) gf (r2 (A:=1) (k:=1) aT (r2 (A:=2) (k:=1) a0 (r2 (A:=3) (k:=1) cS (r2 (A:=4) (k:=1) j9 (r2 (A:=5) (k:=1) ny (SJ aj))))));exact⟨⟨hM,eP,gD,nU,pp,Ej⟩,bV,gr,cD,dC,fx,jO,q_⟩
def RK(y:World)(s:X):Prop:=(s.len≤s.cap∧s.cap≤9223372036854775807)∧∃ xs,(∀ x∈xs,qT y x)∧dL (D .i64) s xs fun b=>y.heap[b]?
theorem avM:qa enc Pg y base spare held 39 O (RK y):=Wx Tryz.underlying39 (show Tryz.prog.cellsOf 3=1 by kernel_rfl) (by decide) (fun _=>rfl) vp
def IU(y:World)(x:oS):Prop:=qT y x.Kind∧qT y x.b0∧qT y x.ar∧RJ y x.dU∧RK y x.iu
theorem avO:qa enc Pg y base spare held 41 ko (IU y):=by
 refine Wv Tryz.underlying41 (show Tryz.prog.cellsOf 41=10 by kernel_rfl) fun a4 aj ap=>?_;obtain⟨yu,bD,am⟩:=ap 0 0 3 1 ⟨_,rfl,rfl,rfl⟩ (by kernel_rfl);obtain⟨hM,gf,gr⟩:=vp _ _ _ am;obtain⟨eR,cH,B⟩:=ap 1 1 3 1 ⟨_,rfl,rfl,rfl⟩ (by kernel_rfl);obtain⟨eP,aT,cD⟩:=vp _ _ _ B;obtain⟨f_,fp,J⟩:=ap 2 2 3 1 ⟨_,rfl,rfl,rfl⟩ (by kernel_rfl);obtain⟨gD,a0,dC⟩:=vp _ _ _ J;obtain⟨fQ,ez,au⟩:=ap 3 3 38 6 ⟨_,rfl,rfl,rfl⟩ (by kernel_rfl);obtain⟨nU,cS,fx⟩:=avL _ _ _ au;obtain⟨F6,dr,a8⟩:=ap 4 9 39 1 ⟨_,rfl,rfl,rfl⟩ (by kernel_rfl);obtain⟨pp,j9,jO⟩:=avM _ _ _ a8;have bV:=r2 (A:=0) (k:=1) gf (r2 (A:=1) (k:=1) aT (r2 (A:=2) (k:=1) a0 (r2 (A:=3) (k:=6) cS (r2 (A:=9) (k:=1) j9 (SJ aj)))));exact⟨⟨hM,eP,gD,nU,pp⟩,bV,gr,cD,dC,fx,jO⟩
def zv(y:World)(s:X):Prop:=(s.len≤s.cap∧s.cap≤9223372036854775807)∧∃ xs,(∀ x∈xs,IU y x)∧dL ko s xs fun b=>y.heap[b]?
theorem Wu:qa enc Pg y base spare held 22 O (zv y):=Wx Tryz.underlying22 (show Tryz.prog.cellsOf 41=10 by kernel_rfl) (by decide) (fun _=>rfl) avO
end
end
end Go.Proofs.YtnmmjkjkkmbhiaaGreat
