/- Own texts of this claim, part 0: short, merged. -/
import Derived.OrdersHeld
import Derived.Calls
import Derived.Laws.World
import Derived.KernelRfl
import Derived.WalkKit
import Derived.WalkLawsBesides
import Derived.Lib.SliceRun
import Derived.Laws.Cover3
import Derived.Laws.Pointers
import Derived.Lib.Strings
import Derived.Laws.Append
import Derived.Maps.OwnOps
import Derived.Laws.StructEq
import Derived.Maps.RangeRun
import Derived.Scope
import Derived.Laws.MakeOwn
import Derived.Laws.Small
import Derived.Laws.Externs
import Derived.Laws.BytesString
import Derived.Laws.IdiomStrings
import Derived.Laws.FloatArith
import Derived.Recover
import Derived.Test.YtnmmjkjkkmbhiaaGreatProg
set_option maxRecDepth 100000
set_option maxHeartbeats 40000000
set_option linter.defProp false
set_option linter.unusedVariables false
set_option linter.unusedSimpArgs false
namespace Go.Proofs.YtnmmjkjkkmbhiaaGreat
noncomputable abbrev Pg:=Tryz.prog
end Go.Proofs.YtnmmjkjkkmbhiaaGreat
namespace Go.Proofs.YtnmmjkjkkmbhiaaGreat
namespace ba
def av(f:Nat→Value)(d:Nat)(v:Value):Nat→Value:=fun t=>bif Nat.beq t d then v else f t
def fL(f:Nat→Value):Option Nat→Value→(Nat→Value)
 |some d,v=>av f d v
 |none,_=>f
def act(n:Nat)(f:Nat→Value)(ay:List Deferred):Act:={ tmps:=Array.ofFn (n:=n) fun i=>f i.1,defers:=ay }
def Y(n:Nat)(f:Nat→Value):Operand→Value
 |.tmp t=>bif Nat.blt t n then f t else undef
 |.const v=>v
 |.global g=>.pointer (some ⟨g,0,none⟩)
 |.func f=>.func (.func f) #[] #[]
theorem azv{f:Nat→Value}{d:Nat}{v:Value}(h:f d=v):av f d v=f:=by
 funext t;simp only[av];cases aA:Nat.beq t d with
 |false=>rfl
 |true=>rw[Nat.eq_of_beq_eq_true aA,h]; rfl
theorem aW{g f:Nat→Value}{d:Nat}{v:Value}(h:g=f)(ax:f d=v):av g d v=f:=by
 subst h; exact azv ax
theorem gY(n:Nat)(f:Nat→Value)(ay:List Deferred):(act n f ay).eval=Y n f:=by
 funext x;cases x with
 |tmp t=>
  simp only[Act.eval,act,Y];by_cases h:t<n
  ·have aA:Nat.blt t n=true:=by simpa using h
   simp[h,aA]
  ·have aA:Nat.blt t n=false:=by cases aA:Nat.blt t n with | false=>rfl | true=>exact absurd (by simpa using aA) h
   simp[h,aA]
 |const v=>rfl
 |global g=>rfl
 |func g=>rfl
theorem g5(n:Nat)(f:Nat→Value)(ay:List Deferred)(d:Option Nat)(v:Value):(act n f ay).put d v=act n (fL f d v) ay:=by
 cases d with
 |none=>rfl
 |some d=>
  simp only[Act.put,act,fL];congr 1;apply Array.ext
  ·simp
  ·intro i B J;simp only[Array.size_setIfInBounds,Array.size_ofFn] at B;simp only[Array.getElem_setIfInBounds,Array.size_ofFn,B,Array.getElem_ofFn,av];by_cases e:d=i
   ·subst e; simp
   ·have aA:Nat.beq i d=false:=by
     cases aA:Nat.beq i d with
     |false=>rfl
     |true=>exact absurd (Nat.eq_of_beq_eq_true aA).symm e
    simp[e,aA]
def start(c:List Value):Nat→Value:=fun t=>c.getD t undef
theorem NL(c:List Value)(n:Nat)(h:c.length≤n) :
  ({ tmps:=c.toArray++Array.replicate (n-c.toArray.size) undef,defers:=[] }:Act)=act n (start c) []:=by
 simp only[act];congr 1;apply Array.ext
 ·simp; omega
 ·intro i B J;simp only[Array.size_ofFn] at J;simp only[Array.getElem_ofFn,start,Array.getElem_append,List.size_toArray];by_cases aj:i<c.length
  ·simp[aj]
  ·simp[aj]
theorem pw{P:Program}{f:FuncId}{fn:Func}{o:Code}{c:List Value}{w:World}{j:Ending→World→Prop}(n:Nat)
  (ap:P.funcs[f]?=some fn) (aO:fn.ntmps=n) (aA:fn.body=some o) (aj:c.length≤n)
  (h:o.wp P (bodyPost P fn j) (act n (start c) []) w):Calls P f c.toArray w j:=by
 subst aO;exact calls_of_wp ap aA (by rw[NL c _ aj]; exact h)
def zn(n:Nat)(ops:Array Oper)(f:Nat→Value)(l:Nat):Option Bool:=
 match (ops[l]?).bind (·.dst) with
 |some d=>(match Y n f (.tmp d) with |.bool b=>some b |_=>none)
 |none=>none
theorem Em(n:Nat)(ops:Array Oper)(f:Nat→Value)(ay:List Deferred)(l:Nat) :
  yielded ops (act n f ay).tmps l=zn n ops f l:=by
 unfold yielded zn;cases h:(ops[l]?).bind (·.dst) with
 |none=>rfl
 |some d=>
  simp only[Option.bind_some,act,Y];by_cases aC:d<n
  ·have aA:Nat.blt d n=true:=by simpa using aC
   simp[aC,aA];cases f d<;>rfl
  ·have aA:Nat.blt d n=false:=by cases aA:Nat.blt d n with | false=>rfl | true=>exact absurd (by simpa using aA) aC
   simp[aC,aA,undef]
inductive rP(n:Nat)(ops:Array Oper)(f:Nat→Value)(A:Oper):Prop
 |free (h:A.guard=none)
 |U (l:Nat) (b:Bool) (d:Nat) (o:Bool) (ae:A.guard=some (l,b)) (a7:(ops[l]?).bind (·.dst)=some d) (ax:Y n f (.tmp d)=.bool o) (W:o=b)
theorem rP.wanted{n:Nat}{ops:Array Oper}{f:Nat→Value}{A:Oper}{ay:List Deferred}(h:rP n ops f A) :
  Region.wanted A (yielded ops (act n f ay).tmps)=true:=by
 cases h with
 |free h=>simp[Region.wanted,h]
 |U l b d o ae a7 ax W=>
  simp only[Region.wanted,ae,Em,zn,a7,ax,W];simp
inductive zo(n:Nat)(ops:Array Oper)(f:Nat→Value)(A:Oper):Prop
 |U (l:Nat) (b:Bool) (d:Nat) (o:Bool) (ae:A.guard=some (l,b)) (a7:(ops[l]?).bind (·.dst)=some d) (ax:Y n f (.tmp d)=.bool o) (W:o=!b)
 |undef (l:Nat) (b:Bool) (d:Nat) (ae:A.guard=some (l,b)) (a7:(ops[l]?).bind (·.dst)=some d) (ax:Y n f (.tmp d)=undef)
theorem zo.wanted{n:Nat}{ops:Array Oper}{f:Nat→Value}{A:Oper}{ay:List Deferred}(h:zo n ops f A) :
  Region.wanted A (yielded ops (act n f ay).tmps)=false:=by
 cases h with
 |U l b d o ae a7 ax W=>
  simp only[Region.wanted,ae,Em,zn,a7,ax,W];cases b<;>simp
 |undef l b d ae a7 ax=>
  simp only[Region.wanted,ae,Em,zn,a7,ax,undef];rfl
@[irreducible] def cI(P:Program)(ops:Array Oper)(Q:Exit→Act→World→Prop)(c:List Nat)(a:Act)(w:World):Prop:=wpOps P ops Q c a w
@[irreducible] def kW(P:Program)(A:Oper)(a:Act)(w:World)(next:Act→World→Prop)(Q:Exit→Act→World→Prop):Prop:=A.wp P a w next Q
theorem lG{P:Program}{A:Oper}{a:Act}{w:World}{next:Act→World→Prop}{Q:Exit→Act→World→Prop}:kW P A a w next Q=A.wp P a w next Q:=by unfold kW; rfl
theorem v4:cI=wpOps:=by funext P ops Q c a w; unfold cI; rfl
section
variable {P:Program} {Q:Exit→Act→World→Prop} {n:Nat} {f:Nat→Value} {ay:List Deferred} {w I:World} {ops:Array Oper} {i:Nat} {rest:List Nat} {A:Oper} {d:Option Nat}
theorem ofList(h:ops.toList[i]?=some A):ops[i]?=some A:=by simpa using h
theorem kk{v:Value}(aq:ops.toList[i]?=some A)(ae:rP n ops f A)(aC:A.dst=d)(ax:(execOp (Y n f) A).run P w=.ok (.value v) I)
  (h:cI P ops Q rest (act n (fL f d v) ay) I):cI P ops Q (i::rest) (act n f ay) w:=by
 subst aC;rw[v4] at *;rw[wpOps_cons];simp only[wpOp,ofList aq,ae.wanted,if_true];left;simp only[Oper.wp,gY,ax,Oper.upon_value,g5];exact h
theorem Ys(aq:ops.toList[i]?=some A)(ae:rP n ops f A)(aC:A.dst=d)(ax:(execOp (Y n f) A).run P w=.ok .skip I)
  (h:cI P ops Q rest (act n (fL f d undef) ay) I):cI P ops Q (i::rest) (act n f ay) w:=by
 subst aC;rw[v4] at *;rw[wpOps_cons];simp only[wpOp,ofList aq,ae.wanted,if_true];left;simp only[Oper.wp,gY,ax,Oper.upon_skip,g5];exact h
theorem iZ(aq:ops.toList[i]?=some A)(ae:zo n ops f A)(aC:A.dst=d)
  (h:cI P ops Q rest (act n (fL f d undef) ay) w):cI P ops Q (i::rest) (act n f ay) w:=by
 subst aC;rw[v4] at *;rw[wpOps_cons];simp only[wpOp,ofList aq,ae.wanted,Bool.false_eq_true,if_false,g5];exact h
theorem e3(aq:ops.toList[i]?=some A)(ae:rP n ops f A)
  (h:kW P A (act n f ay) w (cI P ops Q rest) Q):cI P ops Q (i::rest) (act n f ay) w:=by
 rw[lG] at h;rw[v4] at *;rw[wpOps_cons];simp only[wpOp,ofList aq,ae.wanted,if_true];exact .inl h
theorem bp(h:Q .normal (act n f ay) w):cI P ops Q [] (act n f ay) w:=by rw[v4]; exact h
theorem bv{id:Nat}(c:List Nat)(aj:List.range ops.size=c)(h:cI P ops Q c (act n f ay) w):(Code.region id ops false).wp P Q (act n f ay) w:=by
 subst aj; rw[v4] at h; exact wp_region h
theorem Sn{k:FuncId}{args:Array Value}{next:Act→World→Prop}
  (ax:(execOp (Y n f) A).run P w=.ok (.enter k args) I)
  (h : Calls P k args I fun
   |.returned v,N7=>next (act n (fL f A.dst v) ay) N7
   |.panicked chain,N7=>Q (.panic chain) (act n f ay) N7
   |.outgrown,_=>LetsOut Q):A.wp P (act n f ay) w next Q:=by
 simp only[Oper.wp,gY,ax,Oper.upon_enter,g5];exact h
end
section
variable {P:Program} {Q:Exit→Act→World→Prop} {ops:Array Oper}
def waits(ops:Array Oper)(l i:Nat):Bool:=
 match ops[l]? with
 |some A=>A.after.any fun e=>Region.binds .any e&&(e.on==i||match ops[e.on]? with
  |some A=>A.after.any fun e=>Region.binds .any e&&e.on==i
  |none=>false)
 |none=>false
def zp(ops:Array Oper)(listed:Array Bool):Prop:=∀ l A,ops[l]?=some A→listed.getD l false=true→∀ e∈A.after,Region.binds .any e=true→listed.getD e.on false=true
theorem Ss(ops:Array Oper)(m:Nat):zp ops (Array.replicate m false):=fun l A _ h=>by
 rw[Array.getD_eq_getD_getElem?,Array.getElem?_replicate] at h;split at h<;>cases h
theorem Jn{ops:Array Oper}{listed:Array Bool}{i:Nat}(h:zp ops listed)(aq:i∈Region.ready .any ops listed):zp ops (listed.setIfInBounds i true):=fun l A ab a7 e he aA=>by
 by_cases o:i=l
 ·subst o;obtain⟨_,au0,wB,tl⟩:=mem_ready.1 aq;rw[ab] at wB;cases wB;exact getD_set_true (tl e he aA)
 ·rw[getD_set_ne false o] at a7;exact getD_set_true (h l A ab a7 e he aA)
def tQ(P:Program)(ops:Array Oper)(Q:Exit→Act→World→Prop):List (Nat×(World→Prop))→Nat→Array Bool→Act→World→Prop
 |_,0,listed,a,w=>Region.ready .any ops listed=[]∧Q .normal a w
 |a2,mU+1,listed,a,w=>
  (Region.ready .any ops listed=[]→Q .normal a w) ∧
  ∀ i∈Region.ready .any ops listed,wpOp P ops Q i (fun bS I=>(∀ x∈a2,waits ops i x.1=false→x.2 w→x.2 I)∧tQ P ops Q a2 mU (listed.setIfInBounds i true) bS I) a w
@[irreducible] def gl(P:Program)(ops:Array Oper)(Q:Exit→Act→World→Prop)(a2:List (Nat×(World→Prop)))(k:Nat)(c:Array Bool)(a:Act)(w:World):Prop:=zp ops c→tQ P ops Q a2 k c a w
theorem v3:gl=fun P ops Q a2 k c a w=>(zp ops c→tQ P ops Q a2 k c a w):=by funext P ops Q a2 k c a w; unfold gl; rfl
@[irreducible] def kE(P:Program)(ops:Array Oper)(Q:Exit→Act→World→Prop)(i:Nat)(aa:Act→World→Prop)(a:Act)(w:World):Prop:=wpOp P ops Q i aa a w
theorem I0:kE=wpOp:=by funext P ops Q i aa a w; unfold kE; rfl
theorem On(a2:List (Nat×(World→Prop))):∀ (mU:Nat) (listed:Array Bool) (a:Act) (w:World),tQ P ops Q a2 mU listed a w→wpAny P .any ops Q mU listed a w
 |0,_,_,_,h=>h
 |mU+1,_,_,_,h=>⟨h.1,fun i aq=>wpOp_mono (fun bS I eI=>On a2 mU _ bS I eI.2) (h.2 i aq)⟩
theorem ZV{x:Nat×(World→Prop)}{a2:List (Nat×(World→Prop))}:∀ (g:Nat) (c:Array Bool) (a:Act) (w:World),tQ P ops Q (x::a2) g c a w→tQ P ops Q a2 g c a w
 |0,_,_,_,h=>h
 |g+1,_,_,_,h=>⟨h.1,fun k al=>wpOp_mono (fun bS I eI=>⟨fun N aJ hw=>eI.1 N (List.mem_cons_of_mem _ aJ) hw,ZV g _ bS I eI.2⟩) (h.2 k al)⟩
theorem azR{i:Nat}{yB:Oper}{v:Value}{ad:World→Prop}(aq:ops[i]?=some yB)(Uc:∀ (l:Nat) (A:Oper) a4 b,ops[l]?=some A→A.op≠.select a4 b)
  (ku:∀ o a w,Q (.panic o) (a.put yB.dst v) w→Q (.panic o) a w) (a2:List (Nat×(World→Prop))) :
  ∀ (mU:Nat) (listed:Array Bool) (a:Act) (w:World),zp ops listed →
   (∀ l yC,ops[l]?=some yC→l≠i→listed.getD l true=false→(∀ e∈yC.after,Region.binds .any e=true→e.on≠i)→yB.apart ops yC=true) →
   i∈Region.ready .any ops listed→YieldsIf P ops ad yB v a→ad w →
   tQ P ops Q ((i,ad)::a2) mU (listed.setIfInBounds i true) (a.put yB.dst v) w→tQ P ops Q a2 (mU+1) listed a w:=by
 intro mU;induction mU with
 |zero=>
  intro listed a w py _ Z aJ iR H;refine⟨fun h=>(by rw[h] at Z; cases Z),fun l a7=>?_⟩;by_cases hji:l=i
  ·subst hji;exact aJ.wpOp aq iR ⟨fun x F _ h=>h,H⟩
  ·have:=ready_mono a7 hji;rw[H.1] at this;cases this
 |succ mU b8=>
  intro listed a w py x6 Z aJ iR H;refine⟨fun h=>(by rw[h] at Z; cases Z),fun l a7=>?_⟩;by_cases hji:l=i
  ·subst hji;exact aJ.wpOp aq iR ⟨fun x F _ h=>h,ZV _ _ _ _ H⟩
  ·have B:=H.2 l (ready_mono a7 hji);obtain⟨TW,yC,FA,tl⟩:=mem_ready.1 a7;have Cy:∀ e∈yC.after,Region.binds .any e=true→e.on≠i:=fun e he aA ain=>by
    have B:=tl e he aA;have am:=(mem_ready.1 Z).1;rw[ain] at B;rcases Nat.lt_or_ge i listed.size with eI | eI
    ·simp[eI] at am B; rw[am] at B; cases B
    ·simp[Array.getElem?_eq_none eI] at B
   have FE:¬ listed.getD i false=true:=fun bV=>by
    have am:=(mem_ready.1 Z).1;rcases Nat.lt_or_ge i listed.size with eI | eI
    ·simp[eI] at am bV; rw[am] at bV; cases bV
    ·simp[Array.getElem?_eq_none eI] at bV
   have akJ:waits ops l i=false:=by
    simp only[waits,FA];rw[Array.any_eq_false'];intro e he;have:=Cy e he;cases aA:Region.binds .any e with
    |false=>simp
    |true=>
     have B:=tl e he aA;have J:=this aA;simp only[Bool.true_and,Bool.or_eq_true,not_or];refine⟨by simpa using J,?_⟩;cases KM:ops[e.on]? with
     |none=>simp
     |some aBM=>
      simp only[Bool.not_eq_true];rw[Array.any_eq_false'];intro a0 aig;cases TH:Region.binds .any a0 with
      |false=>simp
      |true=>
       have au:=py _ _ KM B a0 aig TH;simp only[Bool.true_and,beq_iff_eq];exact fun a8=>FE (a8▸au)
   have J:=wpOp_putIf FA (x6 l yC FA hji TW Cy) (fun a4 b=>Uc i yB a4 b aq) (fun a4 b=>Uc l yC a4 b FA) ku aJ B;have ait:∀ k ok,ops[k]?=some ok→k≠i→(listed.setIfInBounds l true).getD k true=false →
     (∀ e∈ok.after,Region.binds .any e=true→e.on≠i)→yB.apart ops ok=true:=fun k ok al ajJ FE z_=>by
    refine x6 k ok al ajJ ?_ z_;by_cases z7:l=k
    ·subst z7; exact TW
    ·rw[getD_set_ne true z7] at FE; exact FE
   refine wpOp_mono (fun bS I au=>?_) J;obtain⟨u_,TB,a8⟩:=au;have ahC:ad I:=TB (i,ad) (List.mem_cons_self ..) akJ iR;refine⟨fun x F hw=>TB x (List.mem_cons_of_mem _ F) hw,?_⟩;refine b8 (listed.setIfInBounds l true) bS I (Jn py a7) ait (ready_mono Z (Ne.symm hji)) u_ ahC ?_;rw[Array.setIfInBounds_comm _ _ hji];exact a8
theorem Ht{x:Nat×(World→Prop)}(F:∀ w,x.2 w){a2:List (Nat×(World→Prop))}:∀ (g:Nat) (c:Array Bool) (a:Act) (w:World),tQ P ops Q a2 g c a w→tQ P ops Q (x::a2) g c a w
 |0,_,_,_,h=>h
 |g+1,_,_,_,h=>⟨h.1,fun k al=>wpOp_mono (fun bS I eI=>⟨fun N aJ hw am=>(List.mem_cons.1 aJ).elim (fun e=>e▸F I) (fun aJ=>eI.1 N aJ hw am),Ht F g _ bS I eI.2⟩) (h.2 k al)⟩
structure j1(ops:Array Oper)(Q:Exit→Act→World→Prop):Prop where
 ayk:Region.noSelect ops=true
 avW:∀ o a d v w,(∃ A∈ops.toList,A.dst=d)→Q (.panic o) (Act.put a d v) w→Q (.panic o) a w
theorem oJ{id:Nat}{n:Nat}{f:Nat→Value}{ay:List Deferred}{w eu:World}(m:Nat)(hm:P.follows .mixedOrders=true)(aj:ops.size=m)(aF:Region.noSelect ops=true)
  (ku:∀ o a d v w,Q (.panic o) (Act.put a d v) w→Q (.panic o) a w) (hw:eu=w.drew)
  (h:j1 ops Q→gl P ops Q [] m (Array.replicate m false) (act n f ay) eu):(Code.region id ops true).wp P Q (act n f ay) w:=by
 subst aj; subst hw;rw[v3] at h;exact wp_region_any hm (On [] _ _ _ _ (h ⟨aF,fun o a d v w _=>ku o a d v w⟩ (Ss _ _)))
theorem azV{id:Nat}{n:Nat}{f:Nat→Value}{ay:List Deferred}{w eu:World}(m:Nat)(hm:P.follows .mixedOrders=true)(aj:ops.size=m)(aF:Region.noSelect ops=true)
  (ku:∀ o a d v w,(∃ A∈ops.toList,A.dst=d)→Q (.panic o) (Act.put a d v) w→Q (.panic o) a w) (hw:eu=w.drew)
  (h:j1 ops Q→gl P ops Q [] m (Array.replicate m false) (act n f ay) eu):(Code.region id ops true).wp P Q (act n f ay) w:=by
 subst aj; subst hw;rw[v3] at h;exact wp_region_any hm (On [] _ _ _ _ (h ⟨aF,ku⟩ (Ss _ _)))
section
variable {n k:Nat} {f:Nat→Value} {ay:List Deferred} {w I:World} {i:Nat} {listed:Array Bool} {a2:List (Nat×(World→Prop))} {A:Oper} {d:Option Nat}
theorem DR{v:Value}{ad:World→Prop}(G:j1 ops Q)(ap:Region.free .any ops listed i=true)(Z:(Region.ready .any ops listed).contains i=true)(aq:ops.toList[i]?=some A)
  (aC:A.dst=d)
  (aJ:YieldsIf P ops ad A v (act n f ay)) (iR:ad w) (h:gl P ops Q ((i,ad)::a2) k (listed.setIfInBounds i true) (act n (fL f d v) ay) w):gl P ops Q a2 (k+1) listed (act n f ay) w:=by
 rw[v3] at *;intro py;exact azR (ofList aq) (Region.noSelect_spec G.ayk) (fun o a w=>G.avW o a _ _ w ⟨A,List.mem_of_getElem? aq,rfl⟩) a2 k listed _ w py (Region.free_spec (ofList aq) ap) (by simpa using Z) aJ iR (by rw[g5,aC]; exact h (Jn py (by simpa using Z)))
theorem bB{v:Value}(G:j1 ops Q)(ap:Region.free .any ops listed i=true)(Z:(Region.ready .any ops listed).contains i=true)(aq:ops.toList[i]?=some A)(ae:rP n ops f A)(aC:A.dst=d)
  (ax:∀ w,(execOp (Y n f) A).run P w=.ok (.value v) w)
  (h:gl P ops Q a2 k (listed.setIfInBounds i true) (act n (fL f d v) ay) w):gl P ops Q a2 (k+1) listed (act n f ay) w:=
 DR (ad:=fun _=>True) G ap Z aq aC (.inl ⟨ae.wanted,fun w _=>by rw[gY]; exact ax w⟩) trivial (by rw[v3] at *; exact fun py=>Ht (fun _=>trivial) _ _ _ _ (h py))
theorem oA{v:Value}(ad:World→Prop)(G:j1 ops Q)(ap:Region.free .any ops listed i=true)(Z:(Region.ready .any ops listed).contains i=true)(aq:ops.toList[i]?=some A)(ae:rP n ops f A)(aC:A.dst=d)
  (ax:∀ w,ad w→(execOp (Y n f) A).run P w=.ok (.value v) w) (iR:ad w)
  (h:gl P ops Q ((i,ad)::a2) k (listed.setIfInBounds i true) (act n (fL f d v) ay) w):gl P ops Q a2 (k+1) listed (act n f ay) w:=
 DR G ap Z aq aC (.inl ⟨ae.wanted,fun w hw=>by rw[gY]; exact ax w hw⟩) iR h
theorem NB(G:j1 ops Q)(ap:Region.free .any ops listed i=true)(Z:(Region.ready .any ops listed).contains i=true)(aq:ops.toList[i]?=some A)(ae:zo n ops f A)(aC:A.dst=d)
  (h:gl P ops Q a2 k (listed.setIfInBounds i true) (act n (fL f d undef) ay) w):gl P ops Q a2 (k+1) listed (act n f ay) w:=
 DR (ad:=fun _=>True) G ap Z aq aC (.inr ⟨ae.wanted,rfl⟩) trivial (by rw[v3] at *; exact fun py=>Ht (fun _=>trivial) _ _ _ _ (h py))
theorem NA{af:List Nat}{a:Act}(Z:Region.ready .any ops listed=af)(ec:af≠[])
  (h:∀ i∈af,kE P ops Q i (fun bS I=>(∀ x∈a2,waits ops i x.1=false→x.2 w→x.2 I)∧gl P ops Q a2 k (listed.setIfInBounds i true) bS I) a w):gl P ops Q a2 (k+1) listed a w:=by
 rw[v3,I0] at *;intro py;exact⟨fun am=>absurd (Z▸am) ec,fun i aq=>wpOp_mono (fun bS I eI=>⟨eI.1,eI.2 (Jn py aq)⟩) (h i (Z▸aq))⟩
theorem bA{a:Act}(Z:Region.ready .any ops listed=[i])
  (h:kE P ops Q i (fun bS I=>(∀ x∈a2,waits ops i x.1=false→x.2 w→x.2 I)∧gl P ops Q a2 k (listed.setIfInBounds i true) bS I) a w):gl P ops Q a2 (k+1) listed a w:=
 NA Z (by simp) fun l a7=>by
  obtain rfl:l=i:=by simpa using a7
  exact h
theorem Yc{l:Nat}{a:Act}(Z:Region.ready .any ops listed=[i,l])
  (h:kE P ops Q i (fun bS I=>(∀ x∈a2,waits ops i x.1=false→x.2 w→x.2 I)∧gl P ops Q a2 k (listed.setIfInBounds i true) bS I) a w)
  (eI:kE P ops Q l (fun bS I=>(∀ x∈a2,waits ops l x.1=false→x.2 w→x.2 I)∧gl P ops Q a2 k (listed.setIfInBounds l true) bS I) a w):gl P ops Q a2 (k+1) listed a w:=
 NA Z (by simp) fun c aj=>by
  rcases List.mem_cons.1 aj with rfl | aj
  ·exact h
  ·obtain rfl:c=l:=by simpa using aj
   exact eI
theorem axz{l m:Nat}{a:Act}(Z:Region.ready .any ops listed=[i,l,m])
  (h:kE P ops Q i (fun bS I=>(∀ x∈a2,waits ops i x.1=false→x.2 w→x.2 I)∧gl P ops Q a2 k (listed.setIfInBounds i true) bS I) a w)
  (eI:kE P ops Q l (fun bS I=>(∀ x∈a2,waits ops l x.1=false→x.2 w→x.2 I)∧gl P ops Q a2 k (listed.setIfInBounds l true) bS I) a w)
  (ahm:kE P ops Q m (fun bS I=>(∀ x∈a2,waits ops m x.1=false→x.2 w→x.2 I)∧gl P ops Q a2 k (listed.setIfInBounds m true) bS I) a w):gl P ops Q a2 (k+1) listed a w:=
 NA Z (by simp) fun c aj=>by
  rcases List.mem_cons.1 aj with rfl | aj
  ·exact h
  ·rcases List.mem_cons.1 aj with rfl | aj
   ·exact eI
   ·obtain rfl:c=m:=by simpa using aj
    exact ahm
section
variable {aa:Act→World→Prop}
theorem cY(aq:ops.toList[i]?=some A)(ae:rP n ops f A)(h:kW P A (act n f ay) w aa Q):kE P ops Q i aa (act n f ay) w:=by
 rw[lG] at h;rw[I0];simp only[wpOp,ofList aq,ae.wanted,if_true];exact .inl h
theorem tD{v:Value}(aq:ops.toList[i]?=some A)(ae:rP n ops f A)(aC:A.dst=d)(ax:(execOp (Y n f) A).run P w=.ok (.value v) I)(h:aa (act n (fL f d v) ay) I):kE P ops Q i aa (act n f ay) w:=by
 subst aC;refine cY aq ae ?_;rw[lG];simp only[Oper.wp,gY,ax,Oper.upon_value,g5];exact h
theorem sL(aq:ops.toList[i]?=some A)(ae:rP n ops f A)(aC:A.dst=d)(ax:(execOp (Y n f) A).run P w=.ok .skip I)(h:aa (act n (fL f d undef) ay) I):kE P ops Q i aa (act n f ay) w:=by
 subst aC;refine cY aq ae ?_;rw[lG];simp only[Oper.wp,gY,ax,Oper.upon_skip,g5];exact h
theorem dE(aq:ops.toList[i]?=some A)(ae:zo n ops f A)(aC:A.dst=d)(h:aa (act n (fL f d undef) ay) w):kE P ops Q i aa (act n f ay) w:=by
 subst aC;rw[I0];simp only[wpOp,ofList aq,ae.wanted,Bool.false_eq_true,if_false,g5];exact h
end
theorem ef{m:Nat}{a:Act}(Z:Region.ready .any ops listed=[])(h:Q .normal a w):gl P ops Q a2 m listed a w:=by
 rw[v3];intro _;cases m with
 |zero=>exact⟨Z,h⟩
 |succ m=>exact⟨fun _=>h,by rw[Z]; simp⟩
theorem c_{l:Nat}:∀ x∈([]:List (Nat×(World→Prop))),waits ops l x.1=false→x.2 w→x.2 I:=fun x F=>absurd F (List.not_mem_nil)
theorem g8{l i:Nat}{ad:World→Prop}(h:waits ops l i=true)(t:∀ x∈a2,waits ops l x.1=false→x.2 w→x.2 I):∀ x∈(i,ad)::a2,waits ops l x.1=false→x.2 w→x.2 I:=by
 intro x F ap;rcases List.mem_cons.1 F with rfl | F
 ·rw[h] at ap; cases ap
 ·exact t x F ap
theorem cg{l i:Nat}{ad:World→Prop}(h:ad w→ad I)(t:∀ x∈a2,waits ops l x.1=false→x.2 w→x.2 I):∀ x∈(i,ad)::a2,waits ops l x.1=false→x.2 w→x.2 I:=by
 intro x F ap;rcases List.mem_cons.1 F with rfl | F
 ·exact h
 ·exact t x F ap
end
end
structure a_(S:Type) where
 enc:S→Value
 cells:S→List Value
structure X where
 a:Option Addr
 len:Nat
 cap:Nat
inductive dz where
 |nil
 |mk (fn:Fn) (first captured:Array Value)
def dz.enc:dz→Value
 |.nil=>.nilFunc
 |.mk f a o=>.func f a o
inductive dP where
 |nil
 |mk (t:TypeId) (v:Value)
def dP.enc:dP→Value
 |.nil=>.nilIface
 |.mk t v=>.iface t v
theorem dz.one(x:dz):x.enc.oneCell'=true:=by cases x<;>rfl
theorem dz.flat(x:dz):x.enc.cells=#[x.enc]:=by cases x<;>rfl
theorem dP.one(x:dP):x.enc.oneCell'=true:=by cases x<;>rfl
theorem dP.flat(x:dP):x.enc.cells=#[x.enc]:=by cases x<;>rfl
@[reducible] def D(k:IntKind):a_ Int:=⟨fun n=>.int k n,fun n=>[.int k n]⟩
@[reducible] def bi:a_ Bool:=⟨fun b=>.bool b,fun b=>[.bool b]⟩
@[reducible] def g2:a_ Nat:=⟨fun b=>.float .f64 b,fun b=>[.float .f64 b]⟩
@[reducible] def dT:a_ (List UInt8):=⟨fun s=>.string ⟨s.toArray⟩,fun s=>[.string ⟨s.toArray⟩]⟩
@[reducible] def aM:a_ (Option Addr):=⟨fun a=>.pointer a,fun a=>[.pointer a]⟩
@[reducible] def O:a_ X:=⟨fun s=>.slice s.a s.len s.cap,fun s=>[.slice s.a s.len s.cap]⟩
@[reducible] def dK:a_ (Option Nat):=⟨fun r=>.map r,fun r=>[.map r]⟩
@[reducible] def qN:a_ dz:=⟨fun x=>x.enc,fun x=>[x.enc]⟩
@[reducible] def ij{S:Type}(o:S→List Value):a_ S:=⟨fun x=>.agg (o x).toArray,o⟩
@[reducible] def DO{S:Type}(T:a_ S)(n:Nat):a_ (Vector S n):=ij fun v=>v.toList.flatMap T.cells
@[reducible] def bJ{S ev:Type}(b0:a_ S)(ai:a_ ev):a_ (S×ev):=⟨fun x=>.tuple #[b0.enc x.1,ai.enc x.2],fun _=>[]⟩
@[reducible] def qO{S ev iq:Type}(b0:a_ S)(ai:a_ ev)(C:a_ iq):a_ (S×ev×iq):=⟨fun x=>.tuple #[b0.enc x.1,ai.enc x.2.1,C.enc x.2.2],fun _=>[]⟩
@[reducible] def cJ:a_ Unit:=⟨fun _=>.tuple #[],fun _=>[]⟩
def te:TypeDesc→Bool
 |.struct _ |.array _ _=>true
 |_=>false
structure cm(P:Program)(t:TypeId){S:Type}(T:a_ S)(n:Nat):Prop where
 size:∃ i,P.info? t=some i∧i.size=n
 len:∀ x,(T.cells x).length=n
 shape:(∃ d,P.underlying t=some d∧te d=true∧∀ x,T.enc x=.agg (T.cells x).toArray) ∨
  (∃ d,P.underlying t=some d∧te d=false∧n=1∧∀ x,T.cells x=[T.enc x])
 flat:∀ x,(T.enc x).cells=(T.cells x).toArray
 one:∀ x,∀ v∈T.cells x,v.oneCell'=true
def mb(w:World)(a:Addr)(a4:List Value):Prop:=∀ l v,a4[l]?=some v→w.cell? (a.add l)=some v
def td(w:World)(a:Addr)(n:Nat):Prop:=∀ l,l<n→(w.cell? (a.add l)).isSome=true∧w.frozen? (a.add l)=false
def mx:World→Addr→Nat→List Value→World
 |w,_,_,[]=>w
 |w,a,i,v::c=>mx (w.setCell (a.add i) v) a (i+1) c
theorem run_loadCellsFrom(P:Program)(w:World)(a:Addr):∀ (a4:List Value) (i:Nat) (acc:Array Value),
  (∀ l v,a4[l]?=some v→w.cell? (a.add (i+l))=some v)→(loadCellsFrom a i a4.length acc).run P w=.ok (acc++a4.toArray) w
 |[],i,acc,_=>by simp[loadCellsFrom]
 |v::a4,i,acc,h=>by
  have am:=h 0 v rfl;simp only[Nat.add_zero] at am;simp only[List.length_cons,loadCellsFrom,Sem.run_bind,run_load,am,Result.andThen_ok];rw[run_loadCellsFrom P w a a4 (i+1) (acc.push v)]
  ·simp
  ·intro l u hu;have:=h (l+1) u (by simpa using hu);rwa [show i+1+l=i+(l+1) from by omega]
theorem GS{P:Program}{t:TypeId}{d:TypeDesc}(h:P.underlying t=some d)(w:World) :
  (isAgg t).run P w=.ok (te d) w:=by
 simp only[isAgg,Sem.run_bind,run_underlying h,Result.andThen_ok];cases d<;>rfl
theorem run_sizeOf{P:Program}{t:TypeId}{i:TypeInfo}(h:P.info? t=some i)(w:World):(sizeOf t).run P w=.ok i.size w:=by
 simp[sizeOf,typeInfo,h]
theorem Yx{P:Program}{t:TypeId}{S:Type}{T:a_ S}{n:Nat}(ok:cm P t T n){w:World}{a:Addr}{x:S}(h:mb w a (T.cells x)) :
  (loadVar t a).run P w=.ok (T.enc x) w:=by
 obtain⟨i,aq,aO⟩:=ok.size;have aj:=ok.len x;rcases ok.shape with ⟨d,aC,aF,he⟩ | ⟨d,aC,aF,B,he⟩
 ·simp only[loadVar,Sem.run_bind,GS aC,aF,Result.andThen_ok,if_true,run_sizeOf aq,loadCells];rw[show i.size=(T.cells x).length from by omega,run_loadCellsFrom P w a (T.cells x) 0 #[] (by intro l v ax; rw[Nat.zero_add]; exact h l v ax)];simp[he x]
 ·simp only[loadVar,Sem.run_bind,GS aC,aF,Result.andThen_ok,Bool.false_eq_true,if_false,run_load];have:=h 0 (T.enc x) (by simp[he x]);rw[show a.add 0=a from by simp[Addr.add]] at this;simp[this]
theorem AM{P:Program}(a:Addr):∀ (a4:List Value) (i:Nat) (w:World),
  (∀ l, l < a4.length → (w.cell? (a.add (i + l))).isSome = true ∧ w.frozen? (a.add (i + l)) = false) → (∀ v ∈ a4, v.oneCell' = true) →
   (storeCells a a4 i).run P w=.ok () (mx w a i a4)
 |[],i,w,_,_=>by simp[storeCells,mx]
 |v::a4,i,w,h,B=>by
  obtain⟨am,ap⟩:=h 0 (by simp);rw[Nat.add_zero] at am ap;obtain⟨u,hu⟩:=Option.isSome_iff_exists.1 am;simp only[storeCells,Sem.run_bind,run_store P w (a.add i) v .plain (B v (by simp)),hu,ap,Bool.false_eq_true,if_false,Result.andThen_ok,mx];refine AM a a4 (i+1) _ ?_ (fun v ax=>B v (by simp[ax]));intro l a7;obtain⟨gr,Tq⟩:=h (l+1) (by simpa using a7);rw[show i+(l+1)=i+1+l from by omega] at gr Tq;refine⟨?_,by simpa using Tq⟩;by_cases e:a.add i=a.add (i+1+l)
  ·rw[← e]; simp[World.cell?_setCell_same _ _ v hu]
  ·rw[World.cell?_setCell_other _ _ _ v e]; exact gr
theorem ax4{P:Program}{t:TypeId}{S:Type}{T:a_ S}{n:Nat}(ok:cm P t T n){w:World}{a:Addr}{x:S}(h:td w a n) :
  (storeVar t a (T.enc x)).run P w=.ok () (mx w a 0 (T.cells x)):=by
 obtain⟨i,aq,aO⟩:=ok.size;have aj:=ok.len x;simp only[storeVar,Sem.run_bind,run_sizeOf aq,Result.andThen_ok,ok.flat x];rw[if_neg (by simp[aj,aO])];refine AM a _ 0 w ?_ (ok.one x);intro l a7;rw[Nat.zero_add];exact h l (by simpa[aj] using a7)
theorem Yz{P:Program}{t:TypeId}{S:Type}{T:a_ S}{n:Nat}(ok:cm P t T n){w:World}(x:S) :
  (newVar t (T.enc x)).run P w=.ok ⟨w.heap.size,0,none⟩ (w.alloc (.cells (T.cells x).toArray t)):=by
 simp only[newVar,newRow,Sem.run_bind,run_newObj,Result.andThen_ok,Sem.run_pure,ok.flat x,World.alloc_eq]
def ex{S:Type}(C:S→Prop)(k:S→Prop):Prop:=∃ x,C x∧k x
def bk(b0 ai:Prop):Prop:=b0∧ai
def M{S:Type}(T:a_ S)(a:Addr)(w:World)(x:S):Prop:=mb w a (T.cells x)
def bI(p:Option Addr)(a:Addr):Prop:=p=some a
def br{S:Type}(T:a_ S)(a:Addr)(x:S)(w:World)(k:World→Prop):Prop:=td w a (T.cells x).length∧k (mx w a 0 (T.cells x))
def ch{S:Type}(t:TypeId)(T:a_ S)(x:S)(w:World)(k:Addr→World→Prop):Prop:=k ⟨w.heap.size,0,none⟩ (w.alloc (.cells (T.cells x).toArray t))
def pI{S:Type}(t:TypeId)(T:a_ S)(xs:List S)(w:World)(k:Addr→World→Prop):Prop:=k ⟨w.heap.size,0,none⟩ (w.alloc (.cells (xs.flatMap T.cells).toArray t))
def cz(s:X)(ao:Nat)(i:Int)(a:Addr):Prop:=∃ b,s.a=some b∧0≤i∧i<s.len∧a=b.add (i.toNat*ao)
def zw(b:Addr)(m ao:Nat)(i:Int)(a:Addr):Prop:=0≤i∧i<m∧a=b.add (i.toNat*ao)
def adi(s:List UInt8)(i:Int)(b:Int):Prop:=0≤i∧∃ o,s[i.toNat]?=some o∧b=o.toNat
def adj{S:Type}{n:Nat}(v:Vector S n)(i:Int)(x:S):Prop:=0≤i∧v.toList[i.toNat]?=some x
def Sub(s:X)(ao:Nat)(c h m:Int)(r:X):Prop:=
 0≤c∧c≤h∧h≤m∧m≤s.cap∧r=⟨if m.toNat=c.toNat then s.a else s.a.map (·.add (c.toNat*ao)),h.toNat-c.toNat,m.toNat-c.toNat⟩
def I5(s:List UInt8)(c h:Int)(r:List UInt8):Prop:=0≤c∧c≤h∧h≤s.length∧r=(s.take h.toNat).drop c.toNat
def Z4(a b r:List UInt8):Prop:=a.length+b.length≤9223372036854775807∧r=a++b
def xt{S:Type}(T:a_ S)(j:S→World→Prop):Ending→World→Prop
 |.returned v,w=>∃ x,v=T.enc x∧j x w
 |_,_=>False
def L{S:Type}(P:Program)(f:FuncId)(args:List Value)(T:a_ S)(w:World)(k:S→World→Prop):Prop:=Calls P f args.toArray w (xt T k)
def e7{bE:Type}(body:bE→World→(bE→World→Prop)→Prop)(s:bE)(w:World):Prop:=
 ∃ (aG:bE→World→Prop) (qR:bE→World→Nat),aG s w∧∀ s w,aG s w→body s w fun hJ I=>aG hJ I∧qR hJ I<qR s w
theorem dX{P:Program}{t:TypeId}{aL:Value}{n b:Nat}(h:(P.info? t).map (fun i=>(i.zero,i.size,i.bytes))=some (some aL,n,b)) :
  ∃ i,P.info? t=some i∧i.zero=some aL∧i.size=n∧i.bytes=b:=by
 cases aq:P.info? t with
 |none=>rw[aq] at h; cases h
 |some i=>
  rw[aq] at h;simp only[Option.map_some,Option.some.injEq,Prod.mk.injEq] at h;exact⟨i,rfl,h.1,h.2.1,h.2.2⟩
theorem Fp{S:Type}{o:S→List Value}{m:Nat}(h:∀ x,(o x).length=m)(xs:List S):(xs.flatMap o).length=xs.length*m:=by
 induction xs with
 |nil=>simp
 |cons x xs b8=>simp[b8,h x,Nat.add_mul,Nat.add_comm]
section
variable {P:Program} {n:Nat} {f:Nat→Value} {w:World} {A:Oper} {x N aL:Operand}
theorem bZ{v:Value}(ab:A.op=.move x)(F:Y n f x=v):(execOp (Y n f) A).run P w=.ok (.value v) w:=by
 simp[execOp,ab,F]
theorem yI{v:Value}(ab:A.op=.assign x)(F:Y n f x=v):(execOp (Y n f) A).run P w=.ok (.value v) w:=by
 simp[execOp,ab,F]
theorem ee{v:Value}{b:Bool}(ab:A.op=.pick x N aL)(F:Y n f x=.bool b)(aA:b=true)(aJ:Y n f N=v):(execOp (Y n f) A).run P w=.ok (.value v) w:=by
 subst aA; simp[execOp,ab,F,aJ,asBool]
theorem dY{v:Value}{b:Bool}(ab:A.op=.pick x N aL)(F:Y n f x=.bool b)(aA:b=false)(cb:Y n f aL=v):(execOp (Y n f) A).run P w=.ok (.value v) w:=by
 subst aA; simp[execOp,ab,F,cb,asBool]
theorem XT{a o:Bool}(ab:A.op=.pick x N aL)(F:Y n f x=.bool a)(aJ:Y n f N=.bool true)(cb:Y n f aL=.bool o) :
  (execOp (Y n f) A).run P w=.ok (.value (.bool (a||o))) w:=by
 cases a<;>simp[execOp,ab,F,aJ,cb,asBool]
theorem XS{a b:Bool}(ab:A.op=.pick x N aL)(F:Y n f x=.bool a)(aJ:Y n f N=.bool b)(cb:Y n f aL=.bool false) :
  (execOp (Y n f) A).run P w=.ok (.value (.bool (a&&b))) w:=by
 cases a<;>simp[execOp,ab,F,aJ,cb,asBool]
theorem AF{S:Type}{T:a_ S}{m:Nat}{t:TypeId}{u:S}{a:Addr}{I:World}(ab:A.op=.alloc t)(ok:cm P t T m){U:Nat}(st:∃ i,P.info? t=some i∧i.zero=some (T.enc u)∧i.size=m∧i.bytes=U)
  (ag:a=⟨w.heap.size,0,none⟩) (hw:I=w.alloc (.cells (T.cells u).toArray t)):(execOp (Y n f) A).run P w=.ok (.value (.pointer (some a))) I:=by
 obtain⟨i,aq,cb,_⟩:=st;subst ag; subst hw; simp[execOp,ab,Instr.alloc,zeroValue,typeInfo,aq,cb,Yz ok]
theorem AG{S:Type}{T:a_ S}{m:Nat}{t:TypeId}{u:S}{a:Addr}{I:World}(ab:A.op=.box t x)(ok:cm P t T m)(F:Y n f x=T.enc u)
  (ag:a=⟨w.heap.size,0,none⟩) (hw:I=w.alloc (.cells (T.cells u).toArray t)):(execOp (Y n f) A).run P w=.ok (.value (.pointer (some a))) I:=by
 subst ag; subst hw; simp[execOp,ab,F,Instr.box,Yz ok]
theorem jh{S:Type}{T:a_ S}{m:Nat}{t:TypeId}{u:S}{a:Addr}(ab:A.op=.load t x)(ok:cm P t T m)(F:Y n f x=.pointer (some a))(Z:mb w a (T.cells u)) :
  (execOp (Y n f) A).run P w=.ok (.value (T.enc u)) w:=by
 simp[execOp,ab,F,Instr.loadAt,Instr.sureAddr,Yx ok Z]
theorem qH{S:Type}{T:a_ S}{m:Nat}{t:TypeId}{u:S}{a:Addr}{I:World}(ab:A.op=.store t x N)(ok:cm P t T m)(F:Y n f x=.pointer (some a))(aJ:Y n f N=T.enc u)
  (Z:td w a (T.cells u).length) (hw:I=mx w a 0 (T.cells u)):(execOp (Y n f) A).run P w=.ok .skip I:=by
 subst hw; simp[execOp,ab,F,aJ,Instr.storeAt,Instr.sureAddr,ax4 ok (by rw[ok.len] at Z; exact Z)]
theorem og{a:Addr}(ab:A.op=.nilCheck x)(F:Y n f x=.pointer (some a)):(execOp (Y n f) A).run P w=.ok (.value (.pointer (some a))) w:=by
 simp[execOp,ab,F]
theorem sO{k:IntKind}{a b:Int}{t u:TypeId}(ab:A.op=.binOp .add t x N u)(F:Y n f x=.int k a)(aJ:Y n f N=.int k b) :
  (execOp (Y n f) A).run P w=.ok (.value (.int k (k.wrap (a+b)))) w:=by simp[execOp,ab,F,aJ,eqGuard_add,binOp_add,Op.intArith]
theorem AH{k:IntKind}{a b:Int}{t u:TypeId}(ab:A.op=.binOp .sub t x N u)(F:Y n f x=.int k a)(aJ:Y n f N=.int k b) :
  (execOp (Y n f) A).run P w=.ok (.value (.int k (k.wrap (a-b)))) w:=by simp[execOp,ab,F,aJ,eqGuard_sub,binOp_sub,Op.intArith]
theorem Nh{k:IntKind}{a b:Int}{t u:TypeId}(ab:A.op=.binOp .mul t x N u)(F:Y n f x=.int k a)(aJ:Y n f N=.int k b) :
  (execOp (Y n f) A).run P w=.ok (.value (.int k (k.wrap (a*b)))) w:=by simp[execOp,ab,F,aJ,eqGuard_mul,binOp_mul,Op.intArith]
theorem GB{k:IntKind}{a b:Int}{t u:TypeId}(ab:A.op=.binOp .and t x N u)(F:Y n f x=.int k a)(aJ:Y n f N=.int k b) :
  (execOp (Y n f) A).run P w=.ok (.value (.int k (bits .and k a b))) w:=by simp[execOp,ab,F,aJ,eqGuard_and,binOp_and,intBits_and]
theorem GG{k:IntKind}{a b:Int}{t u:TypeId}(ab:A.op=.binOp .or t x N u)(F:Y n f x=.int k a)(aJ:Y n f N=.int k b) :
  (execOp (Y n f) A).run P w=.ok (.value (.int k (bits .or k a b))) w:=by simp[execOp,ab,F,aJ,eqGuard_or,binOp_or,intBits_or]
theorem Nq{k:IntKind}{a b:Int}{t u:TypeId}(ab:A.op=.binOp .xor t x N u)(F:Y n f x=.int k a)(aJ:Y n f N=.int k b) :
  (execOp (Y n f) A).run P w=.ok (.value (.int k (bits .xor k a b))) w:=by simp[execOp,ab,F,aJ,eqGuard_xor,binOp_xor,intBits_xor]
theorem W2{k:IntKind}{a b:Int}{t u:TypeId}(ab:A.op=.binOp .andNot t x N u)(F:Y n f x=.int k a)(aJ:Y n f N=.int k b) :
  (execOp (Y n f) A).run P w=.ok (.value (.int k (bits .andNot k a b))) w:=by simp[execOp,ab,F,aJ,eqGuard_andNot,binOp_andNot,intBits_andNot]
def Eu(b my r:Int):Prop:=b≠0∧r=my
def hB(b my r:Int):Prop:=0≤b∧r=my
theorem Nl{k:IntKind}{a b r:Int}{t u:TypeId}(ab:A.op=.binOp .quo t x N u)(F:Y n f x=.int k a)(aJ:Y n f N=.int k b)(h:Eu b (k.wrap (a.tdiv b)) r) :
  (execOp (Y n f) A).run P w=.ok (.value (.int k r)) w:=by
 obtain⟨h,rfl⟩:=h;simp[execOp,ab,F,aJ,eqGuard_quo,binOp_quo,Op.intDiv,h]
theorem Nm{k:IntKind}{a b r:Int}{t u:TypeId}(ab:A.op=.binOp .rem t x N u)(F:Y n f x=.int k a)(aJ:Y n f N=.int k b)(h:Eu b (a.tmod b) r) :
  (execOp (Y n f) A).run P w=.ok (.value (.int k r)) w:=by
 obtain⟨h,rfl⟩:=h;simp[execOp,ab,F,aJ,eqGuard_rem,binOp_rem,Op.intDiv,h]
theorem XV{k:IntKind}{a b:Int}{t u:TypeId}(ab:A.op=.binOp .quo t x N u)(F:Y n f x=.int k a)(aJ:Y n f N=.int k b)(h:b≠0) :
  (execOp (Y n f) A).run P w=.ok (.value (.int k (k.wrap (a.tdiv b)))) w:=Nl ab F aJ ⟨h,rfl⟩
theorem XW{k:IntKind}{a b:Int}{t u:TypeId}(ab:A.op=.binOp .rem t x N u)(F:Y n f x=.int k a)(aJ:Y n f N=.int k b)(h:b≠0) :
  (execOp (Y n f) A).run P w=.ok (.value (.int k (a.tmod b))) w:=Nm ab F aJ ⟨h,rfl⟩
theorem GH{k OG:IntKind}{a b r:Int}{t u:TypeId}(ab:A.op=.binOp .shl t x N u)(F:Y n f x=.int k a)(aJ:Y n f N=.int OG b)(h:hB b (k.wrap (a*2^(min b.toNat k.bits))) r) :
  (execOp (Y n f) A).run P w=.ok (.value (.int k r)) w:=by
 obtain⟨h,rfl⟩:=h;simp[execOp,ab,F,aJ,eqGuard_shl,binOp_shl,Op.shift,Int.not_lt.2 h]
theorem No{k OG:IntKind}{a b r:Int}{t u:TypeId}(ab:A.op=.binOp .shr t x N u)(F:Y n f x=.int k a)(aJ:Y n f N=.int OG b)(h:hB b (a.fdiv (2^(min b.toNat k.bits))) r) :
  (execOp (Y n f) A).run P w=.ok (.value (.int k r)) w:=by
 obtain⟨h,rfl⟩:=h;simp[execOp,ab,F,aJ,eqGuard_shr,binOp_shr,Op.shift,Int.not_lt.2 h]
theorem ey{k:IntKind}{a b:Int}{t u:TypeId}(ab:A.op=.binOp .eql t x N u)(F:Y n f x=.int k a)(aJ:Y n f N=.int k b) :
  (execOp (Y n f) A).run P w=.ok (.value (.bool (a==b))) w:=by simp[execOp,ab,F,aJ,eqGuard_at_int,binOp_eql]
theorem hW{k:IntKind}{a b:Int}{t u:TypeId}(ab:A.op=.binOp .neq t x N u)(F:Y n f x=.int k a)(aJ:Y n f N=.int k b) :
  (execOp (Y n f) A).run P w=.ok (.value (.bool (a != b))) w:=by simp[execOp,ab,F,aJ,eqGuard_at_int,binOp_neq]
theorem oe{k:IntKind}{a b:Int}{t u:TypeId}(ab:A.op=.binOp .lss t x N u)(F:Y n f x=.int k a)(aJ:Y n f N=.int k b) :
  (execOp (Y n f) A).run P w=.ok (.value (.bool (decide (a<b)))) w:=by simp[execOp,ab,F,aJ,eqGuard_lss,binOp_lss]
theorem Nb{k:IntKind}{a b:Int}{t u:TypeId}(ab:A.op=.binOp .leq t x N u)(F:Y n f x=.int k a)(aJ:Y n f N=.int k b) :
  (execOp (Y n f) A).run P w=.ok (.value (.bool (decide (a≤b)))) w:=by simp[execOp,ab,F,aJ,eqGuard_leq,binOp_leq]
theorem vu{k:IntKind}{a b:Int}{t u:TypeId}(ab:A.op=.binOp .gtr t x N u)(F:Y n f x=.int k a)(aJ:Y n f N=.int k b) :
  (execOp (Y n f) A).run P w=.ok (.value (.bool (decide (a>b)))) w:=by simp[execOp,ab,F,aJ,eqGuard_gtr,binOp_gtr]
theorem Di{k:IntKind}{a b:Int}{t u:TypeId}(ab:A.op=.binOp .geq t x N u)(F:Y n f x=.int k a)(aJ:Y n f N=.int k b) :
  (execOp (Y n f) A).run P w=.ok (.value (.bool (decide (a≥b)))) w:=by simp[execOp,ab,F,aJ,eqGuard_geq,binOp_geq]
theorem Xy{a b:Bool}{t u:TypeId}(ab:A.op=.binOp .eql t x N u)(ak:P.underlying t=some .bool)(F:Y n f x=.bool a)(aJ:Y n f N=.bool b) :
  (execOp (Y n f) A).run P w=.ok (.value (.bool (a==b))) w:=by simp[execOp,ab,F,aJ,eqGuard_at_bool,run_eql_bool _ _ _ _ ak]
theorem XN{a b:Bool}{t u:TypeId}(ab:A.op=.binOp .neq t x N u)(ak:P.underlying t=some .bool)(F:Y n f x=.bool a)(aJ:Y n f N=.bool b) :
  (execOp (Y n f) A).run P w=.ok (.value (.bool (!(a==b)))) w:=by simp[execOp,ab,F,aJ,eqGuard_at_bool,run_neq_bool _ _ _ _ ak]
theorem toList_toArray(s:List UInt8):(⟨s.toArray⟩:ByteArray).toList=s:=by
 rw[ByteArray.toList_eq]
theorem XB{a b:List UInt8}{t u:TypeId}(ab:A.op=.binOp .eql t x N u)(F:Y n f x=.string ⟨a.toArray⟩)(aJ:Y n f N=.string ⟨b.toArray⟩) :
  (execOp (Y n f) A).run P w=.ok (.value (.bool (a==b))) w:=by simp[execOp,ab,F,aJ,eqGuard_at_string,binOp,Op.stringOp,toList_toArray]
theorem Nj{a b:List UInt8}{t u:TypeId}(ab:A.op=.binOp .neq t x N u)(F:Y n f x=.string ⟨a.toArray⟩)(aJ:Y n f N=.string ⟨b.toArray⟩) :
  (execOp (Y n f) A).run P w=.ok (.value (.bool (!(a==b)))) w:=by simp[execOp,ab,F,aJ,eqGuard_at_string,binOp,Op.stringOp,toList_toArray]
theorem Xv{a b r:List UInt8}{t u:TypeId}(ab:A.op=.binOp .add t x N u)(F:Y n f x=.string ⟨a.toArray⟩)(aJ:Y n f N=.string ⟨b.toArray⟩)(aF:Z4 a b r) :
  (execOp (Y n f) A).run P w=.ok (.value (.string ⟨r.toArray⟩)) w:=by
 obtain⟨aF,rfl⟩:=aF;have lq:((⟨a.toArray⟩:ByteArray).size+(⟨b.toArray⟩:ByteArray).size:Nat)=a.length+b.length:=rfl;have J4:(⟨a.toArray⟩:ByteArray)++⟨b.toArray⟩=⟨(a++b).toArray⟩:=by
  apply ByteArray.ext; simp
 simp only[execOp,ab,F,aJ,eqGuard_add,binOp,Op.stringOp,J4];rw[if_neg (by rw[lq,IntKind.max_i64]; omega)];rfl
theorem nh{a:Option Addr}{t u e:TypeId}(ab:A.op=.binOp .eql t x N u)(ak:P.underlying t=some (.pointer e))(F:Y n f x=.pointer a)(aJ:Y n f N=.pointer none) :
  (execOp (Y n f) A).run P w=.ok (.value (.bool a.isNone)) w:=by
 have aH:P.underlying t=some (.pointer (P.pointee t)):=by simp[Program.pointee,ak]
 simp only[execOp,ab,F,aJ,eqGuard_at_pointer,bind_pure_comp,Sem.run_map,pure_bind,run_eql_pointer_nil w t a aH,Result.andThen_ok]
theorem Dk{a:Option Addr}{t u e:TypeId}(ab:A.op=.binOp .neq t x N u)(ak:P.underlying t=some (.pointer e))(F:Y n f x=.pointer a)(aJ:Y n f N=.pointer none) :
  (execOp (Y n f) A).run P w=.ok (.value (.bool (!a.isNone))) w:=by
 have aH:P.underlying t=some (.pointer (P.pointee t)):=by simp[Program.pointee,ak]
 simp only[execOp,ab,F,aJ,eqGuard_at_pointer,bind_pure_comp,Sem.run_map,pure_bind,run_neq_pointer_nil w t a aH,Result.andThen_ok]
theorem XA{s:X}{t u e:TypeId}(ab:A.op=.binOp .eql t x N u)(ak:P.underlying t=some (.slice e))(F:Y n f x=O.enc s)(aJ:Y n f N=.slice none 0 0) :
  (execOp (Y n f) A).run P w=.ok (.value (.bool s.a.isNone)) w:=by
 simp only[execOp,ab,F,aJ,eqGuard_at_slice,bind_pure_comp,Sem.run_map,pure_bind,Lib.run_eql_slice_nil w t e s.a s.len s.cap 0 0 ak,Result.andThen_ok]
theorem XO{s:X}{t u e:TypeId}(ab:A.op=.binOp .neq t x N u)(ak:P.underlying t=some (.slice e))(F:Y n f x=O.enc s)(aJ:Y n f N=.slice none 0 0) :
  (execOp (Y n f) A).run P w=.ok (.value (.bool (!s.a.isNone))) w:=by
 simp only[execOp,ab,F,aJ,eqGuard_at_slice,bind_pure_comp,Sem.run_map,pure_bind,run_neq_slice_nil w t e s.a s.len s.cap ak,Result.andThen_ok]
theorem lx{b:Bool}{t:TypeId}(ab:A.op=.unOp .not t x)(F:Y n f x=.bool b) :
  (execOp (Y n f) A).run P w=.ok (.value (.bool (!b))) w:=by simp[execOp,ab,F,Op.unary]
theorem Nk{k:IntKind}{a:Int}{t:TypeId}(ab:A.op=.unOp .neg t x)(F:Y n f x=.int k a) :
  (execOp (Y n f) A).run P w=.ok (.value (.int k (k.wrap (0-a)))) w:=by simp[execOp,ab,F,Op.unary,Op.intArith]
theorem rs{k l:IntKind}{a:Int}{s t:TypeId}(ab:A.op=.convert s t x)(aF:P.underlying s=some (.int l))(ak:P.underlying t=some (.int k))(F:Y n f x=.int l a) :
  (execOp (Y n f) A).run P w=.ok (.value (.int k (k.wrap a))) w:=by
 simp[execOp,ab,F,convert,run_underlying aF,run_underlying ak,Conv.intToInt]
theorem kh{t:TypeId}{fw:Array Field}{fd:Field}{a:Addr}{k off m:Nat}{S:Type}{T:a_ S}(ab:A.op=.fieldAddr t x k)(ak:P.underlying t=some (.struct fw))(ap:fw[k]?=some fd)
  (wC:fd.offset=off) (ok:cm P fd.type T m) (hm:m≠0) (F:Y n f x=.pointer (some a)) :
  (execOp (Y n f) A).run P w=.ok (.value (.pointer (some (a.add off)))) w:=by
 obtain⟨i,aq,aF⟩:=ok.size;subst wC;have CC:i.size≠0:=by omega
 simp[execOp,ab,F,Instr.fieldAt,run_underlying ak,ap,Instr.sureAddr,fieldPlace,run_sizeOf aq,CC]
theorem jv{t e:TypeId}{a:Addr}{s:X}{k:IntKind}{i:Int}{m:Nat}{S:Type}{T:a_ S}(ab:A.op=.indexAddr t x N)(ak:P.underlying t=some (.slice e))(ok:cm P e T m)
  (F:Y n f x=O.enc s) (aJ:Y n f N=.int k i) (ag:cz s m i a) :
  (execOp (Y n f) A).run P w=.ok (.value (.pointer (some a))) w:=by
 obtain⟨ig,aq,aF⟩:=ok.size;obtain⟨b,aA,am,B,rfl⟩:=ag;simp[execOp,ab,F,aJ,Instr.indexAt,asIntOf,run_underlying ak,aA,am,B,run_sizeOf aq,aF]
theorem XJ{t e:TypeId}{a b:Addr}{c m:Nat}{k:IntKind}{i:Int}{S:Type}{T:a_ S}(ab:A.op=.indexAddr t x N)(ak:P.underlying t=some (.array c e))(ok:cm P e T m)
  (F:Y n f x=.pointer (some b)) (aJ:Y n f N=.int k i) (ag:zw b c m i a) :
  (execOp (Y n f) A).run P w=.ok (.value (.pointer (some a))) w:=by
 obtain⟨ig,aq,aF⟩:=ok.size;obtain⟨am,B,rfl⟩:=ag;simp[execOp,ab,F,aJ,Instr.indexAt,Instr.sureAddr,asIntOf,run_underlying ak,am,B,run_sizeOf aq,aF]
theorem XK{t:TypeId}{s:List UInt8}{k:IntKind}{i b:Int}(ab:A.op=.index t x N)(ak:P.underlying t=some .string)(F:Y n f x=.string ⟨s.toArray⟩)(aJ:Y n f N=.int k i)(ag:adi s i b) :
  (execOp (Y n f) A).run P w=.ok (.value (.int .u8 b)) w:=by
 obtain⟨am,o,W,rfl⟩:=ag;have ae:(⟨s.toArray⟩:ByteArray)[i.toNat]?=some o:=by
  have aj:i.toNat<s.length:=(List.getElem?_eq_some_iff.1 W).1;have:i.toNat<(⟨s.toArray⟩:ByteArray).size:=aj;rw[getElem?_pos (⟨s.toArray⟩:ByteArray) i.toNat this];have:=(List.getElem?_eq_some_iff.1 W).2;simpa[ByteArray.getElem_eq_getElem_data] using this
 simp[execOp,ab,F,aJ,Instr.index,asIntOf,run_underlying ak,am,ae]
theorem h6{s:X}{t e:TypeId}(ab:A.op=.call { callee:=.builtin .len,args:=#[x],argTypes:=#[t] })(ak:P.underlying t=some (.slice e))(F:Y n f x=O.enc s) :
  (execOp (Y n f) A).run P w=.ok (.value (.int .i64 s.len)) w:=by
 simp[execOp,ab,F,resolve,invoke,builtin,Builtin.len_,run_underlying ak,goInt]
theorem Xu{s:X}{t e:TypeId}(ab:A.op=.call { callee:=.builtin .cap,args:=#[x],argTypes:=#[t] })(ak:P.underlying t=some (.slice e))(F:Y n f x=O.enc s) :
  (execOp (Y n f) A).run P w=.ok (.value (.int .i64 s.cap)) w:=by
 simp[execOp,ab,F,resolve,invoke,builtin,Builtin.cap_,run_underlying ak,goInt]
theorem Na{s:List UInt8}{t:TypeId}(ab:A.op=.call { callee:=.builtin .len,args:=#[x],argTypes:=#[t] })(ak:P.underlying t=some .string)(F:Y n f x=.string ⟨s.toArray⟩) :
  (execOp (Y n f) A).run P w=.ok (.value (.int .i64 s.length)) w:=by
 have aF:(⟨s.toArray⟩:ByteArray).size=s.length:=rfl;simp only[execOp,ab,F,resolve,invoke,builtin,Builtin.len_,goInt,aF];simp[run_underlying ak,F,aF]
theorem pM{aK:Array Value}{v:Value}{i:Nat}(ab:A.op=.extract x i)(F:Y n f x=.tuple aK)(ax:aK[i]?=some v):(execOp (Y n f) A).run P w=.ok (.value v) w:=by
 simp[execOp,ab,F,Instr.extract,ax]
theorem Nd{fn:Fn}{a o:List Operand}{N0 N2:List Value}(ab:A.op=.makeFunc fn a.toArray o.toArray)(ag:a.map (Y n f)=N0)(W:o.map (Y n f)=N2) :
  (execOp (Y n f) A).run P w=.ok (.value (.func fn N0.toArray N2.toArray)) w:=by
 subst ag; subst W; simp[execOp,ab,Instr.makeFunc]
def dG(P:Program)(k:FuncId):Prop:=∃ fn,P.funcs[k]?=some fn∧fn.body.isSome=true∧(fn.name=="runtime.NumGoroutine")=false
theorem c3{k:FuncId}{fW:List Operand}{lB:Array TypeId}{c:List Value}(ab:A.op=.call { callee:=.value (.func k),args:=fW.toArray,argTypes:=lB })(he:dG P k)(ag:fW.map (Y n f)=c) :
  (execOp (Y n f) A).run P w=.ok (.enter k c.toArray) w:=by
 obtain⟨fn,ap,aA,aO⟩:=he;have nz:fn.body≠none:=by intro h; simp[h] at aA
 subst ag;simp[execOp,ab,resolve,Y,Deferred.ofValue,invoke,callFunc,ap,nz,beq_eq_false_iff_ne.1 aO]
theorem awM{k:FuncId}{fW:List Operand}{lB:Array TypeId}{c:List Value}{o:List Value}{gJ:dz}(ab:A.op=.call { callee:=.value x,args:=fW.toArray,argTypes:=lB })(F:Y n f x=gJ.enc)(u3:gJ=.mk (.func k) #[] o.toArray)
  (he:dG P k) (ag:fW.map (Y n f)=c):(execOp (Y n f) A).run P w=.ok (.enter k (c++o).toArray) w:=by
 obtain⟨fn,ap,aA,aO⟩:=he;have nz:fn.body≠none:=by intro h; simp[h] at aA
 subst u3; subst ag;simp[execOp,ab,resolve,F,dz.enc,Deferred.ofValue,invoke,callFunc,ap,nz,beq_eq_false_iff_ne.1 aO]
end
theorem rr{S:Type}{t:TypeId}{T:a_ S}{x:S}{w:World}{k:Addr→World→Prop}(h:ch t T x w k):∃ a I,a=⟨w.heap.size,0,none⟩∧I=w.alloc (.cells (T.cells x).toArray t)∧k a I:=⟨_,_,rfl,rfl,h⟩
theorem qM{S:Type}{T:a_ S}{a:Addr}{x:S}{w:World}{k:World→Prop}(h:br T a x w k):∃ I,I=mx w a 0 (T.cells x)∧td w a (T.cells x).length∧k I:=⟨_,rfl,h.1,h.2⟩
section
variable {P:Program} {Q:Exit→Act→World→Prop} {n:Nat} {f:Nat→Value} {ay:List Deferred} {w I:World} {ops:Array Oper} {i:Nat} {rest:List Nat} {A:Oper} {x N:Operand}
inductive BB(P:Program)(n:Nat)(f:Nat→Value)(w:World):ResultVar→Value→Prop
 |tmp {t:Nat} {v:Value} (h:Y n f (.tmp t)=v):BB P n f w (.tmp t) v
 |cell {S:Type} {T:a_ S} {m:Nat} {t:Nat} {gC:TypeId} {a:Addr} {u:S} (ok:cm P gC T m) (h:Y n f (.tmp t)=.pointer (some a)) (Z:mb w a (T.cells u)):BB P n f w (.cell t gC) (T.enc u)
inductive p4(P:Program)(n:Nat)(f:Nat→Value)(w:World):List ResultVar→List Value→Prop
 |nil:p4 P n f w [] []
 |cons {r:ResultVar} {v:Value} {af:List ResultVar} {aK:List Value} (h:BB P n f w r v) (t:p4 P n f w af aK):p4 P n f w (r::af) (v::aK)
theorem R0(t:Nat):(act n f ay).tmps.getD t undef=Y n f (.tmp t):=by
 have:=congrFun (gY n f ay) (.tmp t);exact this
def rv(tmps:Array Value):ResultVar→Sem Value
 |.tmp t=>pure (tmps.getD t undef)
 |.cell a t=>do loadVar t (← asAddr (tmps.getD a undef))
theorem ax3{r:ResultVar}{v:Value}(h:BB P n f w r v):(rv (act n f ay).tmps r).run P w=.ok v w:=by
 cases h with
 |tmp h=>simp only[rv,R0,h]; exact Sem.run_pure ..
 |cell ok h Z=>simp only[rv,R0,h,asAddr,pure_bind,Yx ok Z]
theorem Yy(g:ResultVar→Sem Value):∀ (af:List ResultVar) (aK:List Value),(∀ (l:Nat) (r:ResultVar) (v:Value),af[l]?=some r→aK[l]?=some v→(g r).run P w=.ok v w)→af.length=aK.length →
  (af.mapM g).run P w=.ok aK w
 |[],[],_,_=>by simp
 |r::af,v::aK,h,aj=>by
  have am:=h 0 r v rfl rfl;have ak:=Yy g af aK (fun l r v Z ax=>h (l+1) r v (by simpa using Z) (by simpa using ax)) (by simpa using aj);simp only[List.mapM_cons,Sem.run_bind,am,Result.andThen_ok,ak,Sem.run_pure]
 |[],_::_,_,aj=>by simp at aj
 |_::_,[],_,aj=>by simp at aj
theorem p4.length{af:List ResultVar}{aK:List Value}(h:p4 P n f w af aK):af.length=aK.length:=by
 induction h with
 |nil=>rfl
 |cons _ _ b8=>simp[b8]
theorem p4.get{af:List ResultVar}{aK:List Value}(h:p4 P n f w af aK):∀ (l:Nat) (r:ResultVar) (v:Value),af[l]?=some r→aK[l]?=some v→BB P n f w r v:=by
 induction h with
 |nil=>intro l r v Z; simp at Z
 |cons h t b8=>
  intro l r v Z ax;cases l with
  |zero=>simp at Z ax; subst Z; subst ax; exact h
  |succ l=>exact b8 l r v (by simpa using Z) (by simpa using ax)
def y4:List Value→Value
 |[v]=>v
 |aK=>.tuple aK.toArray
theorem GU{fn:Func}{af:List ResultVar}{aK:List Value}(Z:fn.results=af.toArray)(h:p4 P n f w af aK) :
  (results fn (act n f ay).tmps).run P w=.ok (y4 aK) w:=by
 have key:=Yy (P:=P) (w:=w) (rv (act n f ay).tmps) af aK (fun l r v Z ax=>ax3 (h.get l r v Z ax)) h.length;have e:results fn (act n f ay).tmps=(do let w8 ← fn.results.mapM (rv (act n f ay).tmps); pure (if h:w8.size=1 then w8[0] else .tuple w8)):=rfl;rw[e,Z,Array.mapM_eq_mapM_toList];simp only[bind_map_left,Sem.run_bind,key,Result.andThen_ok,Sem.run_pure];congr 1;cases aK with
 |nil=>rfl
 |cons v aK=>cases aK with
  |nil=>rfl
  |cons u aK=>simp[y4]
theorem ph{fn:Func}{af:List ResultVar}{aK:List Value}{j:Ending→World→Prop}(Z:fn.results=af.toArray)(h:p4 P n f w af aK)(kH:j (.returned (y4 aK)) w) :
  bodyPost P fn j .ret (act n f []) w:=⟨rfl,_,GU Z h,kH⟩
theorem afQ{fn:Func}{af:List ResultVar}{aK:List Value}{j:Ending→World→Prop}(Z:fn.results=af.toArray)(h:p4 P n f w af aK)(kH:j (.returned (y4 aK)) w) :
  bodyPost P fn j .normal (act n f []) w:=⟨rfl,_,GU Z h,kH⟩
theorem wZ{o d:Code}{bE:Type}{eV:bE→World→Prop}{bT:(Nat→Value)→bE→(Nat→Value)}
  (a7:∀ s g w,eV s w→d.wp P Q (act n (bT g s) ay) w) (F:o.wp P (Exit.then (fun a w=>∃ s g,a=act n (bT g s) ay∧eV s w) Q) (act n f ay) w):(Code.seq o d).wp P Q (act n f ay) w:=
 wp_seq_k fun aa b7=>wp_mono F fun e a w h=>by
  cases e<;>first
   |exact h
   |(obtain⟨s,g,rfl,tj⟩:=h; exact b7 _ _ (a7 s g w tj))
theorem Hv{o:Operand}{p q:Code}{b:Bool}{K bj:Prop}(W:Y n f o=.bool b)(h:if b=true then K else bj)(F:b=true→K→p.wp P Q (act n f ay) w)(aJ:b=false→bj→q.wp P Q (act n f ay) w) :
  (Code.cond o p q).wp P Q (act n f ay) w:=by
 refine wp_cond_split (t:=b) (by rw[gY]; exact W) (fun aA=>F aA (by simpa[aA] using h)) (fun aA=>aJ aA (by simpa[aA] using h))
theorem azW{o:Operand}{p q:Code}(W:Y n f o=.bool false)(aJ:q.wp P Q (act n f ay) w):(Code.cond o p q).wp P Q (act n f ay) w:=
 Hv (b:=false) (K:=False) (bj:=True) W (by simp) (fun h=>by cases h) fun _ _=>aJ
theorem azX{o:Operand}{p q:Code}(W:Y n f o=.bool true)(F:p.wp P Q (act n f ay) w):(Code.cond o p q).wp P Q (act n f ay) w:=
 Hv (b:=true) (K:=True) (bj:=False) W (by simp) (fun _ _=>F) fun h=>by cases h
theorem eO{b:Bool}{K bj a2:Prop}(h:if b=true then K else bj)(F:b=true→K→a2)(aJ:b=false→bj→a2):a2:=by
 cases b
 ·exact aJ rfl (by simpa using h)
 ·exact F rfl (by simpa using h)
theorem least{p:Nat→Prop}(h:∃ n,p n):∃ m,p m∧∀ k,p k→m≤k:=by
 obtain⟨n,aO⟩:=h;induction n using Nat.strongRecOn with
 |_ n b8=>
  by_cases aF:∃ k,k<n∧p k
  ·obtain⟨k,al,aH⟩:=aF; exact b8 k al aH
  ·exact⟨n,aO,fun k al=>Nat.le_of_not_lt fun aj=>aF ⟨k,aj,al⟩⟩
theorem auf{o:Code}{bE:Type}{bT:(Nat→Value)→bE→(Nat→Value)}{body:bE→World→(bE→World→Prop)→Prop}{eJ:bE}{gr:Nat→Value}(h:e7 body eJ w)
    (aA:∀ (s:bE) (g:Nat→Value) (w:World) (aa:bE→World→Prop),body s w aa→o.wp P (Exit.then (fun bS I=>∃ hJ lm,bS=act n (bT lm hJ) ay∧aa hJ I) Q) (act n (bT g s) ay) w) :
    (Code.loop o).wp P Q (act n (bT gr eJ) ay) w:=by
  obtain⟨aG,qR,am,Z⟩:=h
  classical
  let eV:Nat→Act→World→Prop:=fun m a w=>∃ s g,a=act n (bT g s) ay∧aG s w∧qR s w=m
  let Es:Act→World→Nat:=fun a w=>if h:∃ m,eV m a w then (least h).choose else 0
  refine wp_loop (fun a w=>∃ m,eV m a w) Es ⟨_,eJ,gr,rfl,am,rfl⟩ ?_;intro a w b6;have alf:Es a w=(least b6).choose:=by simp only[Es,dif_pos b6]
  obtain⟨⟨s,g,rfl,aF,hm⟩,x7⟩:=(least b6).choose_spec;have:=aA s g w _ (Z s w aF);refine wp_mono this fun e bS I he=>?_;cases e<;>first
    |exact he
    | (obtain ⟨hJ, lm, rfl, z2, cA⟩ := he
       have hex:∃ m,eV m (act n (bT lm hJ) ay) I:=⟨_,hJ,lm,rfl,z2,rfl⟩
       refine⟨hex,?_⟩;have B:Es (act n (bT lm hJ) ay) I=(least hex).choose:=by simp only[Es,dif_pos hex]
       have J:(least hex).choose≤qR hJ I:=(least hex).choose_spec.2 _ ⟨hJ,lm,rfl,z2,rfl⟩;rw[alf,B,← hm]
       omega)
theorem dj{S:Type}{T:a_ S}{k:FuncId}{args:List Value}{d:Option Nat}{next:Act→World→Prop}{aa:S→World→Prop}(aC:A.dst=d)
  (ax:(execOp (Y n f) A).run P w=.ok (.enter k args.toArray) w) (h:L P k args T w aa) (al:∀ r I,aa r I→next (act n (fL f d (T.enc r)) ay) I):kW P A (act n f ay) w next Q:=by
 rw[lG];subst aC;refine Sn ax (Calls.mono h fun e I he=>?_);cases e with
 |returned v=>obtain⟨r,rfl,Z⟩:=he; exact al r I Z
 |panicked o=>exact he.elim
 |outgrown=>exact he.elim
theorem aE{S:Type}{T:a_ S}{k:FuncId}{args:List Value}{aa K':S→World→Prop}(h:L P k args T w aa)(al:∀ r I,aa r I→K' r I):L P k args T w K':=
 Calls.mono h fun e I he=>by
  cases e with
  |returned v=>obtain⟨r,Z,b7⟩:=he; exact⟨r,Z,al r I b7⟩
  |panicked o=>exact he
  |outgrown=>exact he
def iA(g:Bool)(v:Value):Value:=bif g then v else undef
theorem c2{g:Bool}{v:Value}(h:g=true):iA g v=v:=by subst h; rfl
theorem aea{a b:Bool}(h:(a&&b)=true):a=true:=(Bool.and_eq_true_iff.1 h).1
inductive qU(n:Nat)(ops:Array Oper)(f:Nat→Value)(A:Oper)(g:Bool):Prop
 |h_ (l:Nat) (d:Nat) (gr o:Bool) (ae:A.guard=some (l,true)) (a7:(ops[l]?).bind (·.dst)=some d) (ax:Y n f (.tmp d)=iA gr (.bool o)) (he:g=(gr&&o))
 |no (l:Nat) (d:Nat) (gr o:Bool) (ae:A.guard=some (l,false)) (a7:(ops[l]?).bind (·.dst)=some d) (ax:Y n f (.tmp d)=iA gr (.bool o)) (he:g=(gr&&!o))
theorem qU.wanted{g:Bool}(h:qU n ops f A g):Region.wanted A (yielded ops (act n f ay).tmps)=g:=by
 cases h with
 |h_ l d gr o ae a7 ax he=>
  subst he;simp only[Region.wanted,ae,Em,zn,a7,ax];cases gr<;>cases o<;>rfl
 |no l d gr o ae a7 ax he=>
  subst he;simp only[Region.wanted,ae,Em,zn,a7,ax];cases gr<;>cases o<;>rfl
theorem Dv{g:Bool}{v:Value}{d:Option Nat}(aq:ops.toList[i]?=some A)(ae:qU n ops f A g)(aC:A.dst=d)(ax:g=true→(execOp (Y n f) A).run P w=.ok (.value v) w)
  (h:cI P ops Q rest (act n (fL f d (iA g v)) ay) w):cI P ops Q (i::rest) (act n f ay) w:=by
 subst aC;rw[v4] at *;rw[wpOps_cons];simp only[wpOp,ofList aq,ae.wanted];cases g with
 |true=>
  left;simp only[Oper.wp,gY,ax rfl,Oper.upon_value,g5];exact h
 |false=>simp only[Bool.false_eq_true,if_false,g5]; exact h
theorem gO{g:Bool}{v:Value}{k:Nat}{d:Option Nat}{listed:Array Bool}{a2:List (Nat×(World→Prop))}(G:j1 ops Q)(ap:Region.free .any ops listed i=true)(Z:(Region.ready .any ops listed).contains i=true)(aq:ops.toList[i]?=some A)
  (ae:qU n ops f A g) (aC:A.dst=d) (ax:g=true→∀ w,(execOp (Y n f) A).run P w=.ok (.value v) w)
  (h:gl P ops Q a2 k (listed.setIfInBounds i true) (act n (fL f d (iA g v)) ay) w):gl P ops Q a2 (k+1) listed (act n f ay) w:=by
 refine DR (ad:=fun _=>True) (v:=iA g v) G ap Z aq aC ?_ trivial (by rw[v3] at *; exact fun py=>Ht (fun _=>trivial) _ _ _ _ (h py));cases g with
 |true=>exact .inl ⟨ae.wanted,fun w _=>by rw[gY]; exact ax rfl w⟩
 |false=>exact .inr ⟨ae.wanted,rfl⟩
theorem axy{g:Bool}{v:Value}{k:Nat}{d:Option Nat}{listed:Array Bool}{a2:List (Nat×(World→Prop))}(ad:World→Prop)(G:j1 ops Q)(ap:Region.free .any ops listed i=true)(Z:(Region.ready .any ops listed).contains i=true)(aq:ops.toList[i]?=some A)
  (ae:qU n ops f A g) (aC:A.dst=d) (ax:g=true→∀ w,ad w→(execOp (Y n f) A).run P w=.ok (.value v) w) (iR:g=true→ad w)
  (h:gl P ops Q ((i,fun w=>g=true→ad w)::a2) k (listed.setIfInBounds i true) (act n (fL f d (iA g v)) ay) w):gl P ops Q a2 (k+1) listed (act n f ay) w:=by
 refine DR (ad:=fun w=>g=true→ad w) (v:=iA g v) G ap Z aq aC ?_ iR h;cases g with
 |true=>exact .inl ⟨ae.wanted,fun w hw=>by rw[gY]; exact ax rfl w (hw rfl)⟩
 |false=>exact .inr ⟨ae.wanted,rfl⟩
theorem k7{aL:Operand}{a o:Bool}(ab:A.op=.pick x N aL)(F:Y n f x=.bool a)(aJ:Y n f N=.bool true)(cb:Y n f aL=iA (!a) (.bool o)) :
  (execOp (Y n f) A).run P w=.ok (.value (.bool (a||o))) w:=by
 cases a<;>simp[execOp,ab,F,aJ,cb,asBool,iA]
theorem ky{aL:Operand}{a b:Bool}(ab:A.op=.pick x N aL)(F:Y n f x=.bool a)(aJ:Y n f N=iA a (.bool b))(cb:Y n f aL=.bool false) :
  (execOp (Y n f) A).run P w=.ok (.value (.bool (a&&b))) w:=by
 cases a<;>simp[execOp,ab,F,aJ,cb,asBool,iA]
theorem awO{aL:Operand}{gr a o:Bool}(ae:gr=true)(ab:A.op=.pick x N aL)(F:Y n f x=iA gr (.bool a))(aJ:Y n f N=.bool true)(cb:Y n f aL=iA (gr&&!a) (.bool o)) :
  (execOp (Y n f) A).run P w=.ok (.value (.bool (a||o))) w:=by
 subst ae; cases a<;>simp[execOp,ab,F,aJ,cb,asBool,iA]
theorem XU{aL:Operand}{gr a b:Bool}(ae:gr=true)(ab:A.op=.pick x N aL)(F:Y n f x=iA gr (.bool a))(aJ:Y n f N=iA (gr&&a) (.bool b))(cb:Y n f aL=.bool false) :
  (execOp (Y n f) A).run P w=.ok (.value (.bool (a&&b))) w:=by
 subst ae; cases a<;>simp[execOp,ab,F,aJ,cb,asBool,iA]
theorem arr{g f:Nat→Value}(h:g=f):act n f ay=act n g ay:=by rw[h]
theorem azS(cE:List Nat):∀ (cx:List Nat) (a:Act) (w:World),wpOps P ops (Exit.then (fun a w=>wpOps P ops Q cE a w) Q) cx a w→wpOps P ops Q (cx++cE) a w:=by
 intro cx;induction cx with
 |nil=>intro a w h; exact h
 |cons i cx b8=>
  intro a w h;rw[List.cons_append,wpOps_cons];rw[wpOps_cons] at h;unfold wpOp at *;cases ab:ops[i]? with
  |none=>simp only[ab] at h ⊢; exact b8 _ _ h
  |some A=>
   simp only[ab] at h ⊢;by_cases hw:Region.wanted A (yielded ops a.tmps)=true
   ·rw[if_pos hw] at h ⊢;rcases h with h | ⟨B,iL,N8,J⟩
    ·left;have eI:=Oper.wp_mono (K':=wpOps P ops Q (cx++cE)) (fun a w h=>b8 a w h) h;unfold Oper.wp at eI ⊢;revert eI;generalize (execOp a.eval A).run P w=r;cases r with
     |ok Mq I=>cases Mq<;>exact fun h=>h
     |halt x I=>cases x<;>exact fun h=>h
    ·exact .inr ⟨B,iL,N8,J⟩
   ·rw[if_neg hw] at h ⊢;exact b8 _ _ h
theorem y5{bE:Type}{eV:bE→World→Prop}{bT:(Nat→Value)→bE→(Nat→Value)}(cx cE:List Nat)
  (a7:∀ s g w,eV s w→cI P ops Q cE (act n (bT g s) ay) w) (F:cI P ops (Exit.then (fun a w=>∃ s g,a=act n (bT g s) ay∧eV s w) Q) cx (act n f ay) w):cI P ops Q (cx++cE) (act n f ay) w:=by
 rw[v4] at *;refine azS cE cx _ _ ?_;have:∀ (c:List Nat) (a:Act) (w:World),wpOps P ops (Exit.then (fun a w=>∃ s g,a=act n (bT g s) ay∧eV s w) Q) c a w→wpOps P ops (Exit.then (fun a w=>wpOps P ops Q cE a w) Q) c a w:=by
  intro c;induction c with
  |nil=>rintro a w ⟨s,g,rfl,tj⟩; exact a7 s g w tj
  |cons i c b8=>
   intro a w h;rw[wpOps_cons] at h ⊢;unfold wpOp at *;cases ab:ops[i]? with
   |none=>simp only[ab] at h ⊢; exact b8 _ _ h
   |some A=>
    simp only[ab] at h ⊢;by_cases hw:Region.wanted A (yielded ops a.tmps)=true
    ·rw[if_pos hw] at h ⊢;rcases h with h | ⟨B,iL,N8,J⟩
     ·left;have eI:=Oper.wp_mono (K':=wpOps P ops (Exit.then (fun a w=>wpOps P ops Q cE a w) Q) c) (fun a w h=>b8 a w h) h;unfold Oper.wp at eI ⊢;revert eI;generalize (execOp a.eval A).run P w=r;cases r with
      |ok Mq I=>cases Mq<;>exact fun h=>h
      |halt x I=>cases x<;>exact fun h=>h
     ·exact .inr ⟨B,iL,N8,J⟩
    ·rw[if_neg hw] at h ⊢;exact b8 _ _ h
 exact this cx _ _ F
theorem ys{o:Code}{bE:Type}{bT:(Nat→Value)→bE→(Nat→Value)}{body:bE→World→(bE→World→Prop)→Prop}{eJ:bE}(ap:bT f eJ=f)(h:e7 body eJ w)
  (aA:∀ (s:bE) (g:Nat→Value) (w:World) (aa:bE→World→Prop),body s w aa→o.wp P (Exit.then (fun bS I=>∃ hJ lm,bS=act n (bT lm hJ) ay∧aa hJ I) Q) (act n (bT g s) ay) w) :
  (Code.loop o).wp P Q (act n f ay) w:=by
 rw[← ap];exact auf (bT:=bT) h aA
def xO{S:Type}(P:Program)(gJ:dz)(args:List Value)(T:a_ S)(w:World)(k:S→World→Prop):Prop:=
 ∃ (f:FuncId) (o:List Value),gJ=.mk (.func f) #[] o.toArray∧dG P f∧L P f (args++o) T w k
theorem Ot{S:Type}{T:a_ S}{fW:List Operand}{lB:Array TypeId}{c:List Value}{gJ:dz}{d:Option Nat}{next:Act→World→Prop}{aa:S→World→Prop}(aC:A.dst=d)(ab:A.op=.call { callee:=.value x,args:=fW.toArray,argTypes:=lB })
  (F:Y n f x=gJ.enc) (ag:fW.map (Y n f)=c) (h:xO P gJ c T w aa) (al:∀ r I,aa r I→next (act n (fL f d (T.enc r)) ay) I):kW P A (act n f ay) w next Q:=by
 obtain⟨k,o,u3,he,h⟩:=h;exact dj aC (awM ab F u3 he ag) h al
def ds(w:World)(k:World→Prop):Prop:=k w.drew
theorem nx{w:World}{k:World→Prop}(h:ds w k):∃ I,I=w.drew∧k I:=⟨_,rfl,h⟩
def E0(b0 ai:Prop):Prop:=b0∧ai
end
theorem RN{w:World}{A:Obj}{a:Addr}{a4:List Value}(h:mb w a a4):mb (w.alloc A) a a4:=by
 intro l v ax;have am:=h l v ax;rw[World.cell?_alloc_lt _ _ _ (World.block_lt_of_cell? _ _ am)];exact am
theorem vf{S:Type}{T:a_ S}{a:Addr}{x:S}{w I:World}{A:Obj}(hw:I=w.alloc A)(h:M T a w x):M T a I x:=hw▸RN h
def BA{S:Type}(T:a_ S)(w:World)(a:Option Addr)(xs:List S):Prop:=match a with
 |some a=>mb w a (xs.flatMap T.cells)
 |none=>xs=[]
def jN{S:Type}(T:a_ S)(w:World)(s:X)(xs:List S):Prop:=xs.length=s.len∧BA T w s.a xs
def k0{S:Type}(t:TypeId)(T:a_ S)(ao U:Nat)(s:X)(new:List S)(w:World)(k:X→World→Prop):Prop:=
 (s.len + new.length ≤ s.cap → match s.a with
  |some a=>td w (a.add (s.len*ao)) (new.length*ao)∧k ⟨some a,s.len+new.length,s.cap⟩ (mx w (a.add (s.len*ao)) 0 (new.flatMap T.cells))
  |none=>k ⟨none,s.len+new.length,s.cap⟩ w) ∧
 (s.cap < s.len + new.length → (s.len + new.length) * U ≤ 140737488355328 ∧ ∃ old : List S, jN T w s old ∧
  ∀ (o:Nat) (rest:List Value),s.len+new.length≤o→rest.length=(o-(s.len+new.length))*ao →
   k ⟨some ⟨w.heap.size,0,none⟩,s.len+new.length,o⟩ (w.drew.alloc (.cells ((old++new).flatMap T.cells++rest).toArray t)))
def q1{S:Type}(t:TypeId)(T:a_ S)(ao U:Nat)(s b:X)(w:World)(k:X→World→Prop):Prop:=
 ∃ new:List S,jN T w b new∧k0 t T ao U s new w k
def kG{S:Type}(t:TypeId)(T:a_ S)(ao U:Nat)(s:X)(new:List S)(w:World)(k:X→World→Prop):Prop:=
 k0 t T ao U s new (w.alloc (.cells (new.flatMap T.cells).toArray t)) k
section
variable {P:Program} {Q:Exit→Act→World→Prop} {n:Nat} {f:Nat→Value} {ay:List Deferred} {w I:World} {ops:Array Oper} {i:Nat} {rest:List Nat} {A:Oper} {x N aL:Operand}
theorem lR{S:Type}{T:a_ S}{m:Nat}(h:∀ x,(T.cells x).length=m)(xs:List S):(xs.flatMap T.cells).length=xs.length*m:=by
 induction xs with
 |nil=>simp
 |cons x xs b8=>simp[b8,h x,Nat.add_mul,Nat.add_comm]
theorem wY{S:Type}{T:a_ S}{m:Nat}(aj:∀ x,(T.cells x).length=m){s:X}{xs:List S}(h:jN T w s xs) :
  (Builtin.firstCells m s.len (O.enc s)).run P w=.ok (xs.flatMap T.cells).toArray w:=by
 obtain⟨hR,Z⟩:=h;obtain⟨a,c,o⟩:=s;cases a with
 |none=>
  simp only[BA] at Z;subst Z;simp[Builtin.firstCells]
 |some a=>
  simp only[BA] at Z;simp only at hR;have:=run_loadCellsFrom P w a (xs.flatMap T.cells) 0 #[] (by intro l v ax; rw[Nat.zero_add]; exact Z l v ax);rw[lR aj,hR] at this;simp only[Builtin.firstCells,loadCells];rw[this]; simp
theorem I2{S:Type}{T:a_ S}{s:X}{xs:List S}(h:jN T w s xs):jN T w.drew s xs:=by
 obtain⟨a,c,o⟩:=s;cases a<;>exact h
theorem axZ{S:Type}{T:a_ S}{ao:Nat}{t u gC e:TypeId}{s b:X}{new:List S}(ak:P.underlying t=some (.slice e))(hu:∃ lP,P.underlying u=some (.slice lP))
  (ok:cm P e T ao) (lp:jN T w b new) (W:s.len+new.length≤s.cap) {a:Addr} (ag:s.a=some a) (hw:td w (a.add (s.len*ao)) (new.length*ao)) :
  (Builtin.append_ #[t,u] gC #[O.enc s,O.enc b]).run P w=.ok (O.enc ⟨some a,s.len+new.length,s.cap⟩) (mx w (a.add (s.len*ao)) 0 (new.flatMap T.cells)):=by
 obtain⟨ig,aq,iS⟩:=ok.size;obtain⟨lP,hu⟩:=hu;have m0:new.length=b.len:=lp.1;have x0:s.len+b.len≤s.cap:=by omega
 have B:=wY (P:=P) ok.len lp
 have J:=AM (P:=P) (a.add (s.len*ao)) (new.flatMap T.cells) 0 w (by
  intro l a7;rw[Nat.zero_add];rw[lR ok.len] at a7
  exact hw l a7) (fun v ax=>by obtain⟨x,_,F⟩:=List.mem_flatMap.1 ax; exact ok.one x v F)
 simp only[Builtin.append_];simp[run_underlying ak,run_underlying hu,run_sizeOf aq,Builtin.lenOf,x0,iS,ag,m0];have Cg:Sem.run P (Builtin.firstCells ao b.len (Value.slice b.a b.len b.cap)) w=.ok (new.flatMap T.cells).toArray w:=B;rw[Cg];simp only[Result.andThen_ok];rw[show storeCells (a.add (s.len*ao)) (new.flatMap T.cells).toArray.toList=storeCells (a.add (s.len*ao)) (new.flatMap T.cells) 0 from rfl,J];simp
theorem ax0{S:Type}{T:a_ S}{ao:Nat}{t u gC e:TypeId}{s b:X}{new:List S}(ak:P.underlying t=some (.slice e))(hu:∃ lP,P.underlying u=some (.slice lP))
  (ok:cm P e T ao) (lp:jN T w b new) (W:s.len+new.length≤s.cap) (ag:s.a=none) :
  (Builtin.append_ #[t,u] gC #[O.enc s,O.enc b]).run P w=.ok (O.enc ⟨none,s.len+new.length,s.cap⟩) w:=by
 obtain⟨ig,aq,iS⟩:=ok.size;obtain⟨lP,hu⟩:=hu;have m0:new.length=b.len:=lp.1;have x0:s.len+b.len≤s.cap:=by omega
 have B:Sem.run P (Builtin.firstCells ao b.len (Value.slice b.a b.len b.cap)) w=.ok (new.flatMap T.cells).toArray w:=wY (P:=P) ok.len lp;simp only[Builtin.append_];simp[run_underlying ak,run_underlying hu,run_sizeOf aq,Builtin.lenOf,x0,iS,ag,m0,B]
theorem axY{S:Type}{T:a_ S}{ao:Nat}{t u gC e:TypeId}{ig:TypeInfo}{nV:Value}{hc:List Value}{s b:X}{new old:List S}(ak:P.underlying t=some (.slice e))(hu:∃ lP,P.underlying u=some (.slice lP))
  (ok:cm P e T ao) (aq:P.info? e=some ig) (cb:ig.zero=some nV) (yk:nV.cells=hc.toArray) (tq:hc.length=ao) (z5:0<ig.bytes)
  (lp:jN T w b new) (W:s.cap<s.len+new.length) (tn:(s.len+new.length)*ig.bytes≤140737488355328) (hold:jN T w s old) :
  ∃ (o:Nat) (rest:List Value),s.len+new.length≤o∧rest.length=(o-(s.len+new.length))*ao ∧
   (Builtin.append_ #[t,u] gC #[O.enc s,O.enc b]).run P w=.ok (O.enc ⟨some ⟨w.heap.size,0,none⟩,s.len+new.length,o⟩) (w.drew.alloc (.cells ((old++new).flatMap T.cells++rest).toArray e)):=by
 obtain⟨ahd,to,iS⟩:=ok.size;rw[aq] at to; injection to with to; subst to
 obtain⟨lP,hu⟩:=hu;have m0:new.length=b.len:=lp.1;have m1:old.length=s.len:=hold.1;have x0:¬ (s.len+b.len≤s.cap):=by omega
 have ae:=growslice_fits (need:=s.len+b.len) (old:=s.cap) (bytes:=ig.bytes) (by omega) (by rw[← m0]; exact tn);have z6:¬ (281474976710656<Builtin.nextslicecap (s.len+b.len) s.cap*ig.bytes):=by omega
 have z4:ig.bytes≠0:=by omega
 have B:=wY (P:=P) ok.len lp;have J:=wY (P:=P) ok.len hold;refine⟨(Question.appendCap (s.len+b.len) s.cap e).cut (w.tape w.drawn (.appendCap (s.len+b.len) s.cap e)),(Builtin.zeroCells nV.cells ((Question.appendCap (s.len+b.len) s.cap e).cut (w.tape w.drawn (.appendCap (s.len+b.len) s.cap e))-(s.len+b.len))).toList,?_,?_,?_⟩
 ·simp only[Question.cut]; omega
 ·simp[Builtin.zeroCells,yk,tq,m0]
 ·have Cg:Sem.run P (Builtin.firstCells ao b.len (Value.slice b.a b.len b.cap)) w.drew=.ok (new.flatMap T.cells).toArray w.drew:=wY (P:=P) ok.len (I2 lp);have JW:Sem.run P (Builtin.firstCells ao s.len (Value.slice s.a s.len s.cap)) w.drew=.ok (old.flatMap T.cells).toArray w.drew:=wY (P:=P) ok.len (I2 hold);simp only[Builtin.append_];simp[run_underlying ak,run_underlying hu,run_sizeOf aq,Builtin.lenOf,x0,iS,m0,typeInfo,aq,z4,z6,Question.forced,Cg,JW,zeroValue,cb,newRow,List.flatMap_append,World.drew_eq];congr 2;apply Array.ext';simp
theorem Hu{S:Type}{T:a_ S}{ao U:Nat}{t u e:TypeId}{nV:Value}{hc:List Value}{s b:X}{d:Option Nat}{next:Act→World→Prop}{aa:X→World→Prop}(aC:A.dst=d)
  (ab:A.op=.call { callee:=.builtin .append,args:=#[x,N],argTypes:=#[t,u] }) (ak:P.underlying t=some (.slice e)) (hu:∃ lP,P.underlying u=some (.slice lP))
  (ok:cm P e T ao) (st:∃ i,P.info? e=some i∧i.zero=some nV∧i.size=ao∧i.bytes=U) (yk:nV.cells=hc.toArray) (tq:hc.length=ao) (z5:0<U)
  (F:Y n f x=O.enc s) (aJ:Y n f N=O.enc b) (h:q1 e T ao U s b w aa) (al:∀ r I,aa r I→next (act n (fL f d (O.enc r)) ay) I) :
  kW P A (act n f ay) w next Q:=by
 rw[lG];subst aC;obtain⟨ig,aq,cb,iS,rfl⟩:=st;obtain⟨new,lp,js,o4⟩:=h;have fI:∀ (w:World) (v:Value) (I:World),(Builtin.append_ #[t,u] A.type #[O.enc s,O.enc b]).run P w=.ok v I→(execOp (Y n f) A).run P w=.ok (.value v) I:=by
  intro w v I ax;simp only[execOp,ab,resolve,invoke,builtin];simp only[List.map_toArray,List.map_cons,List.map_nil,F,aJ,pure_bind,Sem.run_bind,ax,Result.andThen_ok,Sem.run_pure]
 by_cases W:s.len+new.length≤s.cap
 ·have js:=js W;cases ag:s.a with
  |none=>
   rw[ag] at js;simp only[Oper.wp,gY,fI _ _ _ (ax0 ak hu ok lp W ag),Oper.upon_value,g5];exact al _ _ js
  |some a=>
   rw[ag] at js;simp only[Oper.wp,gY,fI _ _ _ (axZ ak hu ok lp W ag js.1),Oper.upon_value,g5];exact al _ _ js.2
 ·obtain⟨tn,old,hold,o4⟩:=o4 (by omega);obtain⟨o,rest,B,J,au⟩:=axY (gC:=A.type) ak hu ok aq cb yk tq z5 lp (by omega) tn hold;simp only[Oper.wp,gY,fI _ _ _ au,Oper.upon_value,g5];exact al _ _ (o4 o rest B J)
theorem adv(w:World)(a4:List Value)(t:TypeId):mb (w.alloc (.cells a4.toArray t)) ⟨w.heap.size,0,none⟩ a4:=by
 intro l v ax;have:(⟨w.heap.size,0,none⟩:Addr).add l=⟨w.heap.size,l,none⟩:=by
  cases l<;>simp[Addr.add]
 rw[this,World.cell?_alloc_new];simpa using ax
theorem aee{S:Type}{t:TypeId}{T:a_ S}{ao U:Nat}{s:X}{new:List S}{aa:X→World→Prop}(h:kG t T ao U s new w aa) :
  q1 t T ao U s ⟨some ⟨w.heap.size,0,none⟩,new.length,new.length⟩ (w.alloc (.cells (new.flatMap T.cells).toArray t)) aa:=
 ⟨new,⟨rfl,adv w _ t⟩,h⟩
theorem ag5{S:Type}{T:a_ S}{ao:Nat}(aj:∀ x,(T.cells x).length=ao)(ap:∀ x,(T.enc x).cells=(T.cells x).toArray) :
  ∀ (xs:List S) (i:Nat) (pre jX:List Value),pre.length=i*ao→jX.length=xs.length*ao →
   Instr.fill (fun i=>some (i*ao,ao)) (pre++jX).toArray ((xs.zipIdx i).map fun p=>(p.2,T.enc p.1))=some (pre++xs.flatMap T.cells).toArray:=by
 have iG:∀ (aK:List Value) (A:Nat) (pre jX:List Value),pre.length=A→aK.length≤jX.length →
   ((aK.toArray.zipIdx).foldl (fun a4 (x:Value×Nat)=>a4.setIfInBounds (A+x.2) x.1) (pre++jX).toArray)=(pre++aK++jX.drop aK.length).toArray:=by
  intro aK;have gen:∀ (aK:List Value) (k A:Nat) (pre jX:List Value),pre.length=A+k→aK.length≤jX.length →
    ((aK.zipIdx k).foldl (fun (a4:Array Value) (x:Value×Nat)=>a4.setIfInBounds (A+x.2) x.1) (pre++jX).toArray)=(pre++aK++jX.drop aK.length).toArray:=by
   intro aK;induction aK with
   |nil=>intro k A pre jX _ _; simp
   |cons v aK b8=>
    intro k A pre jX aH aF;cases jX with
    |nil=>simp at aF
    |cons s jX=>
     have B:((pre++s::jX).toArray.setIfInBounds (A+k) v)=((pre++[v])++jX).toArray:=by
      rw[← aH];simp
     simp only[List.zipIdx_cons,List.foldl_cons,B];rw[b8 (k+1) A (pre++[v]) jX (by simp; omega) (by simpa using aF)];simp
  intro A pre jX aH aF;rw[← Array.foldl_toList];have:(aK.toArray.zipIdx).toList=aK.zipIdx 0:=by simp
  rw[this];exact gen aK 0 A pre jX (by omega) aF
 intro xs;induction xs with
 |nil=>
  intro i pre jX aH aF;have:jX=[]:=by simpa using aF
  subst this;simp[Instr.fill]
 |cons x xs b8=>
  intro i pre jX aH aF;simp only[List.zipIdx_cons,List.map_cons,Instr.fill,ap x];have CC:jX.length=xs.length*ao+ao:=by rw[aF]; simp[Nat.add_mul]
  have W:((T.cells x).toArray.size≠ao||i*ao+(T.cells x).toArray.size>(pre++jX).toArray.size)=false:=by
   simp[aj x,aH,CC]
  rw[W];simp only[Bool.false_eq_true,if_false];have J:=iG (T.cells x) (i*ao) pre jX aH (by rw[aj x,CC]; omega);rw[J];rw[b8 (i+1) (pre++T.cells x) (jX.drop (T.cells x).length) (by simp[aH,aj x,Nat.add_mul]) (by simp[aj x,CC])];simp
theorem wV{S:Type}{T:a_ S}{ao:Nat}{t e:TypeId}{nV:Value}{m:Nat}{dy:List (Nat×Operand)}{xs:List S}{a:Addr}{I:World}(ab:A.op=.buildSlice t m dy.toArray)(ak:P.underlying t=some (.slice e))
  (ok:cm P e T ao) {U:Nat} (st:∃ i,P.info? e=some i∧i.zero=some nV∧i.size=ao∧i.bytes=U) (hm:xs.length=m) (aA:m*ao≤2^24) (am:m*ao≠0)
  (aH:dy.map (fun p=>(p.1,Y n f p.2))=(xs.zipIdx 0).map fun p=>(p.2,T.enc p.1))
  (ag:a=⟨w.heap.size,0,none⟩) (hw:I=w.alloc (.cells (xs.flatMap T.cells).toArray e)) :
  (execOp (Y n f) A).run P w=.ok (.value (O.enc ⟨some a,m,m⟩)) I:=by
 subst ag; subst hw;obtain⟨ig,aq,cb,iS,_⟩:=st;have Kc:=ag5 (T:=T) ok.len ok.flat xs 0 [] ((Array.range (m*ig.size)).map (nV.cells[·%nV.cells.size]!)).toList (by simp) (by simp[hm,iS]);simp only[List.nil_append,Array.toArray_toList] at Kc;have ajP:¬ (m*ig.size>2^24):=by rw[iS]; omega
 have ahn:m*ig.size≠0:=by rw[iS]; exact am
 simp only[execOp,ab,Instr.buildSlice];simp only[List.map_toArray,aH];simp only[bind_pure_comp,Sem.run_map,Sem.run_bind,run_underlying ak,Result.andThen_ok,run_sizeOf aq];rw[if_neg ajP,if_neg ahn];simp[zeroValue,typeInfo,aq,cb,iS,newRow] at Kc ⊢;simp[Kc]
theorem yA{S:Type}{t:TypeId}{T:a_ S}{xs:List S}{w:World}{k:Addr→World→Prop}(h:pI t T xs w k) :
  ∃ a I,a=⟨w.heap.size,0,none⟩∧I=w.alloc (.cells (xs.flatMap T.cells).toArray t)∧k a I:=⟨_,_,rfl,rfl,h⟩
theorem GI{t e:TypeId}{s r:X}{c h:Int}{pb nG:IntKind}{ao:Nat}{S:Type}{T:a_ S}(ab:A.op=.slice t x (some N) (some aL) none)(ak:P.underlying t=some (.slice e))(ok:cm P e T ao)(F:Y n f x=O.enc s)(aJ:Y n f N=.int pb c)(cb:Y n f aL=.int nG h)
  (Z:Sub s ao c h (s.cap:Int) r):(execOp (Y n f) A).run P w=.ok (.value (O.enc r)) w:=by
 obtain⟨ig,sq,iS⟩:=ok.size;obtain⟨a,len,cap⟩:=s
 try simp only at Z
 obtain⟨am,B,J,au,rfl⟩:=Z;have aT:(((h:Int).toNat:Nat):Int)=h:=Int.toNat_of_nonneg (by omega);have a0:((((cap:Int):Int).toNat:Nat):Int)=(cap:Int):=Int.toNat_of_nonneg (by omega);have aA:∀ (k:IntKind) (i:Int) (N:Nat) (o:BoundsCode),0≤i→i≤N→(Instr.sliceBound (.int k i) N o).run P w=.ok i.toNat w:=fun k i N o sr ss=>by
  simp[Instr.sliceBound,asIntOf,sr,ss]
 simp only[execOp,ab,F,Option.map_some,Option.map_none,aJ,cb];simp only[Instr.sliceAt,Instr.slice,Sem.run_bind,run_underlying ak,Result.andThen_ok,Instr.sliceBounds,bind_pure_comp,Sem.run_map,Sem.run_pure,aA nG h cap _ (by omega) (by omega),aA pb c h.toNat _ (by omega) (by omega)];simp[run_sizeOf sq,iS]
theorem XZ{t e:TypeId}{s r:X}{c:Int}{pb:IntKind}{ao:Nat}{S:Type}{T:a_ S}(ab:A.op=.slice t x (some N) none none)(ak:P.underlying t=some (.slice e))(ok:cm P e T ao)(F:Y n f x=O.enc s)(aJ:Y n f N=.int pb c)
  (Z:Sub s ao c (s.len:Int) (s.cap:Int) r):(execOp (Y n f) A).run P w=.ok (.value (O.enc r)) w:=by
 obtain⟨ig,sq,iS⟩:=ok.size;obtain⟨a,len,cap⟩:=s
 try simp only at Z
 obtain⟨am,B,J,au,rfl⟩:=Z;have aT:((((len:Int):Int).toNat:Nat):Int)=(len:Int):=Int.toNat_of_nonneg (by omega);have a0:((((cap:Int):Int).toNat:Nat):Int)=(cap:Int):=Int.toNat_of_nonneg (by omega);have aA:∀ (k:IntKind) (i:Int) (N:Nat) (o:BoundsCode),0≤i→i≤N→(Instr.sliceBound (.int k i) N o).run P w=.ok i.toNat w:=fun k i N o sr ss=>by
  simp[Instr.sliceBound,asIntOf,sr,ss]
 simp only[execOp,ab,F,Option.map_some,Option.map_none,aJ];simp only[Instr.sliceAt,Instr.slice,Sem.run_bind,run_underlying ak,Result.andThen_ok,Instr.sliceBounds,bind_pure_comp,Sem.run_map,Sem.run_pure,aA pb c len _ (by omega) (by omega)];simp[run_sizeOf sq,iS]
theorem XY{t e:TypeId}{s r:X}{h:Int}{nG:IntKind}{ao:Nat}{S:Type}{T:a_ S}(ab:A.op=.slice t x none (some aL) none)(ak:P.underlying t=some (.slice e))(ok:cm P e T ao)(F:Y n f x=O.enc s)(cb:Y n f aL=.int nG h)
  (Z:Sub s ao 0 h (s.cap:Int) r):(execOp (Y n f) A).run P w=.ok (.value (O.enc r)) w:=by
 obtain⟨ig,sq,iS⟩:=ok.size;obtain⟨a,len,cap⟩:=s
 try simp only at Z
 obtain⟨am,B,J,au,rfl⟩:=Z;have aT:(((h:Int).toNat:Nat):Int)=h:=Int.toNat_of_nonneg (by omega);have a0:((((cap:Int):Int).toNat:Nat):Int)=(cap:Int):=Int.toNat_of_nonneg (by omega);have aA:∀ (k:IntKind) (i:Int) (N:Nat) (o:BoundsCode),0≤i→i≤N→(Instr.sliceBound (.int k i) N o).run P w=.ok i.toNat w:=fun k i N o sr ss=>by
  simp[Instr.sliceBound,asIntOf,sr,ss]
 simp only[execOp,ab,F,Option.map_some,Option.map_none,cb];simp only[Instr.sliceAt,Instr.slice,Sem.run_bind,run_underlying ak,Result.andThen_ok,Instr.sliceBounds,bind_pure_comp,Sem.run_map,Sem.run_pure,aA nG h cap _ (by omega) (by omega)];simp[run_sizeOf sq,iS]
theorem XX{t e:TypeId}{s r:X}  {ao:Nat} {S:Type} {T:a_ S} (ab:A.op=.slice t x none none none) (ak:P.underlying t=some (.slice e)) (ok:cm P e T ao) (F:Y n f x=O.enc s) 
  (Z:Sub s ao 0 (s.len:Int) (s.cap:Int) r):(execOp (Y n f) A).run P w=.ok (.value (O.enc r)) w:=by
 obtain⟨ig,sq,iS⟩:=ok.size;obtain⟨a,len,cap⟩:=s
 try simp only at Z
 obtain⟨am,B,J,au,rfl⟩:=Z;have aT:((((len:Int):Int).toNat:Nat):Int)=(len:Int):=Int.toNat_of_nonneg (by omega);have a0:((((cap:Int):Int).toNat:Nat):Int)=(cap:Int):=Int.toNat_of_nonneg (by omega);have aA:∀ (k:IntKind) (i:Int) (N:Nat) (o:BoundsCode),0≤i→i≤N→(Instr.sliceBound (.int k i) N o).run P w=.ok i.toNat w:=fun k i N o sr ss=>by
  simp[Instr.sliceBound,asIntOf,sr,ss]
 simp only[execOp,ab,F,Option.map_some,Option.map_none];simp only[Instr.sliceAt,Instr.slice,Sem.run_bind,run_underlying ak,Result.andThen_ok,Instr.sliceBounds,bind_pure_comp,Sem.run_map,Sem.run_pure];simp[run_sizeOf sq,iS]
theorem X0{t e:TypeId}{s r:X}{c h m:Int}{pb nG CV:IntKind}{v:Operand}{ao:Nat}{S:Type}{T:a_ S}(ab:A.op=.slice t x (some N) (some aL) (some v))(ak:P.underlying t=some (.slice e))(ok:cm P e T ao)(F:Y n f x=O.enc s)(aJ:Y n f N=.int pb c)(cb:Y n f aL=.int nG h)(ax:Y n f v=.int CV m)
  (Z:Sub s ao c h m r):(execOp (Y n f) A).run P w=.ok (.value (O.enc r)) w:=by
 obtain⟨ig,sq,iS⟩:=ok.size;obtain⟨a,len,cap⟩:=s
 try simp only at Z
 obtain⟨am,B,J,au,rfl⟩:=Z;have aT:(((h:Int).toNat:Nat):Int)=h:=Int.toNat_of_nonneg (by omega);have a0:(((m:Int).toNat:Nat):Int)=m:=Int.toNat_of_nonneg (by omega);have aA:∀ (k:IntKind) (i:Int) (N:Nat) (o:BoundsCode),0≤i→i≤N→(Instr.sliceBound (.int k i) N o).run P w=.ok i.toNat w:=fun k i N o sr ss=>by
  simp[Instr.sliceBound,asIntOf,sr,ss]
 simp only[execOp,ab,F,Option.map_some,Option.map_none,aJ,cb,ax];simp only[Instr.sliceAt,Instr.slice,Sem.run_bind,run_underlying ak,Result.andThen_ok,Instr.sliceBounds,bind_pure_comp,Sem.run_map,Sem.run_pure,aA CV m cap _ (by omega) (by omega),aA nG h m.toNat _ (by omega) (by omega),aA pb c h.toNat _ (by omega) (by omega)];simp[run_sizeOf sq,iS]
theorem Np{t e:TypeId}{s r:X}{h m:Int}{nG CV:IntKind}{v:Operand}{ao:Nat}{S:Type}{T:a_ S}(ab:A.op=.slice t x none (some aL) (some v))(ak:P.underlying t=some (.slice e))(ok:cm P e T ao)(F:Y n f x=O.enc s)(cb:Y n f aL=.int nG h)(ax:Y n f v=.int CV m)
  (Z:Sub s ao 0 h m r):(execOp (Y n f) A).run P w=.ok (.value (O.enc r)) w:=by
 obtain⟨ig,sq,iS⟩:=ok.size;obtain⟨a,len,cap⟩:=s
 try simp only at Z
 obtain⟨am,B,J,au,rfl⟩:=Z;have aT:(((h:Int).toNat:Nat):Int)=h:=Int.toNat_of_nonneg (by omega);have a0:(((m:Int).toNat:Nat):Int)=m:=Int.toNat_of_nonneg (by omega);have aA:∀ (k:IntKind) (i:Int) (N:Nat) (o:BoundsCode),0≤i→i≤N→(Instr.sliceBound (.int k i) N o).run P w=.ok i.toNat w:=fun k i N o sr ss=>by
  simp[Instr.sliceBound,asIntOf,sr,ss]
 simp only[execOp,ab,F,Option.map_some,Option.map_none,cb,ax];simp only[Instr.sliceAt,Instr.slice,Sem.run_bind,run_underlying ak,Result.andThen_ok,Instr.sliceBounds,bind_pure_comp,Sem.run_map,Sem.run_pure,aA CV m cap _ (by omega) (by omega),aA nG h m.toNat _ (by omega) (by omega)];simp[run_sizeOf sq,iS]
theorem ER{S:Type}{t:TypeId}{T:a_ S}{ao U:Nat}{s:X}{new:List S}{w:World}{aa:X→World→Prop}(h:kG t T ao U s new w aa) :
  ∃ a I,a=⟨w.heap.size,0,none⟩∧I=w.alloc (.cells (new.flatMap T.cells).toArray t)∧q1 t T ao U s ⟨some a,new.length,new.length⟩ I aa:=⟨_,_,rfl,rfl,aee h⟩
theorem Nn{S:Type}{T:a_ S}{ao U:Nat}{nV:Value}{t e:TypeId}{a:Addr}{I:World}(ab:A.op=.buildSlice t 0 #[])(ak:P.underlying t=some (.slice e))(ok:cm P e T ao)
  (aq:∃ i,P.info? e=some i∧i.zero=some nV∧i.size=ao∧i.bytes=U) (ag:a=⟨w.heap.size,0,none⟩) (hw:I=w.alloc (.cells (([]:List S).flatMap T.cells).toArray e)) :
  (execOp (Y n f) A).run P w=.ok (.value (O.enc ⟨some a,0,0⟩)) I:=by
 subst ag; subst hw;obtain⟨i,aq,cb,aF,aA⟩:=aq;simp[execOp,ab,Instr.buildSlice,run_underlying ak,run_sizeOf aq,Instr.fill,newRow];rw[show Array.range 0=#[] from by simp[Array.range]];simp
end
section
variable {P:Program} {Q:Exit→Act→World→Prop} {n:Nat} {f:Nat→Value} {ay:List Deferred} {w I:World} {ops:Array Oper} {i:Nat} {rest:List Nat} {A:Oper} {x N aL:Operand}
theorem oC{t:TypeId}{d:TypeDesc}{a4:Array Value}{off:Nat}{v:Value}(aC:P.underlying t=some d)(ag:te d=false)(ax:a4[off]?=some v):(part t a4 off).run P w=.ok v w:=by
 simp[part,GS aC,ag,ax]
theorem ax2{t:TypeId}{d:TypeDesc}{a4 ay:Array Value}{off m:Nat}(aC:P.underlying t=some d)(ag:te d=true)(aF:∃ i,P.info? t=some i∧i.size=m)(ax:a4.extract off (off+m)=ay):(part t a4 off).run P w=.ok (.agg ay) w:=by
 obtain⟨i,aq,rfl⟩:=aF;simp[part,GS aC,ag,run_sizeOf aq,ax]
theorem SZ{d:Nat}{xs hs:Array Value}:(Op.eqFields d xs hs []).run P w=.ok true w:=by simp[Op.eqFields]
theorem xR{d:Nat}{xs hs:Array Value}{fd:Field}{fw:List Field}{a b:Value}{o r:Bool} (aO:fd.name≠"_") (ag:(part fd.type xs fd.offset).run P w=.ok a w) (aA:(part fd.type hs fd.offset).run P w=.ok b w)
  (he:(Op.equalIn d fd.type a b).run P w=.ok o w) (Z:(Op.eqFields d xs hs fw).run P w=.ok r w):(Op.eqFields d xs hs (fd::fw)).run P w=.ok (o&&r) w:=by
 simp only[Op.eqFields,aO,ne_eq,not_false_eq_true,if_true,Sem.run_bind,ag,aA,he,Result.andThen_ok];cases o<;>simp[Z]
theorem B6{d:Nat}{t:TypeId}{k:IntKind}{a b:Int}(h:P.underlying t=some (.int k)):(Op.equalIn (d+1) t (.int k a) (.int k b)).run P w=.ok (a==b) w:=run_equalIn_int w d t k k a b h
theorem agy{d:Nat}{t:TypeId}{a b:Bool}(h:P.underlying t=some .bool):(Op.equalIn (d+1) t (.bool a) (.bool b)).run P w=.ok (a==b) w:=run_equalIn_bool' w d t a b h
theorem agz{d:Nat}{t:TypeId}{a b:List UInt8}(h:P.underlying t=some .string):(Op.equalIn (d+1) t (.string ⟨a.toArray⟩) (.string ⟨b.toArray⟩)).run P w=.ok (a==b) w:=by
 rw[run_equalIn_string w d t _ _ h,toList_toArray,toList_toArray]
theorem S0{d:Nat}{t:TypeId}{fw:Array Field}{xs hs:List Value}{r:Bool}(ak:P.underlying t=some (.struct fw))(aH:P.stoodInHeld t=false)(Z:(Op.eqFields d xs.toArray hs.toArray fw.toList).run P w=.ok r w) :
  (Op.equalIn (d+1) t (.agg xs.toArray) (.agg hs.toArray)).run P w=.ok r w:=by
 have ap:P.fieldsOf t=fw:=by simp[Program.fieldsOf,ak]
 rw[run_equalIn_struct w d t _ _ (by rw[ap]; exact ak) aH,ap]; exact Z
theorem Dh{xs hs:List Value}{t u:TypeId}{r:Bool}(ab:A.op=.binOp .eql t x N u)(he:P.eqGuardType P.depth t=false∧∀ w,(Op.equalIn 10000 t (.agg xs.toArray) (.agg hs.toArray)).run P w=.ok r w)
  (F:Y n f x=.agg xs.toArray) (aJ:Y n f N=.agg hs.toArray):(execOp (Y n f) A).run P w=.ok (.value (.bool r)) w:=by
 simp only[execOp,ab,F,aJ,bind_pure_comp,Sem.run_map,Sem.run_bind,run_eqGuard_agg w _ _ _ _ _ _ he.1,Result.andThen_ok,run_eql_struct,he.2 w]
theorem GF{xs hs:List Value}{t u:TypeId}{r:Bool}(ab:A.op=.binOp .neq t x N u)(he:P.eqGuardType P.depth t=false∧∀ w,(Op.equalIn 10000 t (.agg xs.toArray) (.agg hs.toArray)).run P w=.ok r w)
  (F:Y n f x=.agg xs.toArray) (aJ:Y n f N=.agg hs.toArray):(execOp (Y n f) A).run P w=.ok (.value (.bool (!r))) w:=by
 simp only[execOp,ab,F,aJ,bind_pure_comp,Sem.run_map,Sem.run_bind,run_eqGuard_agg w _ _ _ _ _ _ he.1,Result.andThen_ok,run_neq_struct,he.2 w]
theorem gN{t:TypeId}{fw:Array Field}{pl:List (Nat×Nat)}{nV:Value}{m U:Nat}{dy:List (Nat×Operand)}{fJ:List (Nat×Value)}{a4:List Value}(ab:A.op=.build t dy.toArray)(ak:P.underlying t=some (.struct fw))
  (cb:∃ i,P.info? t=some i∧i.zero=some nV∧i.size=m∧i.bytes=U) (CA:∀ w,(fw.toList.mapM fun f=>(do pure (f.offset,← sizeOf f.type):Sem (Nat×Nat))).run P w=.ok pl w)
  (aH:dy.map (fun p=>(p.1,Y n f p.2))=fJ) (ap:Instr.fill (fun l=>pl[l]?) nV.cells fJ=some a4.toArray):(execOp (Y n f) A).run P w=.ok (.value (.agg a4.toArray)) w:=by
 obtain⟨i,aq,cb,_⟩:=cb;subst aH;have T7:(fw.mapM fun f=>(do pure (f.offset,← sizeOf f.type):Sem (Nat×Nat))).run P w=.ok pl.toArray w:=by
  rw[Array.mapM_eq_mapM_toList];simp only[Sem.run_map,CA w,Result.andThen_ok]
 simp only[execOp,ab,Instr.build,zeroValue,typeInfo,bind_assoc,pure_bind,bind_pure_comp,Sem.run_map,Sem.run_bind,run_program,Result.andThen_ok,aq,cb,Sem.run_pure,run_underlying ak];simp only[bind_pure_comp] at T7;rw[T7];simp only[Result.andThen_ok,List.map_toArray,List.getElem?_toArray];rw[ap];simp
theorem JH{s:List UInt8}{c h:Nat}(bV:h≤s.length):(⟨s.toArray⟩:ByteArray).extract c h=⟨((s.take h).drop c).toArray⟩:=by
 apply ByteArray.ext;simp[List.extract_eq_take_drop,List.drop_take]
theorem GV{k:IntKind}{i:Int}{N:Nat}{o:BoundsCode}(am:0≤i)(B:i≤N):(Instr.sliceBound (.int k i) N o).run P w=.ok i.toNat w:=by
 simp[Instr.sliceBound,asIntOf,am,B]
theorem X3{t:TypeId}{s r:List UInt8}{c h:Int}{pb nG:IntKind}(ab:A.op=.slice t x (some N) (some aL) none)(ak:P.underlying t=some .string)(F:Y n f x=.string ⟨s.toArray⟩)(aJ:Y n f N=.int pb c)(cb:Y n f aL=.int nG h)
  (Z:I5 s c h r):(execOp (Y n f) A).run P w=.ok (.value (.string ⟨r.toArray⟩)) w:=by
 obtain⟨am,B,J,rfl⟩:=Z;have aF:(⟨s.toArray⟩:ByteArray).size=s.length:=rfl;have aT:((h.toNat:Nat):Int)=h:=Int.toNat_of_nonneg (by omega);simp only[execOp,ab,F,aJ,cb,Option.map_some,Option.map_none]
 simp only[Instr.sliceAt,Instr.slice,Sem.run_bind,run_underlying ak,Result.andThen_ok,Instr.sliceBounds,bind_pure_comp,Sem.run_map,Sem.run_pure,aF,
  GV (P:=P) (w:=w) (k:=nG) (i:=h) (N:=s.length) (by omega) (by omega),GV (P:=P) (w:=w) (k:=pb) (i:=c) (N:=h.toNat) (by omega) (by omega),Option.isSome_none,Bool.false_eq_true,if_false]
 rw[JH (by omega)]
theorem X2{t:TypeId}{s r:List UInt8}{c:Int}{pb:IntKind}(ab:A.op=.slice t x (some N) none none)(ak:P.underlying t=some .string)(F:Y n f x=.string ⟨s.toArray⟩)(aJ:Y n f N=.int pb c)
  (Z:I5 s c s.length r):(execOp (Y n f) A).run P w=.ok (.value (.string ⟨r.toArray⟩)) w:=by
 obtain⟨am,B,J,rfl⟩:=Z;have aF:(⟨s.toArray⟩:ByteArray).size=s.length:=rfl;simp only[execOp,ab,F,aJ,Option.map_some,Option.map_none]
 simp only[Instr.sliceAt,Instr.slice,Sem.run_bind,run_underlying ak,Result.andThen_ok,Instr.sliceBounds,bind_pure_comp,Sem.run_map,Sem.run_pure,aF,
  GV (P:=P) (w:=w) (k:=pb) (i:=c) (N:=s.length) (by omega) (by omega),Option.isSome_none,Bool.false_eq_true,if_false]
 rw[JH (by omega)];simp
theorem X1{t:TypeId}{s r:List UInt8}{h:Int}{nG:IntKind}(ab:A.op=.slice t x none (some aL) none)(ak:P.underlying t=some .string)(F:Y n f x=.string ⟨s.toArray⟩)(cb:Y n f aL=.int nG h)
  (Z:I5 s 0 h r):(execOp (Y n f) A).run P w=.ok (.value (.string ⟨r.toArray⟩)) w:=by
 obtain⟨am,B,J,rfl⟩:=Z;have aF:(⟨s.toArray⟩:ByteArray).size=s.length:=rfl;simp only[execOp,ab,F,cb,Option.map_some,Option.map_none]
 simp only[Instr.sliceAt,Instr.slice,Sem.run_bind,run_underlying ak,Result.andThen_ok,Instr.sliceBounds,bind_pure_comp,Sem.run_map,Sem.run_pure,aF,
  GV (P:=P) (w:=w) (k:=nG) (i:=h) (N:=s.length) (by omega) (by omega),Option.isSome_none,Bool.false_eq_true,if_false]
 rw[JH (by omega)];simp
def oO(arr:Array MapEntry)(o:Nat):Prop:=(∀ x∈arr.toList,x.born<o)∧(arr.toList.map (·.born)).Nodup
theorem aex{arr:Array MapEntry}{o:Nat}{k v:Value}(h:oO arr o):oO (arr.push { key:=k,val:=v,born:=o }) (o+1):=by
 refine⟨fun x F=>?_,?_⟩
 ·simp only[Array.toList_push,List.mem_append,List.mem_singleton] at F;rcases F with F | rfl
  ·have:=h.1 x F; omega
  ·exact Nat.lt_succ_self _
 ·simp only[Array.toList_push,List.map_append,List.map_cons,List.map_nil,List.nodup_append];refine⟨h.2,by simp,fun a ag b aA=>?_⟩;obtain⟨x,F,rfl⟩:=List.mem_map.1 ag;have:=h.1 x F;rw[List.mem_singleton.1 aA]; omega
theorem aey{arr rV:Array MapEntry}{o:Nat}(h:oO arr o)(e:rV.toList.map (·.born)=arr.toList.map (·.born)):oO rV o:=by
 refine⟨fun x F=>?_,by rw[e]; exact h.2⟩;have:x.born∈rV.toList.map (·.born):=List.mem_map.2 ⟨x,F,rfl⟩;rw[e] at this;obtain⟨N,aJ,he⟩:=List.mem_map.1 this;rw[← he]; exact h.1 N aJ
theorem aez{arr rV:Array MapEntry}{o:Nat}(h:oO arr o)(e:rV.toList.Sublist arr.toList):oO rV o:=
 ⟨fun x F=>h.1 x (e.subset F),h.2.sublist (e.map _)⟩
def IY{S:Type}(T:a_ S)(k:IntKind)(w:World)(r:Nat)(es:List (Int×S)):Prop:=
 ∃ arr o,w.heap[r]?=some (.map arr o)∧arr.toList.map (fun e=>(e.key,e.val))=(es.map fun p=>(.int k p.1,T.enc p.2))∧oO arr o
def fO{S:Type}(T:a_ S)(k:IntKind)(m:Option Nat)(key:Int)(w:World)(u:Option S):Prop:=match m with
 |none=>u=none
 |some r=>∃ es,IY T k w r es∧u=es.lookup key
def nu(m:Option Nat)(w:World)(c:Nat):Prop:=match m with
 |none=>c=0
 |some r=>∃ arr o,w.heap[r]?=some (.map arr o)∧c=arr.size
def bM{S:Type}(key:Int)(v:S):List (Int×S)→List (Int×S)
 |[]=>[(key,v)]
 |(a,b)::t=>if key==a then (key,v)::t else (a,b)::bM key v t
def del{S:Type}(key:Int):List (Int×S)→List (Int×S)
 |[]=>[]
 |(a,b)::t=>if key==a then t else (a,b)::del key t
def sQ(w:World)(r:Nat)(arr:Array MapEntry)(o:Nat):World:={ w with heap:=w.heap.setIfInBounds r (.map arr o) }
def qb{S:Type}(T:a_ S)(k:IntKind)(arr:Array MapEntry)(es:List (Int×S)):Prop:=arr.toList.map (fun e=>(e.key,e.val))=es.map fun p=>(.int k p.1,T.enc p.2)
def pf(w:World)(k:Nat→World→Prop):Prop:=k w.heap.size (w.alloc (.map #[] 0))
def nb{S:Type}(T:a_ S)(k:IntKind)(m:Option Nat)(key:Int)(v:S)(w:World)(aa:World→Prop):Prop:=
 ∃ r es,m=some r∧IY T k w r es∧∀ arr o,qb T k arr (bM key v es)→oO arr o→aa (sQ w r arr o)
def C6{S:Type}(T:a_ S)(k:IntKind)(m:Option Nat)(key:Int)(w:World)(aa:World→Prop):Prop:=match m with
 |none=>aa w
 |some r=>∃ es,IY T k w r es∧∀ arr o,qb T k arr (del key es)→oO arr o→aa (sQ w r arr o)
def auw(m:Option Nat)(w:World)(aa:World→Prop):Prop:=match m with
 |none=>aa w
 |some r=>∃ arr o,w.heap[r]?=some (.map arr o)∧aa (sQ w r #[] o)
theorem Tc{S:Type}{T:a_ S}{k:IntKind}(key:Int):∀ (arr:List MapEntry) (es:List (Int×S)) (i:Nat),arr.map (fun e=>(e.key,e.val))=es.map (fun p=>(.int k p.1,T.enc p.2)) →
  (es.lookup key=none∧Instr.findNow (.int k) (.int k key) arr i=some none) ∨
  (∃ l v,es.lookup key=some v∧Instr.findNow (.int k) (.int k key) arr i=some (some (i+l,T.enc v))∧es[l]?=some (key,v)∧(∀ c,c<l→(es[c]?.map (·.1))≠some key))
 |[],[],i,_=>.inl ⟨rfl,rfl⟩
 |[],_::_,i,h=>by simp at h
 |_::_,[],i,h=>by simp at h
 |e::arr,(a,b)::es,i,h=>by
  simp only[List.map_cons,List.cons.injEq,Prod.mk.injEq] at h;obtain⟨⟨al,ax⟩,ak⟩:=h;by_cases gf:key=a
  ·subst gf;right;refine⟨0,b,by simp,?_,rfl,fun c aj=>absurd aj (Nat.not_lt_zero _)⟩;simp[Instr.findNow,al,ax,Instr.sameNow]
  ·have ec:(key==a)=false:=by simpa using gf
   rcases Tc key arr es (i+1) ak with ⟨B,J⟩ | ⟨l,v,B,J,au,a8⟩
   ·left;exact⟨by simp[List.lookup,ec,B],by simp only[Instr.findNow,al,Instr.sameNow,if_true,ec,J]⟩
   ·right;refine⟨l+1,v,by simp[List.lookup,ec,B],by simp only[Instr.findNow,al,Instr.sameNow,if_true,ec,J]; rw[show i+1+l=i+(l+1) from by omega],by simpa using au,?_⟩;intro c aj;cases c with
    |zero=>simpa using fun h=>gf h.symm
    |succ c=>simpa using a8 c (by omega)
theorem run_checkKey{t:TypeId}{k:IntKind}(ak:P.underlying t=some (.int k))(e:Bool)(m:Nat)(a:Int):(Instr.checkKey e (m+1) t (.int k a)).run P w=.ok () w:=by
 simp[Instr.checkKey,run_underlying ak]
theorem tF{r:Nat}{arr:Array MapEntry}{o:Nat}(h:w.heap[r]?=some (.map arr o)):(getObj r).run P w=.ok (.map arr o) w:=by
 simp[getObj,Sem.run,h]
theorem Dx{r:Nat}{arr rV:Array MapEntry}{o E1:Nat}(h:w.heap[r]?=some (.map arr o)):(setObj r (.map rV E1)).run P w=.ok () (sQ w r rV E1):=by
 simp[setObj,Sem.run,h,sQ]
theorem Fm{S:Type}{T:a_ S}{k:IntKind}{kL:TypeId}{arr:Array MapEntry}{es:List (Int×S)}(al:P.underlying kL=some (.int k))(key:Int)(h:qb T k arr es) :
  (es.lookup key=none∧(Instr.findKey kL (.int k key) arr.toList).run P w=.ok none w) ∨
  (∃ l v,es.lookup key=some v∧(Instr.findKey kL (.int k key) arr.toList).run P w=.ok (some (l,T.enc v)) w∧es[l]?=some (key,v)∧(∀ c,c<l→(es[c]?.map (·.1))≠some key)):=by
 rcases Tc key arr.toList es 0 h with ⟨B,J⟩ | ⟨l,v,B,J,au,a8⟩
 ·exact .inl ⟨B,by simp only[Instr.findKey,Sem.run_bind,run_underlying al,Result.andThen_ok,J,Sem.run_pure]⟩
 ·exact .inr ⟨l,v,B,by simp only[Instr.findKey,Sem.run_bind,run_underlying al,Result.andThen_ok,J,Sem.run_pure,Nat.zero_add],au,a8⟩
theorem Dj{S:Type}{T:a_ S}{m U:Nat}{t kL j_:TypeId}{k:IntKind}{r:Option Nat}{key:Int}{u:Option S}{aL:S}(ab:A.op=.lookup t x N true)(ak:P.underlying t=some (.map kL j_))(al:P.underlying kL=some (.int k))
  (cb:∃ i,P.info? j_=some i∧i.zero=some (T.enc aL)∧i.size=m∧i.bytes=U) (F:Y n f x=.map r) (aJ:Y n f N=.int k key) (Z:fO T k r key w u) :
  (execOp (Y n f) A).run P w=.ok (.value (.tuple #[T.enc (u.getD aL),.bool u.isSome])) w:=by
 obtain⟨i,aq,rh,_⟩:=cb;cases r with
 |none=>
  simp only[fO] at Z;subst Z;simp[execOp,ab,F,aJ,Instr.lookup,run_underlying ak,run_checkKey al,Instr.findKey,run_underlying al,Instr.findNow,zeroValue,typeInfo,aq,rh]
 |some r=>
  obtain⟨es,⟨arr,o,aA,n9,xZ⟩,rfl⟩:=Z;rcases Fm (P:=P) (w:=w) al key n9 with ⟨B,J⟩ | ⟨l,v,B,J,_⟩
  ·simp[execOp,ab,F,aJ,Instr.lookup,run_underlying ak,tF aA,run_checkKey al,B,J,zeroValue,typeInfo,aq,rh]
  ·simp[execOp,ab,F,aJ,Instr.lookup,run_underlying ak,tF aA,run_checkKey al,B,J]
theorem Nc{S:Type}{T:a_ S}{m U:Nat}{t kL j_:TypeId}{k:IntKind}{r:Option Nat}{key:Int}{u:Option S}{aL:S}(ab:A.op=.lookup t x N false)(ak:P.underlying t=some (.map kL j_))(al:P.underlying kL=some (.int k))
  (cb:∃ i,P.info? j_=some i∧i.zero=some (T.enc aL)∧i.size=m∧i.bytes=U) (F:Y n f x=.map r) (aJ:Y n f N=.int k key) (Z:fO T k r key w u) :
  (execOp (Y n f) A).run P w=.ok (.value (T.enc (u.getD aL))) w:=by
 obtain⟨i,aq,rh,_⟩:=cb;cases r with
 |none=>
  simp only[fO] at Z;subst Z;simp[execOp,ab,F,aJ,Instr.lookup,run_underlying ak,run_checkKey al,Instr.findKey,run_underlying al,Instr.findNow,zeroValue,typeInfo,aq,rh]
 |some r=>
  obtain⟨es,⟨arr,o,aA,n9,xZ⟩,rfl⟩:=Z;rcases Fm (P:=P) (w:=w) al key n9 with ⟨B,J⟩ | ⟨l,v,B,J,_⟩
  ·simp[execOp,ab,F,aJ,Instr.lookup,run_underlying ak,tF aA,run_checkKey al,B,J,zeroValue,typeInfo,aq,rh]
  ·simp[execOp,ab,F,aJ,Instr.lookup,run_underlying ak,tF aA,run_checkKey al,B,J]
theorem M_{t kL j_:TypeId}{r:Option Nat}{c:Nat}(ab:A.op=.call { callee:=.builtin .len,args:=#[x],argTypes:=#[t] })(ak:P.underlying t=some (.map kL j_))(F:Y n f x=.map r)(Z:nu r w c) :
  (execOp (Y n f) A).run P w=.ok (.value (.int .i64 c)) w:=by
 cases r with
 |none=>simp only[nu] at Z; subst Z; simp[execOp,ab,F,resolve,invoke,builtin,Builtin.len_,run_underlying ak,goInt]
 |some r=>
  obtain⟨arr,o,aA,rfl⟩:=Z;simp[execOp,ab,F,resolve,invoke,builtin,Builtin.len_,run_underlying ak,goInt,tF aA]
theorem Mp{w:World}{k:Nat→World→Prop}(h:pf w k):∃ r I,r=w.heap.size∧I=w.alloc (.map #[] 0)∧k r I:=⟨_,_,rfl,rfl,h⟩
theorem Nf{t:TypeId}{r:Nat}(ab:A.op=.makeMap t none)(Z:r=w.heap.size)(hw:I=w.alloc (.map #[] 0)):(execOp (Y n f) A).run P w=.ok (.value (.map (some r))) I:=by
 subst Z; subst hw; simp[execOp,ab,Instr.makeMap]
theorem Zo{S:Type}(key:Int)(v:S):∀ (es:List (Int×S)) (l:Nat) (u:S),es[l]?=some (key,u)→(∀ c,c<l→(es[c]?.map (·.1))≠some key)→bM key v es=es.set l (key,v)
 |[],l,u,h,_=>by simp at h
 |(a,b)::es,0,u,h,_=>by simp at h; simp[bM,h.1]
 |(a,b)::es,l+1,u,h,aj=>by
  have am:=aj 0 (by omega);have ec:(key==a)=false:=by simp at am; simpa using fun e=>am e.symm
  simp only[bM,ec,Bool.false_eq_true,if_false,List.set_cons_succ];rw[Zo key v es l u (by simpa using h) fun c Ct=>by simpa using aj (c+1) (by omega)]
theorem DU{S:Type}(key:Int)(v:S):∀ (es:List (Int×S)),es.lookup key=none→bM key v es=es++[(key,v)]
 |[],_=>rfl
 |(a,b)::es,h=>by
  by_cases e:(key==a)=true
  ·simp[List.lookup,e] at h
  ·simp only[List.lookup,e] at h;simp[bM,e,DU key v es h]
theorem SF{S:Type}(key:Int):∀ (es:List (Int×S)) (l:Nat) (u:S),es[l]?=some (key,u)→(∀ c,c<l→(es[c]?.map (·.1))≠some key)→del key es=es.eraseIdx l
 |[],l,u,h,_=>by simp at h
 |(a,b)::es,0,u,h,_=>by simp at h; simp[del,h.1]
 |(a,b)::es,l+1,u,h,aj=>by
  have am:=aj 0 (by omega);have ec:(key==a)=false:=by simp at am; simpa using fun e=>am e.symm
  simp only[del,ec,Bool.false_eq_true,if_false,List.eraseIdx_cons_succ];rw[SF key es l u (by simpa using h) fun c Ct=>by simpa using aj (c+1) (by omega)]
theorem SG{S:Type}(key:Int):∀ (es:List (Int×S)),es.lookup key=none→del key es=es
 |[],_=>rfl
 |(a,b)::es,h=>by
  by_cases e:(key==a)=true
  ·simp[List.lookup,e] at h
  ·simp only[List.lookup,e] at h;simp[del,e,SG key es h]
theorem A5{S:Type}{T:a_ S}{t kL j_:TypeId}{k:IntKind}{r:Option Nat}{key:Int}{v:S}{next:Act→World→Prop}{aa:World→Prop}{d:Option Nat}(aC:A.dst=d)(ab:A.op=.mapUpdate t x N aL∨A.op=.insert t x N aL)(ak:P.underlying t=some (.map kL j_))
  (al:P.underlying kL=some (.int k)) (F:Y n f x=.map r) (aJ:Y n f N=.int k key) (cb:Y n f aL=T.enc v) (h:nb T k r key v w aa) (b7:∀ I,aa I→next (act n (fL f d undef) ay) I) :
  kW P A (act n f ay) w next Q:=by
 rw[lG];subst aC;obtain⟨b,es,rfl,⟨arr,o,aA,n9,xZ⟩,h⟩:=h;have fI:∀ I,(Instr.mapUpdate t (.map (some b)) (.int k key) (T.enc v)).run P w=.ok () I→(execOp (Y n f) A).run P w=.ok .skip I:=by
  intro I hw;rcases ab with ab | ab<;>simp only[execOp,ab,F,aJ,cb,Sem.run_bind,hw,Result.andThen_ok,Sem.run_pure]
 rcases Fm (P:=P) (w:=w) al key n9 with ⟨B,J⟩ | ⟨l,u,B,J,au,a8⟩
 ·have hS:(Instr.mapUpdate t (.map (some b)) (.int k key) (T.enc v)).run P w=.ok () (sQ w b (arr.push { key:=.int k key,val:=T.enc v,born:=o }) (o+1)):=by
   simp only[Instr.mapUpdate,Sem.run_bind,run_underlying ak,Result.andThen_ok,tF aA,run_checkKey al,J,Dx aA]
  simp only[Oper.wp,gY,fI _ hS,Oper.upon_skip,g5];refine b7 _ (h _ _ ?_ (aex xZ));simp only[qb] at n9 ⊢;rw[DU key v es B];simp[n9]
 ·have ajI:∃ e,arr[l]?=some e∧e.key=.int k key:=by
   have:=congrArg (·[l]?) n9;simp only[List.getElem?_map,au,Option.map_some] at this;cases ag:arr[l]? with
   |none=>simp[ag] at this
   |some e=>simp[ag] at this; exact⟨e,rfl,this.1⟩
  obtain⟨e,he,Fx⟩:=ajI;have akp:(Instr.keyThatStays (((arr[l]?).map (·.key)).getD (.int k key)) (.int k key)).run P w=.ok (.int k key) w:=by
   simp[he,Fx,Instr.keyThatStays,Instr.sameBits]
  have hS:(Instr.mapUpdate t (.map (some b)) (.int k key) (T.enc v)).run P w=.ok () (sQ w b (arr.modify l fun e=>{ e with key:=.int k key,val:=T.enc v }) o):=by
   simp only[Instr.mapUpdate,Sem.run_bind,run_underlying ak,Result.andThen_ok,tF aA,run_checkKey al,J,akp,Dx aA]
  simp only[Oper.wp,gY,fI _ hS,Oper.upon_skip,g5];have ah5:(arr.modify l fun e=>{ e with key:=.int k key,val:=T.enc v }).toList.map (·.born)=arr.toList.map (·.born):=by
   apply List.ext_getElem?;intro c;simp only[List.getElem?_map,Array.getElem?_toList,Array.getElem?_modify];by_cases aT:l=c
   ·subst aT; cases arr[l]?<;>simp
   ·simp[aT]
  refine b7 _ (h _ _ ?_ (aey xZ ah5));simp only[qb] at n9 ⊢;rw[Zo key v es l u au a8];apply List.ext_getElem?;intro c;have aj:=congrArg (·[c]?) n9;simp only[List.getElem?_map,Array.getElem?_toList] at aj;simp only[List.getElem?_map,Array.getElem?_toList,Array.getElem?_modify,List.getElem?_set];by_cases aT:l=c
  ·subst aT;have cA:l<es.length:=(List.getElem?_eq_some_iff.1 au).1;simp[he,cA]
  ·simp[aT,aj]
theorem map_eraseIdx{S ev:Type}(g:S→ev):∀ (c:List S) (i:Nat),(c.eraseIdx i).map g=(c.map g).eraseIdx i
 |[],_=>rfl
 |_::_,0=>rfl
 |a::c,i+1=>by simp[map_eraseIdx g c i]
theorem Ox{S:Type}{T:a_ S}{t kL j_ gC:TypeId}{k:IntKind}{r:Option Nat}{key:Int}{next:Act→World→Prop}{aa:World→Prop}{d:Option Nat}(aC:A.dst=d)(ab:A.op=.call { callee:=.builtin .delete,args:=#[x,N],argTypes:=#[t,gC] })(ak:P.underlying t=some (.map kL j_))
  (al:P.underlying kL=some (.int k)) (F:Y n f x=.map r) (aJ:Y n f N=.int k key) (h:C6 T k r key w aa) (b7:∀ I,aa I→next (act n (fL f d (.tuple #[])) ay) I) :
  kW P A (act n f ay) w next Q:=by
 rw[lG];subst aC;have fI:∀ I,(Builtin.delete_ #[t,gC] A.type #[.map r,.int k key]).run P w=.ok (.tuple #[]) I→(execOp (Y n f) A).run P w=.ok (.value (.tuple #[])) I:=by
  intro I hw;simp only[execOp,ab,resolve,invoke,builtin,List.map_toArray,List.map_cons,List.map_nil,F,aJ,pure_bind,Sem.run_bind,hw,Result.andThen_ok,Sem.run_pure]
 cases r with
 |none=>
  have hS:(Builtin.delete_ #[t,gC] A.type #[.map none,.int k key]).run P w=.ok (.tuple #[]) w:=by
   simp[Builtin.delete_,run_underlying ak,run_checkKey al]
  simp only[Oper.wp,gY,fI _ hS,Oper.upon_value,g5];exact b7 _ h
 |some b=>
  obtain⟨es,⟨arr,o,aA,n9,xZ⟩,h⟩:=h;rcases Fm (P:=P) (w:=w) al key n9 with ⟨B,J⟩ | ⟨l,u,B,J,au,a8⟩
  ·have hS:(Builtin.delete_ #[t,gC] A.type #[.map (some b),.int k key]).run P w=.ok (.tuple #[]) (sQ w b arr o):=by
    simp[Builtin.delete_,run_underlying ak,tF aA,run_checkKey al,J,Dx aA]
   simp only[Oper.wp,gY,fI _ hS,Oper.upon_value,g5];refine b7 _ (h _ _ ?_ xZ);rw[SG key es B]; exact n9
  ·have hS:(Builtin.delete_ #[t,gC] A.type #[.map (some b),.int k key]).run P w=.ok (.tuple #[]) (sQ w b (arr.eraseIdxIfInBounds l) o):=by
    simp[Builtin.delete_,run_underlying ak,tF aA,run_checkKey al,J,Dx aA]
   simp only[Oper.wp,gY,fI _ hS,Oper.upon_value,g5];have K2:(arr.eraseIdxIfInBounds l).toList.Sublist arr.toList:=by
    unfold Array.eraseIdxIfInBounds;split
    ·rw[Array.toList_eraseIdx]; exact List.eraseIdx_sublist _ _
    ·exact List.Sublist.refl _
   refine b7 _ (h _ _ ?_ (aez xZ K2));rw[SF key es l u au a8];simp only[qb] at n9 ⊢;have a7:l<arr.size:=by
    have cA:l<es.length:=(List.getElem?_eq_some_iff.1 au).1;have:=congrArg List.length n9;simp at this; omega
   simp only[Array.eraseIdxIfInBounds,a7,dif_pos,Array.toList_eraseIdx];rw[map_eraseIdx,n9,map_eraseIdx]
def tf{S:Type}(T:a_ S)(ao:Nat)(aL:S)(s:X)(w:World)(aa:World→Prop):Prop:=match s.a with
 |none=>aa w
 |some a=>td w a (s.len*ao)∧aa (mx w a 0 ((List.replicate s.len aL).flatMap T.cells))
theorem Yl{S:Type}{T:a_ S}{ao:Nat}{aL:S}(aj:(T.cells aL).length=ao)(m:Nat):((List.replicate m aL).flatMap T.cells).length=m*ao:=by
 induction m with
 |zero=>simp
 |succ m b8=>rw[List.replicate_succ,List.flatMap_cons,List.length_append,b8,aj,Nat.add_mul]; omega
theorem Z3{S:Type}{T:a_ S}{ao:Nat}{aL:S}(ap:(T.enc aL).cells=(T.cells aL).toArray)(aj:(T.cells aL).length=ao):∀ m:Nat,(Builtin.zeroCells (T.enc aL).cells m).toList=(List.replicate m aL).flatMap T.cells:=by
 intro m;rw[ap];apply List.ext_getElem?;intro l;simp only[Builtin.zeroCells,List.size_toArray,aj,Array.toList_map,Array.toList_range,List.getElem?_map];by_cases a7:l<m*ao
 ·have lq:0<ao:=by
   rcases Nat.eq_zero_or_pos ao with h | h
   ·rw[h] at a7; omega
   ·exact h
  have aA1:l%ao<ao:=Nat.mod_lt _ lq;rw[List.getElem?_range (by simpa using a7)];simp only[Option.map_some];have:∀ (m l:Nat),l<m*ao→((List.replicate m aL).flatMap T.cells)[l]?=(T.cells aL)[l%ao]?:=by
   intro m;induction m with
   |zero=>intro l a7; simp at a7
   |succ m b8=>
    intro l a7;rw[List.replicate_succ,List.flatMap_cons];by_cases cA:l<ao
    ·rw[List.getElem?_append_left (by omega),Nat.mod_eq_of_lt cA]
    ·rw[List.getElem?_append_right (by omega),aj,b8 (l-ao) (by rw[Nat.add_mul] at a7; omega)];congr 1;exact (Nat.mod_eq_sub_mod (by omega)).symm
  rw[this m l a7];rw[List.getElem?_eq_getElem (by omega)];simp only[Option.some.injEq];have cA:l%ao<(T.cells aL).toArray.size:=by simp; omega
  rw[getElem!_pos (T.cells aL).toArray (l%ao) cA]; simp
 ·rw[List.getElem?_eq_none (by simpa using a7),List.getElem?_eq_none (by rw[Yl aj]; omega)];rfl
theorem Oq{S:Type}{T:a_ S}{ao U:Nat}{t e:TypeId}{s:X}{aL:S}{next:Act→World→Prop}{aa:World→Prop}{d:Option Nat}(aC:A.dst=d)(ab:A.op=.call { callee:=.builtin .clear,args:=#[x],argTypes:=#[t] })(ak:P.underlying t=some (.slice e))(ok:cm P e T ao)
  (cb:∃ i,P.info? e=some i∧i.zero=some (T.enc aL)∧i.size=ao∧i.bytes=U) (F:Y n f x=O.enc s) (h:tf T ao aL s w aa) (b7:∀ I,aa I→next (act n (fL f d (.tuple #[])) ay) I):kW P A (act n f ay) w next Q:=by
 rw[lG];subst aC;obtain⟨i,aq,rh,aF,_⟩:=cb;obtain⟨a,len,cap⟩:=s;have fI:∀ I,(Builtin.clear_ #[t] A.type #[.slice a len cap]).run P w=.ok (.tuple #[]) I→(execOp (Y n f) A).run P w=.ok (.value (.tuple #[])) I:=by
  intro I hw;simp only[execOp,ab,resolve,invoke,builtin,List.map_toArray,List.map_cons,List.map_nil,F,pure_bind,Sem.run_bind,hw,Result.andThen_ok,Sem.run_pure]
 have KO:∀ v∈(List.replicate len aL).flatMap T.cells,v.oneCell'=true:=fun v ax=>by
  obtain⟨N,_,aJ⟩:=List.mem_flatMap.1 ax; exact ok.one N v aJ
 cases a with
 |none=>
  have hS:(Builtin.clear_ #[t] A.type #[.slice none len cap]).run P w=.ok (.tuple #[]) w:=by
   simp[Builtin.clear_,run_underlying ak]
  simp only[Oper.wp,gY,fI _ hS,Oper.upon_value,g5];exact b7 _ h
 |some a=>
  simp only[tf] at h;have hS:(Builtin.clear_ #[t] A.type #[.slice (some a) len cap]).run P w=.ok (.tuple #[]) (mx w a 0 ((List.replicate len aL).flatMap T.cells)):=by
   cases len with
   |zero=>simp[Builtin.clear_,run_underlying ak,mx]
   |succ len=>
    have J:=AM (P:=P) a ((List.replicate (len+1) aL).flatMap T.cells) 0 w (by
     intro l a7;rw[Nat.zero_add];refine h.1 l ?_;rw[Yl (ok.len aL)] at a7
     exact a7) KO
    have yk:=Z3 (T:=T) (ok.flat aL) (ok.len aL) (len+1);simp only[Builtin.clear_];simp[run_underlying ak,zeroValue,typeInfo,aq,rh,yk,J]
  simp only[Oper.wp,gY,fI _ hS,Oper.upon_value,g5];exact b7 _ h.2
theorem EZ{w:World}{A u:Obj}{r:Nat}(h:w.heap[r]?=some u):(w.alloc A).heap[r]?=some u:=by
 have cA:r<w.heap.size:=(Array.getElem?_eq_some_iff.1 h).1;simp only[World.alloc,Array.getElem?_push];rw[if_neg (by omega)]; exact h
theorem U7{S:Type}{T:a_ S}{k:IntKind}{m:Option Nat}{key:Int}{u:Option S}{w I:World}{A:Obj}(hw:I=w.alloc A)(h:fO T k m key w u):fO T k m key I u:=by
 subst hw;cases m with
 |none=>exact h
 |some r=>obtain⟨es,⟨arr,o,aA,Z⟩,hu⟩:=h; exact⟨es,⟨arr,o,EZ aA,Z⟩,hu⟩
theorem atk{m:Option Nat}{c:Nat}{w I:World}{A:Obj}(hw:I=w.alloc A)(h:nu m w c):nu m I c:=by
 subst hw;cases m with
 |none=>exact h
 |some r=>obtain⟨arr,o,aA,aj⟩:=h; exact⟨arr,o,EZ aA,aj⟩
end
end ba
namespace ba
open Go.ChangeMaps
section
variable {P:Program} {Q:Exit→Act→World→Prop} {n:Nat} {f:Nat→Value} {ay:List Deferred} {w I:World} {ops:Array Oper} {i:Nat} {rest:List Nat} {A:Oper} {x N aL:Operand}
def GQ(m:Option Nat)(w:World)(k:Addr→World→Prop):Prop:=match m with
 |none=>k ⟨w.heap.size,0,none⟩ (w.alloc (.mapIter none 0 #[] 0))
 |some b=>∃ arr o,w.heap[b]?=some (.map arr o)∧k ⟨w.heap.size,0,none⟩ (w.alloc (.mapIter (some b) o #[] o))
theorem OB{t kL j_:TypeId}{r:Option Nat}{next:Act→World→Prop}{aa:Addr→World→Prop}{d:Option Nat}(aC:A.dst=d)(ab:A.op=.range t x)(ak:P.underlying t=some (.map kL j_))(F:Y n f x=.map r)
  (h:GQ r w aa) (b7:∀ a I,aa a I→next (act n (fL f d (.pointer (some a))) ay) I):kW P A (act n f ay) w next Q:=by
 rw[lG];subst aC;cases r with
 |none=>
  have hS:=run_range_nilMap (P:=P) w t kL j_ ak;have fI:(execOp (Y n f) A).run P w=.ok (.value (.pointer (some ⟨w.heap.size,0,none⟩))) (w.alloc (.mapIter none 0 #[] 0)):=by simp[execOp,ab,F,hS]
  simp only[Oper.wp,gY,fI,Oper.upon_value,g5];exact b7 _ _ h
 |some b=>
  obtain⟨arr,o,aA,h⟩:=h;have hS:=run_range_map (P:=P) w t kL j_ b arr o ak aA;have fI:(execOp (Y n f) A).run P w=.ok (.value (.pointer (some ⟨w.heap.size,0,none⟩))) (w.alloc (.mapIter (some b) o #[] o)):=by simp[execOp,ab,F,hS]
  simp only[Oper.wp,gY,fI,Oper.upon_value,g5];exact b7 _ _ h
theorem Ow{t kL j_:TypeId}{r:Option Nat}{next:Act→World→Prop}{aa:World→Prop}{d:Option Nat}(aC:A.dst=d)(ab:A.op=.call { callee:=.builtin .clear,args:=#[x],argTypes:=#[t] })(ak:P.underlying t=some (.map kL j_))(F:Y n f x=.map r)
  (h:auw r w aa) (b7:∀ I,aa I→next (act n (fL f d (.tuple #[])) ay) I):kW P A (act n f ay) w next Q:=by
 rw[lG];subst aC;have fI:∀ I,(Builtin.clear_ #[t] A.type #[.map r]).run P w=.ok (.tuple #[]) I→(execOp (Y n f) A).run P w=.ok (.value (.tuple #[])) I:=by
  intro I hw;simp only[execOp,ab,resolve,invoke,builtin,List.map_toArray,List.map_cons,List.map_nil,F,pure_bind,Sem.run_bind,hw,Result.andThen_ok,Sem.run_pure]
 cases r with
 |none=>
  have hS:(Builtin.clear_ #[t] A.type #[.map none]).run P w=.ok (.tuple #[]) w:=by simp[Builtin.clear_,run_underlying ak]
  simp only[Oper.wp,gY,fI _ hS,Oper.upon_value,g5];exact b7 _ h
 |some b=>
  obtain⟨arr,o,aA,h⟩:=h;have hS:(Builtin.clear_ #[t] A.type #[.map (some b)]).run P w=.ok (.tuple #[]) (sQ w b #[] o):=by
   simp[Builtin.clear_,run_underlying ak,tF aA,Dx aA]
  simp only[Oper.wp,gY,fI _ hS,Oper.upon_value,g5];exact b7 _ h
def Mr:Option (Value×Value)→Value
 |none=>.tuple #[.bool false]
 |some p=>.tuple #[.bool true,p.1,p.2]
def Ge(a:Addr)(w:World)(k:Option (Value×Value)→World→Prop):Prop:=
 ∃ r ep g0 seen dk es clock,a=⟨r,0,none⟩∧w.heap[r]?=some (.mapIter (some ep) g0 seen dk)∧w.heap[ep]?=some (.map es clock)∧(∀ e∈es.toList,e.born<g0)∧g0≤dk ∧
  ((leftOf es seen).size=0→k none w)∧∀ e∈(leftOf es seen).toList,∀ eu,eu=w∨eu=w.drew→k (some (e.key,e.val)) (setBlock eu r (.mapIter (some ep) g0 (seen.push e.born) clock))
theorem OA{a:Addr}{next:Act→World→Prop}{aa:Option (Value×Value)→World→Prop}{d:Option Nat}(aC:A.dst=d)(ab:A.op=.next x false)(F:Y n f x=.pointer (some a))
  (h:Ge a w aa) (b7:∀ q I,aa q I→next (act n (fL f d (Mr q)) ay) I):kW P A (act n f ay) w next Q:=by
 rw[lG];subst aC;obtain⟨r,ep,g0,seen,dk,es,clock,rfl,Z,aA,hold,akl,am,B⟩:=h;rcases run_next_at (P:=P) w A.type r ep g0 dk seen es clock Z aA hold akl with ⟨cb,hS⟩ | ⟨e,he,eu,u7,hS⟩
 ·have fI:(execOp (Y n f) A).run P w=.ok (.value (.tuple #[.bool false])) w:=by simp[execOp,ab,F,hS]
  simp only[Oper.wp,gY,fI,Oper.upon_value,g5];exact b7 none _ (am cb)
 ·have fI:(execOp (Y n f) A).run P w=.ok (.value (.tuple #[.bool true,e.key,e.val])) (setBlock eu r (.mapIter (some ep) g0 (seen.push e.born) clock)):=by simp[execOp,ab,F,hS]
  simp only[Oper.wp,gY,fI,Oper.upon_value,g5];exact b7 (some (e.key,e.val)) _ (B e he eu u7)
theorem XD{q:Option (Value×Value)}(ab:A.op=.extract x 0)(F:Y n f x=Mr q):(execOp (Y n f) A).run P w=.ok (.value (.bool q.isSome)) w:=by
 cases q<;>simp[execOp,ab,F,Instr.extract,Mr]
def mJ{S:Type}(T:a_ S)(k:IntKind)(a:Addr)(w:World)(p:Int×S):Prop:=
 ∃ r ep g0 seen es clock e,a=⟨r,0,none⟩∧w.heap[r]?=some (.mapIter (some ep) g0 (Array.push seen (MapEntry.born e)) clock)∧w.heap[ep]?=some (.map es clock)∧e∈es.toList∧(es.toList.map (·.born)).Nodup∧e.key=.int k p.1∧e.val=T.enc p.2
theorem Xx{S:Type}{T:a_ S}{k:IntKind}{a:Addr}{p:Int×S}(ab:A.op=.entry x)(F:Y n f x=.pointer (some a))(h:mJ T k a w p):(execOp (Y n f) A).run P w=.ok (.value (.tuple #[.int k p.1,T.enc p.2])) w:=by
 obtain⟨r,ep,g0,seen,es,clock,e,rfl,Z,aA,he,aO,B,J⟩:=h;have hS:=run_entry_at (P:=P) w r ep g0 seen es clock e Z aA he aO;simp[execOp,ab,F,hS,B,J]
theorem atj{S:Type}{T:a_ S}{k:IntKind}{a:Addr}{p:Int×S}{w I:World}{A:Obj}(hw:I=w.alloc A)(h:mJ T k a w p):mJ T k a I p:=by
 subst hw;obtain⟨r,ep,g0,seen,es,clock,e,rfl,Z,aA,h⟩:=h;exact⟨r,ep,g0,seen,es,clock,e,rfl,EZ Z,EZ aA,h⟩
end
section
variable {P:Program} {Q:Exit→Act→World→Prop} {n:Nat} {f:Nat→Value} {ay:List Deferred} {w I:World} {ops:Array Oper} {i:Nat} {rest:List Nat} {A:Oper} {x N aL:Operand}
theorem Ng{a b:Int}{k:IntKind}{BO:Array TypeId}(ab:A.op=.call { callee:=.builtin .max,args:=#[x,N],argTypes:=BO })(F:Y n f x=.int k a)(aJ:Y n f N=.int k b) :
  (execOp (Y n f) A).run P w=.ok (.value (.int k (max a b))) w:=by
 have h:=run_max_int2 (P:=P) (w:=w) BO A.type k k a b;have e:(if b>a then b else a)=max a b:=by omega
 rw[e] at h;simp only[execOp,ab,resolve,invoke,builtin,List.map_toArray,List.map_cons,List.map_nil,F,aJ,pure_bind,Sem.run_bind,h,Result.andThen_ok,Sem.run_pure]
theorem XM{a b:Int}{k:IntKind}{BO:Array TypeId}(ab:A.op=.call { callee:=.builtin .min,args:=#[x,N],argTypes:=BO })(F:Y n f x=.int k a)(aJ:Y n f N=.int k b) :
  (execOp (Y n f) A).run P w=.ok (.value (.int k (min a b))) w:=by
 have h:=run_min_int2 (P:=P) (w:=w) BO A.type k k a b;have e:(if b<a then b else a)=min a b:=by omega
 rw[e] at h;simp only[execOp,ab,resolve,invoke,builtin,List.map_toArray,List.map_cons,List.map_nil,F,aJ,pure_bind,Sem.run_bind,h,Result.andThen_ok,Sem.run_pure]
theorem XH{t:TypeId}{fw:Array Field}{fd:Field}{k off:Nat}{d:TypeDesc}{o:List Value}{v:Value}(ab:A.op=.field t x k)(ak:P.underlying t=some (.struct fw))(ap:fw[k]?=some fd)
  (wC:fd.offset=off) (aC:P.underlying fd.type=some d) (ag:te d=false) (F:Y n f x=.agg o.toArray) (ax:o[off]?=some v):(execOp (Y n f) A).run P w=.ok (.value v) w:=by
 subst wC;have h:=oC (P:=P) (w:=w) (t:=fd.type) (a4:=o.toArray) (off:=fd.offset) aC ag (by simpa using ax);simp[execOp,ab,F,Instr.field,run_underlying ak,ap,asAgg,h]
theorem XI{t:TypeId}{fw:Array Field}{fd:Field}{k off m U:Nat}{d:TypeDesc}{o:List Value}{v nV:Value}(ab:A.op=.field t x k)(ak:P.underlying t=some (.struct fw))(ap:fw[k]?=some fd)
  (wC:fd.offset=off) (aC:P.underlying fd.type=some d) (ag:te d=true) (F:Y n f x=.agg o.toArray) (cb:∃ i,P.info? fd.type=some i∧i.zero=some nV∧i.size=m∧i.bytes=U) (ax:Value.agg ((o.drop off).take m).toArray=v):(execOp (Y n f) A).run P w=.ok (.value v) w:=by
 subst wC;subst ax;obtain⟨i,aq,_,aF,_⟩:=cb;have h:=ax2 (P:=P) (w:=w) (t:=fd.type) (a4:=o.toArray) (off:=fd.offset) (m:=m) (ay:=((o.drop fd.offset).take m).toArray) aC ag ⟨i,aq,aF⟩ (by simp[List.extract_eq_take_drop]);simp[execOp,ab,F,Instr.field,run_underlying ak,ap,asAgg,h]
theorem XL{t e:TypeId}{S:Type}{T:a_ S}{ar:Nat}{v:Vector S ar}{k:IntKind}{i:Int}{u:S}{d:TypeDesc}(ab:A.op=.index t x N)(ak:P.underlying t=some (.array ar e))(ok:cm P e T 1)
  (aC:P.underlying e=some d) (ag:te d=false) (W:∀ x,T.cells x=[T.enc x]) (F:Y n f x=(DO T ar).enc v) (aJ:Y n f N=.int k i) (aq:adj v i u):(execOp (Y n f) A).run P w=.ok (.value (T.enc u)) w:=by
 obtain⟨am,hu⟩:=aq;have aj:i.toNat<ar:=by
  have:=(List.getElem?_eq_some_iff.1 hu).1;simpa using this
 have hm:∀ c:List S,c.flatMap T.cells=c.map T.enc:=by
  intro c;induction c with
  |nil=>rfl
  |cons a c b8=>rw[List.flatMap_cons,W,b8]; rfl
 have wE:Y n f x=.agg (v.toList.map T.enc).toArray:=by rw[F,← hm]
 obtain⟨l,a7,aF⟩:=ok.size;have ae:(v.toList.map T.enc)[i.toNat]?=some (T.enc u):=by rw[List.getElem?_map,hu]; rfl
 have h:=oC (P:=P) (w:=w) (t:=e) (a4:=(v.toList.map T.enc).toArray) (off:=i.toNat) aC ag (by simpa using ae);have cA:i<(ar:Int):=by omega
 simp[execOp,ab,wE,aJ,Instr.index,asIntOf,run_underlying ak,am,cA,run_sizeOf a7,aF,h]
def vn{S:Type}(t:TypeId)(T:a_ S)(U:Nat)(aL:S)(c o:Int)(w:World)(aa:X→World→Prop):Prop:=
 0≤c∧c≤o∧(U:Int)*o≤281474976710656∧o≤9223372036854775807∧aa ⟨some ⟨w.heap.size,0,none⟩,c.toNat,o.toNat⟩ (w.alloc (.cells ((List.replicate o.toNat aL).flatMap T.cells).toArray t))
theorem Oy{S:Type}{T:a_ S}{ao U:Nat}{t e:TypeId}{aL:S}{c o:Int}{next:Act→World→Prop}{aa:X→World→Prop}{d:Option Nat}(aC:A.dst=d)(ab:A.op=.makeSlice t x N)(ak:P.underlying t=some (.slice e))(ok:cm P e T ao)
  (cb:∃ i,P.info? e=some i∧i.zero=some (T.enc aL)∧i.size=ao∧i.bytes=U) (F:Y n f x=.int .i64 c) (aJ:Y n f N=.int .i64 o) (h:vn e T U aL c o w aa) (b7:∀ r I,aa r I→next (act n (fL f d (O.enc r)) ay) I):kW P A (act n f ay) w next Q:=by
 rw[lG];subst aC;obtain⟨i,aq,rh,aF,rfl⟩:=cb;obtain⟨am,B,J,au,h⟩:=h;have hS:=run_make (P:=P) w t e i (T.enc aL) ak aq rh .i64 .i64 c o am B J au;have ah9:madeCells (T.enc aL).cells (o.toNat*i.size)=((List.replicate o.toNat aL).flatMap T.cells).toArray:=by
  have yk:=Z3 (T:=T) (ok.flat aL) (ok.len aL) o.toNat;have aT:(T.enc aL).cells.size=i.size:=by rw[ok.flat aL,aF]; simpa using ok.len aL
  have a0:madeCells (T.enc aL).cells (o.toNat*i.size)=Builtin.zeroCells (T.enc aL).cells o.toNat:=by
   unfold madeCells Builtin.zeroCells; rw[aT]
  rw[a0,← yk]
 rw[ah9] at hS;have fI:(execOp (Y n f) A).run P w=.ok (.value (O.enc ⟨some ⟨w.heap.size,0,none⟩,c.toNat,o.toNat⟩)) (w.alloc (.cells ((List.replicate o.toNat aL).flatMap T.cells).toArray e)):=by
  simp[execOp,ab,F,aJ,hS]
 simp only[Oper.wp,gY,fI,Oper.upon_value,g5];exact b7 _ _ h
def zP{S:Type}(T:a_ S)(ao:Nat)(s b:X)(w:World)(aa:Nat→World→Prop):Prop:=
 ∃ new:List S,new.length=min b.len s.len∧jN T w ⟨b.a,new.length,b.cap⟩ new∧match s.a with
  |none=>aa new.length w
  |some a=>td w a (new.length*ao)∧aa new.length (mx w a 0 (new.flatMap T.cells))
theorem Ov{S:Type}{T:a_ S}{ao:Nat}{t u e:TypeId}{s b:X}{next:Act→World→Prop}{aa:Nat→World→Prop}{d:Option Nat}(aC:A.dst=d)(ab:A.op=.call { callee:=.builtin .copy,args:=#[x,N],argTypes:=#[t,u] })(ak:P.underlying t=some (.slice e))(ok:cm P e T ao)
  (F:Y n f x=O.enc s) (aJ:Y n f N=O.enc b) (h:zP T ao s b w aa) (b7:∀ r I,aa r I→next (act n (fL f d (.int .i64 r)) ay) I):kW P A (act n f ay) w next Q:=by
 rw[lG];subst aC;obtain⟨new,aO,pF,h⟩:=h;obtain⟨i,aq,lq⟩:=ok.size;have x5:=wY (P:=P) ok.len pF;have x5:Sem.run P (Builtin.firstCells ao new.length (Value.slice b.a b.len b.cap)) w=.ok (new.flatMap T.cells).toArray w:=by
  cases aA:b.a with
  |none=>rw[aA] at x5; simpa[Builtin.firstCells] using x5
  |some a=>rw[aA] at x5; exact x5
 have x7:Nat.min b.len s.len=new.length:=aO.symm;have fI:∀ (v:Value) (I:World),(Builtin.copy_ #[t,u] A.type #[O.enc s,O.enc b]).run P w=.ok v I→(execOp (Y n f) A).run P w=.ok (.value v) I:=by
  intro v I ax;simp only[execOp,ab,resolve,invoke,builtin];simp only[List.map_toArray,List.map_cons,List.map_nil,F,aJ,pure_bind,Sem.run_bind,ax,Result.andThen_ok,Sem.run_pure]
 cases ag:s.a with
 |none=>
  rw[ag] at h;have hS:(Builtin.copy_ #[t,u] A.type #[O.enc s,O.enc b]).run P w=.ok (.int .i64 new.length) w:=by
   show (Builtin.copy_ #[t,u] A.type #[.slice s.a s.len s.cap,.slice b.a b.len b.cap]).run P w=_
   simp[Builtin.copy_,run_underlying ak,Builtin.lenOf,run_sizeOf aq,lq,x7,x5,ag,goInt]
  simp only[Oper.wp,gY,fI _ _ hS,Oper.upon_value,g5];exact b7 _ _ h
 |some a=>
  rw[ag] at h;have KO:∀ v∈new.flatMap T.cells,v.oneCell'=true:=fun v ax=>by
   obtain⟨q,_,a5⟩:=List.mem_flatMap.1 ax; exact ok.one q v a5
  have wD:=AM (P:=P) a (new.flatMap T.cells) 0 w (by
   intro l a7;rw[Nat.zero_add];refine h.1 l ?_
   rwa [lR ok.len] at a7) KO
  have hS:(Builtin.copy_ #[t,u] A.type #[O.enc s,O.enc b]).run P w=.ok (.int .i64 new.length) (mx w a 0 (new.flatMap T.cells)):=by
   show (Builtin.copy_ #[t,u] A.type #[.slice s.a s.len s.cap,.slice b.a b.len b.cap]).run P w=_
   simp[Builtin.copy_,run_underlying ak,Builtin.lenOf,run_sizeOf aq,lq,x7,x5,ag,wD,goInt]
  simp only[Oper.wp,gY,fI _ _ hS,Oper.upon_value,g5];exact b7 _ _ h.2
end
end ba
namespace ba
section
variable {P:Program} {Q:Exit→Act→World→Prop} {n:Nat} {f:Nat→Value} {ay:List Deferred} {w I:World} {A:Oper} {x N:Operand}
def ai(c:List UInt8):List Int:=c.map fun b=>(b.toNat:Int)
theorem fr(c:List UInt8):(ai c).length=c.length:=by simp[ai]
theorem tS(c m:List UInt8):ai (c++m)=ai c++ai m:=by simp[ai]
def gi(s:X)(w:World)(r:List UInt8):Prop:=jN (D .u8) w s (ai r)
theorem Fq(k:IntKind):∀ c:List Int,c.flatMap (D k).cells=c.map (Value.int k)
 |[]=>rfl
 |a::c=>by simp[Fq k c]
theorem GC{s t e:TypeId}{b:X}{r:List UInt8}(ab:A.op=.convert s t x)(aF:P.underlying s=some (.slice e))(he:P.underlying e=some (.int .u8))(ak:P.underlying t=some .string)(F:Y n f x=O.enc b)(h:gi b w r) :
  (execOp (Y n f) A).run P w=.ok (.value (.string ⟨r.toArray⟩)) w:=by
 obtain⟨aj,Z⟩:=h;rw[fr] at aj;obtain⟨a,len,cap⟩:=b;simp only at aj Z;subst aj;have B:(convert s t (.slice a r.length cap)).run P w=.ok (.string ⟨r.toArray⟩) w:=by
  cases a with
  |none=>
   have am:ai r=[]:=Z;have:r=[]:=by simpa[ai] using am
   subst this;rw[run_convert_bytes_string w s t e none _ cap aF he ak];rfl
  |some a=>
   refine run_convert_bytes_back w s t e a cap r aF he ak fun l a7=>?_;refine (Z:mb w a _) l _ ?_;rw[Fq];simp[ai,List.getElem?_eq_getElem a7]
 simp only[execOp,ab,F,Sem.run_bind,B,Result.andThen_ok,Sem.run_pure]
def NH(e:TypeId)(s:List UInt8)(w:World)(k:X→World→Prop):Prop:=
 k ⟨some ⟨w.heap.size,0,none⟩,s.length,grownCap w s.length 0 e⟩ (w.drew.alloc (.cells (bytesRow ⟨s.toArray⟩ (grownCap w s.length 0 e)) e ((bytesRow ⟨s.toArray⟩ (grownCap w s.length 0 e)).size,(bytesRow ⟨s.toArray⟩ (grownCap w s.length 0 e)).size+1)))
theorem OC{s t e:TypeId}{b:List UInt8}{d:Option Nat}{next:Act→World→Prop}{aa:X→World→Prop}(aC:A.dst=d)(ab:A.op=.convert s t x)(aF:P.underlying s=some .string)(ak:P.underlying t=some (.slice e))(he:P.underlying e=some (.int .u8))
  (F:Y n f x=.string ⟨b.toArray⟩) (h:NH e b w aa) (b7:∀ r I,aa r I→next (act n (fL f d (O.enc r)) ay) I):kW P A (act n f ay) w next Q:=by
 rw[lG];subst aC;have B:=run_bytes_of_string (P:=P) w s t e ⟨b.toArray⟩ aF ak he;have lq:(⟨b.toArray⟩:ByteArray).size=b.length:=rfl;rw[lq] at B;have fI:(execOp (Y n f) A).run P w=.ok (.value (O.enc ⟨some ⟨w.heap.size,0,none⟩,b.length,grownCap w b.length 0 e⟩)) (w.drew.alloc (.cells (bytesRow ⟨b.toArray⟩ (grownCap w b.length 0 e)) e ((bytesRow ⟨b.toArray⟩ (grownCap w b.length 0 e)).size,(bytesRow ⟨b.toArray⟩ (grownCap w b.length 0 e)).size+1))):=by
  simp only[execOp,ab,F,Sem.run_bind,B,Result.andThen_ok,Sem.run_pure]
 simp only[Oper.wp,gY,fI,Oper.upon_value,g5];exact b7 _ _ h
theorem ati{s:X}{r:List UInt8}{au2:Obj}(hw:I=w.alloc au2)(h:gi s w r):gi s I r:=by
 subst hw;obtain⟨B,J⟩:=h;refine⟨B,?_⟩;obtain⟨a,len,cap⟩:=s;cases a with
 |none=>exact J
 |some a=>exact RN (w:=w) J
def auD(s:X)(w:World)(k:World→Prop):Prop:=∃ a t m,s.a=some a∧w.shape? a.block=some (t,m)∧k (w.freeze ⟨a.block,m,none⟩ 1)
theorem Oz{t e:TypeId}{s:X}{d:Option Nat}{next:Act→World→Prop}{aa:World→Prop}(aC:A.dst=d)(ab:A.op=.convert t t x)(ak:P.underlying t=some (.slice e))(he:P.underlying e=some (.int .u8))
  (F:Y n f x=O.enc s) (h:auD s w aa) (b7:∀ I,aa I→next (act n (fL f d (O.enc s)) ay) I):kW P A (act n f ay) w next Q:=by
 rw[lG];subst aC;obtain⟨a,gC,m,ag,akm,h⟩:=h;have B:(convert t t (O.enc s)).run P w=.ok (O.enc s) (w.freeze ⟨a.block,m,none⟩ 1):=by
  simp[convert,run_underlying ak,run_underlying he,ag,markStringish,akm,Result.andThen]
 have fI:(execOp (Y n f) A).run P w=.ok (.value (O.enc s)) (w.freeze ⟨a.block,m,none⟩ 1):=by
  simp only[execOp,ab,F,Sem.run_bind,B,Result.andThen_ok,Sem.run_pure]
 simp only[Oper.wp,gY,fI,Oper.upon_value,g5];exact b7 _ h
theorem ax1{P:Program}(w:World)(m:Nat)(r:List UInt8):(Builtin.firstCells m r.length (.string ⟨r.toArray⟩)).run P w=.ok ((ai r).flatMap (D .u8).cells).toArray w:=by
 rw[Fq];have lq:(⟨r.toArray⟩:ByteArray).size=r.length:=rfl;simp only[Builtin.firstCells,Sem.run_pure];congr 1;apply Array.ext';have he:(⟨r.toArray⟩:ByteArray).extract 0 r.length=⟨r.toArray⟩:=by rw[← lq]; exact ByteArray.extract_zero_size
 rw[he];simp[ai]
theorem NG(m:Nat)(r:List UInt8):(Builtin.firstCells m r.length (.string ⟨r.toArray⟩)).run P w=.ok ((ai r).flatMap (D .u8).cells).toArray w:=by
 have h:=ax1 (P:=P) w m r;exact h
def Jf(e:TypeId)(s:X)(r:List UInt8)(w:World)(k:X→World→Prop):Prop:=k0 e (D .u8) 1 1 s (ai r) w k
theorem axW{t u gC e:TypeId}{s:X}{r:List UInt8}(ak:P.underlying t=some (.slice e))(hu:P.underlying u=some .string)(ok:cm P e (D .u8) 1)(W:s.len+r.length≤s.cap){a:Addr}(ag:s.a=some a)(hw:td w (a.add (s.len*1)) (r.length*1)) :
  (Builtin.append_ #[t,u] gC #[O.enc s,.string ⟨r.toArray⟩]).run P w=.ok (O.enc ⟨some a,s.len+r.length,s.cap⟩) (mx w (a.add (s.len*1)) 0 ((ai r).flatMap (D .u8).cells)):=by
 obtain⟨ig,aq,iS⟩:=ok.size
 have J:=AM (P:=P) (a.add (s.len*1)) ((ai r).flatMap (D .u8).cells) 0 w (by
  intro l a7;rw[Nat.zero_add];rw[lR ok.len,fr] at a7
  exact hw l a7) (fun v ax=>by obtain⟨x,_,F⟩:=List.mem_flatMap.1 ax; exact ok.one x v F)
 have lq:(⟨r.toArray⟩:ByteArray).size=r.length:=rfl;simp only[Builtin.append_];have B:=NG (P:=P) (w:=w) 1 r;simp[run_underlying ak,run_underlying hu,run_sizeOf aq,Builtin.lenOf,W,iS,ag,lq,B];simp only[Nat.mul_one] at J;rw[show storeCells (a.add s.len) ((ai r).flatMap (D .u8).cells).toArray.toList=storeCells (a.add s.len) ((ai r).flatMap (D .u8).cells) 0 from rfl,J];simp
theorem axX{t u gC e:TypeId}{s:X}{r:List UInt8}(ak:P.underlying t=some (.slice e))(hu:P.underlying u=some .string)(ok:cm P e (D .u8) 1)(W:s.len+r.length≤s.cap)(ag:s.a=none) :
  (Builtin.append_ #[t,u] gC #[O.enc s,.string ⟨r.toArray⟩]).run P w=.ok (O.enc ⟨none,s.len+r.length,s.cap⟩) w:=by
 obtain⟨ig,aq,iS⟩:=ok.size;have lq:(⟨r.toArray⟩:ByteArray).size=r.length:=rfl;have B:=NG (P:=P) (w:=w) 1 r;simp only[Builtin.append_];simp[run_underlying ak,run_underlying hu,run_sizeOf aq,Builtin.lenOf,W,iS,ag,lq,B]
theorem axV{t u gC e:TypeId}{ig:TypeInfo}{s:X}{r:List UInt8}{old:List Int}(ak:P.underlying t=some (.slice e))(hu:P.underlying u=some .string)
  (ok:cm P e (D .u8) 1) (aq:P.info? e=some ig) (cb:ig.zero=some (.int .u8 0)) (z5:ig.bytes=1) (W:s.cap<s.len+r.length) (tn:(s.len+r.length)*1≤140737488355328) (hold:jN (D .u8) w s old) :
  ∃ (o:Nat) (rest:List Value),s.len+r.length≤o∧rest.length=(o-(s.len+r.length))*1 ∧
   (Builtin.append_ #[t,u] gC #[O.enc s,.string ⟨r.toArray⟩]).run P w=.ok (O.enc ⟨some ⟨w.heap.size,0,none⟩,s.len+r.length,o⟩) (w.drew.alloc (.cells ((old++ai r).flatMap (D .u8).cells++rest).toArray e)):=by
 obtain⟨ahd,to,iS⟩:=ok.size;rw[aq] at to; injection to with to; subst to
 have lq:(⟨r.toArray⟩:ByteArray).size=r.length:=rfl;have m1:old.length=s.len:=hold.1;have x0:¬ (s.len+r.length≤s.cap):=by omega
 have ae:=growslice_fits (need:=s.len+r.length) (old:=s.cap) (bytes:=ig.bytes) (by omega) (by rw[z5]; exact tn);have z6:¬ (281474976710656<Builtin.nextslicecap (s.len+r.length) s.cap*ig.bytes):=by omega
 have z4:ig.bytes≠0:=by omega
 refine⟨(Question.appendCap (s.len+r.length) s.cap e).cut (w.tape w.drawn (.appendCap (s.len+r.length) s.cap e)),(Builtin.zeroCells (Value.int .u8 0).cells ((Question.appendCap (s.len+r.length) s.cap e).cut (w.tape w.drawn (.appendCap (s.len+r.length) s.cap e))-(s.len+r.length))).toList,?_,?_,?_⟩
 ·simp only[Question.cut]; omega
 ·simp[Builtin.zeroCells,Value.cells]
 ·have Cg:=NG (P:=P) (w:=w.drew) 1 r;have JW:Sem.run P (Builtin.firstCells 1 s.len (Value.slice s.a s.len s.cap)) w.drew=.ok (old.flatMap (D .u8).cells).toArray w.drew:=wY (P:=P) ok.len (I2 hold);simp only[Builtin.append_];simp[run_underlying ak,run_underlying hu,run_sizeOf aq,Builtin.lenOf,x0,iS,lq,typeInfo,aq,z4,z6,Question.forced,Cg,JW,zeroValue,cb,newRow,List.flatMap_append,World.drew_eq];congr 2;apply Array.ext';simp
theorem Oo{t u e:TypeId}{s:X}{r:List UInt8}{d:Option Nat}{next:Act→World→Prop}{aa:X→World→Prop}(aC:A.dst=d)
  (ab:A.op=.call { callee:=.builtin .append,args:=#[x,N],argTypes:=#[t,u] }) (ak:P.underlying t=some (.slice e)) (hu:P.underlying u=some .string)
  (ok:cm P e (D .u8) 1) (st:∃ i,P.info? e=some i∧i.zero=some (.int .u8 0)∧i.size=1∧i.bytes=1)
  (F:Y n f x=O.enc s) (aJ:Y n f N=.string ⟨r.toArray⟩) (h:Jf e s r w aa) (al:∀ r I,aa r I→next (act n (fL f d (O.enc r)) ay) I) :
  kW P A (act n f ay) w next Q:=by
 rw[lG];subst aC;obtain⟨ig,aq,cb,iS,z5⟩:=st;obtain⟨js,o4⟩:=h;have fI:∀ (w:World) (v:Value) (I:World),(Builtin.append_ #[t,u] A.type #[O.enc s,.string ⟨r.toArray⟩]).run P w=.ok v I→(execOp (Y n f) A).run P w=.ok (.value v) I:=by
  intro w v I ax;simp only[execOp,ab,resolve,invoke,builtin];simp only[List.map_toArray,List.map_cons,List.map_nil,F,aJ,pure_bind,Sem.run_bind,ax,Result.andThen_ok,Sem.run_pure]
 rw[fr] at js o4;by_cases W:s.len+r.length≤s.cap
 ·have js:=js W;cases ag:s.a with
  |none=>
   rw[ag] at js;simp only[Oper.wp,gY,fI _ _ _ (axX ak hu ok W ag),Oper.upon_value,g5];exact al _ _ js
  |some a=>
   rw[ag] at js;simp only[Oper.wp,gY,fI _ _ _ (axW ak hu ok W ag js.1),Oper.upon_value,g5];exact al _ _ js.2
 ·obtain⟨tn,old,hold,o4⟩:=o4 (by omega);obtain⟨o,rest,B,J,au⟩:=axV (gC:=A.type) ak hu ok aq cb z5 (by omega) tn hold;simp only[Oper.wp,gY,fI _ _ _ au,Oper.upon_value,g5];exact al _ _ (o4 o rest B J)
def gS(op:BinOp)(a b:Nat):Bool:=
 match op with
 |.eql=>FloatKind.f64.format.order a b==some .eq
 |.neq=>FloatKind.f64.format.order a b != some .eq
 |.lss=>FloatKind.f64.format.order a b==some .lt
 |.leq=>FloatKind.f64.format.order a b==some .lt||FloatKind.f64.format.order a b==some .eq
 |.gtr=>FloatKind.f64.format.order a b==some .gt
 |.geq=>FloatKind.f64.format.order a b==some .gt||FloatKind.f64.format.order a b==some .eq
 |_=>false
def ag2:BinOp→Bool
 |.eql |.neq |.lss |.leq |.gtr |.geq=>true
 |_=>false
theorem XG{op:BinOp}{a b:Nat}{t u:TypeId}(ab:A.op=.binOp op t x N u)(fI:ag2 op=true)(F:Y n f x=.float .f64 a)(aJ:Y n f N=.float .f64 b) :
  (execOp (Y n f) A).run P w=.ok (.value (.bool (gS op a b))) w:=by
 cases op<;>first
  |cases fI; done
  |simp[execOp,ab,F,aJ,eqGuard_at_float,eqGuard_lss,eqGuard_leq,eqGuard_gtr,eqGuard_geq,binOp,Op.floatCmp,gS]
def xk(op:BinOp)(a b:Nat)(r:Nat):Prop:=floatBits op .f64 a b=some r
def vV(k:IntKind)(b:Nat)(m:Int):Prop:=floatToIntVal .f64 b k=some m
def agZ:BinOp→Bool
 |.add |.sub |.mul |.quo=>true
 |_=>false
theorem XF{op:BinOp}{a b r:Nat}{t u:TypeId}(ab:A.op=.binOp op t x N u)(fI:agZ op=true)(F:Y n f x=.float .f64 a)(aJ:Y n f N=.float .f64 b)(h:xk op a b r) :
  (execOp (Y n f) A).run P w=.ok (.value (.float .f64 r)) w:=by
 have Z:=run_float_arith (P:=P) w op t .f64 a b r h;cases op<;>first
  |cases fI; done
  |simp[execOp,ab,F,aJ,eqGuard_add,eqGuard_sub,eqGuard_mul,eqGuard_quo,Z]
theorem Xw{k:IntKind}{b:Nat}{m:Int}{s t:TypeId}(ab:A.op=.convert s t x)(aF:P.underlying s=some (.float .f64))(ak:P.underlying t=some (.int k))(F:Y n f x=.float .f64 b)(h:vV k b m) :
  (execOp (Y n f) A).run P w=.ok (.value (.int k m)) w:=by
 have Z:=run_convert_float_int (P:=P) w s t .f64 k b m (by rw[aF]; rfl) ak h;simp[execOp,ab,F,Z]
def Ext(P:Program)(k:FuncId)(e:Array Value→Sem Value):Prop:=∃ fn,P.funcs[k]?=some fn∧(fn.name=="runtime.NumGoroutine")=false∧fn.body.isNone=true∧Extern.findNext fn=none∧Extern.find fn=some e
theorem XC{k:FuncId}{e:Array Value→Sem Value}{fW:List Operand}{lB:Array TypeId}{c:List Value}{v:Value}(ab:A.op=.call { callee:=.value (.func k),args:=fW.toArray,argTypes:=lB })(he:Ext P k e)(ag:fW.map (Y n f)=c)(ax:(e c.toArray).run P w=.ok v w) :
  (execOp (Y n f) A).run P w=.ok (.value v) w:=by
 obtain⟨fn,ap,B,J,au,a8⟩:=he;subst ag;have b_:=run_callFunc_extern ap B J au a8 ((fW.map (Y n f)).toArray) w;rw[ax] at b_;simp only[Result.andThen_ok] at b_;simpa[execOp,ab,resolve,Y,Deferred.ofValue,invoke] using b_
theorem XE{k:FuncId}{b:Nat}{lB:Array TypeId}(ab:A.op=.call { callee:=.value (.func k),args:=#[x],argTypes:=lB })(he:Ext P k Extern.MathFloatBits.float64bits)(F:Y n f x=.float .f64 b) :
  (execOp (Y n f) A).run P w=.ok (.value (.int .u64 b)) w:=XC (fW:=[x]) (c:=[.float .f64 b]) ab he (by simp[F]) rfl
theorem M8{k:FuncId}{b:Int}{lB:Array TypeId}(ab:A.op=.call { callee:=.value (.func k),args:=#[x],argTypes:=lB })(he:Ext P k Extern.MathFloatBits.float64frombits)(F:Y n f x=.int .u64 b) :
  (execOp (Y n f) A).run P w=.ok (.value (.float .f64 b.toNat)) w:=XC (fW:=[x]) (c:=[.int .u64 b]) ab he (by simp[F]) rfl
def Uw:TypeDesc→Bool
 |.interface _=>true
 |_=>false
theorem vv{t:TypeId}{d:TypeDesc}{v:Value}(ab:A.op=.makeInterface t x)(ak:P.underlying t=some d)(aC:Uw d=false)(F:Y n f x=v):(execOp (Y n f) A).run P w=.ok (.value (dP.mk t v).enc) w:=by
 subst F;cases d<;>first
  |simp[execOp,ab,Instr.makeInterface,run_underlying ak,dP.enc]; done
  |cases aC
theorem XR{t:TypeId}{a:Int}{k:IntKind}(ab:A.op=.unOp .xor t x)(al:k.signed=false)(F:Y n f x=.int k a):(execOp (Y n f) A).run P w=.ok (.value (.int k (bits .xor k k.max a))) w:=by
 simp[execOp,ab,F,Op.unary,al,intBits_xor]
theorem XQ{t:TypeId}{a:Int}{k:IntKind}(ab:A.op=.unOp .xor t x)(al:k.signed=true)(F:Y n f x=.int k a):(execOp (Y n f) A).run P w=.ok (.value (.int k (bits .xor k (-1) a))) w:=by
 simp[execOp,ab,F,Op.unary,al,intBits_xor]
theorem XP{t:TypeId}{a:Nat}(ab:A.op=.unOp .neg t x)(F:Y n f x=.float .f64 a):(execOp (Y n f) A).run P w=.ok (.value (.float .f64 (Op.negFloat .f64 a))) w:=by
 simp[execOp,ab,F,Op.unary]
end
section
variable {P:Program} {Q:Exit→Act→World→Prop} {n:Nat} {f:Nat→Value} {ay:List Deferred} {w I:World} {A:Oper} {x:Operand}
def wQ(v:dP):List PanicEntry:=[{ v:=v.enc,recovered:=false }]
def RO{S:Type}(T:a_ S)(j:S→World→Prop)(dQ:dP→World→Prop):Ending→World→Prop
 |.returned v,w=>∃ x,v=T.enc x∧j x w
 |.panicked chain,w=>∃ v,chain=wQ v∧dQ v w
 |.outgrown,_=>False
def lM{S:Type}(P:Program)(f:FuncId)(args:List Value)(T:a_ S)(w:World)(dQ:dP→World→Prop)(k:S→World→Prop):Prop:=Calls P f args.toArray w (RO T k dQ)
theorem pL{S:Type}{T:a_ S}{fn:Func}{j:S→World→Prop}{dQ:dP→World→Prop}{v:dP}(h:dQ v w):bodyPost P fn (RO T j dQ) (.panic (wQ v)) (act n f []) w:=⟨rfl,v,rfl,h⟩
theorem vQ{S:Type}{T:a_ S}{k:FuncId}{args:List Value}{d:Option Nat}{next:Act→World→Prop}{aa:S→World→Prop}{dQ:dP→World→Prop}(aC:A.dst=d)
  (ax:(execOp (Y n f) A).run P w=.ok (.enter k args.toArray) w) (h:lM P k args T w dQ aa) (aH:∀ v I,dQ v I→Q (.panic (wQ v)) (act n f ay) I) (al:∀ r I,aa r I→next (act n (fL f d (T.enc r)) ay) I):kW P A (act n f ay) w next Q:=by
 rw[lG];subst aC;refine Sn ax (Calls.mono h fun e I he=>?_);cases e with
 |returned v=>obtain⟨r,rfl,Z⟩:=he; exact al r I Z
 |panicked o=>obtain⟨v,rfl,ax⟩:=he; exact aH v I ax
 |outgrown=>exact he.elim
theorem zi{v:dP}{next:Act→World→Prop}(ab:A.op=.panic x)(F:Y n f x=v.enc)(aO:∃ t u,v=.mk t u)(h:Q (.panic (wQ v)) (act n f ay) w):kW P A (act n f ay) w next Q:=by
 rw[lG];obtain⟨t,u,rfl⟩:=aO;have fI:(execOp (Y n f) A).run P w=.halt (.panic (.iface t u)) w:=by
  simp only[execOp,ab,F];rfl
 simp only[Oper.wp,gY,fI,Oper.upon_panic];exact h
def BR(P:Program)(fn:Func)(nL:List Nat)(j:Ending→World→Prop):Exit→Act→World→Prop
 |.panic chain,a,w=>∀ tmps:Array Value,(∀ s∈nL,tmps.getD s undef=a.tmps.getD s undef)→Leaves P fn tmps j a.defers (.panicking chain) w
 |e,a,w=>bodyPostD P fn j e a w
theorem aeN{f:FuncId}{fn:Func}{o:Code}{c:List Value}{j:Ending→World→Prop}{nL:List Nat}(n:Nat)
  (ap:P.funcs[f]?=some fn) (aO:fn.ntmps=n) (aA:fn.body=some o) (aj:c.length≤n)
  (h:o.wp P (BR P fn nL j) (act n (start c) []) w):Calls P f c.toArray w j:=by
 subst aO;refine calls_of_wp_defers ap aA ?_;rw[NL c _ aj];refine wp_mono h fun e a I h=>?_;cases e with
 |panic o=>exact h _ fun _ _=>rfl
 |_=>exact h
def vk(P:Program)(k:FuncId)(args:List Value)(u:FrameMode)(w:World)(aa:World→Prop):Prop:=
 CallsD P k args.toArray u w fun e np I=>(∃ v,e=.returned v)∧settle np=.returning∧aa I
theorem L0{k:FuncId}{args:List Value}{u:FrameMode}{aa K':World→Prop}(h:vk P k args u w aa)(al:∀ I,aa I→K' I):vk P k args u w K':=
 CallsD.mono h fun _ _ I ⟨B,J,au⟩=>⟨B,J,al I au⟩
theorem as1{k:FuncId}{a4:List Value}(he:dG P k):(invoke (.fn (.func k) a4.toArray) #[]).run P w=.ok (.enter k a4.toArray) w:=by
 obtain⟨fn,ap,aA,aO⟩:=he;have nz:fn.body≠none:=by intro h; simp[h] at aA
 simp[invoke,callFunc,ap,nz,beq_eq_false_iff_ne.1 aO]
def YN:ResultVar→Nat
 |.tmp t=>t
 |.cell a _=>a
def GO(af:List ResultVar):List Nat:=af.map YN
theorem axJ{fn:Func}{af:List ResultVar}{t1 t2:Array Value}(Z:fn.results=af.toArray)(h:∀ s∈GO af,t1.getD s undef=t2.getD s undef):results fn t1=results fn t2:=by
 have e:∀ t,results fn t=(do let w8 ← fn.results.mapM (rv t); pure (if h:w8.size=1 then w8[0] else .tuple w8)):=fun t=>rfl;have hm:∀ c:List ResultVar,(∀ r∈c,rv t1 r=rv t2 r)→c.mapM (rv t1)=c.mapM (rv t2):=by
  intro c;induction c with
  |nil=>intro _; rfl
  |cons a c b8=>
   intro aj;rw[List.mapM_cons,List.mapM_cons,aj a (by simp),b8 (fun r Z=>aj r (by simp[Z]))]
 rw[e,e,Z,Array.mapM_eq_mapM_toList,Array.mapM_eq_mapM_toList,hm _ ?_];intro r T9;have aF:YN r∈GO af:=List.mem_map_of_mem (by simpa using T9);cases r with
 |tmp t=>simp only[rv,h t aF]
 |cell a t=>simp only[rv,h a aF]
theorem Vw{fn:Func}{af:List ResultVar}{k:FuncId}{a4:List Value}{u:FrameMode}{j:Ending→World→Prop}{tmps:Array Value}(hu:u≠.run)(Z:fn.results=af.toArray)(he:dG P k)(ak:∀ s∈GO af,tmps.getD s undef=(act n f ay).tmps.getD s undef)
  (h:vk P k a4 u w fun I=>∃ aK,p4 P n f I af aK∧j (.returned (y4 aK)) I):Leaves P fn tmps j [{ target:=.fn (.func k) a4.toArray,args:=#[] }] u w:=by
 refine leaves_cons hu (as1 he) (CallsD.mono h fun e np I ⟨⟨v,B⟩,J,aK,au,a8⟩=>?_);subst B;simp only[J,Leaves];refine⟨_,?_,a8⟩;rw[axJ Z ak];exact GU Z au
theorem axK{fn:Func}{af:List ResultVar}{k:FuncId}{a4:List Value}{j:Ending→World→Prop}{nL:List Nat}(Z:fn.results=af.toArray)(he:dG P k)
  (h:vk P k a4 .returning w fun I=>∃ aK,p4 P n f I af aK∧j (.returned (y4 aK)) I):BR P fn nL j .ret (act n f [{ target:=.fn (.func k) a4.toArray,args:=#[] }]) w:=
 Vw (by simp) Z he (fun _ _=>rfl) h
theorem WE{fn:Func}{af:List ResultVar}{k:FuncId}{a4:List Value}{j:Ending→World→Prop}{v:dP}(Z:fn.results=af.toArray)(he:dG P k)
  (h:vk P k a4 (.panicking (wQ v)) w fun I=>∃ aK,p4 P n f I af aK∧j (.returned (y4 aK)) I):BR P fn (GO af) j (.panic (wQ v)) (act n f [{ target:=.fn (.func k) a4.toArray,args:=#[] }]) w:=
 fun tmps ak=>Vw (ay:=[{ target:=.fn (.func k) a4.toArray,args:=#[] }]) (by simp) Z he ak h
theorem avX{fn:Func}{nL:List Nat}{j:Ending→World→Prop}{o:List PanicEntry}{a:Act}{d:Option Nat}{v:Value}(aC:∀ s∈nL,d≠some s)(h:BR P fn nL j (.panic o) (a.put d v) w):BR P fn nL j (.panic o) a w:=by
 cases d with
 |none=>exact h
 |some d=>
  intro tmps ak;refine h tmps fun s aF=>?_;rw[ak s aF];have:d≠s:=fun e=>aC s aF (by rw[e]);simp[Act.put,Array.getD_eq_getD_getElem?,Array.getElem?_setIfInBounds,this]
theorem afD{ops:Array Oper}{nL:List Nat}{d:Option Nat}(h:(ops.toList.all fun A=>nL.all fun s=>A.dst != some s)=true)(aC:∃ A∈ops.toList,A.dst=d):∀ s∈nL,d≠some s:=by
 obtain⟨A,ab,rfl⟩:=aC;intro s aF;have:=List.all_eq_true.1 (List.all_eq_true.1 h A ab) s aF;simpa using this
theorem azU{k:FuncId}{a4:List Value}{next:Act→World→Prop}{d:Option Nat}{lB:Array TypeId}(aC:A.dst=d)(ab:A.op=.defer { callee:=.value x,args:=#[],argTypes:=lB })(F:Y n f x=.func (.func k) #[] a4.toArray)
  (h:next (act n (fL f d undef) ({ target:=.fn (.func k) a4.toArray,args:=#[] }::ay)) w):kW P A (act n f ay) w next Q:=by
 rw[lG];subst aC;have fI:(execOp (Y n f) A).run P w=.ok (.defer { target:=.fn (.func k) a4.toArray,args:=#[] }) w:=by
  simp[execOp,ab,F,resolve,Deferred.ofValue]
 simp only[Oper.wp,gY,fI,Oper.upon];have e:(({ (act n f ay) with defers:={ target:=.fn (.func k) a4.toArray,args:=#[] }::ay }:Act).put A.dst undef)=act n (fL f A.dst undef) ({ target:=.fn (.func k) a4.toArray,args:=#[] }::ay):=g5 n f _ A.dst undef
 first
  |exact e▸h
  |(rw[← e] at h; exact h)
def EN(u:FrameMode)(v:dP)(np:FrameMode):Prop:=
 (∃ Gl,u=.panicking ({ v:=v.enc,recovered:=false }::Gl)∧np=.panicking ({ v:=v.enc,recovered:=true }::Gl))∨(u=.returning∧v=.nil∧np=.returning)
theorem axD(v:dP):EN (.panicking (wQ v)) v (.panicking [{ v:=v.enc,recovered:=true }]):=.inl ⟨[],rfl,rfl⟩
theorem axE:EN .returning .nil .returning:=.inr ⟨rfl,rfl,rfl⟩
section
variable {v0:Exit→Act→List Frame→World→Prop} {a4 Jp:List Frame} {ops:Array Oper} {i:Nat} {rest:List Nat} {d:Option Nat}
theorem aeM{f:FuncId}{fn:Func}{o:Code}{c:List Value}{u:FrameMode}{j:Ending→FrameMode→World→Prop}(n:Nat)(ap:P.funcs[f]?=some fn)(aO:fn.ntmps=n)(aA:fn.body=some o)(aj:c.length≤n)
  (h:∀ (mh:Frame) (a4:List Frame),mh.mode=u→o.wpS P (bodyPostS P fn mh a4 j) (act n (start c) []) (mh::a4) w):CallsD P f c.toArray u w j:=by
 subst aO;refine callsD_of_wpS ap aA fun mh a4 hu=>?_;rw[NL c _ aj];exact h mh a4 hu
theorem axP{v:dP}{u np:FrameMode}{mh:Frame}(aq:ops.toList[i]?=some A)(ae:A.guard=none)(aC:A.dst=d)(ab:A.op=.call { callee:=.builtin .recover,args:=#[],argTypes:=#[] })(hu:mh.mode=u)(Z:EN u v np)
  (h:wpOpsS P ops v0 rest (act n (fL f d v.enc) ay) ({ mh with mode:=np }::a4) w):wpOpsS P ops v0 (i::rest) (act n f ay) (mh::a4) w:=by
 subst aC;have fI:(execOp (act n f ay).eval A).run P w=.ok .recover w:=by
  simp[execOp,ab,resolve,invoke,builtin]
 simp only[wpOpsS,ofList aq];rw[if_pos (by simp[Region.wanted,ae])];rw[fI];simp only;rcases Z with ⟨Gl,rfl,rfl⟩ | ⟨rfl,rfl,rfl⟩
 ·have e:recoverD (mh::a4)=some (v.enc,{ mh with mode:=.panicking ({ v:=v.enc,recovered:=true }::Gl) }::a4):=by
   simp only[recoverD,hu]
  rw[e];simp only[g5];exact h
 ·have e:recoverD (mh::a4)=none:=by
   simp only[recoverD,hu]
  rw[e];simp only[g5];have a0:({ mh with mode:=.returning }:Frame)=mh:=by cases mh; simp_all
  rw[a0] at h;exact h
theorem axQ{v:Value}(aq:ops.toList[i]?=some A)(ae:A.guard=none)(aC:A.dst=d)(ax:(execOp (Y n f) A).run P w=.ok (.value v) I)
  (h:wpOpsS P ops v0 rest (act n (fL f d v) ay) a4 I):wpOpsS P ops v0 (i::rest) (act n f ay) a4 w:=by
 subst aC;simp only[wpOpsS,ofList aq];rw[if_pos (by simp[Region.wanted,ae]),gY,ax];simp only[Oper.upon_value,g5];exact h
theorem axO(h:v0 .normal (act n f ay) a4 w):wpOpsS P ops v0 [] (act n f ay) a4 w:=h
theorem azT{id:Nat}(c:List Nat)(aj:List.range ops.size=c)(h:wpOpsS P ops v0 c (act n f ay) a4 w):(Code.region id ops false).wpS P v0 (act n f ay) a4 w:=by
 subst aj; exact wpS_region h
theorem SO{fn:Func}{mh:Frame}{np:FrameMode}{j:World→Prop}(Z:fn.results=#[])(h:j w) :
  bodyPostS P fn mh a4 (fun e DT I=>(∃ v,e=.returned v)∧DT=np∧j I) .normal (act n f []) ({ mh with mode:=np }::a4) w:=by
 refine⟨rfl,np,rfl,.tuple #[],?_,⟨_,rfl⟩,rfl,h⟩;have:=GU (P:=P) (w:=w) (n:=n) (f:=f) (ay:=[]) (fn:=fn) (af:=[]) (aK:=[]) Z .nil;exact this
end
theorem VL{k:FuncId}{args:List Value}{u np:FrameMode}{aa:World→Prop}(h:CallsD P k args.toArray u w fun e DT I=>(∃ v,e=.returned v)∧DT=np∧aa I)(aF:settle np=.returning):vk P k args u w aa:=
 CallsD.mono h fun _ _ I ⟨B,J,au⟩=>⟨B,by rw[J]; exact aF,au⟩
def OL{S:Type}(t:TypeId)(T:a_ S)(aL:S)(x:dP)(p:S×Bool):Prop:=(∃ N,x=.mk t (T.enc N)∧p=(N,true))∨((∀ v,x≠.mk t v)∧p=(aL,false))
theorem MY{S:Type}{T:a_ S}{az5 t:TypeId}{aL:S}{v:dP}{p:S×Bool}{m b:Nat}{N:Operand}(ab:A.op=.typeAssert N az5 t true)(ak:∃ d,P.underlying t=some d∧Uw d=false)(cb:∃ i,P.info? t=some i∧i.zero=some (T.enc aL)∧i.size=m∧i.bytes=b)(F:Y n f N=v.enc)(h:OL t T aL v p) :
  (execOp (Y n f) A).run P w=.ok (.value (.tuple #[T.enc p.1,.bool p.2])) w:=by
 obtain⟨d,ak,aC⟩:=ak;obtain⟨i,aq,rh,_⟩:=cb;have ec:∀ m,d≠.interface m:=by intro m e; subst e; cases aC
 rcases h with ⟨u,rfl,rfl⟩ | ⟨ax,rfl⟩
 ·cases d<;>first
   |cases aC; done
   |simp[execOp,ab,F,dP.enc,Instr.typeAssert,run_underlying ak]; done
 ·cases v with
  |nil=>
   cases d<;>first
    |cases aC; done
    |simp[execOp,ab,F,dP.enc,Instr.typeAssert,run_underlying ak,zeroValue,typeInfo,aq,rh]; done
  |mk pk u=>
   have aku:¬ pk=t:=fun e=>ax u (by rw[e]);cases d<;>first
    |cases aC; done
    |simp[execOp,ab,F,dP.enc,Instr.typeAssert,run_underlying ak,aku,zeroValue,typeInfo,aq,rh]; done
def dP.isNil:dP→Bool
 |.nil=>true
 |.mk _ _=>false
theorem Yw{t:TypeId}{v:dP}{C9:Array (String×TypeId)}(ak:P.underlying t=some (.interface C9)):(Op.equal t v.enc .nilIface).run P w=.ok v.isNil w:=by
 show (Op.equalIn (9999+1) t v.enc .nilIface).run P w=_
 rw[Op.equalIn];simp only[Sem.run_bind,run_underlying ak,Result.andThen_ok];cases v<;>simp[dP.enc,dP.isNil]
theorem Xz{t u:TypeId}{v:dP}{N:Operand}{C9:Array (String×TypeId)}(ab:A.op=.binOp .eql t N (.const .nilIface) u)(ak:P.underlying t=some (.interface C9))(F:Y n f N=v.enc):(execOp (Y n f) A).run P w=.ok (.value (.bool v.isNil)) w:=by
 have W:Y n f (.const .nilIface)=.nilIface:=rfl;have ae:eqGuard .eql t N (.const .nilIface) v.enc .nilIface=pure ():=by cases v<;>cases N<;>rfl
 have aA:binOp .eql t v.enc .nilIface=(do pure (.bool (← Op.equal t v.enc .nilIface))):=by cases v<;>rfl
 have B:=Yw (P:=P) (w:=w) (v:=v) ak;simp only[execOp,ab,F,W,ae,aA,Sem.run_bind,Sem.run_pure,Result.andThen_ok,B]
theorem Ni{t u:TypeId}{v:dP}{N:Operand}{C9:Array (String×TypeId)}(ab:A.op=.binOp .neq t N (.const .nilIface) u)(ak:P.underlying t=some (.interface C9))(F:Y n f N=v.enc):(execOp (Y n f) A).run P w=.ok (.value (.bool (!v.isNil))) w:=by
 have W:Y n f (.const .nilIface)=.nilIface:=rfl;have ae:eqGuard .neq t N (.const .nilIface) v.enc .nilIface=pure ():=by cases v<;>cases N<;>rfl
 have aA:binOp .neq t v.enc .nilIface=(do pure (.bool (!(← Op.equal t v.enc .nilIface)))):=by cases v<;>rfl
 have B:=Yw (P:=P) (w:=w) (v:=v) ak;simp only[execOp,ab,F,W,ae,aA,Sem.run_bind,Sem.run_pure,Result.andThen_ok,B]
section
variable {ops:Array Oper} {i:Nat} {rest:List Nat} {listed:Array Bool} {a2:List (Nat×(World→Prop))} {m:Nat}
theorem bo(k:Nat){v:Value}(aq:ops.toList[i]?=some A)(ae:A.guard=none)(aC:A.dst=some k)(ax:(execOp (Y n f) A).run P w=.ok (.value v) I)
  (h:cI P ops Q rest (act n (av f k v) ay) I):cI P ops Q (i::rest) (act n f ay) w:=kk (d:=some k) aq (.free ae) aC ax h
theorem bd(i k:Nat){v:Value}(G:j1 ops Q)(aq:ops.toList[i]?=some A)(ae:A.guard=none)(aC:A.dst=some k)(ax:∀ w,(execOp (Y n f) A).run P w=.ok (.value v) w)
  (h:gl P ops Q a2 m (listed.setIfInBounds i true) (act n (av f k v) ay) w) (ap:Region.free .any ops listed i=true:=by kernel_rfl) (Z:(Region.ready .any ops listed).contains i=true:=by kernel_rfl):gl P ops Q a2 (m+1) listed (act n f ay) w:=
 bB (i:=i) (d:=some k) G ap Z aq (.free ae) aC ax h
end
end
def v9{S:Type}(P:Program)(gJ:dz)(args:List Value)(T:a_ S)(w:World)(k:S→World→Prop):Prop:=
 ∃ (f:FuncId) (a o:List Value),gJ=.mk (.func f) a.toArray o.toArray∧dG P f∧L P f (a++args++o) T w k
theorem St{S:Type}{P:Program}{T:a_ S}{gJ:dz}{args:List Value}{w:World}{aa K':S→World→Prop}(h:v9 P gJ args T w aa)(al:∀ r I,aa r I→K' r I):v9 P gJ args T w K':=by
 obtain⟨f,a,o,B,J,au⟩:=h
 exact⟨f,a,o,B,J,au.mono fun e I he=>by
  cases e with
  |returned v=>obtain⟨x,F,aJ⟩:=he; exact⟨x,F,al _ _ aJ⟩
  |_=>exact he.elim⟩
section
variable {P:Program} {Q:Exit→Act→World→Prop} {n:Nat} {f:Nat→Value} {ay:List Deferred} {w:World} {A:Oper} {x:Operand}
theorem awN{k:FuncId}{fW:List Operand}{lB:Array TypeId}{c a o:List Value}{gJ:dz}(ab:A.op=.call { callee:=.value x,args:=fW.toArray,argTypes:=lB })(F:Y n f x=gJ.enc)(u3:gJ=.mk (.func k) a.toArray o.toArray)
  (he:dG P k) (ag:fW.map (Y n f)=c):(execOp (Y n f) A).run P w=.ok (.enter k (a++c++o).toArray) w:=by
 obtain⟨fn,ap,aA,aO⟩:=he;have nz:fn.body≠none:=by intro h; simp[h] at aA
 subst u3; subst ag;simp[execOp,ab,resolve,F,dz.enc,Deferred.ofValue,invoke,callFunc,ap,nz,beq_eq_false_iff_ne.1 aO]
theorem Ou{S:Type}{T:a_ S}{fW:List Operand}{lB:Array TypeId}{c:List Value}{gJ:dz}{d:Option Nat}{next:Act→World→Prop}{aa:S→World→Prop}(aC:A.dst=d)(ab:A.op=.call { callee:=.value x,args:=fW.toArray,argTypes:=lB })
  (F:Y n f x=gJ.enc) (ag:fW.map (Y n f)=c) (h:v9 P gJ c T w aa) (al:∀ r I,aa r I→next (act n (fL f d (T.enc r)) ay) I):kW P A (act n f ay) w next Q:=by
 obtain⟨k,a,o,u3,he,h⟩:=h;exact dj aC (awN ab F u3 he ag) h al
end
def Gz(P:Program):Sem Next→Option Value
 |.pure (.value v)=>some v
 |.program k=>Gz P (k P)
 |_=>none
theorem awE{P:Program}:∀ {s:Sem Next} {v:Value},Gz P s=some v→∀ w,s.run P w=.ok (.value v) w:=by
 intro s;induction s with
 |pure a=>
  intro v h w;cases a<;>first | (cases h; rfl) | cases h
 |program k b8=>
  intro v h w;exact b8 P h w
 |_=>intro v h; cases h
def Dw(P:Program)(n:Nat)(ops:Array Oper):Nat→List Nat→(Nat→Value)→Option (Nat→Value)
 |0,_,f=>some f
 |_+1,[],_=>none
 |k+1,i::c,f=>match ops.toList[i]? with
  |some A=>match A.guard with
   |none=>match Gz P (execOp (Y n f) A) with
    |some v=>Dw P n ops k c (fL f A.dst v)
    |none=>none
   |some _=>none
  |none=>none
def fv(A:Option (Nat→Value)):Nat→Value:=A.getD fun _=>undef
section
variable {P:Program} {Q:Exit→Act→World→Prop} {n:Nat} {f:Nat→Value} {ay:List Deferred} {w I:World} {ops:Array Oper}
theorem Yv:∀ (k:Nat) {c:List Nat} {f g:Nat→Value},Dw P n ops k c f=some g→cI P ops Q (c.drop k) (act n g ay) w→cI P ops Q c (act n f ay) w
 |0,c,f,g,h,W=>by
  cases h;exact W
 |k+1,[],f,g,h,W=>by cases h
 |k+1,i::c,f,g,h,W=>by
  unfold Dw at h;cases ab:ops.toList[i]? with
  |none=>rw[ab] at h; cases h
  |some A=>
   rw[ab] at h;simp only at h;cases ae:A.guard with
   |some g=>rw[ae] at h; cases h
   |none=>
    rw[ae] at h;simp only at h;cases ax:Gz P (execOp (Y n f) A) with
    |none=>rw[ax] at h; cases h
    |some v=>
     rw[ax] at h;simp only at h;exact kk (d:=A.dst) ab (.free ae) rfl (awE ax w) (Yv k h W)
theorem bz(k:Nat){c:List Nat}(W:cI P ops Q (c.drop k) (act n (fv (Dw P n ops k c f)) ay) w)(h:(Dw P n ops k c f).isSome=true:=by kernel_rfl):cI P ops Q c (act n f ay) w:=by
 obtain⟨g,ae⟩:=Option.isSome_iff_exists.1 h;rw[ae] at W;exact Yv k ae W
def L9(ops:Array Oper)(i:Nat):Option (Operand×Nat):=match ops.toList[i]? with
 |some A=>match A.op,A.guard,A.dst with
  |.move x,none,some k=>some (x,k)
  |.assign x,none,some k=>some (x,k)
  |_,_,_=>none
 |none=>none
theorem auH{i k:Nat}{x:Operand}(h:L9 ops i=some (x,k)):∃ A:Oper,ops.toList[i]?=some A∧A.guard=none∧A.dst=some k∧(execOp (Y n f) A).run P w=.ok (.value (Y n f x)) w:=by
 unfold L9 at h;cases ab:ops.toList[i]? with
 |none=>rw[ab] at h; cases h
 |some A=>
  rw[ab] at h;simp only at h;obtain⟨op,d,t,p,a,g⟩:=A;split at h
  ·rename_i N o9 aT a0 cS;cases h;exact⟨_,rfl,a0,cS,bZ aT rfl⟩
  ·rename_i N o9 aT a0 cS;cases h;exact⟨_,rfl,a0,cS,yI aT rfl⟩
  ·cases h
theorem m{i k:Nat}{x:Operand}{rest:List Nat}(h:L9 ops i=some (x,k))(W:cI P ops Q rest (act n (av f k (Y n f x)) ay) w):cI P ops Q (i::rest) (act n f ay) w:=by
 obtain⟨A,B,J,au,a8⟩:=auH (P:=P) (n:=n) (f:=f) (w:=w) h;exact bo k B J au a8 W
def CX(ops:Array Oper)(i:Nat):Option (TypeId×Operand×Nat):=match ops.toList[i]? with
 |some A=>match A.op,A.guard,A.dst with
  |.load t x,none,some k=>some (t,x,k)
  |_,_,_=>none
 |none=>none
theorem ks{S:Type}{T:a_ S}{aa:S→Prop}{a:Addr}{t:TypeId}{s i k:Nat}{x:Operand}{rest:List Nat}(ok:cm P t T s)(h:ex (M T a w) aa)(aq:CX ops i=some (t,x,k))(F:Y n f x=.pointer (some a))
  (W:∀ u,M T a w u→aa u→cI P ops Q rest (act n (av f k (T.enc u)) ay) w):cI P ops Q (i::rest) (act n f ay) w:=by
 obtain⟨u,hu,b7⟩:=h;unfold CX at aq;cases ab:ops.toList[i]? with
 |none=>rw[ab] at aq; cases aq
 |some A=>
  rw[ab] at aq;simp only at aq;split at aq
  ·rename_i N o9 pk aT a0 cS;cases aq;exact bo k ab a0 cS (jh aT ok F hu) (W u hu b7)
  ·cases aq
def Mc(ops:Array Oper)(i:Nat):Option (Operand×Nat):=match ops.toList[i]? with
 |some A=>match A.op,A.guard,A.dst with
  |.nilCheck x,none,some k=>some (x,k)
  |_,_,_=>none
 |none=>none
theorem Fe{aa:Addr→Prop}{p:Option Addr}{i k:Nat}{x:Operand}{rest:List Nat}(h:ex (bI p) aa)(aq:Mc ops i=some (x,k))(F:Y n f x=.pointer p)
  (W:∀ a,bI p a→aa a→cI P ops Q rest (act n (av f k (.pointer (some a))) ay) w):cI P ops Q (i::rest) (act n f ay) w:=by
 obtain⟨a,ag,b7⟩:=h;unfold Mc at aq;cases ab:ops.toList[i]? with
 |none=>rw[ab] at aq; cases aq
 |some A=>
  rw[ab] at aq;simp only at aq;split at aq
  ·rename_i N o9 aT a0 cS;cases aq;exact bo k ab a0 cS (og aT (F.trans (congrArg Value.pointer ag))) (W a ag b7)
  ·cases aq
def Jd(ops:Array Oper)(i:Nat):Option (TypeId×Nat):=match ops.toList[i]? with
 |some A=>match A.op,A.guard,A.dst with
  |.alloc t,none,some k=>some (t,k)
  |_,_,_=>none
 |none=>none
theorem q6{S:Type}{T:a_ S}{aa:Addr→World→Prop}{t:TypeId}{s i k U:Nat}{u:S}{rest:List Nat}(ok:cm P t T s)(st:∃ i,P.info? t=some i∧i.zero=some (T.enc u)∧i.size=s∧i.bytes=U)(h:ch t T u w aa)(aq:Jd ops i=some (t,k))
  (W:∀ a I,aa a I→cI P ops Q rest (act n (av f k (.pointer (some a))) ay) I):cI P ops Q (i::rest) (act n f ay) w:=by
 obtain⟨a,I,ag,hw,b7⟩:=rr h;unfold Jd at aq;cases ab:ops.toList[i]? with
 |none=>rw[ab] at aq; cases aq
 |some A=>
  rw[ab] at aq;simp only at aq;split at aq
  ·rename_i pk o9 aT a0 cS;cases aq;exact bo k ab a0 cS (AF aT ok st ag hw) (W a I b7)
  ·cases aq
def NK(ops:Array Oper)(i:Nat):Option (TypeId×Operand×Operand):=match ops.toList[i]? with
 |some A=>match A.op,A.guard,A.dst with
  |.store t x N,none,none=>some (t,x,N)
  |_,_,_=>none
 |none=>none
theorem lQ{S:Type}{T:a_ S}{aa:World→Prop}{t:TypeId}{s i:Nat}{x N:Operand}{a:Addr}{u:S}{rest:List Nat}(ok:cm P t T s)(h:br T a u w aa)(aq:NK ops i=some (t,x,N))(F:Y n f x=.pointer (some a))(aJ:Y n f N=T.enc u)
  (W:∀ I,aa I→cI P ops Q rest (act n f ay) I):cI P ops Q (i::rest) (act n f ay) w:=by
 obtain⟨I,hw,Z,b7⟩:=qM h;unfold NK at aq;cases ab:ops.toList[i]? with
 |none=>rw[ab] at aq; cases aq
 |some A=>
  rw[ab] at aq;simp only at aq;split at aq
  ·rename_i pk ZX aB7 aT a0 cS;cases aq;exact Ys (d:=none) ab (.free a0) cS (qH aT ok F aJ Z hw) (W I b7)
  ·cases aq
end
section
variable {P:Program} {Q:Exit→Act→World→Prop} {n:Nat} {f:Nat→Value} {ay:List Deferred} {w I:World} {ops:Array Oper} {i:Nat} {rest:List Nat} {x N:Operand} {listed:Array Bool} {a2:List (Nat×(World→Prop))} {m:Nat}
def lv(ops:Array Oper)(i:Nat):Option (Op×Option (Nat×Bool)×Option Nat):=(ops.toList[i]?).map fun A=>(A.op,A.guard,A.dst)
theorem qE{p:Op}{g:Option (Nat×Bool)}{d:Option Nat}(h:lv ops i=some (p,g,d)):∃ A:Oper,ops.toList[i]?=some A∧A.op=p∧A.guard=g∧A.dst=d:=by
 unfold lv at h;obtain⟨A,ab,he⟩:=Option.map_eq_some_iff.1 h;cases he;exact⟨A,ab,rfl,rfl,rfl⟩
theorem hP{A:Oper}{g:Bool}{v:Value}(e l d:Nat)(aq:ops.toList[i]?=some A)(B:A.guard=some (l,true))(J:(ops[l]?).bind (·.dst)=some d)(au:Y n f (.tmp d)=iA true (.bool g))(aC:A.dst=some e)(ax:g=true→(execOp (Y n f) A).run P w=.ok (.value v) w)(h:cI P ops Q rest (act n (fL f (some e) (iA g v)) ay) w):cI P ops Q (i::rest) (act n f ay) w:=Dv aq (.h_ l d true g B J au rfl) aC ax h
theorem e5{A:Oper}{o:Bool}{v:Value}(e l d:Nat)(aq:ops.toList[i]?=some A)(B:A.guard=some (l,false))(J:(ops[l]?).bind (·.dst)=some d)(au:Y n f (.tmp d)=iA true (.bool o))(aC:A.dst=some e)(ax:(!o)=true→(execOp (Y n f) A).run P w=.ok (.value v) w)(h:cI P ops Q rest (act n (fL f (some e) (iA (!o) v)) ay) w):cI P ops Q (i::rest) (act n f ay) w:=Dv aq (.no l d true o B J au rfl) aC ax h
theorem Tx{A:Oper}{a o:Bool}{v:Value}(e l d:Nat)(aq:ops.toList[i]?=some A)(B:A.guard=some (l,true))(J:(ops[l]?).bind (·.dst)=some d)(au:Y n f (.tmp d)=iA a (.bool o))(aC:A.dst=some e)(ax:(a&&o)=true→(execOp (Y n f) A).run P w=.ok (.value v) w)(h:cI P ops Q rest (act n (fL f (some e) (iA (a&&o) v)) ay) w):cI P ops Q (i::rest) (act n f ay) w:=Dv aq (.h_ l d a o B J au rfl) aC ax h
theorem aAQ{A:Oper}{a o:Bool}{v:Value}(e l d:Nat)(aq:ops.toList[i]?=some A)(B:A.guard=some (l,false))(J:(ops[l]?).bind (·.dst)=some d)(au:Y n f (.tmp d)=iA a (.bool o))(aC:A.dst=some e)(ax:(a&&(!o))=true→(execOp (Y n f) A).run P w=.ok (.value v) w)(h:cI P ops Q rest (act n (fL f (some e) (iA (a&&(!o)) v)) ay) w):cI P ops Q (i::rest) (act n f ay) w:=Dv aq (.no l d a o B J au rfl) aC ax h
theorem aCq(k:Nat)(v:Value)(B:lv ops i=some (.move x,none,some k))(J:Y n f x=v)(h:cI P ops Q rest (act n (av f k v) ay) w):cI P ops Q (i::rest) (act n f ay) w:=by
 obtain⟨A,ab,aH,ae,aC⟩:=qE B;exact bo k ab ae aC (bZ aH J) h
theorem aCo(k:Nat)(v:Value)(B:lv ops i=some (.assign x,none,some k))(J:Y n f x=v)(h:cI P ops Q rest (act n (av f k v) ay) w):cI P ops Q (i::rest) (act n f ay) w:=by
 obtain⟨A,ab,aH,ae,aC⟩:=qE B;exact bo k ab ae aC (yI aH J) h
theorem km{t:TypeId}{fw:Array Field}{l gC:Nat}{S:Type}{T:a_ S}(k:Nat)(a:Addr)(off:Nat)(ak:P.underlying t=some (.struct fw))(ok:cm P gC T (m+1))(B:lv ops i=some (.fieldAddr t x l,none,some k))
  (ap:(fw[l]?).map (fun g=>(g.offset,g.type))=some (off,gC)) (F:Y n f x=.pointer (some a)) (h:cI P ops Q rest (act n (av f k (.pointer (some (a.add off)))) ay) w):cI P ops Q (i::rest) (act n f ay) w:=by
 obtain⟨A,ab,aH,ae,aC⟩:=qE B;obtain⟨g,Kb,he⟩:=Option.map_eq_some_iff.1 ap;cases he;exact bo k ab ae aC (kh aH ak Kb rfl ok (by omega) F) h
theorem aCp{t:TypeId}{S:Type}{T:a_ S}{a:Addr}{u:S}(k:Nat)(Z:M T a w u)(ok:cm P t T m)(B:lv ops i=some (.load t x,none,some k))(F:Y n f x=.pointer (some a))(h:cI P ops Q rest (act n (av f k (T.enc u)) ay) w):cI P ops Q (i::rest) (act n f ay) w:=by
 obtain⟨A,ab,aH,ae,aC⟩:=qE B;exact bo k ab ae aC (jh aH ok F Z) h
theorem Ep{p:Option Addr}{a:Addr}(k:Nat)(ag:bI p a)(B:lv ops i=some (.nilCheck x,none,some k))(F:Y n f x=.pointer p)(h:cI P ops Q rest (act n (av f k (.pointer (some a))) ay) w):cI P ops Q (i::rest) (act n f ay) w:=by
 obtain⟨A,ab,aH,ae,aC⟩:=qE B;exact bo k ab ae aC (og aH (F.trans (congrArg Value.pointer ag))) h
theorem im{aK:Array Value}{l:Nat}(k:Nat)(v:Value)(B:lv ops i=some (.extract x l,none,some k))(F:Y n f x=.tuple aK)(ax:aK[l]?=some v)(h:cI P ops Q rest (act n (av f k v) ay) w):cI P ops Q (i::rest) (act n f ay) w:=by
 obtain⟨A,ab,aH,ae,aC⟩:=qE B;exact bo k ab ae aC (pM aH F ax) h
theorem hc{S:Type}{T:a_ S}{k:FuncId}{fW:List Operand}{lB:Array TypeId}{c:List Value}{d:Option Nat}{aa:S→World→Prop}(he:dG P k)(B:lv ops i=some (.call { callee:=.value (.func k),args:=fW.toArray,argTypes:=lB },none,d))
  (ag:fW.map (Y n f)=c) (h:L P k c T w aa) (al:∀ r I,aa r I→cI P ops Q rest (act n (fL f d (T.enc r)) ay) I):cI P ops Q (i::rest) (act n f ay) w:=by
 obtain⟨A,ab,aH,ae,aC⟩:=qE B;exact e3 ab (.free ae) (dj aC (c3 aH he ag) h al)
theorem fq{o:Operand}{p q:Code}{b:Bool}{K bj:Prop}(h:if b=true then K else bj)(W:Y n f o=.bool b)(F:b=true→K→p.wp P Q (act n f ay) w)(aJ:b=false→bj→q.wp P Q (act n f ay) w):(Code.cond o p q).wp P Q (act n f ay) w:=Hv W h F aJ
theorem lc{S:Type}{T:a_ S}{aa:S→World→Prop}{r:S}{fn:Func}{t:Nat}(h:aa r w)(Z:fn.results=[ResultVar.tmp t].toArray)(he:Y n f (.tmp t)=T.enc r):bodyPost P fn (xt T aa) .ret (act n f []) w:=
 ph Z (.cons (.tmp rfl) .nil) ⟨r,he,h⟩
theorem rM{S:Type}{T:a_ S}{aa:S→World→Prop}{r:S}{fn:Func}{t u:Nat}(h:aa r w)(Z:fn.results=[ResultVar.tmp t,.tmp u].toArray)(he:Value.tuple #[Y n f (.tmp t),Y n f (.tmp u)]=T.enc r):bodyPost P fn (xt T aa) .ret (act n f []) w:=
 ph Z (.cons (.tmp rfl) (.cons (.tmp rfl) .nil)) ⟨r,he,h⟩
theorem Er{S:Type}{T:a_ S}{aa:S→World→Prop}{r:S}{fn:Func}{t u v:Nat}(h:aa r w)(Z:fn.results=[ResultVar.tmp t,.tmp u,.tmp v].toArray)(he:Value.tuple #[Y n f (.tmp t),Y n f (.tmp u),Y n f (.tmp v)]=T.enc r):bodyPost P fn (xt T aa) .ret (act n f []) w:=
 ph Z (.cons (.tmp rfl) (.cons (.tmp rfl) (.cons (.tmp rfl) .nil))) ⟨r,he,h⟩
theorem bY(i k:Nat)(v:Value)(G:j1 ops Q)(B:lv ops i=some (.move x,none,some k))(J:Y n f x=v)(h:gl P ops Q a2 m (listed.setIfInBounds i true) (act n (av f k v) ay) w)
  (ap:Region.free .any ops listed i=true:=by kernel_rfl) (Z:(Region.ready .any ops listed).contains i=true:=by kernel_rfl):gl P ops Q a2 (m+1) listed (act n f ay) w:=by
 obtain⟨A,ab,aH,ae,aC⟩:=qE B;exact bd i k G ab ae aC (fun _=>bZ aH J) h ap Z
theorem fC(i k:Nat)(v:Value)(G:j1 ops Q)(B:lv ops i=some (.assign x,none,some k))(J:Y n f x=v)(h:gl P ops Q a2 m (listed.setIfInBounds i true) (act n (av f k v) ay) w)
  (ap:Region.free .any ops listed i=true:=by kernel_rfl) (Z:(Region.ready .any ops listed).contains i=true:=by kernel_rfl):gl P ops Q a2 (m+1) listed (act n f ay) w:=by
 obtain⟨A,ab,aH,ae,aC⟩:=qE B;exact bd i k G ab ae aC (fun _=>yI aH J) h ap Z
theorem hZ{t:TypeId}{fw:Array Field}{l gC dD:Nat}{S:Type}{T:a_ S}(i k:Nat)(a:Addr)(off:Nat)(ak:P.underlying t=some (.struct fw))(ok:cm P gC T (dD+1))(G:j1 ops Q)(B:lv ops i=some (.fieldAddr t x l,none,some k))
  (x4:(fw[l]?).map (fun g=>(g.offset,g.type))=some (off,gC)) (F:Y n f x=.pointer (some a)) (h:gl P ops Q a2 m (listed.setIfInBounds i true) (act n (av f k (.pointer (some (a.add off)))) ay) w)
  (ap:Region.free .any ops listed i=true:=by kernel_rfl) (Z:(Region.ready .any ops listed).contains i=true:=by kernel_rfl):gl P ops Q a2 (m+1) listed (act n f ay) w:=by
 obtain⟨A,ab,aH,ae,aC⟩:=qE B;obtain⟨g,Kb,he⟩:=Option.map_eq_some_iff.1 x4;cases he;exact bd i k G ab ae aC (fun _=>kh aH ak Kb rfl ok (by omega) F) h ap Z
theorem nt{p:Option Addr}{a:Addr}(i k:Nat)(ag:bI p a)(G:j1 ops Q)(B:lv ops i=some (.nilCheck x,none,some k))(F:Y n f x=.pointer p)(h:gl P ops Q a2 m (listed.setIfInBounds i true) (act n (av f k (.pointer (some a))) ay) w)
  (ap:Region.free .any ops listed i=true:=by kernel_rfl) (Z:(Region.ready .any ops listed).contains i=true:=by kernel_rfl):gl P ops Q a2 (m+1) listed (act n f ay) w:=by
 obtain⟨A,ab,aH,ae,aC⟩:=qE B;exact bd i k G ab ae aC (fun _=>og aH (F.trans (congrArg Value.pointer ag))) h ap Z
theorem hN{t:TypeId}{S:Type}{T:a_ S}{a:Addr}{u:S}{dD:Nat}(i k:Nat)(iR:M T a w u)(ok:cm P t T dD)(G:j1 ops Q)(B:lv ops i=some (.load t x,none,some k))(F:Y n f x=.pointer (some a))
  (h:gl P ops Q ((i,fun y=>M T a y u)::a2) m (listed.setIfInBounds i true) (act n (av f k (T.enc u)) ay) w)
  (ap:Region.free .any ops listed i=true:=by kernel_rfl) (Z:(Region.ready .any ops listed).contains i=true:=by kernel_rfl):gl P ops Q a2 (m+1) listed (act n f ay) w:=by
 obtain⟨A,ab,aH,ae,aC⟩:=qE B;exact oA (i:=i) (d:=some k) (fun y=>M T a y u) G ap Z ab (.free ae) aC (fun y Z=>jh aH ok F Z) iR h
theorem bc{A:Oper}(i k:Nat)(G:j1 ops Q)(aq:ops.toList[i]?=some A)(ae:zo n ops f A)(aC:A.dst=some k)(h:gl P ops Q a2 m (listed.setIfInBounds i true) (act n (av f k undef) ay) w)
  (ap:Region.free .any ops listed i=true:=by kernel_rfl) (Z:(Region.ready .any ops listed).contains i=true:=by kernel_rfl):gl P ops Q a2 (m+1) listed (act n f ay) w:=
 NB (i:=i) (d:=some k) G ap Z aq ae aC h
end
def aC:Code→Nat
 |.region id _ _=>id+1
 |.seq a b=>match aC a with
  |0=>aC b
  |k=>k
 |.cond _ a b=>match aC a with
  |0=>aC b
  |k=>k
 |.block _ o=>aC o
 |.loop o=>aC o
 |.scope o=>aC o
 |_=>0
class b1(P:Program)(t:TypeId){S:outParam Type}(T:outParam (a_ S))(n:outParam Nat):Prop where
 out:cm P t T n
class eS(P:Program)(t:TypeId)(aL:outParam Value)(s b:outParam Nat):Prop where
 out:∃ i,P.info? t=some i∧i.zero=some aL∧i.size=s∧i.bytes=b
class a1(P:Program)(t:TypeId)(d:outParam TypeDesc):Prop where
 out:P.underlying t=some d
class IX(P:Program)(t:TypeId)(l:Nat)(off:outParam Nat):Prop where
 out:∃ (fw:Array Field) (gC m:Nat) (S:Type) (T:a_ S),P.underlying t=some (.struct fw)∧(fw[l]?).map (fun g=>(g.offset,g.type))=some (off,gC)∧cm P gC T (m+1)
theorem cR{P:Program}{t:TypeId}{fw:Array Field}{gC m:Nat}{S:Type}{T:a_ S}(l off:Nat)(ak:P.underlying t=some (.struct fw))(ok:cm P gC T m)(hm:m=m-1+1:=by rfl)(ap:(fw[l]?).map (fun g=>(g.offset,g.type))=some (off,gC):=by rfl):IX P t l off:=
 ⟨fw,gC,m-1,S,T,ak,ap,hm▸ok⟩
theorem M9{P:Program}{n:Nat}{f:Nat→Value}{A:Oper}{w:World}{t:TypeId}{x:Operand}{a:Addr}{l off:Nat}(ab:A.op=.fieldAddr t x l)[ap:IX P t l off](F:Y n f x=.pointer (some a)):(execOp (Y n f) A).run P w=.ok (.value (.pointer (some (a.add off)))) w:=by
 obtain⟨fw,gC,m,S,T,B,J,au⟩:=ap.out;obtain⟨g,ae,he⟩:=Option.map_eq_some_iff.1 J;cases he;exact kh ab B ae rfl au (by omega) F
class EL(P:Program)(k:FuncId):Prop where
 out:dG P k
theorem uF{n:Nat}{f:Nat→Value}{ops:Array Oper}{A:Oper}{l d:Nat}{o:Bool}(ae:A.guard=some (l,true))(a7:(ops[l]?).bind (·.dst)=some d)(ax:Y n f (.tmp d)=.bool o):qU n ops f A o:=.h_ l d true o ae a7 ax (by simp)
theorem uE{n:Nat}{f:Nat→Value}{ops:Array Oper}{A:Oper}{l d:Nat}{o:Bool}(ae:A.guard=some (l,false))(a7:(ops[l]?).bind (·.dst)=some d)(ax:Y n f (.tmp d)=.bool o):qU n ops f A (!o):=.no l d true o ae a7 ax (by simp)
theorem uG{n:Nat}{f:Nat→Value}{ops:Array Oper}{A:Oper}{l d:Nat}{g o:Bool}(ae:A.guard=some (l,true))(a7:(ops[l]?).bind (·.dst)=some d)(ax:Y n f (.tmp d)=iA g (.bool o)):qU n ops f A (g&&o):=.h_ l d g o ae a7 ax rfl
theorem uD{n:Nat}{f:Nat→Value}{ops:Array Oper}{A:Oper}{l d:Nat}{g o:Bool}(ae:A.guard=some (l,false))(a7:(ops[l]?).bind (·.dst)=some d)(ax:Y n f (.tmp d)=iA g (.bool o)):qU n ops f A (g&&!o):=.no l d g o ae a7 ax rfl
theorem bg{P:Program}{k:FuncId}{fn:Func}(h:P.funcs[k]?=some fn)(aA:fn.body.isSome=true:=by rfl) (aO:(fn.name=="runtime.NumGoroutine")=false:=by decide):EL P k:=⟨⟨fn,h,aA,aO⟩⟩
theorem hj{P:Program}{t:TypeId}{S:Type}{T:a_ S}{aL:Value}{b:Nat}{d:TypeDesc}(aq:∃ i,P.info? t=some i∧i.zero=some aL∧i.size=1∧i.bytes=b)(hu:P.underlying t=some d)(aC:te d=false:=by rfl)(W:∀ x,T.cells x=[T.enc x]:=by intro _; rfl)
  (ap:∀ x,(T.enc x).cells=(T.cells x).toArray:=by intro _; rfl) (ab:∀ x,(T.enc x).oneCell'=true:=by intro _; rfl):cm P t T 1:=
 ⟨aq.imp fun _ h=>⟨h.1,h.2.2.1⟩,fun x=>by rw[W x]; rfl,.inr ⟨_,hu,aC,rfl,W⟩,ap,fun x v ax=>by rw[W x] at ax; obtain rfl:=List.mem_singleton.1 ax; exact ab x⟩
theorem jf{P:Program}{t:TypeId}{S:Type}{o:S→List Value}{aL:Value}{n b:Nat}{d:TypeDesc}(aq:∃ i,P.info? t=some i∧i.zero=some aL∧i.size=n∧i.bytes=b)(hu:P.underlying t=some d)(aj:∀ x,(o x).length=n)(ab:∀ x,∀ v∈o x,v.oneCell'=true)(aC:te d=true:=by rfl):cm P t (ij o) n:=
 ⟨aq.imp fun _ h=>⟨h.1,h.2.2.1⟩,aj,.inl ⟨_,hu,aC,fun _=>rfl⟩,fun _=>rfl,ab⟩
abbrev dV(P:Program)(t:TypeId)(aL:Value)(s b:Nat):Prop:=∃ i,P.info? t=some i∧i.zero=some aL∧i.size=s∧i.bytes=b
abbrev aU:=Option Addr
def Za:Op→Nat
 |.move _=>0
 |.assign _=>0
 |.nilCheck _=>1
 |.fieldAddr _ _ _=>2
 |.load _ _=>3
 |.store _ _ _=>4
 |.call o=>match o.callee with
  |.value (.func _)=>5
  |.value _=>6
  |_=>7
 |.binOp _ _ _ _ _=>9
 |.unOp _ _ _=>9
 |.extract _ _=>10
 |.pick _ _ _=>11
 |.build _ _=>12
 |.alloc _=>13
 |.convert _ _ _=>14
 |.field _ _ _=>15
 |.indexAddr _ _ _=>16
 |.index _ _ _=>16
 |.slice _ _ _ _ _=>17
 |.lookup _ _ _ _=>18
 |.makeFunc _ _ _=>19
 |.makeInterface _ _=>19
 |.typeAssert _ _ _ _=>19
 |.entry _=>19
 |_=>20
structure ld(p:Prop):Prop where
 it:p
section
variable {P:Program} {Q:Exit→Act→World→Prop} {n:Nat} {f:Nat→Value} {ay:List Deferred} {w I:World} {ops:Array Oper} {o:Code}
def CM:BinOp→IntKind→Int→Int→Option Value
 |.eql,_,a,b=>some (.bool (a==b))
 |.neq,_,a,b=>some (.bool (a != b))
 |.lss,_,a,b=>some (.bool (decide (a<b)))
 |.leq,_,a,b=>some (.bool (decide (a≤b)))
 |.gtr,_,a,b=>some (.bool (decide (a>b)))
 |.geq,_,a,b=>some (.bool (decide (a≥b)))
 |.add,k,a,b=>some (.int k (k.wrap (a+b)))
 |.sub,k,a,b=>some (.int k (k.wrap (a-b)))
 |.mul,k,a,b=>some (.int k (k.wrap (a*b)))
 |_,_,_,_=>none
theorem asw{op:BinOp}{k:IntKind}{a b:Int}{v:Value}{t u:TypeId}{A:Oper}{x N:Operand}(h:CM op k a b=some v)(ab:A.op=.binOp op t x N u)(F:Y n f x=.int k a)(aJ:Y n f N=.int k b):(execOp (Y n f) A).run P w=.ok (.value v) w:=by
 cases op<;>first
  |(cases h; done)
  |(cases h; first
    |exact ey ab F aJ
    |exact hW ab F aJ
    |exact oe ab F aJ
    |exact Nb ab F aJ
    |exact vu ab F aJ
    |exact Di ab F aJ
    |exact sO ab F aJ
    |exact AH ab F aJ
    |exact Nh ab F aJ)
def fJ(n:Nat)(f:Nat→Value):Op→Option Value
 |.move x=>some (Y n f x)
 |.assign x=>some (Y n f x)
 |.binOp op _ x N _=>match Y n f x,Y n f N with
  |.int k a,.int l b=>bif k==l then CM op k a b else none
  |_,_=>none
 |.unOp .not _ x=>match Y n f x with
  |.bool b=>some (.bool (!b))
  |_=>none
 |.extract x i=>match Y n f x with
  |.tuple aK=>aK[i]?
  |_=>none
 |_=>none
theorem awH{A:Oper}{op:Op}{v:Value}(ab:A.op=op)(h:fJ n f op=some v):(execOp (Y n f) A).run P w=.ok (.value v) w:=by
 unfold fJ at h;split at h
 ·cases h; exact bZ ab rfl
 ·cases h; exact yI ab rfl
 ·rename_i aBN t x N u;split at h
  ·rename_i k a l b aT a0;cases al:(k==l) with
   |false=>rw[al] at h; cases h
   |true=>
    rw[al] at h;have e:k=l:=by simpa using al
    subst e;exact asw h ab aT a0
  ·cases h
 ·split at h
  ·rename_i e; cases h; exact lx ab e
  ·cases h
 ·split at h
  ·rename_i e; exact pM ab e h
  ·cases h
 ·cases h
def W1(ops:Array Oper)(i n:Nat)(f:Nat→Value):Option (Value×Nat):=match ops.toList[i]? with
 |some A=>match A.guard,A.dst with
  |none,some k=>(fJ n f A.op).map fun v=>(v,k)
  |_,_=>none
 |none=>none
theorem ay7{i k:Nat}{v:Value}{rest:List Nat}(h:W1 ops i n f=some (v,k))(W:cI P ops Q rest (act n (av f k v) ay) w):cI P ops Q (i::rest) (act n f ay) w:=by
 unfold W1 at h;cases ab:ops.toList[i]? with
 |none=>rw[ab] at h; cases h
 |some A=>
  rw[ab] at h;simp only at h;split at h
  ·rename_i o9 aT a0;obtain⟨G6,ax,he⟩:=Option.map_eq_some_iff.1 h;cases he;exact bo k ab aT a0 (awH rfl ax) W
  ·cases h
theorem aX{l:FuncId}{fn:Func}{c:List Value}{j:Ending→World→Prop}(n:Nat)(ap:P.funcs[l]?=some fn)(aO:fn.ntmps=n)(aA:fn.body=some o)(h:o.wp P (bodyPost P fn j) (act n (start c) []) w)(aj:Nat.ble c.length n=true:=by rfl):Calls P l c.toArray w j:=
 pw n ap aO aA (Nat.le_of_ble_eq_true aj) h
theorem alh(h:o.wp P Q (act n f ay) w):o.wp P Q (act n f ay) w:=h
theorem asu{c:List Nat}(h:cI P ops Q c (act n f ay) w):cI P ops Q c (act n f ay) w:=h
theorem gB{A:Oper}{v:Value}(k:Nat)(e:Za A.op=k)(h:(execOp (Y n f) A).run P w=.ok (.value v) I):(execOp (Y n f) A).run P w=.ok (.value v) I:=h
theorem mg{x N:Code}(e:o=.seq x N)(h:x.wp P (Exit.then (N.wp P Q) Q) (act n f ay) w):o.wp P Q (act n f ay) w:=by
 subst e; exact wp_seq h
theorem aeK{id:Nat}{c:List Nat}(e:o=.region id ops false)(aj:List.range ops.size=c)(h:cI P ops Q c (act n f ay) w):o.wp P Q (act n f ay) w:=by
 subst e; exact bv c aj h
theorem aeF{A:Operand}{x N:Code}{b:Bool}{K bj:Prop}(e:o=.cond A x N)(h:if b=true then K else bj)(W:Y n f A=.bool b)(F:b=true→K→x.wp P Q (act n f ay) w)(aJ:b=false→bj→N.wp P Q (act n f ay) w):o.wp P Q (act n f ay) w:=by
 subst e; exact Hv W h F aJ
theorem aeI{A:Operand}{x N:Code}(e:o=.cond A x N)(W:Y n f A=.bool false)(h:N.wp P Q (act n f ay) w):o.wp P Q (act n f ay) w:=by
 subst e; exact azW W h
theorem q4{A:Operand}{x N:Code}(e:o=.cond A x N)(W:Y n f A=.bool true)(h:x.wp P Q (act n f ay) w):o.wp P Q (act n f ay) w:=by
 subst e; exact azX W h
theorem aeG(e:o=.skip)(h:Q .normal (act n f ay) w):o.wp P Q (act n f ay) w:=by
 subst e; exact wp_skip h
theorem aeH{c:Nat}(e:o=.label c)(h:Q .normal (act n f ay) w):o.wp P Q (act n f ay) w:=by
 subst e; exact wp_label h
theorem aeE{c:Nat}(e:o=.exit c)(h:Q (.exit c) (act n f ay) w):o.wp P Q (act n f ay) w:=by
 subst e; exact wp_exit h
theorem BS(e:o=.ret)(h:Q .ret (act n f ay) w):o.wp P Q (act n f ay) w:=by
 subst e; exact wp_ret h
theorem rX{id:Nat}{x:Code}(e:o=.block id x)(h:x.wp P (Exit.inBlock id Q) (act n f ay) w):o.wp P Q (act n f ay) w:=by
 subst e; exact wp_block h
theorem aeJ{x:Code}(e:o=.scope x)(h:x.wp P (Exit.noGoto Q) (act n f ay) w):o.wp P Q (act n f ay) w:=by
 subst e; exact wp_scope_straight h
theorem kv{bE:Type}(k:Nat)(eV:bE→World→Prop)(bT:(Nat→Value)→bE→Nat→Value):∀ ⦃P:Program⦄ ⦃Q:Exit→Act→World→Prop⦄ ⦃n:Nat⦄ ⦃f:Nat→Value⦄ ⦃ay:List Deferred⦄ ⦃w:World⦄ ⦃o x N:Code⦄,o=.seq x N→aC N=k →
  x.wp P (Exit.then (fun a w=>∃ s g,a=act n (bT g s) ay∧eV s w) Q) (act n f ay) w→(∀ s g w,eV s w→N.wp P Q (act n (bT g s) ay) w)→o.wp P Q (act n f ay) w:=by
 intro P Q n f ay w o x N e _ F a7;subst e; exact wZ a7 F
theorem gK{bE:Type}(k:Nat)(body:bE→World→(bE→World→Prop)→Prop)(bT:(Nat→Value)→bE→Nat→Value):∀ ⦃P:Program⦄ ⦃Q:Exit→Act→World→Prop⦄ ⦃n:Nat⦄ ⦃f:Nat→Value⦄ ⦃ay:List Deferred⦄ ⦃w:World⦄ ⦃o x:Code⦄ ⦃eJ:bE⦄,o=.loop x→aC x=k→e7 body eJ w→bT f eJ=f →
  (∀ (s:bE) (g:Nat→Value) (w:World) (aa:bE→World→Prop),body s w aa→x.wp P (Exit.then (fun bS I=>∃ hJ lm,bS=act n (bT lm hJ) ay∧aa hJ I) Q) (act n (bT g s) ay) w)→o.wp P Q (act n f ay) w:=by
 intro P Q n f ay w o x eJ e _ h ap aA;subst e; exact ys ap h aA
theorem tr{bE:Type}(cx cE:List Nat)(eV:bE→World→Prop)(bT:(Nat→Value)→bE→Nat→Value):∀ ⦃P:Program⦄ ⦃Q:Exit→Act→World→Prop⦄ ⦃n:Nat⦄ ⦃f:Nat→Value⦄ ⦃ay:List Deferred⦄ ⦃w:World⦄ ⦃ops:Array Oper⦄ ⦃c:List Nat⦄,c=cx++cE →
  cI P ops (Exit.then (fun a w=>∃ s g,a=act n (bT g s) ay∧eV s w) Q) cx (act n f ay) w→(∀ s g w,eV s w→cI P ops Q cE (act n (bT g s) ay) w)→cI P ops Q c (act n f ay) w:=by
 intro P Q n f ay w ops c e F a7;subst e; exact y5 cx cE a7 F
section
variable {bE:Type}
theorem aem{eV:Unit→Prop}{bT:(Nat→Value)→Unit→Nat→Value}(h:eV ())(ap:bT f ()=f):∃ s g,act n f ay=act n (bT g s) ay∧eV s:=⟨(),f,arr ap,h⟩
theorem aen{eV:bE→Prop}{bT:(Nat→Value)→bE→Nat→Value}{a:bE}(h:eV a)(ap:bT f a=f):∃ s g,act n f ay=act n (bT g s) ay∧eV s:=⟨a,f,arr ap,h⟩
end
theorem aeo{b0 ai:Type}{eV:b0×ai→Prop}{bT:(Nat→Value)→b0×ai→Nat→Value}{a:b0}{b:ai}(h:eV (a,b))(ap:bT f (a,b)=f):∃ s g,act n f ay=act n (bT g s) ay∧eV s:=⟨_,f,arr ap,h⟩
theorem aep{b0 ai C:Type}{eV:b0×ai×C→Prop}{bT:(Nat→Value)→b0×ai×C→Nat→Value}{a:b0}{b:ai}{o:C}(h:eV (a,b,o))(ap:bT f (a,b,o)=f):∃ s g,act n f ay=act n (bT g s) ay∧eV s:=⟨_,f,arr ap,h⟩
theorem aeq{b0 ai C ah:Type}{eV:b0×ai×C×ah→Prop}{bT:(Nat→Value)→b0×ai×C×ah→Nat→Value}{a:b0}{b:ai}{o:C}{d:ah}(h:eV (a,b,o,d))(ap:bT f (a,b,o,d)=f):∃ s g,act n f ay=act n (bT g s) ay∧eV s:=⟨_,f,arr ap,h⟩
theorem aer{b0 ai C ah oP:Type}{eV:b0×ai×C×ah×oP→Prop}{bT:(Nat→Value)→b0×ai×C×ah×oP→Nat→Value}{a:b0}{b:ai}{o:C}{d:ah}{e:oP}(h:eV (a,b,o,d,e))(ap:bT f (a,b,o,d,e)=f):∃ s g,act n f ay=act n (bT g s) ay∧eV s:=⟨_,f,arr ap,h⟩
theorem aes{b0 ai C ah oP aD:Type}{eV:b0×ai×C×ah×oP×aD→Prop}{bT:(Nat→Value)→b0×ai×C×ah×oP×aD→Nat→Value}{a:b0}{b:ai}{o:C}{d:ah}{e:oP}{u:aD}(h:eV (a,b,o,d,e,u))(ap:bT f (a,b,o,d,e,u)=f):∃ s g,act n f ay=act n (bT g s) ay∧eV s:=⟨_,f,arr ap,h⟩
theorem axL{fn:Func}{aa:Unit→World→Prop}(h:aa () w)(Z:fn.results=#[]):bodyPost P fn (xt cJ aa) .ret (act n f []) w:=ph (af:=[]) Z .nil ⟨(),rfl,h⟩
theorem afR{fn:Func}{aa:Unit→World→Prop}(h:aa () w)(Z:fn.results=#[]):bodyPost P fn (xt cJ aa) .normal (act n f []) w:=afQ (af:=[]) Z .nil ⟨(),rfl,h⟩
theorem axM{S:Type}{T:a_ S}{aa:S→World→Prop}{r:S}{fn:Func}{t u v x:Nat}(h:aa r w)(Z:fn.results=[ResultVar.tmp t,.tmp u,.tmp v,.tmp x].toArray)(he:Value.tuple #[Y n f (.tmp t),Y n f (.tmp u),Y n f (.tmp v),Y n f (.tmp x)]=T.enc r):bodyPost P fn (xt T aa) .ret (act n f []) w:=
 ph Z (.cons (.tmp rfl) (.cons (.tmp rfl) (.cons (.tmp rfl) (.cons (.tmp rfl) .nil)))) ⟨r,he,h⟩
section
variable {i k:Nat} {c rest:List Nat} {A:Oper} {a2:Prop}
theorem zX{S:Type}{C aa:S→Prop}(h:ex C aa)(W:∀ x,C x→aa x→a2):a2:=by
 obtain⟨x,B,J⟩:=h;exact W x B J
theorem z0{S:Type}{C aa:S→Prop}(h:ex C aa)(W:∀ x,C x→aa x→cI P ops Q c (act n f ay) w):cI P ops Q c (act n f ay) w:=zX h W
theorem agV{S:Type}{T:a_ S}{aa:S→Prop}{a:Addr}{t:TypeId}{s:Nat}{x:Operand}(aq:CX ops i=some (t,x,k))(ok:cm P t T s)(h:ex (M T a w) aa)(F:Y n f x=.pointer (some a))
  (W:∀ u,M T a w u→aa u→cI P ops Q rest (act n (av f k (T.enc u)) ay) w):cI P ops Q (i::rest) (act n f ay) w:=ks ok h aq F W
theorem agW{aa:Addr→Prop}{p:Option Addr}{x:Operand}(aq:Mc ops i=some (x,k))(h:ex (bI p) aa)(F:Y n f x=.pointer p)
  (W:∀ a,bI p a→aa a→cI P ops Q rest (act n (av f k (.pointer (some a))) ay) w):cI P ops Q (i::rest) (act n f ay) w:=Fe h aq F W
theorem agT{S:Type}{T:a_ S}{aa:Addr→World→Prop}{t:TypeId}{s U:Nat}{u:S}(aq:Jd ops i=some (t,k))(ok:cm P t T s)(st:∃ i,P.info? t=some i∧i.zero=some (T.enc u)∧i.size=s∧i.bytes=U)(h:ch t T u w aa)
  (W:∀ a I,aa a I→cI P ops Q rest (act n (av f k (.pointer (some a))) ay) I):cI P ops Q (i::rest) (act n f ay) w:=q6 ok st h aq W
theorem agX{S:Type}{T:a_ S}{aa:World→Prop}{t:TypeId}{s:Nat}{x N:Operand}{a:Addr}{u:S}(aq:NK ops i=some (t,x,N))(ok:cm P t T s)(h:br T a u w aa)(F:Y n f x=.pointer (some a))(aJ:Y n f N=T.enc u)
  (W:∀ I,aa I→cI P ops Q rest (act n f ay) I):cI P ops Q (i::rest) (act n f ay) w:=lQ ok h aq F aJ W
theorem agU{S:Type}{T:a_ S}{l:FuncId}{fW:List Operand}{lB:Array TypeId}{c:List Value}{d:Option Nat}{aa:S→World→Prop}(B:lv ops i=some (.call { callee:=.value (.func l),args:=fW.toArray,argTypes:=lB },none,d))(he:dG P l)(h:L P l c T w aa)
  (ag:fW.map (Y n f)=c) (al:∀ r I,aa r I→cI P ops Q rest (act n (fL f d (T.enc r)) ay) I):cI P ops Q (i::rest) (act n f ay) w:=hc he B ag h al
theorem ay6(e:c=[])(h:Q .normal (act n f ay) w):cI P ops Q c (act n f ay) w:=by
 subst e; exact bp h
theorem Y0{v:Value}(aq:ops.toList[i]?=some A)(ae:A.guard=none)(aC:A.dst=some k)(ax:(execOp (Y n f) A).run P w=.ok (.value v) w)
  (h:cI P ops Q rest (act n (av f k v) ay) w):cI P ops Q (i::rest) (act n f ay) w:=bo k aq ae aC ax h
theorem w6{v:Value}{g:Bool}(aq:ops.toList[i]?=some A)(ae:qU n ops f A g)(aC:A.dst=some k)(ax:g=true→(execOp (Y n f) A).run P w=.ok (.value v) w)
  (h:cI P ops Q rest (act n (av f k (iA g v)) ay) w):cI P ops Q (i::rest) (act n f ay) w:=Dv (d:=some k) aq ae aC ax h
theorem sR{v:Value}(aq:ops.toList[i]?=some A)(aj:rP n ops f A)(aC:A.dst=some k)(ax:(execOp (Y n f) A).run P w=.ok (.value v) I)
  (h:cI P ops Q rest (act n (av f k v) ay) I):cI P ops Q (i::rest) (act n f ay) w:=kk (d:=some k) aq aj aC ax h
theorem nJ{b:Bool}{K bj:Prop}(h:if b=true then K else bj)(F:ld (b=true)→K→cI P ops Q c (act n f ay) w)(aJ:ld (b=false)→bj→cI P ops Q c (act n f ay) w):cI P ops Q c (act n f ay) w:=
 eO h (fun e=>F ⟨e⟩) fun e=>aJ ⟨e⟩
def Ts(ops:Array Oper)(i:Nat):Nat:=match ops.toList[i]? with
 |some A=>match A.guard with
  |none=>0
  |some (_,true)=>1
  |some (_,false)=>2
 |none=>3
def NW(ops:Array Oper)(i:Nat):Nat:=match ops.toList[i]? with
 |some A=>Za A.op
 |none=>99
theorem Lo(k:Nat)(e:Ts ops i=k)(h:cI P ops Q (i::rest) (act n f ay) w):cI P ops Q (i::rest) (act n f ay) w:=h
theorem nF(k:Nat)(e:NW ops i=k)(h:cI P ops Q (i::rest) (act n f ay) w):cI P ops Q (i::rest) (act n f ay) w:=h
theorem axv{l d:Nat}{o q3:Bool}{K bj:Prop}(aq:ops.toList[i]?=some A)(ae:A.guard=some (l,q3))(a7:(ops[l]?).bind (·.dst)=some d)(ax:Y n f (.tmp d)=.bool o)(h:if o=true then K else bj)
  (F:ld (o=true)→K→cI P ops Q (i::rest) (act n f ay) w) (aJ:ld (o=false)→bj→cI P ops Q (i::rest) (act n f ay) w):cI P ops Q (i::rest) (act n f ay) w:=
 eO h (fun e=>F ⟨e⟩) fun e=>aJ ⟨e⟩
theorem aAi{t:TypeId}{l off:Nat}{x:Operand}{a:Addr}(B:lv ops i=some (.fieldAddr t x l,none,some k))[ap:IX P t l off](F:Y n f x=.pointer (some a))(h:cI P ops Q rest (act n (av f k (.pointer (some (a.add off)))) ay) w):cI P ops Q (i::rest) (act n f ay) w:=by
 obtain⟨A,ab,aH,ae,aC⟩:=qE B;exact bo k ab ae aC (M9 aH F) h
theorem YZ{v:Value}{l d:Nat}{b o:Bool}(aq:ops.toList[i]?=some A)(ae:A.guard=some (l,b))(a7:(ops[l]?).bind (·.dst)=some d)(CG:Y n f (.tmp d)=.bool o)(ag:ld (o=b))(aC:A.dst=some k)(ax:(execOp (Y n f) A).run P w=.ok (.value v) w)
  (h:cI P ops Q rest (act n (av f k v) ay) w):cI P ops Q (i::rest) (act n f ay) w:=kk (d:=some k) aq (.U l b d o ae a7 CG ag.it) aC ax h
theorem ay9{l d:Nat}{b o:Bool}(aq:ops.toList[i]?=some A)(ae:A.guard=some (l,b))(a7:(ops[l]?).bind (·.dst)=some d)(ax:Y n f (.tmp d)=.bool o)(ag:ld (o=!b))(h:cI P ops Q rest (act n (fL f A.dst undef) ay) w):cI P ops Q (i::rest) (act n f ay) w:=
 iZ aq (.U l b d o ae a7 ax ag.it) rfl h
theorem ay8{l d:Nat}{b:Bool}(aq:ops.toList[i]?=some A)(ae:A.guard=some (l,b))(a7:(ops[l]?).bind (·.dst)=some d)(ax:Y n f (.tmp d)=undef)(h:cI P ops Q rest (act n (fL f A.dst undef) ay) w):cI P ops Q (i::rest) (act n f ay) w:=
 iZ aq (.undef l b d ae a7 ax) rfl h
end
end
inductive vZ where
 |e
 |o (i:Nat) (r:vZ)
 |b (i l:Nat) (r s:vZ)
 |d (i l k:Nat) (r s t:vZ)
def da:List Nat→vZ→vZ
 |[],A=>A
 |i::c,A=>.o i (da c A)
def gk(_:vZ)(P:Program)(ops:Array Oper)(Q:Exit→Act→World→Prop)(a2:List (Nat×(World→Prop)))(m:Nat)(listed:Array Bool)(a:Act)(w:World):Prop:=gl P ops Q a2 m listed a w
section
variable {P:Program} {Q:Exit→Act→World→Prop} {n i k m:Nat} {f:Nat→Value} {ay:List Deferred} {w I:World} {ops:Array Oper} {gL r s t:vZ} {listed:Array Bool} {a2:List (Nat×(World→Prop))} {A:Oper} {v:Value}
theorem ali(h:gk gL P ops Q a2 m listed (act n f ay) w):gk gL P ops Q a2 m listed (act n f ay) w:=h
theorem ast{aa:Act→World→Prop}(h:kE P ops Q i aa (act n f ay) w):kE P ops Q i aa (act n f ay) w:=h
theorem yF{aa:Act→World→Prop}(k:Nat)(e:NW ops i=k)(h:kE P ops Q i aa (act n f ay) w):kE P ops Q i aa (act n f ay) w:=h
theorem eT(k:Nat)(gL:vZ):∀ ⦃P:Program⦄ ⦃Q:Exit→Act→World→Prop⦄ ⦃n:Nat⦄ ⦃f:Nat→Value⦄ ⦃ay:List Deferred⦄ ⦃w:World⦄ ⦃o:Code⦄ ⦃id m:Nat⦄ ⦃ops:Array Oper⦄ ⦃aa:World→Prop⦄,o=.region id ops true→id+1=k→ds w aa→P.follows .mixedOrders=true→ops.size=m→Region.noSelect ops=true →
  (∀ o a d v w,Q (.panic o) (Act.put a d v) w→Q (.panic o) a w)→(∀ w,aa w→j1 ops Q→gk gL P ops Q [] m (Array.replicate m false) (act n f ay) w)→o.wp P Q (act n f ay) w:=by
 intro P Q n f ay w o id m ops aa e _ h hm aj aF ku W;subst e;obtain⟨I,hw,h⟩:=nx h;exact oJ m hm aj aF ku hw fun G=>W I h G
theorem fe{S:Type}{C aa:S→Prop}(h:ex C aa)(W:∀ x,C x→aa x→gk gL P ops Q a2 m listed (act n f ay) w):gk gL P ops Q a2 m listed (act n f ay) w:=by
 obtain⟨x,B,J⟩:=h;exact W x B J
theorem LA(k:Nat)(e:gL=.o i r)(al:Ts ops i=k)(h:gk (.o i r) P ops Q a2 m listed (act n f ay) w):gk gL P ops Q a2 m listed (act n f ay) w:=h
theorem as4(k:Nat)(al:NW ops i=k)(h:gk (.o i r) P ops Q a2 m listed (act n f ay) w):gk (.o i r) P ops Q a2 m listed (act n f ay) w:=h
theorem az8(e:gL=.e)(h:Q .normal (act n f ay) w)(Z:Region.ready .any ops listed=[]):gk gL P ops Q a2 m listed (act n f ay) w:=ef Z h
theorem Z0(e:gL=.o i r)(aq:ops.toList[i]?=some A)(ae:A.guard=none)(aC:A.dst=some k)(G:j1 ops Q)(ax:∀ w,(execOp (Y n f) A).run P w=.ok (.value v) w)(h:gk r P ops Q a2 m (listed.setIfInBounds i true) (act n (av f k v) ay) w)
  (ap:Region.free .any ops listed i=true) (Z:(Region.ready .any ops listed).contains i=true):gk gL P ops Q a2 (m+1) listed (act n f ay) w:=bd i k G aq ae aC ax h ap Z
theorem aAb{S:Type}{T:a_ S}{a:Addr}{t ao:Nat}{x:Operand}{aa:S→Prop}(e:gL=.o i r)(aj:CX ops i=some (t,x,k))[ok:b1 P t T ao](h:ex (M T a w) aa)(G:j1 ops Q)(F:Y n f x=.pointer (some a))(ap:Region.free .any ops listed i=true)(Z:(Region.ready .any ops listed).contains i=true)
  (W:∀ u,M T a w u→aa u→gk r P ops Q ((i,fun y=>M T a y u)::a2) m (listed.setIfInBounds i true) (act n (av f k (T.enc u)) ay) w):gk gL P ops Q a2 (m+1) listed (act n f ay) w:=by
 obtain⟨u,hu,b7⟩:=h;unfold CX at aj;cases ab:ops.toList[i]? with
 |none=>rw[ab] at aj; cases aj
 |some A=>
  rw[ab] at aj;simp only at aj;split at aj
  ·rename_i N o9 pk aT a0 cS;cases aj;exact oA (d:=some _) (fun y=>M T a y u) G ap Z ab (.free a0) cS (fun y Z=>jh aT ok.out F Z) hu (W u hu b7)
  ·cases aj
theorem Z1{l d:Nat}{b o:Bool}(e:gL=.o i r)(aq:ops.toList[i]?=some A)(ae:A.guard=some (l,b))(a7:(ops[l]?).bind (·.dst)=some d)(CG:Y n f (.tmp d)=.bool o)(ag:ld (o=b))(aC:A.dst=some k)(G:j1 ops Q)(ax:∀ w,(execOp (Y n f) A).run P w=.ok (.value v) w)(h:gk r P ops Q a2 m (listed.setIfInBounds i true) (act n (av f k v) ay) w)
  (ap:Region.free .any ops listed i=true) (Z:(Region.ready .any ops listed).contains i=true):gk gL P ops Q a2 (m+1) listed (act n f ay) w:=bB (d:=some k) G ap Z aq (.U l b d o ae a7 CG ag.it) aC ax h
theorem HD{ad:World→Prop}(iR:ad w)(e:gL=.o i r)(aq:ops.toList[i]?=some A)(ae:A.guard=none)(aC:A.dst=some k)(G:j1 ops Q)(ax:∀ w,ad w→(execOp (Y n f) A).run P w=.ok (.value v) w)(h:gk r P ops Q ((i,ad)::a2) m (listed.setIfInBounds i true) (act n (av f k v) ay) w)
  (ap:Region.free .any ops listed i=true) (Z:(Region.ready .any ops listed).contains i=true):gk gL P ops Q a2 (m+1) listed (act n f ay) w:=oA (d:=some k) ad G ap Z aq (.free ae) aC ax iR h
theorem El{ad:World→Prop}{l d:Nat}{b o:Bool}(iR:ad w)(e:gL=.o i r)(aq:ops.toList[i]?=some A)(ae:A.guard=some (l,b))(a7:(ops[l]?).bind (·.dst)=some d)(CG:Y n f (.tmp d)=.bool o)(ag:ld (o=b))(aC:A.dst=some k)(G:j1 ops Q)(ax:∀ w,ad w→(execOp (Y n f) A).run P w=.ok (.value v) w)(h:gk r P ops Q ((i,ad)::a2) m (listed.setIfInBounds i true) (act n (av f k v) ay) w)
  (ap:Region.free .any ops listed i=true) (Z:(Region.ready .any ops listed).contains i=true):gk gL P ops Q a2 (m+1) listed (act n f ay) w:=oA (d:=some k) ad G ap Z aq (.U l b d o ae a7 CG ag.it) aC ax iR h
theorem aAe{l d:Nat}{b o:Bool}(e:gL=.o i r)(aq:ops.toList[i]?=some A)(ae:A.guard=some (l,b))(a7:(ops[l]?).bind (·.dst)=some d)(ax:Y n f (.tmp d)=.bool o)(ag:ld (o=!b))(G:j1 ops Q)(h:gk r P ops Q a2 m (listed.setIfInBounds i true) (act n (fL f A.dst undef) ay) w)
  (ap:Region.free .any ops listed i=true) (Z:(Region.ready .any ops listed).contains i=true):gk gL P ops Q a2 (m+1) listed (act n f ay) w:=NB G ap Z aq (.U l b d o ae a7 ax ag.it) rfl h
theorem aAd{l d:Nat}{b:Bool}(e:gL=.o i r)(aq:ops.toList[i]?=some A)(ae:A.guard=some (l,b))(a7:(ops[l]?).bind (·.dst)=some d)(ax:Y n f (.tmp d)=undef)(G:j1 ops Q)(h:gk r P ops Q a2 m (listed.setIfInBounds i true) (act n (fL f A.dst undef) ay) w)
  (ap:Region.free .any ops listed i=true) (Z:(Region.ready .any ops listed).contains i=true):gk gL P ops Q a2 (m+1) listed (act n f ay) w:=NB G ap Z aq (.undef l b d ae a7 ax) rfl h
theorem xd{g:Bool}(e:gL=.o i r)(aq:ops.toList[i]?=some A)(ae:qU n ops f A g)(aC:A.dst=some k)(G:j1 ops Q)(ax:g=true→∀ w,(execOp (Y n f) A).run P w=.ok (.value v) w)(h:gk r P ops Q a2 m (listed.setIfInBounds i true) (act n (av f k (iA g v)) ay) w)
  (ap:Region.free .any ops listed i=true) (Z:(Region.ready .any ops listed).contains i=true):gk gL P ops Q a2 (m+1) listed (act n f ay) w:=gO (d:=some k) G ap Z aq ae aC ax h
theorem l_{g:Bool}{ad:World→Prop}(iR:g=true→ad w)(e:gL=.o i r)(aq:ops.toList[i]?=some A)(ae:qU n ops f A g)(aC:A.dst=some k)(G:j1 ops Q)(ax:g=true→∀ w,ad w→(execOp (Y n f) A).run P w=.ok (.value v) w)(h:gk r P ops Q ((i,fun w=>g=true→ad w)::a2) m (listed.setIfInBounds i true) (act n (av f k (iA g v)) ay) w)
  (ap:Region.free .any ops listed i=true) (Z:(Region.ready .any ops listed).contains i=true):gk gL P ops Q a2 (m+1) listed (act n f ay) w:=axy (d:=some k) ad G ap Z aq ae aC ax iR h
theorem aAc(e:gL=.o i r)(h:kE P ops Q i (fun bS I=>(∀ x∈a2,waits ops i x.1=false→x.2 w→x.2 I)∧gk r P ops Q a2 m (listed.setIfInBounds i true) bS I) (act n f ay) w)(Z:Region.ready .any ops listed=[i]):gk gL P ops Q a2 (m+1) listed (act n f ay) w:=bA Z h
theorem az6{l:Nat}{b0 ai:Prop}(e:gL=.b i l r s)(h:E0 b0 ai)(B:b0→kE P ops Q i (fun bS I=>(∀ x∈a2,waits ops i x.1=false→x.2 w→x.2 I)∧gk r P ops Q a2 m (listed.setIfInBounds i true) bS I) (act n f ay) w)
  (J:ai→kE P ops Q l (fun bS I=>(∀ x∈a2,waits ops l x.1=false→x.2 w→x.2 I)∧gk s P ops Q a2 m (listed.setIfInBounds l true) bS I) (act n f ay) w) (Z:Region.ready .any ops listed=[i,l]):gk gL P ops Q a2 (m+1) listed (act n f ay) w:=Yc Z (B h.1) (J h.2)
theorem az7{l c:Nat}{b0 ai C:Prop}(e:gL=.d i l c r s t)(h:E0 b0 (E0 ai C))(B:b0→kE P ops Q i (fun bS I=>(∀ x∈a2,waits ops i x.1=false→x.2 w→x.2 I)∧gk r P ops Q a2 m (listed.setIfInBounds i true) bS I) (act n f ay) w)
  (J:ai→kE P ops Q l (fun bS I=>(∀ x∈a2,waits ops l x.1=false→x.2 w→x.2 I)∧gk s P ops Q a2 m (listed.setIfInBounds l true) bS I) (act n f ay) w)
  (au:C→kE P ops Q c (fun bS I=>(∀ x∈a2,waits ops c x.1=false→x.2 w→x.2 I)∧gk t P ops Q a2 m (listed.setIfInBounds c true) bS I) (act n f ay) w) (Z:Region.ready .any ops listed=[i,l,c]):gk gL P ops Q a2 (m+1) listed (act n f ay) w:=axz Z (B h.1) (J h.2.1) (au h.2.2)
theorem aAa{l d:Nat}{o q3:Bool}{K bj:Prop}(e:gL=.o i r)(aq:ops.toList[i]?=some A)(ae:A.guard=some (l,q3))(a7:(ops[l]?).bind (·.dst)=some d)(ax:Y n f (.tmp d)=.bool o)(h:if o=true then K else bj)
  (F:ld (o=true)→K→gk gL P ops Q a2 m listed (act n f ay) w) (aJ:ld (o=false)→bj→gk gL P ops Q a2 m listed (act n f ay) w):gk gL P ops Q a2 m listed (act n f ay) w:=
 eO h (fun e=>F ⟨e⟩) fun e=>aJ ⟨e⟩
theorem az9{b:Bool}{K bj:Prop}(h:if b=true then K else bj)(F:ld (b=true)→K→gk gL P ops Q a2 m listed (act n f ay) w)(aJ:ld (b=false)→bj→gk gL P ops Q a2 m listed (act n f ay) w):gk gL P ops Q a2 m listed (act n f ay) w:=
 eO h (fun e=>F ⟨e⟩) fun e=>aJ ⟨e⟩
section
variable {l:Nat} {ad:World→Prop} {K:Prop}
theorem auI{p:Prop}(h:ld (true=false)):p:=by cases h.it
theorem auJ{p:Prop}(h:ld (false=true)):p:=by cases h.it
theorem alj(h:(∀ x∈a2,waits ops l x.1=false→x.2 w→x.2 I)∧K):(∀ x∈a2,waits ops l x.1=false→x.2 w→x.2 I)∧K:=h
theorem atf(h:K):(∀ x∈([]:List (Nat×(World→Prop))),waits ops l x.1=false→x.2 w→x.2 I)∧K:=⟨c_,h⟩
theorem atg(h:(∀ x∈a2,waits ops l x.1=false→x.2 w→x.2 I)∧K)(hw:waits ops l i=true):(∀ x∈(i,ad)::a2,waits ops l x.1=false→x.2 w→x.2 I)∧K:=⟨g8 hw h.1,h.2⟩
theorem yo(aF:ad w→ad I)(h:(∀ x∈a2,waits ops l x.1=false→x.2 w→x.2 I)∧K):(∀ x∈(i,ad)::a2,waits ops l x.1=false→x.2 w→x.2 I)∧K:=⟨cg aF h.1,h.2⟩
theorem ate{b0 ai:Prop}(h:bk b0 ai)(W:b0→ai→(∀ x∈a2,waits ops l x.1=false→x.2 w→x.2 I)∧K):(∀ x∈a2,waits ops l x.1=false→x.2 w→x.2 I)∧K:=W h.1 h.2
end
end
structure qd where
 hF:(Vector Bool 1001)
 v:(Vector (List UInt8) 1001)
def qd.cells(x:qd):List Value:=(x.hF).toList.flatMap bi.cells++((x.v).toList.flatMap dT.cells)
@[reducible] def xA:a_ qd:=ij qd.cells
@[reducible] def RV:qd:=⟨(Vector.replicate 1001 false),(Vector.replicate 1001 ([]:List UInt8))⟩
structure jB where
 Kind:Int
 c6:Int
 df:Int
 b4:Int
 ar:Int
 jm:Bool
def jB.cells(x:jB):List Value:=[.int .i64 (x.Kind),.int .i64 (x.c6),.int .i64 (x.df),.int .i64 (x.b4),.int .i64 (x.ar),.bool (x.jm)]
@[reducible] def ft:a_ jB:=ij jB.cells
@[reducible] def xH:jB:=⟨(0:Int),(0:Int),(0:Int),(0:Int),(0:Int),false⟩
structure oS where
 Kind:Int
 b0:Int
 ar:Int
 dU:jB
 iu:X
def oS.cells(x:oS):List Value:=[.int .i64 (x.Kind),.int .i64 (x.b0),.int .i64 (x.ar)]++(jB.cells (x.dU)++([O.enc (x.iu)]))
@[reducible] def ko:a_ oS:=ij oS.cells
@[reducible] def EO:oS:=⟨(0:Int),(0:Int),(0:Int),xH,(⟨none,0,0⟩:X)⟩
structure s_ where
 fg:Nat
 c:X
 cq:aU
def s_.cells(x:s_):List Value:=[.float .f64 (x.fg),O.enc (x.c),.pointer (x.cq)]
@[reducible] def xB:a_ s_:=ij s_.cells
@[reducible] def adI:s_:=⟨(0:Nat),(⟨none,0,0⟩:X),(none:Option Addr)⟩
structure eA where
 bm:Int
 ai:Int
 V:(List UInt8)
def eA.cells(x:eA):List Value:=[.int .i64 (x.bm),.int .i64 (x.ai),.string ⟨(x.V).toArray⟩]
@[reducible] def dA:a_ eA:=ij eA.cells
@[reducible] def hf:eA:=⟨(0:Int),(0:Int),([]:List UInt8)⟩
structure g4 where
 Kind:Int
 ai:Int
 dd:eA
 RQ:X
def g4.cells(x:g4):List Value:=[.int .i64 (x.Kind),.int .i64 (x.ai)]++(eA.cells (x.dd)++([O.enc (x.RQ)]))
@[reducible] def eB:a_ g4:=ij g4.cells
@[reducible] def rR:g4:=⟨(0:Int),(0:Int),hf,(⟨none,0,0⟩:X)⟩
structure qY where
 zS:aU
 adO:aU
 out:X
 lL:(Option Nat)
 v:aU
 aeh:Int
 zL:Int
 leads:Bool
 VZ:(Option Nat)
 WY:(Option Nat)
 last:Int
def qY.cells(x:qY):List Value:=[.pointer (x.zS),.pointer (x.adO),O.enc (x.out),.map (x.lL),.pointer (x.v),.int .i64 (x.aeh),.int .i64 (x.zL),.bool (x.leads),.map (x.VZ),.map (x.WY),.int .i64 (x.last)]
@[reducible] def uf:a_ qY:=ij qY.cells
@[reducible] def adJ:qY:=⟨(none:Option Addr),(none:Option Addr),(⟨none,0,0⟩:X),(none:Option Nat),(none:Option Addr),(0:Int),(0:Int),false,(none:Option Nat),(none:Option Nat),(0:Int)⟩
structure kX where
 ax8:aU
def kX.cells(x:kX):List Value:=[.pointer (x.ax8)]
@[reducible] def b5:a_ kX:=ij kX.cells
@[reducible] def RW:kX:=⟨(none:Option Addr)⟩
structure qZ where
 avY:kX
 fg:Nat
 fa:Int
 held:(Option Nat)
 busy:(Option Nat)
 dR:(Option Nat)
def qZ.cells(x:qZ):List Value:=kX.cells (x.avY)++([.float .f64 (x.fg),.int .i64 (x.fa),.map (x.held),.map (x.busy),.map (x.dR)])
@[reducible] def xC:a_ qZ:=ij qZ.cells
@[reducible] def adK:qZ:=⟨RW,(0:Nat),(0:Int),(none:Option Nat),(none:Option Nat),(none:Option Nat)⟩
structure t_ where
 nodes:Int
 kl:Int
 c:X
 off:(Option Nat)
def t_.cells(x:t_):List Value:=[.int .i64 (x.nodes),.int .i64 (x.kl),O.enc (x.c),.map (x.off)]
@[reducible] def zB:a_ t_:=ij t_.cells
@[reducible] def adA:t_:=⟨(0:Int),(0:Int),(⟨none,0,0⟩:X),(none:Option Nat)⟩
structure ua where
 e_:X
 j5:Int
 down:Bool
 hD:Int
 bL:X
def ua.cells(x:ua):List Value:=[O.enc (x.e_),.int .i64 (x.j5),.bool (x.down),.int .i64 (x.hD),O.enc (x.bL)]
@[reducible] def xv:a_ ua:=ij ua.cells
@[reducible] def adB:ua:=⟨(⟨none,0,0⟩:X),(0:Int),false,(0:Int),(⟨none,0,0⟩:X)⟩
structure ib where
 Kind:Int
 cc:Int
 aG:Int
 aD:Nat
 ad:(List UInt8)
def ib.cells(x:ib):List Value:=[.int .i64 (x.Kind),.int .u64 (x.cc),.int .i64 (x.aG),.float .f64 (x.aD),.string ⟨(x.ad).toArray⟩]
@[reducible] def fh:a_ ib:=ij ib.cells
@[reducible] def q0:ib:=⟨(0:Int),(0:Int),(0:Int),(0:Nat),([]:List UInt8)⟩
structure iv where
 df:Int
 xn:Int
 xF:Int
 z:g4
def iv.cells(x:iv):List Value:=[.int .i64 (x.df),.int .i64 (x.xn),.int .i64 (x.xF)]++(g4.cells (x.z))
@[reducible] def ej:a_ iv:=ij iv.cells
@[reducible] def ix:iv:=⟨(0:Int),(0:Int),(0:Int),rR⟩
structure ub where
 adz:aU
 awz:Int
 N5:(Option Nat)
def ub.cells(x:ub):List Value:=[.pointer (x.adz),.int .i64 (x.awz),.map (x.N5)]
@[reducible] def xw:a_ ub:=ij ub.cells
@[reducible] def adC:ub:=⟨(none:Option Addr),(0:Int),(none:Option Nat)⟩
structure qW where
 bw:Int
 azK:g4
def qW.cells(x:qW):List Value:=[.int .i64 (x.bw)]++(g4.cells (x.azK))
@[reducible] def ta:a_ qW:=ij qW.cells
@[reducible] def I7:qW:=⟨(0:Int),rR⟩
structure nW where
def nW.cells(x:nW):List Value:=[]
@[reducible] def jn:a_ nW:=ij nW.cells
@[reducible] def oT:nW:=⟨⟩
structure uc where
 v:(List UInt8)
 from_:(Option Nat)
def uc.cells(x:uc):List Value:=[.string ⟨(x.v).toArray⟩,.map (x.from_)]
@[reducible] def xx:a_ uc:=ij uc.cells
@[reducible] def adD:uc:=⟨([]:List UInt8),(none:Option Nat)⟩
structure hd where
 df:Int
 b4:Int
 ar:Int
 jm:Bool
def hd.cells(x:hd):List Value:=[.int .i64 (x.df),.int .i64 (x.b4),.int .i64 (x.ar),.bool (x.jm)]
@[reducible] def kn:a_ hd:=ij hd.cells
@[reducible] def RS:hd:=⟨(0:Int),(0:Int),(0:Int),false⟩
structure oR where
 Part:hd
 c6:Int
 p6:Int
def oR.cells(x:oR):List Value:=hd.cells (x.Part)++([.int .i64 (x.c6),.int .i64 (x.p6)])
@[reducible] def ic:a_ oR:=ij oR.cells
@[reducible] def rQ:oR:=⟨RS,(0:Int),(0:Int)⟩
structure h0 where
 Key:Int
 V:Int
def h0.cells(x:h0):List Value:=[.int .i64 (x.Key),.int .i64 (x.V)]
@[reducible] def jC:a_ h0:=ij h0.cells
@[reducible] def BE:h0:=⟨(0:Int),(0:Int)⟩
structure qc where
 all:Int
 sure:Int
def qc.cells(x:qc):List Value:=[.int .i64 (x.all),.int .i64 (x.sure)]
@[reducible] def xy:a_ qc:=ij qc.cells
@[reducible] def RT:qc:=⟨(0:Int),(0:Int)⟩
structure qX where
 counts:qc
 d:aU
 log:Int
 dead:Bool
def qX.cells(x:qX):List Value:=qc.cells (x.counts)++([.pointer (x.d),.int .i64 (x.log),.bool (x.dead)])
@[reducible] def xz:a_ qX:=ij qX.cells
@[reducible] def adE:qX:=⟨RT,(none:Option Addr),(0:Int),false⟩
structure v1 where
 zL:X
 sure:Int
def v1.cells(x:v1):List Value:=[O.enc (x.zL),.int .i64 (x.sure)]
@[reducible] def zC:a_ v1:=ij v1.cells
@[reducible] def RU:v1:=⟨(⟨none,0,0⟩:X),(0:Int)⟩
structure ud where
 aeY:(Option Nat)
 closed:Int
 mark:Int
def ud.cells(x:ud):List Value:=[.map (x.aeY),.int .i64 (x.closed),.int .i64 (x.mark)]
@[reducible] def nX:a_ ud:=ij ud.cells
@[reducible] def adF:ud:=⟨(none:Option Nat),(0:Int),(0:Int)⟩
structure ei where
 c6:Int
 V:Int
def ei.cells(x:ei):List Value:=[.int .i64 (x.c6),.int .i64 (x.V)]
@[reducible] def cX:a_ ei:=ij ei.cells
@[reducible] def iy:ei:=⟨(0:Int),(0:Int)⟩
structure ue where
 c:X
 mark:Int
def ue.cells(x:ue):List Value:=[O.enc (x.c),.int .i64 (x.mark)]
@[reducible] def tb:a_ ue:=ij ue.cells
@[reducible] def adG:ue:=⟨(⟨none,0,0⟩:X),(0:Int)⟩
structure s9 where
 zL:X
 at_:Int
def s9.cells(x:s9):List Value:=[O.enc (x.zL),.int .i64 (x.at_)]
@[reducible] def zD:a_ s9:=ij s9.cells
@[reducible] def adH:s9:=⟨(⟨none,0,0⟩:X),(0:Int)⟩
structure iJ where
 afJ:Int
def iJ.cells(x:iJ):List Value:=[.int .i64 (x.afJ)]
@[reducible] def iw:a_ iJ:=ij iJ.cells
@[reducible] def BF:iJ:=⟨(0:Int)⟩
structure pr where
 po:Int
 rC:Int
def pr.cells(x:pr):List Value:=[.int .i64 (x.po),.int .i64 (x.rC)]
@[reducible] def jo:a_ pr:=ij pr.cells
@[reducible] def jp:pr:=⟨(0:Int),(0:Int)⟩
theorem UF:dV Pg 2 (.int .i64 ((0:Int))) 1 8:=dX (by kernel_rfl)
theorem ew:cm Pg 2 (D .i64) 1:=hj UF Tryz.underlying2
theorem CO:dV Pg 3 (.int .i64 ((0:Int))) 1 8:=dX (by kernel_rfl)
theorem ea:cm Pg 3 (D .i64) 1:=hj CO Tryz.underlying3
theorem asM:dV Pg 4 (.bool (false)) 1 1:=dX (by kernel_rfl)
theorem sH:cm Pg 4 bi 1:=hj asM Tryz.underlying4
theorem UO:dV Pg 5 (.int .u8 ((0:Int))) 1 1:=dX (by kernel_rfl)
theorem Dc:cm Pg 5 (D .u8) 1:=hj UO Tryz.underlying5
theorem US:dV Pg 9 (.string ⟨(([]:List UInt8)).toArray⟩) 1 16:=dX (by kernel_rfl)
theorem pg:cm Pg 9 dT 1:=hj US Tryz.underlying9
theorem asG:dV Pg 24 (.pointer ((none:Option Addr))) 1 8:=dX (by kernel_rfl)
theorem avg:cm Pg 24 aM 1:=hj asG Tryz.underlying24
theorem Lx:dV Pg 25 (.int .i64 ((0:Int))) 1 8:=dX (by kernel_rfl)
theorem tz:cm Pg 25 (D .i64) 1:=hj Lx Tryz.underlying25
theorem asH:dV Pg 28 (.float .f64 ((0:Nat))) 1 8:=dX (by kernel_rfl)
theorem wN:cm Pg 28 g2 1:=hj asH Tryz.underlying28
theorem asJ:dV Pg 31 (((DO bi 1001).enc (Vector.replicate 1001 false))) 1001 1001:=dX (by kernel_rfl)
theorem Mw:cm Pg 31 (DO bi 1001) 1001:=⟨(asJ).imp fun _ h=>⟨h.1,h.2.2.1⟩,fun x=>by simp[Fp sH.len],.inl ⟨_,Tryz.underlying31,rfl,fun _=>rfl⟩,fun _=>rfl,fun x v ax=>by obtain⟨N,_,aJ⟩:=List.mem_flatMap.1 ax; exact sH.one N v aJ⟩
theorem asK:dV Pg 32 (((DO dT 1001).enc (Vector.replicate 1001 ([]:List UInt8)))) 1001 16016:=dX (by kernel_rfl)
theorem Mx:cm Pg 32 (DO dT 1001) 1001:=⟨(asK).imp fun _ h=>⟨h.1,h.2.2.1⟩,fun x=>by simp[Fp pg.len],.inl ⟨_,Tryz.underlying32,rfl,fun _=>rfl⟩,fun _=>rfl,fun x v ax=>by obtain⟨N,_,aJ⟩:=List.mem_flatMap.1 ax; exact pg.one N v aJ⟩
theorem UL:dV Pg 34 (xA.enc (RV)) 2002 17024:=dX (by kernel_rfl)
theorem at1(x:qd):(xA.cells x).length=2002:=by
 show (qd.cells x).length=2002
 simp only[qd.cells,List.length_append,List.length_cons,List.length_nil,Vector.length_toList,Fp sH.len,Fp pg.len]
theorem avF(x:qd):∀ v∈xA.cells x,v.oneCell'=true:=by
 show ∀ v∈qd.cells x,v.oneCell'=true
 simp only[qd.cells,List.forall_mem_append,List.forall_mem_cons,List.forall_mem_nil]
 exact⟨Mw.one _,Mx.one _⟩
theorem avh:cm Pg 34 xA 2002:=jf UL Tryz.underlying34 at1 avF
theorem Ag:dV Pg 38 (ft.enc (xH)) 6 48:=dX (by kernel_rfl)
theorem CY(x:jB):(ft.cells x).length=6:=by rfl
theorem Wn(x:jB):∀ v∈ft.cells x,v.oneCell'=true:=List.all_eq_true.1 rfl
theorem sG:cm Pg 38 ft 6:=jf Ag Tryz.underlying38 CY Wn
theorem asL:dV Pg 39 (O.enc ((⟨none,0,0⟩:X))) 1 24:=dX (by kernel_rfl)
theorem My:cm Pg 39 O 1:=hj asL Tryz.underlying39
theorem UM:dV Pg 41 (ko.enc (EO)) 10 96:=dX (by kernel_rfl)
theorem Vz(x:oS):(ko.cells x).length=10:=by rfl
theorem avG(x:oS):∀ v∈ko.cells x,v.oneCell'=true:=by
 show ∀ v∈oS.cells x,v.oneCell'=true
 simp only[oS.cells,List.forall_mem_append,List.forall_mem_cons,List.forall_mem_nil]
 exact⟨⟨rfl,rfl,rfl,fun _ h=>absurd h (List.not_mem_nil)⟩,Wn _,⟨rfl,fun _ h=>absurd h (List.not_mem_nil)⟩⟩
theorem avi:cm Pg 41 ko 10:=jf UM Tryz.underlying41 Vz avG
theorem asN:dV Pg 46 (O.enc ((⟨none,0,0⟩:X))) 1 24:=dX (by kernel_rfl)
theorem Wb:cm Pg 46 O 1:=hj asN Tryz.underlying46
theorem asO:dV Pg 47 (.pointer ((none:Option Addr))) 1 8:=dX (by kernel_rfl)
theorem Wc:cm Pg 47 aM 1:=hj asO Tryz.underlying47
theorem UN:dV Pg 49 (xB.enc (adI)) 3 40:=dX (by kernel_rfl)
theorem at2(x:s_):(xB.cells x).length=3:=by rfl
theorem avH(x:s_):∀ v∈xB.cells x,v.oneCell'=true:=List.all_eq_true.1 rfl
theorem avj:cm Pg 49 xB 3:=jf UN Tryz.underlying49 at2 avH
theorem yl:dV Pg 53 (dA.enc (hf)) 3 32:=dX (by kernel_rfl)
theorem at3(x:eA):(dA.cells x).length=3:=by rfl
theorem Wo(x:eA):∀ v∈dA.cells x,v.oneCell'=true:=List.all_eq_true.1 rfl
theorem Ay:cm Pg 53 dA 3:=jf yl Tryz.underlying53 at3 Wo
theorem UP:dV Pg 54 (O.enc ((⟨none,0,0⟩:X))) 1 24:=dX (by kernel_rfl)
theorem Wd:cm Pg 54 O 1:=hj UP Tryz.underlying54
theorem ym:dV Pg 56 (eB.enc (rR)) 6 72:=dX (by kernel_rfl)
theorem LQ(x:g4):(eB.cells x).length=6:=by rfl
theorem MA(x:g4):∀ v∈eB.cells x,v.oneCell'=true:=by
 show ∀ v∈g4.cells x,v.oneCell'=true
 simp only[g4.cells,List.forall_mem_append,List.forall_mem_cons,List.forall_mem_nil]
 exact⟨⟨rfl,rfl,fun _ h=>absurd h (List.not_mem_nil)⟩,Wo _,⟨rfl,fun _ h=>absurd h (List.not_mem_nil)⟩⟩
theorem Az:cm Pg 56 eB 6:=jf ym Tryz.underlying56 LQ MA
theorem UQ:dV Pg 57 (.pointer ((none:Option Addr))) 1 8:=dX (by kernel_rfl)
theorem avk:cm Pg 57 aM 1:=hj UQ Tryz.underlying57
theorem asP:dV Pg 58 (.pointer ((none:Option Addr))) 1 8:=dX (by kernel_rfl)
theorem Mz:cm Pg 58 aM 1:=hj asP Tryz.underlying58
theorem asQ:dV Pg 59 (.pointer ((none:Option Addr))) 1 8:=dX (by kernel_rfl)
theorem We:cm Pg 59 aM 1:=hj asQ Tryz.underlying59
theorem asR:dV Pg 60 (O.enc ((⟨none,0,0⟩:X))) 1 24:=dX (by kernel_rfl)
theorem Wf:cm Pg 60 O 1:=hj asR Tryz.underlying60
theorem asS:dV Pg 61 (.map ((none:Option Nat))) 1 8:=dX (by kernel_rfl)
theorem Wg:cm Pg 61 dK 1:=hj asS Tryz.underlying61
theorem asT:dV Pg 62 (.pointer ((none:Option Addr))) 1 8:=dX (by kernel_rfl)
theorem Wh:cm Pg 62 aM 1:=hj asT Tryz.underlying62
theorem asU:dV Pg 63 (.map ((none:Option Nat))) 1 8:=dX (by kernel_rfl)
theorem Wi:cm Pg 63 dK 1:=hj asU Tryz.underlying63
theorem asV:dV Pg 64 (.map ((none:Option Nat))) 1 8:=dX (by kernel_rfl)
theorem Gi:cm Pg 64 dK 1:=hj asV Tryz.underlying64
theorem Ly:dV Pg 66 (uf.enc (adJ)) 11 104:=dX (by kernel_rfl)
theorem VA(x:qY):(uf.cells x).length=11:=by rfl
theorem avI(x:qY):∀ v∈uf.cells x,v.oneCell'=true:=List.all_eq_true.1 rfl
theorem avl:cm Pg 66 uf 11:=jf Ly Tryz.underlying66 VA avI
theorem UR:dV Pg 79 (O.enc ((⟨none,0,0⟩:X))) 1 24:=dX (by kernel_rfl)
theorem sI:cm Pg 79 O 1:=hj UR Tryz.underlying79
theorem asW:dV Pg 83 (O.enc ((⟨none,0,0⟩:X))) 1 24:=dX (by kernel_rfl)
theorem Wj:cm Pg 83 O 1:=hj asW Tryz.underlying83
theorem asX:dV Pg 92 (.pointer ((none:Option Addr))) 1 8:=dX (by kernel_rfl)
theorem Gj:cm Pg 92 aM 1:=hj asX Tryz.underlying92
theorem UT:dV Pg 94 (b5.enc (RW)) 1 8:=dX (by kernel_rfl)
theorem at4(x:kX):(b5.cells x).length=1:=by rfl
theorem Wp(x:kX):∀ v∈b5.cells x,v.oneCell'=true:=List.all_eq_true.1 rfl
theorem mv:cm Pg 94 b5 1:=jf UT Tryz.underlying94 at4 Wp
theorem asY:dV Pg 95 (.map ((none:Option Nat))) 1 8:=dX (by kernel_rfl)
theorem Wk:cm Pg 95 dK 1:=hj asY Tryz.underlying95
theorem asZ:dV Pg 96 (.map ((none:Option Nat))) 1 8:=dX (by kernel_rfl)
theorem Gk:cm Pg 96 dK 1:=hj asZ Tryz.underlying96
theorem as0:dV Pg 97 (.map ((none:Option Nat))) 1 8:=dX (by kernel_rfl)
theorem AA:cm Pg 97 dK 1:=hj as0 Tryz.underlying97
theorem UU:dV Pg 99 (xC.enc (adK)) 6 48:=dX (by kernel_rfl)
theorem at5(x:qZ):(xC.cells x).length=6:=by rfl
theorem avJ(x:qZ):∀ v∈xC.cells x,v.oneCell'=true:=by
 show ∀ v∈qZ.cells x,v.oneCell'=true
 simp only[qZ.cells,List.forall_mem_append,List.forall_mem_cons,List.forall_mem_nil]
 exact⟨Wp _,⟨rfl,rfl,rfl,rfl,rfl,fun _ h=>absurd h (List.not_mem_nil)⟩⟩
theorem avm:cm Pg 99 xC 6:=jf UU Tryz.underlying99 at5 avJ
theorem asy:dV Pg 107 (.map ((none:Option Nat))) 1 8:=dX (by kernel_rfl)
theorem Ms:cm Pg 107 dK 1:=hj asy Tryz.underlying107
theorem Ux:dV Pg 109 (zB.enc (adA)) 4 48:=dX (by kernel_rfl)
theorem atN(x:t_):(zB.cells x).length=4:=by rfl
theorem avn(x:t_):∀ v∈zB.cells x,v.oneCell'=true:=List.all_eq_true.1 rfl
theorem au3:cm Pg 109 zB 4:=jf Ux Tryz.underlying109 atN avn
theorem asz:dV Pg 110 (O.enc ((⟨none,0,0⟩:X))) 1 24:=dX (by kernel_rfl)
theorem V4:cm Pg 110 O 1:=hj asz Tryz.underlying110
theorem Uy:dV Pg 112 (xv.enc (adB)) 5 72:=dX (by kernel_rfl)
theorem atO(x:ua):(xv.cells x).length=5:=by rfl
theorem avo(x:ua):∀ v∈xv.cells x,v.oneCell'=true:=List.all_eq_true.1 rfl
theorem au4:cm Pg 112 xv 5:=jf Uy Tryz.underlying112 atO avo
theorem asA:dV Pg 130 (.int .u64 ((0:Int))) 1 8:=dX (by kernel_rfl)
theorem nf:cm Pg 130 (D .u64) 1:=hj asA Tryz.underlying130
theorem asB:dV Pg 131 (.int .i64 ((0:Int))) 1 8:=dX (by kernel_rfl)
theorem ng:cm Pg 131 (D .i64) 1:=hj asB Tryz.underlying131
theorem rj:dV Pg 133 (fh.enc (q0)) 5 48:=dX (by kernel_rfl)
theorem Vx(x:ib):(fh.cells x).length=5:=by rfl
theorem avp(x:ib):∀ v∈fh.cells x,v.oneCell'=true:=List.all_eq_true.1 rfl
theorem g9:cm Pg 133 fh 5:=jf rj Tryz.underlying133 Vx avp
theorem Ls:dV Pg 134 (O.enc ((⟨none,0,0⟩:X))) 1 24:=dX (by kernel_rfl)
theorem sF:cm Pg 134 O 1:=hj Ls Tryz.underlying134
theorem FL:dV Pg 140 (ej.enc (ix)) 9 96:=dX (by kernel_rfl)
theorem rn(x:iv):(ej.cells x).length=9:=by rfl
theorem avq(x:iv):∀ v∈ej.cells x,v.oneCell'=true:=by
 show ∀ v∈iv.cells x,v.oneCell'=true
 simp only[iv.cells,List.forall_mem_append,List.forall_mem_cons,List.forall_mem_nil]
 exact⟨⟨rfl,rfl,rfl,fun _ h=>absurd h (List.not_mem_nil)⟩,MA _⟩
theorem au5:cm Pg 140 ej 9:=jf FL Tryz.underlying140 rn avq
theorem asC:dV Pg 142 (.pointer ((none:Option Addr))) 1 8:=dX (by kernel_rfl)
theorem V5:cm Pg 142 aM 1:=hj asC Tryz.underlying142
theorem asD:dV Pg 143 (.map ((none:Option Nat))) 1 8:=dX (by kernel_rfl)
theorem Gh:cm Pg 143 dK 1:=hj asD Tryz.underlying143
theorem Uz:dV Pg 145 (xw.enc (adC)) 3 24:=dX (by kernel_rfl)
theorem atP(x:ub):(xw.cells x).length=3:=by rfl
theorem avr(x:ub):∀ v∈xw.cells x,v.oneCell'=true:=List.all_eq_true.1 rfl
theorem au6:cm Pg 145 xw 3:=jf Uz Tryz.underlying145 atP avr
theorem Lt:dV Pg 147 (ta.enc (I7)) 7 80:=dX (by kernel_rfl)
theorem Vy(x:qW):(ta.cells x).length=7:=by rfl
theorem avs(x:qW):∀ v∈ta.cells x,v.oneCell'=true:=by
 show ∀ v∈qW.cells x,v.oneCell'=true
 simp only[qW.cells,List.forall_mem_append,List.forall_mem_cons,List.forall_mem_nil]
 exact⟨⟨rfl,fun _ h=>absurd h (List.not_mem_nil)⟩,MA _⟩
theorem au7:cm Pg 147 ta 7:=jf Lt Tryz.underlying147 Vy avs
theorem UA:dV Pg 159 (.pointer ((none:Option Addr))) 1 8:=dX (by kernel_rfl)
theorem Lu:dV Pg 161 (jn.enc (oT)) 0 0:=dX (by kernel_rfl)
theorem atQ(x:nW):(jn.cells x).length=0:=by rfl
theorem avt(x:nW):∀ v∈jn.cells x,v.oneCell'=true:=by
 show ∀ v∈nW.cells x,v.oneCell'=true
 simp only[nW.cells,List.forall_mem_append,List.forall_mem_cons,List.forall_mem_nil]
 exact fun _ h=>absurd h (List.not_mem_nil)
theorem au8:cm Pg 161 jn 0:=jf Lu Tryz.underlying161 atQ avt
theorem UB:dV Pg 164 (xx.enc (adD)) 2 24:=dX (by kernel_rfl)
theorem atS(x:uc):(xx.cells x).length=2:=by rfl
theorem avu(x:uc):∀ v∈xx.cells x,v.oneCell'=true:=List.all_eq_true.1 rfl
theorem au9:cm Pg 164 xx 2:=jf UB Tryz.underlying164 atS avu
theorem UC:dV Pg 169 (kn.enc (RS)) 4 32:=dX (by kernel_rfl)
theorem atT(x:hd):(kn.cells x).length=4:=by rfl
theorem Wl(x:hd):∀ v∈kn.cells x,v.oneCell'=true:=List.all_eq_true.1 rfl
theorem Mt:cm Pg 169 kn 4:=jf UC Tryz.underlying169 atT Wl
theorem Lv:dV Pg 171 (ic.enc (rQ)) 6 48:=dX (by kernel_rfl)
theorem FV(x:oR):(ic.cells x).length=6:=by rfl
theorem avv(x:oR):∀ v∈ic.cells x,v.oneCell'=true:=by
 show ∀ v∈oR.cells x,v.oneCell'=true
 simp only[oR.cells,List.forall_mem_append,List.forall_mem_cons,List.forall_mem_nil]
 exact⟨Wl _,⟨rfl,rfl,fun _ h=>absurd h (List.not_mem_nil)⟩⟩
theorem ava:cm Pg 171 ic 6:=jf Lv Tryz.underlying171 FV avv
theorem Lw:dV Pg 174 (jC.enc (BE)) 2 16:=dX (by kernel_rfl)
theorem LP(x:h0):(jC.cells x).length=2:=by rfl
theorem avw(x:h0):∀ v∈jC.cells x,v.oneCell'=true:=List.all_eq_true.1 rfl
theorem avb:cm Pg 174 jC 2:=jf Lw Tryz.underlying174 LP avw
theorem UD:dV Pg 190 (xy.enc (RT)) 2 16:=dX (by kernel_rfl)
theorem atU(x:qc):(xy.cells x).length=2:=by rfl
theorem Wm(x:qc):∀ v∈xy.cells x,v.oneCell'=true:=List.all_eq_true.1 rfl
theorem V6:cm Pg 190 xy 2:=jf UD Tryz.underlying190 atU Wm
theorem UE:dV Pg 192 (xz.enc (adE)) 5 40:=dX (by kernel_rfl)
theorem atV(x:qX):(xz.cells x).length=5:=by rfl
theorem avx(x:qX):∀ v∈xz.cells x,v.oneCell'=true:=by
 show ∀ v∈qX.cells x,v.oneCell'=true
 simp only[qX.cells,List.forall_mem_append,List.forall_mem_cons,List.forall_mem_nil]
 exact⟨Wm _,⟨rfl,rfl,rfl,fun _ h=>absurd h (List.not_mem_nil)⟩⟩
theorem V7:cm Pg 192 xz 5:=jf UE Tryz.underlying192 atV avx
theorem UG:dV Pg 203 (zC.enc (RU)) 2 32:=dX (by kernel_rfl)
theorem atW(x:v1):(zC.cells x).length=2:=by rfl
theorem avy(x:v1):∀ v∈zC.cells x,v.oneCell'=true:=List.all_eq_true.1 rfl
theorem avc:cm Pg 203 zC 2:=jf UG Tryz.underlying203 atW avy
theorem asE:dV Pg 205 (.map ((none:Option Nat))) 1 8:=dX (by kernel_rfl)
theorem V8:cm Pg 205 dK 1:=hj asE Tryz.underlying205
theorem UH:dV Pg 206 (.pointer ((none:Option Addr))) 1 8:=dX (by kernel_rfl)
theorem avd:cm Pg 206 aM 1:=hj UH Tryz.underlying206
theorem UI:dV Pg 208 (nX.enc (adF)) 3 24:=dX (by kernel_rfl)
theorem atX(x:ud):(nX.cells x).length=3:=by rfl
theorem avz(x:ud):∀ v∈nX.cells x,v.oneCell'=true:=List.all_eq_true.1 rfl
theorem ave:cm Pg 208 nX 3:=jf UI Tryz.underlying208 atX avz
theorem Ae:dV Pg 210 (cX.enc (iy)) 2 16:=dX (by kernel_rfl)
theorem oa(x:ei):(cX.cells x).length=2:=by rfl
theorem avA(x:ei):∀ v∈cX.cells x,v.oneCell'=true:=List.all_eq_true.1 rfl
theorem Db:cm Pg 210 cX 2:=jf Ae Tryz.underlying210 oa avA
theorem asF:dV Pg 236 (O.enc ((⟨none,0,0⟩:X))) 1 24:=dX (by kernel_rfl)
theorem V9:cm Pg 236 O 1:=hj asF Tryz.underlying236
theorem UJ:dV Pg 238 (tb.enc (adG)) 2 32:=dX (by kernel_rfl)
theorem atY(x:ue):(tb.cells x).length=2:=by rfl
theorem avB(x:ue):∀ v∈tb.cells x,v.oneCell'=true:=List.all_eq_true.1 rfl
theorem avf:cm Pg 238 tb 2:=jf UJ Tryz.underlying238 atY avB
theorem UK:dV Pg 245 (zD.enc (adH)) 2 32:=dX (by kernel_rfl)
theorem atZ(x:s9):(zD.cells x).length=2:=by rfl
theorem avC(x:s9):∀ v∈zD.cells x,v.oneCell'=true:=List.all_eq_true.1 rfl
theorem V_:cm Pg 245 zD 2:=jf UK Tryz.underlying245 atZ avC
theorem CN:dV Pg 247 (iw.enc (BF)) 1 8:=dX (by kernel_rfl)
theorem at0(x:iJ):(iw.cells x).length=1:=by rfl
theorem avD(x:iJ):∀ v∈iw.cells x,v.oneCell'=true:=List.all_eq_true.1 rfl
theorem Mu:cm Pg 247 iw 1:=jf CN Tryz.underlying247 at0 avD
theorem asI:dV Pg 286 (.int .i64 ((0:Int))) 1 8:=dX (by kernel_rfl)
theorem Wa:cm Pg 286 (D .i64) 1:=hj asI Tryz.underlying286
theorem Af:dV Pg 288 (jo.enc (jp)) 2 16:=dX (by kernel_rfl)
theorem FW(x:pr):(jo.cells x).length=2:=by rfl
theorem avE(x:pr):∀ v∈jo.cells x,v.oneCell'=true:=List.all_eq_true.1 rfl
theorem Mv:cm Pg 288 jo 2:=jf Af Tryz.underlying288 FW avE
theorem agj:dG Pg 6:=⟨_,Tryz.func6,rfl,by decide⟩
theorem SS:dG Pg 16:=⟨_,Tryz.func16,rfl,by decide⟩
theorem SU:dG Pg 17:=⟨_,Tryz.func17,rfl,by decide⟩
theorem af6:dG Pg 18:=⟨_,Tryz.func18,rfl,by decide⟩
theorem SV:dG Pg 19:=⟨_,Tryz.func19,rfl,by decide⟩
theorem JE:dG Pg 20:=⟨_,Tryz.func20,rfl,by decide⟩
theorem agd:dG Pg 21:=⟨_,Tryz.func21,rfl,by decide⟩
theorem oZ:dG Pg 22:=⟨_,Tryz.func22,rfl,by decide⟩
theorem agh:dG Pg 23:=⟨_,Tryz.func23,rfl,by decide⟩
theorem Fg:dG Pg 24:=⟨_,Tryz.func24,rfl,by decide⟩
theorem B3:dG Pg 25:=⟨_,Tryz.func25,rfl,by decide⟩
theorem zV:dG Pg 26:=⟨_,Tryz.func26,rfl,by decide⟩
theorem mS:dG Pg 27:=⟨_,Tryz.func27,rfl,by decide⟩
theorem SX:dG Pg 38:=⟨_,Tryz.func38,rfl,by decide⟩
theorem Fh:dG Pg 39:=⟨_,Tryz.func39,rfl,by decide⟩
theorem Fi:dG Pg 40:=⟨_,Tryz.func40,rfl,by decide⟩
theorem JF:dG Pg 41:=⟨_,Tryz.func41,rfl,by decide⟩
theorem zW:dG Pg 42:=⟨_,Tryz.func42,rfl,by decide⟩
theorem B4:dG Pg 43:=⟨_,Tryz.func43,rfl,by decide⟩
theorem agi:dG Pg 53:=⟨_,Tryz.func53,rfl,by decide⟩
theorem agk:dG Pg 64:=⟨_,Tryz.func64,rfl,by decide⟩
theorem agl:dG Pg 65:=⟨_,Tryz.func65,rfl,by decide⟩
theorem agm:dG Pg 66:=⟨_,Tryz.func66,rfl,by decide⟩
theorem agn:dG Pg 67:=⟨_,Tryz.func67,rfl,by decide⟩
theorem ago:dG Pg 69:=⟨_,Tryz.func69,rfl,by decide⟩
theorem agp:dG Pg 74:=⟨_,Tryz.func74,rfl,by decide⟩
theorem agq:dG Pg 76:=⟨_,Tryz.func76,rfl,by decide⟩
theorem agr:dG Pg 78:=⟨_,Tryz.func78,rfl,by decide⟩
theorem ags:dG Pg 80:=⟨_,Tryz.func80,rfl,by decide⟩
theorem agt:dG Pg 83:=⟨_,Tryz.func83,rfl,by decide⟩
theorem agu:dG Pg 85:=⟨_,Tryz.func85,rfl,by decide⟩
theorem agv:dG Pg 99:=⟨_,Tryz.func99,rfl,by decide⟩
theorem afS:dG Pg 100:=⟨_,Tryz.func100,rfl,by decide⟩
theorem afT:dG Pg 102:=⟨_,Tryz.func102,rfl,by decide⟩
theorem afU:dG Pg 110:=⟨_,Tryz.func110,rfl,by decide⟩
theorem afV:dG Pg 122:=⟨_,Tryz.func122,rfl,by decide⟩
theorem afW:dG Pg 128:=⟨_,Tryz.func128,rfl,by decide⟩
theorem afX:dG Pg 129:=⟨_,Tryz.func129,rfl,by decide⟩
theorem afY:dG Pg 130:=⟨_,Tryz.func130,rfl,by decide⟩
theorem afZ:dG Pg 131:=⟨_,Tryz.func131,rfl,by decide⟩
theorem SP:dG Pg 132:=⟨_,Tryz.func132,rfl,by decide⟩
theorem af0:dG Pg 133:=⟨_,Tryz.func133,rfl,by decide⟩
theorem SQ:dG Pg 134:=⟨_,Tryz.func134,rfl,by decide⟩
theorem SR:dG Pg 135:=⟨_,Tryz.func135,rfl,by decide⟩
theorem af1:dG Pg 143:=⟨_,Tryz.func143,rfl,by decide⟩
theorem af2:dG Pg 145:=⟨_,Tryz.func145,rfl,by decide⟩
theorem af3:dG Pg 155:=⟨_,Tryz.func155,rfl,by decide⟩
theorem JB:dG Pg 156:=⟨_,Tryz.func156,rfl,by decide⟩
theorem af4:dG Pg 157:=⟨_,Tryz.func157,rfl,by decide⟩
theorem af5:dG Pg 173:=⟨_,Tryz.func173,rfl,by decide⟩
theorem af7:dG Pg 181:=⟨_,Tryz.func181,rfl,by decide⟩
theorem JC:dG Pg 184:=⟨_,Tryz.func184,rfl,by decide⟩
theorem JD:dG Pg 185:=⟨_,Tryz.func185,rfl,by decide⟩
theorem af8:dG Pg 186:=⟨_,Tryz.func186,rfl,by decide⟩
theorem af9:dG Pg 187:=⟨_,Tryz.func187,rfl,by decide⟩
theorem aga:dG Pg 189:=⟨_,Tryz.func189,rfl,by decide⟩
theorem SW:dG Pg 198:=⟨_,Tryz.func198,rfl,by decide⟩
theorem agb:dG Pg 199:=⟨_,Tryz.func199,rfl,by decide⟩
theorem agc:dG Pg 200:=⟨_,Tryz.func200,rfl,by decide⟩
theorem age:dG Pg 215:=⟨_,Tryz.func215,rfl,by decide⟩
theorem agf:dG Pg 216:=⟨_,Tryz.func216,rfl,by decide⟩
theorem mixed:Tryz.prog.follows .mixedOrders=true:=by kernel_rfl
theorem awk(w:World):(((Tryz.prog.fieldsOf 34).toList).mapM fun f=>(do pure (f.offset,← sizeOf f.type):Sem (Nat×Nat))).run Pg w=.ok [(0,1001),(1001,1001)] w:=by kernel_rfl
theorem MO(w:World):(((Tryz.prog.fieldsOf 38).toList).mapM fun f=>(do pure (f.offset,← sizeOf f.type):Sem (Nat×Nat))).run Pg w=.ok [(0,1),(1,1),(2,1),(3,1),(4,1),(5,1)] w:=by kernel_rfl
theorem awl(w:World):(((Tryz.prog.fieldsOf 49).toList).mapM fun f=>(do pure (f.offset,← sizeOf f.type):Sem (Nat×Nat))).run Pg w=.ok [(0,1),(1,1),(2,1)] w:=by kernel_rfl
theorem MP(w:World):(((Tryz.prog.fieldsOf 53).toList).mapM fun f=>(do pure (f.offset,← sizeOf f.type):Sem (Nat×Nat))).run Pg w=.ok [(0,1),(1,1),(2,1)] w:=by kernel_rfl
theorem Gv(w:World):(((Tryz.prog.fieldsOf 56).toList).mapM fun f=>(do pure (f.offset,← sizeOf f.type):Sem (Nat×Nat))).run Pg w=.ok [(0,1),(1,1),(2,3),(5,1)] w:=by kernel_rfl
theorem WN(w:World):(((Tryz.prog.fieldsOf 66).toList).mapM fun f=>(do pure (f.offset,← sizeOf f.type):Sem (Nat×Nat))).run Pg w=.ok [(0,1),(1,1),(2,1),(3,1),(4,1),(5,1),(6,1),(7,1),(8,1),(9,1),(10,1)] w:=by kernel_rfl
theorem awm(w:World):(((Tryz.prog.fieldsOf 94).toList).mapM fun f=>(do pure (f.offset,← sizeOf f.type):Sem (Nat×Nat))).run Pg w=.ok [(0,1)] w:=by kernel_rfl
theorem awn(w:World):(((Tryz.prog.fieldsOf 99).toList).mapM fun f=>(do pure (f.offset,← sizeOf f.type):Sem (Nat×Nat))).run Pg w=.ok [(0,1),(1,1),(2,1),(3,1),(4,1),(5,1)] w:=by kernel_rfl
theorem av5(w:World):(((Tryz.prog.fieldsOf 109).toList).mapM fun f=>(do pure (f.offset,← sizeOf f.type):Sem (Nat×Nat))).run Pg w=.ok [(0,1),(1,1),(2,1),(3,1)] w:=by kernel_rfl
theorem av6(w:World):(((Tryz.prog.fieldsOf 112).toList).mapM fun f=>(do pure (f.offset,← sizeOf f.type):Sem (Nat×Nat))).run Pg w=.ok [(0,1),(1,1),(2,1),(3,1),(4,1)] w:=by kernel_rfl
theorem Gu(w:World):(((Tryz.prog.fieldsOf 133).toList).mapM fun f=>(do pure (f.offset,← sizeOf f.type):Sem (Nat×Nat))).run Pg w=.ok [(0,1),(1,1),(2,1),(3,1),(4,1)] w:=by kernel_rfl
theorem WK(w:World):(((Tryz.prog.fieldsOf 140).toList).mapM fun f=>(do pure (f.offset,← sizeOf f.type):Sem (Nat×Nat))).run Pg w=.ok [(0,1),(1,1),(2,1),(3,6)] w:=by kernel_rfl
theorem av7(w:World):(((Tryz.prog.fieldsOf 145).toList).mapM fun f=>(do pure (f.offset,← sizeOf f.type):Sem (Nat×Nat))).run Pg w=.ok [(0,1),(1,1),(2,1)] w:=by kernel_rfl
theorem av8(w:World):(((Tryz.prog.fieldsOf 147).toList).mapM fun f=>(do pure (f.offset,← sizeOf f.type):Sem (Nat×Nat))).run Pg w=.ok [(0,1),(1,6)] w:=by kernel_rfl
theorem av9(w:World):(((Tryz.prog.fieldsOf 161).toList).mapM fun f=>(do pure (f.offset,← sizeOf f.type):Sem (Nat×Nat))).run Pg w=.ok [] w:=by kernel_rfl
theorem awa(w:World):(((Tryz.prog.fieldsOf 164).toList).mapM fun f=>(do pure (f.offset,← sizeOf f.type):Sem (Nat×Nat))).run Pg w=.ok [(0,1),(1,1)] w:=by kernel_rfl
theorem awb(w:World):(((Tryz.prog.fieldsOf 169).toList).mapM fun f=>(do pure (f.offset,← sizeOf f.type):Sem (Nat×Nat))).run Pg w=.ok [(0,1),(1,1),(2,1),(3,1)] w:=by kernel_rfl
theorem awc(w:World):(((Tryz.prog.fieldsOf 171).toList).mapM fun f=>(do pure (f.offset,← sizeOf f.type):Sem (Nat×Nat))).run Pg w=.ok [(0,4),(4,1),(5,1)] w:=by kernel_rfl
theorem awd(w:World):(((Tryz.prog.fieldsOf 174).toList).mapM fun f=>(do pure (f.offset,← sizeOf f.type):Sem (Nat×Nat))).run Pg w=.ok [(0,1),(1,1)] w:=by kernel_rfl
theorem awe(w:World):(((Tryz.prog.fieldsOf 190).toList).mapM fun f=>(do pure (f.offset,← sizeOf f.type):Sem (Nat×Nat))).run Pg w=.ok [(0,1),(1,1)] w:=by kernel_rfl
theorem awf(w:World):(((Tryz.prog.fieldsOf 192).toList).mapM fun f=>(do pure (f.offset,← sizeOf f.type):Sem (Nat×Nat))).run Pg w=.ok [(0,2),(2,1),(3,1),(4,1)] w:=by kernel_rfl
theorem awg(w:World):(((Tryz.prog.fieldsOf 208).toList).mapM fun f=>(do pure (f.offset,← sizeOf f.type):Sem (Nat×Nat))).run Pg w=.ok [(0,1),(1,1),(2,1)] w:=by kernel_rfl
theorem WL(w:World):(((Tryz.prog.fieldsOf 210).toList).mapM fun f=>(do pure (f.offset,← sizeOf f.type):Sem (Nat×Nat))).run Pg w=.ok [(0,1),(1,1)] w:=by kernel_rfl
theorem awh(w:World):(((Tryz.prog.fieldsOf 238).toList).mapM fun f=>(do pure (f.offset,← sizeOf f.type):Sem (Nat×Nat))).run Pg w=.ok [(0,1),(1,1)] w:=by kernel_rfl
theorem awi(w:World):(((Tryz.prog.fieldsOf 245).toList).mapM fun f=>(do pure (f.offset,← sizeOf f.type):Sem (Nat×Nat))).run Pg w=.ok [(0,1),(1,1)] w:=by kernel_rfl
theorem awj(w:World):(((Tryz.prog.fieldsOf 247).toList).mapM fun f=>(do pure (f.offset,← sizeOf f.type):Sem (Nat×Nat))).run Pg w=.ok [(0,1)] w:=by kernel_rfl
theorem WM(w:World):(((Tryz.prog.fieldsOf 288).toList).mapM fun f=>(do pure (f.offset,← sizeOf f.type):Sem (Nat×Nat))).run Pg w=.ok [(0,1),(1,1)] w:=by kernel_rfl
theorem Xj{n f w A }(ab:A.op=.build 34 #[]):(execOp (Y n f) A).run Pg w=.ok (.value (xA.enc ⟨(Vector.replicate 1001 false),(Vector.replicate 1001 ([]:List UInt8))⟩)) w:=
 gN (dy:=[]) (fJ:=[]) (a4:=qd.cells ⟨(Vector.replicate 1001 false),(Vector.replicate 1001 ([]:List UInt8))⟩) ab Tryz.underlying34 UL (by have:=awk; simp only[Program.fieldsOf,Tryz.underlying34] at this; exact this) (by simp only[List.map_cons,List.map_nil]) (by kernel_rfl)
theorem Df{n f w A }(ab:A.op=.build 38 #[]):(execOp (Y n f) A).run Pg w=.ok (.value (ft.enc ⟨(0:Int),(0:Int),(0:Int),(0:Int),(0:Int),false⟩)) w:=
 gN (dy:=[]) (fJ:=[]) (a4:=jB.cells ⟨(0:Int),(0:Int),(0:Int),(0:Int),(0:Int),false⟩) ab Tryz.underlying38 Ag (by have:=MO; simp only[Program.fieldsOf,Tryz.underlying38] at this; exact this) (by simp only[List.map_cons,List.map_nil]) (by kernel_rfl)
theorem M5{n f w A bD cH fp ez dr dn a9 ct eo gP h8 sT}(ab:A.op=.build 38 #[(0,bD),(1,cH),(2,fp),(3,ez),(4,dr),(5,dn)])(am:Y n f bD=.int .i64 (a9))(B:Y n f cH=.int .i64 (ct))(J:Y n f fp=.int .i64 (eo))(au:Y n f ez=.int .i64 (gP))(a8:Y n f dr=.int .i64 (h8))(b_:Y n f dn=.bool (sT)):(execOp (Y n f) A).run Pg w=.ok (.value (ft.enc ⟨a9,ct,eo,gP,h8,sT⟩)) w:=
 gN (dy:=[(0,bD),(1,cH),(2,fp),(3,ez),(4,dr),(5,dn)]) (fJ:=[(0,.int .i64 (a9)),(1,.int .i64 (ct)),(2,.int .i64 (eo)),(3,.int .i64 (gP)),(4,.int .i64 (h8)),(5,.bool (sT))]) (a4:=jB.cells ⟨a9,ct,eo,gP,h8,sT⟩) ab Tryz.underlying38 Ag (by have:=MO; simp only[Program.fieldsOf,Tryz.underlying38] at this; exact this) (by simp only[List.map_cons,List.map_nil,am,B,J,au,a8,b_]) (by kernel_rfl)
theorem Xk{n f w A bD cH ez dr a9 ct gP h8}(ab:A.op=.build 38 #[(0,bD),(1,cH),(3,ez),(4,dr)])(am:Y n f bD=.int .i64 (a9))(B:Y n f cH=.int .i64 (ct))(au:Y n f ez=.int .i64 (gP))(a8:Y n f dr=.int .i64 (h8)):(execOp (Y n f) A).run Pg w=.ok (.value (ft.enc ⟨a9,ct,(0:Int),gP,h8,false⟩)) w:=
 gN (dy:=[(0,bD),(1,cH),(3,ez),(4,dr)]) (fJ:=[(0,.int .i64 (a9)),(1,.int .i64 (ct)),(3,.int .i64 (gP)),(4,.int .i64 (h8))]) (a4:=jB.cells ⟨a9,ct,(0:Int),gP,h8,false⟩) ab Tryz.underlying38 Ag (by have:=MO; simp only[Program.fieldsOf,Tryz.underlying38] at this; exact this) (by simp only[List.map_cons,List.map_nil,am,B,au,a8]) (by kernel_rfl)
theorem Xl{n f w A bD a9}(ab:A.op=.build 49 #[(0,bD)])(am:Y n f bD=.float .f64 (a9)):(execOp (Y n f) A).run Pg w=.ok (.value (xB.enc ⟨a9,(⟨none,0,0⟩:X),(none:Option Addr)⟩)) w:=
 gN (dy:=[(0,bD)]) (fJ:=[(0,.float .f64 (a9))]) (a4:=s_.cells ⟨a9,(⟨none,0,0⟩:X),(none:Option Addr)⟩) ab Tryz.underlying49 UN (by have:=awl; simp only[Program.fieldsOf,Tryz.underlying49] at this; exact this) (by simp only[List.map_cons,List.map_nil,am]) (by kernel_rfl)
theorem Xm{n f w A bD a9}(ab:A.op=.build 53 #[(0,bD)])(am:Y n f bD=.int .i64 (a9)):(execOp (Y n f) A).run Pg w=.ok (.value (dA.enc ⟨a9,(0:Int),([]:List UInt8)⟩)) w:=
 gN (dy:=[(0,bD)]) (fJ:=[(0,.int .i64 (a9))]) (a4:=eA.cells ⟨a9,(0:Int),([]:List UInt8)⟩) ab Tryz.underlying53 yl (by have:=MP; simp only[Program.fieldsOf,Tryz.underlying53] at this; exact this) (by simp only[List.map_cons,List.map_nil,am]) (by kernel_rfl)
theorem Dg{n f w A bD cH fp a9 ct eo}(ab:A.op=.build 53 #[(0,bD),(1,cH),(2,fp)])(am:Y n f bD=.int .i64 (a9))(B:Y n f cH=.int .i64 (ct))(J:Y n f fp=.string ⟨(eo).toArray⟩):(execOp (Y n f) A).run Pg w=.ok (.value (dA.enc ⟨a9,ct,eo⟩)) w:=
 gN (dy:=[(0,bD),(1,cH),(2,fp)]) (fJ:=[(0,.int .i64 (a9)),(1,.int .i64 (ct)),(2,.string ⟨(eo).toArray⟩)]) (a4:=eA.cells ⟨a9,ct,eo⟩) ab Tryz.underlying53 yl (by have:=MP; simp only[Program.fieldsOf,Tryz.underlying53] at this; exact this) (by simp only[List.map_cons,List.map_nil,am,B,J]) (by kernel_rfl)
theorem M6{n f w A bD fp a9 eo}(ab:A.op=.build 53 #[(0,bD),(2,fp)])(am:Y n f bD=.int .i64 (a9))(J:Y n f fp=.string ⟨(eo).toArray⟩):(execOp (Y n f) A).run Pg w=.ok (.value (dA.enc ⟨a9,(0:Int),eo⟩)) w:=
 gN (dy:=[(0,bD),(2,fp)]) (fJ:=[(0,.int .i64 (a9)),(2,.string ⟨(eo).toArray⟩)]) (a4:=eA.cells ⟨a9,(0:Int),eo⟩) ab Tryz.underlying53 yl (by have:=MP; simp only[Program.fieldsOf,Tryz.underlying53] at this; exact this) (by simp only[List.map_cons,List.map_nil,am,J]) (by kernel_rfl)
theorem Xn{n f w A bD cH a9 ct}(ab:A.op=.build 56 #[(0,bD),(1,cH)])(am:Y n f bD=.int .i64 (a9))(B:Y n f cH=.int .i64 (ct)):(execOp (Y n f) A).run Pg w=.ok (.value (eB.enc ⟨a9,ct,hf,(⟨none,0,0⟩:X)⟩)) w:=
 gN (dy:=[(0,bD),(1,cH)]) (fJ:=[(0,.int .i64 (a9)),(1,.int .i64 (ct))]) (a4:=g4.cells ⟨a9,ct,hf,(⟨none,0,0⟩:X)⟩) ab Tryz.underlying56 ym (by have:=Gv; simp only[Program.fieldsOf,Tryz.underlying56] at this; exact this) (by simp only[List.map_cons,List.map_nil,am,B]) (by kernel_rfl)
theorem Xo{n f w A bD cH fp a9 ct eo}(ab:A.op=.build 56 #[(0,bD),(1,cH),(2,fp)])(am:Y n f bD=.int .i64 (a9))(B:Y n f cH=.int .i64 (ct))(J:Y n f fp=dA.enc (eo)):(execOp (Y n f) A).run Pg w=.ok (.value (eB.enc ⟨a9,ct,eo,(⟨none,0,0⟩:X)⟩)) w:=
 gN (dy:=[(0,bD),(1,cH),(2,fp)]) (fJ:=[(0,.int .i64 (a9)),(1,.int .i64 (ct)),(2,dA.enc (eo))]) (a4:=g4.cells ⟨a9,ct,eo,(⟨none,0,0⟩:X)⟩) ab Tryz.underlying56 ym (by have:=Gv; simp only[Program.fieldsOf,Tryz.underlying56] at this; exact this) (by simp only[List.map_cons,List.map_nil,am,B,J]) (by kernel_rfl)
theorem Xp{n f w A bD cH ez a9 ct gP}(ab:A.op=.build 56 #[(0,bD),(1,cH),(3,ez)])(am:Y n f bD=.int .i64 (a9))(B:Y n f cH=.int .i64 (ct))(au:Y n f ez=O.enc (gP)):(execOp (Y n f) A).run Pg w=.ok (.value (eB.enc ⟨a9,ct,hf,gP⟩)) w:=
 gN (dy:=[(0,bD),(1,cH),(3,ez)]) (fJ:=[(0,.int .i64 (a9)),(1,.int .i64 (ct)),(3,O.enc (gP))]) (a4:=g4.cells ⟨a9,ct,hf,gP⟩) ab Tryz.underlying56 ym (by have:=Gv; simp only[Program.fieldsOf,Tryz.underlying56] at this; exact this) (by simp only[List.map_cons,List.map_nil,am,B,au]) (by kernel_rfl)
theorem M7{n f w A bD fp a9 eo}(ab:A.op=.build 56 #[(0,bD),(2,fp)])(am:Y n f bD=.int .i64 (a9))(J:Y n f fp=dA.enc (eo)):(execOp (Y n f) A).run Pg w=.ok (.value (eB.enc ⟨a9,(0:Int),eo,(⟨none,0,0⟩:X)⟩)) w:=
 gN (dy:=[(0,bD),(2,fp)]) (fJ:=[(0,.int .i64 (a9)),(2,dA.enc (eo))]) (a4:=g4.cells ⟨a9,(0:Int),eo,(⟨none,0,0⟩:X)⟩) ab Tryz.underlying56 ym (by have:=Gv; simp only[Program.fieldsOf,Tryz.underlying56] at this; exact this) (by simp only[List.map_cons,List.map_nil,am,J]) (by kernel_rfl)
theorem Xq{n f w A }(ab:A.op=.build 66 #[]):(execOp (Y n f) A).run Pg w=.ok (.value (uf.enc ⟨(none:Option Addr),(none:Option Addr),(⟨none,0,0⟩:X),(none:Option Nat),(none:Option Addr),(0:Int),(0:Int),false,(none:Option Nat),(none:Option Nat),(0:Int)⟩)) w:=
 gN (dy:=[]) (fJ:=[]) (a4:=qY.cells ⟨(none:Option Addr),(none:Option Addr),(⟨none,0,0⟩:X),(none:Option Nat),(none:Option Addr),(0:Int),(0:Int),false,(none:Option Nat),(none:Option Nat),(0:Int)⟩) ab Tryz.underlying66 Ly (by have:=WN; simp only[Program.fieldsOf,Tryz.underlying66] at this; exact this) (by simp only[List.map_cons,List.map_nil]) (by kernel_rfl)
theorem Xr{n f w A bD cH dr ez a9 ct h8 gP}(ab:A.op=.build 66 #[(0,bD),(1,cH),(4,dr),(3,ez)])(am:Y n f bD=.pointer (a9))(B:Y n f cH=.pointer (ct))(a8:Y n f dr=.pointer (h8))(au:Y n f ez=.map (gP)):(execOp (Y n f) A).run Pg w=.ok (.value (uf.enc ⟨a9,ct,(⟨none,0,0⟩:X),gP,h8,(0:Int),(0:Int),false,(none:Option Nat),(none:Option Nat),(0:Int)⟩)) w:=
 gN (dy:=[(0,bD),(1,cH),(4,dr),(3,ez)]) (fJ:=[(0,.pointer (a9)),(1,.pointer (ct)),(4,.pointer (h8)),(3,.map (gP))]) (a4:=qY.cells ⟨a9,ct,(⟨none,0,0⟩:X),gP,h8,(0:Int),(0:Int),false,(none:Option Nat),(none:Option Nat),(0:Int)⟩) ab Tryz.underlying66 Ly (by have:=WN; simp only[Program.fieldsOf,Tryz.underlying66] at this; exact this) (by simp only[List.map_cons,List.map_nil,am,B,a8,au]) (by kernel_rfl)
theorem Xs{n f w A bD a9}(ab:A.op=.build 94 #[(0,bD)])(am:Y n f bD=.pointer (a9)):(execOp (Y n f) A).run Pg w=.ok (.value (b5.enc ⟨a9⟩)) w:=
 gN (dy:=[(0,bD)]) (fJ:=[(0,.pointer (a9))]) (a4:=kX.cells ⟨a9⟩) ab Tryz.underlying94 UT (by have:=awm; simp only[Program.fieldsOf,Tryz.underlying94] at this; exact this) (by simp only[List.map_cons,List.map_nil,am]) (by kernel_rfl)
theorem Xt{n f w A bD cH ez dr dn a9 ct gP h8 sT}(ab:A.op=.build 99 #[(0,bD),(1,cH),(3,ez),(4,dr),(5,dn)])(am:Y n f bD=b5.enc (a9))(B:Y n f cH=.float .f64 (ct))(au:Y n f ez=.map (gP))(a8:Y n f dr=.map (h8))(b_:Y n f dn=.map (sT)):(execOp (Y n f) A).run Pg w=.ok (.value (xC.enc ⟨a9,ct,(0:Int),gP,h8,sT⟩)) w:=
 gN (dy:=[(0,bD),(1,cH),(3,ez),(4,dr),(5,dn)]) (fJ:=[(0,b5.enc (a9)),(1,.float .f64 (ct)),(3,.map (gP)),(4,.map (h8)),(5,.map (sT))]) (a4:=qZ.cells ⟨a9,ct,(0:Int),gP,h8,sT⟩) ab Tryz.underlying99 UU (by have:=awn; simp only[Program.fieldsOf,Tryz.underlying99] at this; exact this) (by simp only[List.map_cons,List.map_nil,am,B,au,a8,b_]) (by kernel_rfl)
theorem W3{n f w A bD ez a9 gP}(ab:A.op=.build 109 #[(0,bD),(3,ez)])(am:Y n f bD=.int .i64 (a9))(au:Y n f ez=.map (gP)):(execOp (Y n f) A).run Pg w=.ok (.value (zB.enc ⟨a9,(0:Int),(⟨none,0,0⟩:X),gP⟩)) w:=
 gN (dy:=[(0,bD),(3,ez)]) (fJ:=[(0,.int .i64 (a9)),(3,.map (gP))]) (a4:=t_.cells ⟨a9,(0:Int),(⟨none,0,0⟩:X),gP⟩) ab Tryz.underlying109 Ux (by have:=av5; simp only[Program.fieldsOf,Tryz.underlying109] at this; exact this) (by simp only[List.map_cons,List.map_nil,am,au]) (by kernel_rfl)
theorem W4{n f w A bD a9}(ab:A.op=.build 112 #[(0,bD)])(am:Y n f bD=O.enc (a9)):(execOp (Y n f) A).run Pg w=.ok (.value (xv.enc ⟨a9,(0:Int),false,(0:Int),(⟨none,0,0⟩:X)⟩)) w:=
 gN (dy:=[(0,bD)]) (fJ:=[(0,O.enc (a9))]) (a4:=ua.cells ⟨a9,(0:Int),false,(0:Int),(⟨none,0,0⟩:X)⟩) ab Tryz.underlying112 Uy (by have:=av6; simp only[Program.fieldsOf,Tryz.underlying112] at this; exact this) (by simp only[List.map_cons,List.map_nil,am]) (by kernel_rfl)
theorem MZ{n f w A bD a9}(ab:A.op=.build 133 #[(0,bD)])(am:Y n f bD=.int .i64 (a9)):(execOp (Y n f) A).run Pg w=.ok (.value (fh.enc ⟨a9,(0:Int),(0:Int),(0:Nat),([]:List UInt8)⟩)) w:=
 gN (dy:=[(0,bD)]) (fJ:=[(0,.int .i64 (a9))]) (a4:=ib.cells ⟨a9,(0:Int),(0:Int),(0:Nat),([]:List UInt8)⟩) ab Tryz.underlying133 rj (by have:=Gu; simp only[Program.fieldsOf,Tryz.underlying133] at this; exact this) (by simp only[List.map_cons,List.map_nil,am]) (by kernel_rfl)
theorem M0{n f w A bD cH a9 ct}(ab:A.op=.build 133 #[(0,bD),(1,cH)])(am:Y n f bD=.int .i64 (a9))(B:Y n f cH=.int .u64 (ct)):(execOp (Y n f) A).run Pg w=.ok (.value (fh.enc ⟨a9,ct,(0:Int),(0:Nat),([]:List UInt8)⟩)) w:=
 gN (dy:=[(0,bD),(1,cH)]) (fJ:=[(0,.int .i64 (a9)),(1,.int .u64 (ct))]) (a4:=ib.cells ⟨a9,ct,(0:Int),(0:Nat),([]:List UInt8)⟩) ab Tryz.underlying133 rj (by have:=Gu; simp only[Program.fieldsOf,Tryz.underlying133] at this; exact this) (by simp only[List.map_cons,List.map_nil,am,B]) (by kernel_rfl)
theorem GD{n f w A bD fp a9 eo}(ab:A.op=.build 133 #[(0,bD),(2,fp)])(am:Y n f bD=.int .i64 (a9))(J:Y n f fp=.int .i64 (eo)):(execOp (Y n f) A).run Pg w=.ok (.value (fh.enc ⟨a9,(0:Int),eo,(0:Nat),([]:List UInt8)⟩)) w:=
 gN (dy:=[(0,bD),(2,fp)]) (fJ:=[(0,.int .i64 (a9)),(2,.int .i64 (eo))]) (a4:=ib.cells ⟨a9,(0:Int),eo,(0:Nat),([]:List UInt8)⟩) ab Tryz.underlying133 rj (by have:=Gu; simp only[Program.fieldsOf,Tryz.underlying133] at this; exact this) (by simp only[List.map_cons,List.map_nil,am,J]) (by kernel_rfl)
theorem M1{n f w A bD dr a9 h8}(ab:A.op=.build 133 #[(0,bD),(4,dr)])(am:Y n f bD=.int .i64 (a9))(a8:Y n f dr=.string ⟨(h8).toArray⟩):(execOp (Y n f) A).run Pg w=.ok (.value (fh.enc ⟨a9,(0:Int),(0:Int),(0:Nat),h8⟩)) w:=
 gN (dy:=[(0,bD),(4,dr)]) (fJ:=[(0,.int .i64 (a9)),(4,.string ⟨(h8).toArray⟩)]) (a4:=ib.cells ⟨a9,(0:Int),(0:Int),(0:Nat),h8⟩) ab Tryz.underlying133 rj (by have:=Gu; simp only[Program.fieldsOf,Tryz.underlying133] at this; exact this) (by simp only[List.map_cons,List.map_nil,am,a8]) (by kernel_rfl)
theorem W5{n f w A }(ab:A.op=.build 140 #[]):(execOp (Y n f) A).run Pg w=.ok (.value (ej.enc ⟨(0:Int),(0:Int),(0:Int),rR⟩)) w:=
 gN (dy:=[]) (fJ:=[]) (a4:=iv.cells ⟨(0:Int),(0:Int),(0:Int),rR⟩) ab Tryz.underlying140 FL (by have:=WK; simp only[Program.fieldsOf,Tryz.underlying140] at this; exact this) (by simp only[List.map_cons,List.map_nil]) (by kernel_rfl)
theorem W6{n f w A bD cH fp ez a9 ct eo gP}(ab:A.op=.build 140 #[(0,bD),(1,cH),(2,fp),(3,ez)])(am:Y n f bD=.int .i64 (a9))(B:Y n f cH=.int .i64 (ct))(J:Y n f fp=.int .i64 (eo))(au:Y n f ez=eB.enc (gP)):(execOp (Y n f) A).run Pg w=.ok (.value (ej.enc ⟨a9,ct,eo,gP⟩)) w:=
 gN (dy:=[(0,bD),(1,cH),(2,fp),(3,ez)]) (fJ:=[(0,.int .i64 (a9)),(1,.int .i64 (ct)),(2,.int .i64 (eo)),(3,eB.enc (gP))]) (a4:=iv.cells ⟨a9,ct,eo,gP⟩) ab Tryz.underlying140 FL (by have:=WK; simp only[Program.fieldsOf,Tryz.underlying140] at this; exact this) (by simp only[List.map_cons,List.map_nil,am,B,J,au]) (by kernel_rfl)
theorem W7{n f w A bD fp a9 eo}(ab:A.op=.build 145 #[(0,bD),(2,fp)])(am:Y n f bD=.pointer (a9))(J:Y n f fp=.map (eo)):(execOp (Y n f) A).run Pg w=.ok (.value (xw.enc ⟨a9,(0:Int),eo⟩)) w:=
 gN (dy:=[(0,bD),(2,fp)]) (fJ:=[(0,.pointer (a9)),(2,.map (eo))]) (a4:=ub.cells ⟨a9,(0:Int),eo⟩) ab Tryz.underlying145 Uz (by have:=av7; simp only[Program.fieldsOf,Tryz.underlying145] at this; exact this) (by simp only[List.map_cons,List.map_nil,am,J]) (by kernel_rfl)
theorem W8{n f w A bD cH a9 ct}(ab:A.op=.build 147 #[(0,bD),(1,cH)])(am:Y n f bD=.int .i64 (a9))(B:Y n f cH=eB.enc (ct)):(execOp (Y n f) A).run Pg w=.ok (.value (ta.enc ⟨a9,ct⟩)) w:=
 gN (dy:=[(0,bD),(1,cH)]) (fJ:=[(0,.int .i64 (a9)),(1,eB.enc (ct))]) (a4:=qW.cells ⟨a9,ct⟩) ab Tryz.underlying147 Lt (by have:=av8; simp only[Program.fieldsOf,Tryz.underlying147] at this; exact this) (by simp only[List.map_cons,List.map_nil,am,B]) (by kernel_rfl)
theorem W9{n f w A }(ab:A.op=.build 161 #[]):(execOp (Y n f) A).run Pg w=.ok (.value (jn.enc ⟨⟩)) w:=
 gN (dy:=[]) (fJ:=[]) (a4:=nW.cells ⟨⟩) ab Tryz.underlying161 Lu (by have:=av9; simp only[Program.fieldsOf,Tryz.underlying161] at this; exact this) (by simp only[List.map_cons,List.map_nil]) (by kernel_rfl)
theorem W_{n f w A bD cH a9 ct}(ab:A.op=.build 164 #[(0,bD),(1,cH)])(am:Y n f bD=.string ⟨(a9).toArray⟩)(B:Y n f cH=.map (ct)):(execOp (Y n f) A).run Pg w=.ok (.value (xx.enc ⟨a9,ct⟩)) w:=
 gN (dy:=[(0,bD),(1,cH)]) (fJ:=[(0,.string ⟨(a9).toArray⟩),(1,.map (ct))]) (a4:=uc.cells ⟨a9,ct⟩) ab Tryz.underlying164 UB (by have:=awa; simp only[Program.fieldsOf,Tryz.underlying164] at this; exact this) (by simp only[List.map_cons,List.map_nil,am,B]) (by kernel_rfl)
theorem Xa{n f w A bD cH fp ez a9 ct eo gP}(ab:A.op=.build 169 #[(0,bD),(1,cH),(2,fp),(3,ez)])(am:Y n f bD=.int .i64 (a9))(B:Y n f cH=.int .i64 (ct))(J:Y n f fp=.int .i64 (eo))(au:Y n f ez=.bool (gP)):(execOp (Y n f) A).run Pg w=.ok (.value (kn.enc ⟨a9,ct,eo,gP⟩)) w:=
 gN (dy:=[(0,bD),(1,cH),(2,fp),(3,ez)]) (fJ:=[(0,.int .i64 (a9)),(1,.int .i64 (ct)),(2,.int .i64 (eo)),(3,.bool (gP))]) (a4:=hd.cells ⟨a9,ct,eo,gP⟩) ab Tryz.underlying169 UC (by have:=awb; simp only[Program.fieldsOf,Tryz.underlying169] at this; exact this) (by simp only[List.map_cons,List.map_nil,am,B,J,au]) (by kernel_rfl)
theorem Xb{n f w A bD cH fp a9 ct eo}(ab:A.op=.build 171 #[(0,bD),(1,cH),(2,fp)])(am:Y n f bD=kn.enc (a9))(B:Y n f cH=.int .i64 (ct))(J:Y n f fp=.int .i64 (eo)):(execOp (Y n f) A).run Pg w=.ok (.value (ic.enc ⟨a9,ct,eo⟩)) w:=
 gN (dy:=[(0,bD),(1,cH),(2,fp)]) (fJ:=[(0,kn.enc (a9)),(1,.int .i64 (ct)),(2,.int .i64 (eo))]) (a4:=oR.cells ⟨a9,ct,eo⟩) ab Tryz.underlying171 Lv (by have:=awc; simp only[Program.fieldsOf,Tryz.underlying171] at this; exact this) (by simp only[List.map_cons,List.map_nil,am,B,J]) (by kernel_rfl)
theorem Xc{n f w A bD cH a9 ct}(ab:A.op=.build 174 #[(0,bD),(1,cH)])(am:Y n f bD=.int .i64 (a9))(B:Y n f cH=.int .i64 (ct)):(execOp (Y n f) A).run Pg w=.ok (.value (jC.enc ⟨a9,ct⟩)) w:=
 gN (dy:=[(0,bD),(1,cH)]) (fJ:=[(0,.int .i64 (a9)),(1,.int .i64 (ct))]) (a4:=h0.cells ⟨a9,ct⟩) ab Tryz.underlying174 Lw (by have:=awd; simp only[Program.fieldsOf,Tryz.underlying174] at this; exact this) (by simp only[List.map_cons,List.map_nil,am,B]) (by kernel_rfl)
theorem M2{n f w A bD cH a9 ct}(ab:A.op=.build 190 #[(0,bD),(1,cH)])(am:Y n f bD=.int .i64 (a9))(B:Y n f cH=.int .i64 (ct)):(execOp (Y n f) A).run Pg w=.ok (.value (xy.enc ⟨a9,ct⟩)) w:=
 gN (dy:=[(0,bD),(1,cH)]) (fJ:=[(0,.int .i64 (a9)),(1,.int .i64 (ct))]) (a4:=qc.cells ⟨a9,ct⟩) ab Tryz.underlying190 UD (by have:=awe; simp only[Program.fieldsOf,Tryz.underlying190] at this; exact this) (by simp only[List.map_cons,List.map_nil,am,B]) (by kernel_rfl)
theorem M3{n f w A bD cH fp a9 ct eo}(ab:A.op=.build 192 #[(0,bD),(1,cH),(2,fp)])(am:Y n f bD=xy.enc (a9))(B:Y n f cH=.pointer (ct))(J:Y n f fp=.int .i64 (eo)):(execOp (Y n f) A).run Pg w=.ok (.value (xz.enc ⟨a9,ct,eo,false⟩)) w:=
 gN (dy:=[(0,bD),(1,cH),(2,fp)]) (fJ:=[(0,xy.enc (a9)),(1,.pointer (ct)),(2,.int .i64 (eo))]) (a4:=qX.cells ⟨a9,ct,eo,false⟩) ab Tryz.underlying192 UE (by have:=awf; simp only[Program.fieldsOf,Tryz.underlying192] at this; exact this) (by simp only[List.map_cons,List.map_nil,am,B,J]) (by kernel_rfl)
theorem Xd{n f w A bD a9}(ab:A.op=.build 208 #[(0,bD)])(am:Y n f bD=.map (a9)):(execOp (Y n f) A).run Pg w=.ok (.value (nX.enc ⟨a9,(0:Int),(0:Int)⟩)) w:=
 gN (dy:=[(0,bD)]) (fJ:=[(0,.map (a9))]) (a4:=ud.cells ⟨a9,(0:Int),(0:Int)⟩) ab Tryz.underlying208 UI (by have:=awg; simp only[Program.fieldsOf,Tryz.underlying208] at this; exact this) (by simp only[List.map_cons,List.map_nil,am]) (by kernel_rfl)
theorem Xe{n f w A }(ab:A.op=.build 210 #[]):(execOp (Y n f) A).run Pg w=.ok (.value (cX.enc ⟨(0:Int),(0:Int)⟩)) w:=
 gN (dy:=[]) (fJ:=[]) (a4:=ei.cells ⟨(0:Int),(0:Int)⟩) ab Tryz.underlying210 Ae (by have:=WL; simp only[Program.fieldsOf,Tryz.underlying210] at this; exact this) (by simp only[List.map_cons,List.map_nil]) (by kernel_rfl)
theorem Xf{n f w A bD cH a9 ct}(ab:A.op=.build 210 #[(0,bD),(1,cH)])(am:Y n f bD=.int .i64 (a9))(B:Y n f cH=.int .i64 (ct)):(execOp (Y n f) A).run Pg w=.ok (.value (cX.enc ⟨a9,ct⟩)) w:=
 gN (dy:=[(0,bD),(1,cH)]) (fJ:=[(0,.int .i64 (a9)),(1,.int .i64 (ct))]) (a4:=ei.cells ⟨a9,ct⟩) ab Tryz.underlying210 Ae (by have:=WL; simp only[Program.fieldsOf,Tryz.underlying210] at this; exact this) (by simp only[List.map_cons,List.map_nil,am,B]) (by kernel_rfl)
theorem Xg{n f w A }(ab:A.op=.build 238 #[]):(execOp (Y n f) A).run Pg w=.ok (.value (tb.enc ⟨(⟨none,0,0⟩:X),(0:Int)⟩)) w:=
 gN (dy:=[]) (fJ:=[]) (a4:=ue.cells ⟨(⟨none,0,0⟩:X),(0:Int)⟩) ab Tryz.underlying238 UJ (by have:=awh; simp only[Program.fieldsOf,Tryz.underlying238] at this; exact this) (by simp only[List.map_cons,List.map_nil]) (by kernel_rfl)
theorem M4{n f w A bD a9}(ab:A.op=.build 245 #[(0,bD)])(am:Y n f bD=O.enc (a9)):(execOp (Y n f) A).run Pg w=.ok (.value (zD.enc ⟨a9,(0:Int)⟩)) w:=
 gN (dy:=[(0,bD)]) (fJ:=[(0,O.enc (a9))]) (a4:=s9.cells ⟨a9,(0:Int)⟩) ab Tryz.underlying245 UK (by have:=awi; simp only[Program.fieldsOf,Tryz.underlying245] at this; exact this) (by simp only[List.map_cons,List.map_nil,am]) (by kernel_rfl)
theorem vt{n f w A bD a9}(ab:A.op=.build 247 #[(0,bD)])(am:Y n f bD=.int .i64 (a9)):(execOp (Y n f) A).run Pg w=.ok (.value (iw.enc ⟨a9⟩)) w:=
 gN (dy:=[(0,bD)]) (fJ:=[(0,.int .i64 (a9))]) (a4:=iJ.cells ⟨a9⟩) ab Tryz.underlying247 CN (by have:=awj; simp only[Program.fieldsOf,Tryz.underlying247] at this; exact this) (by simp only[List.map_cons,List.map_nil,am]) (by kernel_rfl)
theorem Xh{n f w A bD a9}(ab:A.op=.build 288 #[(0,bD)])(am:Y n f bD=.int .i64 (a9)):(execOp (Y n f) A).run Pg w=.ok (.value (jo.enc ⟨a9,(0:Int)⟩)) w:=
 gN (dy:=[(0,bD)]) (fJ:=[(0,.int .i64 (a9))]) (a4:=pr.cells ⟨a9,(0:Int)⟩) ab Tryz.underlying288 Af (by have:=WM; simp only[Program.fieldsOf,Tryz.underlying288] at this; exact this) (by simp only[List.map_cons,List.map_nil,am]) (by kernel_rfl)
theorem Xi{n f w A bD cH a9 ct}(ab:A.op=.build 288 #[(0,bD),(1,cH)])(am:Y n f bD=.int .i64 (a9))(B:Y n f cH=.int .i64 (ct)):(execOp (Y n f) A).run Pg w=.ok (.value (jo.enc ⟨a9,ct⟩)) w:=
 gN (dy:=[(0,bD),(1,cH)]) (fJ:=[(0,.int .i64 (a9)),(1,.int .i64 (ct))]) (a4:=pr.cells ⟨a9,ct⟩) ab Tryz.underlying288 Af (by have:=WM; simp only[Program.fieldsOf,Tryz.underlying288] at this; exact this) (by simp only[List.map_cons,List.map_nil,am,B]) (by kernel_rfl)
def eA.iQ(x N:eA):Bool:=((x.bm==N.bm)&&((x.ai==N.ai)&&((x.V==N.V)&&true)))
theorem agB{d:Nat}{w:World}(x N:eA):(Op.equalIn (d+2) 53 (.agg (eA.cells x).toArray) (.agg (eA.cells N).toArray)).run Pg w=.ok (eA.iQ x N) w:=
 S0 Tryz.underlying53 (by kernel_rfl) (xR (by decide) (oC Tryz.underlying3 rfl rfl) (oC Tryz.underlying3 rfl rfl) (B6 Tryz.underlying3) (xR (by decide) (oC Tryz.underlying2 rfl rfl) (oC Tryz.underlying2 rfl rfl) (B6 Tryz.underlying2) (xR (by decide) (oC Tryz.underlying9 rfl rfl) (oC Tryz.underlying9 rfl rfl) (agz Tryz.underlying9) SZ)))
theorem B5(x N:eA):Tryz.prog.eqGuardType Tryz.prog.depth 53=false∧∀ w,(Op.equalIn 10000 53 (.agg (eA.cells x).toArray) (.agg (eA.cells N).toArray)).run Pg w=.ok (eA.iQ x N) w:=
 ⟨by kernel_rfl,fun _=>agB (d:=9998) x N⟩
def hd.iQ(x N:hd):Bool:=((x.df==N.df)&&((x.b4==N.b4)&&((x.ar==N.ar)&&((x.jm==N.jm)&&true))))
theorem agA{d:Nat}{w:World}(x N:hd):(Op.equalIn (d+2) 169 (.agg (hd.cells x).toArray) (.agg (hd.cells N).toArray)).run Pg w=.ok (hd.iQ x N) w:=
 S0 Tryz.underlying169 (by kernel_rfl) (xR (by decide) (oC Tryz.underlying3 rfl rfl) (oC Tryz.underlying3 rfl rfl) (B6 Tryz.underlying3) (xR (by decide) (oC Tryz.underlying3 rfl rfl) (oC Tryz.underlying3 rfl rfl) (B6 Tryz.underlying3) (xR (by decide) (oC Tryz.underlying2 rfl rfl) (oC Tryz.underlying2 rfl rfl) (B6 Tryz.underlying2) (xR (by decide) (oC Tryz.underlying4 rfl rfl) (oC Tryz.underlying4 rfl rfl) (agy Tryz.underlying4) SZ))))
theorem Fk(x N:hd):Tryz.prog.eqGuardType Tryz.prog.depth 169=false∧∀ w,(Op.equalIn 10000 169 (.agg (hd.cells x).toArray) (.agg (hd.cells N).toArray)).run Pg w=.ok (hd.iQ x N) w:=
 ⟨by kernel_rfl,fun _=>agA (d:=9998) x N⟩
theorem S7:Ext Pg 93 Extern.MathFloatBits.float64bits:=⟨_,Tryz.func93,rfl,rfl,by kernel_rfl,by kernel_rfl⟩
theorem JG:Ext Pg 152 Extern.MathFloatBits.float64frombits:=⟨_,Tryz.func152,rfl,rfl,by kernel_rfl,by kernel_rfl⟩
end ba
end Go.Proofs.YtnmmjkjkkmbhiaaGreat
