/- Own texts of this claim, part 0: short, merged. -/
import Derived.OrdersHeld
import Derived.Calls
import Derived.Laws.World
import Derived.KernelRfl
import Derived.WalkKit
import Derived.WalkLawsBesides
import Derived.Lib.SliceRun
import Derived.Laws.Cover3
import Derived.Laws.Pointers
import Derived.Lib.Strings
import Derived.Laws.Append
import Derived.Maps.OwnOps
import Derived.Laws.StructEq
import Derived.Maps.RangeRun
import Derived.Scope
import Derived.Laws.MakeOwn
import Derived.Laws.Small
import Derived.Laws.Externs
import Derived.Laws.BytesString
import Derived.Laws.IdiomStrings
import Derived.Laws.FloatArith
import Derived.Recover
import Derived.Test.YthaobmpdjcoheaaGreatProg
set_option maxRecDepth 100000
set_option maxHeartbeats 40000000
set_option linter.defProp false
set_option linter.unusedVariables false
set_option linter.unusedSimpArgs false
namespace Go.Proofs.YthaobmpdjcoheaaGreat
noncomputable abbrev Pg:=Tryz.prog
end Go.Proofs.YthaobmpdjcoheaaGreat
namespace Go.Proofs.YthaobmpdjcoheaaGreat
namespace bf
def ae(f:Nat→Value)(d:Nat)(v:Value):Nat→Value:=fun t=>bif Nat.beq t d then v else f t
def hi(f:Nat→Value):Option Nat→Value→(Nat→Value)
 |some d,v=>ae f d v
 |none,_=>f
def act(n:Nat)(f:Nat→Value)(aF:List Deferred):Act:={ tmps:=Array.ofFn (n:=n) fun i=>f i.1,defers:=aF }
def ad(n:Nat)(f:Nat→Value):Operand→Value
 |.tmp t=>bif Nat.blt t n then f t else undef
 |.const v=>v
 |.global g=>.pointer (some ⟨g,0,none⟩)
 |.func f=>.func (.func f) #[] #[]
theorem aIi{f:Nat→Value}{d:Nat}{v:Value}(h:f d=v):ae f d v=f:=by
 funext t;simp only[ae];cases ao:Nat.beq t d with
 |false=>rfl
 |true=>rw[Nat.eq_of_beq_eq_true ao,h]; rfl
theorem aQ{g f:Nat→Value}{d:Nat}{v:Value}(h:g=f)(aK:f d=v):ae g d v=f:=by
 subst h; exact aIi aK
theorem hR(n:Nat)(f:Nat→Value)(aF:List Deferred):(act n f aF).eval=ad n f:=by
 funext x;cases x with
 |tmp t=>
  simp only[Act.eval,act,ad];by_cases h:t<n
  ·have ao:Nat.blt t n=true:=by simpa using h
   simp[h,ao]
  ·have ao:Nat.blt t n=false:=by cases ao:Nat.blt t n with | false=>rfl | true=>exact absurd (by simpa using ao) h
   simp[h,ao]
 |const v=>rfl
 |global g=>rfl
 |func g=>rfl
theorem ig(n:Nat)(f:Nat→Value)(aF:List Deferred)(d:Option Nat)(v:Value):(act n f aF).put d v=act n (hi f d v) aF:=by
 cases d with
 |none=>rfl
 |some d=>
  simp only[Act.put,act,hi];congr 1;apply Array.ext
  ·simp
  ·intro i I O;simp only[Array.size_setIfInBounds,Array.size_ofFn] at I;simp only[Array.getElem_setIfInBounds,Array.size_ofFn,I,Array.getElem_ofFn,ae];by_cases j:d=i
   ·subst j; simp
   ·have ao:Nat.beq i d=false:=by
     cases ao:Nat.beq i d with
     |false=>rfl
     |true=>exact absurd (Nat.eq_of_beq_eq_true ao).symm j
    simp[j,ao]
def start(m:List Value):Nat→Value:=fun t=>m.getD t undef
theorem Sw(m:List Value)(n:Nat)(h:m.length≤n) :
  ({ tmps:=m.toArray++Array.replicate (n-m.toArray.size) undef,defers:=[] }:Act)=act n (start m) []:=by
 simp only[act];congr 1;apply Array.ext
 ·simp; omega
 ·intro i I O;simp only[Array.size_ofFn] at O;simp only[Array.getElem_ofFn,start,Array.getElem_append,List.size_toArray];by_cases al:i<m.length
  ·simp[al]
  ·simp[al]
theorem q3{P:Program}{f:FuncId}{fn:Func}{c:Code}{m:List Value}{w:World}{e:Ending→World→Prop}(n:Nat)
  (am:P.funcs[f]?=some fn) (aL:fn.ntmps=n) (ao:fn.body=some c) (al:m.length≤n)
  (h:c.wp P (bodyPost P fn e) (act n (start m) []) w):Calls P f m.toArray w e:=by
 subst aL;exact calls_of_wp am ao (by rw[Sw m _ al]; exact h)
def CL(n:Nat)(ops:Array Oper)(f:Nat→Value)(D:Nat):Option Bool:=
 match (ops[D]?).bind (·.dst) with
 |some d=>(match ad n f (.tmp d) with |.bool l=>some l |_=>none)
 |none=>none
theorem It(n:Nat)(ops:Array Oper)(f:Nat→Value)(aF:List Deferred)(D:Nat) :
  yielded ops (act n f aF).tmps D=CL n ops f D:=by
 unfold yielded CL;cases h:(ops[D]?).bind (·.dst) with
 |none=>rfl
 |some d=>
  simp only[Option.bind_some,act,ad];by_cases ag:d<n
  ·have ao:Nat.blt d n=true:=by simpa using ag
   simp[ag,ao];cases f d<;>rfl
  ·have ao:Nat.blt d n=false:=by cases ao:Nat.blt d n with | false=>rfl | true=>exact absurd (by simpa using ao) ag
   simp[ag,ao,undef]
inductive uF(n:Nat)(ops:Array Oper)(f:Nat→Value)(G:Oper):Prop
 |free (h:G.guard=none)
 |az (D:Nat) (l:Bool) (d:Nat) (c:Bool) (R:G.guard=some (D,l)) (bR:(ops[D]?).bind (·.dst)=some d) (aK:ad n f (.tmp d)=.bool c) (U:c=l)
theorem uF.wanted{n:Nat}{ops:Array Oper}{f:Nat→Value}{G:Oper}{aF:List Deferred}(h:uF n ops f G) :
  Region.wanted G (yielded ops (act n f aF).tmps)=true:=by
 cases h with
 |free h=>simp[Region.wanted,h]
 |az D l d c R bR aK U=>
  simp only[Region.wanted,R,It,CL,bR,aK,U];simp
inductive CP(n:Nat)(ops:Array Oper)(f:Nat→Value)(G:Oper):Prop
 |az (D:Nat) (l:Bool) (d:Nat) (c:Bool) (R:G.guard=some (D,l)) (bR:(ops[D]?).bind (·.dst)=some d) (aK:ad n f (.tmp d)=.bool c) (U:c=!l)
 |undef (D:Nat) (l:Bool) (d:Nat) (R:G.guard=some (D,l)) (bR:(ops[D]?).bind (·.dst)=some d) (aK:ad n f (.tmp d)=undef)
theorem CP.wanted{n:Nat}{ops:Array Oper}{f:Nat→Value}{G:Oper}{aF:List Deferred}(h:CP n ops f G) :
  Region.wanted G (yielded ops (act n f aF).tmps)=false:=by
 cases h with
 |az D l d c R bR aK U=>
  simp only[Region.wanted,R,It,CL,bR,aK,U];cases l<;>simp
 |undef D l d R bR aK=>
  simp only[Region.wanted,R,It,CL,bR,aK,undef];rfl
@[irreducible] def dj(P:Program)(ops:Array Oper)(Q:Exit→Act→World→Prop)(m:List Nat)(a:Act)(w:World):Prop:=wpOps P ops Q m a w
@[irreducible] def mS(P:Program)(G:Oper)(a:Act)(w:World)(next:Act→World→Prop)(Q:Exit→Act→World→Prop):Prop:=G.wp P a w next Q
theorem nP{P:Program}{G:Oper}{a:Act}{w:World}{next:Act→World→Prop}{Q:Exit→Act→World→Prop}:mS P G a w next Q=G.wp P a w next Q:=by unfold mS; rfl
theorem zx:dj=wpOps:=by funext P ops Q m a w; unfold dj; rfl
section
variable {P:Program} {Q:Exit→Act→World→Prop} {n:Nat} {f:Nat→Value} {aF:List Deferred} {w J:World} {ops:Array Oper} {i:Nat} {rest:List Nat} {G:Oper} {d:Option Nat}
theorem ofList(h:ops.toList[i]?=some G):ops[i]?=some G:=by simpa using h
theorem eT{v:Value}(ax:ops.toList[i]?=some G)(R:uF n ops f G)(ag:G.dst=d)(aK:(execOp (ad n f) G).run P w=.ok (.value v) J)
  (h:dj P ops Q rest (act n (hi f d v) aF) J):dj P ops Q (i::rest) (act n f aF) w:=by
 subst ag;rw[zx] at *;rw[wpOps_cons];simp only[wpOp,ofList ax,R.wanted,if_true];left;simp only[Oper.wp,hR,aK,Oper.upon_value,ig];exact h
theorem aef(ax:ops.toList[i]?=some G)(R:uF n ops f G)(ag:G.dst=d)(aK:(execOp (ad n f) G).run P w=.ok .skip J)
  (h:dj P ops Q rest (act n (hi f d undef) aF) J):dj P ops Q (i::rest) (act n f aF) w:=by
 subst ag;rw[zx] at *;rw[wpOps_cons];simp only[wpOp,ofList ax,R.wanted,if_true];left;simp only[Oper.wp,hR,aK,Oper.upon_skip,ig];exact h
theorem du(ax:ops.toList[i]?=some G)(R:CP n ops f G)(ag:G.dst=d)
  (h:dj P ops Q rest (act n (hi f d undef) aF) w):dj P ops Q (i::rest) (act n f aF) w:=by
 subst ag;rw[zx] at *;rw[wpOps_cons];simp only[wpOp,ofList ax,R.wanted,Bool.false_eq_true,if_false,ig];exact h
theorem ev(ax:ops.toList[i]?=some G)(R:uF n ops f G)
  (h:mS P G (act n f aF) w (dj P ops Q rest) Q):dj P ops Q (i::rest) (act n f aF) w:=by
 rw[nP] at h;rw[zx] at *;rw[wpOps_cons];simp only[wpOp,ofList ax,R.wanted,if_true];exact .inl h
theorem bh(h:Q .normal (act n f aF) w):dj P ops Q [] (act n f aF) w:=by rw[zx]; exact h
theorem bz{id:Nat}(m:List Nat)(al:List.range ops.size=m)(h:dj P ops Q m (act n f aF) w):(Code.region id ops false).wp P Q (act n f aF) w:=by
 subst al; rw[zx] at h; exact wp_region h
theorem XM{k:FuncId}{args:Array Value}{next:Act→World→Prop}
  (aK:(execOp (ad n f) G).run P w=.ok (.enter k args) J)
  (h : Calls P k args J fun
   |.returned v,SY=>next (act n (hi f G.dst v) aF) SY
   |.panicked chain,SY=>Q (.panic chain) (act n f aF) SY
   |.outgrown,_=>LetsOut Q):G.wp P (act n f aF) w next Q:=by
 simp only[Oper.wp,hR,aK,Oper.upon_enter,ig];exact h
end
section
variable {P:Program} {Q:Exit→Act→World→Prop} {ops:Array Oper}
def waits(ops:Array Oper)(D i:Nat):Bool:=
 match ops[D]? with
 |some G=>G.after.any fun j=>Region.binds .any j&&j.on==i
 |none=>false
def xi(P:Program)(ops:Array Oper)(Q:Exit→Act→World→Prop):List (Nat×(World→Prop))→Nat→Array Bool→Act→World→Prop
 |_,0,listed,a,w=>Region.ready .any ops listed=[]∧Q .normal a w
 |ay,ox+1,listed,a,w=>
  (Region.ready .any ops listed=[]→Q .normal a w) ∧
  ∀ i∈Region.ready .any ops listed,wpOp P ops Q i (fun cl J=>(∀ x∈ay,waits ops i x.1=false→x.2 w→x.2 J)∧xi P ops Q ay ox (listed.setIfInBounds i true) cl J) a w
@[irreducible] def hc(P:Program)(ops:Array Oper)(Q:Exit→Act→World→Prop)(ay:List (Nat×(World→Prop)))(k:Nat)(m:Array Bool)(a:Act)(w:World):Prop:=xi P ops Q ay k m a w
theorem zw:hc=xi:=by funext P ops Q ay k m a w; unfold hc; rfl
@[irreducible] def my(P:Program)(ops:Array Oper)(Q:Exit→Act→World→Prop)(i:Nat)(aa:Act→World→Prop)(a:Act)(w:World):Prop:=wpOp P ops Q i aa a w
theorem NN:my=wpOp:=by funext P ops Q i aa a w; unfold my; rfl
theorem S6(ay:List (Nat×(World→Prop))):∀ (ox:Nat) (listed:Array Bool) (a:Act) (w:World),xi P ops Q ay ox listed a w→wpAny P .any ops Q ox listed a w
 |0,_,_,_,h=>h
 |ox+1,_,_,_,h=>⟨h.1,fun i ax=>wpOp_mono (fun cl J fr=>S6 ay ox _ cl J fr.2) (h.2 i ax)⟩
theorem afJ{x:Nat×(World→Prop)}{ay:List (Nat×(World→Prop))}:∀ (g:Nat) (m:Array Bool) (a:Act) (w:World),xi P ops Q (x::ay) g m a w→xi P ops Q ay g m a w
 |0,_,_,_,h=>h
 |g+1,_,_,_,h=>⟨h.1,fun k aq=>wpOp_mono (fun cl J fr=>⟨fun S aB hw=>fr.1 S (List.mem_cons_of_mem _ aB) hw,afJ g _ cl J fr.2⟩) (h.2 k aq)⟩
theorem aIL{i:Nat}{B_:Oper}{v:Value}{W:World→Prop}(ax:ops[i]?=some B_)(aac:∀ (D:Nat) (G:Oper) ba l,ops[D]?=some G→G.op≠.select ba l)
  (ec:∀ c a w,Q (.panic c) (a.put B_.dst v) w→Q (.panic c) a w) (ay:List (Nat×(World→Prop))) :
  ∀ (ox:Nat) (listed:Array Bool) (a:Act) (w:World),
   (∀ D Ca,ops[D]?=some Ca→D≠i→listed.getD D true=false→(∀ j∈Ca.after,Region.binds .any j=true→j.on≠i)→B_.apart ops Ca=true) →
   i∈Region.ready .any ops listed→YieldsIf P ops W B_ v a→W w →
   xi P ops Q ((i,W)::ay) ox (listed.setIfInBounds i true) (a.put B_.dst v) w→xi P ops Q ay (ox+1) listed a w:=by
 intro ox;induction ox with
 |zero=>
  intro listed a w _ ab aB e0 H;refine⟨fun h=>(by rw[h] at ab; cases ab),fun D bR=>?_⟩;by_cases yj:D=i
  ·subst yj;exact aB.wpOp ax e0 ⟨fun x F _ h=>h,H⟩
  ·have:=ready_mono bR yj;rw[H.1] at this;cases this
 |succ ox ck=>
  intro listed a w ZV ab aB e0 H;refine⟨fun h=>(by rw[h] at ab; cases ab),fun D bR=>?_⟩;by_cases yj:D=i
  ·subst yj;exact aB.wpOp ax e0 ⟨fun x F _ h=>h,afJ _ _ _ _ H⟩
  ·have I:=H.2 D (ready_mono bR yj);obtain⟨ZZ,Ca,J0,re⟩:=mem_ready.1 bR;have GY:∀ j∈Ca.after,Region.binds .any j=true→j.on≠i:=fun j he ao DZ=>by
    have I:=re j he ao;have ah:=(mem_ready.1 ab).1;rw[DZ] at I;rcases Nat.lt_or_ge i listed.size with fr | fr
    ·simp[fr] at ah I; rw[ah] at I; cases I
    ·simp[Array.getElem?_eq_none fr] at I
   have arA:waits ops D i=false:=by
    simp only[waits,J0];rw[Array.any_eq_false'];intro j he;have:=GY j he;cases ao:Region.binds .any j<;>simp_all
   have O:=wpOp_putIf J0 (ZV D Ca J0 yj ZZ GY) (fun ba l=>aac i B_ ba l ax) (fun ba l=>aac D Ca ba l J0) ec aB I;have apl:∀ k ok,ops[k]?=some ok→k≠i→(listed.setIfInBounds D true).getD k true=false →
     (∀ j∈ok.after,Region.binds .any j=true→j.on≠i)→B_.apart ops ok=true:=fun k ok aq aqe aam vc=>by
    refine ZV k ok aq aqe ?_ vc;by_cases zT:D=k
    ·subst zT; exact ZZ
    ·rw[getD_set_ne true zT] at aam; exact aam
   refine wpOp_mono (fun cl J aJ=>?_) O;obtain⟨yq,Zr,bl⟩:=aJ;have aou:W J:=Zr (i,W) (List.mem_cons_self ..) arA e0;refine⟨fun x F hw=>Zr x (List.mem_cons_of_mem _ F) hw,?_⟩;refine ck (listed.setIfInBounds D true) cl J apl (ready_mono ab (Ne.symm yj)) yq aou ?_;rw[Array.setIfInBounds_comm _ _ yj];exact bl
theorem L2{x:Nat×(World→Prop)}(F:∀ w,x.2 w){ay:List (Nat×(World→Prop))}:∀ (g:Nat) (m:Array Bool) (a:Act) (w:World),xi P ops Q ay g m a w→xi P ops Q (x::ay) g m a w
 |0,_,_,_,h=>h
 |g+1,_,_,_,h=>⟨h.1,fun k aq=>wpOp_mono (fun cl J fr=>⟨fun S aB hw ah=>(List.mem_cons.1 aB).elim (fun j=>j▸F J) (fun aB=>fr.1 S aB hw ah),L2 F g _ cl J fr.2⟩) (h.2 k aq)⟩
structure ly(ops:Array Oper)(Q:Exit→Act→World→Prop):Prop where
 aGP:Region.noSelect ops=true
 aD9:∀ c a d v w,(∃ G∈ops.toList,G.dst=d)→Q (.panic c) (Act.put a d v) w→Q (.panic c) a w
theorem pq{id:Nat}{n:Nat}{f:Nat→Value}{aF:List Deferred}{w dF:World}(y:Nat)(hm:P.follows .mixedOrders=true)(al:ops.size=y)(aG:Region.noSelect ops=true)
  (ec:∀ c a d v w,Q (.panic c) (Act.put a d v) w→Q (.panic c) a w) (hw:dF=w.drew)
  (h:ly ops Q→hc P ops Q [] y (Array.replicate y false) (act n f aF) dF):(Code.region id ops true).wp P Q (act n f aF) w:=by
 subst al; subst hw;rw[zw] at h;exact wp_region_any hm (S6 [] _ _ _ _ (h ⟨aG,fun c a d v w _=>ec c a d v w⟩))
theorem aIP{id:Nat}{n:Nat}{f:Nat→Value}{aF:List Deferred}{w dF:World}(y:Nat)(hm:P.follows .mixedOrders=true)(al:ops.size=y)(aG:Region.noSelect ops=true)
  (ec:∀ c a d v w,(∃ G∈ops.toList,G.dst=d)→Q (.panic c) (Act.put a d v) w→Q (.panic c) a w) (hw:dF=w.drew)
  (h:ly ops Q→hc P ops Q [] y (Array.replicate y false) (act n f aF) dF):(Code.region id ops true).wp P Q (act n f aF) w:=by
 subst al; subst hw;rw[zw] at h;exact wp_region_any hm (S6 [] _ _ _ _ (h ⟨aG,ec⟩))
section
variable {n k:Nat} {f:Nat→Value} {aF:List Deferred} {w J:World} {i:Nat} {listed:Array Bool} {ay:List (Nat×(World→Prop))} {G:Oper} {d:Option Nat}
theorem Ie{v:Value}{W:World→Prop}(ak:ly ops Q)(am:Region.free .any ops listed i=true)(ab:(Region.ready .any ops listed).contains i=true)(ax:ops.toList[i]?=some G)
  (ag:G.dst=d)
  (aB:YieldsIf P ops W G v (act n f aF)) (e0:W w) (h:hc P ops Q ((i,W)::ay) k (listed.setIfInBounds i true) (act n (hi f d v) aF) w):hc P ops Q ay (k+1) listed (act n f aF) w:=by
 rw[zw] at *;exact aIL (ofList ax) (Region.noSelect_spec ak.aGP) (fun c a w=>ak.aD9 c a _ _ w ⟨G,List.mem_of_getElem? ax,rfl⟩) ay k listed _ w (Region.free_spec (ofList ax) am) (by simpa using ab) aB e0 (by rw[ig,ag]; exact h)
theorem eS{v:Value}(ak:ly ops Q)(am:Region.free .any ops listed i=true)(ab:(Region.ready .any ops listed).contains i=true)(ax:ops.toList[i]?=some G)(R:uF n ops f G)(ag:G.dst=d)
  (aK:∀ w,(execOp (ad n f) G).run P w=.ok (.value v) w)
  (h:hc P ops Q ay k (listed.setIfInBounds i true) (act n (hi f d v) aF) w):hc P ops Q ay (k+1) listed (act n f aF) w:=
 Ie (W:=fun _=>True) ak am ab ax ag (.inl ⟨R.wanted,fun w _=>by rw[hR]; exact aK w⟩) trivial (by rw[zw] at *; exact L2 (fun _=>trivial) _ _ _ _ h)
theorem tg{v:Value}(W:World→Prop)(ak:ly ops Q)(am:Region.free .any ops listed i=true)(ab:(Region.ready .any ops listed).contains i=true)(ax:ops.toList[i]?=some G)(R:uF n ops f G)(ag:G.dst=d)
  (aK:∀ w,W w→(execOp (ad n f) G).run P w=.ok (.value v) w) (e0:W w)
  (h:hc P ops Q ((i,W)::ay) k (listed.setIfInBounds i true) (act n (hi f d v) aF) w):hc P ops Q ay (k+1) listed (act n f aF) w:=
 Ie ak am ab ax ag (.inl ⟨R.wanted,fun w hw=>by rw[hR]; exact aK w hw⟩) e0 h
theorem Sa(ak:ly ops Q)(am:Region.free .any ops listed i=true)(ab:(Region.ready .any ops listed).contains i=true)(ax:ops.toList[i]?=some G)(R:CP n ops f G)(ag:G.dst=d)
  (h:hc P ops Q ay k (listed.setIfInBounds i true) (act n (hi f d undef) aF) w):hc P ops Q ay (k+1) listed (act n f aF) w:=
 Ie (W:=fun _=>True) ak am ab ax ag (.inr ⟨R.wanted,rfl⟩) trivial (by rw[zw] at *; exact L2 (fun _=>trivial) _ _ _ _ h)
theorem R_{an:List Nat}{a:Act}(ab:Region.ready .any ops listed=an)(dT:an≠[])
  (h:∀ i∈an,my P ops Q i (fun cl J=>(∀ x∈ay,waits ops i x.1=false→x.2 w→x.2 J)∧hc P ops Q ay k (listed.setIfInBounds i true) cl J) a w):hc P ops Q ay (k+1) listed a w:=by
 rw[zw,NN] at *;exact⟨fun ah=>absurd (ab▸ah) dT,ab▸h⟩
theorem fo{a:Act}(ab:Region.ready .any ops listed=[i])
  (h:my P ops Q i (fun cl J=>(∀ x∈ay,waits ops i x.1=false→x.2 w→x.2 J)∧hc P ops Q ay k (listed.setIfInBounds i true) cl J) a w):hc P ops Q ay (k+1) listed a w:=
 R_ ab (by simp) fun D bR=>by
  obtain rfl:D=i:=by simpa using bR
  exact h
theorem ad7{D:Nat}{a:Act}(ab:Region.ready .any ops listed=[i,D])
  (h:my P ops Q i (fun cl J=>(∀ x∈ay,waits ops i x.1=false→x.2 w→x.2 J)∧hc P ops Q ay k (listed.setIfInBounds i true) cl J) a w)
  (fr:my P ops Q D (fun cl J=>(∀ x∈ay,waits ops D x.1=false→x.2 w→x.2 J)∧hc P ops Q ay k (listed.setIfInBounds D true) cl J) a w):hc P ops Q ay (k+1) listed a w:=
 R_ ab (by simp) fun m al=>by
  rcases List.mem_cons.1 al with rfl | al
  ·exact h
  ·obtain rfl:m=D:=by simpa using al
   exact fr
theorem aFX{D y:Nat}{a:Act}(ab:Region.ready .any ops listed=[i,D,y])
  (h:my P ops Q i (fun cl J=>(∀ x∈ay,waits ops i x.1=false→x.2 w→x.2 J)∧hc P ops Q ay k (listed.setIfInBounds i true) cl J) a w)
  (fr:my P ops Q D (fun cl J=>(∀ x∈ay,waits ops D x.1=false→x.2 w→x.2 J)∧hc P ops Q ay k (listed.setIfInBounds D true) cl J) a w)
  (an6:my P ops Q y (fun cl J=>(∀ x∈ay,waits ops y x.1=false→x.2 w→x.2 J)∧hc P ops Q ay k (listed.setIfInBounds y true) cl J) a w):hc P ops Q ay (k+1) listed a w:=
 R_ ab (by simp) fun m al=>by
  rcases List.mem_cons.1 al with rfl | al
  ·exact h
  ·rcases List.mem_cons.1 al with rfl | al
   ·exact fr
   ·obtain rfl:m=y:=by simpa using al
    exact an6
section
variable {aa:Act→World→Prop}
theorem hK(ax:ops.toList[i]?=some G)(R:uF n ops f G)(h:mS P G (act n f aF) w aa Q):my P ops Q i aa (act n f aF) w:=by
 rw[nP] at h;rw[NN];simp only[wpOp,ofList ax,R.wanted,if_true];exact .inl h
theorem yU{v:Value}(ax:ops.toList[i]?=some G)(R:uF n ops f G)(ag:G.dst=d)(aK:(execOp (ad n f) G).run P w=.ok (.value v) J)(h:aa (act n (hi f d v) aF) J):my P ops Q i aa (act n f aF) w:=by
 subst ag;refine hK ax R ?_;rw[nP];simp only[Oper.wp,hR,aK,Oper.upon_value,ig];exact h
theorem ui(ax:ops.toList[i]?=some G)(R:uF n ops f G)(ag:G.dst=d)(aK:(execOp (ad n f) G).run P w=.ok .skip J)(h:aa (act n (hi f d undef) aF) J):my P ops Q i aa (act n f aF) w:=by
 subst ag;refine hK ax R ?_;rw[nP];simp only[Oper.wp,hR,aK,Oper.upon_skip,ig];exact h
theorem lW(ax:ops.toList[i]?=some G)(R:CP n ops f G)(ag:G.dst=d)(h:aa (act n (hi f d undef) aF) w):my P ops Q i aa (act n f aF) w:=by
 subst ag;rw[NN];simp only[wpOp,ofList ax,R.wanted,Bool.false_eq_true,if_false,ig];exact h
end
theorem kL{y:Nat}{a:Act}(ab:Region.ready .any ops listed=[])(h:Q .normal a w):hc P ops Q ay y listed a w:=by
 rw[zw];cases y with
 |zero=>exact⟨ab,h⟩
 |succ y=>exact⟨fun _=>h,by rw[ab]; simp⟩
theorem iv{D:Nat}:∀ x∈([]:List (Nat×(World→Prop))),waits ops D x.1=false→x.2 w→x.2 J:=fun x F=>absurd F (List.not_mem_nil)
theorem hl{D i:Nat}{W:World→Prop}(h:waits ops D i=true)(t:∀ x∈ay,waits ops D x.1=false→x.2 w→x.2 J):∀ x∈(i,W)::ay,waits ops D x.1=false→x.2 w→x.2 J:=by
 intro x F am;rcases List.mem_cons.1 F with rfl | F
 ·rw[h] at am; cases am
 ·exact t x F am
theorem fL{D i:Nat}{W:World→Prop}(h:W w→W J)(t:∀ x∈ay,waits ops D x.1=false→x.2 w→x.2 J):∀ x∈(i,W)::ay,waits ops D x.1=false→x.2 w→x.2 J:=by
 intro x F am;rcases List.mem_cons.1 F with rfl | F
 ·exact h
 ·exact t x F am
end
end
structure bu(Z:Type) where
 enc:Z→Value
 cells:Z→List Value
structure af where
 a:Option Addr
 len:Nat
 cap:Nat
inductive cm where
 |nil
 |mk (fn:Fn) (first captured:Array Value)
def cm.enc:cm→Value
 |.nil=>.nilFunc
 |.mk f a c=>.func f a c
inductive er where
 |nil
 |mk (t:TypeId) (v:Value)
def er.enc:er→Value
 |.nil=>.nilIface
 |.mk t v=>.iface t v
theorem cm.one(x:cm):x.enc.oneCell'=true:=by cases x<;>rfl
theorem cm.flat(x:cm):x.enc.cells=#[x.enc]:=by cases x<;>rfl
theorem er.one(x:er):x.enc.oneCell'=true:=by cases x<;>rfl
theorem er.flat(x:er):x.enc.cells=#[x.enc]:=by cases x<;>rfl
@[reducible] def B(k:IntKind):bu Int:=⟨fun n=>.int k n,fun n=>[.int k n]⟩
@[reducible] def bk:bu Bool:=⟨fun l=>.bool l,fun l=>[.bool l]⟩
@[reducible] def gP:bu Nat:=⟨fun l=>.float .f64 l,fun l=>[.float .f64 l]⟩
@[reducible] def qF:bu (List UInt8):=⟨fun s=>.string ⟨s.toArray⟩,fun s=>[.string ⟨s.toArray⟩]⟩
@[reducible] def aD:bu (Option Addr):=⟨fun a=>.pointer a,fun a=>[.pointer a]⟩
@[reducible] def X:bu af:=⟨fun s=>.slice s.a s.len s.cap,fun s=>[.slice s.a s.len s.cap]⟩
@[reducible] def ek:bu (Option Nat):=⟨fun r=>.map r,fun r=>[.map r]⟩
@[reducible] def gg:bu cm:=⟨fun x=>x.enc,fun x=>[x.enc]⟩
@[reducible] def h3{Z:Type}(c:Z→List Value):bu Z:=⟨fun x=>.agg (c x).toArray,c⟩
@[reducible] def qE{Z:Type}(T:bu Z)(n:Nat):bu (Vector Z n):=h3 fun v=>v.toList.flatMap T.cells
@[reducible] def bw{Z ey:Type}(aO:bu Z)(aT:bu ey):bu (Z×ey):=⟨fun x=>.tuple #[aO.enc x.1,aT.enc x.2],fun _=>[]⟩
@[reducible] def mm{Z ey Ix:Type}(aO:bu Z)(aT:bu ey)(C:bu Ix):bu (Z×ey×Ix):=⟨fun x=>.tuple #[aO.enc x.1,aT.enc x.2.1,C.enc x.2.2],fun _=>[]⟩
@[reducible] def dZ:bu Unit:=⟨fun _=>.tuple #[],fun _=>[]⟩
def wh:TypeDesc→Bool
 |.struct _ |.array _ _=>true
 |_=>false
structure cw(P:Program)(t:TypeId){Z:Type}(T:bu Z)(n:Nat):Prop where
 size:∃ i,P.info? t=some i∧i.size=n
 len:∀ x,(T.cells x).length=n
 shape:(∃ d,P.underlying t=some d∧wh d=true∧∀ x,T.enc x=.agg (T.cells x).toArray) ∨
  (∃ d,P.underlying t=some d∧wh d=false∧n=1∧∀ x,T.cells x=[T.enc x])
 flat:∀ x,(T.enc x).cells=(T.cells x).toArray
 one:∀ x,∀ v∈T.cells x,v.oneCell'=true
def oT(w:World)(a:Addr)(ba:List Value):Prop:=∀ D v,ba[D]?=some v→w.cell? (a.add D)=some v
def wa(w:World)(a:Addr)(n:Nat):Prop:=∀ D,D<n→(w.cell? (a.add D)).isSome=true∧w.frozen? (a.add D)=false
def oD:World→Addr→Nat→List Value→World
 |w,_,_,[]=>w
 |w,a,i,v::m=>oD (w.setCell (a.add i) v) a (i+1) m
theorem run_loadCellsFrom(P:Program)(w:World)(a:Addr):∀ (ba:List Value) (i:Nat) (acc:Array Value),
  (∀ D v,ba[D]?=some v→w.cell? (a.add (i+D))=some v)→(loadCellsFrom a i ba.length acc).run P w=.ok (acc++ba.toArray) w
 |[],i,acc,_=>by simp[loadCellsFrom]
 |v::ba,i,acc,h=>by
  have ah:=h 0 v rfl;simp only[Nat.add_zero] at ah;simp only[List.length_cons,loadCellsFrom,Sem.run_bind,run_load,ah,Result.andThen_ok];rw[run_loadCellsFrom P w a ba (i+1) (acc.push v)]
  ·simp
  ·intro D u hu;have:=h (D+1) u (by simpa using hu);rwa [show i+1+D=i+(D+1) from by omega]
theorem Lu{P:Program}{t:TypeId}{d:TypeDesc}(h:P.underlying t=some d)(w:World) :
  (isAgg t).run P w=.ok (wh d) w:=by
 simp only[isAgg,Sem.run_bind,run_underlying h,Result.andThen_ok];cases d<;>rfl
theorem run_sizeOf{P:Program}{t:TypeId}{i:TypeInfo}(h:P.info? t=some i)(w:World):(sizeOf t).run P w=.ok i.size w:=by
 simp[sizeOf,typeInfo,h]
theorem aek{P:Program}{t:TypeId}{Z:Type}{T:bu Z}{n:Nat}(ok:cw P t T n){w:World}{a:Addr}{x:Z}(h:oT w a (T.cells x)) :
  (loadVar t a).run P w=.ok (T.enc x) w:=by
 obtain⟨i,ax,aL⟩:=ok.size;have al:=ok.len x;rcases ok.shape with ⟨d,ag,aG,he⟩ | ⟨d,ag,aG,I,he⟩
 ·simp only[loadVar,Sem.run_bind,Lu ag,aG,Result.andThen_ok,if_true,run_sizeOf ax,loadCells];rw[show i.size=(T.cells x).length from by omega,run_loadCellsFrom P w a (T.cells x) 0 #[] (by intro D v aK; rw[Nat.zero_add]; exact h D v aK)];simp[he x]
 ·simp only[loadVar,Sem.run_bind,Lu ag,aG,Result.andThen_ok,Bool.false_eq_true,if_false,run_load];have:=h 0 (T.enc x) (by simp[he x]);rw[show a.add 0=a from by simp[Addr.add]] at this;simp[this]
theorem EM{P:Program}(a:Addr):∀ (ba:List Value) (i:Nat) (w:World),
  (∀ D, D < ba.length → (w.cell? (a.add (i + D))).isSome = true ∧ w.frozen? (a.add (i + D)) = false) → (∀ v ∈ ba, v.oneCell' = true) →
   (storeCells a ba i).run P w=.ok () (oD w a i ba)
 |[],i,w,_,_=>by simp[storeCells,oD]
 |v::ba,i,w,h,I=>by
  obtain⟨ah,am⟩:=h 0 (by simp);rw[Nat.add_zero] at ah am;obtain⟨u,hu⟩:=Option.isSome_iff_exists.1 ah;simp only[storeCells,Sem.run_bind,run_store P w (a.add i) v .plain (I v (by simp)),hu,am,Bool.false_eq_true,if_false,Result.andThen_ok,oD];refine EM a ba (i+1) _ ?_ (fun v aK=>I v (by simp[aK]));intro D bR;obtain⟨cX,Zj⟩:=h (D+1) (by simpa using bR);rw[show i+(D+1)=i+1+D from by omega] at cX Zj;refine⟨?_,by simpa using Zj⟩;by_cases j:a.add i=a.add (i+1+D)
  ·rw[← j]; simp[World.cell?_setCell_same _ _ v hu]
  ·rw[World.cell?_setCell_other _ _ _ v j]; exact cX
theorem aGE{P:Program}{t:TypeId}{Z:Type}{T:bu Z}{n:Nat}(ok:cw P t T n){w:World}{a:Addr}{x:Z}(h:wa w a n) :
  (storeVar t a (T.enc x)).run P w=.ok () (oD w a 0 (T.cells x)):=by
 obtain⟨i,ax,aL⟩:=ok.size;have al:=ok.len x;simp only[storeVar,Sem.run_bind,run_sizeOf ax,Result.andThen_ok,ok.flat x];rw[if_neg (by simp[al,aL])];refine EM a _ 0 w ?_ (ok.one x);intro D bR;rw[Nat.zero_add];exact h D (by simpa[al] using bR)
theorem aem{P:Program}{t:TypeId}{Z:Type}{T:bu Z}{n:Nat}(ok:cw P t T n){w:World}(x:Z) :
  (newVar t (T.enc x)).run P w=.ok ⟨w.heap.size,0,none⟩ (w.alloc (.cells (T.cells x).toArray t)):=by
 simp only[newVar,newRow,Sem.run_bind,run_newObj,Result.andThen_ok,Sem.run_pure,ok.flat x,World.alloc_eq]
def ex{Z:Type}(C:Z→Prop)(k:Z→Prop):Prop:=∃ x,C x∧k x
def bE(aO aT:Prop):Prop:=aO∧aT
def L{Z:Type}(T:bu Z)(a:Addr)(w:World)(x:Z):Prop:=oT w a (T.cells x)
def bK(p:Option Addr)(a:Addr):Prop:=p=some a
def bd{Z:Type}(T:bu Z)(a:Addr)(x:Z)(w:World)(k:World→Prop):Prop:=wa w a (T.cells x).length∧k (oD w a 0 (T.cells x))
def bO{Z:Type}(t:TypeId)(T:bu Z)(x:Z)(w:World)(k:Addr→World→Prop):Prop:=k ⟨w.heap.size,0,none⟩ (w.alloc (.cells (T.cells x).toArray t))
def ta{Z:Type}(t:TypeId)(T:bu Z)(xs:List Z)(w:World)(k:Addr→World→Prop):Prop:=k ⟨w.heap.size,0,none⟩ (w.alloc (.cells (xs.flatMap T.cells).toArray t))
def cM(s:af)(ar:Nat)(i:Int)(a:Addr):Prop:=∃ l,s.a=some l∧0≤i∧i<s.len∧a=l.add (i.toNat*ar)
def oi(l:Addr)(y ar:Nat)(i:Int)(a:Addr):Prop:=0≤i∧i<y∧a=l.add (i.toNat*ar)
def ajr(s:List UInt8)(i:Int)(l:Int):Prop:=0≤i∧∃ c,s[i.toNat]?=some c∧l=c.toNat
def WT{Z:Type}{n:Nat}(v:Vector Z n)(i:Int)(x:Z):Prop:=0≤i∧v.toList[i.toNat]?=some x
def Sub(s:af)(ar:Nat)(m h y:Int)(r:af):Prop:=
 0≤m∧m≤h∧h≤y∧y≤s.cap∧r=⟨if y.toNat=m.toNat then s.a else s.a.map (·.add (m.toNat*ar)),h.toNat-m.toNat,y.toNat-m.toNat⟩
def NQ(s:List UInt8)(m h:Int)(r:List UInt8):Prop:=0≤m∧m≤h∧h≤s.length∧r=(s.take h.toNat).drop m.toNat
def afU(a l r:List UInt8):Prop:=a.length+l.length≤9223372036854775807∧r=a++l
def AY{Z:Type}(T:bu Z)(e:Z→World→Prop):Ending→World→Prop
 |.returned v,w=>∃ x,v=T.enc x∧e x w
 |_,_=>False
def M{Z:Type}(P:Program)(f:FuncId)(args:List Value)(T:bu Z)(w:World)(k:Z→World→Prop):Prop:=Calls P f args.toArray w (AY T k)
def e2{bx:Type}(body:bx→World→(bx→World→Prop)→Prop)(s:bx)(w:World):Prop:=
 ∃ (aW:bx→World→Prop) (to:bx→World→Nat),aW s w∧∀ s w,aW s w→body s w fun fB J=>aW fB J∧to fB J<to s w
theorem dI{P:Program}{t:TypeId}{z:Value}{n l:Nat}(h:(P.info? t).map (fun i=>(i.zero,i.size,i.bytes))=some (some z,n,l)) :
  ∃ i,P.info? t=some i∧i.zero=some z∧i.size=n∧i.bytes=l:=by
 cases ax:P.info? t with
 |none=>rw[ax] at h; cases h
 |some i=>
  rw[ax] at h;simp only[Option.map_some,Option.some.injEq,Prod.mk.injEq] at h;exact⟨i,rfl,h.1,h.2.1,h.2.2⟩
theorem DM{Z:Type}{c:Z→List Value}{y:Nat}(h:∀ x,(c x).length=y)(xs:List Z):(xs.flatMap c).length=xs.length*y:=by
 induction xs with
 |nil=>simp
 |cons x xs ck=>simp[ck,h x,Nat.add_mul,Nat.add_comm]
section
variable {P:Program} {n:Nat} {f:Nat→Value} {w:World} {G:Oper} {x S z:Operand}
theorem c0{v:Value}(ai:G.op=.move x)(F:ad n f x=v):(execOp (ad n f) G).run P w=.ok (.value v) w:=by
 simp[execOp,ai,F]
theorem Ci{v:Value}(ai:G.op=.assign x)(F:ad n f x=v):(execOp (ad n f) G).run P w=.ok (.value v) w:=by
 simp[execOp,ai,F]
theorem h1{v:Value}{l:Bool}(ai:G.op=.pick x S z)(F:ad n f x=.bool l)(ao:l=true)(aB:ad n f S=v):(execOp (ad n f) G).run P w=.ok (.value v) w:=by
 subst ao; simp[execOp,ai,F,aB,asBool]
theorem iW{v:Value}{l:Bool}(ai:G.op=.pick x S z)(F:ad n f x=.bool l)(ao:l=false)(bL:ad n f z=v):(execOp (ad n f) G).run P w=.ok (.value v) w:=by
 subst ao; simp[execOp,ai,F,bL,asBool]
theorem adP{a c:Bool}(ai:G.op=.pick x S z)(F:ad n f x=.bool a)(aB:ad n f S=.bool true)(bL:ad n f z=.bool c) :
  (execOp (ad n f) G).run P w=.ok (.value (.bool (a||c))) w:=by
 cases a<;>simp[execOp,ai,F,aB,bL,asBool]
theorem adO{a l:Bool}(ai:G.op=.pick x S z)(F:ad n f x=.bool a)(aB:ad n f S=.bool l)(bL:ad n f z=.bool false) :
  (execOp (ad n f) G).run P w=.ok (.value (.bool (a&&l))) w:=by
 cases a<;>simp[execOp,ai,F,aB,bL,asBool]
theorem HO{Z:Type}{T:bu Z}{y:Nat}{t:TypeId}{u:Z}{a:Addr}{J:World}(ai:G.op=.alloc t)(ok:cw P t T y){az:Nat}(va:∃ i,P.info? t=some i∧i.zero=some (T.enc u)∧i.size=y∧i.bytes=az)
  (Y:a=⟨w.heap.size,0,none⟩) (hw:J=w.alloc (.cells (T.cells u).toArray t)):(execOp (ad n f) G).run P w=.ok (.value (.pointer (some a))) J:=by
 obtain⟨i,ax,bL,_⟩:=va;subst Y; subst hw; simp[execOp,ai,Instr.alloc,zeroValue,typeInfo,ax,bL,aem ok]
theorem uj{Z:Type}{T:bu Z}{y:Nat}{t:TypeId}{u:Z}{a:Addr}{J:World}(ai:G.op=.box t x)(ok:cw P t T y)(F:ad n f x=T.enc u)
  (Y:a=⟨w.heap.size,0,none⟩) (hw:J=w.alloc (.cells (T.cells u).toArray t)):(execOp (ad n f) G).run P w=.ok (.value (.pointer (some a))) J:=by
 subst Y; subst hw; simp[execOp,ai,F,Instr.box,aem ok]
theorem kb{Z:Type}{T:bu Z}{y:Nat}{t:TypeId}{u:Z}{a:Addr}(ai:G.op=.load t x)(ok:cw P t T y)(F:ad n f x=.pointer (some a))(ab:oT w a (T.cells u)) :
  (execOp (ad n f) G).run P w=.ok (.value (T.enc u)) w:=by
 simp[execOp,ai,F,Instr.loadAt,Instr.sureAddr,aek ok ab]
theorem si{Z:Type}{T:bu Z}{y:Nat}{t:TypeId}{u:Z}{a:Addr}{J:World}(ai:G.op=.store t x S)(ok:cw P t T y)(F:ad n f x=.pointer (some a))(aB:ad n f S=T.enc u)
  (ab:wa w a (T.cells u).length) (hw:J=oD w a 0 (T.cells u)):(execOp (ad n f) G).run P w=.ok .skip J:=by
 subst hw; simp[execOp,ai,F,aB,Instr.storeAt,Instr.sureAddr,aGE ok (by rw[ok.len] at ab; exact ab)]
theorem mf{a:Addr}(ai:G.op=.nilCheck x)(F:ad n f x=.pointer (some a)):(execOp (ad n f) G).run P w=.ok (.value (.pointer (some a))) w:=by
 simp[execOp,ai,F]
theorem pg{k:IntKind}{a l:Int}{t u:TypeId}(ai:G.op=.binOp .add t x S u)(F:ad n f x=.int k a)(aB:ad n f S=.int k l) :
  (execOp (ad n f) G).run P w=.ok (.value (.int k (k.wrap (a+l)))) w:=by simp[execOp,ai,F,aB,eqGuard_add,binOp_add,Op.intArith]
theorem yX{k:IntKind}{a l:Int}{t u:TypeId}(ai:G.op=.binOp .sub t x S u)(F:ad n f x=.int k a)(aB:ad n f S=.int k l) :
  (execOp (ad n f) G).run P w=.ok (.value (.int k (k.wrap (a-l)))) w:=by simp[execOp,ai,F,aB,eqGuard_sub,binOp_sub,Op.intArith]
theorem RT{k:IntKind}{a l:Int}{t u:TypeId}(ai:G.op=.binOp .mul t x S u)(F:ad n f x=.int k a)(aB:ad n f S=.int k l) :
  (execOp (ad n f) G).run P w=.ok (.value (.int k (k.wrap (a*l)))) w:=by simp[execOp,ai,F,aB,eqGuard_mul,binOp_mul,Op.intArith]
theorem K_{k:IntKind}{a l:Int}{t u:TypeId}(ai:G.op=.binOp .and t x S u)(F:ad n f x=.int k a)(aB:ad n f S=.int k l) :
  (execOp (ad n f) G).run P w=.ok (.value (.int k (bits .and k a l))) w:=by simp[execOp,ai,F,aB,eqGuard_and,binOp_and,intBits_and]
theorem Le{k:IntKind}{a l:Int}{t u:TypeId}(ai:G.op=.binOp .or t x S u)(F:ad n f x=.int k a)(aB:ad n f S=.int k l) :
  (execOp (ad n f) G).run P w=.ok (.value (.int k (bits .or k a l))) w:=by simp[execOp,ai,F,aB,eqGuard_or,binOp_or,intBits_or]
theorem R3{k:IntKind}{a l:Int}{t u:TypeId}(ai:G.op=.binOp .xor t x S u)(F:ad n f x=.int k a)(aB:ad n f S=.int k l) :
  (execOp (ad n f) G).run P w=.ok (.value (.int k (bits .xor k a l))) w:=by simp[execOp,ai,F,aB,eqGuard_xor,binOp_xor,intBits_xor]
theorem acO{k:IntKind}{a l:Int}{t u:TypeId}(ai:G.op=.binOp .andNot t x S u)(F:ad n f x=.int k a)(aB:ad n f S=.int k l) :
  (execOp (ad n f) G).run P w=.ok (.value (.int k (bits .andNot k a l))) w:=by simp[execOp,ai,F,aB,eqGuard_andNot,binOp_andNot,intBits_andNot]
def E4(l qq r:Int):Prop:=l≠0∧r=qq
def iP(l qq r:Int):Prop:=0≤l∧r=qq
theorem RX{k:IntKind}{a l r:Int}{t u:TypeId}(ai:G.op=.binOp .quo t x S u)(F:ad n f x=.int k a)(aB:ad n f S=.int k l)(h:E4 l (k.wrap (a.tdiv l)) r) :
  (execOp (ad n f) G).run P w=.ok (.value (.int k r)) w:=by
 obtain⟨h,rfl⟩:=h;simp[execOp,ai,F,aB,eqGuard_quo,binOp_quo,Op.intDiv,h]
theorem RY{k:IntKind}{a l r:Int}{t u:TypeId}(ai:G.op=.binOp .rem t x S u)(F:ad n f x=.int k a)(aB:ad n f S=.int k l)(h:E4 l (a.tmod l) r) :
  (execOp (ad n f) G).run P w=.ok (.value (.int k r)) w:=by
 obtain⟨h,rfl⟩:=h;simp[execOp,ai,F,aB,eqGuard_rem,binOp_rem,Op.intDiv,h]
theorem adQ{k:IntKind}{a l:Int}{t u:TypeId}(ai:G.op=.binOp .quo t x S u)(F:ad n f x=.int k a)(aB:ad n f S=.int k l)(h:l≠0) :
  (execOp (ad n f) G).run P w=.ok (.value (.int k (k.wrap (a.tdiv l)))) w:=RX ai F aB ⟨h,rfl⟩
theorem adR{k:IntKind}{a l:Int}{t u:TypeId}(ai:G.op=.binOp .rem t x S u)(F:ad n f x=.int k a)(aB:ad n f S=.int k l)(h:l≠0) :
  (execOp (ad n f) G).run P w=.ok (.value (.int k (a.tmod l))) w:=RY ai F aB ⟨h,rfl⟩
theorem Lf{k Tl:IntKind}{a l r:Int}{t u:TypeId}(ai:G.op=.binOp .shl t x S u)(F:ad n f x=.int k a)(aB:ad n f S=.int Tl l)(h:iP l (k.wrap (a*2^(min l.toNat k.bits))) r) :
  (execOp (ad n f) G).run P w=.ok (.value (.int k r)) w:=by
 obtain⟨h,rfl⟩:=h;simp[execOp,ai,F,aB,eqGuard_shl,binOp_shl,Op.shift,Int.not_lt.2 h]
theorem R0{k Tl:IntKind}{a l r:Int}{t u:TypeId}(ai:G.op=.binOp .shr t x S u)(F:ad n f x=.int k a)(aB:ad n f S=.int Tl l)(h:iP l (a.fdiv (2^(min l.toNat k.bits))) r) :
  (execOp (ad n f) G).run P w=.ok (.value (.int k r)) w:=by
 obtain⟨h,rfl⟩:=h;simp[execOp,ai,F,aB,eqGuard_shr,binOp_shr,Op.shift,Int.not_lt.2 h]
theorem iL{k:IntKind}{a l:Int}{t u:TypeId}(ai:G.op=.binOp .eql t x S u)(F:ad n f x=.int k a)(aB:ad n f S=.int k l) :
  (execOp (ad n f) G).run P w=.ok (.value (.bool (a==l))) w:=by simp[execOp,ai,F,aB,eqGuard_at_int,binOp_eql]
theorem hg{k:IntKind}{a l:Int}{t u:TypeId}(ai:G.op=.binOp .neq t x S u)(F:ad n f x=.int k a)(aB:ad n f S=.int k l) :
  (execOp (ad n f) G).run P w=.ok (.value (.bool (a != l))) w:=by simp[execOp,ai,F,aB,eqGuard_at_int,binOp_neq]
theorem me{k:IntKind}{a l:Int}{t u:TypeId}(ai:G.op=.binOp .lss t x S u)(F:ad n f x=.int k a)(aB:ad n f S=.int k l) :
  (execOp (ad n f) G).run P w=.ok (.value (.bool (decide (a<l)))) w:=by simp[execOp,ai,F,aB,eqGuard_lss,binOp_lss]
theorem La{k:IntKind}{a l:Int}{t u:TypeId}(ai:G.op=.binOp .leq t x S u)(F:ad n f x=.int k a)(aB:ad n f S=.int k l) :
  (execOp (ad n f) G).run P w=.ok (.value (.bool (decide (a≤l)))) w:=by simp[execOp,ai,F,aB,eqGuard_leq,binOp_leq]
theorem vA{k:IntKind}{a l:Int}{t u:TypeId}(ai:G.op=.binOp .gtr t x S u)(F:ad n f x=.int k a)(aB:ad n f S=.int k l) :
  (execOp (ad n f) G).run P w=.ok (.value (.bool (decide (a>l)))) w:=by simp[execOp,ai,F,aB,eqGuard_gtr,binOp_gtr]
theorem HQ{k:IntKind}{a l:Int}{t u:TypeId}(ai:G.op=.binOp .geq t x S u)(F:ad n f x=.int k a)(aB:ad n f S=.int k l) :
  (execOp (ad n f) G).run P w=.ok (.value (.bool (decide (a≥l)))) w:=by simp[execOp,ai,F,aB,eqGuard_geq,binOp_geq]
theorem RP{a l:Bool}{t u:TypeId}(ai:G.op=.binOp .eql t x S u)(aS:P.underlying t=some .bool)(F:ad n f x=.bool a)(aB:ad n f S=.bool l) :
  (execOp (ad n f) G).run P w=.ok (.value (.bool (a==l))) w:=by simp[execOp,ai,F,aB,eqGuard_at_bool,run_eql_bool _ _ _ _ aS]
theorem RU{a l:Bool}{t u:TypeId}(ai:G.op=.binOp .neq t x S u)(aS:P.underlying t=some .bool)(F:ad n f x=.bool a)(aB:ad n f S=.bool l) :
  (execOp (ad n f) G).run P w=.ok (.value (.bool (!(a==l)))) w:=by simp[execOp,ai,F,aB,eqGuard_at_bool,run_neq_bool _ _ _ _ aS]
theorem toList_toArray(s:List UInt8):(⟨s.toArray⟩:ByteArray).toList=s:=by
 rw[ByteArray.toList_eq]
theorem adt{a l:List UInt8}{t u:TypeId}(ai:G.op=.binOp .eql t x S u)(F:ad n f x=.string ⟨a.toArray⟩)(aB:ad n f S=.string ⟨l.toArray⟩) :
  (execOp (ad n f) G).run P w=.ok (.value (.bool (a==l))) w:=by simp[execOp,ai,F,aB,eqGuard_at_string,binOp,Op.stringOp,toList_toArray]
theorem adK{a l:List UInt8}{t u:TypeId}(ai:G.op=.binOp .neq t x S u)(F:ad n f x=.string ⟨a.toArray⟩)(aB:ad n f S=.string ⟨l.toArray⟩) :
  (execOp (ad n f) G).run P w=.ok (.value (.bool (!(a==l)))) w:=by simp[execOp,ai,F,aB,eqGuard_at_string,binOp,Op.stringOp,toList_toArray]
theorem ado{a l r:List UInt8}{t u:TypeId}(ai:G.op=.binOp .add t x S u)(F:ad n f x=.string ⟨a.toArray⟩)(aB:ad n f S=.string ⟨l.toArray⟩)(aG:afU a l r) :
  (execOp (ad n f) G).run P w=.ok (.value (.string ⟨r.toArray⟩)) w:=by
 obtain⟨aG,rfl⟩:=aG;have ny:((⟨a.toArray⟩:ByteArray).size+(⟨l.toArray⟩:ByteArray).size:Nat)=a.length+l.length:=rfl;have aoU:(⟨a.toArray⟩:ByteArray)++⟨l.toArray⟩=⟨(a++l).toArray⟩:=by
  apply ByteArray.ext; simp
 simp only[execOp,ai,F,aB,eqGuard_add,binOp,Op.stringOp,aoU];rw[if_neg (by rw[ny,IntKind.max_i64]; omega)];rfl
theorem sh{a:Option Addr}{t u j:TypeId}(ai:G.op=.binOp .eql t x S u)(aS:P.underlying t=some (.pointer j))(F:ad n f x=.pointer a)(aB:ad n f S=.pointer none) :
  (execOp (ad n f) G).run P w=.ok (.value (.bool a.isNone)) w:=by
 have aE:P.underlying t=some (.pointer (P.pointee t)):=by simp[Program.pointee,aS]
 simp only[execOp,ai,F,aB,eqGuard_at_pointer,bind_pure_comp,Sem.run_map,pure_bind,run_eql_pointer_nil w t a aE,Result.andThen_ok]
theorem Ld{a:Option Addr}{t u j:TypeId}(ai:G.op=.binOp .neq t x S u)(aS:P.underlying t=some (.pointer j))(F:ad n f x=.pointer a)(aB:ad n f S=.pointer none) :
  (execOp (ad n f) G).run P w=.ok (.value (.bool (!a.isNone))) w:=by
 have aE:P.underlying t=some (.pointer (P.pointee t)):=by simp[Program.pointee,aS]
 simp only[execOp,ai,F,aB,eqGuard_at_pointer,bind_pure_comp,Sem.run_map,pure_bind,run_neq_pointer_nil w t a aE,Result.andThen_ok]
theorem ads{s:af}{t u j:TypeId}(ai:G.op=.binOp .eql t x S u)(aS:P.underlying t=some (.slice j))(F:ad n f x=X.enc s)(aB:ad n f S=.slice none 0 0) :
  (execOp (ad n f) G).run P w=.ok (.value (.bool s.a.isNone)) w:=by
 simp only[execOp,ai,F,aB,eqGuard_at_slice,bind_pure_comp,Sem.run_map,pure_bind,Lib.run_eql_slice_nil w t j s.a s.len s.cap 0 0 aS,Result.andThen_ok]
theorem adJ{s:af}{t u j:TypeId}(ai:G.op=.binOp .neq t x S u)(aS:P.underlying t=some (.slice j))(F:ad n f x=X.enc s)(aB:ad n f S=.slice none 0 0) :
  (execOp (ad n f) G).run P w=.ok (.value (.bool (!s.a.isNone))) w:=by
 simp only[execOp,ai,F,aB,eqGuard_at_slice,bind_pure_comp,Sem.run_map,pure_bind,run_neq_slice_nil w t j s.a s.len s.cap aS,Result.andThen_ok]
theorem rz{l:Bool}{t:TypeId}(ai:G.op=.unOp .not t x)(F:ad n f x=.bool l) :
  (execOp (ad n f) G).run P w=.ok (.value (.bool (!l))) w:=by simp[execOp,ai,F,Op.unary]
theorem RW{k:IntKind}{a:Int}{t:TypeId}(ai:G.op=.unOp .neg t x)(F:ad n f x=.int k a) :
  (execOp (ad n f) G).run P w=.ok (.value (.int k (k.wrap (0-a)))) w:=by simp[execOp,ai,F,Op.unary,Op.intArith]
theorem uk{k D:IntKind}{a:Int}{s t:TypeId}(ai:G.op=.convert s t x)(aG:P.underlying s=some (.int D))(aS:P.underlying t=some (.int k))(F:ad n f x=.int D a) :
  (execOp (ad n f) G).run P w=.ok (.value (.int k (k.wrap a))) w:=by
 simp[execOp,ai,F,convert,run_underlying aG,run_underlying aS,Conv.intToInt]
theorem lX{t:TypeId}{is:Array Field}{fd:Field}{a:Addr}{k off y:Nat}{Z:Type}{T:bu Z}(ai:G.op=.fieldAddr t x k)(aS:P.underlying t=some (.struct is))(am:is[k]?=some fd)
  (zV:fd.offset=off) (ok:cw P fd.type T y) (hm:y≠0) (F:ad n f x=.pointer (some a)) :
  (execOp (ad n f) G).run P w=.ok (.value (.pointer (some (a.add off)))) w:=by
 obtain⟨i,ax,aG⟩:=ok.size;subst zV;have yn:i.size≠0:=by omega
 simp[execOp,ai,F,Instr.fieldAt,run_underlying aS,am,Instr.sureAddr,fieldPlace,run_sizeOf ax,yn]
theorem kv{t j:TypeId}{a:Addr}{s:af}{k:IntKind}{i:Int}{y:Nat}{Z:Type}{T:bu Z}(ai:G.op=.indexAddr t x S)(aS:P.underlying t=some (.slice j))(ok:cw P j T y)
  (F:ad n f x=X.enc s) (aB:ad n f S=.int k i) (Y:cM s y i a) :
  (execOp (ad n f) G).run P w=.ok (.value (.pointer (some a))) w:=by
 obtain⟨jE,ax,aG⟩:=ok.size;obtain⟨l,ao,ah,I,rfl⟩:=Y;simp[execOp,ai,F,aB,Instr.indexAt,asIntOf,run_underlying aS,ao,ah,I,run_sizeOf ax,aG]
theorem adB{t j:TypeId}{a l:Addr}{m y:Nat}{k:IntKind}{i:Int}{Z:Type}{T:bu Z}(ai:G.op=.indexAddr t x S)(aS:P.underlying t=some (.array m j))(ok:cw P j T y)
  (F:ad n f x=.pointer (some l)) (aB:ad n f S=.int k i) (Y:oi l m y i a) :
  (execOp (ad n f) G).run P w=.ok (.value (.pointer (some a))) w:=by
 obtain⟨jE,ax,aG⟩:=ok.size;obtain⟨ah,I,rfl⟩:=Y;simp[execOp,ai,F,aB,Instr.indexAt,Instr.sureAddr,asIntOf,run_underlying aS,ah,I,run_sizeOf ax,aG]
theorem adC{t:TypeId}{s:List UInt8}{k:IntKind}{i l:Int}(ai:G.op=.index t x S)(aS:P.underlying t=some .string)(F:ad n f x=.string ⟨s.toArray⟩)(aB:ad n f S=.int k i)(Y:ajr s i l) :
  (execOp (ad n f) G).run P w=.ok (.value (.int .u8 l)) w:=by
 obtain⟨ah,c,U,rfl⟩:=Y;have R:(⟨s.toArray⟩:ByteArray)[i.toNat]?=some c:=by
  have al:i.toNat<s.length:=(List.getElem?_eq_some_iff.1 U).1;have:i.toNat<(⟨s.toArray⟩:ByteArray).size:=al;rw[getElem?_pos (⟨s.toArray⟩:ByteArray) i.toNat this];have:=(List.getElem?_eq_some_iff.1 U).2;simpa[ByteArray.getElem_eq_getElem_data] using this
 simp[execOp,ai,F,aB,Instr.index,asIntOf,run_underlying aS,ah,R]
theorem jZ{s:af}{t j:TypeId}(ai:G.op=.call { callee:=.builtin .len,args:=#[x],argTypes:=#[t] })(aS:P.underlying t=some (.slice j))(F:ad n f x=X.enc s) :
  (execOp (ad n f) G).run P w=.ok (.value (.int .i64 s.len)) w:=by
 simp[execOp,ai,F,resolve,invoke,builtin,Builtin.len_,run_underlying aS,goInt]
theorem adn{s:af}{t j:TypeId}(ai:G.op=.call { callee:=.builtin .cap,args:=#[x],argTypes:=#[t] })(aS:P.underlying t=some (.slice j))(F:ad n f x=X.enc s) :
  (execOp (ad n f) G).run P w=.ok (.value (.int .i64 s.cap)) w:=by
 simp[execOp,ai,F,resolve,invoke,builtin,Builtin.cap_,run_underlying aS,goInt]
theorem adF{s:List UInt8}{t:TypeId}(ai:G.op=.call { callee:=.builtin .len,args:=#[x],argTypes:=#[t] })(aS:P.underlying t=some .string)(F:ad n f x=.string ⟨s.toArray⟩) :
  (execOp (ad n f) G).run P w=.ok (.value (.int .i64 s.length)) w:=by
 have aG:(⟨s.toArray⟩:ByteArray).size=s.length:=rfl;simp only[execOp,ai,F,resolve,invoke,builtin,Builtin.len_,goInt,aG];simp[run_underlying aS,F,aG]
theorem w2{aX:Array Value}{v:Value}{i:Nat}(ai:G.op=.extract x i)(F:ad n f x=.tuple aX)(aK:aX[i]?=some v):(execOp (ad n f) G).run P w=.ok (.value v) w:=by
 simp[execOp,ai,F,Instr.extract,aK]
theorem RS{fn:Fn}{a c:List Operand}{SQ SS:List Value}(ai:G.op=.makeFunc fn a.toArray c.toArray)(Y:a.map (ad n f)=SQ)(U:c.map (ad n f)=SS) :
  (execOp (ad n f) G).run P w=.ok (.value (.func fn SQ.toArray SS.toArray)) w:=by
 subst Y; subst U; simp[execOp,ai,Instr.makeFunc]
def dy(P:Program)(k:FuncId):Prop:=∃ fn,P.funcs[k]?=some fn∧fn.body.isSome=true∧(fn.name=="runtime.NumGoroutine")=false
theorem fT{k:FuncId}{lg:List Operand}{nL:Array TypeId}{m:List Value}(ai:G.op=.call { callee:=.value (.func k),args:=lg.toArray,argTypes:=nL })(he:dy P k)(Y:lg.map (ad n f)=m) :
  (execOp (ad n f) G).run P w=.ok (.enter k m.toArray) w:=by
 obtain⟨fn,am,ao,aL⟩:=he;have u3:fn.body≠none:=by intro h; simp[h] at ao
 subst Y;simp[execOp,ai,resolve,ad,Deferred.ofValue,invoke,callFunc,am,u3,beq_eq_false_iff_ne.1 aL]
theorem aEZ{k:FuncId}{lg:List Operand}{nL:Array TypeId}{m:List Value}{c:List Value}{hI:cm}(ai:G.op=.call { callee:=.value x,args:=lg.toArray,argTypes:=nL })(F:ad n f x=hI.enc)(yf:hI=.mk (.func k) #[] c.toArray)
  (he:dy P k) (Y:lg.map (ad n f)=m):(execOp (ad n f) G).run P w=.ok (.enter k (m++c).toArray) w:=by
 obtain⟨fn,am,ao,aL⟩:=he;have u3:fn.body≠none:=by intro h; simp[h] at ao
 subst yf; subst Y;simp[execOp,ai,resolve,F,cm.enc,Deferred.ofValue,invoke,callFunc,am,u3,beq_eq_false_iff_ne.1 aL]
end
theorem pU{Z:Type}{t:TypeId}{T:bu Z}{x:Z}{w:World}{k:Addr→World→Prop}(h:bO t T x w k):∃ a J,a=⟨w.heap.size,0,none⟩∧J=w.alloc (.cells (T.cells x).toArray t)∧k a J:=⟨_,_,rfl,rfl,h⟩
theorem sr{Z:Type}{T:bu Z}{a:Addr}{x:Z}{w:World}{k:World→Prop}(h:bd T a x w k):∃ J,J=oD w a 0 (T.cells x)∧wa w a (T.cells x).length∧k J:=⟨_,rfl,h.1,h.2⟩
section
variable {P:Program} {Q:Exit→Act→World→Prop} {n:Nat} {f:Nat→Value} {aF:List Deferred} {w J:World} {ops:Array Oper} {i:Nat} {rest:List Nat} {G:Oper} {x S:Operand}
inductive F0(P:Program)(n:Nat)(f:Nat→Value)(w:World):ResultVar→Value→Prop
 |tmp {t:Nat} {v:Value} (h:ad n f (.tmp t)=v):F0 P n f w (.tmp t) v
 |cell {Z:Type} {T:bu Z} {y:Nat} {t:Nat} {hq:TypeId} {a:Addr} {u:Z} (ok:cw P hq T y) (h:ad n f (.tmp t)=.pointer (some a)) (ab:oT w a (T.cells u)):F0 P n f w (.cell t hq) (T.enc u)
inductive sw(P:Program)(n:Nat)(f:Nat→Value)(w:World):List ResultVar→List Value→Prop
 |nil:sw P n f w [] []
 |cons {r:ResultVar} {v:Value} {an:List ResultVar} {aX:List Value} (h:F0 P n f w r v) (t:sw P n f w an aX):sw P n f w (r::an) (v::aX)
theorem Xm(t:Nat):(act n f aF).tmps.getD t undef=ad n f (.tmp t):=by
 have:=congrFun (hR n f aF) (.tmp t);exact this
def ur(tmps:Array Value):ResultVar→Sem Value
 |.tmp t=>pure (tmps.getD t undef)
 |.cell a t=>do loadVar t (← asAddr (tmps.getD a undef))
theorem aGD{r:ResultVar}{v:Value}(h:F0 P n f w r v):(ur (act n f aF).tmps r).run P w=.ok v w:=by
 cases h with
 |tmp h=>simp only[ur,Xm,h]; exact Sem.run_pure ..
 |cell ok h ab=>simp only[ur,Xm,h,asAddr,pure_bind,aek ok ab]
theorem ael(g:ResultVar→Sem Value):∀ (an:List ResultVar) (aX:List Value),(∀ (D:Nat) (r:ResultVar) (v:Value),an[D]?=some r→aX[D]?=some v→(g r).run P w=.ok v w)→an.length=aX.length →
  (an.mapM g).run P w=.ok aX w
 |[],[],_,_=>by simp
 |r::an,v::aX,h,al=>by
  have ah:=h 0 r v rfl rfl;have aS:=ael g an aX (fun D r v ab aK=>h (D+1) r v (by simpa using ab) (by simpa using aK)) (by simpa using al);simp only[List.mapM_cons,Sem.run_bind,ah,Result.andThen_ok,aS,Sem.run_pure]
 |[],_::_,_,al=>by simp at al
 |_::_,[],_,al=>by simp at al
theorem sw.length{an:List ResultVar}{aX:List Value}(h:sw P n f w an aX):an.length=aX.length:=by
 induction h with
 |nil=>rfl
 |cons _ _ ck=>simp[ck]
theorem sw.get{an:List ResultVar}{aX:List Value}(h:sw P n f w an aX):∀ (D:Nat) (r:ResultVar) (v:Value),an[D]?=some r→aX[D]?=some v→F0 P n f w r v:=by
 induction h with
 |nil=>intro D r v ab; simp at ab
 |cons h t ck=>
  intro D r v ab aK;cases D with
  |zero=>simp at ab aK; subst ab; subst aK; exact h
  |succ D=>exact ck D r v (by simpa using ab) (by simpa using aK)
def Cv:List Value→Value
 |[v]=>v
 |aX=>.tuple aX.toArray
theorem Lv{fn:Func}{an:List ResultVar}{aX:List Value}(ab:fn.results=an.toArray)(h:sw P n f w an aX) :
  (results fn (act n f aF).tmps).run P w=.ok (Cv aX) w:=by
 have key:=ael (P:=P) (w:=w) (ur (act n f aF).tmps) an aX (fun D r v ab aK=>aGD (h.get D r v ab aK)) h.length;have j:results fn (act n f aF).tmps=(do let AA ← fn.results.mapM (ur (act n f aF).tmps); pure (if h:AA.size=1 then AA[0] else .tuple AA)):=rfl;rw[j,ab,Array.mapM_eq_mapM_toList];simp only[bind_map_left,Sem.run_bind,key,Result.andThen_ok,Sem.run_pure];congr 1;cases aX with
 |nil=>rfl
 |cons v aX=>cases aX with
  |nil=>rfl
  |cons u aX=>simp[Cv]
theorem n8{fn:Func}{an:List ResultVar}{aX:List Value}{e:Ending→World→Prop}(ab:fn.results=an.toArray)(h:sw P n f w an aX)(jn:e (.returned (Cv aX)) w) :
  bodyPost P fn e .ret (act n f []) w:=⟨rfl,_,Lv ab h,jn⟩
theorem Yw{fn:Func}{an:List ResultVar}{aX:List Value}{e:Ending→World→Prop}(ab:fn.results=an.toArray)(h:sw P n f w an aX)(jn:e (.returned (Cv aX)) w) :
  bodyPost P fn e .normal (act n f []) w:=⟨rfl,_,Lv ab h,jn⟩
theorem Ar{c d:Code}{bx:Type}{eZ:bx→World→Prop}{dw:(Nat→Value)→bx→(Nat→Value)}
  (bR:∀ s g w,eZ s w→d.wp P Q (act n (dw g s) aF) w) (F:c.wp P (Exit.then (fun a w=>∃ s g,a=act n (dw g s) aF∧eZ s w) Q) (act n f aF) w):(Code.seq c d).wp P Q (act n f aF) w:=
 wp_seq_k fun aa ca=>wp_mono F fun j a w h=>by
  cases j<;>first
   |exact h
   |(obtain⟨s,g,rfl,O2⟩:=h; exact ca _ _ (bR s g w O2))
theorem L3{c:Operand}{p q:Code}{l:Bool}{cf lF:Prop}(U:ad n f c=.bool l)(h:if l=true then cf else lF)(F:l=true→cf→p.wp P Q (act n f aF) w)(aB:l=false→lF→q.wp P Q (act n f aF) w) :
  (Code.cond c p q).wp P Q (act n f aF) w:=by
 refine wp_cond_split (t:=l) (by rw[hR]; exact U) (fun ao=>F ao (by simpa[ao] using h)) (fun ao=>aB ao (by simpa[ao] using h))
theorem aIQ{c:Operand}{p q:Code}(U:ad n f c=.bool false)(aB:q.wp P Q (act n f aF) w):(Code.cond c p q).wp P Q (act n f aF) w:=
 L3 (l:=false) (cf:=False) (lF:=True) U (by simp) (fun h=>by cases h) fun _ _=>aB
theorem aIR{c:Operand}{p q:Code}(U:ad n f c=.bool true)(F:p.wp P Q (act n f aF) w):(Code.cond c p q).wp P Q (act n f aF) w:=
 L3 (l:=true) (cf:=True) (lF:=False) U (by simp) (fun _ _=>F) fun h=>by cases h
theorem jh{l:Bool}{cf lF ay:Prop}(h:if l=true then cf else lF)(F:l=true→cf→ay)(aB:l=false→lF→ay):ay:=by
 cases l
 ·exact aB rfl (by simpa using h)
 ·exact F rfl (by simpa using h)
theorem least{p:Nat→Prop}(h:∃ n,p n):∃ y,p y∧∀ k,p k→y≤k:=by
 obtain⟨n,aL⟩:=h;induction n using Nat.strongRecOn with
 |_ n ck=>
  by_cases aG:∃ k,k<n∧p k
  ·obtain⟨k,aq,aE⟩:=aG; exact ck k aq aE
  ·exact⟨n,aL,fun k aq=>Nat.le_of_not_lt fun al=>aG ⟨k,al,aq⟩⟩
theorem aCd{c:Code}{bx:Type}{dw:(Nat→Value)→bx→(Nat→Value)}{body:bx→World→(bx→World→Prop)→Prop}{ml:bx}{cX:Nat→Value}(h:e2 body ml w)
    (ao:∀ (s:bx) (g:Nat→Value) (w:World) (aa:bx→World→Prop),body s w aa→c.wp P (Exit.then (fun cl J=>∃ fB cI,cl=act n (dw cI fB) aF∧aa fB J) Q) (act n (dw g s) aF) w) :
    (Code.loop c).wp P Q (act n (dw cX ml) aF) w:=by
  obtain⟨aW,to,ah,ab⟩:=h
  classical
  let eZ:Nat→Act→World→Prop:=fun y a w=>∃ s g,a=act n (dw g s) aF∧aW s w∧to s w=y
  let Iy:Act→World→Nat:=fun a w=>if h:∃ y,eZ y a w then (least h).choose else 0
  refine wp_loop (fun a w=>∃ y,eZ y a w) Iy ⟨_,ml,cX,rfl,ah,rfl⟩ ?_;intro a w a7;have ar1:Iy a w=(least a7).choose:=by simp only[Iy,dif_pos a7]
  obtain⟨⟨s,g,rfl,aG,hm⟩,BJ⟩:=(least a7).choose_spec;have:=ao s g w _ (ab s w aG);refine wp_mono this fun j cl J he=>?_;cases j<;>first
    |exact he
    | (obtain ⟨fB, cI, rfl, DO, dC⟩ := he
       have hex:∃ y,eZ y (act n (dw cI fB) aF) J:=⟨_,fB,cI,rfl,DO,rfl⟩
       refine⟨hex,?_⟩;have I:Iy (act n (dw cI fB) aF) J=(least hex).choose:=by simp only[Iy,dif_pos hex]
       have O:(least hex).choose≤to fB J:=(least hex).choose_spec.2 _ ⟨fB,cI,rfl,DO,rfl⟩;rw[ar1,I,← hm]
       omega)
theorem gU{Z:Type}{T:bu Z}{k:FuncId}{args:List Value}{d:Option Nat}{next:Act→World→Prop}{aa:Z→World→Prop}(ag:G.dst=d)
  (aK:(execOp (ad n f) G).run P w=.ok (.enter k args.toArray) w) (h:M P k args T w aa) (aq:∀ r J,aa r J→next (act n (hi f d (T.enc r)) aF) J):mS P G (act n f aF) w next Q:=by
 rw[nP];subst ag;refine XM aK (Calls.mono h fun j J he=>?_);cases j with
 |returned v=>obtain⟨r,rfl,ab⟩:=he; exact aq r J ab
 |panicked c=>exact he.elim
 |outgrown=>exact he.elim
theorem ap{Z:Type}{T:bu Z}{k:FuncId}{args:List Value}{aa K':Z→World→Prop}(h:M P k args T w aa)(aq:∀ r J,aa r J→K' r J):M P k args T w K':=
 Calls.mono h fun j J he=>by
  cases j with
  |returned v=>obtain⟨r,ab,ca⟩:=he; exact⟨r,ab,aq r J ca⟩
  |panicked c=>exact he
  |outgrown=>exact he
def mD(g:Bool)(v:Value):Value:=bif g then v else undef
theorem dg{g:Bool}{v:Value}(h:g=true):mD g v=v:=by subst h; rfl
theorem aj5{a l:Bool}(h:(a&&l)=true):a=true:=(Bool.and_eq_true_iff.1 h).1
inductive tt(n:Nat)(ops:Array Oper)(f:Nat→Value)(G:Oper)(g:Bool):Prop
 |cq (D:Nat) (d:Nat) (cX c:Bool) (R:G.guard=some (D,true)) (bR:(ops[D]?).bind (·.dst)=some d) (aK:ad n f (.tmp d)=mD cX (.bool c)) (he:g=(cX&&c))
 |no (D:Nat) (d:Nat) (cX c:Bool) (R:G.guard=some (D,false)) (bR:(ops[D]?).bind (·.dst)=some d) (aK:ad n f (.tmp d)=mD cX (.bool c)) (he:g=(cX&&!c))
theorem tt.wanted{g:Bool}(h:tt n ops f G g):Region.wanted G (yielded ops (act n f aF).tmps)=g:=by
 cases h with
 |cq D d cX c R bR aK he=>
  subst he;simp only[Region.wanted,R,It,CL,bR,aK];cases cX<;>cases c<;>rfl
 |no D d cX c R bR aK he=>
  subst he;simp only[Region.wanted,R,It,CL,bR,aK];cases cX<;>cases c<;>rfl
theorem b9{g:Bool}{v:Value}{d:Option Nat}(ax:ops.toList[i]?=some G)(R:tt n ops f G g)(ag:G.dst=d)(aK:g=true→(execOp (ad n f) G).run P w=.ok (.value v) w)
  (h:dj P ops Q rest (act n (hi f d (mD g v)) aF) w):dj P ops Q (i::rest) (act n f aF) w:=by
 subst ag;rw[zx] at *;rw[wpOps_cons];simp only[wpOp,ofList ax,R.wanted];cases g with
 |true=>
  left;simp only[Oper.wp,hR,aK rfl,Oper.upon_value,ig];exact h
 |false=>simp only[Bool.false_eq_true,if_false,ig]; exact h
theorem Sb{g:Bool}{v:Value}{k:Nat}{d:Option Nat}{listed:Array Bool}{ay:List (Nat×(World→Prop))}(ak:ly ops Q)(am:Region.free .any ops listed i=true)(ab:(Region.ready .any ops listed).contains i=true)(ax:ops.toList[i]?=some G)
  (R:tt n ops f G g) (ag:G.dst=d) (aK:g=true→∀ w,(execOp (ad n f) G).run P w=.ok (.value v) w)
  (h:hc P ops Q ay k (listed.setIfInBounds i true) (act n (hi f d (mD g v)) aF) w):hc P ops Q ay (k+1) listed (act n f aF) w:=by
 refine Ie (W:=fun _=>True) (v:=mD g v) ak am ab ax ag ?_ trivial (by rw[zw] at *; exact L2 (fun _=>trivial) _ _ _ _ h);cases g with
 |true=>exact .inl ⟨R.wanted,fun w _=>by rw[hR]; exact aK rfl w⟩
 |false=>exact .inr ⟨R.wanted,rfl⟩
theorem aFW{g:Bool}{v:Value}{k:Nat}{d:Option Nat}{listed:Array Bool}{ay:List (Nat×(World→Prop))}(W:World→Prop)(ak:ly ops Q)(am:Region.free .any ops listed i=true)(ab:(Region.ready .any ops listed).contains i=true)(ax:ops.toList[i]?=some G)
  (R:tt n ops f G g) (ag:G.dst=d) (aK:g=true→∀ w,W w→(execOp (ad n f) G).run P w=.ok (.value v) w) (e0:g=true→W w)
  (h:hc P ops Q ((i,fun w=>g=true→W w)::ay) k (listed.setIfInBounds i true) (act n (hi f d (mD g v)) aF) w):hc P ops Q ay (k+1) listed (act n f aF) w:=by
 refine Ie (W:=fun w=>g=true→W w) (v:=mD g v) ak am ab ax ag ?_ e0 h;cases g with
 |true=>exact .inl ⟨R.wanted,fun w hw=>by rw[hR]; exact aK rfl w (hw rfl)⟩
 |false=>exact .inr ⟨R.wanted,rfl⟩
theorem mG{z:Operand}{a c:Bool}(ai:G.op=.pick x S z)(F:ad n f x=.bool a)(aB:ad n f S=.bool true)(bL:ad n f z=mD (!a) (.bool c)) :
  (execOp (ad n f) G).run P w=.ok (.value (.bool (a||c))) w:=by
 cases a<;>simp[execOp,ai,F,aB,bL,asBool,mD]
theorem m6{z:Operand}{a l:Bool}(ai:G.op=.pick x S z)(F:ad n f x=.bool a)(aB:ad n f S=mD a (.bool l))(bL:ad n f z=.bool false) :
  (execOp (ad n f) G).run P w=.ok (.value (.bool (a&&l))) w:=by
 cases a<;>simp[execOp,ai,F,aB,bL,asBool,mD]
theorem aE1{z:Operand}{cX a c:Bool}(R:cX=true)(ai:G.op=.pick x S z)(F:ad n f x=mD cX (.bool a))(aB:ad n f S=.bool true)(bL:ad n f z=mD (cX&&!a) (.bool c)) :
  (execOp (ad n f) G).run P w=.ok (.value (.bool (a||c))) w:=by
 subst R; cases a<;>simp[execOp,ai,F,aB,bL,asBool,mD]
theorem HR{z:Operand}{cX a l:Bool}(R:cX=true)(ai:G.op=.pick x S z)(F:ad n f x=mD cX (.bool a))(aB:ad n f S=mD (cX&&a) (.bool l))(bL:ad n f z=.bool false) :
  (execOp (ad n f) G).run P w=.ok (.value (.bool (a&&l))) w:=by
 subst R; cases a<;>simp[execOp,ai,F,aB,bL,asBool,mD]
theorem arr{g f:Nat→Value}(h:g=f):act n f aF=act n g aF:=by rw[h]
theorem aIM(cU:List Nat):∀ (cQ:List Nat) (a:Act) (w:World),wpOps P ops (Exit.then (fun a w=>wpOps P ops Q cU a w) Q) cQ a w→wpOps P ops Q (cQ++cU) a w:=by
 intro cQ;induction cQ with
 |nil=>intro a w h; exact h
 |cons i cQ ck=>
  intro a w h;rw[List.cons_append,wpOps_cons];rw[wpOps_cons] at h;unfold wpOp at *;cases ai:ops[i]? with
  |none=>simp only[ai] at h ⊢; exact ck _ _ h
  |some G=>
   simp only[ai] at h ⊢;by_cases hw:Region.wanted G (yielded ops a.tmps)=true
   ·rw[if_pos hw] at h ⊢;rcases h with h | ⟨I,nt,SZ,O⟩
    ·left;have fr:=Oper.wp_mono (K':=wpOps P ops Q (cQ++cU)) (fun a w h=>ck a w h) h;unfold Oper.wp at fr ⊢;revert fr;generalize (execOp a.eval G).run P w=r;cases r with
     |ok kJ J=>cases kJ<;>exact fun h=>h
     |halt x J=>cases x<;>exact fun h=>h
    ·exact .inr ⟨I,nt,SZ,O⟩
   ·rw[if_neg hw] at h ⊢;exact ck _ _ h
theorem n9{bx:Type}{eZ:bx→World→Prop}{dw:(Nat→Value)→bx→(Nat→Value)}(cQ cU:List Nat)
  (bR:∀ s g w,eZ s w→dj P ops Q cU (act n (dw g s) aF) w) (F:dj P ops (Exit.then (fun a w=>∃ s g,a=act n (dw g s) aF∧eZ s w) Q) cQ (act n f aF) w):dj P ops Q (cQ++cU) (act n f aF) w:=by
 rw[zx] at *;refine aIM cU cQ _ _ ?_;have:∀ (m:List Nat) (a:Act) (w:World),wpOps P ops (Exit.then (fun a w=>∃ s g,a=act n (dw g s) aF∧eZ s w) Q) m a w→wpOps P ops (Exit.then (fun a w=>wpOps P ops Q cU a w) Q) m a w:=by
  intro m;induction m with
  |nil=>rintro a w ⟨s,g,rfl,O2⟩; exact bR s g w O2
  |cons i m ck=>
   intro a w h;rw[wpOps_cons] at h ⊢;unfold wpOp at *;cases ai:ops[i]? with
   |none=>simp only[ai] at h ⊢; exact ck _ _ h
   |some G=>
    simp only[ai] at h ⊢;by_cases hw:Region.wanted G (yielded ops a.tmps)=true
    ·rw[if_pos hw] at h ⊢;rcases h with h | ⟨I,nt,SZ,O⟩
     ·left;have fr:=Oper.wp_mono (K':=wpOps P ops (Exit.then (fun a w=>wpOps P ops Q cU a w) Q) m) (fun a w h=>ck a w h) h;unfold Oper.wp at fr ⊢;revert fr;generalize (execOp a.eval G).run P w=r;cases r with
      |ok kJ J=>cases kJ<;>exact fun h=>h
      |halt x J=>cases x<;>exact fun h=>h
     ·exact .inr ⟨I,nt,SZ,O⟩
    ·rw[if_neg hw] at h ⊢;exact ck _ _ h
 exact this cQ _ _ F
theorem s7{c:Code}{bx:Type}{dw:(Nat→Value)→bx→(Nat→Value)}{body:bx→World→(bx→World→Prop)→Prop}{ml:bx}(am:dw f ml=f)(h:e2 body ml w)
  (ao:∀ (s:bx) (g:Nat→Value) (w:World) (aa:bx→World→Prop),body s w aa→c.wp P (Exit.then (fun cl J=>∃ fB cI,cl=act n (dw cI fB) aF∧aa fB J) Q) (act n (dw g s) aF) w) :
  (Code.loop c).wp P Q (act n f aF) w:=by
 rw[← am];exact aCd (dw:=dw) h ao
def tK{Z:Type}(P:Program)(hI:cm)(args:List Value)(T:bu Z)(w:World)(k:Z→World→Prop):Prop:=
 ∃ (f:FuncId) (c:List Value),hI=.mk (.func f) #[] c.toArray∧dy P f∧M P f (args++c) T w k
theorem S9{Z:Type}{T:bu Z}{lg:List Operand}{nL:Array TypeId}{m:List Value}{hI:cm}{d:Option Nat}{next:Act→World→Prop}{aa:Z→World→Prop}(ag:G.dst=d)(ai:G.op=.call { callee:=.value x,args:=lg.toArray,argTypes:=nL })
  (F:ad n f x=hI.enc) (Y:lg.map (ad n f)=m) (h:tK P hI m T w aa) (aq:∀ r J,aa r J→next (act n (hi f d (T.enc r)) aF) J):mS P G (act n f aF) w next Q:=by
 obtain⟨k,c,yf,he,h⟩:=h;exact gU ag (aEZ ai F yf he Y) h aq
def dl(w:World)(k:World→Prop):Prop:=k w.drew
theorem ov{w:World}{k:World→Prop}(h:dl w k):∃ J,J=w.drew∧k J:=⟨_,rfl,h⟩
def sH(aO aT:Prop):Prop:=aO∧aT
end
theorem W4{w:World}{G:Obj}{a:Addr}{ba:List Value}(h:oT w a ba):oT (w.alloc G) a ba:=by
 intro D v aK;have ah:=h D v aK;rw[World.cell?_alloc_lt _ _ _ (World.block_lt_of_cell? _ _ ah)];exact ah
theorem yx{Z:Type}{T:bu Z}{a:Addr}{x:Z}{w J:World}{G:Obj}(hw:J=w.alloc G)(h:L T a w x):L T a J x:=hw▸W4 h
def FZ{Z:Type}(T:bu Z)(w:World)(a:Option Addr)(xs:List Z):Prop:=match a with
 |some a=>oT w a (xs.flatMap T.cells)
 |none=>xs=[]
def k_{Z:Type}(T:bu Z)(w:World)(s:af)(xs:List Z):Prop:=xs.length=s.len∧FZ T w s.a xs
def l7{Z:Type}(t:TypeId)(T:bu Z)(ar az:Nat)(s:af)(new:List Z)(w:World)(k:af→World→Prop):Prop:=
 (s.len + new.length ≤ s.cap → match s.a with
  |some a=>wa w (a.add (s.len*ar)) (new.length*ar)∧k ⟨some a,s.len+new.length,s.cap⟩ (oD w (a.add (s.len*ar)) 0 (new.flatMap T.cells))
  |none=>k ⟨none,s.len+new.length,s.cap⟩ w) ∧
 (s.cap < s.len + new.length → (s.len + new.length) * az ≤ 140737488355328 ∧ ∃ old : List Z, k_ T w s old ∧
  ∀ (c:Nat) (rest:List Value),s.len+new.length≤c→rest.length=(c-(s.len+new.length))*ar →
   k ⟨some ⟨w.heap.size,0,none⟩,s.len+new.length,c⟩ (w.drew.alloc (.cells ((old++new).flatMap T.cells++rest).toArray t)))
def tE{Z:Type}(t:TypeId)(T:bu Z)(ar az:Nat)(s l:af)(w:World)(k:af→World→Prop):Prop:=
 ∃ new:List Z,k_ T w l new∧l7 t T ar az s new w k
def l6{Z:Type}(t:TypeId)(T:bu Z)(ar az:Nat)(s:af)(new:List Z)(w:World)(k:af→World→Prop):Prop:=
 l7 t T ar az s new (w.alloc (.cells (new.flatMap T.cells).toArray t)) k
section
variable {P:Program} {Q:Exit→Act→World→Prop} {n:Nat} {f:Nat→Value} {aF:List Deferred} {w J:World} {ops:Array Oper} {i:Nat} {rest:List Nat} {G:Oper} {x S z:Operand}
theorem nV{Z:Type}{T:bu Z}{y:Nat}(h:∀ x,(T.cells x).length=y)(xs:List Z):(xs.flatMap T.cells).length=xs.length*y:=by
 induction xs with
 |nil=>simp
 |cons x xs ck=>simp[ck,h x,Nat.add_mul,Nat.add_comm]
theorem Aq{Z:Type}{T:bu Z}{y:Nat}(al:∀ x,(T.cells x).length=y){s:af}{xs:List Z}(h:k_ T w s xs) :
  (Builtin.firstCells y s.len (X.enc s)).run P w=.ok (xs.flatMap T.cells).toArray w:=by
 obtain⟨g3,ab⟩:=h;obtain⟨a,m,c⟩:=s;cases a with
 |none=>
  simp only[FZ] at ab;subst ab;simp[Builtin.firstCells]
 |some a=>
  simp only[FZ] at ab;simp only at g3;have:=run_loadCellsFrom P w a (xs.flatMap T.cells) 0 #[] (by intro D v aK; rw[Nat.zero_add]; exact ab D v aK);rw[nV al,g3] at this;simp only[Builtin.firstCells,loadCells];rw[this]; simp
theorem NO{Z:Type}{T:bu Z}{s:af}{xs:List Z}(h:k_ T w s xs):k_ T w.drew s xs:=by
 obtain⟨a,m,c⟩:=s;cases a<;>exact h
theorem aGA{Z:Type}{T:bu Z}{ar:Nat}{t u hq j:TypeId}{s l:af}{new:List Z}(aS:P.underlying t=some (.slice j))(hu:∃ hU,P.underlying u=some (.slice hU))
  (ok:cw P j T ar) (rj:k_ T w l new) (U:s.len+new.length≤s.cap) {a:Addr} (Y:s.a=some a) (hw:wa w (a.add (s.len*ar)) (new.length*ar)) :
  (Builtin.append_ #[t,u] hq #[X.enc s,X.enc l]).run P w=.ok (X.enc ⟨some a,s.len+new.length,s.cap⟩) (oD w (a.add (s.len*ar)) 0 (new.flatMap T.cells)):=by
 obtain⟨jE,ax,j9⟩:=ok.size;obtain⟨hU,hu⟩:=hu;have mE:new.length=l.len:=rj.1;have BB:s.len+l.len≤s.cap:=by omega
 have I:=Aq (P:=P) ok.len rj
 have O:=EM (P:=P) (a.add (s.len*ar)) (new.flatMap T.cells) 0 w (by
  intro D bR;rw[Nat.zero_add];rw[nV ok.len] at bR
  exact hw D bR) (fun v aK=>by obtain⟨x,_,F⟩:=List.mem_flatMap.1 aK; exact ok.one x v F)
 simp only[Builtin.append_];simp[run_underlying aS,run_underlying hu,run_sizeOf ax,Builtin.lenOf,BB,j9,Y,mE];have GB:Sem.run P (Builtin.firstCells ar l.len (Value.slice l.a l.len l.cap)) w=.ok (new.flatMap T.cells).toArray w:=I;rw[GB];simp only[Result.andThen_ok];rw[show storeCells (a.add (s.len*ar)) (new.flatMap T.cells).toArray.toList=storeCells (a.add (s.len*ar)) (new.flatMap T.cells) 0 from rfl,O];simp
theorem aGB{Z:Type}{T:bu Z}{ar:Nat}{t u hq j:TypeId}{s l:af}{new:List Z}(aS:P.underlying t=some (.slice j))(hu:∃ hU,P.underlying u=some (.slice hU))
  (ok:cw P j T ar) (rj:k_ T w l new) (U:s.len+new.length≤s.cap) (Y:s.a=none) :
  (Builtin.append_ #[t,u] hq #[X.enc s,X.enc l]).run P w=.ok (X.enc ⟨none,s.len+new.length,s.cap⟩) w:=by
 obtain⟨jE,ax,j9⟩:=ok.size;obtain⟨hU,hu⟩:=hu;have mE:new.length=l.len:=rj.1;have BB:s.len+l.len≤s.cap:=by omega
 have I:Sem.run P (Builtin.firstCells ar l.len (Value.slice l.a l.len l.cap)) w=.ok (new.flatMap T.cells).toArray w:=Aq (P:=P) ok.len rj;simp only[Builtin.append_];simp[run_underlying aS,run_underlying hu,run_sizeOf ax,Builtin.lenOf,BB,j9,Y,mE,I]
theorem aGz{Z:Type}{T:bu Z}{ar:Nat}{t u hq j:TypeId}{jE:TypeInfo}{og:Value}{fv:List Value}{s l:af}{new old:List Z}(aS:P.underlying t=some (.slice j))(hu:∃ hU,P.underlying u=some (.slice hU))
  (ok:cw P j T ar) (ax:P.info? j=some jE) (bL:jE.zero=some og) (BS:og.cells=fv.toArray) (wF:fv.length=ar) (DV:0<jE.bytes)
  (rj:k_ T w l new) (U:s.cap<s.len+new.length) (sW:(s.len+new.length)*jE.bytes≤140737488355328) (hold:k_ T w s old) :
  ∃ (c:Nat) (rest:List Value),s.len+new.length≤c∧rest.length=(c-(s.len+new.length))*ar ∧
   (Builtin.append_ #[t,u] hq #[X.enc s,X.enc l]).run P w=.ok (X.enc ⟨some ⟨w.heap.size,0,none⟩,s.len+new.length,c⟩) (w.drew.alloc (.cells ((old++new).flatMap T.cells++rest).toArray j)):=by
 obtain⟨anW,yi,j9⟩:=ok.size;rw[ax] at yi; injection yi with yi; subst yi
 obtain⟨hU,hu⟩:=hu;have mE:new.length=l.len:=rj.1;have BM:old.length=s.len:=hold.1;have BB:¬ (s.len+l.len≤s.cap):=by omega
 have R:=growslice_fits (need:=s.len+l.len) (old:=s.cap) (bytes:=jE.bytes) (by omega) (by rw[← mE]; exact sW);have yg:¬ (281474976710656<Builtin.nextslicecap (s.len+l.len) s.cap*jE.bytes):=by omega
 have Pj:jE.bytes≠0:=by omega
 have I:=Aq (P:=P) ok.len rj;have O:=Aq (P:=P) ok.len hold;refine⟨(Question.appendCap (s.len+l.len) s.cap j).cut (w.tape w.drawn (.appendCap (s.len+l.len) s.cap j)),(Builtin.zeroCells og.cells ((Question.appendCap (s.len+l.len) s.cap j).cut (w.tape w.drawn (.appendCap (s.len+l.len) s.cap j))-(s.len+l.len))).toList,?_,?_,?_⟩
 ·simp only[Question.cut]; omega
 ·simp[Builtin.zeroCells,BS,wF,mE]
 ·have GB:Sem.run P (Builtin.firstCells ar l.len (Value.slice l.a l.len l.cap)) w.drew=.ok (new.flatMap T.cells).toArray w.drew:=Aq (P:=P) ok.len (NO rj);have OY:Sem.run P (Builtin.firstCells ar s.len (Value.slice s.a s.len s.cap)) w.drew=.ok (old.flatMap T.cells).toArray w.drew:=Aq (P:=P) ok.len (NO hold);simp only[Builtin.append_];simp[run_underlying aS,run_underlying hu,run_sizeOf ax,Builtin.lenOf,BB,j9,mE,typeInfo,ax,Pj,yg,Question.forced,GB,OY,zeroValue,bL,newRow,List.flatMap_append,World.drew_eq];congr 2;apply Array.ext';simp
theorem Ip{Z:Type}{T:bu Z}{ar az:Nat}{t u j:TypeId}{og:Value}{fv:List Value}{s l:af}{d:Option Nat}{next:Act→World→Prop}{aa:af→World→Prop}(ag:G.dst=d)
  (ai:G.op=.call { callee:=.builtin .append,args:=#[x,S],argTypes:=#[t,u] }) (aS:P.underlying t=some (.slice j)) (hu:∃ hU,P.underlying u=some (.slice hU))
  (ok:cw P j T ar) (va:∃ i,P.info? j=some i∧i.zero=some og∧i.size=ar∧i.bytes=az) (BS:og.cells=fv.toArray) (wF:fv.length=ar) (DV:0<az)
  (F:ad n f x=X.enc s) (aB:ad n f S=X.enc l) (h:tE j T ar az s l w aa) (aq:∀ r J,aa r J→next (act n (hi f d (X.enc r)) aF) J) :
  mS P G (act n f aF) w next Q:=by
 rw[nP];subst ag;obtain⟨jE,ax,bL,j9,rfl⟩:=va;obtain⟨new,rj,kt,zR⟩:=h;have gL:∀ (w:World) (v:Value) (J:World),(Builtin.append_ #[t,u] G.type #[X.enc s,X.enc l]).run P w=.ok v J→(execOp (ad n f) G).run P w=.ok (.value v) J:=by
  intro w v J aK;simp only[execOp,ai,resolve,invoke,builtin];simp only[List.map_toArray,List.map_cons,List.map_nil,F,aB,pure_bind,Sem.run_bind,aK,Result.andThen_ok,Sem.run_pure]
 by_cases U:s.len+new.length≤s.cap
 ·have kt:=kt U;cases Y:s.a with
  |none=>
   rw[Y] at kt;simp only[Oper.wp,hR,gL _ _ _ (aGB aS hu ok rj U Y),Oper.upon_value,ig];exact aq _ _ kt
  |some a=>
   rw[Y] at kt;simp only[Oper.wp,hR,gL _ _ _ (aGA aS hu ok rj U Y kt.1),Oper.upon_value,ig];exact aq _ _ kt.2
 ·obtain⟨sW,old,hold,zR⟩:=zR (by omega);obtain⟨c,rest,I,O,aJ⟩:=aGz (hq:=G.type) aS hu ok ax bL BS wF DV rj (by omega) sW hold;simp only[Oper.wp,hR,gL _ _ _ aJ,Oper.upon_value,ig];exact aq _ _ (zR c rest I O)
theorem ajA(w:World)(ba:List Value)(t:TypeId):oT (w.alloc (.cells ba.toArray t)) ⟨w.heap.size,0,none⟩ ba:=by
 intro D v aK;have:(⟨w.heap.size,0,none⟩:Addr).add D=⟨w.heap.size,D,none⟩:=by
  cases D<;>simp[Addr.add]
 rw[this,World.cell?_alloc_new];simpa using aK
theorem aj8{Z:Type}{t:TypeId}{T:bu Z}{ar az:Nat}{s:af}{new:List Z}{aa:af→World→Prop}(h:l6 t T ar az s new w aa) :
  tE t T ar az s ⟨some ⟨w.heap.size,0,none⟩,new.length,new.length⟩ (w.alloc (.cells (new.flatMap T.cells).toArray t)) aa:=
 ⟨new,⟨rfl,ajA w _ t⟩,h⟩
theorem anS{Z:Type}{T:bu Z}{ar:Nat}(al:∀ x,(T.cells x).length=ar)(am:∀ x,(T.enc x).cells=(T.cells x).toArray) :
  ∀ (xs:List Z) (i:Nat) (pre lq:List Value),pre.length=i*ar→lq.length=xs.length*ar →
   Instr.fill (fun i=>some (i*ar,ar)) (pre++lq).toArray ((xs.zipIdx i).map fun p=>(p.2,T.enc p.1))=some (pre++xs.flatMap T.cells).toArray:=by
 have jv:∀ (aX:List Value) (G:Nat) (pre lq:List Value),pre.length=G→aX.length≤lq.length →
   ((aX.toArray.zipIdx).foldl (fun ba (x:Value×Nat)=>ba.setIfInBounds (G+x.2) x.1) (pre++lq).toArray)=(pre++aX++lq.drop aX.length).toArray:=by
  intro aX;have gen:∀ (aX:List Value) (k G:Nat) (pre lq:List Value),pre.length=G+k→aX.length≤lq.length →
    ((aX.zipIdx k).foldl (fun (ba:Array Value) (x:Value×Nat)=>ba.setIfInBounds (G+x.2) x.1) (pre++lq).toArray)=(pre++aX++lq.drop aX.length).toArray:=by
   intro aX;induction aX with
   |nil=>intro k G pre lq _ _; simp
   |cons v aX ck=>
    intro k G pre lq aE aG;cases lq with
    |nil=>simp at aG
    |cons s lq=>
     have I:((pre++s::lq).toArray.setIfInBounds (G+k) v)=((pre++[v])++lq).toArray:=by
      rw[← aE];simp
     simp only[List.zipIdx_cons,List.foldl_cons,I];rw[ck (k+1) G (pre++[v]) lq (by simp; omega) (by simpa using aG)];simp
  intro G pre lq aE aG;rw[← Array.foldl_toList];have:(aX.toArray.zipIdx).toList=aX.zipIdx 0:=by simp
  rw[this];exact gen aX 0 G pre lq (by omega) aG
 intro xs;induction xs with
 |nil=>
  intro i pre lq aE aG;have:lq=[]:=by simpa using aG
  subst this;simp[Instr.fill]
 |cons x xs ck=>
  intro i pre lq aE aG;simp only[List.zipIdx_cons,List.map_cons,Instr.fill,am x];have yn:lq.length=xs.length*ar+ar:=by rw[aG]; simp[Nat.add_mul]
  have U:((T.cells x).toArray.size≠ar||i*ar+(T.cells x).toArray.size>(pre++lq).toArray.size)=false:=by
   simp[al x,aE,yn]
  rw[U];simp only[Bool.false_eq_true,if_false];have O:=jv (T.cells x) (i*ar) pre lq aE (by rw[al x,yn]; omega);rw[O];rw[ck (i+1) (pre++T.cells x) (lq.drop (T.cells x).length) (by simp[aE,al x,Nat.add_mul]) (by simp[al x,yn])];simp
theorem Al{Z:Type}{T:bu Z}{ar:Nat}{t j:TypeId}{og:Value}{y:Nat}{eG:List (Nat×Operand)}{xs:List Z}{a:Addr}{J:World}(ai:G.op=.buildSlice t y eG.toArray)(aS:P.underlying t=some (.slice j))
  (ok:cw P j T ar) {az:Nat} (va:∃ i,P.info? j=some i∧i.zero=some og∧i.size=ar∧i.bytes=az) (hm:xs.length=y) (ao:y*ar≤2^24) (ah:y*ar≠0)
  (aE:eG.map (fun p=>(p.1,ad n f p.2))=(xs.zipIdx 0).map fun p=>(p.2,T.enc p.1))
  (Y:a=⟨w.heap.size,0,none⟩) (hw:J=w.alloc (.cells (xs.flatMap T.cells).toArray j)) :
  (execOp (ad n f) G).run P w=.ok (.value (X.enc ⟨some a,y,y⟩)) J:=by
 subst Y; subst hw;obtain⟨jE,ax,bL,j9,_⟩:=va;have Ps:=anS (T:=T) ok.len ok.flat xs 0 [] ((Array.range (y*jE.size)).map (og.cells[·%og.cells.size]!)).toList (by simp) (by simp[hm,j9]);simp only[List.nil_append,Array.toArray_toList] at Ps;have aqn:¬ (y*jE.size>2^24):=by rw[j9]; omega
 have an7:y*jE.size≠0:=by rw[j9]; exact ah
 simp only[execOp,ai,Instr.buildSlice];simp only[List.map_toArray,aE];simp only[bind_pure_comp,Sem.run_map,Sem.run_bind,run_underlying aS,Result.andThen_ok,run_sizeOf ax];rw[if_neg aqn,if_neg an7];simp[zeroValue,typeInfo,ax,bL,j9,newRow] at Ps ⊢;simp[Ps]
theorem Es{Z:Type}{t:TypeId}{T:bu Z}{xs:List Z}{w:World}{k:Addr→World→Prop}(h:ta t T xs w k) :
  ∃ a J,a=⟨w.heap.size,0,none⟩∧J=w.alloc (.cells (xs.flatMap T.cells).toArray t)∧k a J:=⟨_,_,rfl,rfl,h⟩
theorem Lg{t j:TypeId}{s r:af}{m h:Int}{rs pR:IntKind}{ar:Nat}{Z:Type}{T:bu Z}(ai:G.op=.slice t x (some S) (some z) none)(aS:P.underlying t=some (.slice j))(ok:cw P j T ar)(F:ad n f x=X.enc s)(aB:ad n f S=.int rs m)(bL:ad n f z=.int pR h)
  (ab:Sub s ar m h (s.cap:Int) r):(execOp (ad n f) G).run P w=.ok (.value (X.enc r)) w:=by
 obtain⟨jE,u7,j9⟩:=ok.size;obtain⟨a,len,cap⟩:=s
 try simp only at ab
 obtain⟨ah,I,O,aJ,rfl⟩:=ab;have aR:(((h:Int).toNat:Nat):Int)=h:=Int.toNat_of_nonneg (by omega);have a9:((((cap:Int):Int).toNat:Nat):Int)=(cap:Int):=Int.toNat_of_nonneg (by omega);have ao:∀ (k:IntKind) (i:Int) (S:Nat) (c:BoundsCode),0≤i→i≤S→(Instr.sliceBound (.int k i) S c).run P w=.ok i.toNat w:=fun k i S c u9 u_=>by
  simp[Instr.sliceBound,asIntOf,u9,u_]
 simp only[execOp,ai,F,Option.map_some,Option.map_none,aB,bL];simp only[Instr.sliceAt,Instr.slice,Sem.run_bind,run_underlying aS,Result.andThen_ok,Instr.sliceBounds,bind_pure_comp,Sem.run_map,Sem.run_pure,ao pR h cap _ (by omega) (by omega),ao rs m h.toNat _ (by omega) (by omega)];simp[run_sizeOf u7,j9]
theorem adT{t j:TypeId}{s r:af}{m:Int}{rs:IntKind}{ar:Nat}{Z:Type}{T:bu Z}(ai:G.op=.slice t x (some S) none none)(aS:P.underlying t=some (.slice j))(ok:cw P j T ar)(F:ad n f x=X.enc s)(aB:ad n f S=.int rs m)
  (ab:Sub s ar m (s.len:Int) (s.cap:Int) r):(execOp (ad n f) G).run P w=.ok (.value (X.enc r)) w:=by
 obtain⟨jE,u7,j9⟩:=ok.size;obtain⟨a,len,cap⟩:=s
 try simp only at ab
 obtain⟨ah,I,O,aJ,rfl⟩:=ab;have aR:((((len:Int):Int).toNat:Nat):Int)=(len:Int):=Int.toNat_of_nonneg (by omega);have a9:((((cap:Int):Int).toNat:Nat):Int)=(cap:Int):=Int.toNat_of_nonneg (by omega);have ao:∀ (k:IntKind) (i:Int) (S:Nat) (c:BoundsCode),0≤i→i≤S→(Instr.sliceBound (.int k i) S c).run P w=.ok i.toNat w:=fun k i S c u9 u_=>by
  simp[Instr.sliceBound,asIntOf,u9,u_]
 simp only[execOp,ai,F,Option.map_some,Option.map_none,aB];simp only[Instr.sliceAt,Instr.slice,Sem.run_bind,run_underlying aS,Result.andThen_ok,Instr.sliceBounds,bind_pure_comp,Sem.run_map,Sem.run_pure,ao rs m len _ (by omega) (by omega)];simp[run_sizeOf u7,j9]
theorem R1{t j:TypeId}{s r:af}{h:Int}{pR:IntKind}{ar:Nat}{Z:Type}{T:bu Z}(ai:G.op=.slice t x none (some z) none)(aS:P.underlying t=some (.slice j))(ok:cw P j T ar)(F:ad n f x=X.enc s)(bL:ad n f z=.int pR h)
  (ab:Sub s ar 0 h (s.cap:Int) r):(execOp (ad n f) G).run P w=.ok (.value (X.enc r)) w:=by
 obtain⟨jE,u7,j9⟩:=ok.size;obtain⟨a,len,cap⟩:=s
 try simp only at ab
 obtain⟨ah,I,O,aJ,rfl⟩:=ab;have aR:(((h:Int).toNat:Nat):Int)=h:=Int.toNat_of_nonneg (by omega);have a9:((((cap:Int):Int).toNat:Nat):Int)=(cap:Int):=Int.toNat_of_nonneg (by omega);have ao:∀ (k:IntKind) (i:Int) (S:Nat) (c:BoundsCode),0≤i→i≤S→(Instr.sliceBound (.int k i) S c).run P w=.ok i.toNat w:=fun k i S c u9 u_=>by
  simp[Instr.sliceBound,asIntOf,u9,u_]
 simp only[execOp,ai,F,Option.map_some,Option.map_none,bL];simp only[Instr.sliceAt,Instr.slice,Sem.run_bind,run_underlying aS,Result.andThen_ok,Instr.sliceBounds,bind_pure_comp,Sem.run_map,Sem.run_pure,ao pR h cap _ (by omega) (by omega)];simp[run_sizeOf u7,j9]
theorem adS{t j:TypeId}{s r:af}  {ar:Nat} {Z:Type} {T:bu Z} (ai:G.op=.slice t x none none none) (aS:P.underlying t=some (.slice j)) (ok:cw P j T ar) (F:ad n f x=X.enc s) 
  (ab:Sub s ar 0 (s.len:Int) (s.cap:Int) r):(execOp (ad n f) G).run P w=.ok (.value (X.enc r)) w:=by
 obtain⟨jE,u7,j9⟩:=ok.size;obtain⟨a,len,cap⟩:=s
 try simp only at ab
 obtain⟨ah,I,O,aJ,rfl⟩:=ab;have aR:((((len:Int):Int).toNat:Nat):Int)=(len:Int):=Int.toNat_of_nonneg (by omega);have a9:((((cap:Int):Int).toNat:Nat):Int)=(cap:Int):=Int.toNat_of_nonneg (by omega);have ao:∀ (k:IntKind) (i:Int) (S:Nat) (c:BoundsCode),0≤i→i≤S→(Instr.sliceBound (.int k i) S c).run P w=.ok i.toNat w:=fun k i S c u9 u_=>by
  simp[Instr.sliceBound,asIntOf,u9,u_]
 simp only[execOp,ai,F,Option.map_some,Option.map_none];simp only[Instr.sliceAt,Instr.slice,Sem.run_bind,run_underlying aS,Result.andThen_ok,Instr.sliceBounds,bind_pure_comp,Sem.run_map,Sem.run_pure];simp[run_sizeOf u7,j9]
theorem adU{t j:TypeId}{s r:af}{m h y:Int}{rs pR kH:IntKind}{v:Operand}{ar:Nat}{Z:Type}{T:bu Z}(ai:G.op=.slice t x (some S) (some z) (some v))(aS:P.underlying t=some (.slice j))(ok:cw P j T ar)(F:ad n f x=X.enc s)(aB:ad n f S=.int rs m)(bL:ad n f z=.int pR h)(aK:ad n f v=.int kH y)
  (ab:Sub s ar m h y r):(execOp (ad n f) G).run P w=.ok (.value (X.enc r)) w:=by
 obtain⟨jE,u7,j9⟩:=ok.size;obtain⟨a,len,cap⟩:=s
 try simp only at ab
 obtain⟨ah,I,O,aJ,rfl⟩:=ab;have aR:(((h:Int).toNat:Nat):Int)=h:=Int.toNat_of_nonneg (by omega);have a9:(((y:Int).toNat:Nat):Int)=y:=Int.toNat_of_nonneg (by omega);have ao:∀ (k:IntKind) (i:Int) (S:Nat) (c:BoundsCode),0≤i→i≤S→(Instr.sliceBound (.int k i) S c).run P w=.ok i.toNat w:=fun k i S c u9 u_=>by
  simp[Instr.sliceBound,asIntOf,u9,u_]
 simp only[execOp,ai,F,Option.map_some,Option.map_none,aB,bL,aK];simp only[Instr.sliceAt,Instr.slice,Sem.run_bind,run_underlying aS,Result.andThen_ok,Instr.sliceBounds,bind_pure_comp,Sem.run_map,Sem.run_pure,ao kH y cap _ (by omega) (by omega),ao pR h y.toNat _ (by omega) (by omega),ao rs m h.toNat _ (by omega) (by omega)];simp[run_sizeOf u7,j9]
theorem R2{t j:TypeId}{s r:af}{h y:Int}{pR kH:IntKind}{v:Operand}{ar:Nat}{Z:Type}{T:bu Z}(ai:G.op=.slice t x none (some z) (some v))(aS:P.underlying t=some (.slice j))(ok:cw P j T ar)(F:ad n f x=X.enc s)(bL:ad n f z=.int pR h)(aK:ad n f v=.int kH y)
  (ab:Sub s ar 0 h y r):(execOp (ad n f) G).run P w=.ok (.value (X.enc r)) w:=by
 obtain⟨jE,u7,j9⟩:=ok.size;obtain⟨a,len,cap⟩:=s
 try simp only at ab
 obtain⟨ah,I,O,aJ,rfl⟩:=ab;have aR:(((h:Int).toNat:Nat):Int)=h:=Int.toNat_of_nonneg (by omega);have a9:(((y:Int).toNat:Nat):Int)=y:=Int.toNat_of_nonneg (by omega);have ao:∀ (k:IntKind) (i:Int) (S:Nat) (c:BoundsCode),0≤i→i≤S→(Instr.sliceBound (.int k i) S c).run P w=.ok i.toNat w:=fun k i S c u9 u_=>by
  simp[Instr.sliceBound,asIntOf,u9,u_]
 simp only[execOp,ai,F,Option.map_some,Option.map_none,bL,aK];simp only[Instr.sliceAt,Instr.slice,Sem.run_bind,run_underlying aS,Result.andThen_ok,Instr.sliceBounds,bind_pure_comp,Sem.run_map,Sem.run_pure,ao kH y cap _ (by omega) (by omega),ao pR h y.toNat _ (by omega) (by omega)];simp[run_sizeOf u7,j9]
theorem F8{Z:Type}{t:TypeId}{T:bu Z}{ar az:Nat}{s:af}{new:List Z}{w:World}{aa:af→World→Prop}(h:l6 t T ar az s new w aa) :
  ∃ a J,a=⟨w.heap.size,0,none⟩∧J=w.alloc (.cells (new.flatMap T.cells).toArray t)∧tE t T ar az s ⟨some a,new.length,new.length⟩ J aa:=⟨_,_,rfl,rfl,aj8 h⟩
theorem RZ{Z:Type}{T:bu Z}{ar az:Nat}{og:Value}{t j:TypeId}{a:Addr}{J:World}(ai:G.op=.buildSlice t 0 #[])(aS:P.underlying t=some (.slice j))(ok:cw P j T ar)
  (ax:∃ i,P.info? j=some i∧i.zero=some og∧i.size=ar∧i.bytes=az) (Y:a=⟨w.heap.size,0,none⟩) (hw:J=w.alloc (.cells (([]:List Z).flatMap T.cells).toArray j)) :
  (execOp (ad n f) G).run P w=.ok (.value (X.enc ⟨some a,0,0⟩)) J:=by
 subst Y; subst hw;obtain⟨i,ax,bL,aG,ao⟩:=ax;simp[execOp,ai,Instr.buildSlice,run_underlying aS,run_sizeOf ax,Instr.fill,newRow];rw[show Array.range 0=#[] from by simp[Array.range]];simp
end
section
variable {P:Program} {Q:Exit→Act→World→Prop} {n:Nat} {f:Nat→Value} {aF:List Deferred} {w J:World} {ops:Array Oper} {i:Nat} {rest:List Nat} {G:Oper} {x S z:Operand}
theorem ji{t:TypeId}{d:TypeDesc}{ba:Array Value}{off:Nat}{v:Value}(ag:P.underlying t=some d)(Y:wh d=false)(aK:ba[off]?=some v):(part t ba off).run P w=.ok v w:=by
 simp[part,Lu ag,Y,aK]
theorem H3{t:TypeId}{d:TypeDesc}{ba aF:Array Value}{off y:Nat}(ag:P.underlying t=some d)(Y:wh d=true)(aG:∃ i,P.info? t=some i∧i.size=y)(aK:ba.extract off (off+y)=aF):(part t ba off).run P w=.ok (.agg aF) w:=by
 obtain⟨i,ax,rfl⟩:=aG;simp[part,Lu ag,Y,run_sizeOf ax,aK]
theorem Gu{d:Nat}{xs gJ:Array Value}:(Op.eqFields d xs gJ []).run P w=.ok true w:=by simp[Op.eqFields]
theorem o2{d:Nat}{xs gJ:Array Value}{fd:Field}{is:List Field}{a l:Value}{c r:Bool} (aL:fd.name≠"_") (Y:(part fd.type xs fd.offset).run P w=.ok a w) (ao:(part fd.type gJ fd.offset).run P w=.ok l w)
  (he:(Op.equalIn d fd.type a l).run P w=.ok c w) (ab:(Op.eqFields d xs gJ is).run P w=.ok r w):(Op.eqFields d xs gJ (fd::is)).run P w=.ok (c&&r) w:=by
 simp only[Op.eqFields,aL,ne_eq,not_false_eq_true,if_true,Sem.run_bind,Y,ao,he,Result.andThen_ok];cases c<;>simp[ab]
theorem tN{d:Nat}{t:TypeId}{k:IntKind}{a l:Int}(h:P.underlying t=some (.int k)):(Op.equalIn (d+1) t (.int k a) (.int k l)).run P w=.ok (a==l) w:=run_equalIn_int w d t k k a l h
theorem Jx{d:Nat}{t:TypeId}{a l:Bool}(h:P.underlying t=some .bool):(Op.equalIn (d+1) t (.bool a) (.bool l)).run P w=.ok (a==l) w:=run_equalIn_bool' w d t a l h
theorem Gv{d:Nat}{t:TypeId}{is:Array Field}{xs gJ:List Value}{r:Bool}(aS:P.underlying t=some (.struct is))(aE:P.stoodInHeld t=false)(ab:(Op.eqFields d xs.toArray gJ.toArray is.toList).run P w=.ok r w) :
  (Op.equalIn (d+1) t (.agg xs.toArray) (.agg gJ.toArray)).run P w=.ok r w:=by
 have am:P.fieldsOf t=is:=by simp[Program.fieldsOf,aS]
 rw[run_equalIn_struct w d t _ _ (by rw[am]; exact aS) aE,am]; exact ab
theorem Cj{xs gJ:List Value}{t u:TypeId}{r:Bool}(ai:G.op=.binOp .eql t x S u)(he:P.eqGuardType P.depth t=false∧∀ w,(Op.equalIn 10000 t (.agg xs.toArray) (.agg gJ.toArray)).run P w=.ok r w)
  (F:ad n f x=.agg xs.toArray) (aB:ad n f S=.agg gJ.toArray):(execOp (ad n f) G).run P w=.ok (.value (.bool r)) w:=by
 simp only[execOp,ai,F,aB,bind_pure_comp,Sem.run_map,Sem.run_bind,run_eqGuard_agg w _ _ _ _ _ _ he.1,Result.andThen_ok,run_eql_struct,he.2 w]
theorem Ck{xs gJ:List Value}{t u:TypeId}{r:Bool}(ai:G.op=.binOp .neq t x S u)(he:P.eqGuardType P.depth t=false∧∀ w,(Op.equalIn 10000 t (.agg xs.toArray) (.agg gJ.toArray)).run P w=.ok r w)
  (F:ad n f x=.agg xs.toArray) (aB:ad n f S=.agg gJ.toArray):(execOp (ad n f) G).run P w=.ok (.value (.bool (!r))) w:=by
 simp only[execOp,ai,F,aB,bind_pure_comp,Sem.run_map,Sem.run_bind,run_eqGuard_agg w _ _ _ _ _ _ he.1,Result.andThen_ok,run_neq_struct,he.2 w]
theorem aEY{t j:TypeId}{len ar:Nat}{og:Value}{y az:Nat}{eG:List (Nat×Operand)}{fl:List (Nat×Value)}{ba:List Value}(ai:G.op=.build t eG.toArray)(aS:P.underlying t=some (.array len j))
  (bL:∃ i,P.info? t=some i∧i.zero=some og∧i.size=y∧i.bytes=az) (aG:∃ i,P.info? j=some i∧i.size=ar)
  (aE:eG.map (fun p=>(p.1,ad n f p.2))=fl) (am:Instr.fill (fun D=>some (D*ar,ar)) og.cells fl=some ba.toArray):(execOp (ad n f) G).run P w=.ok (.value (.agg ba.toArray)) w:=by
 obtain⟨i,ax,bL,_⟩:=bL;obtain⟨D,bR,rfl⟩:=aG;subst aE;simp only[execOp,ai,Instr.build,zeroValue,typeInfo,bind_assoc,pure_bind,bind_pure_comp,Sem.run_map,Sem.run_bind,run_program,Result.andThen_ok,ax,bL,Sem.run_pure,run_underlying aS,run_sizeOf bR,List.map_toArray];rw[am];simp
theorem gG{t:TypeId}{is:Array Field}{pl:List (Nat×Nat)}{og:Value}{y az:Nat}{eG:List (Nat×Operand)}{fl:List (Nat×Value)}{ba:List Value}(ai:G.op=.build t eG.toArray)(aS:P.underlying t=some (.struct is))
  (bL:∃ i,P.info? t=some i∧i.zero=some og∧i.size=y∧i.bytes=az) (PK:∀ w,(is.toList.mapM fun f=>(do pure (f.offset,← sizeOf f.type):Sem (Nat×Nat))).run P w=.ok pl w)
  (aE:eG.map (fun p=>(p.1,ad n f p.2))=fl) (am:Instr.fill (fun D=>pl[D]?) og.cells fl=some ba.toArray):(execOp (ad n f) G).run P w=.ok (.value (.agg ba.toArray)) w:=by
 obtain⟨i,ax,bL,_⟩:=bL;subst aE;have Z_:(is.mapM fun f=>(do pure (f.offset,← sizeOf f.type):Sem (Nat×Nat))).run P w=.ok pl.toArray w:=by
  rw[Array.mapM_eq_mapM_toList];simp only[Sem.run_map,PK w,Result.andThen_ok]
 simp only[execOp,ai,Instr.build,zeroValue,typeInfo,bind_assoc,pure_bind,bind_pure_comp,Sem.run_map,Sem.run_bind,run_program,Result.andThen_ok,ax,bL,Sem.run_pure,run_underlying aS];simp only[bind_pure_comp] at Z_;rw[Z_];simp only[Result.andThen_ok,List.map_toArray,List.getElem?_toArray];rw[am];simp
theorem OJ{s:List UInt8}{m h:Nat}(cD:h≤s.length):(⟨s.toArray⟩:ByteArray).extract m h=⟨((s.take h).drop m).toArray⟩:=by
 apply ByteArray.ext;simp[List.extract_eq_take_drop,List.drop_take]
theorem Lw{k:IntKind}{i:Int}{S:Nat}{c:BoundsCode}(ah:0≤i)(I:i≤S):(Instr.sliceBound (.int k i) S c).run P w=.ok i.toNat w:=by
 simp[Instr.sliceBound,asIntOf,ah,I]
theorem adX{t:TypeId}{s r:List UInt8}{m h:Int}{rs pR:IntKind}(ai:G.op=.slice t x (some S) (some z) none)(aS:P.underlying t=some .string)(F:ad n f x=.string ⟨s.toArray⟩)(aB:ad n f S=.int rs m)(bL:ad n f z=.int pR h)
  (ab:NQ s m h r):(execOp (ad n f) G).run P w=.ok (.value (.string ⟨r.toArray⟩)) w:=by
 obtain⟨ah,I,O,rfl⟩:=ab;have aG:(⟨s.toArray⟩:ByteArray).size=s.length:=rfl;have aR:((h.toNat:Nat):Int)=h:=Int.toNat_of_nonneg (by omega);simp only[execOp,ai,F,aB,bL,Option.map_some,Option.map_none]
 simp only[Instr.sliceAt,Instr.slice,Sem.run_bind,run_underlying aS,Result.andThen_ok,Instr.sliceBounds,bind_pure_comp,Sem.run_map,Sem.run_pure,aG,
  Lw (P:=P) (w:=w) (k:=pR) (i:=h) (S:=s.length) (by omega) (by omega),Lw (P:=P) (w:=w) (k:=rs) (i:=m) (S:=h.toNat) (by omega) (by omega),Option.isSome_none,Bool.false_eq_true,if_false]
 rw[OJ (by omega)]
theorem adW{t:TypeId}{s r:List UInt8}{m:Int}{rs:IntKind}(ai:G.op=.slice t x (some S) none none)(aS:P.underlying t=some .string)(F:ad n f x=.string ⟨s.toArray⟩)(aB:ad n f S=.int rs m)
  (ab:NQ s m s.length r):(execOp (ad n f) G).run P w=.ok (.value (.string ⟨r.toArray⟩)) w:=by
 obtain⟨ah,I,O,rfl⟩:=ab;have aG:(⟨s.toArray⟩:ByteArray).size=s.length:=rfl;simp only[execOp,ai,F,aB,Option.map_some,Option.map_none]
 simp only[Instr.sliceAt,Instr.slice,Sem.run_bind,run_underlying aS,Result.andThen_ok,Instr.sliceBounds,bind_pure_comp,Sem.run_map,Sem.run_pure,aG,
  Lw (P:=P) (w:=w) (k:=rs) (i:=m) (S:=s.length) (by omega) (by omega),Option.isSome_none,Bool.false_eq_true,if_false]
 rw[OJ (by omega)];simp
theorem adV{t:TypeId}{s r:List UInt8}{h:Int}{pR:IntKind}(ai:G.op=.slice t x none (some z) none)(aS:P.underlying t=some .string)(F:ad n f x=.string ⟨s.toArray⟩)(bL:ad n f z=.int pR h)
  (ab:NQ s 0 h r):(execOp (ad n f) G).run P w=.ok (.value (.string ⟨r.toArray⟩)) w:=by
 obtain⟨ah,I,O,rfl⟩:=ab;have aG:(⟨s.toArray⟩:ByteArray).size=s.length:=rfl;simp only[execOp,ai,F,bL,Option.map_some,Option.map_none]
 simp only[Instr.sliceAt,Instr.slice,Sem.run_bind,run_underlying aS,Result.andThen_ok,Instr.sliceBounds,bind_pure_comp,Sem.run_map,Sem.run_pure,aG,
  Lw (P:=P) (w:=w) (k:=pR) (i:=h) (S:=s.length) (by omega) (by omega),Option.isSome_none,Bool.false_eq_true,if_false]
 rw[OJ (by omega)];simp
def qP(arr:Array MapEntry)(c:Nat):Prop:=(∀ x∈arr.toList,x.born<c)∧(arr.toList.map (·.born)).Nodup
theorem akz{arr:Array MapEntry}{c:Nat}{k v:Value}(h:qP arr c):qP (arr.push { key:=k,val:=v,born:=c }) (c+1):=by
 refine⟨fun x F=>?_,?_⟩
 ·simp only[Array.toList_push,List.mem_append,List.mem_singleton] at F;rcases F with F | rfl
  ·have:=h.1 x F; omega
  ·exact Nat.lt_succ_self _
 ·simp only[Array.toList_push,List.map_append,List.map_cons,List.map_nil,List.nodup_append];refine⟨h.2,by simp,fun a Y l ao=>?_⟩;obtain⟨x,F,rfl⟩:=List.mem_map.1 Y;have:=h.1 x F;rw[List.mem_singleton.1 ao]; omega
theorem akA{arr uO:Array MapEntry}{c:Nat}(h:qP arr c)(j:uO.toList.map (·.born)=arr.toList.map (·.born)):qP uO c:=by
 refine⟨fun x F=>?_,by rw[j]; exact h.2⟩;have:x.born∈uO.toList.map (·.born):=List.mem_map.2 ⟨x,F,rfl⟩;rw[j] at this;obtain⟨S,aB,he⟩:=List.mem_map.1 this;rw[← he]; exact h.1 S aB
theorem akB{arr uO:Array MapEntry}{c:Nat}(h:qP arr c)(j:uO.toList.Sublist arr.toList):qP uO c:=
 ⟨fun x F=>h.1 x (j.subset F),h.2.sublist (j.map _)⟩
def NI{Z:Type}(T:bu Z)(k:IntKind)(w:World)(r:Nat)(es:List (Int×Z)):Prop:=
 ∃ arr c,w.heap[r]?=some (.map arr c)∧arr.toList.map (fun j=>(j.key,j.val))=(es.map fun p=>(.int k p.1,T.enc p.2))∧qP arr c
def iq{Z:Type}(T:bu Z)(k:IntKind)(y:Option Nat)(key:Int)(w:World)(u:Option Z):Prop:=match y with
 |none=>u=none
 |some r=>∃ es,NI T k w r es∧u=es.lookup key
def rK(y:Option Nat)(w:World)(m:Nat):Prop:=match y with
 |none=>m=0
 |some r=>∃ arr c,w.heap[r]?=some (.map arr c)∧m=arr.size
def eM{Z:Type}(key:Int)(v:Z):List (Int×Z)→List (Int×Z)
 |[]=>[(key,v)]
 |(a,l)::t=>if key==a then (key,v)::t else (a,l)::eM key v t
def del{Z:Type}(key:Int):List (Int×Z)→List (Int×Z)
 |[]=>[]
 |(a,l)::t=>if key==a then t else (a,l)::del key t
def vE(w:World)(r:Nat)(arr:Array MapEntry)(c:Nat):World:={ w with heap:=w.heap.setIfInBounds r (.map arr c) }
def sB{Z:Type}(T:bu Z)(k:IntKind)(arr:Array MapEntry)(es:List (Int×Z)):Prop:=arr.toList.map (fun j=>(j.key,j.val))=es.map fun p=>(.int k p.1,T.enc p.2)
def uf(w:World)(k:Nat→World→Prop):Prop:=k w.heap.size (w.alloc (.map #[] 0))
def qk{Z:Type}(T:bu Z)(k:IntKind)(y:Option Nat)(key:Int)(v:Z)(w:World)(aa:World→Prop):Prop:=
 ∃ r es,y=some r∧NI T k w r es∧∀ arr c,sB T k arr (eM key v es)→qP arr c→aa (vE w r arr c)
def Hv{Z:Type}(T:bu Z)(k:IntKind)(y:Option Nat)(key:Int)(w:World)(aa:World→Prop):Prop:=match y with
 |none=>aa w
 |some r=>∃ es,NI T k w r es∧∀ arr c,sB T k arr (del key es)→qP arr c→aa (vE w r arr c)
def aCr(y:Option Nat)(w:World)(aa:World→Prop):Prop:=match y with
 |none=>aa w
 |some r=>∃ arr c,w.heap[r]?=some (.map arr c)∧aa (vE w r #[] c)
theorem Y2{Z:Type}{T:bu Z}{k:IntKind}(key:Int):∀ (arr:List MapEntry) (es:List (Int×Z)) (i:Nat),arr.map (fun j=>(j.key,j.val))=es.map (fun p=>(.int k p.1,T.enc p.2)) →
  (es.lookup key=none∧Instr.findNow (.int k) (.int k key) arr i=some none) ∨
  (∃ D v,es.lookup key=some v∧Instr.findNow (.int k) (.int k key) arr i=some (some (i+D,T.enc v))∧es[D]?=some (key,v)∧(∀ m,m<D→(es[m]?.map (·.1))≠some key))
 |[],[],i,_=>.inl ⟨rfl,rfl⟩
 |[],_::_,i,h=>by simp at h
 |_::_,[],i,h=>by simp at h
 |j::arr,(a,l)::es,i,h=>by
  simp only[List.map_cons,List.cons.injEq,Prod.mk.injEq] at h;obtain⟨⟨aq,aK⟩,aS⟩:=h;by_cases hH:key=a
  ·subst hH;right;refine⟨0,l,by simp,?_,rfl,fun m al=>absurd al (Nat.not_lt_zero _)⟩;simp[Instr.findNow,aq,aK,Instr.sameNow]
  ·have dT:(key==a)=false:=by simpa using hH
   rcases Y2 key arr es (i+1) aS with ⟨I,O⟩ | ⟨D,v,I,O,aJ,bl⟩
   ·left;exact⟨by simp[List.lookup,dT,I],by simp only[Instr.findNow,aq,Instr.sameNow,if_true,dT,O]⟩
   ·right;refine⟨D+1,v,by simp[List.lookup,dT,I],by simp only[Instr.findNow,aq,Instr.sameNow,if_true,dT,O]; rw[show i+1+D=i+(D+1) from by omega],by simpa using aJ,?_⟩;intro m al;cases m with
    |zero=>simpa using fun h=>hH h.symm
    |succ m=>simpa using bl m (by omega)
theorem run_checkKey{t:TypeId}{k:IntKind}(aS:P.underlying t=some (.int k))(j:Bool)(y:Nat)(a:Int):(Instr.checkKey j (y+1) t (.int k a)).run P w=.ok () w:=by
 simp[Instr.checkKey,run_underlying aS]
theorem w6{r:Nat}{arr:Array MapEntry}{c:Nat}(h:w.heap[r]?=some (.map arr c)):(getObj r).run P w=.ok (.map arr c) w:=by
 simp[getObj,Sem.run,h]
theorem H4{r:Nat}{arr uO:Array MapEntry}{c Jc:Nat}(h:w.heap[r]?=some (.map arr c)):(setObj r (.map uO Jc)).run P w=.ok () (vE w r uO Jc):=by
 simp[setObj,Sem.run,h,vE]
theorem JB{Z:Type}{T:bu Z}{k:IntKind}{ln:TypeId}{arr:Array MapEntry}{es:List (Int×Z)}(aq:P.underlying ln=some (.int k))(key:Int)(h:sB T k arr es) :
  (es.lookup key=none∧(Instr.findKey ln (.int k key) arr.toList).run P w=.ok none w) ∨
  (∃ D v,es.lookup key=some v∧(Instr.findKey ln (.int k key) arr.toList).run P w=.ok (some (D,T.enc v)) w∧es[D]?=some (key,v)∧(∀ m,m<D→(es[m]?.map (·.1))≠some key)):=by
 rcases Y2 key arr.toList es 0 h with ⟨I,O⟩ | ⟨D,v,I,O,aJ,bl⟩
 ·exact .inl ⟨I,by simp only[Instr.findKey,Sem.run_bind,run_underlying aq,Result.andThen_ok,O,Sem.run_pure]⟩
 ·exact .inr ⟨D,v,I,by simp only[Instr.findKey,Sem.run_bind,run_underlying aq,Result.andThen_ok,O,Sem.run_pure,Nat.zero_add],aJ,bl⟩
theorem adH{Z:Type}{T:bu Z}{y az:Nat}{t ln pE:TypeId}{k:IntKind}{r:Option Nat}{key:Int}{u:Option Z}{z:Z}(ai:G.op=.lookup t x S true)(aS:P.underlying t=some (.map ln pE))(aq:P.underlying ln=some (.int k))
  (bL:∃ i,P.info? pE=some i∧i.zero=some (T.enc z)∧i.size=y∧i.bytes=az) (F:ad n f x=.map r) (aB:ad n f S=.int k key) (ab:iq T k r key w u) :
  (execOp (ad n f) G).run P w=.ok (.value (.tuple #[T.enc (u.getD z),.bool u.isSome])) w:=by
 obtain⟨i,ax,tW,_⟩:=bL;cases r with
 |none=>
  simp only[iq] at ab;subst ab;simp[execOp,ai,F,aB,Instr.lookup,run_underlying aS,run_checkKey aq,Instr.findKey,run_underlying aq,Instr.findNow,zeroValue,typeInfo,ax,tW]
 |some r=>
  obtain⟨es,⟨arr,c,ao,nX,BA⟩,rfl⟩:=ab;rcases JB (P:=P) (w:=w) aq key nX with ⟨I,O⟩ | ⟨D,v,I,O,_⟩
  ·simp[execOp,ai,F,aB,Instr.lookup,run_underlying aS,w6 ao,run_checkKey aq,I,O,zeroValue,typeInfo,ax,tW]
  ·simp[execOp,ai,F,aB,Instr.lookup,run_underlying aS,w6 ao,run_checkKey aq,I,O]
theorem adG{Z:Type}{T:bu Z}{y az:Nat}{t ln pE:TypeId}{k:IntKind}{r:Option Nat}{key:Int}{u:Option Z}{z:Z}(ai:G.op=.lookup t x S false)(aS:P.underlying t=some (.map ln pE))(aq:P.underlying ln=some (.int k))
  (bL:∃ i,P.info? pE=some i∧i.zero=some (T.enc z)∧i.size=y∧i.bytes=az) (F:ad n f x=.map r) (aB:ad n f S=.int k key) (ab:iq T k r key w u) :
  (execOp (ad n f) G).run P w=.ok (.value (T.enc (u.getD z))) w:=by
 obtain⟨i,ax,tW,_⟩:=bL;cases r with
 |none=>
  simp only[iq] at ab;subst ab;simp[execOp,ai,F,aB,Instr.lookup,run_underlying aS,run_checkKey aq,Instr.findKey,run_underlying aq,Instr.findNow,zeroValue,typeInfo,ax,tW]
 |some r=>
  obtain⟨es,⟨arr,c,ao,nX,BA⟩,rfl⟩:=ab;rcases JB (P:=P) (w:=w) aq key nX with ⟨I,O⟩ | ⟨D,v,I,O,_⟩
  ·simp[execOp,ai,F,aB,Instr.lookup,run_underlying aS,w6 ao,run_checkKey aq,I,O,zeroValue,typeInfo,ax,tW]
  ·simp[execOp,ai,F,aB,Instr.lookup,run_underlying aS,w6 ao,run_checkKey aq,I,O]
theorem adE{t ln pE:TypeId}{r:Option Nat}{m:Nat}(ai:G.op=.call { callee:=.builtin .len,args:=#[x],argTypes:=#[t] })(aS:P.underlying t=some (.map ln pE))(F:ad n f x=.map r)(ab:rK r w m) :
  (execOp (ad n f) G).run P w=.ok (.value (.int .i64 m)) w:=by
 cases r with
 |none=>simp only[rK] at ab; subst ab; simp[execOp,ai,F,resolve,invoke,builtin,Builtin.len_,run_underlying aS,goInt]
 |some r=>
  obtain⟨arr,c,ao,rfl⟩:=ab;simp[execOp,ai,F,resolve,invoke,builtin,Builtin.len_,run_underlying aS,goInt,w6 ao]
theorem KR{w:World}{k:Nat→World→Prop}(h:uf w k):∃ r J,r=w.heap.size∧J=w.alloc (.map #[] 0)∧k r J:=⟨_,_,rfl,rfl,h⟩
theorem Lb{t:TypeId}{r:Nat}(ai:G.op=.makeMap t none)(ab:r=w.heap.size)(hw:J=w.alloc (.map #[] 0)):(execOp (ad n f) G).run P w=.ok (.value (.map (some r))) J:=by
 subst ab; subst hw; simp[execOp,ai,Instr.makeMap]
theorem afj{Z:Type}(key:Int)(v:Z):∀ (es:List (Int×Z)) (D:Nat) (u:Z),es[D]?=some (key,u)→(∀ m,m<D→(es[m]?.map (·.1))≠some key)→eM key v es=es.set D (key,v)
 |[],D,u,h,_=>by simp at h
 |(a,l)::es,0,u,h,_=>by simp at h; simp[eM,h.1]
 |(a,l)::es,D+1,u,h,al=>by
  have ah:=al 0 (by omega);have dT:(key==a)=false:=by simp at ah; simpa using fun j=>ah j.symm
  simp only[eM,dT,Bool.false_eq_true,if_false,List.set_cons_succ];rw[afj key v es D u (by simpa using h) fun m GR=>by simpa using al (m+1) (by omega)]
theorem SM{Z:Type}(key:Int)(v:Z):∀ (es:List (Int×Z)),es.lookup key=none→eM key v es=es++[(key,v)]
 |[],_=>rfl
 |(a,l)::es,h=>by
  by_cases j:(key==a)=true
  ·simp[List.lookup,j] at h
  ·simp only[List.lookup,j] at h;simp[eM,j,SM key v es h]
theorem Ye{Z:Type}(key:Int):∀ (es:List (Int×Z)) (D:Nat) (u:Z),es[D]?=some (key,u)→(∀ m,m<D→(es[m]?.map (·.1))≠some key)→del key es=es.eraseIdx D
 |[],D,u,h,_=>by simp at h
 |(a,l)::es,0,u,h,_=>by simp at h; simp[del,h.1]
 |(a,l)::es,D+1,u,h,al=>by
  have ah:=al 0 (by omega);have dT:(key==a)=false:=by simp at ah; simpa using fun j=>ah j.symm
  simp only[del,dT,Bool.false_eq_true,if_false,List.eraseIdx_cons_succ];rw[Ye key es D u (by simpa using h) fun m GR=>by simpa using al (m+1) (by omega)]
theorem Yf{Z:Type}(key:Int):∀ (es:List (Int×Z)),es.lookup key=none→del key es=es
 |[],_=>rfl
 |(a,l)::es,h=>by
  by_cases j:(key==a)=true
  ·simp[List.lookup,j] at h
  ·simp only[List.lookup,j] at h;simp[del,j,Yf key es h]
theorem E1{Z:Type}{T:bu Z}{t ln pE:TypeId}{k:IntKind}{r:Option Nat}{key:Int}{v:Z}{next:Act→World→Prop}{aa:World→Prop}{d:Option Nat}(ag:G.dst=d)(ai:G.op=.mapUpdate t x S z∨G.op=.insert t x S z)(aS:P.underlying t=some (.map ln pE))
  (aq:P.underlying ln=some (.int k)) (F:ad n f x=.map r) (aB:ad n f S=.int k key) (bL:ad n f z=T.enc v) (h:qk T k r key v w aa) (ca:∀ J,aa J→next (act n (hi f d undef) aF) J) :
  mS P G (act n f aF) w next Q:=by
 rw[nP];subst ag;obtain⟨l,es,rfl,⟨arr,c,ao,nX,BA⟩,h⟩:=h;have gL:∀ J,(Instr.mapUpdate t (.map (some l)) (.int k key) (T.enc v)).run P w=.ok () J→(execOp (ad n f) G).run P w=.ok .skip J:=by
  intro J hw;rcases ai with ai | ai<;>simp only[execOp,ai,F,aB,bL,Sem.run_bind,hw,Result.andThen_ok,Sem.run_pure]
 rcases JB (P:=P) (w:=w) aq key nX with ⟨I,O⟩ | ⟨D,u,I,O,aJ,bl⟩
 ·have jf:(Instr.mapUpdate t (.map (some l)) (.int k key) (T.enc v)).run P w=.ok () (vE w l (arr.push { key:=.int k key,val:=T.enc v,born:=c }) (c+1)):=by
   simp only[Instr.mapUpdate,Sem.run_bind,run_underlying aS,Result.andThen_ok,w6 ao,run_checkKey aq,O,H4 ao]
  simp only[Oper.wp,hR,gL _ jf,Oper.upon_skip,ig];refine ca _ (h _ _ ?_ (akz BA));simp only[sB] at nX ⊢;rw[SM key v es I];simp[nX]
 ·have aqd:∃ j,arr[D]?=some j∧j.key=.int k key:=by
   have:=congrArg (·[D]?) nX;simp only[List.getElem?_map,aJ,Option.map_some] at this;cases Y:arr[D]? with
   |none=>simp[Y] at this
   |some j=>simp[Y] at this; exact⟨j,rfl,this.1⟩
  obtain⟨j,he,JS⟩:=aqd;have aq3:(Instr.keyThatStays (((arr[D]?).map (·.key)).getD (.int k key)) (.int k key)).run P w=.ok (.int k key) w:=by
   simp[he,JS,Instr.keyThatStays,Instr.sameBits]
  have jf:(Instr.mapUpdate t (.map (some l)) (.int k key) (T.enc v)).run P w=.ok () (vE w l (arr.modify D fun j=>{ j with key:=.int k key,val:=T.enc v }) c):=by
   simp only[Instr.mapUpdate,Sem.run_bind,run_underlying aS,Result.andThen_ok,w6 ao,run_checkKey aq,O,aq3,H4 ao]
  simp only[Oper.wp,hR,gL _ jf,Oper.upon_skip,ig];have ao0:(arr.modify D fun j=>{ j with key:=.int k key,val:=T.enc v }).toList.map (·.born)=arr.toList.map (·.born):=by
   apply List.ext_getElem?;intro m;simp only[List.getElem?_map,Array.getElem?_toList,Array.getElem?_modify];by_cases aR:D=m
   ·subst aR; cases arr[D]?<;>simp
   ·simp[aR]
  refine ca _ (h _ _ ?_ (akA BA ao0));simp only[sB] at nX ⊢;rw[afj key v es D u aJ bl];apply List.ext_getElem?;intro m;have al:=congrArg (·[m]?) nX;simp only[List.getElem?_map,Array.getElem?_toList] at al;simp only[List.getElem?_map,Array.getElem?_toList,Array.getElem?_modify,List.getElem?_set];by_cases aR:D=m
  ·subst aR;have dC:D<es.length:=(List.getElem?_eq_some_iff.1 aJ).1;simp[he,dC]
  ·simp[aR,al]
theorem map_eraseIdx{Z ey:Type}(g:Z→ey):∀ (m:List Z) (i:Nat),(m.eraseIdx i).map g=(m.map g).eraseIdx i
 |[],_=>rfl
 |_::_,0=>rfl
 |a::m,i+1=>by simp[map_eraseIdx g m i]
theorem Tc{Z:Type}{T:bu Z}{t ln pE hq:TypeId}{k:IntKind}{r:Option Nat}{key:Int}{next:Act→World→Prop}{aa:World→Prop}{d:Option Nat}(ag:G.dst=d)(ai:G.op=.call { callee:=.builtin .delete,args:=#[x,S],argTypes:=#[t,hq] })(aS:P.underlying t=some (.map ln pE))
  (aq:P.underlying ln=some (.int k)) (F:ad n f x=.map r) (aB:ad n f S=.int k key) (h:Hv T k r key w aa) (ca:∀ J,aa J→next (act n (hi f d (.tuple #[])) aF) J) :
  mS P G (act n f aF) w next Q:=by
 rw[nP];subst ag;have gL:∀ J,(Builtin.delete_ #[t,hq] G.type #[.map r,.int k key]).run P w=.ok (.tuple #[]) J→(execOp (ad n f) G).run P w=.ok (.value (.tuple #[])) J:=by
  intro J hw;simp only[execOp,ai,resolve,invoke,builtin,List.map_toArray,List.map_cons,List.map_nil,F,aB,pure_bind,Sem.run_bind,hw,Result.andThen_ok,Sem.run_pure]
 cases r with
 |none=>
  have jf:(Builtin.delete_ #[t,hq] G.type #[.map none,.int k key]).run P w=.ok (.tuple #[]) w:=by
   simp[Builtin.delete_,run_underlying aS,run_checkKey aq]
  simp only[Oper.wp,hR,gL _ jf,Oper.upon_value,ig];exact ca _ h
 |some l=>
  obtain⟨es,⟨arr,c,ao,nX,BA⟩,h⟩:=h;rcases JB (P:=P) (w:=w) aq key nX with ⟨I,O⟩ | ⟨D,u,I,O,aJ,bl⟩
  ·have jf:(Builtin.delete_ #[t,hq] G.type #[.map (some l),.int k key]).run P w=.ok (.tuple #[]) (vE w l arr c):=by
    simp[Builtin.delete_,run_underlying aS,w6 ao,run_checkKey aq,O,H4 ao]
   simp only[Oper.wp,hR,gL _ jf,Oper.upon_value,ig];refine ca _ (h _ _ ?_ BA);rw[Yf key es I]; exact nX
  ·have jf:(Builtin.delete_ #[t,hq] G.type #[.map (some l),.int k key]).run P w=.ok (.tuple #[]) (vE w l (arr.eraseIdxIfInBounds D) c):=by
    simp[Builtin.delete_,run_underlying aS,w6 ao,run_checkKey aq,O,H4 ao]
   simp only[Oper.wp,hR,gL _ jf,Oper.upon_value,ig];have BN:(arr.eraseIdxIfInBounds D).toList.Sublist arr.toList:=by
    unfold Array.eraseIdxIfInBounds;split
    ·rw[Array.toList_eraseIdx]; exact List.eraseIdx_sublist _ _
    ·exact List.Sublist.refl _
   refine ca _ (h _ _ ?_ (akB BA BN));rw[Ye key es D u aJ bl];simp only[sB] at nX ⊢;have bR:D<arr.size:=by
    have dC:D<es.length:=(List.getElem?_eq_some_iff.1 aJ).1;have:=congrArg List.length nX;simp at this; omega
   simp only[Array.eraseIdxIfInBounds,bR,dif_pos,Array.toList_eraseIdx];rw[map_eraseIdx,nX,map_eraseIdx]
def wm{Z:Type}(T:bu Z)(ar:Nat)(z:Z)(s:af)(w:World)(aa:World→Prop):Prop:=match s.a with
 |none=>aa w
 |some a=>wa w a (s.len*ar)∧aa (oD w a 0 ((List.replicate s.len z).flatMap T.cells))
theorem aed{Z:Type}{T:bu Z}{ar:Nat}{z:Z}(al:(T.cells z).length=ar)(y:Nat):((List.replicate y z).flatMap T.cells).length=y*ar:=by
 induction y with
 |zero=>simp
 |succ y ck=>rw[List.replicate_succ,List.flatMap_cons,List.length_append,ck,al,Nat.add_mul]; omega
theorem afT{Z:Type}{T:bu Z}{ar:Nat}{z:Z}(am:(T.enc z).cells=(T.cells z).toArray)(al:(T.cells z).length=ar):∀ y:Nat,(Builtin.zeroCells (T.enc z).cells y).toList=(List.replicate y z).flatMap T.cells:=by
 intro y;rw[am];apply List.ext_getElem?;intro D;simp only[Builtin.zeroCells,List.size_toArray,al,Array.toList_map,Array.toList_range,List.getElem?_map];by_cases bR:D<y*ar
 ·have ny:0<ar:=by
   rcases Nat.eq_zero_or_pos ar with h | h
   ·rw[h] at bR; omega
   ·exact h
  have Z3:D%ar<ar:=Nat.mod_lt _ ny;rw[List.getElem?_range (by simpa using bR)];simp only[Option.map_some];have:∀ (y D:Nat),D<y*ar→((List.replicate y z).flatMap T.cells)[D]?=(T.cells z)[D%ar]?:=by
   intro y;induction y with
   |zero=>intro D bR; simp at bR
   |succ y ck=>
    intro D bR;rw[List.replicate_succ,List.flatMap_cons];by_cases dC:D<ar
    ·rw[List.getElem?_append_left (by omega),Nat.mod_eq_of_lt dC]
    ·rw[List.getElem?_append_right (by omega),al,ck (D-ar) (by rw[Nat.add_mul] at bR; omega)];congr 1;exact (Nat.mod_eq_sub_mod (by omega)).symm
  rw[this y D bR];rw[List.getElem?_eq_getElem (by omega)];simp only[Option.some.injEq];have dC:D%ar<(T.cells z).toArray.size:=by simp; omega
  rw[getElem!_pos (T.cells z).toArray (D%ar) dC]; simp
 ·rw[List.getElem?_eq_none (by simpa using bR),List.getElem?_eq_none (by rw[aed al]; omega)];rfl
theorem S8{Z:Type}{T:bu Z}{ar az:Nat}{t j:TypeId}{s:af}{z:Z}{next:Act→World→Prop}{aa:World→Prop}{d:Option Nat}(ag:G.dst=d)(ai:G.op=.call { callee:=.builtin .clear,args:=#[x],argTypes:=#[t] })(aS:P.underlying t=some (.slice j))(ok:cw P j T ar)
  (bL:∃ i,P.info? j=some i∧i.zero=some (T.enc z)∧i.size=ar∧i.bytes=az) (F:ad n f x=X.enc s) (h:wm T ar z s w aa) (ca:∀ J,aa J→next (act n (hi f d (.tuple #[])) aF) J):mS P G (act n f aF) w next Q:=by
 rw[nP];subst ag;obtain⟨i,ax,tW,aG,_⟩:=bL;obtain⟨a,len,cap⟩:=s;have gL:∀ J,(Builtin.clear_ #[t] G.type #[.slice a len cap]).run P w=.ok (.tuple #[]) J→(execOp (ad n f) G).run P w=.ok (.value (.tuple #[])) J:=by
  intro J hw;simp only[execOp,ai,resolve,invoke,builtin,List.map_toArray,List.map_cons,List.map_nil,F,pure_bind,Sem.run_bind,hw,Result.andThen_ok,Sem.run_pure]
 have PF:∀ v∈(List.replicate len z).flatMap T.cells,v.oneCell'=true:=fun v aK=>by
  obtain⟨S,_,aB⟩:=List.mem_flatMap.1 aK; exact ok.one S v aB
 cases a with
 |none=>
  have jf:(Builtin.clear_ #[t] G.type #[.slice none len cap]).run P w=.ok (.tuple #[]) w:=by
   simp[Builtin.clear_,run_underlying aS]
  simp only[Oper.wp,hR,gL _ jf,Oper.upon_value,ig];exact ca _ h
 |some a=>
  simp only[wm] at h;have jf:(Builtin.clear_ #[t] G.type #[.slice (some a) len cap]).run P w=.ok (.tuple #[]) (oD w a 0 ((List.replicate len z).flatMap T.cells)):=by
   cases len with
   |zero=>simp[Builtin.clear_,run_underlying aS,oD]
   |succ len=>
    have O:=EM (P:=P) a ((List.replicate (len+1) z).flatMap T.cells) 0 w (by
     intro D bR;rw[Nat.zero_add];refine h.1 D ?_;rw[aed (ok.len z)] at bR
     exact bR) PF
    have BS:=afT (T:=T) (ok.flat z) (ok.len z) (len+1);simp only[Builtin.clear_];simp[run_underlying aS,zeroValue,typeInfo,ax,tW,BS,O]
  simp only[Oper.wp,hR,gL _ jf,Oper.upon_value,ig];exact ca _ h.2
theorem Jb{w:World}{G u:Obj}{r:Nat}(h:w.heap[r]?=some u):(w.alloc G).heap[r]?=some u:=by
 have dC:r<w.heap.size:=(Array.getElem?_eq_some_iff.1 h).1;simp only[World.alloc,Array.getElem?_push];rw[if_neg (by omega)]; exact h
theorem aBt{Z:Type}{T:bu Z}{k:IntKind}{y:Option Nat}{key:Int}{u:Option Z}{w J:World}{G:Obj}(hw:J=w.alloc G)(h:iq T k y key w u):iq T k y key J u:=by
 subst hw;cases y with
 |none=>exact h
 |some r=>obtain⟨es,⟨arr,c,ao,ab⟩,hu⟩:=h; exact⟨es,⟨arr,c,Jb ao,ab⟩,hu⟩
theorem aBu{y:Option Nat}{m:Nat}{w J:World}{G:Obj}(hw:J=w.alloc G)(h:rK y w m):rK y J m:=by
 subst hw;cases y with
 |none=>exact h
 |some r=>obtain⟨arr,c,ao,al⟩:=h; exact⟨arr,c,Jb ao,al⟩
end
end bf
namespace bf
open Go.ChangeMaps
section
variable {P:Program} {Q:Exit→Act→World→Prop} {n:Nat} {f:Nat→Value} {aF:List Deferred} {w J:World} {ops:Array Oper} {i:Nat} {rest:List Nat} {G:Oper} {x S z:Operand}
def H0(y:Option Nat)(w:World)(k:Addr→World→Prop):Prop:=match y with
 |none=>k ⟨w.heap.size,0,none⟩ (w.alloc (.mapIter none 0 #[] 0))
 |some l=>∃ arr c,w.heap[l]?=some (.map arr c)∧k ⟨w.heap.size,0,none⟩ (w.alloc (.mapIter (some l) c #[] c))
theorem Tg{t ln pE:TypeId}{r:Option Nat}{next:Act→World→Prop}{aa:Addr→World→Prop}{d:Option Nat}(ag:G.dst=d)(ai:G.op=.range t x)(aS:P.underlying t=some (.map ln pE))(F:ad n f x=.map r)
  (h:H0 r w aa) (ca:∀ a J,aa a J→next (act n (hi f d (.pointer (some a))) aF) J):mS P G (act n f aF) w next Q:=by
 rw[nP];subst ag;cases r with
 |none=>
  have jf:=run_range_nilMap (P:=P) w t ln pE aS;have gL:(execOp (ad n f) G).run P w=.ok (.value (.pointer (some ⟨w.heap.size,0,none⟩))) (w.alloc (.mapIter none 0 #[] 0)):=by simp[execOp,ai,F,jf]
  simp only[Oper.wp,hR,gL,Oper.upon_value,ig];exact ca _ _ h
 |some l=>
  obtain⟨arr,c,ao,h⟩:=h;have jf:=run_range_map (P:=P) w t ln pE l arr c aS ao;have gL:(execOp (ad n f) G).run P w=.ok (.value (.pointer (some ⟨w.heap.size,0,none⟩))) (w.alloc (.mapIter (some l) c #[] c)):=by simp[execOp,ai,F,jf]
  simp only[Oper.wp,hR,gL,Oper.upon_value,ig];exact ca _ _ h
theorem Tb{t ln pE:TypeId}{r:Option Nat}{next:Act→World→Prop}{aa:World→Prop}{d:Option Nat}(ag:G.dst=d)(ai:G.op=.call { callee:=.builtin .clear,args:=#[x],argTypes:=#[t] })(aS:P.underlying t=some (.map ln pE))(F:ad n f x=.map r)
  (h:aCr r w aa) (ca:∀ J,aa J→next (act n (hi f d (.tuple #[])) aF) J):mS P G (act n f aF) w next Q:=by
 rw[nP];subst ag;have gL:∀ J,(Builtin.clear_ #[t] G.type #[.map r]).run P w=.ok (.tuple #[]) J→(execOp (ad n f) G).run P w=.ok (.value (.tuple #[])) J:=by
  intro J hw;simp only[execOp,ai,resolve,invoke,builtin,List.map_toArray,List.map_cons,List.map_nil,F,pure_bind,Sem.run_bind,hw,Result.andThen_ok,Sem.run_pure]
 cases r with
 |none=>
  have jf:(Builtin.clear_ #[t] G.type #[.map none]).run P w=.ok (.tuple #[]) w:=by simp[Builtin.clear_,run_underlying aS]
  simp only[Oper.wp,hR,gL _ jf,Oper.upon_value,ig];exact ca _ h
 |some l=>
  obtain⟨arr,c,ao,h⟩:=h;have jf:(Builtin.clear_ #[t] G.type #[.map (some l)]).run P w=.ok (.tuple #[]) (vE w l #[] c):=by
   simp[Builtin.clear_,run_underlying aS,w6 ao,H4 ao]
  simp only[Oper.wp,hR,gL _ jf,Oper.upon_value,ig];exact ca _ h
def Q9:Option (Value×Value)→Value
 |none=>.tuple #[.bool false]
 |some p=>.tuple #[.bool true,p.1,p.2]
def k4(a:Addr)(w:World)(k:Option (Value×Value)→World→Prop):Prop:=
 ∃ r eQ h2 seen b7 es clock,a=⟨r,0,none⟩∧w.heap[r]?=some (.mapIter (some eQ) h2 seen b7)∧w.heap[eQ]?=some (.map es clock)∧(∀ j∈es.toList,j.born<h2)∧h2≤b7 ∧
  ((leftOf es seen).size=0→k none w)∧∀ j∈(leftOf es seen).toList,∀ dF,dF=w∨dF=w.drew→k (some (j.key,j.val)) (setBlock dF r (.mapIter (some eQ) h2 (seen.push j.born) clock))
theorem Tf{a:Addr}{next:Act→World→Prop}{aa:Option (Value×Value)→World→Prop}{d:Option Nat}(ag:G.dst=d)(ai:G.op=.next x false)(F:ad n f x=.pointer (some a))
  (h:k4 a w aa) (ca:∀ q J,aa q J→next (act n (hi f d (Q9 q)) aF) J):mS P G (act n f aF) w next Q:=by
 rw[nP];subst ag;obtain⟨r,eQ,h2,seen,b7,es,clock,rfl,ab,ao,hold,aqX,ah,I⟩:=h;rcases run_next_at (P:=P) w G.type r eQ h2 b7 seen es clock ab ao hold aqX with ⟨bL,jf⟩ | ⟨j,he,dF,G8,jf⟩
 ·have gL:(execOp (ad n f) G).run P w=.ok (.value (.tuple #[.bool false])) w:=by simp[execOp,ai,F,jf]
  simp only[Oper.wp,hR,gL,Oper.upon_value,ig];exact ca none _ (ah bL)
 ·have gL:(execOp (ad n f) G).run P w=.ok (.value (.tuple #[.bool true,j.key,j.val])) (setBlock dF r (.mapIter (some eQ) h2 (seen.push j.born) clock)):=by simp[execOp,ai,F,jf]
  simp only[Oper.wp,hR,gL,Oper.upon_value,ig];exact ca (some (j.key,j.val)) _ (I j he dF G8)
theorem adv{q:Option (Value×Value)}(ai:G.op=.extract x 0)(F:ad n f x=Q9 q):(execOp (ad n f) G).run P w=.ok (.value (.bool q.isSome)) w:=by
 cases q<;>simp[execOp,ai,F,Instr.extract,Q9]
def kk{Z:Type}(T:bu Z)(k:IntKind)(a:Addr)(w:World)(p:Int×Z):Prop:=
 ∃ r eQ h2 seen es clock j,a=⟨r,0,none⟩∧w.heap[r]?=some (.mapIter (some eQ) h2 (Array.push seen (MapEntry.born j)) clock)∧w.heap[eQ]?=some (.map es clock)∧j∈es.toList∧(es.toList.map (·.born)).Nodup∧j.key=.int k p.1∧j.val=T.enc p.2
theorem adq{Z:Type}{T:bu Z}{k:IntKind}{a:Addr}{p:Int×Z}(ai:G.op=.entry x)(F:ad n f x=.pointer (some a))(h:kk T k a w p):(execOp (ad n f) G).run P w=.ok (.value (.tuple #[.int k p.1,T.enc p.2])) w:=by
 obtain⟨r,eQ,h2,seen,es,clock,j,rfl,ab,ao,he,aL,I,O⟩:=h;have jf:=run_entry_at (P:=P) w r eQ h2 seen es clock j ab ao he aL;simp[execOp,ai,F,jf,I,O]
theorem aBs{Z:Type}{T:bu Z}{k:IntKind}{a:Addr}{p:Int×Z}{w J:World}{G:Obj}(hw:J=w.alloc G)(h:kk T k a w p):kk T k a J p:=by
 subst hw;obtain⟨r,eQ,h2,seen,es,clock,j,rfl,ab,ao,h⟩:=h;exact⟨r,eQ,h2,seen,es,clock,j,rfl,Jb ab,Jb ao,h⟩
end
section
variable {P:Program} {Q:Exit→Act→World→Prop} {n:Nat} {f:Nat→Value} {aF:List Deferred} {w J:World} {ops:Array Oper} {i:Nat} {rest:List Nat} {G:Oper} {x S z:Operand}
theorem Lc{a l:Int}{k:IntKind}{Ga:Array TypeId}(ai:G.op=.call { callee:=.builtin .max,args:=#[x,S],argTypes:=Ga })(F:ad n f x=.int k a)(aB:ad n f S=.int k l) :
  (execOp (ad n f) G).run P w=.ok (.value (.int k (max a l))) w:=by
 have h:=run_max_int2 (P:=P) (w:=w) Ga G.type k k a l;have j:(if l>a then l else a)=max a l:=by omega
 rw[j] at h;simp only[execOp,ai,resolve,invoke,builtin,List.map_toArray,List.map_cons,List.map_nil,F,aB,pure_bind,Sem.run_bind,h,Result.andThen_ok,Sem.run_pure]
theorem adI{a l:Int}{k:IntKind}{Ga:Array TypeId}(ai:G.op=.call { callee:=.builtin .min,args:=#[x,S],argTypes:=Ga })(F:ad n f x=.int k a)(aB:ad n f S=.int k l) :
  (execOp (ad n f) G).run P w=.ok (.value (.int k (min a l))) w:=by
 have h:=run_min_int2 (P:=P) (w:=w) Ga G.type k k a l;have j:(if l<a then l else a)=min a l:=by omega
 rw[j] at h;simp only[execOp,ai,resolve,invoke,builtin,List.map_toArray,List.map_cons,List.map_nil,F,aB,pure_bind,Sem.run_bind,h,Result.andThen_ok,Sem.run_pure]
theorem adz{t:TypeId}{is:Array Field}{fd:Field}{k off:Nat}{d:TypeDesc}{c:List Value}{v:Value}(ai:G.op=.field t x k)(aS:P.underlying t=some (.struct is))(am:is[k]?=some fd)
  (zV:fd.offset=off) (ag:P.underlying fd.type=some d) (Y:wh d=false) (F:ad n f x=.agg c.toArray) (aK:c[off]?=some v):(execOp (ad n f) G).run P w=.ok (.value v) w:=by
 subst zV;have h:=ji (P:=P) (w:=w) (t:=fd.type) (ba:=c.toArray) (off:=fd.offset) ag Y (by simpa using aK);simp[execOp,ai,F,Instr.field,run_underlying aS,am,asAgg,h]
theorem adA{t:TypeId}{is:Array Field}{fd:Field}{k off y az:Nat}{d:TypeDesc}{c:List Value}{v og:Value}(ai:G.op=.field t x k)(aS:P.underlying t=some (.struct is))(am:is[k]?=some fd)
  (zV:fd.offset=off) (ag:P.underlying fd.type=some d) (Y:wh d=true) (F:ad n f x=.agg c.toArray) (bL:∃ i,P.info? fd.type=some i∧i.zero=some og∧i.size=y∧i.bytes=az) (aK:Value.agg ((c.drop off).take y).toArray=v):(execOp (ad n f) G).run P w=.ok (.value v) w:=by
 subst zV;subst aK;obtain⟨i,ax,_,aG,_⟩:=bL;have h:=H3 (P:=P) (w:=w) (t:=fd.type) (ba:=c.toArray) (off:=fd.offset) (y:=y) (aF:=((c.drop fd.offset).take y).toArray) ag Y ⟨i,ax,aG⟩ (by simp[List.extract_eq_take_drop]);simp[execOp,ai,F,Instr.field,run_underlying aS,am,asAgg,h]
theorem adD{t j:TypeId}{Z:Type}{T:bu Z}{b:Nat}{v:Vector Z b}{k:IntKind}{i:Int}{u:Z}{d:TypeDesc}(ai:G.op=.index t x S)(aS:P.underlying t=some (.array b j))(ok:cw P j T 1)
  (ag:P.underlying j=some d) (Y:wh d=false) (U:∀ x,T.cells x=[T.enc x]) (F:ad n f x=(qE T b).enc v) (aB:ad n f S=.int k i) (ax:WT v i u):(execOp (ad n f) G).run P w=.ok (.value (T.enc u)) w:=by
 obtain⟨ah,hu⟩:=ax;have al:i.toNat<b:=by
  have:=(List.getElem?_eq_some_iff.1 hu).1;simpa using this
 have hm:∀ m:List Z,m.flatMap T.cells=m.map T.enc:=by
  intro m;induction m with
  |nil=>rfl
  |cons a m ck=>rw[List.flatMap_cons,U,ck]; rfl
 have r2:ad n f x=.agg (v.toList.map T.enc).toArray:=by rw[F,← hm]
 obtain⟨D,bR,aG⟩:=ok.size;have R:(v.toList.map T.enc)[i.toNat]?=some (T.enc u):=by rw[List.getElem?_map,hu]; rfl
 have h:=ji (P:=P) (w:=w) (t:=j) (ba:=(v.toList.map T.enc).toArray) (off:=i.toNat) ag Y (by simpa using R);have dC:i<(b:Int):=by omega
 simp[execOp,ai,r2,aB,Instr.index,asIntOf,run_underlying aS,ah,dC,run_sizeOf bR,aG,h]
def yI{Z:Type}(t:TypeId)(T:bu Z)(az:Nat)(z:Z)(m c:Int)(w:World)(aa:af→World→Prop):Prop:=
 0≤m∧m≤c∧(az:Int)*c≤281474976710656∧c≤9223372036854775807∧aa ⟨some ⟨w.heap.size,0,none⟩,m.toNat,c.toNat⟩ (w.alloc (.cells ((List.replicate c.toNat z).flatMap T.cells).toArray t))
theorem Td{Z:Type}{T:bu Z}{ar az:Nat}{t j:TypeId}{z:Z}{m c:Int}{next:Act→World→Prop}{aa:af→World→Prop}{d:Option Nat}(ag:G.dst=d)(ai:G.op=.makeSlice t x S)(aS:P.underlying t=some (.slice j))(ok:cw P j T ar)
  (bL:∃ i,P.info? j=some i∧i.zero=some (T.enc z)∧i.size=ar∧i.bytes=az) (F:ad n f x=.int .i64 m) (aB:ad n f S=.int .i64 c) (h:yI j T az z m c w aa) (ca:∀ r J,aa r J→next (act n (hi f d (X.enc r)) aF) J):mS P G (act n f aF) w next Q:=by
 rw[nP];subst ag;obtain⟨i,ax,tW,aG,rfl⟩:=bL;obtain⟨ah,I,O,aJ,h⟩:=h;have jf:=run_make (P:=P) w t j i (T.enc z) aS ax tW .i64 .i64 m c ah I O aJ;have ao4:madeCells (T.enc z).cells (c.toNat*i.size)=((List.replicate c.toNat z).flatMap T.cells).toArray:=by
  have BS:=afT (T:=T) (ok.flat z) (ok.len z) c.toNat;have aR:(T.enc z).cells.size=i.size:=by rw[ok.flat z,aG]; simpa using ok.len z
  have a9:madeCells (T.enc z).cells (c.toNat*i.size)=Builtin.zeroCells (T.enc z).cells c.toNat:=by
   unfold madeCells Builtin.zeroCells; rw[aR]
  rw[a9,← BS]
 rw[ao4] at jf;have gL:(execOp (ad n f) G).run P w=.ok (.value (X.enc ⟨some ⟨w.heap.size,0,none⟩,m.toNat,c.toNat⟩)) (w.alloc (.cells ((List.replicate c.toNat z).flatMap T.cells).toArray j)):=by
  simp[execOp,ai,F,aB,jf]
 simp only[Oper.wp,hR,gL,Oper.upon_value,ig];exact ca _ _ h
def Dy{Z:Type}(T:bu Z)(ar:Nat)(s l:af)(w:World)(aa:Nat→World→Prop):Prop:=
 ∃ new:List Z,new.length=min l.len s.len∧k_ T w ⟨l.a,new.length,l.cap⟩ new∧match s.a with
  |none=>aa new.length w
  |some a=>wa w a (new.length*ar)∧aa new.length (oD w a 0 (new.flatMap T.cells))
theorem Ta{Z:Type}{T:bu Z}{ar:Nat}{t u j:TypeId}{s l:af}{next:Act→World→Prop}{aa:Nat→World→Prop}{d:Option Nat}(ag:G.dst=d)(ai:G.op=.call { callee:=.builtin .copy,args:=#[x,S],argTypes:=#[t,u] })(aS:P.underlying t=some (.slice j))(ok:cw P j T ar)
  (F:ad n f x=X.enc s) (aB:ad n f S=X.enc l) (h:Dy T ar s l w aa) (ca:∀ r J,aa r J→next (act n (hi f d (.int .i64 r)) aF) J):mS P G (act n f aF) w next Q:=by
 rw[nP];subst ag;obtain⟨new,aL,qf,h⟩:=h;obtain⟨i,ax,ny⟩:=ok.size;have BG:=Aq (P:=P) ok.len qf;have BG:Sem.run P (Builtin.firstCells ar new.length (Value.slice l.a l.len l.cap)) w=.ok (new.flatMap T.cells).toArray w:=by
  cases ao:l.a with
  |none=>rw[ao] at BG; simpa[Builtin.firstCells] using BG
  |some a=>rw[ao] at BG; exact BG
 have BJ:Nat.min l.len s.len=new.length:=aL.symm;have gL:∀ (v:Value) (J:World),(Builtin.copy_ #[t,u] G.type #[X.enc s,X.enc l]).run P w=.ok v J→(execOp (ad n f) G).run P w=.ok (.value v) J:=by
  intro v J aK;simp only[execOp,ai,resolve,invoke,builtin];simp only[List.map_toArray,List.map_cons,List.map_nil,F,aB,pure_bind,Sem.run_bind,aK,Result.andThen_ok,Sem.run_pure]
 cases Y:s.a with
 |none=>
  rw[Y] at h;have jf:(Builtin.copy_ #[t,u] G.type #[X.enc s,X.enc l]).run P w=.ok (.int .i64 new.length) w:=by
   show (Builtin.copy_ #[t,u] G.type #[.slice s.a s.len s.cap,.slice l.a l.len l.cap]).run P w=_
   simp[Builtin.copy_,run_underlying aS,Builtin.lenOf,run_sizeOf ax,ny,BJ,BG,Y,goInt]
  simp only[Oper.wp,hR,gL _ _ jf,Oper.upon_value,ig];exact ca _ _ h
 |some a=>
  rw[Y] at h;have PF:∀ v∈new.flatMap T.cells,v.oneCell'=true:=fun v aK=>by
   obtain⟨q,_,a8⟩:=List.mem_flatMap.1 aK; exact ok.one q v a8
  have lN:=EM (P:=P) a (new.flatMap T.cells) 0 w (by
   intro D bR;rw[Nat.zero_add];refine h.1 D ?_
   rwa [nV ok.len] at bR) PF
  have jf:(Builtin.copy_ #[t,u] G.type #[X.enc s,X.enc l]).run P w=.ok (.int .i64 new.length) (oD w a 0 (new.flatMap T.cells)):=by
   show (Builtin.copy_ #[t,u] G.type #[.slice s.a s.len s.cap,.slice l.a l.len l.cap]).run P w=_
   simp[Builtin.copy_,run_underlying aS,Builtin.lenOf,run_sizeOf ax,ny,BJ,BG,Y,lN,goInt]
  simp only[Oper.wp,hR,gL _ _ jf,Oper.upon_value,ig];exact ca _ _ h.2
end
end bf
namespace bf
section
variable {P:Program} {Q:Exit→Act→World→Prop} {n:Nat} {f:Nat→Value} {aF:List Deferred} {w J:World} {G:Oper} {x S:Operand}
def aT(m:List UInt8):List Int:=m.map fun l=>(l.toNat:Int)
theorem gv(m:List UInt8):(aT m).length=m.length:=by simp[aT]
theorem xl(m y:List UInt8):aT (m++y)=aT m++aT y:=by simp[aT]
def tq(s:af)(w:World)(r:List UInt8):Prop:=k_ (B .u8) w s (aT r)
theorem OO(k:IntKind):∀ m:List Int,m.flatMap (B k).cells=m.map (Value.int k)
 |[]=>rfl
 |a::m=>by simp[OO k m]
theorem RA{s t j:TypeId}{l:af}{r:List UInt8}(ai:G.op=.convert s t x)(aG:P.underlying s=some (.slice j))(he:P.underlying j=some (.int .u8))(aS:P.underlying t=some .string)(F:ad n f x=X.enc l)(h:tq l w r) :
  (execOp (ad n f) G).run P w=.ok (.value (.string ⟨r.toArray⟩)) w:=by
 obtain⟨al,ab⟩:=h;rw[gv] at al;obtain⟨a,len,cap⟩:=l;simp only at al ab;subst al;have I:(convert s t (.slice a r.length cap)).run P w=.ok (.string ⟨r.toArray⟩) w:=by
  cases a with
  |none=>
   have ah:aT r=[]:=ab;have:r=[]:=by simpa[aT] using ah
   subst this;rw[run_convert_bytes_string w s t j none _ cap aG he aS];rfl
  |some a=>
   refine run_convert_bytes_back w s t j a cap r aG he aS fun D bR=>?_;refine (ab:oT w a _) D _ ?_;rw[OO];simp[aT,List.getElem?_eq_getElem bR]
 simp only[execOp,ai,F,Sem.run_bind,I,Result.andThen_ok,Sem.run_pure]
def aGG(j:TypeId)(s:List UInt8)(w:World)(k:af→World→Prop):Prop:=
 k ⟨some ⟨w.heap.size,0,none⟩,s.length,grownCap w s.length 0 j⟩ (w.drew.alloc (.cells (bytesRow ⟨s.toArray⟩ (grownCap w s.length 0 j)) j ((bytesRow ⟨s.toArray⟩ (grownCap w s.length 0 j)).size,(bytesRow ⟨s.toArray⟩ (grownCap w s.length 0 j)).size+1)))
theorem Th{s t j:TypeId}{l:List UInt8}{d:Option Nat}{next:Act→World→Prop}{aa:af→World→Prop}(ag:G.dst=d)(ai:G.op=.convert s t x)(aG:P.underlying s=some .string)(aS:P.underlying t=some (.slice j))(he:P.underlying j=some (.int .u8))
  (F:ad n f x=.string ⟨l.toArray⟩) (h:aGG j l w aa) (ca:∀ r J,aa r J→next (act n (hi f d (X.enc r)) aF) J):mS P G (act n f aF) w next Q:=by
 rw[nP];subst ag;have I:=run_bytes_of_string (P:=P) w s t j ⟨l.toArray⟩ aG aS he;have ny:(⟨l.toArray⟩:ByteArray).size=l.length:=rfl;rw[ny] at I;have gL:(execOp (ad n f) G).run P w=.ok (.value (X.enc ⟨some ⟨w.heap.size,0,none⟩,l.length,grownCap w l.length 0 j⟩)) (w.drew.alloc (.cells (bytesRow ⟨l.toArray⟩ (grownCap w l.length 0 j)) j ((bytesRow ⟨l.toArray⟩ (grownCap w l.length 0 j)).size,(bytesRow ⟨l.toArray⟩ (grownCap w l.length 0 j)).size+1))):=by
  simp only[execOp,ai,F,Sem.run_bind,I,Result.andThen_ok,Sem.run_pure]
 simp only[Oper.wp,hR,gL,Oper.upon_value,ig];exact ca _ _ h
theorem aBr{s:af}{r:List UInt8}{aC3:Obj}(hw:J=w.alloc aC3)(h:tq s w r):tq s J r:=by
 subst hw;obtain⟨I,O⟩:=h;refine⟨I,?_⟩;obtain⟨a,len,cap⟩:=s;cases a with
 |none=>exact O
 |some a=>exact W4 (w:=w) O
def aCu(s:af)(w:World)(k:World→Prop):Prop:=∃ a t y,s.a=some a∧w.shape? a.block=some (t,y)∧k (w.freeze ⟨a.block,y,none⟩ 1)
theorem Te{t j:TypeId}{s:af}{d:Option Nat}{next:Act→World→Prop}{aa:World→Prop}(ag:G.dst=d)(ai:G.op=.convert t t x)(aS:P.underlying t=some (.slice j))(he:P.underlying j=some (.int .u8))
  (F:ad n f x=X.enc s) (h:aCu s w aa) (ca:∀ J,aa J→next (act n (hi f d (X.enc s)) aF) J):mS P G (act n f aF) w next Q:=by
 rw[nP];subst ag;obtain⟨a,hq,y,Y,qg,h⟩:=h;have I:(convert t t (X.enc s)).run P w=.ok (X.enc s) (w.freeze ⟨a.block,y,none⟩ 1):=by
  simp[convert,run_underlying aS,run_underlying he,Y,markStringish,qg,Result.andThen]
 have gL:(execOp (ad n f) G).run P w=.ok (.value (X.enc s)) (w.freeze ⟨a.block,y,none⟩ 1):=by
  simp only[execOp,ai,F,Sem.run_bind,I,Result.andThen_ok,Sem.run_pure]
 simp only[Oper.wp,hR,gL,Oper.upon_value,ig];exact ca _ h
theorem aGC{P:Program}(w:World)(y:Nat)(r:List UInt8):(Builtin.firstCells y r.length (.string ⟨r.toArray⟩)).run P w=.ok ((aT r).flatMap (B .u8).cells).toArray w:=by
 rw[OO];have ny:(⟨r.toArray⟩:ByteArray).size=r.length:=rfl;simp only[Builtin.firstCells,Sem.run_pure];congr 1;apply Array.ext';have he:(⟨r.toArray⟩:ByteArray).extract 0 r.length=⟨r.toArray⟩:=by rw[← ny]; exact ByteArray.extract_zero_size
 rw[he];simp[aT]
theorem Sj(y:Nat)(r:List UInt8):(Builtin.firstCells y r.length (.string ⟨r.toArray⟩)).run P w=.ok ((aT r).flatMap (B .u8).cells).toArray w:=by
 have h:=aGC (P:=P) w y r;exact h
def NY(j:TypeId)(s:af)(r:List UInt8)(w:World)(k:af→World→Prop):Prop:=l7 j (B .u8) 1 1 s (aT r) w k
theorem aGx{t u hq j:TypeId}{s:af}{r:List UInt8}(aS:P.underlying t=some (.slice j))(hu:P.underlying u=some .string)(ok:cw P j (B .u8) 1)(U:s.len+r.length≤s.cap){a:Addr}(Y:s.a=some a)(hw:wa w (a.add (s.len*1)) (r.length*1)) :
  (Builtin.append_ #[t,u] hq #[X.enc s,.string ⟨r.toArray⟩]).run P w=.ok (X.enc ⟨some a,s.len+r.length,s.cap⟩) (oD w (a.add (s.len*1)) 0 ((aT r).flatMap (B .u8).cells)):=by
 obtain⟨jE,ax,j9⟩:=ok.size
 have O:=EM (P:=P) (a.add (s.len*1)) ((aT r).flatMap (B .u8).cells) 0 w (by
  intro D bR;rw[Nat.zero_add];rw[nV ok.len,gv] at bR
  exact hw D bR) (fun v aK=>by obtain⟨x,_,F⟩:=List.mem_flatMap.1 aK; exact ok.one x v F)
 have ny:(⟨r.toArray⟩:ByteArray).size=r.length:=rfl;simp only[Builtin.append_];have I:=Sj (P:=P) (w:=w) 1 r;simp[run_underlying aS,run_underlying hu,run_sizeOf ax,Builtin.lenOf,U,j9,Y,ny,I];simp only[Nat.mul_one] at O;rw[show storeCells (a.add s.len) ((aT r).flatMap (B .u8).cells).toArray.toList=storeCells (a.add s.len) ((aT r).flatMap (B .u8).cells) 0 from rfl,O];simp
theorem aGy{t u hq j:TypeId}{s:af}{r:List UInt8}(aS:P.underlying t=some (.slice j))(hu:P.underlying u=some .string)(ok:cw P j (B .u8) 1)(U:s.len+r.length≤s.cap)(Y:s.a=none) :
  (Builtin.append_ #[t,u] hq #[X.enc s,.string ⟨r.toArray⟩]).run P w=.ok (X.enc ⟨none,s.len+r.length,s.cap⟩) w:=by
 obtain⟨jE,ax,j9⟩:=ok.size;have ny:(⟨r.toArray⟩:ByteArray).size=r.length:=rfl;have I:=Sj (P:=P) (w:=w) 1 r;simp only[Builtin.append_];simp[run_underlying aS,run_underlying hu,run_sizeOf ax,Builtin.lenOf,U,j9,Y,ny,I]
theorem aGw{t u hq j:TypeId}{jE:TypeInfo}{s:af}{r:List UInt8}{old:List Int}(aS:P.underlying t=some (.slice j))(hu:P.underlying u=some .string)
  (ok:cw P j (B .u8) 1) (ax:P.info? j=some jE) (bL:jE.zero=some (.int .u8 0)) (DV:jE.bytes=1) (U:s.cap<s.len+r.length) (sW:(s.len+r.length)*1≤140737488355328) (hold:k_ (B .u8) w s old) :
  ∃ (c:Nat) (rest:List Value),s.len+r.length≤c∧rest.length=(c-(s.len+r.length))*1 ∧
   (Builtin.append_ #[t,u] hq #[X.enc s,.string ⟨r.toArray⟩]).run P w=.ok (X.enc ⟨some ⟨w.heap.size,0,none⟩,s.len+r.length,c⟩) (w.drew.alloc (.cells ((old++aT r).flatMap (B .u8).cells++rest).toArray j)):=by
 obtain⟨anW,yi,j9⟩:=ok.size;rw[ax] at yi; injection yi with yi; subst yi
 have ny:(⟨r.toArray⟩:ByteArray).size=r.length:=rfl;have BM:old.length=s.len:=hold.1;have BB:¬ (s.len+r.length≤s.cap):=by omega
 have R:=growslice_fits (need:=s.len+r.length) (old:=s.cap) (bytes:=jE.bytes) (by omega) (by rw[DV]; exact sW);have yg:¬ (281474976710656<Builtin.nextslicecap (s.len+r.length) s.cap*jE.bytes):=by omega
 have Pj:jE.bytes≠0:=by omega
 refine⟨(Question.appendCap (s.len+r.length) s.cap j).cut (w.tape w.drawn (.appendCap (s.len+r.length) s.cap j)),(Builtin.zeroCells (Value.int .u8 0).cells ((Question.appendCap (s.len+r.length) s.cap j).cut (w.tape w.drawn (.appendCap (s.len+r.length) s.cap j))-(s.len+r.length))).toList,?_,?_,?_⟩
 ·simp only[Question.cut]; omega
 ·simp[Builtin.zeroCells,Value.cells]
 ·have GB:=Sj (P:=P) (w:=w.drew) 1 r;have OY:Sem.run P (Builtin.firstCells 1 s.len (Value.slice s.a s.len s.cap)) w.drew=.ok (old.flatMap (B .u8).cells).toArray w.drew:=Aq (P:=P) ok.len (NO hold);simp only[Builtin.append_];simp[run_underlying aS,run_underlying hu,run_sizeOf ax,Builtin.lenOf,BB,j9,ny,typeInfo,ax,Pj,yg,Question.forced,GB,OY,zeroValue,bL,newRow,List.flatMap_append,World.drew_eq];congr 2;apply Array.ext';simp
theorem S7{t u j:TypeId}{s:af}{r:List UInt8}{d:Option Nat}{next:Act→World→Prop}{aa:af→World→Prop}(ag:G.dst=d)
  (ai:G.op=.call { callee:=.builtin .append,args:=#[x,S],argTypes:=#[t,u] }) (aS:P.underlying t=some (.slice j)) (hu:P.underlying u=some .string)
  (ok:cw P j (B .u8) 1) (va:∃ i,P.info? j=some i∧i.zero=some (.int .u8 0)∧i.size=1∧i.bytes=1)
  (F:ad n f x=X.enc s) (aB:ad n f S=.string ⟨r.toArray⟩) (h:NY j s r w aa) (aq:∀ r J,aa r J→next (act n (hi f d (X.enc r)) aF) J) :
  mS P G (act n f aF) w next Q:=by
 rw[nP];subst ag;obtain⟨jE,ax,bL,j9,DV⟩:=va;obtain⟨kt,zR⟩:=h;have gL:∀ (w:World) (v:Value) (J:World),(Builtin.append_ #[t,u] G.type #[X.enc s,.string ⟨r.toArray⟩]).run P w=.ok v J→(execOp (ad n f) G).run P w=.ok (.value v) J:=by
  intro w v J aK;simp only[execOp,ai,resolve,invoke,builtin];simp only[List.map_toArray,List.map_cons,List.map_nil,F,aB,pure_bind,Sem.run_bind,aK,Result.andThen_ok,Sem.run_pure]
 rw[gv] at kt zR;by_cases U:s.len+r.length≤s.cap
 ·have kt:=kt U;cases Y:s.a with
  |none=>
   rw[Y] at kt;simp only[Oper.wp,hR,gL _ _ _ (aGy aS hu ok U Y),Oper.upon_value,ig];exact aq _ _ kt
  |some a=>
   rw[Y] at kt;simp only[Oper.wp,hR,gL _ _ _ (aGx aS hu ok U Y kt.1),Oper.upon_value,ig];exact aq _ _ kt.2
 ·obtain⟨sW,old,hold,zR⟩:=zR (by omega);obtain⟨c,rest,I,O,aJ⟩:=aGw (hq:=G.type) aS hu ok ax bL DV (by omega) sW hold;simp only[Oper.wp,hR,gL _ _ _ aJ,Oper.upon_value,ig];exact aq _ _ (zR c rest I O)
def fQ(op:BinOp)(a l:Nat):Bool:=
 match op with
 |.eql=>FloatKind.f64.format.order a l==some .eq
 |.neq=>FloatKind.f64.format.order a l != some .eq
 |.lss=>FloatKind.f64.format.order a l==some .lt
 |.leq=>FloatKind.f64.format.order a l==some .lt||FloatKind.f64.format.order a l==some .eq
 |.gtr=>FloatKind.f64.format.order a l==some .gt
 |.geq=>FloatKind.f64.format.order a l==some .gt||FloatKind.f64.format.order a l==some .eq
 |_=>false
def anQ:BinOp→Bool
 |.eql |.neq |.lss |.leq |.gtr |.geq=>true
 |_=>false
theorem ady{op:BinOp}{a l:Nat}{t u:TypeId}(ai:G.op=.binOp op t x S u)(gL:anQ op=true)(F:ad n f x=.float .f64 a)(aB:ad n f S=.float .f64 l) :
  (execOp (ad n f) G).run P w=.ok (.value (.bool (fQ op a l))) w:=by
 cases op<;>first
  |cases gL; done
  |simp[execOp,ai,F,aB,eqGuard_at_float,eqGuard_lss,eqGuard_leq,eqGuard_gtr,eqGuard_geq,binOp,Op.floatCmp,fQ]
def xo(op:BinOp)(a l:Nat)(r:Nat):Prop:=floatBits op .f64 a l=some r
def zm(k:IntKind)(l:Nat)(y:Int):Prop:=floatToIntVal .f64 l k=some y
def anL:BinOp→Bool
 |.add |.sub |.mul |.quo=>true
 |_=>false
theorem adx{op:BinOp}{a l r:Nat}{t u:TypeId}(ai:G.op=.binOp op t x S u)(gL:anL op=true)(F:ad n f x=.float .f64 a)(aB:ad n f S=.float .f64 l)(h:xo op a l r) :
  (execOp (ad n f) G).run P w=.ok (.value (.float .f64 r)) w:=by
 have ab:=run_float_arith (P:=P) w op t .f64 a l r h;cases op<;>first
  |cases gL; done
  |simp[execOp,ai,F,aB,eqGuard_add,eqGuard_sub,eqGuard_mul,eqGuard_quo,ab]
theorem adp{k:IntKind}{l:Nat}{y:Int}{s t:TypeId}(ai:G.op=.convert s t x)(aG:P.underlying s=some (.float .f64))(aS:P.underlying t=some (.int k))(F:ad n f x=.float .f64 l)(h:zm k l y) :
  (execOp (ad n f) G).run P w=.ok (.value (.int k y)) w:=by
 have ab:=run_convert_float_int (P:=P) w s t .f64 k l y (by rw[aG]; rfl) aS h;simp[execOp,ai,F,ab]
def Ext(P:Program)(k:FuncId)(j:Array Value→Sem Value):Prop:=∃ fn,P.funcs[k]?=some fn∧(fn.name=="runtime.NumGoroutine")=false∧fn.body.isNone=true∧Extern.findNext fn=none∧Extern.find fn=some j
theorem adu{k:FuncId}{j:Array Value→Sem Value}{lg:List Operand}{nL:Array TypeId}{m:List Value}{v:Value}(ai:G.op=.call { callee:=.value (.func k),args:=lg.toArray,argTypes:=nL })(he:Ext P k j)(Y:lg.map (ad n f)=m)(aK:(j m.toArray).run P w=.ok v w) :
  (execOp (ad n f) G).run P w=.ok (.value v) w:=by
 obtain⟨fn,am,I,O,aJ,bl⟩:=he;subst Y;have dq:=run_callFunc_extern am I O aJ bl ((lg.map (ad n f)).toArray) w;rw[aK] at dq;simp only[Result.andThen_ok] at dq;simpa[execOp,ai,resolve,ad,Deferred.ofValue,invoke] using dq
theorem adw{k:FuncId}{l:Nat}{nL:Array TypeId}(ai:G.op=.call { callee:=.value (.func k),args:=#[x],argTypes:=nL })(he:Ext P k Extern.MathFloatBits.float64bits)(F:ad n f x=.float .f64 l) :
  (execOp (ad n f) G).run P w=.ok (.value (.int .u64 l)) w:=adu (lg:=[x]) (m:=[.float .f64 l]) ai he (by simp[F]) rfl
theorem RQ{k:FuncId}{l:Int}{nL:Array TypeId}(ai:G.op=.call { callee:=.value (.func k),args:=#[x],argTypes:=nL })(he:Ext P k Extern.MathFloatBits.float64frombits)(F:ad n f x=.int .u64 l) :
  (execOp (ad n f) G).run P w=.ok (.value (.float .f64 l.toNat)) w:=adu (lg:=[x]) (m:=[.int .u64 l]) ai he (by simp[F]) rfl
def aaw:TypeDesc→Bool
 |.interface _=>true
 |_=>false
theorem yW{t:TypeId}{d:TypeDesc}{v:Value}(ai:G.op=.makeInterface t x)(aS:P.underlying t=some d)(ag:aaw d=false)(F:ad n f x=v):(execOp (ad n f) G).run P w=.ok (.value (er.mk t v).enc) w:=by
 subst F;cases d<;>first
  |simp[execOp,ai,Instr.makeInterface,run_underlying aS,er.enc]; done
  |cases ag
theorem adN{t:TypeId}{a:Int}{k:IntKind}(ai:G.op=.unOp .xor t x)(aq:k.signed=false)(F:ad n f x=.int k a):(execOp (ad n f) G).run P w=.ok (.value (.int k (bits .xor k k.max a))) w:=by
 simp[execOp,ai,F,Op.unary,aq,intBits_xor]
theorem adM{t:TypeId}{a:Int}{k:IntKind}(ai:G.op=.unOp .xor t x)(aq:k.signed=true)(F:ad n f x=.int k a):(execOp (ad n f) G).run P w=.ok (.value (.int k (bits .xor k (-1) a))) w:=by
 simp[execOp,ai,F,Op.unary,aq,intBits_xor]
theorem adL{t:TypeId}{a:Nat}(ai:G.op=.unOp .neg t x)(F:ad n f x=.float .f64 a):(execOp (ad n f) G).run P w=.ok (.value (.float .f64 (Op.negFloat .f64 a))) w:=by
 simp[execOp,ai,F,Op.unary]
end
section
variable {P:Program} {Q:Exit→Act→World→Prop} {n:Nat} {f:Nat→Value} {aF:List Deferred} {w J:World} {G:Oper} {x:Operand}
def Ai(v:er):List PanicEntry:=[{ v:=v.enc,recovered:=false }]
def W5{Z:Type}(T:bu Z)(e:Z→World→Prop)(et:er→World→Prop):Ending→World→Prop
 |.returned v,w=>∃ x,v=T.enc x∧e x w
 |.panicked chain,w=>∃ v,chain=Ai v∧et v w
 |.outgrown,_=>False
def nS{Z:Type}(P:Program)(f:FuncId)(args:List Value)(T:bu Z)(w:World)(et:er→World→Prop)(k:Z→World→Prop):Prop:=Calls P f args.toArray w (W5 T k et)
theorem se{Z:Type}{T:bu Z}{fn:Func}{e:Z→World→Prop}{et:er→World→Prop}{v:er}(h:et v w):bodyPost P fn (W5 T e et) (.panic (Ai v)) (act n f []) w:=⟨rfl,v,rfl,h⟩
theorem zd{Z:Type}{T:bu Z}{k:FuncId}{args:List Value}{d:Option Nat}{next:Act→World→Prop}{aa:Z→World→Prop}{et:er→World→Prop}(ag:G.dst=d)
  (aK:(execOp (ad n f) G).run P w=.ok (.enter k args.toArray) w) (h:nS P k args T w et aa) (aE:∀ v J,et v J→Q (.panic (Ai v)) (act n f aF) J) (aq:∀ r J,aa r J→next (act n (hi f d (T.enc r)) aF) J):mS P G (act n f aF) w next Q:=by
 rw[nP];subst ag;refine XM aK (Calls.mono h fun j J he=>?_);cases j with
 |returned v=>obtain⟨r,rfl,ab⟩:=he; exact aq r J ab
 |panicked c=>obtain⟨v,rfl,aK⟩:=he; exact aE v J aK
 |outgrown=>exact he.elim
theorem CH{v:er}{next:Act→World→Prop}(ai:G.op=.panic x)(F:ad n f x=v.enc)(aL:∃ t u,v=.mk t u)(h:Q (.panic (Ai v)) (act n f aF) w):mS P G (act n f aF) w next Q:=by
 rw[nP];obtain⟨t,u,rfl⟩:=aL;have gL:(execOp (ad n f) G).run P w=.halt (.panic (.iface t u)) w:=by
  simp only[execOp,ai,F];rfl
 simp only[Oper.wp,hR,gL,Oper.upon_panic];exact h
def Ge(P:Program)(fn:Func)(pj:List Nat)(e:Ending→World→Prop):Exit→Act→World→Prop
 |.panic chain,a,w=>∀ tmps:Array Value,(∀ s∈pj,tmps.getD s undef=a.tmps.getD s undef)→Leaves P fn tmps e a.defers (.panicking chain) w
 |j,a,w=>bodyPostD P fn e j a w
theorem akT{f:FuncId}{fn:Func}{c:Code}{m:List Value}{e:Ending→World→Prop}{pj:List Nat}(n:Nat)
  (am:P.funcs[f]?=some fn) (aL:fn.ntmps=n) (ao:fn.body=some c) (al:m.length≤n)
  (h:c.wp P (Ge P fn pj e) (act n (start m) []) w):Calls P f m.toArray w e:=by
 subst aL;refine calls_of_wp_defers am ao ?_;rw[Sw m _ al];refine wp_mono h fun j a J h=>?_;cases j with
 |panic c=>exact h _ fun _ _=>rfl
 |_=>exact h
def yD(P:Program)(k:FuncId)(args:List Value)(u:FrameMode)(w:World)(aa:World→Prop):Prop:=
 CallsD P k args.toArray u w fun j pn J=>(∃ v,j=.returned v)∧settle pn=.returning∧aa J
theorem QP{k:FuncId}{args:List Value}{u:FrameMode}{aa K':World→Prop}(h:yD P k args u w aa)(aq:∀ J,aa J→K' J):yD P k args u w K':=
 CallsD.mono h fun _ _ J ⟨I,O,aJ⟩=>⟨I,O,aq J aJ⟩
theorem aBb{k:FuncId}{ba:List Value}(he:dy P k):(invoke (.fn (.func k) ba.toArray) #[]).run P w=.ok (.enter k ba.toArray) w:=by
 obtain⟨fn,am,ao,aL⟩:=he;have u3:fn.body≠none:=by intro h; simp[h] at ao
 simp[invoke,callFunc,am,u3,beq_eq_false_iff_ne.1 aL]
def aeI:ResultVar→Nat
 |.tmp t=>t
 |.cell a _=>a
def Ls(an:List ResultVar):List Nat:=an.map aeI
theorem aGo{fn:Func}{an:List ResultVar}{t1 t2:Array Value}(ab:fn.results=an.toArray)(h:∀ s∈Ls an,t1.getD s undef=t2.getD s undef):results fn t1=results fn t2:=by
 have j:∀ t,results fn t=(do let AA ← fn.results.mapM (ur t); pure (if h:AA.size=1 then AA[0] else .tuple AA)):=fun t=>rfl;have hm:∀ m:List ResultVar,(∀ r∈m,ur t1 r=ur t2 r)→m.mapM (ur t1)=m.mapM (ur t2):=by
  intro m;induction m with
  |nil=>intro _; rfl
  |cons a m ck=>
   intro al;rw[List.mapM_cons,List.mapM_cons,al a (by simp),ck (fun r ab=>al r (by simp[ab]))]
 rw[j,j,ab,Array.mapM_eq_mapM_toList,Array.mapM_eq_mapM_toList,hm _ ?_];intro r tU;have aG:aeI r∈Ls an:=List.mem_map_of_mem (by simpa using tU);cases r with
 |tmp t=>simp only[ur,h t aG]
 |cell a t=>simp only[ur,h a aG]
theorem abr{fn:Func}{an:List ResultVar}{k:FuncId}{ba:List Value}{u:FrameMode}{e:Ending→World→Prop}{tmps:Array Value}(hu:u≠.run)(ab:fn.results=an.toArray)(he:dy P k)(aS:∀ s∈Ls an,tmps.getD s undef=(act n f aF).tmps.getD s undef)
  (h:yD P k ba u w fun J=>∃ aX,sw P n f J an aX∧e (.returned (Cv aX)) J):Leaves P fn tmps e [{ target:=.fn (.func k) ba.toArray,args:=#[] }] u w:=by
 refine leaves_cons hu (aBb he) (CallsD.mono h fun j pn J ⟨⟨v,I⟩,O,aX,aJ,bl⟩=>?_);subst I;simp only[O,Leaves];refine⟨_,?_,bl⟩;rw[aGo ab aS];exact Lv ab aJ
theorem aGp{fn:Func}{an:List ResultVar}{k:FuncId}{ba:List Value}{e:Ending→World→Prop}{pj:List Nat}(ab:fn.results=an.toArray)(he:dy P k)
  (h:yD P k ba .returning w fun J=>∃ aX,sw P n f J an aX∧e (.returned (Cv aX)) J):Ge P fn pj e .ret (act n f [{ target:=.fn (.func k) ba.toArray,args:=#[] }]) w:=
 abr (by simp) ab he (fun _ _=>rfl) h
theorem acr{fn:Func}{an:List ResultVar}{k:FuncId}{ba:List Value}{e:Ending→World→Prop}{v:er}(ab:fn.results=an.toArray)(he:dy P k)
  (h:yD P k ba (.panicking (Ai v)) w fun J=>∃ aX,sw P n f J an aX∧e (.returned (Cv aX)) J):Ge P fn (Ls an) e (.panic (Ai v)) (act n f [{ target:=.fn (.func k) ba.toArray,args:=#[] }]) w:=
 fun tmps aS=>abr (aF:=[{ target:=.fn (.func k) ba.toArray,args:=#[] }]) (by simp) ab he aS h
theorem aEa{fn:Func}{pj:List Nat}{e:Ending→World→Prop}{c:List PanicEntry}{a:Act}{d:Option Nat}{v:Value}(ag:∀ s∈pj,d≠some s)(h:Ge P fn pj e (.panic c) (a.put d v) w):Ge P fn pj e (.panic c) a w:=by
 cases d with
 |none=>exact h
 |some d=>
  intro tmps aS;refine h tmps fun s aG=>?_;rw[aS s aG];have:d≠s:=fun j=>ag s aG (by rw[j]);simp[Act.put,Array.getD_eq_getD_getElem?,Array.getElem?_setIfInBounds,this]
theorem aml{ops:Array Oper}{pj:List Nat}{d:Option Nat}(h:(ops.toList.all fun G=>pj.all fun s=>G.dst != some s)=true)(ag:∃ G∈ops.toList,G.dst=d):∀ s∈pj,d≠some s:=by
 obtain⟨G,ai,rfl⟩:=ag;intro s aG;have:=List.all_eq_true.1 (List.all_eq_true.1 h G ai) s aG;simpa using this
theorem aIO{k:FuncId}{ba:List Value}{next:Act→World→Prop}{d:Option Nat}{nL:Array TypeId}(ag:G.dst=d)(ai:G.op=.defer { callee:=.value x,args:=#[],argTypes:=nL })(F:ad n f x=.func (.func k) #[] ba.toArray)
  (h:next (act n (hi f d undef) ({ target:=.fn (.func k) ba.toArray,args:=#[] }::aF)) w):mS P G (act n f aF) w next Q:=by
 rw[nP];subst ag;have gL:(execOp (ad n f) G).run P w=.ok (.defer { target:=.fn (.func k) ba.toArray,args:=#[] }) w:=by
  simp[execOp,ai,F,resolve,Deferred.ofValue]
 simp only[Oper.wp,hR,gL,Oper.upon];have j:(({ (act n f aF) with defers:={ target:=.fn (.func k) ba.toArray,args:=#[] }::aF }:Act).put G.dst undef)=act n (hi f G.dst undef) ({ target:=.fn (.func k) ba.toArray,args:=#[] }::aF):=ig n f _ G.dst undef
 first
  |exact j▸h
  |(rw[← j] at h; exact h)
def IX(u:FrameMode)(v:er)(pn:FrameMode):Prop:=
 (∃ KZ,u=.panicking ({ v:=v.enc,recovered:=false }::KZ)∧pn=.panicking ({ v:=v.enc,recovered:=true }::KZ))∨(u=.returning∧v=.nil∧pn=.returning)
theorem aF6(v:er):IX (.panicking (Ai v)) v (.panicking [{ v:=v.enc,recovered:=true }]):=.inl ⟨[],rfl,rfl⟩
theorem aF7:IX .returning .nil .returning:=.inr ⟨rfl,rfl,rfl⟩
section
variable {zs:Exit→Act→List Frame→World→Prop} {ba alX:List Frame} {ops:Array Oper} {i:Nat} {rest:List Nat} {d:Option Nat}
theorem akS{f:FuncId}{fn:Func}{c:Code}{m:List Value}{u:FrameMode}{e:Ending→FrameMode→World→Prop}(n:Nat)(am:P.funcs[f]?=some fn)(aL:fn.ntmps=n)(ao:fn.body=some c)(al:m.length≤n)
  (h:∀ (ou:Frame) (ba:List Frame),ou.mode=u→c.wpS P (bodyPostS P fn ou ba e) (act n (start m) []) (ou::ba) w):CallsD P f m.toArray u w e:=by
 subst aL;refine callsD_of_wpS am ao fun ou ba hu=>?_;rw[Sw m _ al];exact h ou ba hu
theorem aGt{v:er}{u pn:FrameMode}{ou:Frame}(ax:ops.toList[i]?=some G)(R:G.guard=none)(ag:G.dst=d)(ai:G.op=.call { callee:=.builtin .recover,args:=#[],argTypes:=#[] })(hu:ou.mode=u)(ab:IX u v pn)
  (h:wpOpsS P ops zs rest (act n (hi f d v.enc) aF) ({ ou with mode:=pn }::ba) w):wpOpsS P ops zs (i::rest) (act n f aF) (ou::ba) w:=by
 subst ag;have gL:(execOp (act n f aF).eval G).run P w=.ok .recover w:=by
  simp[execOp,ai,resolve,invoke,builtin]
 simp only[wpOpsS,ofList ax];rw[if_pos (by simp[Region.wanted,R])];rw[gL];simp only;rcases ab with ⟨KZ,rfl,rfl⟩ | ⟨rfl,rfl,rfl⟩
 ·have j:recoverD (ou::ba)=some (v.enc,{ ou with mode:=.panicking ({ v:=v.enc,recovered:=true }::KZ) }::ba):=by
   simp only[recoverD,hu]
  rw[j];simp only[ig];exact h
 ·have j:recoverD (ou::ba)=none:=by
   simp only[recoverD,hu]
  rw[j];simp only[ig];have a9:({ ou with mode:=.returning }:Frame)=ou:=by cases ou; simp_all
  rw[a9] at h;exact h
theorem aGu{v:Value}(ax:ops.toList[i]?=some G)(R:G.guard=none)(ag:G.dst=d)(aK:(execOp (ad n f) G).run P w=.ok (.value v) J)
  (h:wpOpsS P ops zs rest (act n (hi f d v) aF) ba J):wpOpsS P ops zs (i::rest) (act n f aF) ba w:=by
 subst ag;simp only[wpOpsS,ofList ax];rw[if_pos (by simp[Region.wanted,R]),hR,aK];simp only[Oper.upon_value,ig];exact h
theorem aGs(h:zs .normal (act n f aF) ba w):wpOpsS P ops zs [] (act n f aF) ba w:=h
theorem aIN{id:Nat}(m:List Nat)(al:List.range ops.size=m)(h:wpOpsS P ops zs m (act n f aF) ba w):(Code.region id ops false).wpS P zs (act n f aF) ba w:=by
 subst al; exact wpS_region h
theorem Yv{fn:Func}{ou:Frame}{pn:FrameMode}{e:World→Prop}(ab:fn.results=#[])(h:e w) :
  bodyPostS P fn ou ba (fun j tk J=>(∃ v,j=.returned v)∧tk=pn∧e J) .normal (act n f []) ({ ou with mode:=pn }::ba) w:=by
 refine⟨rfl,pn,rfl,.tuple #[],?_,⟨_,rfl⟩,rfl,h⟩;have:=Lv (P:=P) (w:=w) (n:=n) (f:=f) (aF:=[]) (fn:=fn) (an:=[]) (aX:=[]) ab .nil;exact this
end
theorem aby{k:FuncId}{args:List Value}{u pn:FrameMode}{aa:World→Prop}(h:CallsD P k args.toArray u w fun j tk J=>(∃ v,j=.returned v)∧tk=pn∧aa J)(aG:settle pn=.returning):yD P k args u w aa:=
 CallsD.mono h fun _ _ J ⟨I,O,aJ⟩=>⟨I,by rw[O]; exact aG,aJ⟩
def Tr{Z:Type}(t:TypeId)(T:bu Z)(z:Z)(x:er)(p:Z×Bool):Prop:=(∃ S,x=.mk t (T.enc S)∧p=(S,true))∨((∀ v,x≠.mk t v)∧p=(z,false))
theorem Rz{Z:Type}{T:bu Z}{aI2 t:TypeId}{z:Z}{v:er}{p:Z×Bool}{y l:Nat}{S:Operand}(ai:G.op=.typeAssert S aI2 t true)(aS:∃ d,P.underlying t=some d∧aaw d=false)(bL:∃ i,P.info? t=some i∧i.zero=some (T.enc z)∧i.size=y∧i.bytes=l)(F:ad n f S=v.enc)(h:Tr t T z v p) :
  (execOp (ad n f) G).run P w=.ok (.value (.tuple #[T.enc p.1,.bool p.2])) w:=by
 obtain⟨d,aS,ag⟩:=aS;obtain⟨i,ax,tW,_⟩:=bL;have dT:∀ y,d≠.interface y:=by intro y j; subst j; cases ag
 rcases h with ⟨u,rfl,rfl⟩ | ⟨aK,rfl⟩
 ·cases d<;>first
   |cases ag; done
   |simp[execOp,ai,F,er.enc,Instr.typeAssert,run_underlying aS]; done
 ·cases v with
  |nil=>
   cases d<;>first
    |cases ag; done
    |simp[execOp,ai,F,er.enc,Instr.typeAssert,run_underlying aS,zeroValue,typeInfo,ax,tW]; done
  |mk th u=>
   have aq5:¬ th=t:=fun j=>aK u (by rw[j]);cases d<;>first
    |cases ag; done
    |simp[execOp,ai,F,er.enc,Instr.typeAssert,run_underlying aS,aq5,zeroValue,typeInfo,ax,tW]; done
def er.isNil:er→Bool
 |.nil=>true
 |.mk _ _=>false
theorem aej{t:TypeId}{v:er}{Hx:Array (String×TypeId)}(aS:P.underlying t=some (.interface Hx)):(Op.equal t v.enc .nilIface).run P w=.ok v.isNil w:=by
 show (Op.equalIn (9999+1) t v.enc .nilIface).run P w=_
 rw[Op.equalIn];simp only[Sem.run_bind,run_underlying aS,Result.andThen_ok];cases v<;>simp[er.enc,er.isNil]
theorem adr{t u:TypeId}{v:er}{S:Operand}{Hx:Array (String×TypeId)}(ai:G.op=.binOp .eql t S (.const .nilIface) u)(aS:P.underlying t=some (.interface Hx))(F:ad n f S=v.enc):(execOp (ad n f) G).run P w=.ok (.value (.bool v.isNil)) w:=by
 have U:ad n f (.const .nilIface)=.nilIface:=rfl;have R:eqGuard .eql t S (.const .nilIface) v.enc .nilIface=pure ():=by cases v<;>cases S<;>rfl
 have ao:binOp .eql t v.enc .nilIface=(do pure (.bool (← Op.equal t v.enc .nilIface))):=by cases v<;>rfl
 have I:=aej (P:=P) (w:=w) (v:=v) aS;simp only[execOp,ai,F,U,R,ao,Sem.run_bind,Sem.run_pure,Result.andThen_ok,I]
theorem RV{t u:TypeId}{v:er}{S:Operand}{Hx:Array (String×TypeId)}(ai:G.op=.binOp .neq t S (.const .nilIface) u)(aS:P.underlying t=some (.interface Hx))(F:ad n f S=v.enc):(execOp (ad n f) G).run P w=.ok (.value (.bool (!v.isNil))) w:=by
 have U:ad n f (.const .nilIface)=.nilIface:=rfl;have R:eqGuard .neq t S (.const .nilIface) v.enc .nilIface=pure ():=by cases v<;>cases S<;>rfl
 have ao:binOp .neq t v.enc .nilIface=(do pure (.bool (!(← Op.equal t v.enc .nilIface)))):=by cases v<;>rfl
 have I:=aej (P:=P) (w:=w) (v:=v) aS;simp only[execOp,ai,F,U,R,ao,Sem.run_bind,Sem.run_pure,Result.andThen_ok,I]
section
variable {ops:Array Oper} {i:Nat} {rest:List Nat} {listed:Array Bool} {ay:List (Nat×(World→Prop))} {y:Nat}
theorem a5(k:Nat){v:Value}(ax:ops.toList[i]?=some G)(R:G.guard=none)(ag:G.dst=some k)(aK:(execOp (ad n f) G).run P w=.ok (.value v) J)
  (h:dj P ops Q rest (act n (ae f k v) aF) J):dj P ops Q (i::rest) (act n f aF) w:=eT (d:=some k) ax (.free R) ag aK h
theorem fg(i k:Nat){v:Value}(ak:ly ops Q)(ax:ops.toList[i]?=some G)(R:G.guard=none)(ag:G.dst=some k)(aK:∀ w,(execOp (ad n f) G).run P w=.ok (.value v) w)
  (h:hc P ops Q ay y (listed.setIfInBounds i true) (act n (ae f k v) aF) w) (am:Region.free .any ops listed i=true:=by kernel_rfl) (ab:(Region.ready .any ops listed).contains i=true:=by kernel_rfl):hc P ops Q ay (y+1) listed (act n f aF) w:=
 eS (i:=i) (d:=some k) ak am ab ax (.free R) ag aK h
end
end
def sJ{Z:Type}(P:Program)(hI:cm)(args:List Value)(T:bu Z)(w:World)(k:Z→World→Prop):Prop:=
 ∃ (f:FuncId) (a c:List Value),hI=.mk (.func f) a.toArray c.toArray∧dy P f∧M P f (a++args++c) T w k
theorem Of{Z:Type}{P:Program}{T:bu Z}{hI:cm}{args:List Value}{w:World}{aa K':Z→World→Prop}(h:sJ P hI args T w aa)(aq:∀ r J,aa r J→K' r J):sJ P hI args T w K':=by
 obtain⟨f,a,c,I,O,aJ⟩:=h
 exact⟨f,a,c,I,O,aJ.mono fun j J he=>by
  cases j with
  |returned v=>obtain⟨x,F,aB⟩:=he; exact⟨x,F,aq _ _ aB⟩
  |_=>exact he.elim⟩
section
variable {P:Program} {Q:Exit→Act→World→Prop} {n:Nat} {f:Nat→Value} {aF:List Deferred} {w:World} {G:Oper} {x:Operand}
theorem aE0{k:FuncId}{lg:List Operand}{nL:Array TypeId}{m a c:List Value}{hI:cm}(ai:G.op=.call { callee:=.value x,args:=lg.toArray,argTypes:=nL })(F:ad n f x=hI.enc)(yf:hI=.mk (.func k) a.toArray c.toArray)
  (he:dy P k) (Y:lg.map (ad n f)=m):(execOp (ad n f) G).run P w=.ok (.enter k (a++m++c).toArray) w:=by
 obtain⟨fn,am,ao,aL⟩:=he;have u3:fn.body≠none:=by intro h; simp[h] at ao
 subst yf; subst Y;simp[execOp,ai,resolve,F,cm.enc,Deferred.ofValue,invoke,callFunc,am,u3,beq_eq_false_iff_ne.1 aL]
theorem S_{Z:Type}{T:bu Z}{lg:List Operand}{nL:Array TypeId}{m:List Value}{hI:cm}{d:Option Nat}{next:Act→World→Prop}{aa:Z→World→Prop}(ag:G.dst=d)(ai:G.op=.call { callee:=.value x,args:=lg.toArray,argTypes:=nL })
  (F:ad n f x=hI.enc) (Y:lg.map (ad n f)=m) (h:sJ P hI m T w aa) (aq:∀ r J,aa r J→next (act n (hi f d (T.enc r)) aF) J):mS P G (act n f aF) w next Q:=by
 obtain⟨k,a,c,yf,he,h⟩:=h;exact gU ag (aE0 ai F yf he Y) h aq
end
def K9(P:Program):Sem Next→Option Value
 |.pure (.value v)=>some v
 |.program k=>K9 P (k P)
 |_=>none
theorem aER{P:Program}:∀ {s:Sem Next} {v:Value},K9 P s=some v→∀ w,s.run P w=.ok (.value v) w:=by
 intro s;induction s with
 |pure a=>
  intro v h w;cases a<;>first | (cases h; rfl) | cases h
 |program k ck=>
  intro v h w;exact ck P h w
 |_=>intro v h; cases h
def H2(P:Program)(n:Nat)(ops:Array Oper):Nat→List Nat→(Nat→Value)→Option (Nat→Value)
 |0,_,f=>some f
 |_+1,[],_=>none
 |k+1,i::m,f=>match ops.toList[i]? with
  |some G=>match G.guard with
   |none=>match K9 P (execOp (ad n f) G) with
    |some v=>H2 P n ops k m (hi f G.dst v)
    |none=>none
   |some _=>none
  |none=>none
def g2(G:Option (Nat→Value)):Nat→Value:=G.getD fun _=>undef
section
variable {P:Program} {Q:Exit→Act→World→Prop} {n:Nat} {f:Nat→Value} {aF:List Deferred} {w J:World} {ops:Array Oper}
theorem aei:∀ (k:Nat) {m:List Nat} {f g:Nat→Value},H2 P n ops k m f=some g→dj P ops Q (m.drop k) (act n g aF) w→dj P ops Q m (act n f aF) w
 |0,m,f,g,h,U=>by
  cases h;exact U
 |k+1,[],f,g,h,U=>by cases h
 |k+1,i::m,f,g,h,U=>by
  unfold H2 at h;cases ai:ops.toList[i]? with
  |none=>rw[ai] at h; cases h
  |some G=>
   rw[ai] at h;simp only at h;cases R:G.guard with
   |some g=>rw[R] at h; cases h
   |none=>
    rw[R] at h;simp only at h;cases aK:K9 P (execOp (ad n f) G) with
    |none=>rw[aK] at h; cases h
    |some v=>
     rw[aK] at h;simp only at h;exact eT (d:=G.dst) ai (.free R) rfl (aER aK w) (aei k h U)
theorem td(k:Nat){m:List Nat}(U:dj P ops Q (m.drop k) (act n (g2 (H2 P n ops k m f)) aF) w)(h:(H2 P n ops k m f).isSome=true:=by kernel_rfl):dj P ops Q m (act n f aF) w:=by
 obtain⟨g,R⟩:=Option.isSome_iff_exists.1 h;rw[R] at U;exact aei k R U
def QU(ops:Array Oper)(i:Nat):Option (Operand×Nat):=match ops.toList[i]? with
 |some G=>match G.op,G.guard,G.dst with
  |.move x,none,some k=>some (x,k)
  |.assign x,none,some k=>some (x,k)
  |_,_,_=>none
 |none=>none
theorem aCA{i k:Nat}{x:Operand}(h:QU ops i=some (x,k)):∃ G:Oper,ops.toList[i]?=some G∧G.guard=none∧G.dst=some k∧(execOp (ad n f) G).run P w=.ok (.value (ad n f x)) w:=by
 unfold QU at h;cases ai:ops.toList[i]? with
 |none=>rw[ai] at h; cases h
 |some G=>
  rw[ai] at h;simp only at h;obtain⟨op,d,t,p,a,g⟩:=G;split at h
  ·rename_i S fS aR a9 df;cases h;exact⟨_,rfl,a9,df,c0 aR rfl⟩
  ·rename_i S fS aR a9 df;cases h;exact⟨_,rfl,a9,df,Ci aR rfl⟩
  ·cases h
theorem y{i k:Nat}{x:Operand}{rest:List Nat}(h:QU ops i=some (x,k))(U:dj P ops Q rest (act n (ae f k (ad n f x)) aF) w):dj P ops Q (i::rest) (act n f aF) w:=by
 obtain⟨G,I,O,aJ,bl⟩:=aCA (P:=P) (n:=n) (f:=f) (w:=w) h;exact a5 k I O aJ bl U
def Hq(ops:Array Oper)(i:Nat):Option (TypeId×Operand×Nat):=match ops.toList[i]? with
 |some G=>match G.op,G.guard,G.dst with
  |.load t x,none,some k=>some (t,x,k)
  |_,_,_=>none
 |none=>none
theorem hV{Z:Type}{T:bu Z}{aa:Z→Prop}{a:Addr}{t:TypeId}{s i k:Nat}{x:Operand}{rest:List Nat}(ok:cw P t T s)(h:ex (L T a w) aa)(ax:Hq ops i=some (t,x,k))(F:ad n f x=.pointer (some a))
  (U:∀ u,L T a w u→aa u→dj P ops Q rest (act n (ae f k (T.enc u)) aF) w):dj P ops Q (i::rest) (act n f aF) w:=by
 obtain⟨u,hu,ca⟩:=h;unfold Hq at ax;cases ai:ops.toList[i]? with
 |none=>rw[ai] at ax; cases ax
 |some G=>
  rw[ai] at ax;simp only at ax;split at ax
  ·rename_i S fS th aR a9 df;cases ax;exact a5 k ai a9 df (kb aR ok F hu) (U u hu ca)
  ·cases ax
def QX(ops:Array Oper)(i:Nat):Option (Operand×Nat):=match ops.toList[i]? with
 |some G=>match G.op,G.guard,G.dst with
  |.nilCheck x,none,some k=>some (x,k)
  |_,_,_=>none
 |none=>none
theorem Ou{aa:Addr→Prop}{p:Option Addr}{i k:Nat}{x:Operand}{rest:List Nat}(h:ex (bK p) aa)(ax:QX ops i=some (x,k))(F:ad n f x=.pointer p)
  (U:∀ a,bK p a→aa a→dj P ops Q rest (act n (ae f k (.pointer (some a))) aF) w):dj P ops Q (i::rest) (act n f aF) w:=by
 obtain⟨a,Y,ca⟩:=h;unfold QX at ax;cases ai:ops.toList[i]? with
 |none=>rw[ai] at ax; cases ax
 |some G=>
  rw[ai] at ax;simp only at ax;split at ax
  ·rename_i S fS aR a9 df;cases ax;exact a5 k ai a9 df (mf aR (F.trans (congrArg Value.pointer Y))) (U a Y ca)
  ·cases ax
def NX(ops:Array Oper)(i:Nat):Option (TypeId×Nat):=match ops.toList[i]? with
 |some G=>match G.op,G.guard,G.dst with
  |.alloc t,none,some k=>some (t,k)
  |_,_,_=>none
 |none=>none
theorem o0{Z:Type}{T:bu Z}{aa:Addr→World→Prop}{t:TypeId}{s i k az:Nat}{u:Z}{rest:List Nat}(ok:cw P t T s)(va:∃ i,P.info? t=some i∧i.zero=some (T.enc u)∧i.size=s∧i.bytes=az)(h:bO t T u w aa)(ax:NX ops i=some (t,k))
  (U:∀ a J,aa a J→dj P ops Q rest (act n (ae f k (.pointer (some a))) aF) J):dj P ops Q (i::rest) (act n f aF) w:=by
 obtain⟨a,J,Y,hw,ca⟩:=pU h;unfold NX at ax;cases ai:ops.toList[i]? with
 |none=>rw[ai] at ax; cases ax
 |some G=>
  rw[ai] at ax;simp only at ax;split at ax
  ·rename_i th fS aR a9 df;cases ax;exact a5 k ai a9 df (HO aR ok va Y hw) (U a J ca)
  ·cases ax
def Su(ops:Array Oper)(i:Nat):Option (TypeId×Operand×Operand):=match ops.toList[i]? with
 |some G=>match G.op,G.guard,G.dst with
  |.store t x S,none,none=>some (t,x,S)
  |_,_,_=>none
 |none=>none
theorem jS{Z:Type}{T:bu Z}{aa:World→Prop}{t:TypeId}{s i:Nat}{x S:Operand}{a:Addr}{u:Z}{rest:List Nat}(ok:cw P t T s)(h:bd T a u w aa)(ax:Su ops i=some (t,x,S))(F:ad n f x=.pointer (some a))(aB:ad n f S=T.enc u)
  (U:∀ J,aa J→dj P ops Q rest (act n f aF) J):dj P ops Q (i::rest) (act n f aF) w:=by
 obtain⟨J,hw,ab,ca⟩:=sr h;unfold Su at ax;cases ai:ops.toList[i]? with
 |none=>rw[ai] at ax; cases ax
 |some G=>
  rw[ai] at ax;simp only at ax;split at ax
  ·rename_i th afL aK7 aR a9 df;cases ax;exact aef (d:=none) ai (.free a9) df (si aR ok F aB ab hw) (U J ca)
  ·cases ax
end
section
variable {P:Program} {Q:Exit→Act→World→Prop} {n:Nat} {f:Nat→Value} {aF:List Deferred} {w J:World} {ops:Array Oper} {i:Nat} {rest:List Nat} {x S:Operand} {listed:Array Bool} {ay:List (Nat×(World→Prop))} {y:Nat}
def nE(ops:Array Oper)(i:Nat):Option (Op×Option (Nat×Bool)×Option Nat):=(ops.toList[i]?).map fun G=>(G.op,G.guard,G.dst)
theorem tc{p:Op}{g:Option (Nat×Bool)}{d:Option Nat}(h:nE ops i=some (p,g,d)):∃ G:Oper,ops.toList[i]?=some G∧G.op=p∧G.guard=g∧G.dst=d:=by
 unfold nE at h;obtain⟨G,ai,he⟩:=Option.map_eq_some_iff.1 h;cases he;exact⟨G,ai,rfl,rfl,rfl⟩
theorem aLq(k:Nat)(v:Value)(I:nE ops i=some (.move x,none,some k))(O:ad n f x=v)(h:dj P ops Q rest (act n (ae f k v) aF) w):dj P ops Q (i::rest) (act n f aF) w:=by
 obtain⟨G,ai,aE,R,ag⟩:=tc I;exact a5 k ai R ag (c0 aE O) h
theorem aLo(k:Nat)(v:Value)(I:nE ops i=some (.assign x,none,some k))(O:ad n f x=v)(h:dj P ops Q rest (act n (ae f k v) aF) w):dj P ops Q (i::rest) (act n f aF) w:=by
 obtain⟨G,ai,aE,R,ag⟩:=tc I;exact a5 k ai R ag (Ci aE O) h
theorem hs{t:TypeId}{is:Array Field}{D hq:Nat}{Z:Type}{T:bu Z}(k:Nat)(a:Addr)(off:Nat)(aS:P.underlying t=some (.struct is))(ok:cw P hq T (y+1))(I:nE ops i=some (.fieldAddr t x D,none,some k))
  (am:(is[D]?).map (fun g=>(g.offset,g.type))=some (off,hq)) (F:ad n f x=.pointer (some a)) (h:dj P ops Q rest (act n (ae f k (.pointer (some (a.add off)))) aF) w):dj P ops Q (i::rest) (act n f aF) w:=by
 obtain⟨G,ai,aE,R,ag⟩:=tc I;obtain⟨g,Pr,he⟩:=Option.map_eq_some_iff.1 am;cases he;exact a5 k ai R ag (lX aE aS Pr rfl ok (by omega) F) h
theorem aLp{t:TypeId}{Z:Type}{T:bu Z}{a:Addr}{u:Z}(k:Nat)(ab:L T a w u)(ok:cw P t T y)(I:nE ops i=some (.load t x,none,some k))(F:ad n f x=.pointer (some a))(h:dj P ops Q rest (act n (ae f k (T.enc u)) aF) w):dj P ops Q (i::rest) (act n f aF) w:=by
 obtain⟨G,ai,aE,R,ag⟩:=tc I;exact a5 k ai R ag (kb aE ok F ab) h
theorem Iv{p:Option Addr}{a:Addr}(k:Nat)(Y:bK p a)(I:nE ops i=some (.nilCheck x,none,some k))(F:ad n f x=.pointer p)(h:dj P ops Q rest (act n (ae f k (.pointer (some a))) aF) w):dj P ops Q (i::rest) (act n f aF) w:=by
 obtain⟨G,ai,aE,R,ag⟩:=tc I;exact a5 k ai R ag (mf aE (F.trans (congrArg Value.pointer Y))) h
theorem gW{aX:Array Value}{D:Nat}(k:Nat)(v:Value)(I:nE ops i=some (.extract x D,none,some k))(F:ad n f x=.tuple aX)(aK:aX[D]?=some v)(h:dj P ops Q rest (act n (ae f k v) aF) w):dj P ops Q (i::rest) (act n f aF) w:=by
 obtain⟨G,ai,aE,R,ag⟩:=tc I;exact a5 k ai R ag (w2 aE F aK) h
theorem fv{Z:Type}{T:bu Z}{k:FuncId}{lg:List Operand}{nL:Array TypeId}{m:List Value}{d:Option Nat}{aa:Z→World→Prop}(he:dy P k)(I:nE ops i=some (.call { callee:=.value (.func k),args:=lg.toArray,argTypes:=nL },none,d))
  (Y:lg.map (ad n f)=m) (h:M P k m T w aa) (aq:∀ r J,aa r J→dj P ops Q rest (act n (hi f d (T.enc r)) aF) J):dj P ops Q (i::rest) (act n f aF) w:=by
 obtain⟨G,ai,aE,R,ag⟩:=tc I;exact ev ai (.free R) (gU ag (fT aE he Y) h aq)
theorem fE{c:Operand}{p q:Code}{l:Bool}{cf lF:Prop}(h:if l=true then cf else lF)(U:ad n f c=.bool l)(F:l=true→cf→p.wp P Q (act n f aF) w)(aB:l=false→lF→q.wp P Q (act n f aF) w):(Code.cond c p q).wp P Q (act n f aF) w:=L3 U h F aB
theorem l2{Z:Type}{T:bu Z}{aa:Z→World→Prop}{r:Z}{fn:Func}{t:Nat}(h:aa r w)(ab:fn.results=[ResultVar.tmp t].toArray)(he:ad n f (.tmp t)=T.enc r):bodyPost P fn (AY T aa) .ret (act n f []) w:=
 n8 ab (.cons (.tmp rfl) .nil) ⟨r,he,h⟩
theorem Tq{Z:Type}{T:bu Z}{aa:Z→World→Prop}{r:Z}{fn:Func}{t u:Nat}(h:aa r w)(ab:fn.results=[ResultVar.tmp t,.tmp u].toArray)(he:Value.tuple #[ad n f (.tmp t),ad n f (.tmp u)]=T.enc r):bodyPost P fn (AY T aa) .ret (act n f []) w:=
 n8 ab (.cons (.tmp rfl) (.cons (.tmp rfl) .nil)) ⟨r,he,h⟩
theorem Iw{Z:Type}{T:bu Z}{aa:Z→World→Prop}{r:Z}{fn:Func}{t u v:Nat}(h:aa r w)(ab:fn.results=[ResultVar.tmp t,.tmp u,.tmp v].toArray)(he:Value.tuple #[ad n f (.tmp t),ad n f (.tmp u),ad n f (.tmp v)]=T.enc r):bodyPost P fn (AY T aa) .ret (act n f []) w:=
 n8 ab (.cons (.tmp rfl) (.cons (.tmp rfl) (.cons (.tmp rfl) .nil))) ⟨r,he,h⟩
theorem gi(i k:Nat)(v:Value)(ak:ly ops Q)(I:nE ops i=some (.move x,none,some k))(O:ad n f x=v)(h:hc P ops Q ay y (listed.setIfInBounds i true) (act n (ae f k v) aF) w)
  (am:Region.free .any ops listed i=true:=by kernel_rfl) (ab:(Region.ready .any ops listed).contains i=true:=by kernel_rfl):hc P ops Q ay (y+1) listed (act n f aF) w:=by
 obtain⟨G,ai,aE,R,ag⟩:=tc I;exact fg i k ak ai R ag (fun _=>c0 aE O) h am ab
theorem E3(i k:Nat)(v:Value)(ak:ly ops Q)(I:nE ops i=some (.assign x,none,some k))(O:ad n f x=v)(h:hc P ops Q ay y (listed.setIfInBounds i true) (act n (ae f k v) aF) w)
  (am:Region.free .any ops listed i=true:=by kernel_rfl) (ab:(Region.ready .any ops listed).contains i=true:=by kernel_rfl):hc P ops Q ay (y+1) listed (act n f aF) w:=by
 obtain⟨G,ai,aE,R,ag⟩:=tc I;exact fg i k ak ai R ag (fun _=>Ci aE O) h am ab
theorem hr{t:TypeId}{is:Array Field}{D hq yF:Nat}{Z:Type}{T:bu Z}(i k:Nat)(a:Addr)(off:Nat)(aS:P.underlying t=some (.struct is))(ok:cw P hq T (yF+1))(ak:ly ops Q)(I:nE ops i=some (.fieldAddr t x D,none,some k))
  (u6:(is[D]?).map (fun g=>(g.offset,g.type))=some (off,hq)) (F:ad n f x=.pointer (some a)) (h:hc P ops Q ay y (listed.setIfInBounds i true) (act n (ae f k (.pointer (some (a.add off)))) aF) w)
  (am:Region.free .any ops listed i=true:=by kernel_rfl) (ab:(Region.ready .any ops listed).contains i=true:=by kernel_rfl):hc P ops Q ay (y+1) listed (act n f aF) w:=by
 obtain⟨G,ai,aE,R,ag⟩:=tc I;obtain⟨g,Pr,he⟩:=Option.map_eq_some_iff.1 u6;cases he;exact fg i k ak ai R ag (fun _=>lX aE aS Pr rfl ok (by omega) F) h am ab
theorem oe{p:Option Addr}{a:Addr}(i k:Nat)(Y:bK p a)(ak:ly ops Q)(I:nE ops i=some (.nilCheck x,none,some k))(F:ad n f x=.pointer p)(h:hc P ops Q ay y (listed.setIfInBounds i true) (act n (ae f k (.pointer (some a))) aF) w)
  (am:Region.free .any ops listed i=true:=by kernel_rfl) (ab:(Region.ready .any ops listed).contains i=true:=by kernel_rfl):hc P ops Q ay (y+1) listed (act n f aF) w:=by
 obtain⟨G,ai,aE,R,ag⟩:=tc I;exact fg i k ak ai R ag (fun _=>mf aE (F.trans (congrArg Value.pointer Y))) h am ab
theorem ia{t:TypeId}{Z:Type}{T:bu Z}{a:Addr}{u:Z}{yF:Nat}(i k:Nat)(e0:L T a w u)(ok:cw P t T yF)(ak:ly ops Q)(I:nE ops i=some (.load t x,none,some k))(F:ad n f x=.pointer (some a))
  (h:hc P ops Q ((i,fun A=>L T a A u)::ay) y (listed.setIfInBounds i true) (act n (ae f k (T.enc u)) aF) w)
  (am:Region.free .any ops listed i=true:=by kernel_rfl) (ab:(Region.ready .any ops listed).contains i=true:=by kernel_rfl):hc P ops Q ay (y+1) listed (act n f aF) w:=by
 obtain⟨G,ai,aE,R,ag⟩:=tc I;exact tg (i:=i) (d:=some k) (fun A=>L T a A u) ak am ab ai (.free R) ag (fun A ab=>kb aE ok F ab) e0 h
theorem dR{G:Oper}(i k:Nat)(ak:ly ops Q)(ax:ops.toList[i]?=some G)(R:CP n ops f G)(ag:G.dst=some k)(h:hc P ops Q ay y (listed.setIfInBounds i true) (act n (ae f k undef) aF) w)
  (am:Region.free .any ops listed i=true:=by kernel_rfl) (ab:(Region.ready .any ops listed).contains i=true:=by kernel_rfl):hc P ops Q ay (y+1) listed (act n f aF) w:=
 Sa (i:=i) (d:=some k) ak am ab ax R ag h
end
def ag:Code→Nat
 |.region id _ _=>id+1
 |.seq a l=>match ag a with
  |0=>ag l
  |k=>k
 |.cond _ a l=>match ag a with
  |0=>ag l
  |k=>k
 |.block _ c=>ag c
 |.loop c=>ag c
 |.scope c=>ag c
 |_=>0
class b_(P:Program)(t:TypeId){Z:outParam Type}(T:outParam (bu Z))(n:outParam Nat):Prop where
 out:cw P t T n
class eH(P:Program)(t:TypeId)(z:outParam Value)(s l:outParam Nat):Prop where
 out:∃ i,P.info? t=some i∧i.zero=some z∧i.size=s∧i.bytes=l
class bb(P:Program)(t:TypeId)(d:outParam TypeDesc):Prop where
 out:P.underlying t=some d
class NF(P:Program)(t:TypeId)(D:Nat)(off:outParam Nat):Prop where
 out:∃ (is:Array Field) (hq y:Nat) (Z:Type) (T:bu Z),P.underlying t=some (.struct is)∧(is[D]?).map (fun g=>(g.offset,g.type))=some (off,hq)∧cw P hq T (y+1)
theorem cE{P:Program}{t:TypeId}{is:Array Field}{hq y:Nat}{Z:Type}{T:bu Z}(D off:Nat)(aS:P.underlying t=some (.struct is))(ok:cw P hq T y)(hm:y=y-1+1:=by rfl)(am:(is[D]?).map (fun g=>(g.offset,g.type))=some (off,hq):=by rfl):NF P t D off:=
 ⟨is,hq,y-1,Z,T,aS,am,hm▸ok⟩
theorem RR{P:Program}{n:Nat}{f:Nat→Value}{G:Oper}{w:World}{t:TypeId}{x:Operand}{a:Addr}{D off:Nat}(ai:G.op=.fieldAddr t x D)[am:NF P t D off](F:ad n f x=.pointer (some a)):(execOp (ad n f) G).run P w=.ok (.value (.pointer (some (a.add off)))) w:=by
 obtain⟨is,hq,y,Z,T,I,O,aJ⟩:=am.out;obtain⟨g,R,he⟩:=Option.map_eq_some_iff.1 O;cases he;exact lX ai I R rfl aJ (by omega) F
class IS(P:Program)(k:FuncId):Prop where
 out:dy P k
theorem xV{n:Nat}{f:Nat→Value}{ops:Array Oper}{G:Oper}{D d:Nat}{c:Bool}(R:G.guard=some (D,true))(bR:(ops[D]?).bind (·.dst)=some d)(aK:ad n f (.tmp d)=.bool c):tt n ops f G c:=.cq D d true c R bR aK (by simp)
theorem xU{n:Nat}{f:Nat→Value}{ops:Array Oper}{G:Oper}{D d:Nat}{c:Bool}(R:G.guard=some (D,false))(bR:(ops[D]?).bind (·.dst)=some d)(aK:ad n f (.tmp d)=.bool c):tt n ops f G (!c):=.no D d true c R bR aK (by simp)
theorem xW{n:Nat}{f:Nat→Value}{ops:Array Oper}{G:Oper}{D d:Nat}{g c:Bool}(R:G.guard=some (D,true))(bR:(ops[D]?).bind (·.dst)=some d)(aK:ad n f (.tmp d)=mD g (.bool c)):tt n ops f G (g&&c):=.cq D d g c R bR aK rfl
theorem xT{n:Nat}{f:Nat→Value}{ops:Array Oper}{G:Oper}{D d:Nat}{g c:Bool}(R:G.guard=some (D,false))(bR:(ops[D]?).bind (·.dst)=some d)(aK:ad n f (.tmp d)=mD g (.bool c)):tt n ops f G (g&&!c):=.no D d g c R bR aK rfl
theorem bs{P:Program}{k:FuncId}{fn:Func}(h:P.funcs[k]?=some fn)(ao:fn.body.isSome=true:=by rfl) (aL:(fn.name=="runtime.NumGoroutine")=false:=by decide):IS P k:=⟨⟨fn,h,ao,aL⟩⟩
theorem hZ{P:Program}{t:TypeId}{Z:Type}{T:bu Z}{z:Value}{l:Nat}{d:TypeDesc}(ax:∃ i,P.info? t=some i∧i.zero=some z∧i.size=1∧i.bytes=l)(hu:P.underlying t=some d)(ag:wh d=false:=by rfl)(U:∀ x,T.cells x=[T.enc x]:=by intro _; rfl)
  (am:∀ x,(T.enc x).cells=(T.cells x).toArray:=by intro _; rfl) (ai:∀ x,(T.enc x).oneCell'=true:=by intro _; rfl):cw P t T 1:=
 ⟨ax.imp fun _ h=>⟨h.1,h.2.2.1⟩,fun x=>by rw[U x]; rfl,.inr ⟨_,hu,ag,rfl,U⟩,am,fun x v aK=>by rw[U x] at aK; obtain rfl:=List.mem_singleton.1 aK; exact ai x⟩
theorem iJ{P:Program}{t:TypeId}{Z:Type}{c:Z→List Value}{z:Value}{n l:Nat}{d:TypeDesc}(ax:∃ i,P.info? t=some i∧i.zero=some z∧i.size=n∧i.bytes=l)(hu:P.underlying t=some d)(al:∀ x,(c x).length=n)(ai:∀ x,∀ v∈c x,v.oneCell'=true)(ag:wh d=true:=by rfl):cw P t (h3 c) n:=
 ⟨ax.imp fun _ h=>⟨h.1,h.2.2.1⟩,al,.inl ⟨_,hu,ag,fun _=>rfl⟩,fun _=>rfl,ai⟩
abbrev dG(P:Program)(t:TypeId)(z:Value)(s l:Nat):Prop:=∃ i,P.info? t=some i∧i.zero=some z∧i.size=s∧i.bytes=l
abbrev aM:=Option Addr
def ae3:Op→Nat
 |.move _=>0
 |.assign _=>0
 |.nilCheck _=>1
 |.fieldAddr _ _ _=>2
 |.load _ _=>3
 |.store _ _ _=>4
 |.call c=>match c.callee with
  |.value (.func _)=>5
  |.value _=>6
  |_=>7
 |.binOp _ _ _ _ _=>9
 |.unOp _ _ _=>9
 |.extract _ _=>10
 |.pick _ _ _=>11
 |.build _ _=>12
 |.alloc _=>13
 |.convert _ _ _=>14
 |.field _ _ _=>15
 |.indexAddr _ _ _=>16
 |.index _ _ _=>16
 |.slice _ _ _ _ _=>17
 |.lookup _ _ _ _=>18
 |.makeFunc _ _ _=>19
 |.makeInterface _ _=>19
 |.typeAssert _ _ _ _=>19
 |.entry _=>19
 |_=>20
structure nj(p:Prop):Prop where
 it:p
section
variable {P:Program} {Q:Exit→Act→World→Prop} {n:Nat} {f:Nat→Value} {aF:List Deferred} {w J:World} {ops:Array Oper} {c:Code}
def Hg:BinOp→IntKind→Int→Int→Option Value
 |.eql,_,a,l=>some (.bool (a==l))
 |.neq,_,a,l=>some (.bool (a != l))
 |.lss,_,a,l=>some (.bool (decide (a<l)))
 |.leq,_,a,l=>some (.bool (decide (a≤l)))
 |.gtr,_,a,l=>some (.bool (decide (a>l)))
 |.geq,_,a,l=>some (.bool (decide (a≥l)))
 |.add,k,a,l=>some (.int k (k.wrap (a+l)))
 |.sub,k,a,l=>some (.int k (k.wrap (a-l)))
 |.mul,k,a,l=>some (.int k (k.wrap (a*l)))
 |_,_,_,_=>none
theorem aAC{op:BinOp}{k:IntKind}{a l:Int}{v:Value}{t u:TypeId}{G:Oper}{x S:Operand}(h:Hg op k a l=some v)(ai:G.op=.binOp op t x S u)(F:ad n f x=.int k a)(aB:ad n f S=.int k l):(execOp (ad n f) G).run P w=.ok (.value v) w:=by
 cases op<;>first
  |(cases h; done)
  |(cases h; first
    |exact iL ai F aB
    |exact hg ai F aB
    |exact me ai F aB
    |exact La ai F aB
    |exact vA ai F aB
    |exact HQ ai F aB
    |exact pg ai F aB
    |exact yX ai F aB
    |exact RT ai F aB)
def fl(n:Nat)(f:Nat→Value):Op→Option Value
 |.move x=>some (ad n f x)
 |.assign x=>some (ad n f x)
 |.binOp op _ x S _=>match ad n f x,ad n f S with
  |.int k a,.int D l=>bif k==D then Hg op k a l else none
  |_,_=>none
 |.unOp .not _ x=>match ad n f x with
  |.bool l=>some (.bool (!l))
  |_=>none
 |.extract x i=>match ad n f x with
  |.tuple aX=>aX[i]?
  |_=>none
 |_=>none
theorem aET{G:Oper}{op:Op}{v:Value}(ai:G.op=op)(h:fl n f op=some v):(execOp (ad n f) G).run P w=.ok (.value v) w:=by
 unfold fl at h;split at h
 ·cases h; exact c0 ai rfl
 ·cases h; exact Ci ai rfl
 ·rename_i aKM t x S u;split at h
  ·rename_i k a D l aR a9;cases aq:(k==D) with
   |false=>rw[aq] at h; cases h
   |true=>
    rw[aq] at h;have j:k=D:=by simpa using aq
    subst j;exact aAC h ai aR a9
  ·cases h
 ·split at h
  ·rename_i j; cases h; exact rz ai j
  ·cases h
 ·split at h
  ·rename_i j; exact w2 ai j h
  ·cases h
 ·cases h
def acN(ops:Array Oper)(i n:Nat)(f:Nat→Value):Option (Value×Nat):=match ops.toList[i]? with
 |some G=>match G.guard,G.dst with
  |none,some k=>(fl n f G.op).map fun v=>(v,k)
  |_,_=>none
 |none=>none
theorem aHL{i k:Nat}{v:Value}{rest:List Nat}(h:acN ops i n f=some (v,k))(U:dj P ops Q rest (act n (ae f k v) aF) w):dj P ops Q (i::rest) (act n f aF) w:=by
 unfold acN at h;cases ai:ops.toList[i]? with
 |none=>rw[ai] at h; cases h
 |some G=>
  rw[ai] at h;simp only at h;split at h
  ·rename_i fS aR a9;obtain⟨aKR,aK,he⟩:=Option.map_eq_some_iff.1 h;cases he;exact a5 k ai aR a9 (aET rfl aK) U
  ·cases h
theorem bq{D:FuncId}{fn:Func}{m:List Value}{e:Ending→World→Prop}(n:Nat)(am:P.funcs[D]?=some fn)(aL:fn.ntmps=n)(ao:fn.body=some c)(h:c.wp P (bodyPost P fn e) (act n (start m) []) w)(al:Nat.ble m.length n=true:=by rfl):Calls P D m.toArray w e:=
 q3 n am aL ao (Nat.le_of_ble_eq_true al) h
theorem ar3(h:c.wp P Q (act n f aF) w):c.wp P Q (act n f aF) w:=h
theorem aAA{m:List Nat}(h:dj P ops Q m (act n f aF) w):dj P ops Q m (act n f aF) w:=h
theorem hp{G:Oper}{v:Value}(k:Nat)(j:ae3 G.op=k)(h:(execOp (ad n f) G).run P w=.ok (.value v) J):(execOp (ad n f) G).run P w=.ok (.value v) J:=h
theorem wk{x S:Code}(j:c=.seq x S)(h:x.wp P (Exit.then (S.wp P Q) Q) (act n f aF) w):c.wp P Q (act n f aF) w:=by
 subst j; exact wp_seq h
theorem akP{id:Nat}{m:List Nat}(j:c=.region id ops false)(al:List.range ops.size=m)(h:dj P ops Q m (act n f aF) w):c.wp P Q (act n f aF) w:=by
 subst j; exact bz m al h
theorem akK{G:Operand}{x S:Code}{l:Bool}{cf lF:Prop}(j:c=.cond G x S)(h:if l=true then cf else lF)(U:ad n f G=.bool l)(F:l=true→cf→x.wp P Q (act n f aF) w)(aB:l=false→lF→S.wp P Q (act n f aF) w):c.wp P Q (act n f aF) w:=by
 subst j; exact L3 U h F aB
theorem akN{G:Operand}{x S:Code}(j:c=.cond G x S)(U:ad n f G=.bool false)(h:S.wp P Q (act n f aF) w):c.wp P Q (act n f aF) w:=by
 subst j; exact aIQ U h
theorem akQ{G:Operand}{x S:Code}(j:c=.cond G x S)(U:ad n f G=.bool true)(h:x.wp P Q (act n f aF) w):c.wp P Q (act n f aF) w:=by
 subst j; exact aIR U h
theorem akL(j:c=.skip)(h:Q .normal (act n f aF) w):c.wp P Q (act n f aF) w:=by
 subst j; exact wp_skip h
theorem akM{m:Nat}(j:c=.label m)(h:Q .normal (act n f aF) w):c.wp P Q (act n f aF) w:=by
 subst j; exact wp_label h
theorem akJ{m:Nat}(j:c=.exit m)(h:Q (.exit m) (act n f aF) w):c.wp P Q (act n f aF) w:=by
 subst j; exact wp_exit h
theorem Gf(j:c=.ret)(h:Q .ret (act n f aF) w):c.wp P Q (act n f aF) w:=by
 subst j; exact wp_ret h
theorem akI{id:Nat}{x:Code}(j:c=.block id x)(h:x.wp P (Exit.inBlock id Q) (act n f aF) w):c.wp P Q (act n f aF) w:=by
 subst j; exact wp_block h
theorem akO{x:Code}(j:c=.scope x)(h:x.wp P (Exit.noGoto Q) (act n f aF) w):c.wp P Q (act n f aF) w:=by
 subst j; exact wp_scope_straight h
theorem hy{bx:Type}(k:Nat)(eZ:bx→World→Prop)(dw:(Nat→Value)→bx→Nat→Value):∀ ⦃P:Program⦄ ⦃Q:Exit→Act→World→Prop⦄ ⦃n:Nat⦄ ⦃f:Nat→Value⦄ ⦃aF:List Deferred⦄ ⦃w:World⦄ ⦃c x S:Code⦄,c=.seq x S→ag S=k →
  x.wp P (Exit.then (fun a w=>∃ s g,a=act n (dw g s) aF∧eZ s w) Q) (act n f aF) w→(∀ s g w,eZ s w→S.wp P Q (act n (dw g s) aF) w)→c.wp P Q (act n f aF) w:=by
 intro P Q n f aF w c x S j _ F bR;subst j; exact Ar bR F
theorem hf{bx:Type}(k:Nat)(body:bx→World→(bx→World→Prop)→Prop)(dw:(Nat→Value)→bx→Nat→Value):∀ ⦃P:Program⦄ ⦃Q:Exit→Act→World→Prop⦄ ⦃n:Nat⦄ ⦃f:Nat→Value⦄ ⦃aF:List Deferred⦄ ⦃w:World⦄ ⦃c x:Code⦄ ⦃ml:bx⦄,c=.loop x→ag x=k→e2 body ml w→dw f ml=f →
  (∀ (s:bx) (g:Nat→Value) (w:World) (aa:bx→World→Prop),body s w aa→x.wp P (Exit.then (fun cl J=>∃ fB cI,cl=act n (dw cI fB) aF∧aa fB J) Q) (act n (dw g s) aF) w)→c.wp P Q (act n f aF) w:=by
 intro P Q n f aF w c x ml j _ h am ao;subst j; exact s7 am h ao
theorem pQ{bx:Type}(cQ cU:List Nat)(eZ:bx→World→Prop)(dw:(Nat→Value)→bx→Nat→Value):∀ ⦃P:Program⦄ ⦃Q:Exit→Act→World→Prop⦄ ⦃n:Nat⦄ ⦃f:Nat→Value⦄ ⦃aF:List Deferred⦄ ⦃w:World⦄ ⦃ops:Array Oper⦄ ⦃m:List Nat⦄,m=cQ++cU →
  dj P ops (Exit.then (fun a w=>∃ s g,a=act n (dw g s) aF∧eZ s w) Q) cQ (act n f aF) w→(∀ s g w,eZ s w→dj P ops Q cU (act n (dw g s) aF) w)→dj P ops Q m (act n f aF) w:=by
 intro P Q n f aF w ops m j F bR;subst j; exact n9 cQ cU bR F
section
variable {bx:Type}
theorem akg{eZ:Unit→Prop}{dw:(Nat→Value)→Unit→Nat→Value}(h:eZ ())(am:dw f ()=f):∃ s g,act n f aF=act n (dw g s) aF∧eZ s:=⟨(),f,arr am,h⟩
theorem akh{eZ:bx→Prop}{dw:(Nat→Value)→bx→Nat→Value}{a:bx}(h:eZ a)(am:dw f a=f):∃ s g,act n f aF=act n (dw g s) aF∧eZ s:=⟨a,f,arr am,h⟩
end
theorem aki{aO aT:Type}{eZ:aO×aT→Prop}{dw:(Nat→Value)→aO×aT→Nat→Value}{a:aO}{l:aT}(h:eZ (a,l))(am:dw f (a,l)=f):∃ s g,act n f aF=act n (dw g s) aF∧eZ s:=⟨_,f,arr am,h⟩
theorem akj{aO aT C:Type}{eZ:aO×aT×C→Prop}{dw:(Nat→Value)→aO×aT×C→Nat→Value}{a:aO}{l:aT}{c:C}(h:eZ (a,l,c))(am:dw f (a,l,c)=f):∃ s g,act n f aF=act n (dw g s) aF∧eZ s:=⟨_,f,arr am,h⟩
theorem akk{aO aT C K:Type}{eZ:aO×aT×C×K→Prop}{dw:(Nat→Value)→aO×aT×C×K→Nat→Value}{a:aO}{l:aT}{c:C}{d:K}(h:eZ (a,l,c,d))(am:dw f (a,l,c,d)=f):∃ s g,act n f aF=act n (dw g s) aF∧eZ s:=⟨_,f,arr am,h⟩
theorem akl{aO aT C K qQ:Type}{eZ:aO×aT×C×K×qQ→Prop}{dw:(Nat→Value)→aO×aT×C×K×qQ→Nat→Value}{a:aO}{l:aT}{c:C}{d:K}{j:qQ}(h:eZ (a,l,c,d,j))(am:dw f (a,l,c,d,j)=f):∃ s g,act n f aF=act n (dw g s) aF∧eZ s:=⟨_,f,arr am,h⟩
theorem akm{aO aT C K qQ aU:Type}{eZ:aO×aT×C×K×qQ×aU→Prop}{dw:(Nat→Value)→aO×aT×C×K×qQ×aU→Nat→Value}{a:aO}{l:aT}{c:C}{d:K}{j:qQ}{u:aU}(h:eZ (a,l,c,d,j,u))(am:dw f (a,l,c,d,j,u)=f):∃ s g,act n f aF=act n (dw g s) aF∧eZ s:=⟨_,f,arr am,h⟩
theorem aGq{fn:Func}{aa:Unit→World→Prop}(h:aa () w)(ab:fn.results=#[]):bodyPost P fn (AY dZ aa) .ret (act n f []) w:=n8 (an:=[]) ab .nil ⟨(),rfl,h⟩
theorem amw{fn:Func}{aa:Unit→World→Prop}(h:aa () w)(ab:fn.results=#[]):bodyPost P fn (AY dZ aa) .normal (act n f []) w:=Yw (an:=[]) ab .nil ⟨(),rfl,h⟩
theorem aGr{Z:Type}{T:bu Z}{aa:Z→World→Prop}{r:Z}{fn:Func}{t u v x:Nat}(h:aa r w)(ab:fn.results=[ResultVar.tmp t,.tmp u,.tmp v,.tmp x].toArray)(he:Value.tuple #[ad n f (.tmp t),ad n f (.tmp u),ad n f (.tmp v),ad n f (.tmp x)]=T.enc r):bodyPost P fn (AY T aa) .ret (act n f []) w:=
 n8 ab (.cons (.tmp rfl) (.cons (.tmp rfl) (.cons (.tmp rfl) (.cons (.tmp rfl) .nil)))) ⟨r,he,h⟩
section
variable {i k:Nat} {m rest:List Nat} {G:Oper} {ay:Prop}
theorem DI{Z:Type}{C aa:Z→Prop}(h:ex C aa)(U:∀ x,C x→aa x→ay):ay:=by
 obtain⟨x,I,O⟩:=h;exact U x I O
theorem DJ{Z:Type}{C aa:Z→Prop}(h:ex C aa)(U:∀ x,C x→aa x→dj P ops Q m (act n f aF) w):dj P ops Q m (act n f aF) w:=DI h U
theorem anH{Z:Type}{T:bu Z}{aa:Z→Prop}{a:Addr}{t:TypeId}{s:Nat}{x:Operand}(ax:Hq ops i=some (t,x,k))(ok:cw P t T s)(h:ex (L T a w) aa)(F:ad n f x=.pointer (some a))
  (U:∀ u,L T a w u→aa u→dj P ops Q rest (act n (ae f k (T.enc u)) aF) w):dj P ops Q (i::rest) (act n f aF) w:=hV ok h ax F U
theorem anI{aa:Addr→Prop}{p:Option Addr}{x:Operand}(ax:QX ops i=some (x,k))(h:ex (bK p) aa)(F:ad n f x=.pointer p)
  (U:∀ a,bK p a→aa a→dj P ops Q rest (act n (ae f k (.pointer (some a))) aF) w):dj P ops Q (i::rest) (act n f aF) w:=Ou h ax F U
theorem anF{Z:Type}{T:bu Z}{aa:Addr→World→Prop}{t:TypeId}{s az:Nat}{u:Z}(ax:NX ops i=some (t,k))(ok:cw P t T s)(va:∃ i,P.info? t=some i∧i.zero=some (T.enc u)∧i.size=s∧i.bytes=az)(h:bO t T u w aa)
  (U:∀ a J,aa a J→dj P ops Q rest (act n (ae f k (.pointer (some a))) aF) J):dj P ops Q (i::rest) (act n f aF) w:=o0 ok va h ax U
theorem anJ{Z:Type}{T:bu Z}{aa:World→Prop}{t:TypeId}{s:Nat}{x S:Operand}{a:Addr}{u:Z}(ax:Su ops i=some (t,x,S))(ok:cw P t T s)(h:bd T a u w aa)(F:ad n f x=.pointer (some a))(aB:ad n f S=T.enc u)
  (U:∀ J,aa J→dj P ops Q rest (act n f aF) J):dj P ops Q (i::rest) (act n f aF) w:=jS ok h ax F aB U
theorem anG{Z:Type}{T:bu Z}{D:FuncId}{lg:List Operand}{nL:Array TypeId}{m:List Value}{d:Option Nat}{aa:Z→World→Prop}(I:nE ops i=some (.call { callee:=.value (.func D),args:=lg.toArray,argTypes:=nL },none,d))(he:dy P D)(h:M P D m T w aa)
  (Y:lg.map (ad n f)=m) (aq:∀ r J,aa r J→dj P ops Q rest (act n (hi f d (T.enc r)) aF) J):dj P ops Q (i::rest) (act n f aF) w:=fv he I Y h aq
theorem aHK(j:m=[])(h:Q .normal (act n f aF) w):dj P ops Q m (act n f aF) w:=by
 subst j; exact bh h
theorem aeU{v:Value}(ax:ops.toList[i]?=some G)(R:G.guard=none)(ag:G.dst=some k)(aK:(execOp (ad n f) G).run P w=.ok (.value v) w)
  (h:dj P ops Q rest (act n (ae f k v) aF) w):dj P ops Q (i::rest) (act n f aF) w:=a5 k ax R ag aK h
theorem Aw{v:Value}{g:Bool}(ax:ops.toList[i]?=some G)(R:tt n ops f G g)(ag:G.dst=some k)(aK:g=true→(execOp (ad n f) G).run P w=.ok (.value v) w)
  (h:dj P ops Q rest (act n (ae f k (mD g v)) aF) w):dj P ops Q (i::rest) (act n f aF) w:=b9 (d:=some k) ax R ag aK h
theorem vI{v:Value}(ax:ops.toList[i]?=some G)(al:uF n ops f G)(ag:G.dst=some k)(aK:(execOp (ad n f) G).run P w=.ok (.value v) J)
  (h:dj P ops Q rest (act n (ae f k v) aF) J):dj P ops Q (i::rest) (act n f aF) w:=eT (d:=some k) ax al ag aK h
theorem pY{l:Bool}{cf lF:Prop}(h:if l=true then cf else lF)(F:nj (l=true)→cf→dj P ops Q m (act n f aF) w)(aB:nj (l=false)→lF→dj P ops Q m (act n f aF) w):dj P ops Q m (act n f aF) w:=
 jh h (fun j=>F ⟨j⟩) fun j=>aB ⟨j⟩
def Zk(ops:Array Oper)(i:Nat):Nat:=match ops.toList[i]? with
 |some G=>match G.guard with
  |none=>0
  |some (_,true)=>1
  |some (_,false)=>2
 |none=>3
def SH(ops:Array Oper)(i:Nat):Nat:=match ops.toList[i]? with
 |some G=>ae3 G.op
 |none=>99
theorem Qj(k:Nat)(j:Zk ops i=k)(h:dj P ops Q (i::rest) (act n f aF) w):dj P ops Q (i::rest) (act n f aF) w:=h
theorem pN(k:Nat)(j:SH ops i=k)(h:dj P ops Q (i::rest) (act n f aF) w):dj P ops Q (i::rest) (act n f aF) w:=h
theorem aFS{D d:Nat}{c tI:Bool}{cf lF:Prop}(ax:ops.toList[i]?=some G)(R:G.guard=some (D,tI))(bR:(ops[D]?).bind (·.dst)=some d)(aK:ad n f (.tmp d)=.bool c)(h:if c=true then cf else lF)
  (F:nj (c=true)→cf→dj P ops Q (i::rest) (act n f aF) w) (aB:nj (c=false)→lF→dj P ops Q (i::rest) (act n f aF) w):dj P ops Q (i::rest) (act n f aF) w:=
 jh h (fun j=>F ⟨j⟩) fun j=>aB ⟨j⟩
theorem aJn{t:TypeId}{D off:Nat}{x:Operand}{a:Addr}(I:nE ops i=some (.fieldAddr t x D,none,some k))[am:NF P t D off](F:ad n f x=.pointer (some a))(h:dj P ops Q rest (act n (ae f k (.pointer (some (a.add off)))) aF) w):dj P ops Q (i::rest) (act n f aF) w:=by
 obtain⟨G,ai,aE,R,ag⟩:=tc I;exact a5 k ai R ag (RR aE F) h
theorem aeT{v:Value}{D d:Nat}{l c:Bool}(ax:ops.toList[i]?=some G)(R:G.guard=some (D,l))(bR:(ops[D]?).bind (·.dst)=some d)(G7:ad n f (.tmp d)=.bool c)(Y:nj (c=l))(ag:G.dst=some k)(aK:(execOp (ad n f) G).run P w=.ok (.value v) w)
  (h:dj P ops Q rest (act n (ae f k v) aF) w):dj P ops Q (i::rest) (act n f aF) w:=eT (d:=some k) ax (.az D l d c R bR G7 Y.it) ag aK h
theorem aHN{D d:Nat}{l c:Bool}(ax:ops.toList[i]?=some G)(R:G.guard=some (D,l))(bR:(ops[D]?).bind (·.dst)=some d)(aK:ad n f (.tmp d)=.bool c)(Y:nj (c=!l))(h:dj P ops Q rest (act n (hi f G.dst undef) aF) w):dj P ops Q (i::rest) (act n f aF) w:=
 du ax (.az D l d c R bR aK Y.it) rfl h
theorem aHM{D d:Nat}{l:Bool}(ax:ops.toList[i]?=some G)(R:G.guard=some (D,l))(bR:(ops[D]?).bind (·.dst)=some d)(aK:ad n f (.tmp d)=undef)(h:dj P ops Q rest (act n (hi f G.dst undef) aF) w):dj P ops Q (i::rest) (act n f aF) w:=
 du ax (.undef D l d R bR aK) rfl h
end
end
inductive zr where
 |j
 |c (i:Nat) (r:zr)
 |l (i D:Nat) (r s:zr)
 |d (i D k:Nat) (r s t:zr)
def dB:List Nat→zr→zr
 |[],G=>G
 |i::m,G=>.c i (dB m G)
def hb(_:zr)(P:Program)(ops:Array Oper)(Q:Exit→Act→World→Prop)(ay:List (Nat×(World→Prop)))(y:Nat)(listed:Array Bool)(a:Act)(w:World):Prop:=hc P ops Q ay y listed a w
section
variable {P:Program} {Q:Exit→Act→World→Prop} {n i k y:Nat} {f:Nat→Value} {aF:List Deferred} {w J:World} {ops:Array Oper} {hA r s t:zr} {listed:Array Bool} {ay:List (Nat×(World→Prop))} {G:Oper} {v:Value}
theorem ar4(h:hb hA P ops Q ay y listed (act n f aF) w):hb hA P ops Q ay y listed (act n f aF) w:=h
theorem aAz{aa:Act→World→Prop}(h:my P ops Q i aa (act n f aF) w):my P ops Q i aa (act n f aF) w:=h
theorem Cd{aa:Act→World→Prop}(k:Nat)(j:SH ops i=k)(h:my P ops Q i aa (act n f aF) w):my P ops Q i aa (act n f aF) w:=h
theorem en(k:Nat)(hA:zr):∀ ⦃P:Program⦄ ⦃Q:Exit→Act→World→Prop⦄ ⦃n:Nat⦄ ⦃f:Nat→Value⦄ ⦃aF:List Deferred⦄ ⦃w:World⦄ ⦃c:Code⦄ ⦃id y:Nat⦄ ⦃ops:Array Oper⦄ ⦃aa:World→Prop⦄,c=.region id ops true→id+1=k→dl w aa→P.follows .mixedOrders=true→ops.size=y→Region.noSelect ops=true →
  (∀ c a d v w,Q (.panic c) (Act.put a d v) w→Q (.panic c) a w)→(∀ w,aa w→ly ops Q→hb hA P ops Q [] y (Array.replicate y false) (act n f aF) w)→c.wp P Q (act n f aF) w:=by
 intro P Q n f aF w c id y ops aa j _ h hm al aG ec U;subst j;obtain⟨J,hw,h⟩:=ov h;exact pq y hm al aG ec hw fun ak=>U J h ak
theorem iT{Z:Type}{C aa:Z→Prop}(h:ex C aa)(U:∀ x,C x→aa x→hb hA P ops Q ay y listed (act n f aF) w):hb hA P ops Q ay y listed (act n f aF) w:=by
 obtain⟨x,I,O⟩:=h;exact U x I O
theorem Qw(k:Nat)(j:hA=.c i r)(aq:Zk ops i=k)(h:hb (.c i r) P ops Q ay y listed (act n f aF) w):hb hA P ops Q ay y listed (act n f aF) w:=h
theorem aBe(k:Nat)(aq:SH ops i=k)(h:hb (.c i r) P ops Q ay y listed (act n f aF) w):hb (.c i r) P ops Q ay y listed (act n f aF) w:=h
theorem aI8(j:hA=.j)(h:Q .normal (act n f aF) w)(ab:Region.ready .any ops listed=[]):hb hA P ops Q ay y listed (act n f aF) w:=kL ab h
theorem afO(j:hA=.c i r)(ax:ops.toList[i]?=some G)(R:G.guard=none)(ag:G.dst=some k)(ak:ly ops Q)(aK:∀ w,(execOp (ad n f) G).run P w=.ok (.value v) w)(h:hb r P ops Q ay y (listed.setIfInBounds i true) (act n (ae f k v) aF) w)
  (am:Region.free .any ops listed i=true) (ab:(Region.ready .any ops listed).contains i=true):hb hA P ops Q ay (y+1) listed (act n f aF) w:=fg i k ak ax R ag aK h am ab
theorem aJb{Z:Type}{T:bu Z}{a:Addr}{t ar:Nat}{x:Operand}{aa:Z→Prop}(j:hA=.c i r)(al:Hq ops i=some (t,x,k))[ok:b_ P t T ar](h:ex (L T a w) aa)(ak:ly ops Q)(F:ad n f x=.pointer (some a))(am:Region.free .any ops listed i=true)(ab:(Region.ready .any ops listed).contains i=true)
  (U:∀ u,L T a w u→aa u→hb r P ops Q ((i,fun A=>L T a A u)::ay) y (listed.setIfInBounds i true) (act n (ae f k (T.enc u)) aF) w):hb hA P ops Q ay (y+1) listed (act n f aF) w:=by
 obtain⟨u,hu,ca⟩:=h;unfold Hq at al;cases ai:ops.toList[i]? with
 |none=>rw[ai] at al; cases al
 |some G=>
  rw[ai] at al;simp only at al;split at al
  ·rename_i S fS th aR a9 df;cases al;exact tg (d:=some _) (fun A=>L T a A u) ak am ab ai (.free a9) df (fun A ab=>kb aR ok.out F ab) hu (U u hu ca)
  ·cases al
theorem afP{D d:Nat}{l c:Bool}(j:hA=.c i r)(ax:ops.toList[i]?=some G)(R:G.guard=some (D,l))(bR:(ops[D]?).bind (·.dst)=some d)(G7:ad n f (.tmp d)=.bool c)(Y:nj (c=l))(ag:G.dst=some k)(ak:ly ops Q)(aK:∀ w,(execOp (ad n f) G).run P w=.ok (.value v) w)(h:hb r P ops Q ay y (listed.setIfInBounds i true) (act n (ae f k v) aF) w)
  (am:Region.free .any ops listed i=true) (ab:(Region.ready .any ops listed).contains i=true):hb hA P ops Q ay (y+1) listed (act n f aF) w:=eS (d:=some k) ak am ab ax (.az D l d c R bR G7 Y.it) ag aK h
theorem L9{W:World→Prop}(e0:W w)(j:hA=.c i r)(ax:ops.toList[i]?=some G)(R:G.guard=none)(ag:G.dst=some k)(ak:ly ops Q)(aK:∀ w,W w→(execOp (ad n f) G).run P w=.ok (.value v) w)(h:hb r P ops Q ((i,W)::ay) y (listed.setIfInBounds i true) (act n (ae f k v) aF) w)
  (am:Region.free .any ops listed i=true) (ab:(Region.ready .any ops listed).contains i=true):hb hA P ops Q ay (y+1) listed (act n f aF) w:=tg (d:=some k) W ak am ab ax (.free R) ag aK e0 h
theorem Is{W:World→Prop}{D d:Nat}{l c:Bool}(e0:W w)(j:hA=.c i r)(ax:ops.toList[i]?=some G)(R:G.guard=some (D,l))(bR:(ops[D]?).bind (·.dst)=some d)(G7:ad n f (.tmp d)=.bool c)(Y:nj (c=l))(ag:G.dst=some k)(ak:ly ops Q)(aK:∀ w,W w→(execOp (ad n f) G).run P w=.ok (.value v) w)(h:hb r P ops Q ((i,W)::ay) y (listed.setIfInBounds i true) (act n (ae f k v) aF) w)
  (am:Region.free .any ops listed i=true) (ab:(Region.ready .any ops listed).contains i=true):hb hA P ops Q ay (y+1) listed (act n f aF) w:=tg (d:=some k) W ak am ab ax (.az D l d c R bR G7 Y.it) ag aK e0 h
theorem aJe{D d:Nat}{l c:Bool}(j:hA=.c i r)(ax:ops.toList[i]?=some G)(R:G.guard=some (D,l))(bR:(ops[D]?).bind (·.dst)=some d)(aK:ad n f (.tmp d)=.bool c)(Y:nj (c=!l))(ak:ly ops Q)(h:hb r P ops Q ay y (listed.setIfInBounds i true) (act n (hi f G.dst undef) aF) w)
  (am:Region.free .any ops listed i=true) (ab:(Region.ready .any ops listed).contains i=true):hb hA P ops Q ay (y+1) listed (act n f aF) w:=Sa ak am ab ax (.az D l d c R bR aK Y.it) rfl h
theorem aJd{D d:Nat}{l:Bool}(j:hA=.c i r)(ax:ops.toList[i]?=some G)(R:G.guard=some (D,l))(bR:(ops[D]?).bind (·.dst)=some d)(aK:ad n f (.tmp d)=undef)(ak:ly ops Q)(h:hb r P ops Q ay y (listed.setIfInBounds i true) (act n (hi f G.dst undef) aF) w)
  (am:Region.free .any ops listed i=true) (ab:(Region.ready .any ops listed).contains i=true):hb hA P ops Q ay (y+1) listed (act n f aF) w:=Sa ak am ab ax (.undef D l d R bR aK) rfl h
theorem AL{g:Bool}(j:hA=.c i r)(ax:ops.toList[i]?=some G)(R:tt n ops f G g)(ag:G.dst=some k)(ak:ly ops Q)(aK:g=true→∀ w,(execOp (ad n f) G).run P w=.ok (.value v) w)(h:hb r P ops Q ay y (listed.setIfInBounds i true) (act n (ae f k (mD g v)) aF) w)
  (am:Region.free .any ops listed i=true) (ab:(Region.ready .any ops listed).contains i=true):hb hA P ops Q ay (y+1) listed (act n f aF) w:=Sb (d:=some k) ak am ab ax R ag aK h
theorem od{g:Bool}{W:World→Prop}(e0:g=true→W w)(j:hA=.c i r)(ax:ops.toList[i]?=some G)(R:tt n ops f G g)(ag:G.dst=some k)(ak:ly ops Q)(aK:g=true→∀ w,W w→(execOp (ad n f) G).run P w=.ok (.value v) w)(h:hb r P ops Q ((i,fun w=>g=true→W w)::ay) y (listed.setIfInBounds i true) (act n (ae f k (mD g v)) aF) w)
  (am:Region.free .any ops listed i=true) (ab:(Region.ready .any ops listed).contains i=true):hb hA P ops Q ay (y+1) listed (act n f aF) w:=aFW (d:=some k) W ak am ab ax R ag aK e0 h
theorem aJc(j:hA=.c i r)(h:my P ops Q i (fun cl J=>(∀ x∈ay,waits ops i x.1=false→x.2 w→x.2 J)∧hb r P ops Q ay y (listed.setIfInBounds i true) cl J) (act n f aF) w)(ab:Region.ready .any ops listed=[i]):hb hA P ops Q ay (y+1) listed (act n f aF) w:=fo ab h
theorem aI6{D:Nat}{aO aT:Prop}(j:hA=.l i D r s)(h:sH aO aT)(I:aO→my P ops Q i (fun cl J=>(∀ x∈ay,waits ops i x.1=false→x.2 w→x.2 J)∧hb r P ops Q ay y (listed.setIfInBounds i true) cl J) (act n f aF) w)
  (O:aT→my P ops Q D (fun cl J=>(∀ x∈ay,waits ops D x.1=false→x.2 w→x.2 J)∧hb s P ops Q ay y (listed.setIfInBounds D true) cl J) (act n f aF) w) (ab:Region.ready .any ops listed=[i,D]):hb hA P ops Q ay (y+1) listed (act n f aF) w:=ad7 ab (I h.1) (O h.2)
theorem aI7{D m:Nat}{aO aT C:Prop}(j:hA=.d i D m r s t)(h:sH aO (sH aT C))(I:aO→my P ops Q i (fun cl J=>(∀ x∈ay,waits ops i x.1=false→x.2 w→x.2 J)∧hb r P ops Q ay y (listed.setIfInBounds i true) cl J) (act n f aF) w)
  (O:aT→my P ops Q D (fun cl J=>(∀ x∈ay,waits ops D x.1=false→x.2 w→x.2 J)∧hb s P ops Q ay y (listed.setIfInBounds D true) cl J) (act n f aF) w)
  (aJ:C→my P ops Q m (fun cl J=>(∀ x∈ay,waits ops m x.1=false→x.2 w→x.2 J)∧hb t P ops Q ay y (listed.setIfInBounds m true) cl J) (act n f aF) w) (ab:Region.ready .any ops listed=[i,D,m]):hb hA P ops Q ay (y+1) listed (act n f aF) w:=aFX ab (I h.1) (O h.2.1) (aJ h.2.2)
theorem aJa{D d:Nat}{c tI:Bool}{cf lF:Prop}(j:hA=.c i r)(ax:ops.toList[i]?=some G)(R:G.guard=some (D,tI))(bR:(ops[D]?).bind (·.dst)=some d)(aK:ad n f (.tmp d)=.bool c)(h:if c=true then cf else lF)
  (F:nj (c=true)→cf→hb hA P ops Q ay y listed (act n f aF) w) (aB:nj (c=false)→lF→hb hA P ops Q ay y listed (act n f aF) w):hb hA P ops Q ay y listed (act n f aF) w:=
 jh h (fun j=>F ⟨j⟩) fun j=>aB ⟨j⟩
theorem aI9{l:Bool}{cf lF:Prop}(h:if l=true then cf else lF)(F:nj (l=true)→cf→hb hA P ops Q ay y listed (act n f aF) w)(aB:nj (l=false)→lF→hb hA P ops Q ay y listed (act n f aF) w):hb hA P ops Q ay y listed (act n f aF) w:=
 jh h (fun j=>F ⟨j⟩) fun j=>aB ⟨j⟩
section
variable {D:Nat} {W:World→Prop} {cf:Prop}
theorem aCB{p:Prop}(h:nj (true=false)):p:=by cases h.it
theorem aCC{p:Prop}(h:nj (false=true)):p:=by cases h.it
theorem ar5(h:(∀ x∈ay,waits ops D x.1=false→x.2 w→x.2 J)∧cf):(∀ x∈ay,waits ops D x.1=false→x.2 w→x.2 J)∧cf:=h
theorem aBp(h:cf):(∀ x∈([]:List (Nat×(World→Prop))),waits ops D x.1=false→x.2 w→x.2 J)∧cf:=⟨iv,h⟩
theorem aBq(h:(∀ x∈ay,waits ops D x.1=false→x.2 w→x.2 J)∧cf)(hw:waits ops D i=true):(∀ x∈(i,W)::ay,waits ops D x.1=false→x.2 w→x.2 J)∧cf:=⟨hl hw h.1,h.2⟩
theorem BV(aG:W w→W J)(h:(∀ x∈ay,waits ops D x.1=false→x.2 w→x.2 J)∧cf):(∀ x∈(i,W)::ay,waits ops D x.1=false→x.2 w→x.2 J)∧cf:=⟨fL aG h.1,h.2⟩
theorem aBo{aO aT:Prop}(h:bE aO aT)(U:aO→aT→(∀ x∈ay,waits ops D x.1=false→x.2 w→x.2 J)∧cf):(∀ x∈ay,waits ops D x.1=false→x.2 w→x.2 J)∧cf:=U h.1 h.2
end
end
structure kZ where
 hE:Int
 gD:Nat
 kX:Nat
 jA:Int
def kZ.cells(x:kZ):List Value:=[.int .i64 (x.hE),.float .f64 (x.gD),.float .f64 (x.kX),.int .i64 (x.jA)]
@[reducible] def ha:bu kZ:=h3 kZ.cells
@[reducible] def W6:kZ:=⟨(0:Int),(0:Nat),(0:Nat),(0:Int)⟩
structure mz where
 aC:Int
 fF:Int
 fx:Int
 b:Int
def mz.cells(x:mz):List Value:=[.int .i64 (x.aC),.int .i64 (x.fF),.int .i64 (x.fx),.int .i64 (x.b)]
@[reducible] def gk:bu mz:=h3 mz.cells
@[reducible] def A_:mz:=⟨(0:Int),(0:Int),(0:Int),(0:Int)⟩
structure oj where
 Kind:Int
 aO:Int
 aT:Int
 b:Int
 cf:mz
 N:af
 gC:af
def oj.cells(x:oj):List Value:=[.int .i64 (x.Kind),.int .i64 (x.aO),.int .i64 (x.aT),.int .i64 (x.b)]++(mz.cells (x.cf)++([X.enc (x.N),X.enc (x.gC)]))
@[reducible] def hO:bu oj:=h3 oj.cells
@[reducible] def Ba:oj:=⟨(0:Int),(0:Int),(0:Int),(0:Int),A_,(⟨none,0,0⟩:af),(⟨none,0,0⟩:af)⟩
structure bg where
 aC:Int
 oh:Int
 b5:Int
def bg.cells(x:bg):List Value:=[.int .i64 (x.aC),.int .i64 (x.oh),.int .i64 (x.b5)]
@[reducible] def kl:bu bg:=h3 bg.cells
@[reducible] def ajS:bg:=⟨(0:Int),(0:Int),(0:Int)⟩
structure iz where
 aC:Int
 cd:Int
 b:Int
 ib:Bool
def iz.cells(x:iz):List Value:=[.int .i64 (x.aC),.int .i64 (x.cd),.int .i64 (x.b),.bool (x.ib)]
@[reducible] def g0:bu iz:=h3 iz.cells
@[reducible] def zy:iz:=⟨(0:Int),(0:Int),(0:Int),false⟩
structure ir where
 Kind:Int
 Part:iz
 jP:Bool
 b5:Int
def ir.cells(x:ir):List Value:=[.int .i64 (x.Kind)]++(iz.cells (x.Part)++([.bool (x.jP),.int .i64 (x.b5)]))
@[reducible] def eJ:bu ir:=h3 ir.cells
@[reducible] def uL:ir:=⟨(0:Int),zy,false,(0:Int)⟩
structure gZ where
 aC:Int
 fF:Int
 fx:Int
 o:ir
def gZ.cells(x:gZ):List Value:=[.int .i64 (x.aC),.int .i64 (x.fF),.int .i64 (x.fx)]++(ir.cells (x.o))
@[reducible] def eC:bu gZ:=h3 gZ.cells
@[reducible] def lb:gZ:=⟨(0:Int),(0:Int),(0:Int),uL⟩
structure mU where
 aGH:aM
def mU.cells(x:mU):List Value:=[.pointer (x.aGH)]
@[reducible] def dz:bu mU:=h3 mU.cells
@[reducible] def W9:mU:=⟨(none:Option Addr)⟩
structure tB where
 aEb:mU
 eD:Nat
 fD:Int
 held:(Option Nat)
 busy:(Option Nat)
 dX:(Option Nat)
def tB.cells(x:tB):List Value:=mU.cells (x.aEb)++([.float .f64 (x.eD),.int .i64 (x.fD),.map (x.held),.map (x.busy),.map (x.dX)])
@[reducible] def A8:bu tB:=h3 tB.cells
@[reducible] def ajT:tB:=⟨W9,(0:Nat),(0:Int),(none:Option Nat),(none:Option Nat),(none:Option Nat)⟩
structure mA where
 vW:Int
 N:af
def mA.cells(x:mA):List Value:=[.int .i64 (x.vW),X.enc (x.N)]
@[reducible] def p_:bu mA:=h3 mA.cells
@[reducible] def W_:mA:=⟨(0:Int),(⟨none,0,0⟩:af)⟩
structure fw where
 Key:Int
 V:Int
def fw.cells(x:fw):List Value:=[.int .i64 (x.Key),.int .i64 (x.V)]
@[reducible] def hP:bu fw:=h3 fw.cells
@[reducible] def Di:fw:=⟨(0:Int),(0:Int)⟩
structure uI where
 clock:aM
 cG:Int
 Gk:aM
 source:aM
 aG0:aM
 log:aM
 aEF:(Option Nat)
 sure:(Option Nat)
 out:af
def uI.cells(x:uI):List Value:=[.pointer (x.clock),.int .i64 (x.cG),.pointer (x.Gk),.pointer (x.source),.pointer (x.aG0),.pointer (x.log),.map (x.aEF),.map (x.sure),X.enc (x.out)]
@[reducible] def A0:bu uI:=h3 uI.cells
@[reducible] def ajG:uI:=⟨(none:Option Addr),(0:Int),(none:Option Addr),(none:Option Addr),(none:Option Addr),(none:Option Addr),(none:Option Nat),(none:Option Nat),(⟨none,0,0⟩:af)⟩
structure qT where
 h9:Int
 gQ:Int
def qT.cells(x:qT):List Value:=[.int .i64 (x.h9),.int .i64 (x.gQ)]
@[reducible] def lD:bu qT:=h3 qT.cells
@[reducible] def nQ:qT:=⟨(0:Int),(0:Int)⟩
structure rL where
 eu:kZ
 now:Int
 nodes:af
 aZ:aM
 known:(Option Nat)
 told:af
def rL.cells(x:rL):List Value:=kZ.cells (x.eu)++([.int .i64 (x.now),X.enc (x.nodes),.pointer (x.aZ),.map (x.known),X.enc (x.told)])
@[reducible] def A1:bu rL:=h3 rL.cells
@[reducible] def ajH:rL:=⟨W6,(0:Int),(⟨none,0,0⟩:af),(none:Option Addr),(none:Option Nat),(⟨none,0,0⟩:af)⟩
structure rM where
 Part:iz
 b5:Int
 uE:Int
def rM.cells(x:rM):List Value:=iz.cells (x.Part)++([.int .i64 (x.b5),.int .i64 (x.uE)])
@[reducible] def iB:bu rM:=h3 rM.cells
@[reducible] def qV:rM:=⟨zy,(0:Int),(0:Int)⟩
structure jz where
 gS:Int
 jx:Int
def jz.cells(x:jz):List Value:=[.int .i64 (x.gS),.int .i64 (x.jx)]
@[reducible] def cO:bu jz:=h3 jz.cells
@[reducible] def jB:jz:=⟨(0:Int),(0:Int)⟩
structure jN where
 Kind:Int
 b5:Int
 aC:Int
 cd:Int
 b:Int
 ib:Bool
def jN.cells(x:jN):List Value:=[.int .i64 (x.Kind),.int .i64 (x.b5),.int .i64 (x.aC),.int .i64 (x.cd),.int .i64 (x.b),.bool (x.ib)]
@[reducible] def fN:bu jN:=h3 jN.cells
@[reducible] def Dh:jN:=⟨(0:Int),(0:Int),(0:Int),(0:Int),(0:Int),false⟩
structure xu where
 ajF:aM
 v:aM
def xu.cells(x:xu):List Value:=[.pointer (x.ajF),.pointer (x.v)]
@[reducible] def A2:bu xu:=h3 xu.cells
@[reducible] def ajI:xu:=⟨(none:Option Addr),(none:Option Addr)⟩
structure tx where
 h5:Int
 y:ir
def tx.cells(x:tx):List Value:=[.int .i64 (x.h5)]++(ir.cells (x.y))
@[reducible] def v8:bu tx:=h3 tx.cells
@[reducible] def NR:tx:=⟨(0:Int),uL⟩
structure oV where
def oV.cells(x:oV):List Value:=[]
@[reducible] def fq:bu oV:=h3 oV.cells
@[reducible] def qW:oV:=⟨⟩
structure ty where
 at_:Int
 h4:Int
 width:Int
 set:Bool
def ty.cells(x:ty):List Value:=[.int .i64 (x.at_),.int .i64 (x.h4),.int .i64 (x.width),.bool (x.set)]
@[reducible] def A3:bu ty:=h3 ty.cells
@[reducible] def F1:ty:=⟨(0:Int),(0:Int),(0:Int),false⟩
structure tz where
 dk:ty
 eD:Nat
 last:Int
 floor:Int
def tz.cells(x:tz):List Value:=ty.cells (x.dk)++([.float .f64 (x.eD),.int .i64 (x.last),.int .i64 (x.floor)])
@[reducible] def A4:bu tz:=h3 tz.cells
@[reducible] def ajJ:tz:=⟨F1,(0:Nat),(0:Int),(0:Int)⟩
structure xv where
 nodes:Int
 qA:Int
 m:af
 off:(Option Nat)
def xv.cells(x:xv):List Value:=[.int .i64 (x.nodes),.int .i64 (x.qA),X.enc (x.m),.map (x.off)]
@[reducible] def Da:bu xv:=h3 xv.cells
@[reducible] def ajK:xv:=⟨(0:Int),(0:Int),(⟨none,0,0⟩:af),(none:Option Nat)⟩
structure v5 where
 cS:af
 lH:Int
 down:Bool
 ef:Int
 bG:af
def v5.cells(x:v5):List Value:=[X.enc (x.cS),.int .i64 (x.lH),.bool (x.down),.int .i64 (x.ef),X.enc (x.bG)]
@[reducible] def A5:bu v5:=h3 v5.cells
@[reducible] def ajL:v5:=⟨(⟨none,0,0⟩:af),(0:Int),false,(0:Int),(⟨none,0,0⟩:af)⟩
structure mT where
 Kind:Int
 c6:Int
 aW:Int
 aU:Nat
 W:(List UInt8)
def mT.cells(x:mT):List Value:=[.int .i64 (x.Kind),.int .u64 (x.c6),.int .i64 (x.aW),.float .f64 (x.aU),.string ⟨(x.W).toArray⟩]
@[reducible] def gj:bu mT:=h3 mT.cells
@[reducible] def tD:mT:=⟨(0:Int),(0:Int),(0:Int),(0:Nat),([]:List UInt8)⟩
structure lA where
 said:Bool
 cq:Bool
 gQ:Int
def lA.cells(x:lA):List Value:=[.bool (x.said),.bool (x.cq),.int .i64 (x.gQ)]
@[reducible] def mV:bu lA:=h3 lA.cells
@[reducible] def qX:lA:=⟨false,false,(0:Int)⟩
structure sC where
 aIY:mz
 aIr:(Vector lA 2)
 ajX:(Vector Bool 2)
 b4:Int
 at_:Int
def sC.cells(x:sC):List Value:=mz.cells (x.aIY)++((x.aIr).toList.flatMap mV.cells++((x.ajX).toList.flatMap bk.cells++([.int .i64 (x.b4),.int .i64 (x.at_)])))
@[reducible] def Db:bu sC:=h3 sC.cells
@[reducible] def ajM:sC:=⟨A_,(Vector.replicate 2 qX),(Vector.replicate 2 false),(0:Int),(0:Int)⟩
structure xw where
 ak1:(Option Nat)
 closed:Int
 mark:Int
def xw.cells(x:xw):List Value:=[.map (x.ak1),.int .i64 (x.closed),.int .i64 (x.mark)]
@[reducible] def p9:bu xw:=h3 xw.cells
@[reducible] def ajN:xw:=⟨(none:Option Nat),(0:Int),(0:Int)⟩
structure xx where
 last:Int
def xx.cells(x:xx):List Value:=[.int .i64 (x.last)]
@[reducible] def Dc:bu xx:=h3 xx.cells
@[reducible] def ajO:xx:=⟨(0:Int)⟩
structure sD where
 all:Int
 sure:Int
def sD.cells(x:sD):List Value:=[.int .i64 (x.all),.int .i64 (x.sure)]
@[reducible] def A6:bu sD:=h3 sD.cells
@[reducible] def W7:sD:=⟨(0:Int),(0:Int)⟩
structure tA where
 counts:sD
 d:aM
 log:Int
 dead:Bool
def tA.cells(x:tA):List Value:=sD.cells (x.counts)++([.pointer (x.d),.int .i64 (x.log),.bool (x.dead)])
@[reducible] def A7:bu tA:=h3 tA.cells
@[reducible] def ajP:tA:=⟨W7,(none:Option Addr),(0:Int),false⟩
structure v6 where
 N8:af
 at_:Int
def v6.cells(x:v6):List Value:=[X.enc (x.N8),.int .i64 (x.at_)]
@[reducible] def Dd:bu v6:=h3 v6.cells
@[reducible] def ajQ:v6:=⟨(⟨none,0,0⟩:af),(0:Int)⟩
structure j3 where
 amq:Int
def j3.cells(x:j3):List Value:=[.int .i64 (x.amq)]
@[reducible] def jO:bu j3:=h3 j3.cells
@[reducible] def F2:j3:=⟨(0:Int)⟩
structure zu where
 N8:af
 sure:Int
def zu.cells(x:zu):List Value:=[X.enc (x.N8),.int .i64 (x.sure)]
@[reducible] def De:bu zu:=h3 zu.cells
@[reducible] def W8:zu:=⟨(⟨none,0,0⟩:af),(0:Int)⟩
structure eI where
 b5:Int
 V:Int
def eI.cells(x:eI):List Value:=[.int .i64 (x.b5),.int .i64 (x.V)]
@[reducible] def dJ:bu eI:=h3 eI.cells
@[reducible] def kn:eI:=⟨(0:Int),(0:Int)⟩
structure xy where
 m:af
 mark:Int
def xy.cells(x:xy):List Value:=[X.enc (x.m),.int .i64 (x.mark)]
@[reducible] def v9:bu xy:=h3 xy.cells
@[reducible] def ajR:xy:=⟨(⟨none,0,0⟩:af),(0:Int)⟩
theorem aaJ:dG Pg 2 (.int .i64 ((0:Int))) 1 8:=dI (by kernel_rfl)
theorem c4:cw Pg 2 (B .i64) 1:=hZ aaJ Tryz.underlying2
theorem Kg:dG Pg 3 (.int .i64 ((0:Int))) 1 8:=dI (by kernel_rfl)
theorem ds:cw Pg 3 (B .i64) 1:=hZ Kg Tryz.underlying3
theorem aaW:dG Pg 4 (.bool (false)) 1 1:=dI (by kernel_rfl)
theorem oC:cw Pg 4 bk 1:=hZ aaW Tryz.underlying4
theorem aaZ:dG Pg 5 (.int .u8 ((0:Int))) 1 1:=dI (by kernel_rfl)
theorem HF:cw Pg 5 (B .u8) 1:=hZ aaZ Tryz.underlying5
theorem aA2:dG Pg 9 (.string ⟨(([]:List UInt8)).toArray⟩) 1 16:=dI (by kernel_rfl)
theorem KW:cw Pg 9 qF 1:=hZ aA2 Tryz.underlying9
theorem aAO:dG Pg 22 (.float .f64 ((0:Nat))) 1 8:=dI (by kernel_rfl)
theorem qm:cw Pg 22 gP 1:=hZ aAO Tryz.underlying22
theorem aaQ:dG Pg 24 (ha.enc (W6)) 4 32:=dI (by kernel_rfl)
theorem aBX(x:kZ):(ha.cells x).length=4:=by rfl
theorem acd(x:kZ):∀ v∈ha.cells x,v.oneCell'=true:=List.all_eq_true.1 rfl
theorem yL:cw Pg 24 ha 4:=iJ aaQ Tryz.underlying24 aBX acd
theorem aAP:dG Pg 26 (.pointer ((none:Option Addr))) 1 8:=dI (by kernel_rfl)
theorem aDi:cw Pg 26 aD 1:=hZ aAP Tryz.underlying26
theorem Qr:dG Pg 31 (gk.enc (A_)) 4 32:=dI (by kernel_rfl)
theorem Kr(x:mz):(gk.cells x).length=4:=by rfl
theorem Ri(x:mz):∀ v∈gk.cells x,v.oneCell'=true:=List.all_eq_true.1 rfl
theorem HE:cw Pg 31 gk 4:=iJ Qr Tryz.underlying31 Kr Ri
theorem aAQ:dG Pg 32 (X.enc ((⟨none,0,0⟩:af))) 1 24:=dI (by kernel_rfl)
theorem abX:cw Pg 32 X 1:=hZ aAQ Tryz.underlying32
theorem aAS:dG Pg 33 (X.enc ((⟨none,0,0⟩:af))) 1 24:=dI (by kernel_rfl)
theorem Rd:cw Pg 33 X 1:=hZ aAS Tryz.underlying33
theorem aaV:dG Pg 35 (hO.enc (Ba)) 10 112:=dI (by kernel_rfl)
theorem QJ(x:oj):(hO.cells x).length=10:=by rfl
theorem aDN(x:oj):∀ v∈hO.cells x,v.oneCell'=true:=by
 show ∀ v∈oj.cells x,v.oneCell'=true
 simp only[oj.cells,List.forall_mem_append,List.forall_mem_cons,List.forall_mem_nil]
 exact⟨⟨rfl,rfl,rfl,rfl,fun _ h=>absurd h (List.not_mem_nil)⟩,Ri _,⟨rfl,rfl,fun _ h=>absurd h (List.not_mem_nil)⟩⟩
theorem Cb:cw Pg 35 hO 10:=iJ aaV Tryz.underlying35 QJ aDN
theorem aAT:dG Pg 36 (.pointer ((none:Option Addr))) 1 8:=dI (by kernel_rfl)
theorem abZ:cw Pg 36 aD 1:=hZ aAT Tryz.underlying36
theorem aAU:dG Pg 38 (.int .i64 ((0:Int))) 1 8:=dI (by kernel_rfl)
theorem Ev:cw Pg 38 (B .i64) 1:=hZ aAU Tryz.underlying38
theorem Qs:dG Pg 43 (.int .i64 ((0:Int))) 1 8:=dI (by kernel_rfl)
theorem w0:cw Pg 43 (B .i64) 1:=hZ Qs Tryz.underlying43
theorem aaX:dG Pg 46 (((qE (B .i64) 60).enc (Vector.replicate 60 (0:Int)))) 60 480:=dI (by kernel_rfl)
theorem aDn:cw Pg 46 (qE (B .i64) 60) 60:=⟨(aaX).imp fun _ h=>⟨h.1,h.2.2.1⟩,fun x=>by simp[DM ds.len],.inl ⟨_,Tryz.underlying46,rfl,fun _=>rfl⟩,fun _=>rfl,fun x v aK=>by obtain⟨S,_,aB⟩:=List.mem_flatMap.1 aK; exact ds.one S v aB⟩
theorem aaY:dG Pg 47 (((qE (B .i64) 60).enc (Vector.replicate 60 (0:Int)))) 60 480:=dI (by kernel_rfl)
theorem aDo:cw Pg 47 (qE (B .i64) 60) 60:=⟨(aaY).imp fun _ h=>⟨h.1,h.2.2.1⟩,fun x=>by simp[DM c4.len],.inl ⟨_,Tryz.underlying47,rfl,fun _=>rfl⟩,fun _=>rfl,fun x v aK=>by obtain⟨S,_,aB⟩:=List.mem_flatMap.1 aK; exact c4.one S v aB⟩
theorem aAV:dG Pg 50 (X.enc ((⟨none,0,0⟩:af))) 1 24:=dI (by kernel_rfl)
theorem ab0:cw Pg 50 X 1:=hZ aAV Tryz.underlying50
theorem Qt:dG Pg 53 (kl.enc (ajS)) 3 24:=dI (by kernel_rfl)
theorem aB2(x:bg):(kl.cells x).length=3:=by rfl
theorem aDO(x:bg):∀ v∈kl.cells x,v.oneCell'=true:=List.all_eq_true.1 rfl
theorem yM:cw Pg 53 kl 3:=iJ Qt Tryz.underlying53 aB2 aDO
theorem aAW:dG Pg 56 (X.enc ((⟨none,0,0⟩:af))) 1 24:=dI (by kernel_rfl)
theorem ab1:cw Pg 56 X 1:=hZ aAW Tryz.underlying56
theorem Hi:dG Pg 60 (g0.enc (zy)) 4 32:=dI (by kernel_rfl)
theorem Ks(x:iz):(g0.cells x).length=4:=by rfl
theorem Rj(x:iz):∀ v∈g0.cells x,v.oneCell'=true:=List.all_eq_true.1 rfl
theorem Ew:cw Pg 60 g0 4:=iJ Hi Tryz.underlying60 Ks Rj
theorem Kh:dG Pg 62 (eJ.enc (uL)) 7 56:=dI (by kernel_rfl)
theorem Kt(x:ir):(eJ.cells x).length=7:=by rfl
theorem Rk(x:ir):∀ v∈eJ.cells x,v.oneCell'=true:=by
 show ∀ v∈ir.cells x,v.oneCell'=true
 simp only[ir.cells,List.forall_mem_append,List.forall_mem_cons,List.forall_mem_nil]
 exact⟨⟨rfl,fun _ h=>absurd h (List.not_mem_nil)⟩,Rj _,⟨rfl,rfl,fun _ h=>absurd h (List.not_mem_nil)⟩⟩
theorem Ex:cw Pg 62 eJ 7:=iJ Kh Tryz.underlying62 Kt Rk
theorem Ki:dG Pg 64 (eC.enc (lb)) 10 80:=dI (by kernel_rfl)
theorem wQ(x:gZ):(eC.cells x).length=10:=by rfl
theorem aDP(x:gZ):∀ v∈eC.cells x,v.oneCell'=true:=by
 show ∀ v∈gZ.cells x,v.oneCell'=true
 simp only[gZ.cells,List.forall_mem_append,List.forall_mem_cons,List.forall_mem_nil]
 exact⟨⟨rfl,rfl,rfl,fun _ h=>absurd h (List.not_mem_nil)⟩,Rk _⟩
theorem HG:cw Pg 64 eC 10:=iJ Ki Tryz.underlying64 wQ aDP
theorem aAX:dG Pg 65 (.pointer ((none:Option Addr))) 1 8:=dI (by kernel_rfl)
theorem ab2:cw Pg 65 aD 1:=hZ aAX Tryz.underlying65
theorem aa0:dG Pg 67 (dz.enc (W9)) 1 8:=dI (by kernel_rfl)
theorem aB3(x:mU):(dz.cells x).length=1:=by rfl
theorem ace(x:mU):∀ v∈dz.cells x,v.oneCell'=true:=List.all_eq_true.1 rfl
theorem sb:cw Pg 67 dz 1:=iJ aa0 Tryz.underlying67 aB3 ace
theorem aAY:dG Pg 68 (.map ((none:Option Nat))) 1 8:=dI (by kernel_rfl)
theorem ab3:cw Pg 68 ek 1:=hZ aAY Tryz.underlying68
theorem aAZ:dG Pg 69 (.map ((none:Option Nat))) 1 8:=dI (by kernel_rfl)
theorem ab4:cw Pg 69 ek 1:=hZ aAZ Tryz.underlying69
theorem aA0:dG Pg 70 (.map ((none:Option Nat))) 1 8:=dI (by kernel_rfl)
theorem ab5:cw Pg 70 ek 1:=hZ aA0 Tryz.underlying70
theorem aa1:dG Pg 72 (A8.enc (ajT)) 6 48:=dI (by kernel_rfl)
theorem aB4(x:tB):(A8.cells x).length=6:=by rfl
theorem aDQ(x:tB):∀ v∈A8.cells x,v.oneCell'=true:=by
 show ∀ v∈tB.cells x,v.oneCell'=true
 simp only[tB.cells,List.forall_mem_append,List.forall_mem_cons,List.forall_mem_nil]
 exact⟨ace _,⟨rfl,rfl,rfl,rfl,rfl,fun _ h=>absurd h (List.not_mem_nil)⟩⟩
theorem aDp:cw Pg 72 A8 6:=iJ aa1 Tryz.underlying72 aB4 aDQ
theorem aA1:dG Pg 83 (X.enc ((⟨none,0,0⟩:af))) 1 24:=dI (by kernel_rfl)
theorem Ey:cw Pg 83 X 1:=hZ aA1 Tryz.underlying83
theorem Qu:dG Pg 85 (p_.enc (W_)) 2 32:=dI (by kernel_rfl)
theorem aB5(x:mA):(p_.cells x).length=2:=by rfl
theorem aDR(x:mA):∀ v∈p_.cells x,v.oneCell'=true:=List.all_eq_true.1 rfl
theorem Re:cw Pg 85 p_ 2:=iJ Qu Tryz.underlying85 aB5 aDR
theorem Qv:dG Pg 87 (hP.enc (Di)) 2 16:=dI (by kernel_rfl)
theorem QK(x:fw):(hP.cells x).length=2:=by rfl
theorem aDS(x:fw):∀ v∈hP.cells x,v.oneCell'=true:=List.all_eq_true.1 rfl
theorem ab6:cw Pg 87 hP 2:=iJ Qv Tryz.underlying87 QK aDS
theorem Kj:dG Pg 89 (.pointer ((none:Option Addr))) 1 8:=dI (by kernel_rfl)
theorem Rf:cw Pg 89 aD 1:=hZ Kj Tryz.underlying89
theorem aA3:dG Pg 92 (.pointer ((none:Option Addr))) 1 8:=dI (by kernel_rfl)
theorem Ez:cw Pg 92 aD 1:=hZ aA3 Tryz.underlying92
theorem aA4:dG Pg 93 (.pointer ((none:Option Addr))) 1 8:=dI (by kernel_rfl)
theorem HH:cw Pg 93 aD 1:=hZ aA4 Tryz.underlying93
theorem aA5:dG Pg 94 (.pointer ((none:Option Addr))) 1 8:=dI (by kernel_rfl)
theorem KX:cw Pg 94 aD 1:=hZ aA5 Tryz.underlying94
theorem aA6:dG Pg 95 (.pointer ((none:Option Addr))) 1 8:=dI (by kernel_rfl)
theorem EA:cw Pg 95 aD 1:=hZ aA6 Tryz.underlying95
theorem aA7:dG Pg 96 (.pointer ((none:Option Addr))) 1 8:=dI (by kernel_rfl)
theorem Rg:cw Pg 96 aD 1:=hZ aA7 Tryz.underlying96
theorem aA8:dG Pg 97 (.map ((none:Option Nat))) 1 8:=dI (by kernel_rfl)
theorem ab7:cw Pg 97 ek 1:=hZ aA8 Tryz.underlying97
theorem aA9:dG Pg 98 (.map ((none:Option Nat))) 1 8:=dI (by kernel_rfl)
theorem KY:cw Pg 98 ek 1:=hZ aA9 Tryz.underlying98
theorem aBa:dG Pg 99 (X.enc ((⟨none,0,0⟩:af))) 1 24:=dI (by kernel_rfl)
theorem ab8:cw Pg 99 X 1:=hZ aBa Tryz.underlying99
theorem aay:dG Pg 101 (A0.enc (ajG)) 9 88:=dI (by kernel_rfl)
theorem aBK(x:uI):(A0.cells x).length=9:=by rfl
theorem aDq(x:uI):∀ v∈A0.cells x,v.oneCell'=true:=List.all_eq_true.1 rfl
theorem abQ:cw Pg 101 A0 9:=iJ aay Tryz.underlying101 aBK aDq
theorem Ke:dG Pg 104 (lD.enc (nQ)) 2 16:=dI (by kernel_rfl)
theorem Hr(x:qT):(lD.cells x).length=2:=by rfl
theorem aDr(x:qT):∀ v∈lD.cells x,v.oneCell'=true:=List.all_eq_true.1 rfl
theorem aC4:cw Pg 104 lD 2:=iJ Ke Tryz.underlying104 Hr aDr
theorem aaz:dG Pg 107 ((cm.nil).enc) 1 8:=dI (by kernel_rfl)
theorem aC5:cw Pg 107 gg 1:=⟨(aaz).imp fun _ h=>⟨h.1,h.2.2.1⟩,fun _=>rfl,.inr ⟨_,Tryz.underlying107,rfl,rfl,fun _=>rfl⟩,fun x=>cm.flat _,fun x v aK=>by obtain rfl:=List.mem_singleton.1 aK; exact cm.one _⟩
theorem aAG:dG Pg 111 (X.enc ((⟨none,0,0⟩:af))) 1 24:=dI (by kernel_rfl)
theorem Eu:cw Pg 111 X 1:=hZ aAG Tryz.underlying111
theorem aAH:dG Pg 112 (.pointer ((none:Option Addr))) 1 8:=dI (by kernel_rfl)
theorem KU:cw Pg 112 aD 1:=hZ aAH Tryz.underlying112
theorem aaA:dG Pg 114 (A1.enc (ajH)) 9 104:=dI (by kernel_rfl)
theorem aBL(x:rL):(A1.cells x).length=9:=by rfl
theorem aDs(x:rL):∀ v∈A1.cells x,v.oneCell'=true:=by
 show ∀ v∈rL.cells x,v.oneCell'=true
 simp only[rL.cells,List.forall_mem_append,List.forall_mem_cons,List.forall_mem_nil]
 exact⟨acd _,⟨rfl,rfl,rfl,rfl,rfl,fun _ h=>absurd h (List.not_mem_nil)⟩⟩
theorem abR:cw Pg 114 A1 9:=iJ aaA Tryz.underlying114 aBL aDs
theorem aAI:dG Pg 127 (.pointer ((none:Option Addr))) 1 8:=dI (by kernel_rfl)
theorem Qm:dG Pg 135 (iB.enc (qV)) 6 48:=dI (by kernel_rfl)
theorem Ed(x:rM):(iB.cells x).length=6:=by rfl
theorem aDt(x:rM):∀ v∈iB.cells x,v.oneCell'=true:=by
 show ∀ v∈rM.cells x,v.oneCell'=true
 simp only[rM.cells,List.forall_mem_append,List.forall_mem_cons,List.forall_mem_nil]
 exact⟨Rj _,⟨rfl,rfl,fun _ h=>absurd h (List.not_mem_nil)⟩⟩
theorem aC6:cw Pg 135 iB 6:=iJ Qm Tryz.underlying135 Ed aDt
theorem BT:dG Pg 137 (cO.enc (jB)) 2 16:=dI (by kernel_rfl)
theorem pc(x:jz):(cO.cells x).length=2:=by rfl
theorem aDu(x:jz):∀ v∈cO.cells x,v.oneCell'=true:=List.all_eq_true.1 rfl
theorem oB:cw Pg 137 cO 2:=iJ BT Tryz.underlying137 pc aDu
theorem wI:dG Pg 142 (fN.enc (Dh)) 6 48:=dI (by kernel_rfl)
theorem Ee(x:jN):(fN.cells x).length=6:=by rfl
theorem aDv(x:jN):∀ v∈fN.cells x,v.oneCell'=true:=List.all_eq_true.1 rfl
theorem r_:cw Pg 142 fN 6:=iJ wI Tryz.underlying142 Ee aDv
theorem aaB:dG Pg 143 ((cm.nil).enc) 1 8:=dI (by kernel_rfl)
theorem aC7:cw Pg 143 gg 1:=⟨(aaB).imp fun _ h=>⟨h.1,h.2.2.1⟩,fun _=>rfl,.inr ⟨_,Tryz.underlying143,rfl,rfl,fun _=>rfl⟩,fun x=>cm.flat _,fun x v aK=>by obtain rfl:=List.mem_singleton.1 aK; exact cm.one _⟩
theorem aaC:dG Pg 146 (.map ((none:Option Nat))) 1 8:=dI (by kernel_rfl)
theorem aC8:cw Pg 146 ek 1:=hZ aaC Tryz.underlying146
theorem aaD:dG Pg 150 (A2.enc (ajI)) 2 16:=dI (by kernel_rfl)
theorem aBM(x:xu):(A2.cells x).length=2:=by rfl
theorem aDw(x:xu):∀ v∈A2.cells x,v.oneCell'=true:=List.all_eq_true.1 rfl
theorem aC9:cw Pg 150 A2 2:=iJ aaD Tryz.underlying150 aBM aDw
theorem Qn:dG Pg 161 (v8.enc (NR)) 8 64:=dI (by kernel_rfl)
theorem abt(x:tx):(v8.cells x).length=8:=by rfl
theorem aDx(x:tx):∀ v∈v8.cells x,v.oneCell'=true:=by
 show ∀ v∈tx.cells x,v.oneCell'=true
 simp only[tx.cells,List.forall_mem_append,List.forall_mem_cons,List.forall_mem_nil]
 exact⟨⟨rfl,fun _ h=>absurd h (List.not_mem_nil)⟩,Rk _⟩
theorem aDa:cw Pg 161 v8 8:=iJ Qn Tryz.underlying161 abt aDx
theorem Qo:dG Pg 164 (fq.enc (qW)) 0 0:=dI (by kernel_rfl)
theorem aBN(x:oV):(fq.cells x).length=0:=by rfl
theorem aDy(x:oV):∀ v∈fq.cells x,v.oneCell'=true:=by
 show ∀ v∈oV.cells x,v.oneCell'=true
 simp only[oV.cells,List.forall_mem_append,List.forall_mem_cons,List.forall_mem_nil]
 exact fun _ h=>absurd h (List.not_mem_nil)
theorem aDb:cw Pg 164 fq 0:=iJ Qo Tryz.underlying164 aBN aDy
theorem aaE:dG Pg 173 (A3.enc (F1)) 4 32:=dI (by kernel_rfl)
theorem aBO(x:ty):(A3.cells x).length=4:=by rfl
theorem aca(x:ty):∀ v∈A3.cells x,v.oneCell'=true:=List.all_eq_true.1 rfl
theorem yK:cw Pg 173 A3 4:=iJ aaE Tryz.underlying173 aBO aca
theorem aaF:dG Pg 175 (A4.enc (ajJ)) 7 56:=dI (by kernel_rfl)
theorem aBP(x:tz):(A4.cells x).length=7:=by rfl
theorem aDz(x:tz):∀ v∈A4.cells x,v.oneCell'=true:=by
 show ∀ v∈tz.cells x,v.oneCell'=true
 simp only[tz.cells,List.forall_mem_append,List.forall_mem_cons,List.forall_mem_nil]
 exact⟨aca _,⟨rfl,rfl,rfl,fun _ h=>absurd h (List.not_mem_nil)⟩⟩
theorem aDc:cw Pg 175 A4 7:=iJ aaF Tryz.underlying175 aBP aDz
theorem aaG:dG Pg 178 (Da.enc (ajK)) 4 48:=dI (by kernel_rfl)
theorem aBQ(x:xv):(Da.cells x).length=4:=by rfl
theorem aDA(x:xv):∀ v∈Da.cells x,v.oneCell'=true:=List.all_eq_true.1 rfl
theorem aDd:cw Pg 178 Da 4:=iJ aaG Tryz.underlying178 aBQ aDA
theorem aAJ:dG Pg 180 (X.enc ((⟨none,0,0⟩:af))) 1 24:=dI (by kernel_rfl)
theorem abS:cw Pg 180 X 1:=hZ aAJ Tryz.underlying180
theorem aaH:dG Pg 182 (A5.enc (ajL)) 5 72:=dI (by kernel_rfl)
theorem aBR(x:v5):(A5.cells x).length=5:=by rfl
theorem aDB(x:v5):∀ v∈A5.cells x,v.oneCell'=true:=List.all_eq_true.1 rfl
theorem aDe:cw Pg 182 A5 5:=iJ aaH Tryz.underlying182 aBR aDB
theorem aaI:dG Pg 189 (X.enc ((⟨none,0,0⟩:af))) 1 24:=dI (by kernel_rfl)
theorem vr:cw Pg 189 X 1:=hZ aaI Tryz.underlying189
theorem Qp:dG Pg 190 (X.enc ((⟨none,0,0⟩:af))) 1 24:=dI (by kernel_rfl)
theorem vs:cw Pg 190 X 1:=hZ Qp Tryz.underlying190
theorem aAK:dG Pg 194 (.int .i64 ((0:Int))) 1 8:=dI (by kernel_rfl)
theorem wZ:cw Pg 194 (B .i64) 1:=hZ aAK Tryz.underlying194
theorem aAL:dG Pg 195 (.int .u64 ((0:Int))) 1 8:=dI (by kernel_rfl)
theorem sa:cw Pg 195 (B .u64) 1:=hZ aAL Tryz.underlying195
theorem wJ:dG Pg 197 (gj.enc (tD)) 5 48:=dI (by kernel_rfl)
theorem abu(x:mT):(gj.cells x).length=5:=by rfl
theorem aDC(x:mT):∀ v∈gj.cells x,v.oneCell'=true:=List.all_eq_true.1 rfl
theorem lT:cw Pg 197 gj 5:=iJ wJ Tryz.underlying197 abu aDC
theorem Qq:dG Pg 210 (mV.enc (qX)) 3 16:=dI (by kernel_rfl)
theorem BX(x:lA):(mV.cells x).length=3:=by rfl
theorem aDD(x:lA):∀ v∈mV.cells x,v.oneCell'=true:=List.all_eq_true.1 rfl
theorem KV:cw Pg 210 mV 3:=iJ Qq Tryz.underlying210 BX aDD
theorem aAM:dG Pg 211 ((qE mV 2).enc ((Vector.replicate 2 qX))) 6 32:=dI (by kernel_rfl)
theorem Ra:cw Pg 211 (qE mV 2) 6:=⟨(aAM).imp fun _ h=>⟨h.1,h.2.2.1⟩,fun x=>by simp[DM KV.len],.inl ⟨_,Tryz.underlying211,rfl,fun _=>rfl⟩,fun _=>rfl,fun x v aK=>by obtain⟨S,_,aB⟩:=List.mem_flatMap.1 aK; exact KV.one S v aB⟩
theorem aaK:dG Pg 212 ((qE bk 2).enc ((Vector.replicate 2 false))) 2 2:=dI (by kernel_rfl)
theorem Rb:cw Pg 212 (qE bk 2) 2:=⟨(aaK).imp fun _ h=>⟨h.1,h.2.2.1⟩,fun x=>by simp[DM oC.len],.inl ⟨_,Tryz.underlying212,rfl,fun _=>rfl⟩,fun _=>rfl,fun x v aK=>by obtain⟨S,_,aB⟩:=List.mem_flatMap.1 aK; exact oC.one S v aB⟩
theorem aaL:dG Pg 214 (Db.enc (ajM)) 14 88:=dI (by kernel_rfl)
theorem aBS(x:sC):(Db.cells x).length=14:=by
 show (sC.cells x).length=14
 simp only[sC.cells,List.length_append,List.length_cons,List.length_nil,Vector.length_toList,DM KV.len,DM oC.len,show ∀ S,(mz.cells S).length=4 from Kr]
theorem aDE(x:sC):∀ v∈Db.cells x,v.oneCell'=true:=by
 show ∀ v∈sC.cells x,v.oneCell'=true
 simp only[sC.cells,List.forall_mem_append,List.forall_mem_cons,List.forall_mem_nil]
 exact⟨Ri _,Ra.one _,Rb.one _,⟨rfl,rfl,fun _ h=>absurd h (List.not_mem_nil)⟩⟩
theorem aDf:cw Pg 214 Db 14:=iJ aaL Tryz.underlying214 aBS aDE
theorem aAN:dG Pg 216 (.map ((none:Option Nat))) 1 8:=dI (by kernel_rfl)
theorem abT:cw Pg 216 ek 1:=hZ aAN Tryz.underlying216
theorem aaM:dG Pg 218 (p9.enc (ajN)) 3 24:=dI (by kernel_rfl)
theorem aBT(x:xw):(p9.cells x).length=3:=by rfl
theorem aDF(x:xw):∀ v∈p9.cells x,v.oneCell'=true:=List.all_eq_true.1 rfl
theorem aDg:cw Pg 218 p9 3:=iJ aaM Tryz.underlying218 aBT aDF
theorem aaN:dG Pg 223 (Dc.enc (ajO)) 1 8:=dI (by kernel_rfl)
theorem aBU(x:xx):(Dc.cells x).length=1:=by rfl
theorem aDG(x:xx):∀ v∈Dc.cells x,v.oneCell'=true:=List.all_eq_true.1 rfl
theorem aDh:cw Pg 223 Dc 1:=iJ aaN Tryz.underlying223 aBU aDG
theorem aaO:dG Pg 236 (A6.enc (W7)) 2 16:=dI (by kernel_rfl)
theorem aBV(x:sD):(A6.cells x).length=2:=by rfl
theorem acb(x:sD):∀ v∈A6.cells x,v.oneCell'=true:=List.all_eq_true.1 rfl
theorem abU:cw Pg 236 A6 2:=iJ aaO Tryz.underlying236 aBV acb
theorem aaP:dG Pg 238 (A7.enc (ajP)) 5 40:=dI (by kernel_rfl)
theorem aBW(x:tA):(A7.cells x).length=5:=by rfl
theorem aDH(x:tA):∀ v∈A7.cells x,v.oneCell'=true:=by
 show ∀ v∈tA.cells x,v.oneCell'=true
 simp only[tA.cells,List.forall_mem_append,List.forall_mem_cons,List.forall_mem_nil]
 exact⟨acb _,⟨rfl,rfl,rfl,fun _ h=>absurd h (List.not_mem_nil)⟩⟩
theorem abV:cw Pg 238 A7 5:=iJ aaP Tryz.underlying238 aBW aDH
theorem aaR:dG Pg 257 (Dd.enc (ajQ)) 2 32:=dI (by kernel_rfl)
theorem aBY(x:v6):(Dd.cells x).length=2:=by rfl
theorem aDI(x:v6):∀ v∈Dd.cells x,v.oneCell'=true:=List.all_eq_true.1 rfl
theorem abW:cw Pg 257 Dd 2:=iJ aaR Tryz.underlying257 aBY aDI
theorem Hh:dG Pg 259 (jO.enc (F2)) 1 8:=dI (by kernel_rfl)
theorem aBZ(x:j3):(jO.cells x).length=1:=by rfl
theorem aDJ(x:j3):∀ v∈jO.cells x,v.oneCell'=true:=List.all_eq_true.1 rfl
theorem Rc:cw Pg 259 jO 1:=iJ Hh Tryz.underlying259 aBZ aDJ
theorem aaS:dG Pg 278 (De.enc (W8)) 2 32:=dI (by kernel_rfl)
theorem aB0(x:zu):(De.cells x).length=2:=by rfl
theorem aDK(x:zu):∀ v∈De.cells x,v.oneCell'=true:=List.all_eq_true.1 rfl
theorem aDj:cw Pg 278 De 2:=iJ aaS Tryz.underlying278 aB0 aDK
theorem aaT:dG Pg 290 (.pointer ((none:Option Addr))) 1 8:=dI (by kernel_rfl)
theorem aDk:cw Pg 290 aD 1:=hZ aaT Tryz.underlying290
theorem Kf:dG Pg 292 (dJ.enc (kn)) 2 16:=dI (by kernel_rfl)
theorem qi(x:eI):(dJ.cells x).length=2:=by rfl
theorem aDL(x:eI):∀ v∈dJ.cells x,v.oneCell'=true:=List.all_eq_true.1 rfl
theorem aDl:cw Pg 292 dJ 2:=iJ Kf Tryz.underlying292 qi aDL
theorem aAR:dG Pg 326 (X.enc ((⟨none,0,0⟩:af))) 1 24:=dI (by kernel_rfl)
theorem abY:cw Pg 326 X 1:=hZ aAR Tryz.underlying326
theorem aaU:dG Pg 328 (v9.enc (ajR)) 2 32:=dI (by kernel_rfl)
theorem aB1(x:xy):(v9.cells x).length=2:=by rfl
theorem aDM(x:xy):∀ v∈v9.cells x,v.oneCell'=true:=List.all_eq_true.1 rfl
theorem aDm:cw Pg 328 v9 2:=iJ aaU Tryz.underlying328 aB1 aDM
theorem OE:dy Pg 7:=⟨_,Tryz.func7,rfl,by decide⟩
theorem Jv:dy Pg 8:=⟨_,Tryz.func8,rfl,by decide⟩
theorem OF:dy Pg 9:=⟨_,Tryz.func9,rfl,by decide⟩
theorem amx:dy Pg 10:=⟨_,Tryz.func10,rfl,by decide⟩
theorem amA:dy Pg 11:=⟨_,Tryz.func11,rfl,by decide⟩
theorem amD:dy Pg 12:=⟨_,Tryz.func12,rfl,by decide⟩
theorem Yy:dy Pg 13:=⟨_,Tryz.func13,rfl,by decide⟩
theorem Yz:dy Pg 14:=⟨_,Tryz.func14,rfl,by decide⟩
theorem DG:dy Pg 15:=⟨_,Tryz.func15,rfl,by decide⟩
theorem Js:dy Pg 16:=⟨_,Tryz.func16,rfl,by decide⟩
theorem YA:dy Pg 17:=⟨_,Tryz.func17,rfl,by decide⟩
theorem OA:dy Pg 18:=⟨_,Tryz.func18,rfl,by decide⟩
theorem OD:dy Pg 19:=⟨_,Tryz.func19,rfl,by decide⟩
theorem YB:dy Pg 20:=⟨_,Tryz.func20,rfl,by decide⟩
theorem YC:dy Pg 21:=⟨_,Tryz.func21,rfl,by decide⟩
theorem Jt:dy Pg 22:=⟨_,Tryz.func22,rfl,by decide⟩
theorem DH:dy Pg 23:=⟨_,Tryz.func23,rfl,by decide⟩
theorem am0:dy Pg 24:=⟨_,Tryz.func24,rfl,by decide⟩
theorem YD:dy Pg 25:=⟨_,Tryz.func25,rfl,by decide⟩
theorem am2:dy Pg 26:=⟨_,Tryz.func26,rfl,by decide⟩
theorem am3:dy Pg 27:=⟨_,Tryz.func27,rfl,by decide⟩
theorem YE:dy Pg 28:=⟨_,Tryz.func28,rfl,by decide⟩
theorem am4:dy Pg 30:=⟨_,Tryz.func30,rfl,by decide⟩
theorem Ju:dy Pg 35:=⟨_,Tryz.func35,rfl,by decide⟩
theorem YF:dy Pg 36:=⟨_,Tryz.func36,rfl,by decide⟩
theorem YG:dy Pg 37:=⟨_,Tryz.func37,rfl,by decide⟩
theorem am5:dy Pg 38:=⟨_,Tryz.func38,rfl,by decide⟩
theorem am6:dy Pg 39:=⟨_,Tryz.func39,rfl,by decide⟩
theorem am7:dy Pg 40:=⟨_,Tryz.func40,rfl,by decide⟩
theorem am8:dy Pg 41:=⟨_,Tryz.func41,rfl,by decide⟩
theorem am9:dy Pg 42:=⟨_,Tryz.func42,rfl,by decide⟩
theorem ana:dy Pg 43:=⟨_,Tryz.func43,rfl,by decide⟩
theorem YH:dy Pg 44:=⟨_,Tryz.func44,rfl,by decide⟩
theorem anb:dy Pg 45:=⟨_,Tryz.func45,rfl,by decide⟩
theorem YI:dy Pg 49:=⟨_,Tryz.func49,rfl,by decide⟩
theorem anc:dy Pg 62:=⟨_,Tryz.func62,rfl,by decide⟩
theorem ane:dy Pg 63:=⟨_,Tryz.func63,rfl,by decide⟩
theorem anf:dy Pg 68:=⟨_,Tryz.func68,rfl,by decide⟩
theorem ang:dy Pg 70:=⟨_,Tryz.func70,rfl,by decide⟩
theorem anh:dy Pg 72:=⟨_,Tryz.func72,rfl,by decide⟩
theorem ani:dy Pg 75:=⟨_,Tryz.func75,rfl,by decide⟩
theorem anj:dy Pg 77:=⟨_,Tryz.func77,rfl,by decide⟩
theorem ank:dy Pg 89:=⟨_,Tryz.func89,rfl,by decide⟩
theorem anl:dy Pg 93:=⟨_,Tryz.func93,rfl,by decide⟩
theorem amy:dy Pg 102:=⟨_,Tryz.func102,rfl,by decide⟩
theorem amz:dy Pg 104:=⟨_,Tryz.func104,rfl,by decide⟩
theorem Yx:dy Pg 111:=⟨_,Tryz.func111,rfl,by decide⟩
theorem amB:dy Pg 112:=⟨_,Tryz.func112,rfl,by decide⟩
theorem amC:dy Pg 113:=⟨_,Tryz.func113,rfl,by decide⟩
theorem amE:dy Pg 120:=⟨_,Tryz.func120,rfl,by decide⟩
theorem amF:dy Pg 122:=⟨_,Tryz.func122,rfl,by decide⟩
theorem amG:dy Pg 129:=⟨_,Tryz.func129,rfl,by decide⟩
theorem amH:dy Pg 142:=⟨_,Tryz.func142,rfl,by decide⟩
theorem amI:dy Pg 143:=⟨_,Tryz.func143,rfl,by decide⟩
theorem amJ:dy Pg 144:=⟨_,Tryz.func144,rfl,by decide⟩
theorem amK:dy Pg 145:=⟨_,Tryz.func145,rfl,by decide⟩
theorem Oz:dy Pg 146:=⟨_,Tryz.func146,rfl,by decide⟩
theorem amL:dy Pg 147:=⟨_,Tryz.func147,rfl,by decide⟩
theorem amM:dy Pg 178:=⟨_,Tryz.func178,rfl,by decide⟩
theorem amN:dy Pg 185:=⟨_,Tryz.func185,rfl,by decide⟩
theorem OB:dy Pg 186:=⟨_,Tryz.func186,rfl,by decide⟩
theorem OC:dy Pg 187:=⟨_,Tryz.func187,rfl,by decide⟩
theorem amO:dy Pg 188:=⟨_,Tryz.func188,rfl,by decide⟩
theorem amP:dy Pg 189:=⟨_,Tryz.func189,rfl,by decide⟩
theorem amQ:dy Pg 194:=⟨_,Tryz.func194,rfl,by decide⟩
theorem amR:dy Pg 197:=⟨_,Tryz.func197,rfl,by decide⟩
theorem amS:dy Pg 217:=⟨_,Tryz.func217,rfl,by decide⟩
theorem amT:dy Pg 218:=⟨_,Tryz.func218,rfl,by decide⟩
theorem amU:dy Pg 219:=⟨_,Tryz.func219,rfl,by decide⟩
theorem amV:dy Pg 220:=⟨_,Tryz.func220,rfl,by decide⟩
theorem amW:dy Pg 221:=⟨_,Tryz.func221,rfl,by decide⟩
theorem amX:dy Pg 222:=⟨_,Tryz.func222,rfl,by decide⟩
theorem amY:dy Pg 223:=⟨_,Tryz.func223,rfl,by decide⟩
theorem amZ:dy Pg 229:=⟨_,Tryz.func229,rfl,by decide⟩
theorem am1:dy Pg 255:=⟨_,Tryz.func255,rfl,by decide⟩
theorem mixed:Tryz.prog.follows .mixedOrders=true:=by kernel_rfl
theorem aEt(w:World):(((Tryz.prog.fieldsOf 24).toList).mapM fun f=>(do pure (f.offset,← sizeOf f.type):Sem (Nat×Nat))).run Pg w=.ok [(0,1),(1,1),(2,1),(3,1)] w:=by kernel_rfl
theorem aEw(w:World):(((Tryz.prog.fieldsOf 31).toList).mapM fun f=>(do pure (f.offset,← sizeOf f.type):Sem (Nat×Nat))).run Pg w=.ok [(0,1),(1,1),(2,1),(3,1)] w:=by kernel_rfl
theorem aEy(w:World):(((Tryz.prog.fieldsOf 53).toList).mapM fun f=>(do pure (f.offset,← sizeOf f.type):Sem (Nat×Nat))).run Pg w=.ok [(0,1),(1,1),(2,1)] w:=by kernel_rfl
theorem Rt(w:World):(((Tryz.prog.fieldsOf 60).toList).mapM fun f=>(do pure (f.offset,← sizeOf f.type):Sem (Nat×Nat))).run Pg w=.ok [(0,1),(1,1),(2,1),(3,1)] w:=by kernel_rfl
theorem acA(w:World):(((Tryz.prog.fieldsOf 62).toList).mapM fun f=>(do pure (f.offset,← sizeOf f.type):Sem (Nat×Nat))).run Pg w=.ok [(0,1),(1,4),(5,1),(6,1)] w:=by kernel_rfl
theorem acB(w:World):(((Tryz.prog.fieldsOf 64).toList).mapM fun f=>(do pure (f.offset,← sizeOf f.type):Sem (Nat×Nat))).run Pg w=.ok [(0,1),(1,1),(2,1),(3,7)] w:=by kernel_rfl
theorem aEz(w:World):(((Tryz.prog.fieldsOf 67).toList).mapM fun f=>(do pure (f.offset,← sizeOf f.type):Sem (Nat×Nat))).run Pg w=.ok [(0,1)] w:=by kernel_rfl
theorem aEA(w:World):(((Tryz.prog.fieldsOf 72).toList).mapM fun f=>(do pure (f.offset,← sizeOf f.type):Sem (Nat×Nat))).run Pg w=.ok [(0,1),(1,1),(2,1),(3,1),(4,1),(5,1)] w:=by kernel_rfl
theorem aEB(w:World):(((Tryz.prog.fieldsOf 85).toList).mapM fun f=>(do pure (f.offset,← sizeOf f.type):Sem (Nat×Nat))).run Pg w=.ok [(0,1),(1,1)] w:=by kernel_rfl
theorem aEC(w:World):(((Tryz.prog.fieldsOf 87).toList).mapM fun f=>(do pure (f.offset,← sizeOf f.type):Sem (Nat×Nat))).run Pg w=.ok [(0,1),(1,1)] w:=by kernel_rfl
theorem aEd(w:World):(((Tryz.prog.fieldsOf 101).toList).mapM fun f=>(do pure (f.offset,← sizeOf f.type):Sem (Nat×Nat))).run Pg w=.ok [(0,1),(1,1),(2,1),(3,1),(4,1),(5,1),(6,1),(7,1),(8,1)] w:=by kernel_rfl
theorem acx(w:World):(((Tryz.prog.fieldsOf 104).toList).mapM fun f=>(do pure (f.offset,← sizeOf f.type):Sem (Nat×Nat))).run Pg w=.ok [(0,1),(1,1)] w:=by kernel_rfl
theorem aEe(w:World):(((Tryz.prog.fieldsOf 114).toList).mapM fun f=>(do pure (f.offset,← sizeOf f.type):Sem (Nat×Nat))).run Pg w=.ok [(0,4),(4,1),(5,1),(6,1),(7,1),(8,1)] w:=by kernel_rfl
theorem aEf(w:World):(((Tryz.prog.fieldsOf 135).toList).mapM fun f=>(do pure (f.offset,← sizeOf f.type):Sem (Nat×Nat))).run Pg w=.ok [(0,4),(4,1),(5,1)] w:=by kernel_rfl
theorem acy(w:World):(((Tryz.prog.fieldsOf 137).toList).mapM fun f=>(do pure (f.offset,← sizeOf f.type):Sem (Nat×Nat))).run Pg w=.ok [(0,1),(1,1)] w:=by kernel_rfl
theorem ED(w:World):(((Tryz.prog.fieldsOf 142).toList).mapM fun f=>(do pure (f.offset,← sizeOf f.type):Sem (Nat×Nat))).run Pg w=.ok [(0,1),(1,1),(2,1),(3,1),(4,1),(5,1)] w:=by kernel_rfl
theorem aEg(w:World):(((Tryz.prog.fieldsOf 150).toList).mapM fun f=>(do pure (f.offset,← sizeOf f.type):Sem (Nat×Nat))).run Pg w=.ok [(0,1),(1,1)] w:=by kernel_rfl
theorem aEh(w:World):(((Tryz.prog.fieldsOf 161).toList).mapM fun f=>(do pure (f.offset,← sizeOf f.type):Sem (Nat×Nat))).run Pg w=.ok [(0,1),(1,7)] w:=by kernel_rfl
theorem aEi(w:World):(((Tryz.prog.fieldsOf 164).toList).mapM fun f=>(do pure (f.offset,← sizeOf f.type):Sem (Nat×Nat))).run Pg w=.ok [] w:=by kernel_rfl
theorem aEj(w:World):(((Tryz.prog.fieldsOf 173).toList).mapM fun f=>(do pure (f.offset,← sizeOf f.type):Sem (Nat×Nat))).run Pg w=.ok [(0,1),(1,1),(2,1),(3,1)] w:=by kernel_rfl
theorem aEk(w:World):(((Tryz.prog.fieldsOf 175).toList).mapM fun f=>(do pure (f.offset,← sizeOf f.type):Sem (Nat×Nat))).run Pg w=.ok [(0,4),(4,1),(5,1),(6,1)] w:=by kernel_rfl
theorem aEl(w:World):(((Tryz.prog.fieldsOf 178).toList).mapM fun f=>(do pure (f.offset,← sizeOf f.type):Sem (Nat×Nat))).run Pg w=.ok [(0,1),(1,1),(2,1),(3,1)] w:=by kernel_rfl
theorem aEm(w:World):(((Tryz.prog.fieldsOf 182).toList).mapM fun f=>(do pure (f.offset,← sizeOf f.type):Sem (Nat×Nat))).run Pg w=.ok [(0,1),(1,1),(2,1),(3,1),(4,1)] w:=by kernel_rfl
theorem Rs(w:World):(((Tryz.prog.fieldsOf 197).toList).mapM fun f=>(do pure (f.offset,← sizeOf f.type):Sem (Nat×Nat))).run Pg w=.ok [(0,1),(1,1),(2,1),(3,1),(4,1)] w:=by kernel_rfl
theorem aEn(w:World):(((Tryz.prog.fieldsOf 210).toList).mapM fun f=>(do pure (f.offset,← sizeOf f.type):Sem (Nat×Nat))).run Pg w=.ok [(0,1),(1,1),(2,1)] w:=by kernel_rfl
theorem aEo(w:World):(((Tryz.prog.fieldsOf 214).toList).mapM fun f=>(do pure (f.offset,← sizeOf f.type):Sem (Nat×Nat))).run Pg w=.ok [(0,4),(4,6),(10,2),(12,1),(13,1)] w:=by kernel_rfl
theorem aEp(w:World):(((Tryz.prog.fieldsOf 218).toList).mapM fun f=>(do pure (f.offset,← sizeOf f.type):Sem (Nat×Nat))).run Pg w=.ok [(0,1),(1,1),(2,1)] w:=by kernel_rfl
theorem aEq(w:World):(((Tryz.prog.fieldsOf 223).toList).mapM fun f=>(do pure (f.offset,← sizeOf f.type):Sem (Nat×Nat))).run Pg w=.ok [(0,1)] w:=by kernel_rfl
theorem aEr(w:World):(((Tryz.prog.fieldsOf 236).toList).mapM fun f=>(do pure (f.offset,← sizeOf f.type):Sem (Nat×Nat))).run Pg w=.ok [(0,1),(1,1)] w:=by kernel_rfl
theorem aEs(w:World):(((Tryz.prog.fieldsOf 238).toList).mapM fun f=>(do pure (f.offset,← sizeOf f.type):Sem (Nat×Nat))).run Pg w=.ok [(0,2),(2,1),(3,1),(4,1)] w:=by kernel_rfl
theorem aEu(w:World):(((Tryz.prog.fieldsOf 257).toList).mapM fun f=>(do pure (f.offset,← sizeOf f.type):Sem (Nat×Nat))).run Pg w=.ok [(0,1),(1,1)] w:=by kernel_rfl
theorem aEv(w:World):(((Tryz.prog.fieldsOf 259).toList).mapM fun f=>(do pure (f.offset,← sizeOf f.type):Sem (Nat×Nat))).run Pg w=.ok [(0,1)] w:=by kernel_rfl
theorem acz(w:World):(((Tryz.prog.fieldsOf 292).toList).mapM fun f=>(do pure (f.offset,← sizeOf f.type):Sem (Nat×Nat))).run Pg w=.ok [(0,1),(1,1)] w:=by kernel_rfl
theorem aEx(w:World):(((Tryz.prog.fieldsOf 328).toList).mapM fun f=>(do pure (f.offset,← sizeOf f.type):Sem (Nat×Nat))).run Pg w=.ok [(0,1),(1,1)] w:=by kernel_rfl
theorem RJ{n f w G bF ea bc fV}(ai:G.op=.build 24 #[(0,bF),(3,ea)])(ah:ad n f bF=.int .i64 (bc))(aJ:ad n f ea=.int .i64 (fV)):(execOp (ad n f) G).run Pg w=.ok (.value (ha.enc ⟨bc,(0:Nat),(0:Nat),fV⟩)) w:=
 gG (eG:=[(0,bF),(3,ea)]) (fl:=[(0,.int .i64 (bc)),(3,.int .i64 (fV))]) (ba:=kZ.cells ⟨bc,(0:Nat),(0:Nat),fV⟩) ai Tryz.underlying24 aaQ (by have:=aEt; simp only[Program.fieldsOf,Tryz.underlying24] at this; exact this) (by simp only[List.map_cons,List.map_nil,ah,aJ]) (by kernel_rfl)
theorem RL{n f w G bF cj fp ea bc bU d_ fV}(ai:G.op=.build 31 #[(0,bF),(1,cj),(2,fp),(3,ea)])(ah:ad n f bF=.int .i64 (bc))(I:ad n f cj=.int .i64 (bU))(O:ad n f fp=.int .i64 (d_))(aJ:ad n f ea=.int .i64 (fV)):(execOp (ad n f) G).run Pg w=.ok (.value (gk.enc ⟨bc,bU,d_,fV⟩)) w:=
 gG (eG:=[(0,bF),(1,cj),(2,fp),(3,ea)]) (fl:=[(0,.int .i64 (bc)),(1,.int .i64 (bU)),(2,.int .i64 (d_)),(3,.int .i64 (fV))]) (ba:=mz.cells ⟨bc,bU,d_,fV⟩) ai Tryz.underlying31 Qr (by have:=aEw; simp only[Program.fieldsOf,Tryz.underlying31] at this; exact this) (by simp only[List.map_cons,List.map_nil,ah,I,O,aJ]) (by kernel_rfl)
theorem RM{n f w G bF cj fp bc bU d_}(ai:G.op=.build 53 #[(0,bF),(1,cj),(2,fp)])(ah:ad n f bF=.int .i64 (bc))(I:ad n f cj=.int .i64 (bU))(O:ad n f fp=.int .i64 (d_)):(execOp (ad n f) G).run Pg w=.ok (.value (kl.enc ⟨bc,bU,d_⟩)) w:=
 gG (eG:=[(0,bF),(1,cj),(2,fp)]) (fl:=[(0,.int .i64 (bc)),(1,.int .i64 (bU)),(2,.int .i64 (d_))]) (ba:=bg.cells ⟨bc,bU,d_⟩) ai Tryz.underlying53 Qt (by have:=aEy; simp only[Program.fieldsOf,Tryz.underlying53] at this; exact this) (by simp only[List.map_cons,List.map_nil,ah,I,O]) (by kernel_rfl)
theorem RN{n f w G bF bc}(ai:G.op=.build 60 #[(0,bF)])(ah:ad n f bF=.int .i64 (bc)):(execOp (ad n f) G).run Pg w=.ok (.value (g0.enc ⟨bc,(0:Int),(0:Int),false⟩)) w:=
 gG (eG:=[(0,bF)]) (fl:=[(0,.int .i64 (bc))]) (ba:=iz.cells ⟨bc,(0:Int),(0:Int),false⟩) ai Tryz.underlying60 Hi (by have:=Rt; simp only[Program.fieldsOf,Tryz.underlying60] at this; exact this) (by simp only[List.map_cons,List.map_nil,ah]) (by kernel_rfl)
theorem ade{n f w G bF cj fp bc bU d_}(ai:G.op=.build 60 #[(0,bF),(1,cj),(2,fp)])(ah:ad n f bF=.int .i64 (bc))(I:ad n f cj=.int .i64 (bU))(O:ad n f fp=.int .i64 (d_)):(execOp (ad n f) G).run Pg w=.ok (.value (g0.enc ⟨bc,bU,d_,false⟩)) w:=
 gG (eG:=[(0,bF),(1,cj),(2,fp)]) (fl:=[(0,.int .i64 (bc)),(1,.int .i64 (bU)),(2,.int .i64 (d_))]) (ba:=iz.cells ⟨bc,bU,d_,false⟩) ai Tryz.underlying60 Hi (by have:=Rt; simp only[Program.fieldsOf,Tryz.underlying60] at this; exact this) (by simp only[List.map_cons,List.map_nil,ah,I,O]) (by kernel_rfl)
theorem adf{n f w G bF cj fp ea bc bU d_ fV}(ai:G.op=.build 60 #[(0,bF),(1,cj),(2,fp),(3,ea)])(ah:ad n f bF=.int .i64 (bc))(I:ad n f cj=.int .i64 (bU))(O:ad n f fp=.int .i64 (d_))(aJ:ad n f ea=.bool (fV)):(execOp (ad n f) G).run Pg w=.ok (.value (g0.enc ⟨bc,bU,d_,fV⟩)) w:=
 gG (eG:=[(0,bF),(1,cj),(2,fp),(3,ea)]) (fl:=[(0,.int .i64 (bc)),(1,.int .i64 (bU)),(2,.int .i64 (d_)),(3,.bool (fV))]) (ba:=iz.cells ⟨bc,bU,d_,fV⟩) ai Tryz.underlying60 Hi (by have:=Rt; simp only[Program.fieldsOf,Tryz.underlying60] at this; exact this) (by simp only[List.map_cons,List.map_nil,ah,I,O,aJ]) (by kernel_rfl)
theorem RO{n f w G bF cj bc bU}(ai:G.op=.build 62 #[(0,bF),(1,cj)])(ah:ad n f bF=.int .i64 (bc))(I:ad n f cj=g0.enc (bU)):(execOp (ad n f) G).run Pg w=.ok (.value (eJ.enc ⟨bc,bU,false,(0:Int)⟩)) w:=
 gG (eG:=[(0,bF),(1,cj)]) (fl:=[(0,.int .i64 (bc)),(1,g0.enc (bU))]) (ba:=ir.cells ⟨bc,bU,false,(0:Int)⟩) ai Tryz.underlying62 Kh (by have:=acA; simp only[Program.fieldsOf,Tryz.underlying62] at this; exact this) (by simp only[List.map_cons,List.map_nil,ah,I]) (by kernel_rfl)
theorem adg{n f w G bF cj fp ea bc bU d_ fV}(ai:G.op=.build 62 #[(0,bF),(1,cj),(2,fp),(3,ea)])(ah:ad n f bF=.int .i64 (bc))(I:ad n f cj=g0.enc (bU))(O:ad n f fp=.bool (d_))(aJ:ad n f ea=.int .i64 (fV)):(execOp (ad n f) G).run Pg w=.ok (.value (eJ.enc ⟨bc,bU,d_,fV⟩)) w:=
 gG (eG:=[(0,bF),(1,cj),(2,fp),(3,ea)]) (fl:=[(0,.int .i64 (bc)),(1,g0.enc (bU)),(2,.bool (d_)),(3,.int .i64 (fV))]) (ba:=ir.cells ⟨bc,bU,d_,fV⟩) ai Tryz.underlying62 Kh (by have:=acA; simp only[Program.fieldsOf,Tryz.underlying62] at this; exact this) (by simp only[List.map_cons,List.map_nil,ah,I,O,aJ]) (by kernel_rfl)
theorem adh{n f w G }(ai:G.op=.build 64 #[]):(execOp (ad n f) G).run Pg w=.ok (.value (eC.enc ⟨(0:Int),(0:Int),(0:Int),uL⟩)) w:=
 gG (eG:=[]) (fl:=[]) (ba:=gZ.cells ⟨(0:Int),(0:Int),(0:Int),uL⟩) ai Tryz.underlying64 Ki (by have:=acB; simp only[Program.fieldsOf,Tryz.underlying64] at this; exact this) (by simp only[List.map_cons,List.map_nil]) (by kernel_rfl)
theorem adi{n f w G bF cj fp ea bc bU d_ fV}(ai:G.op=.build 64 #[(0,bF),(1,cj),(2,fp),(3,ea)])(ah:ad n f bF=.int .i64 (bc))(I:ad n f cj=.int .i64 (bU))(O:ad n f fp=.int .i64 (d_))(aJ:ad n f ea=eJ.enc (fV)):(execOp (ad n f) G).run Pg w=.ok (.value (eC.enc ⟨bc,bU,d_,fV⟩)) w:=
 gG (eG:=[(0,bF),(1,cj),(2,fp),(3,ea)]) (fl:=[(0,.int .i64 (bc)),(1,.int .i64 (bU)),(2,.int .i64 (d_)),(3,eJ.enc (fV))]) (ba:=gZ.cells ⟨bc,bU,d_,fV⟩) ai Tryz.underlying64 Ki (by have:=acB; simp only[Program.fieldsOf,Tryz.underlying64] at this; exact this) (by simp only[List.map_cons,List.map_nil,ah,I,O,aJ]) (by kernel_rfl)
theorem adj{n f w G bF bc}(ai:G.op=.build 67 #[(0,bF)])(ah:ad n f bF=.pointer (bc)):(execOp (ad n f) G).run Pg w=.ok (.value (dz.enc ⟨bc⟩)) w:=
 gG (eG:=[(0,bF)]) (fl:=[(0,.pointer (bc))]) (ba:=mU.cells ⟨bc⟩) ai Tryz.underlying67 aa0 (by have:=aEz; simp only[Program.fieldsOf,Tryz.underlying67] at this; exact this) (by simp only[List.map_cons,List.map_nil,ah]) (by kernel_rfl)
theorem adk{n f w G bF cj ea de dN bc bU fV l0 vQ}(ai:G.op=.build 72 #[(0,bF),(1,cj),(3,ea),(4,de),(5,dN)])(ah:ad n f bF=dz.enc (bc))(I:ad n f cj=.float .f64 (bU))(aJ:ad n f ea=.map (fV))(bl:ad n f de=.map (l0))(dq:ad n f dN=.map (vQ)):(execOp (ad n f) G).run Pg w=.ok (.value (A8.enc ⟨bc,bU,(0:Int),fV,l0,vQ⟩)) w:=
 gG (eG:=[(0,bF),(1,cj),(3,ea),(4,de),(5,dN)]) (fl:=[(0,dz.enc (bc)),(1,.float .f64 (bU)),(3,.map (fV)),(4,.map (l0)),(5,.map (vQ))]) (ba:=tB.cells ⟨bc,bU,(0:Int),fV,l0,vQ⟩) ai Tryz.underlying72 aa1 (by have:=aEA; simp only[Program.fieldsOf,Tryz.underlying72] at this; exact this) (by simp only[List.map_cons,List.map_nil,ah,I,aJ,bl,dq]) (by kernel_rfl)
theorem adl{n f w G bF cj bc bU}(ai:G.op=.build 85 #[(0,bF),(1,cj)])(ah:ad n f bF=.int .i64 (bc))(I:ad n f cj=X.enc (bU)):(execOp (ad n f) G).run Pg w=.ok (.value (p_.enc ⟨bc,bU⟩)) w:=
 gG (eG:=[(0,bF),(1,cj)]) (fl:=[(0,.int .i64 (bc)),(1,X.enc (bU))]) (ba:=mA.cells ⟨bc,bU⟩) ai Tryz.underlying85 Qu (by have:=aEB; simp only[Program.fieldsOf,Tryz.underlying85] at this; exact this) (by simp only[List.map_cons,List.map_nil,ah,I]) (by kernel_rfl)
theorem adm{n f w G bF cj bc bU}(ai:G.op=.build 87 #[(0,bF),(1,cj)])(ah:ad n f bF=.int .i64 (bc))(I:ad n f cj=.int .i64 (bU)):(execOp (ad n f) G).run Pg w=.ok (.value (hP.enc ⟨bc,bU⟩)) w:=
 gG (eG:=[(0,bF),(1,cj)]) (fl:=[(0,.int .i64 (bc)),(1,.int .i64 (bU))]) (ba:=fw.cells ⟨bc,bU⟩) ai Tryz.underlying87 Qv (by have:=aEC; simp only[Program.fieldsOf,Tryz.underlying87] at this; exact this) (by simp only[List.map_cons,List.map_nil,ah,I]) (by kernel_rfl)
theorem RB{n f w G }(ai:G.op=.build 101 #[]):(execOp (ad n f) G).run Pg w=.ok (.value (A0.enc ⟨(none:Option Addr),(0:Int),(none:Option Addr),(none:Option Addr),(none:Option Addr),(none:Option Addr),(none:Option Nat),(none:Option Nat),(⟨none,0,0⟩:af)⟩)) w:=
 gG (eG:=[]) (fl:=[]) (ba:=uI.cells ⟨(none:Option Addr),(0:Int),(none:Option Addr),(none:Option Addr),(none:Option Addr),(none:Option Addr),(none:Option Nat),(none:Option Nat),(⟨none,0,0⟩:af)⟩) ai Tryz.underlying101 aay (by have:=aEd; simp only[Program.fieldsOf,Tryz.underlying101] at this; exact this) (by simp only[List.map_cons,List.map_nil]) (by kernel_rfl)
theorem acP{n f w G bF bc}(ai:G.op=.build 104 #[(0,bF)])(ah:ad n f bF=.int .i64 (bc)):(execOp (ad n f) G).run Pg w=.ok (.value (lD.enc ⟨bc,(0:Int)⟩)) w:=
 gG (eG:=[(0,bF)]) (fl:=[(0,.int .i64 (bc))]) (ba:=qT.cells ⟨bc,(0:Int)⟩) ai Tryz.underlying104 Ke (by have:=acx; simp only[Program.fieldsOf,Tryz.underlying104] at this; exact this) (by simp only[List.map_cons,List.map_nil,ah]) (by kernel_rfl)
theorem acQ{n f w G bF cj bc bU}(ai:G.op=.build 104 #[(0,bF),(1,cj)])(ah:ad n f bF=.int .i64 (bc))(I:ad n f cj=.int .i64 (bU)):(execOp (ad n f) G).run Pg w=.ok (.value (lD.enc ⟨bc,bU⟩)) w:=
 gG (eG:=[(0,bF),(1,cj)]) (fl:=[(0,.int .i64 (bc)),(1,.int .i64 (bU))]) (ba:=qT.cells ⟨bc,bU⟩) ai Tryz.underlying104 Ke (by have:=acx; simp only[Program.fieldsOf,Tryz.underlying104] at this; exact this) (by simp only[List.map_cons,List.map_nil,ah,I]) (by kernel_rfl)
theorem RC{n f w G bF cj de bc bU l0}(ai:G.op=.build 114 #[(0,bF),(1,cj),(4,de)])(ah:ad n f bF=ha.enc (bc))(I:ad n f cj=.int .i64 (bU))(bl:ad n f de=.map (l0)):(execOp (ad n f) G).run Pg w=.ok (.value (A1.enc ⟨bc,bU,(⟨none,0,0⟩:af),(none:Option Addr),l0,(⟨none,0,0⟩:af)⟩)) w:=
 gG (eG:=[(0,bF),(1,cj),(4,de)]) (fl:=[(0,ha.enc (bc)),(1,.int .i64 (bU)),(4,.map (l0))]) (ba:=rL.cells ⟨bc,bU,(⟨none,0,0⟩:af),(none:Option Addr),l0,(⟨none,0,0⟩:af)⟩) ai Tryz.underlying114 aaA (by have:=aEe; simp only[Program.fieldsOf,Tryz.underlying114] at this; exact this) (by simp only[List.map_cons,List.map_nil,ah,I,bl]) (by kernel_rfl)
theorem acR{n f w G bF cj fp bc bU d_}(ai:G.op=.build 135 #[(0,bF),(1,cj),(2,fp)])(ah:ad n f bF=g0.enc (bc))(I:ad n f cj=.int .i64 (bU))(O:ad n f fp=.int .i64 (d_)):(execOp (ad n f) G).run Pg w=.ok (.value (iB.enc ⟨bc,bU,d_⟩)) w:=
 gG (eG:=[(0,bF),(1,cj),(2,fp)]) (fl:=[(0,g0.enc (bc)),(1,.int .i64 (bU)),(2,.int .i64 (d_))]) (ba:=rM.cells ⟨bc,bU,d_⟩) ai Tryz.underlying135 Qm (by have:=aEf; simp only[Program.fieldsOf,Tryz.underlying135] at this; exact this) (by simp only[List.map_cons,List.map_nil,ah,I,O]) (by kernel_rfl)
theorem EI{n f w G }(ai:G.op=.build 137 #[]):(execOp (ad n f) G).run Pg w=.ok (.value (cO.enc ⟨(0:Int),(0:Int)⟩)) w:=
 gG (eG:=[]) (fl:=[]) (ba:=jz.cells ⟨(0:Int),(0:Int)⟩) ai Tryz.underlying137 BT (by have:=acy; simp only[Program.fieldsOf,Tryz.underlying137] at this; exact this) (by simp only[List.map_cons,List.map_nil]) (by kernel_rfl)
theorem acS{n f w G bF cj bc bU}(ai:G.op=.build 137 #[(0,bF),(1,cj)])(ah:ad n f bF=.int .i64 (bc))(I:ad n f cj=.int .i64 (bU)):(execOp (ad n f) G).run Pg w=.ok (.value (cO.enc ⟨bc,bU⟩)) w:=
 gG (eG:=[(0,bF),(1,cj)]) (fl:=[(0,.int .i64 (bc)),(1,.int .i64 (bU))]) (ba:=jz.cells ⟨bc,bU⟩) ai Tryz.underlying137 BT (by have:=acy; simp only[Program.fieldsOf,Tryz.underlying137] at this; exact this) (by simp only[List.map_cons,List.map_nil,ah,I]) (by kernel_rfl)
theorem HP{n f w G }(ai:G.op=.build 142 #[]):(execOp (ad n f) G).run Pg w=.ok (.value (fN.enc ⟨(0:Int),(0:Int),(0:Int),(0:Int),(0:Int),false⟩)) w:=
 gG (eG:=[]) (fl:=[]) (ba:=jN.cells ⟨(0:Int),(0:Int),(0:Int),(0:Int),(0:Int),false⟩) ai Tryz.underlying142 wI (by have:=ED; simp only[Program.fieldsOf,Tryz.underlying142] at this; exact this) (by simp only[List.map_cons,List.map_nil]) (by kernel_rfl)
theorem acT{n f w G bF cj bc bU}(ai:G.op=.build 142 #[(0,bF),(1,cj)])(ah:ad n f bF=.int .i64 (bc))(I:ad n f cj=.int .i64 (bU)):(execOp (ad n f) G).run Pg w=.ok (.value (fN.enc ⟨bc,bU,(0:Int),(0:Int),(0:Int),false⟩)) w:=
 gG (eG:=[(0,bF),(1,cj)]) (fl:=[(0,.int .i64 (bc)),(1,.int .i64 (bU))]) (ba:=jN.cells ⟨bc,bU,(0:Int),(0:Int),(0:Int),false⟩) ai Tryz.underlying142 wI (by have:=ED; simp only[Program.fieldsOf,Tryz.underlying142] at this; exact this) (by simp only[List.map_cons,List.map_nil,ah,I]) (by kernel_rfl)
theorem RD{n f w G bF cj fp bc bU d_}(ai:G.op=.build 142 #[(0,bF),(1,cj),(2,fp)])(ah:ad n f bF=.int .i64 (bc))(I:ad n f cj=.int .i64 (bU))(O:ad n f fp=.int .i64 (d_)):(execOp (ad n f) G).run Pg w=.ok (.value (fN.enc ⟨bc,bU,d_,(0:Int),(0:Int),false⟩)) w:=
 gG (eG:=[(0,bF),(1,cj),(2,fp)]) (fl:=[(0,.int .i64 (bc)),(1,.int .i64 (bU)),(2,.int .i64 (d_))]) (ba:=jN.cells ⟨bc,bU,d_,(0:Int),(0:Int),false⟩) ai Tryz.underlying142 wI (by have:=ED; simp only[Program.fieldsOf,Tryz.underlying142] at this; exact this) (by simp only[List.map_cons,List.map_nil,ah,I,O]) (by kernel_rfl)
theorem RE{n f w G bF cj fp ea de dN bc bU d_ fV l0 vQ}(ai:G.op=.build 142 #[(0,bF),(1,cj),(2,fp),(3,ea),(4,de),(5,dN)])(ah:ad n f bF=.int .i64 (bc))(I:ad n f cj=.int .i64 (bU))(O:ad n f fp=.int .i64 (d_))(aJ:ad n f ea=.int .i64 (fV))(bl:ad n f de=.int .i64 (l0))(dq:ad n f dN=.bool (vQ)):(execOp (ad n f) G).run Pg w=.ok (.value (fN.enc ⟨bc,bU,d_,fV,l0,vQ⟩)) w:=
 gG (eG:=[(0,bF),(1,cj),(2,fp),(3,ea),(4,de),(5,dN)]) (fl:=[(0,.int .i64 (bc)),(1,.int .i64 (bU)),(2,.int .i64 (d_)),(3,.int .i64 (fV)),(4,.int .i64 (l0)),(5,.bool (vQ))]) (ba:=jN.cells ⟨bc,bU,d_,fV,l0,vQ⟩) ai Tryz.underlying142 wI (by have:=ED; simp only[Program.fieldsOf,Tryz.underlying142] at this; exact this) (by simp only[List.map_cons,List.map_nil,ah,I,O,aJ,bl,dq]) (by kernel_rfl)
theorem acU{n f w G bF cj ea de bc bU fV l0}(ai:G.op=.build 142 #[(0,bF),(1,cj),(3,ea),(4,de)])(ah:ad n f bF=.int .i64 (bc))(I:ad n f cj=.int .i64 (bU))(aJ:ad n f ea=.int .i64 (fV))(bl:ad n f de=.int .i64 (l0)):(execOp (ad n f) G).run Pg w=.ok (.value (fN.enc ⟨bc,bU,(0:Int),fV,l0,false⟩)) w:=
 gG (eG:=[(0,bF),(1,cj),(3,ea),(4,de)]) (fl:=[(0,.int .i64 (bc)),(1,.int .i64 (bU)),(3,.int .i64 (fV)),(4,.int .i64 (l0))]) (ba:=jN.cells ⟨bc,bU,(0:Int),fV,l0,false⟩) ai Tryz.underlying142 wI (by have:=ED; simp only[Program.fieldsOf,Tryz.underlying142] at this; exact this) (by simp only[List.map_cons,List.map_nil,ah,I,aJ,bl]) (by kernel_rfl)
theorem RF{n f w G bF fp bc d_}(ai:G.op=.build 142 #[(0,bF),(2,fp)])(ah:ad n f bF=.int .i64 (bc))(O:ad n f fp=.int .i64 (d_)):(execOp (ad n f) G).run Pg w=.ok (.value (fN.enc ⟨bc,(0:Int),d_,(0:Int),(0:Int),false⟩)) w:=
 gG (eG:=[(0,bF),(2,fp)]) (fl:=[(0,.int .i64 (bc)),(2,.int .i64 (d_))]) (ba:=jN.cells ⟨bc,(0:Int),d_,(0:Int),(0:Int),false⟩) ai Tryz.underlying142 wI (by have:=ED; simp only[Program.fieldsOf,Tryz.underlying142] at this; exact this) (by simp only[List.map_cons,List.map_nil,ah,O]) (by kernel_rfl)
theorem acV{n f w G bF cj bc bU}(ai:G.op=.build 150 #[(0,bF),(1,cj)])(ah:ad n f bF=.pointer (bc))(I:ad n f cj=.pointer (bU)):(execOp (ad n f) G).run Pg w=.ok (.value (A2.enc ⟨bc,bU⟩)) w:=
 gG (eG:=[(0,bF),(1,cj)]) (fl:=[(0,.pointer (bc)),(1,.pointer (bU))]) (ba:=xu.cells ⟨bc,bU⟩) ai Tryz.underlying150 aaD (by have:=aEg; simp only[Program.fieldsOf,Tryz.underlying150] at this; exact this) (by simp only[List.map_cons,List.map_nil,ah,I]) (by kernel_rfl)
theorem acW{n f w G bF cj bc bU}(ai:G.op=.build 161 #[(0,bF),(1,cj)])(ah:ad n f bF=.int .i64 (bc))(I:ad n f cj=eJ.enc (bU)):(execOp (ad n f) G).run Pg w=.ok (.value (v8.enc ⟨bc,bU⟩)) w:=
 gG (eG:=[(0,bF),(1,cj)]) (fl:=[(0,.int .i64 (bc)),(1,eJ.enc (bU))]) (ba:=tx.cells ⟨bc,bU⟩) ai Tryz.underlying161 Qn (by have:=aEh; simp only[Program.fieldsOf,Tryz.underlying161] at this; exact this) (by simp only[List.map_cons,List.map_nil,ah,I]) (by kernel_rfl)
theorem acX{n f w G }(ai:G.op=.build 164 #[]):(execOp (ad n f) G).run Pg w=.ok (.value (fq.enc ⟨⟩)) w:=
 gG (eG:=[]) (fl:=[]) (ba:=oV.cells ⟨⟩) ai Tryz.underlying164 Qo (by have:=aEi; simp only[Program.fieldsOf,Tryz.underlying164] at this; exact this) (by simp only[List.map_cons,List.map_nil]) (by kernel_rfl)
theorem acY{n f w G bF cj fp ea bc bU d_ fV}(ai:G.op=.build 173 #[(0,bF),(1,cj),(2,fp),(3,ea)])(ah:ad n f bF=.int .i64 (bc))(I:ad n f cj=.int .i64 (bU))(O:ad n f fp=.int .i64 (d_))(aJ:ad n f ea=.bool (fV)):(execOp (ad n f) G).run Pg w=.ok (.value (A3.enc ⟨bc,bU,d_,fV⟩)) w:=
 gG (eG:=[(0,bF),(1,cj),(2,fp),(3,ea)]) (fl:=[(0,.int .i64 (bc)),(1,.int .i64 (bU)),(2,.int .i64 (d_)),(3,.bool (fV))]) (ba:=ty.cells ⟨bc,bU,d_,fV⟩) ai Tryz.underlying173 aaE (by have:=aEj; simp only[Program.fieldsOf,Tryz.underlying173] at this; exact this) (by simp only[List.map_cons,List.map_nil,ah,I,O,aJ]) (by kernel_rfl)
theorem acZ{n f w G cj bU}(ai:G.op=.build 175 #[(1,cj)])(I:ad n f cj=.float .f64 (bU)):(execOp (ad n f) G).run Pg w=.ok (.value (A4.enc ⟨F1,bU,(0:Int),(0:Int)⟩)) w:=
 gG (eG:=[(1,cj)]) (fl:=[(1,.float .f64 (bU))]) (ba:=tz.cells ⟨F1,bU,(0:Int),(0:Int)⟩) ai Tryz.underlying175 aaF (by have:=aEk; simp only[Program.fieldsOf,Tryz.underlying175] at this; exact this) (by simp only[List.map_cons,List.map_nil,I]) (by kernel_rfl)
theorem ac0{n f w G bF ea bc fV}(ai:G.op=.build 178 #[(0,bF),(3,ea)])(ah:ad n f bF=.int .i64 (bc))(aJ:ad n f ea=.map (fV)):(execOp (ad n f) G).run Pg w=.ok (.value (Da.enc ⟨bc,(0:Int),(⟨none,0,0⟩:af),fV⟩)) w:=
 gG (eG:=[(0,bF),(3,ea)]) (fl:=[(0,.int .i64 (bc)),(3,.map (fV))]) (ba:=xv.cells ⟨bc,(0:Int),(⟨none,0,0⟩:af),fV⟩) ai Tryz.underlying178 aaG (by have:=aEl; simp only[Program.fieldsOf,Tryz.underlying178] at this; exact this) (by simp only[List.map_cons,List.map_nil,ah,aJ]) (by kernel_rfl)
theorem ac1{n f w G bF bc}(ai:G.op=.build 182 #[(0,bF)])(ah:ad n f bF=X.enc (bc)):(execOp (ad n f) G).run Pg w=.ok (.value (A5.enc ⟨bc,(0:Int),false,(0:Int),(⟨none,0,0⟩:af)⟩)) w:=
 gG (eG:=[(0,bF)]) (fl:=[(0,X.enc (bc))]) (ba:=v5.cells ⟨bc,(0:Int),false,(0:Int),(⟨none,0,0⟩:af)⟩) ai Tryz.underlying182 aaH (by have:=aEm; simp only[Program.fieldsOf,Tryz.underlying182] at this; exact this) (by simp only[List.map_cons,List.map_nil,ah]) (by kernel_rfl)
theorem RG{n f w G bF bc}(ai:G.op=.build 197 #[(0,bF)])(ah:ad n f bF=.int .i64 (bc)):(execOp (ad n f) G).run Pg w=.ok (.value (gj.enc ⟨bc,(0:Int),(0:Int),(0:Nat),([]:List UInt8)⟩)) w:=
 gG (eG:=[(0,bF)]) (fl:=[(0,.int .i64 (bc))]) (ba:=mT.cells ⟨bc,(0:Int),(0:Int),(0:Nat),([]:List UInt8)⟩) ai Tryz.underlying197 wJ (by have:=Rs; simp only[Program.fieldsOf,Tryz.underlying197] at this; exact this) (by simp only[List.map_cons,List.map_nil,ah]) (by kernel_rfl)
theorem ac2{n f w G bF cj bc bU}(ai:G.op=.build 197 #[(0,bF),(1,cj)])(ah:ad n f bF=.int .i64 (bc))(I:ad n f cj=.int .u64 (bU)):(execOp (ad n f) G).run Pg w=.ok (.value (gj.enc ⟨bc,bU,(0:Int),(0:Nat),([]:List UInt8)⟩)) w:=
 gG (eG:=[(0,bF),(1,cj)]) (fl:=[(0,.int .i64 (bc)),(1,.int .u64 (bU))]) (ba:=mT.cells ⟨bc,bU,(0:Int),(0:Nat),([]:List UInt8)⟩) ai Tryz.underlying197 wJ (by have:=Rs; simp only[Program.fieldsOf,Tryz.underlying197] at this; exact this) (by simp only[List.map_cons,List.map_nil,ah,I]) (by kernel_rfl)
theorem ac3{n f w G bF fp bc d_}(ai:G.op=.build 197 #[(0,bF),(2,fp)])(ah:ad n f bF=.int .i64 (bc))(O:ad n f fp=.int .i64 (d_)):(execOp (ad n f) G).run Pg w=.ok (.value (gj.enc ⟨bc,(0:Int),d_,(0:Nat),([]:List UInt8)⟩)) w:=
 gG (eG:=[(0,bF),(2,fp)]) (fl:=[(0,.int .i64 (bc)),(2,.int .i64 (d_))]) (ba:=mT.cells ⟨bc,(0:Int),d_,(0:Nat),([]:List UInt8)⟩) ai Tryz.underlying197 wJ (by have:=Rs; simp only[Program.fieldsOf,Tryz.underlying197] at this; exact this) (by simp only[List.map_cons,List.map_nil,ah,O]) (by kernel_rfl)
theorem ac4{n f w G bF cj bc bU}(ai:G.op=.build 210 #[(0,bF),(1,cj)])(ah:ad n f bF=.bool (bc))(I:ad n f cj=.bool (bU)):(execOp (ad n f) G).run Pg w=.ok (.value (mV.enc ⟨bc,bU,(0:Int)⟩)) w:=
 gG (eG:=[(0,bF),(1,cj)]) (fl:=[(0,.bool (bc)),(1,.bool (bU))]) (ba:=lA.cells ⟨bc,bU,(0:Int)⟩) ai Tryz.underlying210 Qq (by have:=aEn; simp only[Program.fieldsOf,Tryz.underlying210] at this; exact this) (by simp only[List.map_cons,List.map_nil,ah,I]) (by kernel_rfl)
theorem ac5{n f w G bF cj bc bU}(ai:G.op=.build 212 #[(0,bF),(1,cj)])(ah:ad n f bF=.bool (bc))(I:ad n f cj=.bool (bU)):(execOp (ad n f) G).run Pg w=.ok (.value ((qE bk 2).enc (⟨#[bc,bU],rfl⟩:(Vector Bool 2)))) w:=
 aEY (eG:=[(0,bF),(1,cj)]) (fl:=[(0,.bool (bc)),(1,.bool (bU))]) (ba:=(qE bk 2).cells (⟨#[bc,bU],rfl⟩:(Vector Bool 2))) ai Tryz.underlying212 aaK oC.size (by simp only[List.map_cons,List.map_nil,ah,I]) (by rfl)
theorem ac6{n f w G bF bc}(ai:G.op=.build 214 #[(0,bF)])(ah:ad n f bF=gk.enc (bc)):(execOp (ad n f) G).run Pg w=.ok (.value (Db.enc ⟨bc,(Vector.replicate 2 qX),(Vector.replicate 2 false),(0:Int),(0:Int)⟩)) w:=
 gG (eG:=[(0,bF)]) (fl:=[(0,gk.enc (bc))]) (ba:=sC.cells ⟨bc,(Vector.replicate 2 qX),(Vector.replicate 2 false),(0:Int),(0:Int)⟩) ai Tryz.underlying214 aaL (by have:=aEo; simp only[Program.fieldsOf,Tryz.underlying214] at this; exact this) (by simp only[List.map_cons,List.map_nil,ah]) (by kernel_rfl)
theorem ac7{n f w G bF bc}(ai:G.op=.build 218 #[(0,bF)])(ah:ad n f bF=.map (bc)):(execOp (ad n f) G).run Pg w=.ok (.value (p9.enc ⟨bc,(0:Int),(0:Int)⟩)) w:=
 gG (eG:=[(0,bF)]) (fl:=[(0,.map (bc))]) (ba:=xw.cells ⟨bc,(0:Int),(0:Int)⟩) ai Tryz.underlying218 aaM (by have:=aEp; simp only[Program.fieldsOf,Tryz.underlying218] at this; exact this) (by simp only[List.map_cons,List.map_nil,ah]) (by kernel_rfl)
theorem ac8{n f w G }(ai:G.op=.build 223 #[]):(execOp (ad n f) G).run Pg w=.ok (.value (Dc.enc ⟨(0:Int)⟩)) w:=
 gG (eG:=[]) (fl:=[]) (ba:=xx.cells ⟨(0:Int)⟩) ai Tryz.underlying223 aaN (by have:=aEq; simp only[Program.fieldsOf,Tryz.underlying223] at this; exact this) (by simp only[List.map_cons,List.map_nil]) (by kernel_rfl)
theorem RH{n f w G bF cj bc bU}(ai:G.op=.build 236 #[(0,bF),(1,cj)])(ah:ad n f bF=.int .i64 (bc))(I:ad n f cj=.int .i64 (bU)):(execOp (ad n f) G).run Pg w=.ok (.value (A6.enc ⟨bc,bU⟩)) w:=
 gG (eG:=[(0,bF),(1,cj)]) (fl:=[(0,.int .i64 (bc)),(1,.int .i64 (bU))]) (ba:=sD.cells ⟨bc,bU⟩) ai Tryz.underlying236 aaO (by have:=aEr; simp only[Program.fieldsOf,Tryz.underlying236] at this; exact this) (by simp only[List.map_cons,List.map_nil,ah,I]) (by kernel_rfl)
theorem RI{n f w G bF cj fp bc bU d_}(ai:G.op=.build 238 #[(0,bF),(1,cj),(2,fp)])(ah:ad n f bF=A6.enc (bc))(I:ad n f cj=.pointer (bU))(O:ad n f fp=.int .i64 (d_)):(execOp (ad n f) G).run Pg w=.ok (.value (A7.enc ⟨bc,bU,d_,false⟩)) w:=
 gG (eG:=[(0,bF),(1,cj),(2,fp)]) (fl:=[(0,A6.enc (bc)),(1,.pointer (bU)),(2,.int .i64 (d_))]) (ba:=tA.cells ⟨bc,bU,d_,false⟩) ai Tryz.underlying238 aaP (by have:=aEs; simp only[Program.fieldsOf,Tryz.underlying238] at this; exact this) (by simp only[List.map_cons,List.map_nil,ah,I,O]) (by kernel_rfl)
theorem RK{n f w G bF bc}(ai:G.op=.build 257 #[(0,bF)])(ah:ad n f bF=X.enc (bc)):(execOp (ad n f) G).run Pg w=.ok (.value (Dd.enc ⟨bc,(0:Int)⟩)) w:=
 gG (eG:=[(0,bF)]) (fl:=[(0,X.enc (bc))]) (ba:=v6.cells ⟨bc,(0:Int)⟩) ai Tryz.underlying257 aaR (by have:=aEu; simp only[Program.fieldsOf,Tryz.underlying257] at this; exact this) (by simp only[List.map_cons,List.map_nil,ah]) (by kernel_rfl)
theorem yV{n f w G bF bc}(ai:G.op=.build 259 #[(0,bF)])(ah:ad n f bF=.int .i64 (bc)):(execOp (ad n f) G).run Pg w=.ok (.value (jO.enc ⟨bc⟩)) w:=
 gG (eG:=[(0,bF)]) (fl:=[(0,.int .i64 (bc))]) (ba:=j3.cells ⟨bc⟩) ai Tryz.underlying259 Hh (by have:=aEv; simp only[Program.fieldsOf,Tryz.underlying259] at this; exact this) (by simp only[List.map_cons,List.map_nil,ah]) (by kernel_rfl)
theorem ac9{n f w G }(ai:G.op=.build 292 #[]):(execOp (ad n f) G).run Pg w=.ok (.value (dJ.enc ⟨(0:Int),(0:Int)⟩)) w:=
 gG (eG:=[]) (fl:=[]) (ba:=eI.cells ⟨(0:Int),(0:Int)⟩) ai Tryz.underlying292 Kf (by have:=acz; simp only[Program.fieldsOf,Tryz.underlying292] at this; exact this) (by simp only[List.map_cons,List.map_nil]) (by kernel_rfl)
theorem ada{n f w G bF cj bc bU}(ai:G.op=.build 292 #[(0,bF),(1,cj)])(ah:ad n f bF=.int .i64 (bc))(I:ad n f cj=.int .i64 (bU)):(execOp (ad n f) G).run Pg w=.ok (.value (dJ.enc ⟨bc,bU⟩)) w:=
 gG (eG:=[(0,bF),(1,cj)]) (fl:=[(0,.int .i64 (bc)),(1,.int .i64 (bU))]) (ba:=eI.cells ⟨bc,bU⟩) ai Tryz.underlying292 Kf (by have:=acz; simp only[Program.fieldsOf,Tryz.underlying292] at this; exact this) (by simp only[List.map_cons,List.map_nil,ah,I]) (by kernel_rfl)
theorem adb{n f w G }(ai:G.op=.build 328 #[]):(execOp (ad n f) G).run Pg w=.ok (.value (v9.enc ⟨(⟨none,0,0⟩:af),(0:Int)⟩)) w:=
 gG (eG:=[]) (fl:=[]) (ba:=xy.cells ⟨(⟨none,0,0⟩:af),(0:Int)⟩) ai Tryz.underlying328 aaU (by have:=aEx; simp only[Program.fieldsOf,Tryz.underlying328] at this; exact this) (by simp only[List.map_cons,List.map_nil]) (by kernel_rfl)
def bg.cs(x S:bg):Bool:=((x.aC==S.aC)&&((x.oh==S.oh)&&((x.b5==S.b5)&&true)))
theorem ann{d:Nat}{w:World}(x S:bg):(Op.equalIn (d+2) 53 (.agg (bg.cells x).toArray) (.agg (bg.cells S).toArray)).run Pg w=.ok (bg.cs x S) w:=
 Gv Tryz.underlying53 (by kernel_rfl) (o2 (by decide) (ji Tryz.underlying3 rfl rfl) (ji Tryz.underlying3 rfl rfl) (tN Tryz.underlying3) (o2 (by decide) (ji Tryz.underlying38 rfl rfl) (ji Tryz.underlying38 rfl rfl) (tN Tryz.underlying38) (o2 (by decide) (ji Tryz.underlying2 rfl rfl) (ji Tryz.underlying2 rfl rfl) (tN Tryz.underlying2) Gu)))
theorem Gs(x S:bg):Tryz.prog.eqGuardType Tryz.prog.depth 53=false∧∀ w,(Op.equalIn 10000 53 (.agg (bg.cells x).toArray) (.agg (bg.cells S).toArray)).run Pg w=.ok (bg.cs x S) w:=
 ⟨by kernel_rfl,fun _=>ann (d:=9998) x S⟩
def iz.cs(x S:iz):Bool:=((x.aC==S.aC)&&((x.cd==S.cd)&&((x.b==S.b)&&((x.ib==S.ib)&&true))))
theorem ano{d:Nat}{w:World}(x S:iz):(Op.equalIn (d+2) 60 (.agg (iz.cells x).toArray) (.agg (iz.cells S).toArray)).run Pg w=.ok (iz.cs x S) w:=
 Gv Tryz.underlying60 (by kernel_rfl) (o2 (by decide) (ji Tryz.underlying3 rfl rfl) (ji Tryz.underlying3 rfl rfl) (tN Tryz.underlying3) (o2 (by decide) (ji Tryz.underlying3 rfl rfl) (ji Tryz.underlying3 rfl rfl) (tN Tryz.underlying3) (o2 (by decide) (ji Tryz.underlying2 rfl rfl) (ji Tryz.underlying2 rfl rfl) (tN Tryz.underlying2) (o2 (by decide) (ji Tryz.underlying4 rfl rfl) (ji Tryz.underlying4 rfl rfl) (Jx Tryz.underlying4) Gu))))
def ir.cs(x S:ir):Bool:=((x.Kind==S.Kind)&&((iz.cs x.Part S.Part)&&((x.jP==S.jP)&&((x.b5==S.b5)&&true))))
theorem anp{d:Nat}{w:World}(x S:ir):(Op.equalIn (d+3) 62 (.agg (ir.cells x).toArray) (.agg (ir.cells S).toArray)).run Pg w=.ok (ir.cs x S) w:=
 Gv Tryz.underlying62 (by kernel_rfl) (o2 (by decide) (ji Tryz.underlying3 rfl rfl) (ji Tryz.underlying3 rfl rfl) (tN Tryz.underlying3) (o2 (by decide) (H3 Tryz.underlying60 rfl Ew.size rfl) (H3 Tryz.underlying60 rfl Ew.size rfl) (ano (d:=d) _ _) (o2 (by decide) (ji Tryz.underlying4 rfl rfl) (ji Tryz.underlying4 rfl rfl) (Jx Tryz.underlying4) (o2 (by decide) (ji Tryz.underlying2 rfl rfl) (ji Tryz.underlying2 rfl rfl) (tN Tryz.underlying2) Gu))))
def gZ.cs(x S:gZ):Bool:=((x.aC==S.aC)&&((x.fF==S.fF)&&((x.fx==S.fx)&&((ir.cs x.o S.o)&&true))))
theorem anq{d:Nat}{w:World}(x S:gZ):(Op.equalIn (d+4) 64 (.agg (gZ.cells x).toArray) (.agg (gZ.cells S).toArray)).run Pg w=.ok (gZ.cs x S) w:=
 Gv Tryz.underlying64 (by kernel_rfl) (o2 (by decide) (ji Tryz.underlying3 rfl rfl) (ji Tryz.underlying3 rfl rfl) (tN Tryz.underlying3) (o2 (by decide) (ji Tryz.underlying3 rfl rfl) (ji Tryz.underlying3 rfl rfl) (tN Tryz.underlying3) (o2 (by decide) (ji Tryz.underlying3 rfl rfl) (ji Tryz.underlying3 rfl rfl) (tN Tryz.underlying3) (o2 (by decide) (H3 Tryz.underlying62 rfl Ex.size rfl) (H3 Tryz.underlying62 rfl Ex.size rfl) (anp (d:=d) _ _) Gu))))
theorem Gt(x S:gZ):Tryz.prog.eqGuardType Tryz.prog.depth 64=false∧∀ w,(Op.equalIn 10000 64 (.agg (gZ.cells x).toArray) (.agg (gZ.cells S).toArray)).run Pg w=.ok (gZ.cs x S) w:=
 ⟨by kernel_rfl,fun _=>anq (d:=9996) x S⟩
def lA.cs(x S:lA):Bool:=((x.said==S.said)&&((x.cq==S.cq)&&((x.gQ==S.gQ)&&true)))
theorem anm{d:Nat}{w:World}(x S:lA):(Op.equalIn (d+2) 210 (.agg (lA.cells x).toArray) (.agg (lA.cells S).toArray)).run Pg w=.ok (lA.cs x S) w:=
 Gv Tryz.underlying210 (by kernel_rfl) (o2 (by decide) (ji Tryz.underlying4 rfl rfl) (ji Tryz.underlying4 rfl rfl) (Jx Tryz.underlying4) (o2 (by decide) (ji Tryz.underlying4 rfl rfl) (ji Tryz.underlying4 rfl rfl) (Jx Tryz.underlying4) (o2 (by decide) (ji Tryz.underlying2 rfl rfl) (ji Tryz.underlying2 rfl rfl) (tN Tryz.underlying2) Gu)))
theorem Jw(x S:lA):Tryz.prog.eqGuardType Tryz.prog.depth 210=false∧∀ w,(Op.equalIn 10000 210 (.agg (lA.cells x).toArray) (.agg (lA.cells S).toArray)).run Pg w=.ok (lA.cs x S) w:=
 ⟨by kernel_rfl,fun _=>anm (d:=9998) x S⟩
theorem YU:Ext Pg 137 Extern.MathFloatBits.float64bits:=⟨_,Tryz.func137,rfl,rfl,by kernel_rfl,by kernel_rfl⟩
theorem OI:Ext Pg 227 Extern.MathFloatBits.float64frombits:=⟨_,Tryz.func227,rfl,rfl,by kernel_rfl,by kernel_rfl⟩
end bf
end Go.Proofs.YthaobmpdjcoheaaGreat
