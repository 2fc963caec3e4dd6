/- Own texts of this claim, part 0: short, merged. -/
import Derived.OrdersHeld
import Derived.Calls
import Derived.Laws.World
import Derived.KernelRfl
import Derived.WalkKit
import Derived.WalkLawsBesides
import Derived.Lib.SliceRun
import Derived.Laws.Cover3
import Derived.Laws.Pointers
import Derived.Lib.Strings
import Derived.Laws.Append
import Derived.Maps.OwnOps
import Derived.Laws.StructEq
import Derived.Maps.RangeRun
import Derived.Scope
import Derived.Laws.MakeOwn
import Derived.Laws.Small
import Derived.Laws.Externs
import Derived.Laws.BytesString
import Derived.Laws.IdiomStrings
import Derived.Laws.FloatArith
import Derived.Recover
import Derived.Test.YthaobmpdjcoheaaGreatProg
set_option maxRecDepth 100000
set_option maxHeartbeats 40000000
set_option linter.defProp false
set_option linter.unusedVariables false
set_option linter.unusedSimpArgs false
namespace Go.Proofs.YthaobmpdjcoheaaGreat
noncomputable abbrev Pg:=Tryz.prog
end Go.Proofs.YthaobmpdjcoheaaGreat
namespace Go.Proofs.YthaobmpdjcoheaaGreat
namespace bb
def ae(f:Nat→Value)(d:Nat)(v:Value):Nat→Value:=fun t=>bif Nat.beq t d then v else f t
def gM(f:Nat→Value):Option Nat→Value→(Nat→Value)
 |some d,v=>ae f d v
 |none,_=>f
def act(n:Nat)(f:Nat→Value)(aC:List Deferred):Act:={ tmps:=Array.ofFn (n:=n) fun i=>f i.1,defers:=aC }
def ad(n:Nat)(f:Nat→Value):Operand→Value
 |.tmp t=>bif Nat.blt t n then f t else undef
 |.const v=>v
 |.global g=>.pointer (some ⟨g,0,none⟩)
 |.func f=>.func (.func f) #[] #[]
theorem aIl{f:Nat→Value}{d:Nat}{v:Value}(h:f d=v):ae f d v=f:=by
 funext t;simp only[ae];cases ao:Nat.beq t d with
 |false=>rfl
 |true=>rw[Nat.eq_of_beq_eq_true ao,h]; rfl
theorem aP{g f:Nat→Value}{d:Nat}{v:Value}(h:g=f)(aJ:f d=v):ae g d v=f:=by
 subst h; exact aIl aJ
theorem hN(n:Nat)(f:Nat→Value)(aC:List Deferred):(act n f aC).eval=ad n f:=by
 funext x;cases x with
 |tmp t=>
  simp only[Act.eval,act,ad];by_cases h:t<n
  ·have ao:Nat.blt t n=true:=by simpa using h
   simp[h,ao]
  ·have ao:Nat.blt t n=false:=by cases ao:Nat.blt t n with | false=>rfl | true=>exact absurd (by simpa using ao) h
   simp[h,ao]
 |const v=>rfl
 |global g=>rfl
 |func g=>rfl
theorem ia(n:Nat)(f:Nat→Value)(aC:List Deferred)(d:Option Nat)(v:Value):(act n f aC).put d v=act n (gM f d v) aC:=by
 cases d with
 |none=>rfl
 |some d=>
  simp only[Act.put,act,gM];congr 1;apply Array.ext
  ·simp
  ·intro i I O;simp only[Array.size_setIfInBounds,Array.size_ofFn] at I;simp only[Array.getElem_setIfInBounds,Array.size_ofFn,I,Array.getElem_ofFn,ae];by_cases e:d=i
   ·subst e; simp
   ·have ao:Nat.beq i d=false:=by
     cases ao:Nat.beq i d with
     |false=>rfl
     |true=>exact absurd (Nat.eq_of_beq_eq_true ao).symm e
    simp[e,ao]
def start(m:List Value):Nat→Value:=fun t=>m.getD t undef
theorem Sz(m:List Value)(n:Nat)(h:m.length≤n) :
  ({ tmps:=m.toArray++Array.replicate (n-m.toArray.size) undef,defers:=[] }:Act)=act n (start m) []:=by
 simp only[act];congr 1;apply Array.ext
 ·simp; omega
 ·intro i I O;simp only[Array.size_ofFn] at O;simp only[Array.getElem_ofFn,start,Array.getElem_append,List.size_toArray];by_cases al:i<m.length
  ·simp[al]
  ·simp[al]
theorem q0{P:Program}{f:FuncId}{fn:Func}{c:Code}{m:List Value}{w:World}{j:Ending→World→Prop}(n:Nat)
  (am:P.funcs[f]?=some fn) (aK:fn.ntmps=n) (ao:fn.body=some c) (al:m.length≤n)
  (h:c.wp P (bodyPost P fn j) (act n (start m) []) w):Calls P f m.toArray w j:=by
 subst aK;exact calls_of_wp am ao (by rw[Sz m _ al]; exact h)
def CM(n:Nat)(ops:Array Oper)(f:Nat→Value)(D:Nat):Option Bool:=
 match (ops[D]?).bind (·.dst) with
 |some d=>(match ad n f (.tmp d) with |.bool l=>some l |_=>none)
 |none=>none
theorem Iw(n:Nat)(ops:Array Oper)(f:Nat→Value)(aC:List Deferred)(D:Nat) :
  yielded ops (act n f aC).tmps D=CM n ops f D:=by
 unfold yielded CM;cases h:(ops[D]?).bind (·.dst) with
 |none=>rfl
 |some d=>
  simp only[Option.bind_some,act,ad];by_cases ag:d<n
  ·have ao:Nat.blt d n=true:=by simpa using ag
   simp[ag,ao];cases f d<;>rfl
  ·have ao:Nat.blt d n=false:=by cases ao:Nat.blt d n with | false=>rfl | true=>exact absurd (by simpa using ao) ag
   simp[ag,ao,undef]
inductive uA(n:Nat)(ops:Array Oper)(f:Nat→Value)(G:Oper):Prop
 |free (h:G.guard=none)
 |az (D:Nat) (l:Bool) (d:Nat) (c:Bool) (R:G.guard=some (D,l)) (bI:(ops[D]?).bind (·.dst)=some d) (aJ:ad n f (.tmp d)=.bool c) (U:c=l)
theorem uA.wanted{n:Nat}{ops:Array Oper}{f:Nat→Value}{G:Oper}{aC:List Deferred}(h:uA n ops f G) :
  Region.wanted G (yielded ops (act n f aC).tmps)=true:=by
 cases h with
 |free h=>simp[Region.wanted,h]
 |az D l d c R bI aJ U=>
  simp only[Region.wanted,R,Iw,CM,bI,aJ,U];simp
inductive CQ(n:Nat)(ops:Array Oper)(f:Nat→Value)(G:Oper):Prop
 |az (D:Nat) (l:Bool) (d:Nat) (c:Bool) (R:G.guard=some (D,l)) (bI:(ops[D]?).bind (·.dst)=some d) (aJ:ad n f (.tmp d)=.bool c) (U:c=!l)
 |undef (D:Nat) (l:Bool) (d:Nat) (R:G.guard=some (D,l)) (bI:(ops[D]?).bind (·.dst)=some d) (aJ:ad n f (.tmp d)=undef)
theorem CQ.wanted{n:Nat}{ops:Array Oper}{f:Nat→Value}{G:Oper}{aC:List Deferred}(h:CQ n ops f G) :
  Region.wanted G (yielded ops (act n f aC).tmps)=false:=by
 cases h with
 |az D l d c R bI aJ U=>
  simp only[Region.wanted,R,Iw,CM,bI,aJ,U];cases l<;>simp
 |undef D l d R bI aJ=>
  simp only[Region.wanted,R,Iw,CM,bI,aJ,undef];rfl
@[irreducible] def cW(P:Program)(ops:Array Oper)(Q:Exit→Act→World→Prop)(m:List Nat)(a:Act)(w:World):Prop:=wpOps P ops Q m a w
@[irreducible] def mO(P:Program)(G:Oper)(a:Act)(w:World)(next:Act→World→Prop)(Q:Exit→Act→World→Prop):Prop:=G.wp P a w next Q
theorem nO{P:Program}{G:Oper}{a:Act}{w:World}{next:Act→World→Prop}{Q:Exit→Act→World→Prop}:mO P G a w next Q=G.wp P a w next Q:=by unfold mO; rfl
theorem zw:cW=wpOps:=by funext P ops Q m a w; unfold cW; rfl
section
variable {P:Program} {Q:Exit→Act→World→Prop} {n:Nat} {f:Nat→Value} {aC:List Deferred} {w J:World} {ops:Array Oper} {i:Nat} {rest:List Nat} {G:Oper} {d:Option Nat}
theorem ofList(h:ops.toList[i]?=some G):ops[i]?=some G:=by simpa using h
theorem eP{v:Value}(aw:ops.toList[i]?=some G)(R:uA n ops f G)(ag:G.dst=d)(aJ:(execOp (ad n f) G).run P w=.ok (.value v) J)
  (h:cW P ops Q rest (act n (gM f d v) aC) J):cW P ops Q (i::rest) (act n f aC) w:=by
 subst ag;rw[zw] at *;rw[wpOps_cons];simp only[wpOp,ofList aw,R.wanted,if_true];left;simp only[Oper.wp,hN,aJ,Oper.upon_value,ia];exact h
theorem aei(aw:ops.toList[i]?=some G)(R:uA n ops f G)(ag:G.dst=d)(aJ:(execOp (ad n f) G).run P w=.ok .skip J)
  (h:cW P ops Q rest (act n (gM f d undef) aC) J):cW P ops Q (i::rest) (act n f aC) w:=by
 subst ag;rw[zw] at *;rw[wpOps_cons];simp only[wpOp,ofList aw,R.wanted,if_true];left;simp only[Oper.wp,hN,aJ,Oper.upon_skip,ia];exact h
theorem dl(aw:ops.toList[i]?=some G)(R:CQ n ops f G)(ag:G.dst=d)
  (h:cW P ops Q rest (act n (gM f d undef) aC) w):cW P ops Q (i::rest) (act n f aC) w:=by
 subst ag;rw[zw] at *;rw[wpOps_cons];simp only[wpOp,ofList aw,R.wanted,Bool.false_eq_true,if_false,ia];exact h
theorem en(aw:ops.toList[i]?=some G)(R:uA n ops f G)
  (h:mO P G (act n f aC) w (cW P ops Q rest) Q):cW P ops Q (i::rest) (act n f aC) w:=by
 rw[nO] at h;rw[zw] at *;rw[wpOps_cons];simp only[wpOp,ofList aw,R.wanted,if_true];exact .inl h
theorem bc(h:Q .normal (act n f aC) w):cW P ops Q [] (act n f aC) w:=by rw[zw]; exact h
theorem bq{id:Nat}(m:List Nat)(al:List.range ops.size=m)(h:cW P ops Q m (act n f aC) w):(Code.region id ops false).wp P Q (act n f aC) w:=by
 subst al; rw[zw] at h; exact wp_region h
theorem XP{k:FuncId}{args:Array Value}{next:Act→World→Prop}
  (aJ:(execOp (ad n f) G).run P w=.ok (.enter k args) J)
  (h : Calls P k args J fun
   |.returned v,S1=>next (act n (gM f G.dst v) aC) S1
   |.panicked chain,S1=>Q (.panic chain) (act n f aC) S1
   |.outgrown,_=>LetsOut Q):G.wp P (act n f aC) w next Q:=by
 simp only[Oper.wp,hN,aJ,Oper.upon_enter,ia];exact h
end
section
variable {P:Program} {Q:Exit→Act→World→Prop} {ops:Array Oper}
def waits(ops:Array Oper)(D i:Nat):Bool:=
 match ops[D]? with
 |some G=>G.after.any fun e=>Region.binds .any e&&e.on==i
 |none=>false
def xe(P:Program)(ops:Array Oper)(Q:Exit→Act→World→Prop):List (Nat×(World→Prop))→Nat→Array Bool→Act→World→Prop
 |_,0,listed,a,w=>Region.ready .any ops listed=[]∧Q .normal a w
 |ay,ow+1,listed,a,w=>
  (Region.ready .any ops listed=[]→Q .normal a w) ∧
  ∀ i∈Region.ready .any ops listed,wpOp P ops Q i (fun cb J=>(∀ x∈ay,waits ops i x.1=false→x.2 w→x.2 J)∧xe P ops Q ay ow (listed.setIfInBounds i true) cb J) a w
@[irreducible] def g_(P:Program)(ops:Array Oper)(Q:Exit→Act→World→Prop)(ay:List (Nat×(World→Prop)))(k:Nat)(m:Array Bool)(a:Act)(w:World):Prop:=xe P ops Q ay k m a w
theorem zv:g_=xe:=by funext P ops Q ay k m a w; unfold g_; rfl
@[irreducible] def mw(P:Program)(ops:Array Oper)(Q:Exit→Act→World→Prop)(i:Nat)(aa:Act→World→Prop)(a:Act)(w:World):Prop:=wpOp P ops Q i aa a w
theorem NQ:mw=wpOp:=by funext P ops Q i aa a w; unfold mw; rfl
theorem S9(ay:List (Nat×(World→Prop))):∀ (ow:Nat) (listed:Array Bool) (a:Act) (w:World),xe P ops Q ay ow listed a w→wpAny P .any ops Q ow listed a w
 |0,_,_,_,h=>h
 |ow+1,_,_,_,h=>⟨h.1,fun i aw=>wpOp_mono (fun cb J fp=>S9 ay ow _ cb J fp.2) (h.2 i aw)⟩
theorem afM{x:Nat×(World→Prop)}{ay:List (Nat×(World→Prop))}:∀ (g:Nat) (m:Array Bool) (a:Act) (w:World),xe P ops Q (x::ay) g m a w→xe P ops Q ay g m a w
 |0,_,_,_,h=>h
 |g+1,_,_,_,h=>⟨h.1,fun k aq=>wpOp_mono (fun cb J fp=>⟨fun S aB hw=>fp.1 S (List.mem_cons_of_mem _ aB) hw,afM g _ cb J fp.2⟩) (h.2 k aq)⟩
theorem aIO{i:Nat}{B_:Oper}{v:Value}{W:World→Prop}(aw:ops[i]?=some B_)(aaf:∀ (D:Nat) (G:Oper) a8 l,ops[D]?=some G→G.op≠.select a8 l)
  (dZ:∀ c a w,Q (.panic c) (a.put B_.dst v) w→Q (.panic c) a w) (ay:List (Nat×(World→Prop))) :
  ∀ (ow:Nat) (listed:Array Bool) (a:Act) (w:World),
   (∀ D Ca,ops[D]?=some Ca→D≠i→listed.getD D true=false→(∀ e∈Ca.after,Region.binds .any e=true→e.on≠i)→B_.apart ops Ca=true) →
   i∈Region.ready .any ops listed→YieldsIf P ops W B_ v a→W w →
   xe P ops Q ((i,W)::ay) ow (listed.setIfInBounds i true) (a.put B_.dst v) w→xe P ops Q ay (ow+1) listed a w:=by
 intro ow;induction ow with
 |zero=>
  intro listed a w _ ab aB eX H;refine⟨fun h=>(by rw[h] at ab; cases ab),fun D bI=>?_⟩;by_cases yh:D=i
  ·subst yh;exact aB.wpOp aw eX ⟨fun x F _ h=>h,H⟩
  ·have:=ready_mono bI yh;rw[H.1] at this;cases this
 |succ ow b_=>
  intro listed a w ZY ab aB eX H;refine⟨fun h=>(by rw[h] at ab; cases ab),fun D bI=>?_⟩;by_cases yh:D=i
  ·subst yh;exact aB.wpOp aw eX ⟨fun x F _ h=>h,afM _ _ _ _ H⟩
  ·have I:=H.2 D (ready_mono bI yh);obtain⟨Z2,Ca,J3,ra⟩:=mem_ready.1 bI;have G0:∀ e∈Ca.after,Region.binds .any e=true→e.on≠i:=fun e he ao D0=>by
    have I:=ra e he ao;have ah:=(mem_ready.1 ab).1;rw[D0] at I;rcases Nat.lt_or_ge i listed.size with fp | fp
    ·simp[fp] at ah I; rw[ah] at I; cases I
    ·simp[Array.getElem?_eq_none fp] at I
   have arD:waits ops D i=false:=by
    simp only[waits,J3];rw[Array.any_eq_false'];intro e he;have:=G0 e he;cases ao:Region.binds .any e<;>simp_all
   have O:=wpOp_putIf J3 (ZY D Ca J3 yh Z2 G0) (fun a8 l=>aaf i B_ a8 l aw) (fun a8 l=>aaf D Ca a8 l J3) dZ aB I;have apo:∀ k ok,ops[k]?=some ok→k≠i→(listed.setIfInBounds D true).getD k true=false →
     (∀ e∈ok.after,Region.binds .any e=true→e.on≠i)→B_.apart ops ok=true:=fun k ok aq aqh aap u7=>by
    refine ZY k ok aq aqh ?_ u7;by_cases zS:D=k
    ·subst zS; exact Z2
    ·rw[getD_set_ne true zS] at aap; exact aap
   refine wpOp_mono (fun cb J aH=>?_) O;obtain⟨yo,Zu,bg⟩:=aH;have aox:W J:=Zu (i,W) (List.mem_cons_self ..) arD eX;refine⟨fun x F hw=>Zu x (List.mem_cons_of_mem _ F) hw,?_⟩;refine b_ (listed.setIfInBounds D true) cb J apo (ready_mono ab (Ne.symm yh)) yo aox ?_;rw[Array.setIfInBounds_comm _ _ yh];exact bg
theorem L5{x:Nat×(World→Prop)}(F:∀ w,x.2 w){ay:List (Nat×(World→Prop))}:∀ (g:Nat) (m:Array Bool) (a:Act) (w:World),xe P ops Q ay g m a w→xe P ops Q (x::ay) g m a w
 |0,_,_,_,h=>h
 |g+1,_,_,_,h=>⟨h.1,fun k aq=>wpOp_mono (fun cb J fp=>⟨fun S aB hw ah=>(List.mem_cons.1 aB).elim (fun e=>e▸F J) (fun aB=>fp.1 S aB hw ah),L5 F g _ cb J fp.2⟩) (h.2 k aq)⟩
structure lv(ops:Array Oper)(Q:Exit→Act→World→Prop):Prop where
 aGS:Region.noSelect ops=true
 aEc:∀ c a d v w,(∃ G∈ops.toList,G.dst=d)→Q (.panic c) (Act.put a d v) w→Q (.panic c) a w
theorem po{id:Nat}{n:Nat}{f:Nat→Value}{aC:List Deferred}{w dz:World}(y:Nat)(hm:P.follows .mixedOrders=true)(al:ops.size=y)(aG:Region.noSelect ops=true)
  (dZ:∀ c a d v w,Q (.panic c) (Act.put a d v) w→Q (.panic c) a w) (hw:dz=w.drew)
  (h:lv ops Q→g_ P ops Q [] y (Array.replicate y false) (act n f aC) dz):(Code.region id ops true).wp P Q (act n f aC) w:=by
 subst al; subst hw;rw[zv] at h;exact wp_region_any hm (S9 [] _ _ _ _ (h ⟨aG,fun c a d v w _=>dZ c a d v w⟩))
theorem aIS{id:Nat}{n:Nat}{f:Nat→Value}{aC:List Deferred}{w dz:World}(y:Nat)(hm:P.follows .mixedOrders=true)(al:ops.size=y)(aG:Region.noSelect ops=true)
  (dZ:∀ c a d v w,(∃ G∈ops.toList,G.dst=d)→Q (.panic c) (Act.put a d v) w→Q (.panic c) a w) (hw:dz=w.drew)
  (h:lv ops Q→g_ P ops Q [] y (Array.replicate y false) (act n f aC) dz):(Code.region id ops true).wp P Q (act n f aC) w:=by
 subst al; subst hw;rw[zv] at h;exact wp_region_any hm (S9 [] _ _ _ _ (h ⟨aG,dZ⟩))
section
variable {n k:Nat} {f:Nat→Value} {aC:List Deferred} {w J:World} {i:Nat} {listed:Array Bool} {ay:List (Nat×(World→Prop))} {G:Oper} {d:Option Nat}
theorem Ih{v:Value}{W:World→Prop}(ak:lv ops Q)(am:Region.free .any ops listed i=true)(ab:(Region.ready .any ops listed).contains i=true)(aw:ops.toList[i]?=some G)
  (ag:G.dst=d)
  (aB:YieldsIf P ops W G v (act n f aC)) (eX:W w) (h:g_ P ops Q ((i,W)::ay) k (listed.setIfInBounds i true) (act n (gM f d v) aC) w):g_ P ops Q ay (k+1) listed (act n f aC) w:=by
 rw[zv] at *;exact aIO (ofList aw) (Region.noSelect_spec ak.aGS) (fun c a w=>ak.aEc c a _ _ w ⟨G,List.mem_of_getElem? aw,rfl⟩) ay k listed _ w (Region.free_spec (ofList aw) am) (by simpa using ab) aB eX (by rw[ia,ag]; exact h)
theorem eO{v:Value}(ak:lv ops Q)(am:Region.free .any ops listed i=true)(ab:(Region.ready .any ops listed).contains i=true)(aw:ops.toList[i]?=some G)(R:uA n ops f G)(ag:G.dst=d)
  (aJ:∀ w,(execOp (ad n f) G).run P w=.ok (.value v) w)
  (h:g_ P ops Q ay k (listed.setIfInBounds i true) (act n (gM f d v) aC) w):g_ P ops Q ay (k+1) listed (act n f aC) w:=
 Ih (W:=fun _=>True) ak am ab aw ag (.inl ⟨R.wanted,fun w _=>by rw[hN]; exact aJ w⟩) trivial (by rw[zv] at *; exact L5 (fun _=>trivial) _ _ _ _ h)
theorem tb{v:Value}(W:World→Prop)(ak:lv ops Q)(am:Region.free .any ops listed i=true)(ab:(Region.ready .any ops listed).contains i=true)(aw:ops.toList[i]?=some G)(R:uA n ops f G)(ag:G.dst=d)
  (aJ:∀ w,W w→(execOp (ad n f) G).run P w=.ok (.value v) w) (eX:W w)
  (h:g_ P ops Q ((i,W)::ay) k (listed.setIfInBounds i true) (act n (gM f d v) aC) w):g_ P ops Q ay (k+1) listed (act n f aC) w:=
 Ih ak am ab aw ag (.inl ⟨R.wanted,fun w hw=>by rw[hN]; exact aJ w hw⟩) eX h
theorem Sd(ak:lv ops Q)(am:Region.free .any ops listed i=true)(ab:(Region.ready .any ops listed).contains i=true)(aw:ops.toList[i]?=some G)(R:CQ n ops f G)(ag:G.dst=d)
  (h:g_ P ops Q ay k (listed.setIfInBounds i true) (act n (gM f d undef) aC) w):g_ P ops Q ay (k+1) listed (act n f aC) w:=
 Ih (W:=fun _=>True) ak am ab aw ag (.inr ⟨R.wanted,rfl⟩) trivial (by rw[zv] at *; exact L5 (fun _=>trivial) _ _ _ _ h)
theorem Sc{an:List Nat}{a:Act}(ab:Region.ready .any ops listed=an)(dO:an≠[])
  (h:∀ i∈an,mw P ops Q i (fun cb J=>(∀ x∈ay,waits ops i x.1=false→x.2 w→x.2 J)∧g_ P ops Q ay k (listed.setIfInBounds i true) cb J) a w):g_ P ops Q ay (k+1) listed a w:=by
 rw[zv,NQ] at *;exact⟨fun ah=>absurd (ab▸ah) dO,ab▸h⟩
theorem fk{a:Act}(ab:Region.ready .any ops listed=[i])
  (h:mw P ops Q i (fun cb J=>(∀ x∈ay,waits ops i x.1=false→x.2 w→x.2 J)∧g_ P ops Q ay k (listed.setIfInBounds i true) cb J) a w):g_ P ops Q ay (k+1) listed a w:=
 Sc ab (by simp) fun D bI=>by
  obtain rfl:D=i:=by simpa using bI
  exact h
theorem aea{D:Nat}{a:Act}(ab:Region.ready .any ops listed=[i,D])
  (h:mw P ops Q i (fun cb J=>(∀ x∈ay,waits ops i x.1=false→x.2 w→x.2 J)∧g_ P ops Q ay k (listed.setIfInBounds i true) cb J) a w)
  (fp:mw P ops Q D (fun cb J=>(∀ x∈ay,waits ops D x.1=false→x.2 w→x.2 J)∧g_ P ops Q ay k (listed.setIfInBounds D true) cb J) a w):g_ P ops Q ay (k+1) listed a w:=
 Sc ab (by simp) fun m al=>by
  rcases List.mem_cons.1 al with rfl | al
  ·exact h
  ·obtain rfl:m=D:=by simpa using al
   exact fp
theorem aF0{D y:Nat}{a:Act}(ab:Region.ready .any ops listed=[i,D,y])
  (h:mw P ops Q i (fun cb J=>(∀ x∈ay,waits ops i x.1=false→x.2 w→x.2 J)∧g_ P ops Q ay k (listed.setIfInBounds i true) cb J) a w)
  (fp:mw P ops Q D (fun cb J=>(∀ x∈ay,waits ops D x.1=false→x.2 w→x.2 J)∧g_ P ops Q ay k (listed.setIfInBounds D true) cb J) a w)
  (an9:mw P ops Q y (fun cb J=>(∀ x∈ay,waits ops y x.1=false→x.2 w→x.2 J)∧g_ P ops Q ay k (listed.setIfInBounds y true) cb J) a w):g_ P ops Q ay (k+1) listed a w:=
 Sc ab (by simp) fun m al=>by
  rcases List.mem_cons.1 al with rfl | al
  ·exact h
  ·rcases List.mem_cons.1 al with rfl | al
   ·exact fp
   ·obtain rfl:m=y:=by simpa using al
    exact an9
section
variable {aa:Act→World→Prop}
theorem hG(aw:ops.toList[i]?=some G)(R:uA n ops f G)(h:mO P G (act n f aC) w aa Q):mw P ops Q i aa (act n f aC) w:=by
 rw[nO] at h;rw[NQ];simp only[wpOp,ofList aw,R.wanted,if_true];exact .inl h
theorem yT{v:Value}(aw:ops.toList[i]?=some G)(R:uA n ops f G)(ag:G.dst=d)(aJ:(execOp (ad n f) G).run P w=.ok (.value v) J)(h:aa (act n (gM f d v) aC) J):mw P ops Q i aa (act n f aC) w:=by
 subst ag;refine hG aw R ?_;rw[nO];simp only[Oper.wp,hN,aJ,Oper.upon_value,ia];exact h
theorem ud(aw:ops.toList[i]?=some G)(R:uA n ops f G)(ag:G.dst=d)(aJ:(execOp (ad n f) G).run P w=.ok .skip J)(h:aa (act n (gM f d undef) aC) J):mw P ops Q i aa (act n f aC) w:=by
 subst ag;refine hG aw R ?_;rw[nO];simp only[Oper.wp,hN,aJ,Oper.upon_skip,ia];exact h
theorem lT(aw:ops.toList[i]?=some G)(R:CQ n ops f G)(ag:G.dst=d)(h:aa (act n (gM f d undef) aC) w):mw P ops Q i aa (act n f aC) w:=by
 subst ag;rw[NQ];simp only[wpOp,ofList aw,R.wanted,Bool.false_eq_true,if_false,ia];exact h
end
theorem kH{y:Nat}{a:Act}(ab:Region.ready .any ops listed=[])(h:Q .normal a w):g_ P ops Q ay y listed a w:=by
 rw[zv];cases y with
 |zero=>exact⟨ab,h⟩
 |succ y=>exact⟨fun _=>h,by rw[ab]; simp⟩
theorem im{D:Nat}:∀ x∈([]:List (Nat×(World→Prop))),waits ops D x.1=false→x.2 w→x.2 J:=fun x F=>absurd F (List.not_mem_nil)
theorem hi{D i:Nat}{W:World→Prop}(h:waits ops D i=true)(t:∀ x∈ay,waits ops D x.1=false→x.2 w→x.2 J):∀ x∈(i,W)::ay,waits ops D x.1=false→x.2 w→x.2 J:=by
 intro x F am;rcases List.mem_cons.1 F with rfl | F
 ·rw[h] at am; cases am
 ·exact t x F am
theorem fH{D i:Nat}{W:World→Prop}(h:W w→W J)(t:∀ x∈ay,waits ops D x.1=false→x.2 w→x.2 J):∀ x∈(i,W)::ay,waits ops D x.1=false→x.2 w→x.2 J:=by
 intro x F am;rcases List.mem_cons.1 F with rfl | F
 ·exact h
 ·exact t x F am
end
end
structure bn(Z:Type) where
 enc:Z→Value
 cells:Z→List Value
structure af where
 a:Option Addr
 len:Nat
 cap:Nat
inductive cc where
 |nil
 |mk (fn:Fn) (first captured:Array Value)
def cc.enc:cc→Value
 |.nil=>.nilFunc
 |.mk f a c=>.func f a c
inductive ei where
 |nil
 |mk (t:TypeId) (v:Value)
def ei.enc:ei→Value
 |.nil=>.nilIface
 |.mk t v=>.iface t v
theorem cc.one(x:cc):x.enc.oneCell'=true:=by cases x<;>rfl
theorem cc.flat(x:cc):x.enc.cells=#[x.enc]:=by cases x<;>rfl
theorem ei.one(x:ei):x.enc.oneCell'=true:=by cases x<;>rfl
theorem ei.flat(x:ei):x.enc.cells=#[x.enc]:=by cases x<;>rfl
@[reducible] def B(k:IntKind):bn Int:=⟨fun n=>.int k n,fun n=>[.int k n]⟩
@[reducible] def bf:bn Bool:=⟨fun l=>.bool l,fun l=>[.bool l]⟩
@[reducible] def gK:bn Nat:=⟨fun l=>.float .f64 l,fun l=>[.float .f64 l]⟩
@[reducible] def qB:bn (List UInt8):=⟨fun s=>.string ⟨s.toArray⟩,fun s=>[.string ⟨s.toArray⟩]⟩
@[reducible] def aE:bn (Option Addr):=⟨fun a=>.pointer a,fun a=>[.pointer a]⟩
@[reducible] def X:bn af:=⟨fun s=>.slice s.a s.len s.cap,fun s=>[.slice s.a s.len s.cap]⟩
@[reducible] def ef:bn (Option Nat):=⟨fun r=>.map r,fun r=>[.map r]⟩
@[reducible] def gb:bn cc:=⟨fun x=>x.enc,fun x=>[x.enc]⟩
@[reducible] def hZ{Z:Type}(c:Z→List Value):bn Z:=⟨fun x=>.agg (c x).toArray,c⟩
@[reducible] def qA{Z:Type}(T:bn Z)(n:Nat):bn (Vector Z n):=hZ fun v=>v.toList.flatMap T.cells
@[reducible] def bo{Z ep:Type}(aN:bn Z)(aS:bn ep):bn (Z×ep):=⟨fun x=>.tuple #[aN.enc x.1,aS.enc x.2],fun _=>[]⟩
@[reducible] def mj{Z ep IA:Type}(aN:bn Z)(aS:bn ep)(C:bn IA):bn (Z×ep×IA):=⟨fun x=>.tuple #[aN.enc x.1,aS.enc x.2.1,C.enc x.2.2],fun _=>[]⟩
@[reducible] def dU:bn Unit:=⟨fun _=>.tuple #[],fun _=>[]⟩
def wb:TypeDesc→Bool
 |.struct _ |.array _ _=>true
 |_=>false
structure cj(P:Program)(t:TypeId){Z:Type}(T:bn Z)(n:Nat):Prop where
 size:∃ i,P.info? t=some i∧i.size=n
 len:∀ x,(T.cells x).length=n
 shape:(∃ d,P.underlying t=some d∧wb d=true∧∀ x,T.enc x=.agg (T.cells x).toArray) ∨
  (∃ d,P.underlying t=some d∧wb d=false∧n=1∧∀ x,T.cells x=[T.enc x])
 flat:∀ x,(T.enc x).cells=(T.cells x).toArray
 one:∀ x,∀ v∈T.cells x,v.oneCell'=true
def oS(w:World)(a:Addr)(a8:List Value):Prop:=∀ D v,a8[D]?=some v→w.cell? (a.add D)=some v
def v7(w:World)(a:Addr)(n:Nat):Prop:=∀ D,D<n→(w.cell? (a.add D)).isSome=true∧w.frozen? (a.add D)=false
def oC:World→Addr→Nat→List Value→World
 |w,_,_,[]=>w
 |w,a,i,v::m=>oC (w.setCell (a.add i) v) a (i+1) m
theorem run_loadCellsFrom(P:Program)(w:World)(a:Addr):∀ (a8:List Value) (i:Nat) (acc:Array Value),
  (∀ D v,a8[D]?=some v→w.cell? (a.add (i+D))=some v)→(loadCellsFrom a i a8.length acc).run P w=.ok (acc++a8.toArray) w
 |[],i,acc,_=>by simp[loadCellsFrom]
 |v::a8,i,acc,h=>by
  have ah:=h 0 v rfl;simp only[Nat.add_zero] at ah;simp only[List.length_cons,loadCellsFrom,Sem.run_bind,run_load,ah,Result.andThen_ok];rw[run_loadCellsFrom P w a a8 (i+1) (acc.push v)]
  ·simp
  ·intro D u hu;have:=h (D+1) u (by simpa using hu);rwa [show i+1+D=i+(D+1) from by omega]
theorem Lx{P:Program}{t:TypeId}{d:TypeDesc}(h:P.underlying t=some d)(w:World) :
  (isAgg t).run P w=.ok (wb d) w:=by
 simp only[isAgg,Sem.run_bind,run_underlying h,Result.andThen_ok];cases d<;>rfl
theorem run_sizeOf{P:Program}{t:TypeId}{i:TypeInfo}(h:P.info? t=some i)(w:World):(sizeOf t).run P w=.ok i.size w:=by
 simp[sizeOf,typeInfo,h]
theorem aen{P:Program}{t:TypeId}{Z:Type}{T:bn Z}{n:Nat}(ok:cj P t T n){w:World}{a:Addr}{x:Z}(h:oS w a (T.cells x)) :
  (loadVar t a).run P w=.ok (T.enc x) w:=by
 obtain⟨i,aw,aK⟩:=ok.size;have al:=ok.len x;rcases ok.shape with ⟨d,ag,aG,he⟩ | ⟨d,ag,aG,I,he⟩
 ·simp only[loadVar,Sem.run_bind,Lx ag,aG,Result.andThen_ok,if_true,run_sizeOf aw,loadCells];rw[show i.size=(T.cells x).length from by omega,run_loadCellsFrom P w a (T.cells x) 0 #[] (by intro D v aJ; rw[Nat.zero_add]; exact h D v aJ)];simp[he x]
 ·simp only[loadVar,Sem.run_bind,Lx ag,aG,Result.andThen_ok,Bool.false_eq_true,if_false,run_load];have:=h 0 (T.enc x) (by simp[he x]);rw[show a.add 0=a from by simp[Addr.add]] at this;simp[this]
theorem EO{P:Program}(a:Addr):∀ (a8:List Value) (i:Nat) (w:World),
  (∀ D, D < a8.length → (w.cell? (a.add (i + D))).isSome = true ∧ w.frozen? (a.add (i + D)) = false) → (∀ v ∈ a8, v.oneCell' = true) →
   (storeCells a a8 i).run P w=.ok () (oC w a i a8)
 |[],i,w,_,_=>by simp[storeCells,oC]
 |v::a8,i,w,h,I=>by
  obtain⟨ah,am⟩:=h 0 (by simp);rw[Nat.add_zero] at ah am;obtain⟨u,hu⟩:=Option.isSome_iff_exists.1 ah;simp only[storeCells,Sem.run_bind,run_store P w (a.add i) v .plain (I v (by simp)),hu,am,Bool.false_eq_true,if_false,Result.andThen_ok,oC];refine EO a a8 (i+1) _ ?_ (fun v aJ=>I v (by simp[aJ]));intro D bI;obtain⟨cO,Zm⟩:=h (D+1) (by simpa using bI);rw[show i+(D+1)=i+1+D from by omega] at cO Zm;refine⟨?_,by simpa using Zm⟩;by_cases e:a.add i=a.add (i+1+D)
  ·rw[← e]; simp[World.cell?_setCell_same _ _ v hu]
  ·rw[World.cell?_setCell_other _ _ _ v e]; exact cO
theorem aGH{P:Program}{t:TypeId}{Z:Type}{T:bn Z}{n:Nat}(ok:cj P t T n){w:World}{a:Addr}{x:Z}(h:v7 w a n) :
  (storeVar t a (T.enc x)).run P w=.ok () (oC w a 0 (T.cells x)):=by
 obtain⟨i,aw,aK⟩:=ok.size;have al:=ok.len x;simp only[storeVar,Sem.run_bind,run_sizeOf aw,Result.andThen_ok,ok.flat x];rw[if_neg (by simp[al,aK])];refine EO a _ 0 w ?_ (ok.one x);intro D bI;rw[Nat.zero_add];exact h D (by simpa[al] using bI)
theorem aep{P:Program}{t:TypeId}{Z:Type}{T:bn Z}{n:Nat}(ok:cj P t T n){w:World}(x:Z) :
  (newVar t (T.enc x)).run P w=.ok ⟨w.heap.size,0,none⟩ (w.alloc (.cells (T.cells x).toArray t)):=by
 simp only[newVar,newRow,Sem.run_bind,run_newObj,Result.andThen_ok,Sem.run_pure,ok.flat x,World.alloc_eq]
def ex{Z:Type}(C:Z→Prop)(k:Z→Prop):Prop:=∃ x,C x∧k x
def bw(aN aS:Prop):Prop:=aN∧aS
def L{Z:Type}(T:bn Z)(a:Addr)(w:World)(x:Z):Prop:=oS w a (T.cells x)
def bC(p:Option Addr)(a:Addr):Prop:=p=some a
def ba{Z:Type}(T:bn Z)(a:Addr)(x:Z)(w:World)(k:World→Prop):Prop:=v7 w a (T.cells x).length∧k (oC w a 0 (T.cells x))
def bG{Z:Type}(t:TypeId)(T:bn Z)(x:Z)(w:World)(k:Addr→World→Prop):Prop:=k ⟨w.heap.size,0,none⟩ (w.alloc (.cells (T.cells x).toArray t))
def s6{Z:Type}(t:TypeId)(T:bn Z)(xs:List Z)(w:World)(k:Addr→World→Prop):Prop:=k ⟨w.heap.size,0,none⟩ (w.alloc (.cells (xs.flatMap T.cells).toArray t))
def cD(s:af)(ar:Nat)(i:Int)(a:Addr):Prop:=∃ l,s.a=some l∧0≤i∧i<s.len∧a=l.add (i.toNat*ar)
def oh(l:Addr)(y ar:Nat)(i:Int)(a:Addr):Prop:=0≤i∧i<y∧a=l.add (i.toNat*ar)
def aju(s:List UInt8)(i:Int)(l:Int):Prop:=0≤i∧∃ c,s[i.toNat]?=some c∧l=c.toNat
def WW{Z:Type}{n:Nat}(v:Vector Z n)(i:Int)(x:Z):Prop:=0≤i∧v.toList[i.toNat]?=some x
def Sub(s:af)(ar:Nat)(m h y:Int)(r:af):Prop:=
 0≤m∧m≤h∧h≤y∧y≤s.cap∧r=⟨if y.toNat=m.toNat then s.a else s.a.map (·.add (m.toNat*ar)),h.toNat-m.toNat,y.toNat-m.toNat⟩
def NT(s:List UInt8)(m h:Int)(r:List UInt8):Prop:=0≤m∧m≤h∧h≤s.length∧r=(s.take h.toNat).drop m.toNat
def afX(a l r:List UInt8):Prop:=a.length+l.length≤9223372036854775807∧r=a++l
def AY{Z:Type}(T:bn Z)(j:Z→World→Prop):Ending→World→Prop
 |.returned v,w=>∃ x,v=T.enc x∧j x w
 |_,_=>False
def M{Z:Type}(P:Program)(f:FuncId)(args:List Value)(T:bn Z)(w:World)(k:Z→World→Prop):Prop:=Calls P f args.toArray w (AY T k)
def eZ{bp:Type}(body:bp→World→(bp→World→Prop)→Prop)(s:bp)(w:World):Prop:=
 ∃ (aV:bp→World→Prop) (tj:bp→World→Nat),aV s w∧∀ s w,aV s w→body s w fun fy J=>aV fy J∧tj fy J<tj s w
theorem dC{P:Program}{t:TypeId}{z:Value}{n l:Nat}(h:(P.info? t).map (fun i=>(i.zero,i.size,i.bytes))=some (some z,n,l)) :
  ∃ i,P.info? t=some i∧i.zero=some z∧i.size=n∧i.bytes=l:=by
 cases aw:P.info? t with
 |none=>rw[aw] at h; cases h
 |some i=>
  rw[aw] at h;simp only[Option.map_some,Option.some.injEq,Prod.mk.injEq] at h;exact⟨i,rfl,h.1,h.2.1,h.2.2⟩
theorem DN{Z:Type}{c:Z→List Value}{y:Nat}(h:∀ x,(c x).length=y)(xs:List Z):(xs.flatMap c).length=xs.length*y:=by
 induction xs with
 |nil=>simp
 |cons x xs b_=>simp[b_,h x,Nat.add_mul,Nat.add_comm]
section
variable {P:Program} {n:Nat} {f:Nat→Value} {w:World} {G:Oper} {x S z:Operand}
theorem cQ{v:Value}(ai:G.op=.move x)(F:ad n f x=v):(execOp (ad n f) G).run P w=.ok (.value v) w:=by
 simp[execOp,ai,F]
theorem Ci{v:Value}(ai:G.op=.assign x)(F:ad n f x=v):(execOp (ad n f) G).run P w=.ok (.value v) w:=by
 simp[execOp,ai,F]
theorem hX{v:Value}{l:Bool}(ai:G.op=.pick x S z)(F:ad n f x=.bool l)(ao:l=true)(aB:ad n f S=v):(execOp (ad n f) G).run P w=.ok (.value v) w:=by
 subst ao; simp[execOp,ai,F,aB,asBool]
theorem iS{v:Value}{l:Bool}(ai:G.op=.pick x S z)(F:ad n f x=.bool l)(ao:l=false)(bD:ad n f z=v):(execOp (ad n f) G).run P w=.ok (.value v) w:=by
 subst ao; simp[execOp,ai,F,bD,asBool]
theorem adS{a c:Bool}(ai:G.op=.pick x S z)(F:ad n f x=.bool a)(aB:ad n f S=.bool true)(bD:ad n f z=.bool c) :
  (execOp (ad n f) G).run P w=.ok (.value (.bool (a||c))) w:=by
 cases a<;>simp[execOp,ai,F,aB,bD,asBool]
theorem adR{a l:Bool}(ai:G.op=.pick x S z)(F:ad n f x=.bool a)(aB:ad n f S=.bool l)(bD:ad n f z=.bool false) :
  (execOp (ad n f) G).run P w=.ok (.value (.bool (a&&l))) w:=by
 cases a<;>simp[execOp,ai,F,aB,bD,asBool]
theorem HQ{Z:Type}{T:bn Z}{y:Nat}{t:TypeId}{u:Z}{a:Addr}{J:World}(ai:G.op=.alloc t)(ok:cj P t T y){az:Nat}(u5:∃ i,P.info? t=some i∧i.zero=some (T.enc u)∧i.size=y∧i.bytes=az)
  (Y:a=⟨w.heap.size,0,none⟩) (hw:J=w.alloc (.cells (T.cells u).toArray t)):(execOp (ad n f) G).run P w=.ok (.value (.pointer (some a))) J:=by
 obtain⟨i,aw,bD,_⟩:=u5;subst Y; subst hw; simp[execOp,ai,Instr.alloc,zeroValue,typeInfo,aw,bD,aep ok]
theorem ue{Z:Type}{T:bn Z}{y:Nat}{t:TypeId}{u:Z}{a:Addr}{J:World}(ai:G.op=.box t x)(ok:cj P t T y)(F:ad n f x=T.enc u)
  (Y:a=⟨w.heap.size,0,none⟩) (hw:J=w.alloc (.cells (T.cells u).toArray t)):(execOp (ad n f) G).run P w=.ok (.value (.pointer (some a))) J:=by
 subst Y; subst hw; simp[execOp,ai,F,Instr.box,aep ok]
theorem j9{Z:Type}{T:bn Z}{y:Nat}{t:TypeId}{u:Z}{a:Addr}(ai:G.op=.load t x)(ok:cj P t T y)(F:ad n f x=.pointer (some a))(ab:oS w a (T.cells u)) :
  (execOp (ad n f) G).run P w=.ok (.value (T.enc u)) w:=by
 simp[execOp,ai,F,Instr.loadAt,Instr.sureAddr,aen ok ab]
theorem se{Z:Type}{T:bn Z}{y:Nat}{t:TypeId}{u:Z}{a:Addr}{J:World}(ai:G.op=.store t x S)(ok:cj P t T y)(F:ad n f x=.pointer (some a))(aB:ad n f S=T.enc u)
  (ab:v7 w a (T.cells u).length) (hw:J=oC w a 0 (T.cells u)):(execOp (ad n f) G).run P w=.ok .skip J:=by
 subst hw; simp[execOp,ai,F,aB,Instr.storeAt,Instr.sureAddr,aGH ok (by rw[ok.len] at ab; exact ab)]
theorem mb{a:Addr}(ai:G.op=.nilCheck x)(F:ad n f x=.pointer (some a)):(execOp (ad n f) G).run P w=.ok (.value (.pointer (some a))) w:=by
 simp[execOp,ai,F]
theorem pf{k:IntKind}{a l:Int}{t u:TypeId}(ai:G.op=.binOp .add t x S u)(F:ad n f x=.int k a)(aB:ad n f S=.int k l) :
  (execOp (ad n f) G).run P w=.ok (.value (.int k (k.wrap (a+l)))) w:=by simp[execOp,ai,F,aB,eqGuard_add,binOp_add,Op.intArith]
theorem yW{k:IntKind}{a l:Int}{t u:TypeId}(ai:G.op=.binOp .sub t x S u)(F:ad n f x=.int k a)(aB:ad n f S=.int k l) :
  (execOp (ad n f) G).run P w=.ok (.value (.int k (k.wrap (a-l)))) w:=by simp[execOp,ai,F,aB,eqGuard_sub,binOp_sub,Op.intArith]
theorem RW{k:IntKind}{a l:Int}{t u:TypeId}(ai:G.op=.binOp .mul t x S u)(F:ad n f x=.int k a)(aB:ad n f S=.int k l) :
  (execOp (ad n f) G).run P w=.ok (.value (.int k (k.wrap (a*l)))) w:=by simp[execOp,ai,F,aB,eqGuard_mul,binOp_mul,Op.intArith]
theorem Lc{k:IntKind}{a l:Int}{t u:TypeId}(ai:G.op=.binOp .and t x S u)(F:ad n f x=.int k a)(aB:ad n f S=.int k l) :
  (execOp (ad n f) G).run P w=.ok (.value (.int k (bits .and k a l))) w:=by simp[execOp,ai,F,aB,eqGuard_and,binOp_and,intBits_and]
theorem Lh{k:IntKind}{a l:Int}{t u:TypeId}(ai:G.op=.binOp .or t x S u)(F:ad n f x=.int k a)(aB:ad n f S=.int k l) :
  (execOp (ad n f) G).run P w=.ok (.value (.int k (bits .or k a l))) w:=by simp[execOp,ai,F,aB,eqGuard_or,binOp_or,intBits_or]
theorem R6{k:IntKind}{a l:Int}{t u:TypeId}(ai:G.op=.binOp .xor t x S u)(F:ad n f x=.int k a)(aB:ad n f S=.int k l) :
  (execOp (ad n f) G).run P w=.ok (.value (.int k (bits .xor k a l))) w:=by simp[execOp,ai,F,aB,eqGuard_xor,binOp_xor,intBits_xor]
theorem acR{k:IntKind}{a l:Int}{t u:TypeId}(ai:G.op=.binOp .andNot t x S u)(F:ad n f x=.int k a)(aB:ad n f S=.int k l) :
  (execOp (ad n f) G).run P w=.ok (.value (.int k (bits .andNot k a l))) w:=by simp[execOp,ai,F,aB,eqGuard_andNot,binOp_andNot,intBits_andNot]
def E6(l qn r:Int):Prop:=l≠0∧r=qn
def iL(l qn r:Int):Prop:=0≤l∧r=qn
theorem R0{k:IntKind}{a l r:Int}{t u:TypeId}(ai:G.op=.binOp .quo t x S u)(F:ad n f x=.int k a)(aB:ad n f S=.int k l)(h:E6 l (k.wrap (a.tdiv l)) r) :
  (execOp (ad n f) G).run P w=.ok (.value (.int k r)) w:=by
 obtain⟨h,rfl⟩:=h;simp[execOp,ai,F,aB,eqGuard_quo,binOp_quo,Op.intDiv,h]
theorem R1{k:IntKind}{a l r:Int}{t u:TypeId}(ai:G.op=.binOp .rem t x S u)(F:ad n f x=.int k a)(aB:ad n f S=.int k l)(h:E6 l (a.tmod l) r) :
  (execOp (ad n f) G).run P w=.ok (.value (.int k r)) w:=by
 obtain⟨h,rfl⟩:=h;simp[execOp,ai,F,aB,eqGuard_rem,binOp_rem,Op.intDiv,h]
theorem adT{k:IntKind}{a l:Int}{t u:TypeId}(ai:G.op=.binOp .quo t x S u)(F:ad n f x=.int k a)(aB:ad n f S=.int k l)(h:l≠0) :
  (execOp (ad n f) G).run P w=.ok (.value (.int k (k.wrap (a.tdiv l)))) w:=R0 ai F aB ⟨h,rfl⟩
theorem adU{k:IntKind}{a l:Int}{t u:TypeId}(ai:G.op=.binOp .rem t x S u)(F:ad n f x=.int k a)(aB:ad n f S=.int k l)(h:l≠0) :
  (execOp (ad n f) G).run P w=.ok (.value (.int k (a.tmod l))) w:=R1 ai F aB ⟨h,rfl⟩
theorem Li{k To:IntKind}{a l r:Int}{t u:TypeId}(ai:G.op=.binOp .shl t x S u)(F:ad n f x=.int k a)(aB:ad n f S=.int To l)(h:iL l (k.wrap (a*2^(min l.toNat k.bits))) r) :
  (execOp (ad n f) G).run P w=.ok (.value (.int k r)) w:=by
 obtain⟨h,rfl⟩:=h;simp[execOp,ai,F,aB,eqGuard_shl,binOp_shl,Op.shift,Int.not_lt.2 h]
theorem R3{k To:IntKind}{a l r:Int}{t u:TypeId}(ai:G.op=.binOp .shr t x S u)(F:ad n f x=.int k a)(aB:ad n f S=.int To l)(h:iL l (a.fdiv (2^(min l.toNat k.bits))) r) :
  (execOp (ad n f) G).run P w=.ok (.value (.int k r)) w:=by
 obtain⟨h,rfl⟩:=h;simp[execOp,ai,F,aB,eqGuard_shr,binOp_shr,Op.shift,Int.not_lt.2 h]
theorem iH{k:IntKind}{a l:Int}{t u:TypeId}(ai:G.op=.binOp .eql t x S u)(F:ad n f x=.int k a)(aB:ad n f S=.int k l) :
  (execOp (ad n f) G).run P w=.ok (.value (.bool (a==l))) w:=by simp[execOp,ai,F,aB,eqGuard_at_int,binOp_eql]
theorem hc{k:IntKind}{a l:Int}{t u:TypeId}(ai:G.op=.binOp .neq t x S u)(F:ad n f x=.int k a)(aB:ad n f S=.int k l) :
  (execOp (ad n f) G).run P w=.ok (.value (.bool (a != l))) w:=by simp[execOp,ai,F,aB,eqGuard_at_int,binOp_neq]
theorem ma{k:IntKind}{a l:Int}{t u:TypeId}(ai:G.op=.binOp .lss t x S u)(F:ad n f x=.int k a)(aB:ad n f S=.int k l) :
  (execOp (ad n f) G).run P w=.ok (.value (.bool (decide (a<l)))) w:=by simp[execOp,ai,F,aB,eqGuard_lss,binOp_lss]
theorem Ld{k:IntKind}{a l:Int}{t u:TypeId}(ai:G.op=.binOp .leq t x S u)(F:ad n f x=.int k a)(aB:ad n f S=.int k l) :
  (execOp (ad n f) G).run P w=.ok (.value (.bool (decide (a≤l)))) w:=by simp[execOp,ai,F,aB,eqGuard_leq,binOp_leq]
theorem vw{k:IntKind}{a l:Int}{t u:TypeId}(ai:G.op=.binOp .gtr t x S u)(F:ad n f x=.int k a)(aB:ad n f S=.int k l) :
  (execOp (ad n f) G).run P w=.ok (.value (.bool (decide (a>l)))) w:=by simp[execOp,ai,F,aB,eqGuard_gtr,binOp_gtr]
theorem HS{k:IntKind}{a l:Int}{t u:TypeId}(ai:G.op=.binOp .geq t x S u)(F:ad n f x=.int k a)(aB:ad n f S=.int k l) :
  (execOp (ad n f) G).run P w=.ok (.value (.bool (decide (a≥l)))) w:=by simp[execOp,ai,F,aB,eqGuard_geq,binOp_geq]
theorem RS{a l:Bool}{t u:TypeId}(ai:G.op=.binOp .eql t x S u)(aR:P.underlying t=some .bool)(F:ad n f x=.bool a)(aB:ad n f S=.bool l) :
  (execOp (ad n f) G).run P w=.ok (.value (.bool (a==l))) w:=by simp[execOp,ai,F,aB,eqGuard_at_bool,run_eql_bool _ _ _ _ aR]
theorem RX{a l:Bool}{t u:TypeId}(ai:G.op=.binOp .neq t x S u)(aR:P.underlying t=some .bool)(F:ad n f x=.bool a)(aB:ad n f S=.bool l) :
  (execOp (ad n f) G).run P w=.ok (.value (.bool (!(a==l)))) w:=by simp[execOp,ai,F,aB,eqGuard_at_bool,run_neq_bool _ _ _ _ aR]
theorem toList_toArray(s:List UInt8):(⟨s.toArray⟩:ByteArray).toList=s:=by
 rw[ByteArray.toList_eq]
theorem adw{a l:List UInt8}{t u:TypeId}(ai:G.op=.binOp .eql t x S u)(F:ad n f x=.string ⟨a.toArray⟩)(aB:ad n f S=.string ⟨l.toArray⟩) :
  (execOp (ad n f) G).run P w=.ok (.value (.bool (a==l))) w:=by simp[execOp,ai,F,aB,eqGuard_at_string,binOp,Op.stringOp,toList_toArray]
theorem adN{a l:List UInt8}{t u:TypeId}(ai:G.op=.binOp .neq t x S u)(F:ad n f x=.string ⟨a.toArray⟩)(aB:ad n f S=.string ⟨l.toArray⟩) :
  (execOp (ad n f) G).run P w=.ok (.value (.bool (!(a==l)))) w:=by simp[execOp,ai,F,aB,eqGuard_at_string,binOp,Op.stringOp,toList_toArray]
theorem adr{a l r:List UInt8}{t u:TypeId}(ai:G.op=.binOp .add t x S u)(F:ad n f x=.string ⟨a.toArray⟩)(aB:ad n f S=.string ⟨l.toArray⟩)(aG:afX a l r) :
  (execOp (ad n f) G).run P w=.ok (.value (.string ⟨r.toArray⟩)) w:=by
 obtain⟨aG,rfl⟩:=aG;have nu:((⟨a.toArray⟩:ByteArray).size+(⟨l.toArray⟩:ByteArray).size:Nat)=a.length+l.length:=rfl;have aoX:(⟨a.toArray⟩:ByteArray)++⟨l.toArray⟩=⟨(a++l).toArray⟩:=by
  apply ByteArray.ext; simp
 simp only[execOp,ai,F,aB,eqGuard_add,binOp,Op.stringOp,aoX];rw[if_neg (by rw[nu,IntKind.max_i64]; omega)];rfl
theorem sd{a:Option Addr}{t u e:TypeId}(ai:G.op=.binOp .eql t x S u)(aR:P.underlying t=some (.pointer e))(F:ad n f x=.pointer a)(aB:ad n f S=.pointer none) :
  (execOp (ad n f) G).run P w=.ok (.value (.bool a.isNone)) w:=by
 have aF:P.underlying t=some (.pointer (P.pointee t)):=by simp[Program.pointee,aR]
 simp only[execOp,ai,F,aB,eqGuard_at_pointer,bind_pure_comp,Sem.run_map,pure_bind,run_eql_pointer_nil w t a aF,Result.andThen_ok]
theorem Lg{a:Option Addr}{t u e:TypeId}(ai:G.op=.binOp .neq t x S u)(aR:P.underlying t=some (.pointer e))(F:ad n f x=.pointer a)(aB:ad n f S=.pointer none) :
  (execOp (ad n f) G).run P w=.ok (.value (.bool (!a.isNone))) w:=by
 have aF:P.underlying t=some (.pointer (P.pointee t)):=by simp[Program.pointee,aR]
 simp only[execOp,ai,F,aB,eqGuard_at_pointer,bind_pure_comp,Sem.run_map,pure_bind,run_neq_pointer_nil w t a aF,Result.andThen_ok]
theorem adv{s:af}{t u e:TypeId}(ai:G.op=.binOp .eql t x S u)(aR:P.underlying t=some (.slice e))(F:ad n f x=X.enc s)(aB:ad n f S=.slice none 0 0) :
  (execOp (ad n f) G).run P w=.ok (.value (.bool s.a.isNone)) w:=by
 simp only[execOp,ai,F,aB,eqGuard_at_slice,bind_pure_comp,Sem.run_map,pure_bind,Lib.run_eql_slice_nil w t e s.a s.len s.cap 0 0 aR,Result.andThen_ok]
theorem adM{s:af}{t u e:TypeId}(ai:G.op=.binOp .neq t x S u)(aR:P.underlying t=some (.slice e))(F:ad n f x=X.enc s)(aB:ad n f S=.slice none 0 0) :
  (execOp (ad n f) G).run P w=.ok (.value (.bool (!s.a.isNone))) w:=by
 simp only[execOp,ai,F,aB,eqGuard_at_slice,bind_pure_comp,Sem.run_map,pure_bind,run_neq_slice_nil w t e s.a s.len s.cap aR,Result.andThen_ok]
theorem ru{l:Bool}{t:TypeId}(ai:G.op=.unOp .not t x)(F:ad n f x=.bool l) :
  (execOp (ad n f) G).run P w=.ok (.value (.bool (!l))) w:=by simp[execOp,ai,F,Op.unary]
theorem RZ{k:IntKind}{a:Int}{t:TypeId}(ai:G.op=.unOp .neg t x)(F:ad n f x=.int k a) :
  (execOp (ad n f) G).run P w=.ok (.value (.int k (k.wrap (0-a)))) w:=by simp[execOp,ai,F,Op.unary,Op.intArith]
theorem uf{k D:IntKind}{a:Int}{s t:TypeId}(ai:G.op=.convert s t x)(aG:P.underlying s=some (.int D))(aR:P.underlying t=some (.int k))(F:ad n f x=.int D a) :
  (execOp (ad n f) G).run P w=.ok (.value (.int k (k.wrap a))) w:=by
 simp[execOp,ai,F,convert,run_underlying aG,run_underlying aR,Conv.intToInt]
theorem lU{t:TypeId}{ik:Array Field}{fd:Field}{a:Addr}{k off y:Nat}{Z:Type}{T:bn Z}(ai:G.op=.fieldAddr t x k)(aR:P.underlying t=some (.struct ik))(am:ik[k]?=some fd)
  (zU:fd.offset=off) (ok:cj P fd.type T y) (hm:y≠0) (F:ad n f x=.pointer (some a)) :
  (execOp (ad n f) G).run P w=.ok (.value (.pointer (some (a.add off)))) w:=by
 obtain⟨i,aw,aG⟩:=ok.size;subst zU;have yl:i.size≠0:=by omega
 simp[execOp,ai,F,Instr.fieldAt,run_underlying aR,am,Instr.sureAddr,fieldPlace,run_sizeOf aw,yl]
theorem ks{t e:TypeId}{a:Addr}{s:af}{k:IntKind}{i:Int}{y:Nat}{Z:Type}{T:bn Z}(ai:G.op=.indexAddr t x S)(aR:P.underlying t=some (.slice e))(ok:cj P e T y)
  (F:ad n f x=X.enc s) (aB:ad n f S=.int k i) (Y:cD s y i a) :
  (execOp (ad n f) G).run P w=.ok (.value (.pointer (some a))) w:=by
 obtain⟨jz,aw,aG⟩:=ok.size;obtain⟨l,ao,ah,I,rfl⟩:=Y;simp[execOp,ai,F,aB,Instr.indexAt,asIntOf,run_underlying aR,ao,ah,I,run_sizeOf aw,aG]
theorem adE{t e:TypeId}{a l:Addr}{m y:Nat}{k:IntKind}{i:Int}{Z:Type}{T:bn Z}(ai:G.op=.indexAddr t x S)(aR:P.underlying t=some (.array m e))(ok:cj P e T y)
  (F:ad n f x=.pointer (some l)) (aB:ad n f S=.int k i) (Y:oh l m y i a) :
  (execOp (ad n f) G).run P w=.ok (.value (.pointer (some a))) w:=by
 obtain⟨jz,aw,aG⟩:=ok.size;obtain⟨ah,I,rfl⟩:=Y;simp[execOp,ai,F,aB,Instr.indexAt,Instr.sureAddr,asIntOf,run_underlying aR,ah,I,run_sizeOf aw,aG]
theorem adF{t:TypeId}{s:List UInt8}{k:IntKind}{i l:Int}(ai:G.op=.index t x S)(aR:P.underlying t=some .string)(F:ad n f x=.string ⟨s.toArray⟩)(aB:ad n f S=.int k i)(Y:aju s i l) :
  (execOp (ad n f) G).run P w=.ok (.value (.int .u8 l)) w:=by
 obtain⟨ah,c,U,rfl⟩:=Y;have R:(⟨s.toArray⟩:ByteArray)[i.toNat]?=some c:=by
  have al:i.toNat<s.length:=(List.getElem?_eq_some_iff.1 U).1;have:i.toNat<(⟨s.toArray⟩:ByteArray).size:=al;rw[getElem?_pos (⟨s.toArray⟩:ByteArray) i.toNat this];have:=(List.getElem?_eq_some_iff.1 U).2;simpa[ByteArray.getElem_eq_getElem_data] using this
 simp[execOp,ai,F,aB,Instr.index,asIntOf,run_underlying aR,ah,R]
theorem jV{s:af}{t e:TypeId}(ai:G.op=.call { callee:=.builtin .len,args:=#[x],argTypes:=#[t] })(aR:P.underlying t=some (.slice e))(F:ad n f x=X.enc s) :
  (execOp (ad n f) G).run P w=.ok (.value (.int .i64 s.len)) w:=by
 simp[execOp,ai,F,resolve,invoke,builtin,Builtin.len_,run_underlying aR,goInt]
theorem adq{s:af}{t e:TypeId}(ai:G.op=.call { callee:=.builtin .cap,args:=#[x],argTypes:=#[t] })(aR:P.underlying t=some (.slice e))(F:ad n f x=X.enc s) :
  (execOp (ad n f) G).run P w=.ok (.value (.int .i64 s.cap)) w:=by
 simp[execOp,ai,F,resolve,invoke,builtin,Builtin.cap_,run_underlying aR,goInt]
theorem adI{s:List UInt8}{t:TypeId}(ai:G.op=.call { callee:=.builtin .len,args:=#[x],argTypes:=#[t] })(aR:P.underlying t=some .string)(F:ad n f x=.string ⟨s.toArray⟩) :
  (execOp (ad n f) G).run P w=.ok (.value (.int .i64 s.length)) w:=by
 have aG:(⟨s.toArray⟩:ByteArray).size=s.length:=rfl;simp only[execOp,ai,F,resolve,invoke,builtin,Builtin.len_,goInt,aG];simp[run_underlying aR,F,aG]
theorem wY{aW:Array Value}{v:Value}{i:Nat}(ai:G.op=.extract x i)(F:ad n f x=.tuple aW)(aJ:aW[i]?=some v):(execOp (ad n f) G).run P w=.ok (.value v) w:=by
 simp[execOp,ai,F,Instr.extract,aJ]
theorem RV{fn:Fn}{a c:List Operand}{SU SW:List Value}(ai:G.op=.makeFunc fn a.toArray c.toArray)(Y:a.map (ad n f)=SU)(U:c.map (ad n f)=SW) :
  (execOp (ad n f) G).run P w=.ok (.value (.func fn SU.toArray SW.toArray)) w:=by
 subst Y; subst U; simp[execOp,ai,Instr.makeFunc]
def dr(P:Program)(k:FuncId):Prop:=∃ fn,P.funcs[k]?=some fn∧fn.body.isSome=true∧(fn.name=="runtime.NumGoroutine")=false
theorem fR{k:FuncId}{lc:List Operand}{nI:Array TypeId}{m:List Value}(ai:G.op=.call { callee:=.value (.func k),args:=lc.toArray,argTypes:=nI })(he:dr P k)(Y:lc.map (ad n f)=m) :
  (execOp (ad n f) G).run P w=.ok (.enter k m.toArray) w:=by
 obtain⟨fn,am,ao,aK⟩:=he;have uY:fn.body≠none:=by intro h; simp[h] at ao
 subst Y;simp[execOp,ai,resolve,ad,Deferred.ofValue,invoke,callFunc,am,uY,beq_eq_false_iff_ne.1 aK]
theorem aE2{k:FuncId}{lc:List Operand}{nI:Array TypeId}{m:List Value}{c:List Value}{hE:cc}(ai:G.op=.call { callee:=.value x,args:=lc.toArray,argTypes:=nI })(F:ad n f x=hE.enc)(yd:hE=.mk (.func k) #[] c.toArray)
  (he:dr P k) (Y:lc.map (ad n f)=m):(execOp (ad n f) G).run P w=.ok (.enter k (m++c).toArray) w:=by
 obtain⟨fn,am,ao,aK⟩:=he;have uY:fn.body≠none:=by intro h; simp[h] at ao
 subst yd; subst Y;simp[execOp,ai,resolve,F,cc.enc,Deferred.ofValue,invoke,callFunc,am,uY,beq_eq_false_iff_ne.1 aK]
end
theorem pR{Z:Type}{t:TypeId}{T:bn Z}{x:Z}{w:World}{k:Addr→World→Prop}(h:bG t T x w k):∃ a J,a=⟨w.heap.size,0,none⟩∧J=w.alloc (.cells (T.cells x).toArray t)∧k a J:=⟨_,_,rfl,rfl,h⟩
theorem sm{Z:Type}{T:bn Z}{a:Addr}{x:Z}{w:World}{k:World→Prop}(h:ba T a x w k):∃ J,J=oC w a 0 (T.cells x)∧v7 w a (T.cells x).length∧k J:=⟨_,rfl,h.1,h.2⟩
section
variable {P:Program} {Q:Exit→Act→World→Prop} {n:Nat} {f:Nat→Value} {aC:List Deferred} {w J:World} {ops:Array Oper} {i:Nat} {rest:List Nat} {G:Oper} {x S:Operand}
inductive F2(P:Program)(n:Nat)(f:Nat→Value)(w:World):ResultVar→Value→Prop
 |tmp {t:Nat} {v:Value} (h:ad n f (.tmp t)=v):F2 P n f w (.tmp t) v
 |cell {Z:Type} {T:bn Z} {y:Nat} {t:Nat} {hl:TypeId} {a:Addr} {u:Z} (ok:cj P hl T y) (h:ad n f (.tmp t)=.pointer (some a)) (ab:oS w a (T.cells u)):F2 P n f w (.cell t hl) (T.enc u)
inductive sr(P:Program)(n:Nat)(f:Nat→Value)(w:World):List ResultVar→List Value→Prop
 |nil:sr P n f w [] []
 |cons {r:ResultVar} {v:Value} {an:List ResultVar} {aW:List Value} (h:F2 P n f w r v) (t:sr P n f w an aW):sr P n f w (r::an) (v::aW)
theorem Xp(t:Nat):(act n f aC).tmps.getD t undef=ad n f (.tmp t):=by
 have:=congrFun (hN n f aC) (.tmp t);exact this
def ul(tmps:Array Value):ResultVar→Sem Value
 |.tmp t=>pure (tmps.getD t undef)
 |.cell a t=>do loadVar t (← asAddr (tmps.getD a undef))
theorem aGG{r:ResultVar}{v:Value}(h:F2 P n f w r v):(ul (act n f aC).tmps r).run P w=.ok v w:=by
 cases h with
 |tmp h=>simp only[ul,Xp,h]; exact Sem.run_pure ..
 |cell ok h ab=>simp only[ul,Xp,h,asAddr,pure_bind,aen ok ab]
theorem aeo(g:ResultVar→Sem Value):∀ (an:List ResultVar) (aW:List Value),(∀ (D:Nat) (r:ResultVar) (v:Value),an[D]?=some r→aW[D]?=some v→(g r).run P w=.ok v w)→an.length=aW.length →
  (an.mapM g).run P w=.ok aW w
 |[],[],_,_=>by simp
 |r::an,v::aW,h,al=>by
  have ah:=h 0 r v rfl rfl;have aR:=aeo g an aW (fun D r v ab aJ=>h (D+1) r v (by simpa using ab) (by simpa using aJ)) (by simpa using al);simp only[List.mapM_cons,Sem.run_bind,ah,Result.andThen_ok,aR,Sem.run_pure]
 |[],_::_,_,al=>by simp at al
 |_::_,[],_,al=>by simp at al
theorem sr.length{an:List ResultVar}{aW:List Value}(h:sr P n f w an aW):an.length=aW.length:=by
 induction h with
 |nil=>rfl
 |cons _ _ b_=>simp[b_]
theorem sr.get{an:List ResultVar}{aW:List Value}(h:sr P n f w an aW):∀ (D:Nat) (r:ResultVar) (v:Value),an[D]?=some r→aW[D]?=some v→F2 P n f w r v:=by
 induction h with
 |nil=>intro D r v ab; simp at ab
 |cons h t b_=>
  intro D r v ab aJ;cases D with
  |zero=>simp at ab aJ; subst ab; subst aJ; exact h
  |succ D=>exact b_ D r v (by simpa using ab) (by simpa using aJ)
def Cw:List Value→Value
 |[v]=>v
 |aW=>.tuple aW.toArray
theorem Ly{fn:Func}{an:List ResultVar}{aW:List Value}(ab:fn.results=an.toArray)(h:sr P n f w an aW) :
  (results fn (act n f aC).tmps).run P w=.ok (Cw aW) w:=by
 have key:=aeo (P:=P) (w:=w) (ul (act n f aC).tmps) an aW (fun D r v ab aJ=>aGG (h.get D r v ab aJ)) h.length;have e:results fn (act n f aC).tmps=(do let AA ← fn.results.mapM (ul (act n f aC).tmps); pure (if h:AA.size=1 then AA[0] else .tuple AA)):=rfl;rw[e,ab,Array.mapM_eq_mapM_toList];simp only[bind_map_left,Sem.run_bind,key,Result.andThen_ok,Sem.run_pure];congr 1;cases aW with
 |nil=>rfl
 |cons v aW=>cases aW with
  |nil=>rfl
  |cons u aW=>simp[Cw]
theorem n4{fn:Func}{an:List ResultVar}{aW:List Value}{j:Ending→World→Prop}(ab:fn.results=an.toArray)(h:sr P n f w an aW)(jh:j (.returned (Cw aW)) w) :
  bodyPost P fn j .ret (act n f []) w:=⟨rfl,_,Ly ab h,jh⟩
theorem Yz{fn:Func}{an:List ResultVar}{aW:List Value}{j:Ending→World→Prop}(ab:fn.results=an.toArray)(h:sr P n f w an aW)(jh:j (.returned (Cw aW)) w) :
  bodyPost P fn j .normal (act n f []) w:=⟨rfl,_,Ly ab h,jh⟩
theorem Ar{c d:Code}{bp:Type}{eV:bp→World→Prop}{dp:(Nat→Value)→bp→(Nat→Value)}
  (bI:∀ s g w,eV s w→d.wp P Q (act n (dp g s) aC) w) (F:c.wp P (Exit.then (fun a w=>∃ s g,a=act n (dp g s) aC∧eV s w) Q) (act n f aC) w):(Code.seq c d).wp P Q (act n f aC) w:=
 wp_seq_k fun aa b2=>wp_mono F fun e a w h=>by
  cases e<;>first
   |exact h
   |(obtain⟨s,g,rfl,O5⟩:=h; exact b2 _ _ (bI s g w O5))
theorem L6{c:Operand}{p q:Code}{l:Bool}{b6 lC:Prop}(U:ad n f c=.bool l)(h:if l=true then b6 else lC)(F:l=true→b6→p.wp P Q (act n f aC) w)(aB:l=false→lC→q.wp P Q (act n f aC) w) :
  (Code.cond c p q).wp P Q (act n f aC) w:=by
 refine wp_cond_split (t:=l) (by rw[hN]; exact U) (fun ao=>F ao (by simpa[ao] using h)) (fun ao=>aB ao (by simpa[ao] using h))
theorem aIT{c:Operand}{p q:Code}(U:ad n f c=.bool false)(aB:q.wp P Q (act n f aC) w):(Code.cond c p q).wp P Q (act n f aC) w:=
 L6 (l:=false) (b6:=False) (lC:=True) U (by simp) (fun h=>by cases h) fun _ _=>aB
theorem aIU{c:Operand}{p q:Code}(U:ad n f c=.bool true)(F:p.wp P Q (act n f aC) w):(Code.cond c p q).wp P Q (act n f aC) w:=
 L6 (l:=true) (b6:=True) (lC:=False) U (by simp) (fun _ _=>F) fun h=>by cases h
theorem jb{l:Bool}{b6 lC ay:Prop}(h:if l=true then b6 else lC)(F:l=true→b6→ay)(aB:l=false→lC→ay):ay:=by
 cases l
 ·exact aB rfl (by simpa using h)
 ·exact F rfl (by simpa using h)
theorem least{p:Nat→Prop}(h:∃ n,p n):∃ y,p y∧∀ k,p k→y≤k:=by
 obtain⟨n,aK⟩:=h;induction n using Nat.strongRecOn with
 |_ n b_=>
  by_cases aG:∃ k,k<n∧p k
  ·obtain⟨k,aq,aF⟩:=aG; exact b_ k aq aF
  ·exact⟨n,aK,fun k aq=>Nat.le_of_not_lt fun al=>aG ⟨k,al,aq⟩⟩
theorem aCg{c:Code}{bp:Type}{dp:(Nat→Value)→bp→(Nat→Value)}{body:bp→World→(bp→World→Prop)→Prop}{mi:bp}{cO:Nat→Value}(h:eZ body mi w)
    (ao:∀ (s:bp) (g:Nat→Value) (w:World) (aa:bp→World→Prop),body s w aa→c.wp P (Exit.then (fun cb J=>∃ fy cy,cb=act n (dp cy fy) aC∧aa fy J) Q) (act n (dp g s) aC) w) :
    (Code.loop c).wp P Q (act n (dp cO mi) aC) w:=by
  obtain⟨aV,tj,ah,ab⟩:=h
  classical
  let eV:Nat→Act→World→Prop:=fun y a w=>∃ s g,a=act n (dp g s) aC∧aV s w∧tj s w=y
  let IB:Act→World→Nat:=fun a w=>if h:∃ y,eV y a w then (least h).choose else 0
  refine wp_loop (fun a w=>∃ y,eV y a w) IB ⟨_,mi,cO,rfl,ah,rfl⟩ ?_;intro a w a4;have ar4:IB a w=(least a4).choose:=by simp only[IB,dif_pos a4]
  obtain⟨⟨s,g,rfl,aG,hm⟩,BJ⟩:=(least a4).choose_spec;have:=ao s g w _ (ab s w aG);refine wp_mono this fun e cb J he=>?_;cases e<;>first
    |exact he
    | (obtain ⟨fy, cy, rfl, DP, dv⟩ := he
       have hex:∃ y,eV y (act n (dp cy fy) aC) J:=⟨_,fy,cy,rfl,DP,rfl⟩
       refine⟨hex,?_⟩;have I:IB (act n (dp cy fy) aC) J=(least hex).choose:=by simp only[IB,dif_pos hex]
       have O:(least hex).choose≤tj fy J:=(least hex).choose_spec.2 _ ⟨fy,cy,rfl,DP,rfl⟩;rw[ar4,I,← hm]
       omega)
theorem gR{Z:Type}{T:bn Z}{k:FuncId}{args:List Value}{d:Option Nat}{next:Act→World→Prop}{aa:Z→World→Prop}(ag:G.dst=d)
  (aJ:(execOp (ad n f) G).run P w=.ok (.enter k args.toArray) w) (h:M P k args T w aa) (aq:∀ r J,aa r J→next (act n (gM f d (T.enc r)) aC) J):mO P G (act n f aC) w next Q:=by
 rw[nO];subst ag;refine XP aJ (Calls.mono h fun e J he=>?_);cases e with
 |returned v=>obtain⟨r,rfl,ab⟩:=he; exact aq r J ab
 |panicked c=>exact he.elim
 |outgrown=>exact he.elim
theorem ap{Z:Type}{T:bn Z}{k:FuncId}{args:List Value}{aa K':Z→World→Prop}(h:M P k args T w aa)(aq:∀ r J,aa r J→K' r J):M P k args T w K':=
 Calls.mono h fun e J he=>by
  cases e with
  |returned v=>obtain⟨r,ab,b2⟩:=he; exact⟨r,ab,aq r J b2⟩
  |panicked c=>exact he
  |outgrown=>exact he
def jO(g:Bool)(v:Value):Value:=bif g then v else undef
theorem da{g:Bool}{v:Value}(h:g=true):jO g v=v:=by subst h; rfl
theorem aj8{a l:Bool}(h:(a&&l)=true):a=true:=(Bool.and_eq_true_iff.1 h).1
inductive to(n:Nat)(ops:Array Oper)(f:Nat→Value)(G:Oper)(g:Bool):Prop
 |eI (D:Nat) (d:Nat) (cO c:Bool) (R:G.guard=some (D,true)) (bI:(ops[D]?).bind (·.dst)=some d) (aJ:ad n f (.tmp d)=jO cO (.bool c)) (he:g=(cO&&c))
 |no (D:Nat) (d:Nat) (cO c:Bool) (R:G.guard=some (D,false)) (bI:(ops[D]?).bind (·.dst)=some d) (aJ:ad n f (.tmp d)=jO cO (.bool c)) (he:g=(cO&&!c))
theorem to.wanted{g:Bool}(h:to n ops f G g):Region.wanted G (yielded ops (act n f aC).tmps)=g:=by
 cases h with
 |eI D d cO c R bI aJ he=>
  subst he;simp only[Region.wanted,R,Iw,CM,bI,aJ];cases cO<;>cases c<;>rfl
 |no D d cO c R bI aJ he=>
  subst he;simp only[Region.wanted,R,Iw,CM,bI,aJ];cases cO<;>cases c<;>rfl
theorem H3{g:Bool}{v:Value}{d:Option Nat}(aw:ops.toList[i]?=some G)(R:to n ops f G g)(ag:G.dst=d)(aJ:g=true→(execOp (ad n f) G).run P w=.ok (.value v) w)
  (h:cW P ops Q rest (act n (gM f d (jO g v)) aC) w):cW P ops Q (i::rest) (act n f aC) w:=by
 subst ag;rw[zw] at *;rw[wpOps_cons];simp only[wpOp,ofList aw,R.wanted];cases g with
 |true=>
  left;simp only[Oper.wp,hN,aJ rfl,Oper.upon_value,ia];exact h
 |false=>simp only[Bool.false_eq_true,if_false,ia]; exact h
theorem Se{g:Bool}{v:Value}{k:Nat}{d:Option Nat}{listed:Array Bool}{ay:List (Nat×(World→Prop))}(ak:lv ops Q)(am:Region.free .any ops listed i=true)(ab:(Region.ready .any ops listed).contains i=true)(aw:ops.toList[i]?=some G)
  (R:to n ops f G g) (ag:G.dst=d) (aJ:g=true→∀ w,(execOp (ad n f) G).run P w=.ok (.value v) w)
  (h:g_ P ops Q ay k (listed.setIfInBounds i true) (act n (gM f d (jO g v)) aC) w):g_ P ops Q ay (k+1) listed (act n f aC) w:=by
 refine Ih (W:=fun _=>True) (v:=jO g v) ak am ab aw ag ?_ trivial (by rw[zv] at *; exact L5 (fun _=>trivial) _ _ _ _ h);cases g with
 |true=>exact .inl ⟨R.wanted,fun w _=>by rw[hN]; exact aJ rfl w⟩
 |false=>exact .inr ⟨R.wanted,rfl⟩
theorem aFZ{g:Bool}{v:Value}{k:Nat}{d:Option Nat}{listed:Array Bool}{ay:List (Nat×(World→Prop))}(W:World→Prop)(ak:lv ops Q)(am:Region.free .any ops listed i=true)(ab:(Region.ready .any ops listed).contains i=true)(aw:ops.toList[i]?=some G)
  (R:to n ops f G g) (ag:G.dst=d) (aJ:g=true→∀ w,W w→(execOp (ad n f) G).run P w=.ok (.value v) w) (eX:g=true→W w)
  (h:g_ P ops Q ((i,fun w=>g=true→W w)::ay) k (listed.setIfInBounds i true) (act n (gM f d (jO g v)) aC) w):g_ P ops Q ay (k+1) listed (act n f aC) w:=by
 refine Ih (W:=fun w=>g=true→W w) (v:=jO g v) ak am ab aw ag ?_ eX h;cases g with
 |true=>exact .inl ⟨R.wanted,fun w hw=>by rw[hN]; exact aJ rfl w (hw rfl)⟩
 |false=>exact .inr ⟨R.wanted,rfl⟩
theorem mD{z:Operand}{a c:Bool}(ai:G.op=.pick x S z)(F:ad n f x=.bool a)(aB:ad n f S=.bool true)(bD:ad n f z=jO (!a) (.bool c)) :
  (execOp (ad n f) G).run P w=.ok (.value (.bool (a||c))) w:=by
 cases a<;>simp[execOp,ai,F,aB,bD,asBool,jO]
theorem m3{z:Operand}{a l:Bool}(ai:G.op=.pick x S z)(F:ad n f x=.bool a)(aB:ad n f S=jO a (.bool l))(bD:ad n f z=.bool false) :
  (execOp (ad n f) G).run P w=.ok (.value (.bool (a&&l))) w:=by
 cases a<;>simp[execOp,ai,F,aB,bD,asBool,jO]
theorem aE4{z:Operand}{cO a c:Bool}(R:cO=true)(ai:G.op=.pick x S z)(F:ad n f x=jO cO (.bool a))(aB:ad n f S=.bool true)(bD:ad n f z=jO (cO&&!a) (.bool c)) :
  (execOp (ad n f) G).run P w=.ok (.value (.bool (a||c))) w:=by
 subst R; cases a<;>simp[execOp,ai,F,aB,bD,asBool,jO]
theorem HT{z:Operand}{cO a l:Bool}(R:cO=true)(ai:G.op=.pick x S z)(F:ad n f x=jO cO (.bool a))(aB:ad n f S=jO (cO&&a) (.bool l))(bD:ad n f z=.bool false) :
  (execOp (ad n f) G).run P w=.ok (.value (.bool (a&&l))) w:=by
 subst R; cases a<;>simp[execOp,ai,F,aB,bD,asBool,jO]
theorem arr{g f:Nat→Value}(h:g=f):act n f aC=act n g aC:=by rw[h]
theorem aIP(cL:List Nat):∀ (cI:List Nat) (a:Act) (w:World),wpOps P ops (Exit.then (fun a w=>wpOps P ops Q cL a w) Q) cI a w→wpOps P ops Q (cI++cL) a w:=by
 intro cI;induction cI with
 |nil=>intro a w h; exact h
 |cons i cI b_=>
  intro a w h;rw[List.cons_append,wpOps_cons];rw[wpOps_cons] at h;unfold wpOp at *;cases ai:ops[i]? with
  |none=>simp only[ai] at h ⊢; exact b_ _ _ h
  |some G=>
   simp only[ai] at h ⊢;by_cases hw:Region.wanted G (yielded ops a.tmps)=true
   ·rw[if_pos hw] at h ⊢;rcases h with h | ⟨I,np,S2,O⟩
    ·left;have fp:=Oper.wp_mono (K':=wpOps P ops Q (cI++cL)) (fun a w h=>b_ a w h) h;unfold Oper.wp at fp ⊢;revert fp;generalize (execOp a.eval G).run P w=r;cases r with
     |ok kF J=>cases kF<;>exact fun h=>h
     |halt x J=>cases x<;>exact fun h=>h
    ·exact .inr ⟨I,np,S2,O⟩
   ·rw[if_neg hw] at h ⊢;exact b_ _ _ h
theorem n8{bp:Type}{eV:bp→World→Prop}{dp:(Nat→Value)→bp→(Nat→Value)}(cI cL:List Nat)
  (bI:∀ s g w,eV s w→cW P ops Q cL (act n (dp g s) aC) w) (F:cW P ops (Exit.then (fun a w=>∃ s g,a=act n (dp g s) aC∧eV s w) Q) cI (act n f aC) w):cW P ops Q (cI++cL) (act n f aC) w:=by
 rw[zw] at *;refine aIP cL cI _ _ ?_;have:∀ (m:List Nat) (a:Act) (w:World),wpOps P ops (Exit.then (fun a w=>∃ s g,a=act n (dp g s) aC∧eV s w) Q) m a w→wpOps P ops (Exit.then (fun a w=>wpOps P ops Q cL a w) Q) m a w:=by
  intro m;induction m with
  |nil=>rintro a w ⟨s,g,rfl,O5⟩; exact bI s g w O5
  |cons i m b_=>
   intro a w h;rw[wpOps_cons] at h ⊢;unfold wpOp at *;cases ai:ops[i]? with
   |none=>simp only[ai] at h ⊢; exact b_ _ _ h
   |some G=>
    simp only[ai] at h ⊢;by_cases hw:Region.wanted G (yielded ops a.tmps)=true
    ·rw[if_pos hw] at h ⊢;rcases h with h | ⟨I,np,S2,O⟩
     ·left;have fp:=Oper.wp_mono (K':=wpOps P ops (Exit.then (fun a w=>wpOps P ops Q cL a w) Q) m) (fun a w h=>b_ a w h) h;unfold Oper.wp at fp ⊢;revert fp;generalize (execOp a.eval G).run P w=r;cases r with
      |ok kF J=>cases kF<;>exact fun h=>h
      |halt x J=>cases x<;>exact fun h=>h
     ·exact .inr ⟨I,np,S2,O⟩
    ·rw[if_neg hw] at h ⊢;exact b_ _ _ h
 exact this cI _ _ F
theorem s0{c:Code}{bp:Type}{dp:(Nat→Value)→bp→(Nat→Value)}{body:bp→World→(bp→World→Prop)→Prop}{mi:bp}(am:dp f mi=f)(h:eZ body mi w)
  (ao:∀ (s:bp) (g:Nat→Value) (w:World) (aa:bp→World→Prop),body s w aa→c.wp P (Exit.then (fun cb J=>∃ fy cy,cb=act n (dp cy fy) aC∧aa fy J) Q) (act n (dp g s) aC) w) :
  (Code.loop c).wp P Q (act n f aC) w:=by
 rw[← am];exact aCg (dp:=dp) h ao
def tF{Z:Type}(P:Program)(hE:cc)(args:List Value)(T:bn Z)(w:World)(k:Z→World→Prop):Prop:=
 ∃ (f:FuncId) (c:List Value),hE=.mk (.func f) #[] c.toArray∧dr P f∧M P f (args++c) T w k
theorem Tb{Z:Type}{T:bn Z}{lc:List Operand}{nI:Array TypeId}{m:List Value}{hE:cc}{d:Option Nat}{next:Act→World→Prop}{aa:Z→World→Prop}(ag:G.dst=d)(ai:G.op=.call { callee:=.value x,args:=lc.toArray,argTypes:=nI })
  (F:ad n f x=hE.enc) (Y:lc.map (ad n f)=m) (h:tF P hE m T w aa) (aq:∀ r J,aa r J→next (act n (gM f d (T.enc r)) aC) J):mO P G (act n f aC) w next Q:=by
 obtain⟨k,c,yd,he,h⟩:=h;exact gR ag (aE2 ai F yd he Y) h aq
def de(w:World)(k:World→Prop):Prop:=k w.drew
theorem ou{w:World}{k:World→Prop}(h:de w k):∃ J,J=w.drew∧k J:=⟨_,rfl,h⟩
def sC(aN aS:Prop):Prop:=aN∧aS
end
theorem W7{w:World}{G:Obj}{a:Addr}{a8:List Value}(h:oS w a a8):oS (w.alloc G) a a8:=by
 intro D v aJ;have ah:=h D v aJ;rw[World.cell?_alloc_lt _ _ _ (World.block_lt_of_cell? _ _ ah)];exact ah
theorem yv{Z:Type}{T:bn Z}{a:Addr}{x:Z}{w J:World}{G:Obj}(hw:J=w.alloc G)(h:L T a w x):L T a J x:=hw▸W7 h
def F1{Z:Type}(T:bn Z)(w:World)(a:Option Addr)(xs:List Z):Prop:=match a with
 |some a=>oS w a (xs.flatMap T.cells)
 |none=>xs=[]
def k7{Z:Type}(T:bn Z)(w:World)(s:af)(xs:List Z):Prop:=xs.length=s.len∧F1 T w s.a xs
def l4{Z:Type}(t:TypeId)(T:bn Z)(ar az:Nat)(s:af)(new:List Z)(w:World)(k:af→World→Prop):Prop:=
 (s.len + new.length ≤ s.cap → match s.a with
  |some a=>v7 w (a.add (s.len*ar)) (new.length*ar)∧k ⟨some a,s.len+new.length,s.cap⟩ (oC w (a.add (s.len*ar)) 0 (new.flatMap T.cells))
  |none=>k ⟨none,s.len+new.length,s.cap⟩ w) ∧
 (s.cap < s.len + new.length → (s.len + new.length) * az ≤ 140737488355328 ∧ ∃ old : List Z, k7 T w s old ∧
  ∀ (c:Nat) (rest:List Value),s.len+new.length≤c→rest.length=(c-(s.len+new.length))*ar →
   k ⟨some ⟨w.heap.size,0,none⟩,s.len+new.length,c⟩ (w.drew.alloc (.cells ((old++new).flatMap T.cells++rest).toArray t)))
def tz{Z:Type}(t:TypeId)(T:bn Z)(ar az:Nat)(s l:af)(w:World)(k:af→World→Prop):Prop:=
 ∃ new:List Z,k7 T w l new∧l4 t T ar az s new w k
def l3{Z:Type}(t:TypeId)(T:bn Z)(ar az:Nat)(s:af)(new:List Z)(w:World)(k:af→World→Prop):Prop:=
 l4 t T ar az s new (w.alloc (.cells (new.flatMap T.cells).toArray t)) k
section
variable {P:Program} {Q:Exit→Act→World→Prop} {n:Nat} {f:Nat→Value} {aC:List Deferred} {w J:World} {ops:Array Oper} {i:Nat} {rest:List Nat} {G:Oper} {x S z:Operand}
theorem nU{Z:Type}{T:bn Z}{y:Nat}(h:∀ x,(T.cells x).length=y)(xs:List Z):(xs.flatMap T.cells).length=xs.length*y:=by
 induction xs with
 |nil=>simp
 |cons x xs b_=>simp[b_,h x,Nat.add_mul,Nat.add_comm]
theorem Aq{Z:Type}{T:bn Z}{y:Nat}(al:∀ x,(T.cells x).length=y){s:af}{xs:List Z}(h:k7 T w s xs) :
  (Builtin.firstCells y s.len (X.enc s)).run P w=.ok (xs.flatMap T.cells).toArray w:=by
 obtain⟨g1,ab⟩:=h;obtain⟨a,m,c⟩:=s;cases a with
 |none=>
  simp only[F1] at ab;subst ab;simp[Builtin.firstCells]
 |some a=>
  simp only[F1] at ab;simp only at g1;have:=run_loadCellsFrom P w a (xs.flatMap T.cells) 0 #[] (by intro D v aJ; rw[Nat.zero_add]; exact ab D v aJ);rw[nU al,g1] at this;simp only[Builtin.firstCells,loadCells];rw[this]; simp
theorem NR{Z:Type}{T:bn Z}{s:af}{xs:List Z}(h:k7 T w s xs):k7 T w.drew s xs:=by
 obtain⟨a,m,c⟩:=s;cases a<;>exact h
theorem aGD{Z:Type}{T:bn Z}{ar:Nat}{t u hl e:TypeId}{s l:af}{new:List Z}(aR:P.underlying t=some (.slice e))(hu:∃ hQ,P.underlying u=some (.slice hQ))
  (ok:cj P e T ar) (rf:k7 T w l new) (U:s.len+new.length≤s.cap) {a:Addr} (Y:s.a=some a) (hw:v7 w (a.add (s.len*ar)) (new.length*ar)) :
  (Builtin.append_ #[t,u] hl #[X.enc s,X.enc l]).run P w=.ok (X.enc ⟨some a,s.len+new.length,s.cap⟩) (oC w (a.add (s.len*ar)) 0 (new.flatMap T.cells)):=by
 obtain⟨jz,aw,j6⟩:=ok.size;obtain⟨hQ,hu⟩:=hu;have mB:new.length=l.len:=rf.1;have BB:s.len+l.len≤s.cap:=by omega
 have I:=Aq (P:=P) ok.len rf
 have O:=EO (P:=P) (a.add (s.len*ar)) (new.flatMap T.cells) 0 w (by
  intro D bI;rw[Nat.zero_add];rw[nU ok.len] at bI
  exact hw D bI) (fun v aJ=>by obtain⟨x,_,F⟩:=List.mem_flatMap.1 aJ; exact ok.one x v F)
 simp only[Builtin.append_];simp[run_underlying aR,run_underlying hu,run_sizeOf aw,Builtin.lenOf,BB,j6,Y,mB];have GD:Sem.run P (Builtin.firstCells ar l.len (Value.slice l.a l.len l.cap)) w=.ok (new.flatMap T.cells).toArray w:=I;rw[GD];simp only[Result.andThen_ok];rw[show storeCells (a.add (s.len*ar)) (new.flatMap T.cells).toArray.toList=storeCells (a.add (s.len*ar)) (new.flatMap T.cells) 0 from rfl,O];simp
theorem aGE{Z:Type}{T:bn Z}{ar:Nat}{t u hl e:TypeId}{s l:af}{new:List Z}(aR:P.underlying t=some (.slice e))(hu:∃ hQ,P.underlying u=some (.slice hQ))
  (ok:cj P e T ar) (rf:k7 T w l new) (U:s.len+new.length≤s.cap) (Y:s.a=none) :
  (Builtin.append_ #[t,u] hl #[X.enc s,X.enc l]).run P w=.ok (X.enc ⟨none,s.len+new.length,s.cap⟩) w:=by
 obtain⟨jz,aw,j6⟩:=ok.size;obtain⟨hQ,hu⟩:=hu;have mB:new.length=l.len:=rf.1;have BB:s.len+l.len≤s.cap:=by omega
 have I:Sem.run P (Builtin.firstCells ar l.len (Value.slice l.a l.len l.cap)) w=.ok (new.flatMap T.cells).toArray w:=Aq (P:=P) ok.len rf;simp only[Builtin.append_];simp[run_underlying aR,run_underlying hu,run_sizeOf aw,Builtin.lenOf,BB,j6,Y,mB,I]
theorem aGC{Z:Type}{T:bn Z}{ar:Nat}{t u hl e:TypeId}{jz:TypeInfo}{oe:Value}{ft:List Value}{s l:af}{new old:List Z}(aR:P.underlying t=some (.slice e))(hu:∃ hQ,P.underlying u=some (.slice hQ))
  (ok:cj P e T ar) (aw:P.info? e=some jz) (bD:jz.zero=some oe) (BS:oe.cells=ft.toArray) (wB:ft.length=ar) (DW:0<jz.bytes)
  (rf:k7 T w l new) (U:s.cap<s.len+new.length) (sR:(s.len+new.length)*jz.bytes≤140737488355328) (hold:k7 T w s old) :
  ∃ (c:Nat) (rest:List Value),s.len+new.length≤c∧rest.length=(c-(s.len+new.length))*ar ∧
   (Builtin.append_ #[t,u] hl #[X.enc s,X.enc l]).run P w=.ok (X.enc ⟨some ⟨w.heap.size,0,none⟩,s.len+new.length,c⟩) (w.drew.alloc (.cells ((old++new).flatMap T.cells++rest).toArray e)):=by
 obtain⟨anZ,yg,j6⟩:=ok.size;rw[aw] at yg; injection yg with yg; subst yg
 obtain⟨hQ,hu⟩:=hu;have mB:new.length=l.len:=rf.1;have BM:old.length=s.len:=hold.1;have BB:¬ (s.len+l.len≤s.cap):=by omega
 have R:=growslice_fits (need:=s.len+l.len) (old:=s.cap) (bytes:=jz.bytes) (by omega) (by rw[← mB]; exact sR);have ye:¬ (281474976710656<Builtin.nextslicecap (s.len+l.len) s.cap*jz.bytes):=by omega
 have Pm:jz.bytes≠0:=by omega
 have I:=Aq (P:=P) ok.len rf;have O:=Aq (P:=P) ok.len hold;refine⟨(Question.appendCap (s.len+l.len) s.cap e).cut (w.tape w.drawn (.appendCap (s.len+l.len) s.cap e)),(Builtin.zeroCells oe.cells ((Question.appendCap (s.len+l.len) s.cap e).cut (w.tape w.drawn (.appendCap (s.len+l.len) s.cap e))-(s.len+l.len))).toList,?_,?_,?_⟩
 ·simp only[Question.cut]; omega
 ·simp[Builtin.zeroCells,BS,wB,mB]
 ·have GD:Sem.run P (Builtin.firstCells ar l.len (Value.slice l.a l.len l.cap)) w.drew=.ok (new.flatMap T.cells).toArray w.drew:=Aq (P:=P) ok.len (NR rf);have O1:Sem.run P (Builtin.firstCells ar s.len (Value.slice s.a s.len s.cap)) w.drew=.ok (old.flatMap T.cells).toArray w.drew:=Aq (P:=P) ok.len (NR hold);simp only[Builtin.append_];simp[run_underlying aR,run_underlying hu,run_sizeOf aw,Builtin.lenOf,BB,j6,mB,typeInfo,aw,Pm,ye,Question.forced,GD,O1,zeroValue,bD,newRow,List.flatMap_append,World.drew_eq];congr 2;apply Array.ext';simp
theorem Is{Z:Type}{T:bn Z}{ar az:Nat}{t u e:TypeId}{oe:Value}{ft:List Value}{s l:af}{d:Option Nat}{next:Act→World→Prop}{aa:af→World→Prop}(ag:G.dst=d)
  (ai:G.op=.call { callee:=.builtin .append,args:=#[x,S],argTypes:=#[t,u] }) (aR:P.underlying t=some (.slice e)) (hu:∃ hQ,P.underlying u=some (.slice hQ))
  (ok:cj P e T ar) (u5:∃ i,P.info? e=some i∧i.zero=some oe∧i.size=ar∧i.bytes=az) (BS:oe.cells=ft.toArray) (wB:ft.length=ar) (DW:0<az)
  (F:ad n f x=X.enc s) (aB:ad n f S=X.enc l) (h:tz e T ar az s l w aa) (aq:∀ r J,aa r J→next (act n (gM f d (X.enc r)) aC) J) :
  mO P G (act n f aC) w next Q:=by
 rw[nO];subst ag;obtain⟨jz,aw,bD,j6,rfl⟩:=u5;obtain⟨new,rf,kq,zQ⟩:=h;have gH:∀ (w:World) (v:Value) (J:World),(Builtin.append_ #[t,u] G.type #[X.enc s,X.enc l]).run P w=.ok v J→(execOp (ad n f) G).run P w=.ok (.value v) J:=by
  intro w v J aJ;simp only[execOp,ai,resolve,invoke,builtin];simp only[List.map_toArray,List.map_cons,List.map_nil,F,aB,pure_bind,Sem.run_bind,aJ,Result.andThen_ok,Sem.run_pure]
 by_cases U:s.len+new.length≤s.cap
 ·have kq:=kq U;cases Y:s.a with
  |none=>
   rw[Y] at kq;simp only[Oper.wp,hN,gH _ _ _ (aGE aR hu ok rf U Y),Oper.upon_value,ia];exact aq _ _ kq
  |some a=>
   rw[Y] at kq;simp only[Oper.wp,hN,gH _ _ _ (aGD aR hu ok rf U Y kq.1),Oper.upon_value,ia];exact aq _ _ kq.2
 ·obtain⟨sR,old,hold,zQ⟩:=zQ (by omega);obtain⟨c,rest,I,O,aH⟩:=aGC (hl:=G.type) aR hu ok aw bD BS wB DW rf (by omega) sR hold;simp only[Oper.wp,hN,gH _ _ _ aH,Oper.upon_value,ia];exact aq _ _ (zQ c rest I O)
theorem ajD(w:World)(a8:List Value)(t:TypeId):oS (w.alloc (.cells a8.toArray t)) ⟨w.heap.size,0,none⟩ a8:=by
 intro D v aJ;have:(⟨w.heap.size,0,none⟩:Addr).add D=⟨w.heap.size,D,none⟩:=by
  cases D<;>simp[Addr.add]
 rw[this,World.cell?_alloc_new];simpa using aJ
theorem akb{Z:Type}{t:TypeId}{T:bn Z}{ar az:Nat}{s:af}{new:List Z}{aa:af→World→Prop}(h:l3 t T ar az s new w aa) :
  tz t T ar az s ⟨some ⟨w.heap.size,0,none⟩,new.length,new.length⟩ (w.alloc (.cells (new.flatMap T.cells).toArray t)) aa:=
 ⟨new,⟨rfl,ajD w _ t⟩,h⟩
theorem anV{Z:Type}{T:bn Z}{ar:Nat}(al:∀ x,(T.cells x).length=ar)(am:∀ x,(T.enc x).cells=(T.cells x).toArray) :
  ∀ (xs:List Z) (i:Nat) (pre ln:List Value),pre.length=i*ar→ln.length=xs.length*ar →
   Instr.fill (fun i=>some (i*ar,ar)) (pre++ln).toArray ((xs.zipIdx i).map fun p=>(p.2,T.enc p.1))=some (pre++xs.flatMap T.cells).toArray:=by
 have jp:∀ (aW:List Value) (G:Nat) (pre ln:List Value),pre.length=G→aW.length≤ln.length →
   ((aW.toArray.zipIdx).foldl (fun a8 (x:Value×Nat)=>a8.setIfInBounds (G+x.2) x.1) (pre++ln).toArray)=(pre++aW++ln.drop aW.length).toArray:=by
  intro aW;have gen:∀ (aW:List Value) (k G:Nat) (pre ln:List Value),pre.length=G+k→aW.length≤ln.length →
    ((aW.zipIdx k).foldl (fun (a8:Array Value) (x:Value×Nat)=>a8.setIfInBounds (G+x.2) x.1) (pre++ln).toArray)=(pre++aW++ln.drop aW.length).toArray:=by
   intro aW;induction aW with
   |nil=>intro k G pre ln _ _; simp
   |cons v aW b_=>
    intro k G pre ln aF aG;cases ln with
    |nil=>simp at aG
    |cons s ln=>
     have I:((pre++s::ln).toArray.setIfInBounds (G+k) v)=((pre++[v])++ln).toArray:=by
      rw[← aF];simp
     simp only[List.zipIdx_cons,List.foldl_cons,I];rw[b_ (k+1) G (pre++[v]) ln (by simp; omega) (by simpa using aG)];simp
  intro G pre ln aF aG;rw[← Array.foldl_toList];have:(aW.toArray.zipIdx).toList=aW.zipIdx 0:=by simp
  rw[this];exact gen aW 0 G pre ln (by omega) aG
 intro xs;induction xs with
 |nil=>
  intro i pre ln aF aG;have:ln=[]:=by simpa using aG
  subst this;simp[Instr.fill]
 |cons x xs b_=>
  intro i pre ln aF aG;simp only[List.zipIdx_cons,List.map_cons,Instr.fill,am x];have yl:ln.length=xs.length*ar+ar:=by rw[aG]; simp[Nat.add_mul]
  have U:((T.cells x).toArray.size≠ar||i*ar+(T.cells x).toArray.size>(pre++ln).toArray.size)=false:=by
   simp[al x,aF,yl]
  rw[U];simp only[Bool.false_eq_true,if_false];have O:=jp (T.cells x) (i*ar) pre ln aF (by rw[al x,yl]; omega);rw[O];rw[b_ (i+1) (pre++T.cells x) (ln.drop (T.cells x).length) (by simp[aF,al x,Nat.add_mul]) (by simp[al x,yl])];simp
theorem Ak{Z:Type}{T:bn Z}{ar:Nat}{t e:TypeId}{oe:Value}{y:Nat}{eB:List (Nat×Operand)}{xs:List Z}{a:Addr}{J:World}(ai:G.op=.buildSlice t y eB.toArray)(aR:P.underlying t=some (.slice e))
  (ok:cj P e T ar) {az:Nat} (u5:∃ i,P.info? e=some i∧i.zero=some oe∧i.size=ar∧i.bytes=az) (hm:xs.length=y) (ao:y*ar≤2^24) (ah:y*ar≠0)
  (aF:eB.map (fun p=>(p.1,ad n f p.2))=(xs.zipIdx 0).map fun p=>(p.2,T.enc p.1))
  (Y:a=⟨w.heap.size,0,none⟩) (hw:J=w.alloc (.cells (xs.flatMap T.cells).toArray e)) :
  (execOp (ad n f) G).run P w=.ok (.value (X.enc ⟨some a,y,y⟩)) J:=by
 subst Y; subst hw;obtain⟨jz,aw,bD,j6,_⟩:=u5;have Pv:=anV (T:=T) ok.len ok.flat xs 0 [] ((Array.range (y*jz.size)).map (oe.cells[·%oe.cells.size]!)).toList (by simp) (by simp[hm,j6]);simp only[List.nil_append,Array.toArray_toList] at Pv;have aqq:¬ (y*jz.size>2^24):=by rw[j6]; omega
 have aoa:y*jz.size≠0:=by rw[j6]; exact ah
 simp only[execOp,ai,Instr.buildSlice];simp only[List.map_toArray,aF];simp only[bind_pure_comp,Sem.run_map,Sem.run_bind,run_underlying aR,Result.andThen_ok,run_sizeOf aw];rw[if_neg aqq,if_neg aoa];simp[zeroValue,typeInfo,aw,bD,j6,newRow] at Pv ⊢;simp[Pv]
theorem Et{Z:Type}{t:TypeId}{T:bn Z}{xs:List Z}{w:World}{k:Addr→World→Prop}(h:s6 t T xs w k) :
  ∃ a J,a=⟨w.heap.size,0,none⟩∧J=w.alloc (.cells (xs.flatMap T.cells).toArray t)∧k a J:=⟨_,_,rfl,rfl,h⟩
theorem Lj{t e:TypeId}{s r:af}{m h:Int}{rp pO:IntKind}{ar:Nat}{Z:Type}{T:bn Z}(ai:G.op=.slice t x (some S) (some z) none)(aR:P.underlying t=some (.slice e))(ok:cj P e T ar)(F:ad n f x=X.enc s)(aB:ad n f S=.int rp m)(bD:ad n f z=.int pO h)
  (ab:Sub s ar m h (s.cap:Int) r):(execOp (ad n f) G).run P w=.ok (.value (X.enc r)) w:=by
 obtain⟨jz,u2,j6⟩:=ok.size;obtain⟨a,len,cap⟩:=s
 try simp only at ab
 obtain⟨ah,I,O,aH,rfl⟩:=ab;have aQ:(((h:Int).toNat:Nat):Int)=h:=Int.toNat_of_nonneg (by omega);have a6:((((cap:Int):Int).toNat:Nat):Int)=(cap:Int):=Int.toNat_of_nonneg (by omega);have ao:∀ (k:IntKind) (i:Int) (S:Nat) (c:BoundsCode),0≤i→i≤S→(Instr.sliceBound (.int k i) S c).run P w=.ok i.toNat w:=fun k i S c u3 u4=>by
  simp[Instr.sliceBound,asIntOf,u3,u4]
 simp only[execOp,ai,F,Option.map_some,Option.map_none,aB,bD];simp only[Instr.sliceAt,Instr.slice,Sem.run_bind,run_underlying aR,Result.andThen_ok,Instr.sliceBounds,bind_pure_comp,Sem.run_map,Sem.run_pure,ao pO h cap _ (by omega) (by omega),ao rp m h.toNat _ (by omega) (by omega)];simp[run_sizeOf u2,j6]
theorem adW{t e:TypeId}{s r:af}{m:Int}{rp:IntKind}{ar:Nat}{Z:Type}{T:bn Z}(ai:G.op=.slice t x (some S) none none)(aR:P.underlying t=some (.slice e))(ok:cj P e T ar)(F:ad n f x=X.enc s)(aB:ad n f S=.int rp m)
  (ab:Sub s ar m (s.len:Int) (s.cap:Int) r):(execOp (ad n f) G).run P w=.ok (.value (X.enc r)) w:=by
 obtain⟨jz,u2,j6⟩:=ok.size;obtain⟨a,len,cap⟩:=s
 try simp only at ab
 obtain⟨ah,I,O,aH,rfl⟩:=ab;have aQ:((((len:Int):Int).toNat:Nat):Int)=(len:Int):=Int.toNat_of_nonneg (by omega);have a6:((((cap:Int):Int).toNat:Nat):Int)=(cap:Int):=Int.toNat_of_nonneg (by omega);have ao:∀ (k:IntKind) (i:Int) (S:Nat) (c:BoundsCode),0≤i→i≤S→(Instr.sliceBound (.int k i) S c).run P w=.ok i.toNat w:=fun k i S c u3 u4=>by
  simp[Instr.sliceBound,asIntOf,u3,u4]
 simp only[execOp,ai,F,Option.map_some,Option.map_none,aB];simp only[Instr.sliceAt,Instr.slice,Sem.run_bind,run_underlying aR,Result.andThen_ok,Instr.sliceBounds,bind_pure_comp,Sem.run_map,Sem.run_pure,ao rp m len _ (by omega) (by omega)];simp[run_sizeOf u2,j6]
theorem R4{t e:TypeId}{s r:af}{h:Int}{pO:IntKind}{ar:Nat}{Z:Type}{T:bn Z}(ai:G.op=.slice t x none (some z) none)(aR:P.underlying t=some (.slice e))(ok:cj P e T ar)(F:ad n f x=X.enc s)(bD:ad n f z=.int pO h)
  (ab:Sub s ar 0 h (s.cap:Int) r):(execOp (ad n f) G).run P w=.ok (.value (X.enc r)) w:=by
 obtain⟨jz,u2,j6⟩:=ok.size;obtain⟨a,len,cap⟩:=s
 try simp only at ab
 obtain⟨ah,I,O,aH,rfl⟩:=ab;have aQ:(((h:Int).toNat:Nat):Int)=h:=Int.toNat_of_nonneg (by omega);have a6:((((cap:Int):Int).toNat:Nat):Int)=(cap:Int):=Int.toNat_of_nonneg (by omega);have ao:∀ (k:IntKind) (i:Int) (S:Nat) (c:BoundsCode),0≤i→i≤S→(Instr.sliceBound (.int k i) S c).run P w=.ok i.toNat w:=fun k i S c u3 u4=>by
  simp[Instr.sliceBound,asIntOf,u3,u4]
 simp only[execOp,ai,F,Option.map_some,Option.map_none,bD];simp only[Instr.sliceAt,Instr.slice,Sem.run_bind,run_underlying aR,Result.andThen_ok,Instr.sliceBounds,bind_pure_comp,Sem.run_map,Sem.run_pure,ao pO h cap _ (by omega) (by omega)];simp[run_sizeOf u2,j6]
theorem adV{t e:TypeId}{s r:af}  {ar:Nat} {Z:Type} {T:bn Z} (ai:G.op=.slice t x none none none) (aR:P.underlying t=some (.slice e)) (ok:cj P e T ar) (F:ad n f x=X.enc s) 
  (ab:Sub s ar 0 (s.len:Int) (s.cap:Int) r):(execOp (ad n f) G).run P w=.ok (.value (X.enc r)) w:=by
 obtain⟨jz,u2,j6⟩:=ok.size;obtain⟨a,len,cap⟩:=s
 try simp only at ab
 obtain⟨ah,I,O,aH,rfl⟩:=ab;have aQ:((((len:Int):Int).toNat:Nat):Int)=(len:Int):=Int.toNat_of_nonneg (by omega);have a6:((((cap:Int):Int).toNat:Nat):Int)=(cap:Int):=Int.toNat_of_nonneg (by omega);have ao:∀ (k:IntKind) (i:Int) (S:Nat) (c:BoundsCode),0≤i→i≤S→(Instr.sliceBound (.int k i) S c).run P w=.ok i.toNat w:=fun k i S c u3 u4=>by
  simp[Instr.sliceBound,asIntOf,u3,u4]
 simp only[execOp,ai,F,Option.map_some,Option.map_none];simp only[Instr.sliceAt,Instr.slice,Sem.run_bind,run_underlying aR,Result.andThen_ok,Instr.sliceBounds,bind_pure_comp,Sem.run_map,Sem.run_pure];simp[run_sizeOf u2,j6]
theorem adX{t e:TypeId}{s r:af}{m h y:Int}{rp pO kD:IntKind}{v:Operand}{ar:Nat}{Z:Type}{T:bn Z}(ai:G.op=.slice t x (some S) (some z) (some v))(aR:P.underlying t=some (.slice e))(ok:cj P e T ar)(F:ad n f x=X.enc s)(aB:ad n f S=.int rp m)(bD:ad n f z=.int pO h)(aJ:ad n f v=.int kD y)
  (ab:Sub s ar m h y r):(execOp (ad n f) G).run P w=.ok (.value (X.enc r)) w:=by
 obtain⟨jz,u2,j6⟩:=ok.size;obtain⟨a,len,cap⟩:=s
 try simp only at ab
 obtain⟨ah,I,O,aH,rfl⟩:=ab;have aQ:(((h:Int).toNat:Nat):Int)=h:=Int.toNat_of_nonneg (by omega);have a6:(((y:Int).toNat:Nat):Int)=y:=Int.toNat_of_nonneg (by omega);have ao:∀ (k:IntKind) (i:Int) (S:Nat) (c:BoundsCode),0≤i→i≤S→(Instr.sliceBound (.int k i) S c).run P w=.ok i.toNat w:=fun k i S c u3 u4=>by
  simp[Instr.sliceBound,asIntOf,u3,u4]
 simp only[execOp,ai,F,Option.map_some,Option.map_none,aB,bD,aJ];simp only[Instr.sliceAt,Instr.slice,Sem.run_bind,run_underlying aR,Result.andThen_ok,Instr.sliceBounds,bind_pure_comp,Sem.run_map,Sem.run_pure,ao kD y cap _ (by omega) (by omega),ao pO h y.toNat _ (by omega) (by omega),ao rp m h.toNat _ (by omega) (by omega)];simp[run_sizeOf u2,j6]
theorem R5{t e:TypeId}{s r:af}{h y:Int}{pO kD:IntKind}{v:Operand}{ar:Nat}{Z:Type}{T:bn Z}(ai:G.op=.slice t x none (some z) (some v))(aR:P.underlying t=some (.slice e))(ok:cj P e T ar)(F:ad n f x=X.enc s)(bD:ad n f z=.int pO h)(aJ:ad n f v=.int kD y)
  (ab:Sub s ar 0 h y r):(execOp (ad n f) G).run P w=.ok (.value (X.enc r)) w:=by
 obtain⟨jz,u2,j6⟩:=ok.size;obtain⟨a,len,cap⟩:=s
 try simp only at ab
 obtain⟨ah,I,O,aH,rfl⟩:=ab;have aQ:(((h:Int).toNat:Nat):Int)=h:=Int.toNat_of_nonneg (by omega);have a6:(((y:Int).toNat:Nat):Int)=y:=Int.toNat_of_nonneg (by omega);have ao:∀ (k:IntKind) (i:Int) (S:Nat) (c:BoundsCode),0≤i→i≤S→(Instr.sliceBound (.int k i) S c).run P w=.ok i.toNat w:=fun k i S c u3 u4=>by
  simp[Instr.sliceBound,asIntOf,u3,u4]
 simp only[execOp,ai,F,Option.map_some,Option.map_none,bD,aJ];simp only[Instr.sliceAt,Instr.slice,Sem.run_bind,run_underlying aR,Result.andThen_ok,Instr.sliceBounds,bind_pure_comp,Sem.run_map,Sem.run_pure,ao kD y cap _ (by omega) (by omega),ao pO h y.toNat _ (by omega) (by omega)];simp[run_sizeOf u2,j6]
theorem F_{Z:Type}{t:TypeId}{T:bn Z}{ar az:Nat}{s:af}{new:List Z}{w:World}{aa:af→World→Prop}(h:l3 t T ar az s new w aa) :
  ∃ a J,a=⟨w.heap.size,0,none⟩∧J=w.alloc (.cells (new.flatMap T.cells).toArray t)∧tz t T ar az s ⟨some a,new.length,new.length⟩ J aa:=⟨_,_,rfl,rfl,akb h⟩
theorem R2{Z:Type}{T:bn Z}{ar az:Nat}{oe:Value}{t e:TypeId}{a:Addr}{J:World}(ai:G.op=.buildSlice t 0 #[])(aR:P.underlying t=some (.slice e))(ok:cj P e T ar)
  (aw:∃ i,P.info? e=some i∧i.zero=some oe∧i.size=ar∧i.bytes=az) (Y:a=⟨w.heap.size,0,none⟩) (hw:J=w.alloc (.cells (([]:List Z).flatMap T.cells).toArray e)) :
  (execOp (ad n f) G).run P w=.ok (.value (X.enc ⟨some a,0,0⟩)) J:=by
 subst Y; subst hw;obtain⟨i,aw,bD,aG,ao⟩:=aw;simp[execOp,ai,Instr.buildSlice,run_underlying aR,run_sizeOf aw,Instr.fill,newRow];rw[show Array.range 0=#[] from by simp[Array.range]];simp
end
section
variable {P:Program} {Q:Exit→Act→World→Prop} {n:Nat} {f:Nat→Value} {aC:List Deferred} {w J:World} {ops:Array Oper} {i:Nat} {rest:List Nat} {G:Oper} {x S z:Operand}
theorem jc{t:TypeId}{d:TypeDesc}{a8:Array Value}{off:Nat}{v:Value}(ag:P.underlying t=some d)(Y:wb d=false)(aJ:a8[off]?=some v):(part t a8 off).run P w=.ok v w:=by
 simp[part,Lx ag,Y,aJ]
theorem H6{t:TypeId}{d:TypeDesc}{a8 aC:Array Value}{off y:Nat}(ag:P.underlying t=some d)(Y:wb d=true)(aG:∃ i,P.info? t=some i∧i.size=y)(aJ:a8.extract off (off+y)=aC):(part t a8 off).run P w=.ok (.agg aC) w:=by
 obtain⟨i,aw,rfl⟩:=aG;simp[part,Lx ag,Y,run_sizeOf aw,aJ]
theorem Gw{d:Nat}{xs gF:Array Value}:(Op.eqFields d xs gF []).run P w=.ok true w:=by simp[Op.eqFields]
theorem o1{d:Nat}{xs gF:Array Value}{fd:Field}{ik:List Field}{a l:Value}{c r:Bool} (aK:fd.name≠"_") (Y:(part fd.type xs fd.offset).run P w=.ok a w) (ao:(part fd.type gF fd.offset).run P w=.ok l w)
  (he:(Op.equalIn d fd.type a l).run P w=.ok c w) (ab:(Op.eqFields d xs gF ik).run P w=.ok r w):(Op.eqFields d xs gF (fd::ik)).run P w=.ok (c&&r) w:=by
 simp only[Op.eqFields,aK,ne_eq,not_false_eq_true,if_true,Sem.run_bind,Y,ao,he,Result.andThen_ok];cases c<;>simp[ab]
theorem tI{d:Nat}{t:TypeId}{k:IntKind}{a l:Int}(h:P.underlying t=some (.int k)):(Op.equalIn (d+1) t (.int k a) (.int k l)).run P w=.ok (a==l) w:=run_equalIn_int w d t k k a l h
theorem JA{d:Nat}{t:TypeId}{a l:Bool}(h:P.underlying t=some .bool):(Op.equalIn (d+1) t (.bool a) (.bool l)).run P w=.ok (a==l) w:=run_equalIn_bool' w d t a l h
theorem Gx{d:Nat}{t:TypeId}{ik:Array Field}{xs gF:List Value}{r:Bool}(aR:P.underlying t=some (.struct ik))(aF:P.stoodInHeld t=false)(ab:(Op.eqFields d xs.toArray gF.toArray ik.toList).run P w=.ok r w) :
  (Op.equalIn (d+1) t (.agg xs.toArray) (.agg gF.toArray)).run P w=.ok r w:=by
 have am:P.fieldsOf t=ik:=by simp[Program.fieldsOf,aR]
 rw[run_equalIn_struct w d t _ _ (by rw[am]; exact aR) aF,am]; exact ab
theorem Cj{xs gF:List Value}{t u:TypeId}{r:Bool}(ai:G.op=.binOp .eql t x S u)(he:P.eqGuardType P.depth t=false∧∀ w,(Op.equalIn 10000 t (.agg xs.toArray) (.agg gF.toArray)).run P w=.ok r w)
  (F:ad n f x=.agg xs.toArray) (aB:ad n f S=.agg gF.toArray):(execOp (ad n f) G).run P w=.ok (.value (.bool r)) w:=by
 simp only[execOp,ai,F,aB,bind_pure_comp,Sem.run_map,Sem.run_bind,run_eqGuard_agg w _ _ _ _ _ _ he.1,Result.andThen_ok,run_eql_struct,he.2 w]
theorem Ck{xs gF:List Value}{t u:TypeId}{r:Bool}(ai:G.op=.binOp .neq t x S u)(he:P.eqGuardType P.depth t=false∧∀ w,(Op.equalIn 10000 t (.agg xs.toArray) (.agg gF.toArray)).run P w=.ok r w)
  (F:ad n f x=.agg xs.toArray) (aB:ad n f S=.agg gF.toArray):(execOp (ad n f) G).run P w=.ok (.value (.bool (!r))) w:=by
 simp only[execOp,ai,F,aB,bind_pure_comp,Sem.run_map,Sem.run_bind,run_eqGuard_agg w _ _ _ _ _ _ he.1,Result.andThen_ok,run_neq_struct,he.2 w]
theorem aE1{t e:TypeId}{len ar:Nat}{oe:Value}{y az:Nat}{eB:List (Nat×Operand)}{fi:List (Nat×Value)}{a8:List Value}(ai:G.op=.build t eB.toArray)(aR:P.underlying t=some (.array len e))
  (bD:∃ i,P.info? t=some i∧i.zero=some oe∧i.size=y∧i.bytes=az) (aG:∃ i,P.info? e=some i∧i.size=ar)
  (aF:eB.map (fun p=>(p.1,ad n f p.2))=fi) (am:Instr.fill (fun D=>some (D*ar,ar)) oe.cells fi=some a8.toArray):(execOp (ad n f) G).run P w=.ok (.value (.agg a8.toArray)) w:=by
 obtain⟨i,aw,bD,_⟩:=bD;obtain⟨D,bI,rfl⟩:=aG;subst aF;simp only[execOp,ai,Instr.build,zeroValue,typeInfo,bind_assoc,pure_bind,bind_pure_comp,Sem.run_map,Sem.run_bind,run_program,Result.andThen_ok,aw,bD,Sem.run_pure,run_underlying aR,run_sizeOf bI,List.map_toArray];rw[am];simp
theorem gD{t:TypeId}{ik:Array Field}{pl:List (Nat×Nat)}{oe:Value}{y az:Nat}{eB:List (Nat×Operand)}{fi:List (Nat×Value)}{a8:List Value}(ai:G.op=.build t eB.toArray)(aR:P.underlying t=some (.struct ik))
  (bD:∃ i,P.info? t=some i∧i.zero=some oe∧i.size=y∧i.bytes=az) (PN:∀ w,(ik.toList.mapM fun f=>(do pure (f.offset,← sizeOf f.type):Sem (Nat×Nat))).run P w=.ok pl w)
  (aF:eB.map (fun p=>(p.1,ad n f p.2))=fi) (am:Instr.fill (fun D=>pl[D]?) oe.cells fi=some a8.toArray):(execOp (ad n f) G).run P w=.ok (.value (.agg a8.toArray)) w:=by
 obtain⟨i,aw,bD,_⟩:=bD;subst aF;have aac:(ik.mapM fun f=>(do pure (f.offset,← sizeOf f.type):Sem (Nat×Nat))).run P w=.ok pl.toArray w:=by
  rw[Array.mapM_eq_mapM_toList];simp only[Sem.run_map,PN w,Result.andThen_ok]
 simp only[execOp,ai,Instr.build,zeroValue,typeInfo,bind_assoc,pure_bind,bind_pure_comp,Sem.run_map,Sem.run_bind,run_program,Result.andThen_ok,aw,bD,Sem.run_pure,run_underlying aR];simp only[bind_pure_comp] at aac;rw[aac];simp only[Result.andThen_ok,List.map_toArray,List.getElem?_toArray];rw[am];simp
theorem OM{s:List UInt8}{m h:Nat}(cn:h≤s.length):(⟨s.toArray⟩:ByteArray).extract m h=⟨((s.take h).drop m).toArray⟩:=by
 apply ByteArray.ext;simp[List.extract_eq_take_drop,List.drop_take]
theorem Lz{k:IntKind}{i:Int}{S:Nat}{c:BoundsCode}(ah:0≤i)(I:i≤S):(Instr.sliceBound (.int k i) S c).run P w=.ok i.toNat w:=by
 simp[Instr.sliceBound,asIntOf,ah,I]
theorem ad0{t:TypeId}{s r:List UInt8}{m h:Int}{rp pO:IntKind}(ai:G.op=.slice t x (some S) (some z) none)(aR:P.underlying t=some .string)(F:ad n f x=.string ⟨s.toArray⟩)(aB:ad n f S=.int rp m)(bD:ad n f z=.int pO h)
  (ab:NT s m h r):(execOp (ad n f) G).run P w=.ok (.value (.string ⟨r.toArray⟩)) w:=by
 obtain⟨ah,I,O,rfl⟩:=ab;have aG:(⟨s.toArray⟩:ByteArray).size=s.length:=rfl;have aQ:((h.toNat:Nat):Int)=h:=Int.toNat_of_nonneg (by omega);simp only[execOp,ai,F,aB,bD,Option.map_some,Option.map_none]
 simp only[Instr.sliceAt,Instr.slice,Sem.run_bind,run_underlying aR,Result.andThen_ok,Instr.sliceBounds,bind_pure_comp,Sem.run_map,Sem.run_pure,aG,
  Lz (P:=P) (w:=w) (k:=pO) (i:=h) (S:=s.length) (by omega) (by omega),Lz (P:=P) (w:=w) (k:=rp) (i:=m) (S:=h.toNat) (by omega) (by omega),Option.isSome_none,Bool.false_eq_true,if_false]
 rw[OM (by omega)]
theorem adZ{t:TypeId}{s r:List UInt8}{m:Int}{rp:IntKind}(ai:G.op=.slice t x (some S) none none)(aR:P.underlying t=some .string)(F:ad n f x=.string ⟨s.toArray⟩)(aB:ad n f S=.int rp m)
  (ab:NT s m s.length r):(execOp (ad n f) G).run P w=.ok (.value (.string ⟨r.toArray⟩)) w:=by
 obtain⟨ah,I,O,rfl⟩:=ab;have aG:(⟨s.toArray⟩:ByteArray).size=s.length:=rfl;simp only[execOp,ai,F,aB,Option.map_some,Option.map_none]
 simp only[Instr.sliceAt,Instr.slice,Sem.run_bind,run_underlying aR,Result.andThen_ok,Instr.sliceBounds,bind_pure_comp,Sem.run_map,Sem.run_pure,aG,
  Lz (P:=P) (w:=w) (k:=rp) (i:=m) (S:=s.length) (by omega) (by omega),Option.isSome_none,Bool.false_eq_true,if_false]
 rw[OM (by omega)];simp
theorem adY{t:TypeId}{s r:List UInt8}{h:Int}{pO:IntKind}(ai:G.op=.slice t x none (some z) none)(aR:P.underlying t=some .string)(F:ad n f x=.string ⟨s.toArray⟩)(bD:ad n f z=.int pO h)
  (ab:NT s 0 h r):(execOp (ad n f) G).run P w=.ok (.value (.string ⟨r.toArray⟩)) w:=by
 obtain⟨ah,I,O,rfl⟩:=ab;have aG:(⟨s.toArray⟩:ByteArray).size=s.length:=rfl;simp only[execOp,ai,F,bD,Option.map_some,Option.map_none]
 simp only[Instr.sliceAt,Instr.slice,Sem.run_bind,run_underlying aR,Result.andThen_ok,Instr.sliceBounds,bind_pure_comp,Sem.run_map,Sem.run_pure,aG,
  Lz (P:=P) (w:=w) (k:=pO) (i:=h) (S:=s.length) (by omega) (by omega),Option.isSome_none,Bool.false_eq_true,if_false]
 rw[OM (by omega)];simp
def qM(arr:Array MapEntry)(c:Nat):Prop:=(∀ x∈arr.toList,x.born<c)∧(arr.toList.map (·.born)).Nodup
theorem akC{arr:Array MapEntry}{c:Nat}{k v:Value}(h:qM arr c):qM (arr.push { key:=k,val:=v,born:=c }) (c+1):=by
 refine⟨fun x F=>?_,?_⟩
 ·simp only[Array.toList_push,List.mem_append,List.mem_singleton] at F;rcases F with F | rfl
  ·have:=h.1 x F; omega
  ·exact Nat.lt_succ_self _
 ·simp only[Array.toList_push,List.map_append,List.map_cons,List.map_nil,List.nodup_append];refine⟨h.2,by simp,fun a Y l ao=>?_⟩;obtain⟨x,F,rfl⟩:=List.mem_map.1 Y;have:=h.1 x F;rw[List.mem_singleton.1 ao]; omega
theorem akD{arr uJ:Array MapEntry}{c:Nat}(h:qM arr c)(e:uJ.toList.map (·.born)=arr.toList.map (·.born)):qM uJ c:=by
 refine⟨fun x F=>?_,by rw[e]; exact h.2⟩;have:x.born∈uJ.toList.map (·.born):=List.mem_map.2 ⟨x,F,rfl⟩;rw[e] at this;obtain⟨S,aB,he⟩:=List.mem_map.1 this;rw[← he]; exact h.1 S aB
theorem akE{arr uJ:Array MapEntry}{c:Nat}(h:qM arr c)(e:uJ.toList.Sublist arr.toList):qM uJ c:=
 ⟨fun x F=>h.1 x (e.subset F),h.2.sublist (e.map _)⟩
def NL{Z:Type}(T:bn Z)(k:IntKind)(w:World)(r:Nat)(es:List (Int×Z)):Prop:=
 ∃ arr c,w.heap[r]?=some (.map arr c)∧arr.toList.map (fun e=>(e.key,e.val))=(es.map fun p=>(.int k p.1,T.enc p.2))∧qM arr c
def ih{Z:Type}(T:bn Z)(k:IntKind)(y:Option Nat)(key:Int)(w:World)(u:Option Z):Prop:=match y with
 |none=>u=none
 |some r=>∃ es,NL T k w r es∧u=es.lookup key
def rH(y:Option Nat)(w:World)(m:Nat):Prop:=match y with
 |none=>m=0
 |some r=>∃ arr c,w.heap[r]?=some (.map arr c)∧m=arr.size
def eH{Z:Type}(key:Int)(v:Z):List (Int×Z)→List (Int×Z)
 |[]=>[(key,v)]
 |(a,l)::t=>if key==a then (key,v)::t else (a,l)::eH key v t
def del{Z:Type}(key:Int):List (Int×Z)→List (Int×Z)
 |[]=>[]
 |(a,l)::t=>if key==a then t else (a,l)::del key t
def vA(w:World)(r:Nat)(arr:Array MapEntry)(c:Nat):World:={ w with heap:=w.heap.setIfInBounds r (.map arr c) }
def sw{Z:Type}(T:bn Z)(k:IntKind)(arr:Array MapEntry)(es:List (Int×Z)):Prop:=arr.toList.map (fun e=>(e.key,e.val))=es.map fun p=>(.int k p.1,T.enc p.2)
def ua(w:World)(k:Nat→World→Prop):Prop:=k w.heap.size (w.alloc (.map #[] 0))
def qh{Z:Type}(T:bn Z)(k:IntKind)(y:Option Nat)(key:Int)(v:Z)(w:World)(aa:World→Prop):Prop:=
 ∃ r es,y=some r∧NL T k w r es∧∀ arr c,sw T k arr (eH key v es)→qM arr c→aa (vA w r arr c)
def Hx{Z:Type}(T:bn Z)(k:IntKind)(y:Option Nat)(key:Int)(w:World)(aa:World→Prop):Prop:=match y with
 |none=>aa w
 |some r=>∃ es,NL T k w r es∧∀ arr c,sw T k arr (del key es)→qM arr c→aa (vA w r arr c)
def aCu(y:Option Nat)(w:World)(aa:World→Prop):Prop:=match y with
 |none=>aa w
 |some r=>∃ arr c,w.heap[r]?=some (.map arr c)∧aa (vA w r #[] c)
theorem Y5{Z:Type}{T:bn Z}{k:IntKind}(key:Int):∀ (arr:List MapEntry) (es:List (Int×Z)) (i:Nat),arr.map (fun e=>(e.key,e.val))=es.map (fun p=>(.int k p.1,T.enc p.2)) →
  (es.lookup key=none∧Instr.findNow (.int k) (.int k key) arr i=some none) ∨
  (∃ D v,es.lookup key=some v∧Instr.findNow (.int k) (.int k key) arr i=some (some (i+D,T.enc v))∧es[D]?=some (key,v)∧(∀ m,m<D→(es[m]?.map (·.1))≠some key))
 |[],[],i,_=>.inl ⟨rfl,rfl⟩
 |[],_::_,i,h=>by simp at h
 |_::_,[],i,h=>by simp at h
 |e::arr,(a,l)::es,i,h=>by
  simp only[List.map_cons,List.cons.injEq,Prod.mk.injEq] at h;obtain⟨⟨aq,aJ⟩,aR⟩:=h;by_cases hD:key=a
  ·subst hD;right;refine⟨0,l,by simp,?_,rfl,fun m al=>absurd al (Nat.not_lt_zero _)⟩;simp[Instr.findNow,aq,aJ,Instr.sameNow]
  ·have dO:(key==a)=false:=by simpa using hD
   rcases Y5 key arr es (i+1) aR with ⟨I,O⟩ | ⟨D,v,I,O,aH,bg⟩
   ·left;exact⟨by simp[List.lookup,dO,I],by simp only[Instr.findNow,aq,Instr.sameNow,if_true,dO,O]⟩
   ·right;refine⟨D+1,v,by simp[List.lookup,dO,I],by simp only[Instr.findNow,aq,Instr.sameNow,if_true,dO,O]; rw[show i+1+D=i+(D+1) from by omega],by simpa using aH,?_⟩;intro m al;cases m with
    |zero=>simpa using fun h=>hD h.symm
    |succ m=>simpa using bg m (by omega)
theorem run_checkKey{t:TypeId}{k:IntKind}(aR:P.underlying t=some (.int k))(e:Bool)(y:Nat)(a:Int):(Instr.checkKey e (y+1) t (.int k a)).run P w=.ok () w:=by
 simp[Instr.checkKey,run_underlying aR]
theorem w2{r:Nat}{arr:Array MapEntry}{c:Nat}(h:w.heap[r]?=some (.map arr c)):(getObj r).run P w=.ok (.map arr c) w:=by
 simp[getObj,Sem.run,h]
theorem H7{r:Nat}{arr uJ:Array MapEntry}{c Jf:Nat}(h:w.heap[r]?=some (.map arr c)):(setObj r (.map uJ Jf)).run P w=.ok () (vA w r uJ Jf):=by
 simp[setObj,Sem.run,h,vA]
theorem JE{Z:Type}{T:bn Z}{k:IntKind}{lk:TypeId}{arr:Array MapEntry}{es:List (Int×Z)}(aq:P.underlying lk=some (.int k))(key:Int)(h:sw T k arr es) :
  (es.lookup key=none∧(Instr.findKey lk (.int k key) arr.toList).run P w=.ok none w) ∨
  (∃ D v,es.lookup key=some v∧(Instr.findKey lk (.int k key) arr.toList).run P w=.ok (some (D,T.enc v)) w∧es[D]?=some (key,v)∧(∀ m,m<D→(es[m]?.map (·.1))≠some key)):=by
 rcases Y5 key arr.toList es 0 h with ⟨I,O⟩ | ⟨D,v,I,O,aH,bg⟩
 ·exact .inl ⟨I,by simp only[Instr.findKey,Sem.run_bind,run_underlying aq,Result.andThen_ok,O,Sem.run_pure]⟩
 ·exact .inr ⟨D,v,I,by simp only[Instr.findKey,Sem.run_bind,run_underlying aq,Result.andThen_ok,O,Sem.run_pure,Nat.zero_add],aH,bg⟩
theorem adK{Z:Type}{T:bn Z}{y az:Nat}{t lk pC:TypeId}{k:IntKind}{r:Option Nat}{key:Int}{u:Option Z}{z:Z}(ai:G.op=.lookup t x S true)(aR:P.underlying t=some (.map lk pC))(aq:P.underlying lk=some (.int k))
  (bD:∃ i,P.info? pC=some i∧i.zero=some (T.enc z)∧i.size=y∧i.bytes=az) (F:ad n f x=.map r) (aB:ad n f S=.int k key) (ab:ih T k r key w u) :
  (execOp (ad n f) G).run P w=.ok (.value (.tuple #[T.enc (u.getD z),.bool u.isSome])) w:=by
 obtain⟨i,aw,tR,_⟩:=bD;cases r with
 |none=>
  simp only[ih] at ab;subst ab;simp[execOp,ai,F,aB,Instr.lookup,run_underlying aR,run_checkKey aq,Instr.findKey,run_underlying aq,Instr.findNow,zeroValue,typeInfo,aw,tR]
 |some r=>
  obtain⟨es,⟨arr,c,ao,nW,BA⟩,rfl⟩:=ab;rcases JE (P:=P) (w:=w) aq key nW with ⟨I,O⟩ | ⟨D,v,I,O,_⟩
  ·simp[execOp,ai,F,aB,Instr.lookup,run_underlying aR,w2 ao,run_checkKey aq,I,O,zeroValue,typeInfo,aw,tR]
  ·simp[execOp,ai,F,aB,Instr.lookup,run_underlying aR,w2 ao,run_checkKey aq,I,O]
theorem adJ{Z:Type}{T:bn Z}{y az:Nat}{t lk pC:TypeId}{k:IntKind}{r:Option Nat}{key:Int}{u:Option Z}{z:Z}(ai:G.op=.lookup t x S false)(aR:P.underlying t=some (.map lk pC))(aq:P.underlying lk=some (.int k))
  (bD:∃ i,P.info? pC=some i∧i.zero=some (T.enc z)∧i.size=y∧i.bytes=az) (F:ad n f x=.map r) (aB:ad n f S=.int k key) (ab:ih T k r key w u) :
  (execOp (ad n f) G).run P w=.ok (.value (T.enc (u.getD z))) w:=by
 obtain⟨i,aw,tR,_⟩:=bD;cases r with
 |none=>
  simp only[ih] at ab;subst ab;simp[execOp,ai,F,aB,Instr.lookup,run_underlying aR,run_checkKey aq,Instr.findKey,run_underlying aq,Instr.findNow,zeroValue,typeInfo,aw,tR]
 |some r=>
  obtain⟨es,⟨arr,c,ao,nW,BA⟩,rfl⟩:=ab;rcases JE (P:=P) (w:=w) aq key nW with ⟨I,O⟩ | ⟨D,v,I,O,_⟩
  ·simp[execOp,ai,F,aB,Instr.lookup,run_underlying aR,w2 ao,run_checkKey aq,I,O,zeroValue,typeInfo,aw,tR]
  ·simp[execOp,ai,F,aB,Instr.lookup,run_underlying aR,w2 ao,run_checkKey aq,I,O]
theorem adH{t lk pC:TypeId}{r:Option Nat}{m:Nat}(ai:G.op=.call { callee:=.builtin .len,args:=#[x],argTypes:=#[t] })(aR:P.underlying t=some (.map lk pC))(F:ad n f x=.map r)(ab:rH r w m) :
  (execOp (ad n f) G).run P w=.ok (.value (.int .i64 m)) w:=by
 cases r with
 |none=>simp only[rH] at ab; subst ab; simp[execOp,ai,F,resolve,invoke,builtin,Builtin.len_,run_underlying aR,goInt]
 |some r=>
  obtain⟨arr,c,ao,rfl⟩:=ab;simp[execOp,ai,F,resolve,invoke,builtin,Builtin.len_,run_underlying aR,goInt,w2 ao]
theorem KU{w:World}{k:Nat→World→Prop}(h:ua w k):∃ r J,r=w.heap.size∧J=w.alloc (.map #[] 0)∧k r J:=⟨_,_,rfl,rfl,h⟩
theorem Le{t:TypeId}{r:Nat}(ai:G.op=.makeMap t none)(ab:r=w.heap.size)(hw:J=w.alloc (.map #[] 0)):(execOp (ad n f) G).run P w=.ok (.value (.map (some r))) J:=by
 subst ab; subst hw; simp[execOp,ai,Instr.makeMap]
theorem afm{Z:Type}(key:Int)(v:Z):∀ (es:List (Int×Z)) (D:Nat) (u:Z),es[D]?=some (key,u)→(∀ m,m<D→(es[m]?.map (·.1))≠some key)→eH key v es=es.set D (key,v)
 |[],D,u,h,_=>by simp at h
 |(a,l)::es,0,u,h,_=>by simp at h; simp[eH,h.1]
 |(a,l)::es,D+1,u,h,al=>by
  have ah:=al 0 (by omega);have dO:(key==a)=false:=by simp at ah; simpa using fun e=>ah e.symm
  simp only[eH,dO,Bool.false_eq_true,if_false,List.set_cons_succ];rw[afm key v es D u (by simpa using h) fun m GU=>by simpa using al (m+1) (by omega)]
theorem SP{Z:Type}(key:Int)(v:Z):∀ (es:List (Int×Z)),es.lookup key=none→eH key v es=es++[(key,v)]
 |[],_=>rfl
 |(a,l)::es,h=>by
  by_cases e:(key==a)=true
  ·simp[List.lookup,e] at h
  ·simp only[List.lookup,e] at h;simp[eH,e,SP key v es h]
theorem Yh{Z:Type}(key:Int):∀ (es:List (Int×Z)) (D:Nat) (u:Z),es[D]?=some (key,u)→(∀ m,m<D→(es[m]?.map (·.1))≠some key)→del key es=es.eraseIdx D
 |[],D,u,h,_=>by simp at h
 |(a,l)::es,0,u,h,_=>by simp at h; simp[del,h.1]
 |(a,l)::es,D+1,u,h,al=>by
  have ah:=al 0 (by omega);have dO:(key==a)=false:=by simp at ah; simpa using fun e=>ah e.symm
  simp only[del,dO,Bool.false_eq_true,if_false,List.eraseIdx_cons_succ];rw[Yh key es D u (by simpa using h) fun m GU=>by simpa using al (m+1) (by omega)]
theorem Yi{Z:Type}(key:Int):∀ (es:List (Int×Z)),es.lookup key=none→del key es=es
 |[],_=>rfl
 |(a,l)::es,h=>by
  by_cases e:(key==a)=true
  ·simp[List.lookup,e] at h
  ·simp only[List.lookup,e] at h;simp[del,e,Yi key es h]
theorem E3{Z:Type}{T:bn Z}{t lk pC:TypeId}{k:IntKind}{r:Option Nat}{key:Int}{v:Z}{next:Act→World→Prop}{aa:World→Prop}{d:Option Nat}(ag:G.dst=d)(ai:G.op=.mapUpdate t x S z∨G.op=.insert t x S z)(aR:P.underlying t=some (.map lk pC))
  (aq:P.underlying lk=some (.int k)) (F:ad n f x=.map r) (aB:ad n f S=.int k key) (bD:ad n f z=T.enc v) (h:qh T k r key v w aa) (b2:∀ J,aa J→next (act n (gM f d undef) aC) J) :
  mO P G (act n f aC) w next Q:=by
 rw[nO];subst ag;obtain⟨l,es,rfl,⟨arr,c,ao,nW,BA⟩,h⟩:=h;have gH:∀ J,(Instr.mapUpdate t (.map (some l)) (.int k key) (T.enc v)).run P w=.ok () J→(execOp (ad n f) G).run P w=.ok .skip J:=by
  intro J hw;rcases ai with ai | ai<;>simp only[execOp,ai,F,aB,bD,Sem.run_bind,hw,Result.andThen_ok,Sem.run_pure]
 rcases JE (P:=P) (w:=w) aq key nW with ⟨I,O⟩ | ⟨D,u,I,O,aH,bg⟩
 ·have i_:(Instr.mapUpdate t (.map (some l)) (.int k key) (T.enc v)).run P w=.ok () (vA w l (arr.push { key:=.int k key,val:=T.enc v,born:=c }) (c+1)):=by
   simp only[Instr.mapUpdate,Sem.run_bind,run_underlying aR,Result.andThen_ok,w2 ao,run_checkKey aq,O,H7 ao]
  simp only[Oper.wp,hN,gH _ i_,Oper.upon_skip,ia];refine b2 _ (h _ _ ?_ (akC BA));simp only[sw] at nW ⊢;rw[SP key v es I];simp[nW]
 ·have aqg:∃ e,arr[D]?=some e∧e.key=.int k key:=by
   have:=congrArg (·[D]?) nW;simp only[List.getElem?_map,aH,Option.map_some] at this;cases Y:arr[D]? with
   |none=>simp[Y] at this
   |some e=>simp[Y] at this; exact⟨e,rfl,this.1⟩
  obtain⟨e,he,JV⟩:=aqg;have aq6:(Instr.keyThatStays (((arr[D]?).map (·.key)).getD (.int k key)) (.int k key)).run P w=.ok (.int k key) w:=by
   simp[he,JV,Instr.keyThatStays,Instr.sameBits]
  have i_:(Instr.mapUpdate t (.map (some l)) (.int k key) (T.enc v)).run P w=.ok () (vA w l (arr.modify D fun e=>{ e with key:=.int k key,val:=T.enc v }) c):=by
   simp only[Instr.mapUpdate,Sem.run_bind,run_underlying aR,Result.andThen_ok,w2 ao,run_checkKey aq,O,aq6,H7 ao]
  simp only[Oper.wp,hN,gH _ i_,Oper.upon_skip,ia];have ao3:(arr.modify D fun e=>{ e with key:=.int k key,val:=T.enc v }).toList.map (·.born)=arr.toList.map (·.born):=by
   apply List.ext_getElem?;intro m;simp only[List.getElem?_map,Array.getElem?_toList,Array.getElem?_modify];by_cases aQ:D=m
   ·subst aQ; cases arr[D]?<;>simp
   ·simp[aQ]
  refine b2 _ (h _ _ ?_ (akD BA ao3));simp only[sw] at nW ⊢;rw[afm key v es D u aH bg];apply List.ext_getElem?;intro m;have al:=congrArg (·[m]?) nW;simp only[List.getElem?_map,Array.getElem?_toList] at al;simp only[List.getElem?_map,Array.getElem?_toList,Array.getElem?_modify,List.getElem?_set];by_cases aQ:D=m
  ·subst aQ;have dv:D<es.length:=(List.getElem?_eq_some_iff.1 aH).1;simp[he,dv]
  ·simp[aQ,al]
theorem map_eraseIdx{Z ep:Type}(g:Z→ep):∀ (m:List Z) (i:Nat),(m.eraseIdx i).map g=(m.map g).eraseIdx i
 |[],_=>rfl
 |_::_,0=>rfl
 |a::m,i+1=>by simp[map_eraseIdx g m i]
theorem Tf{Z:Type}{T:bn Z}{t lk pC hl:TypeId}{k:IntKind}{r:Option Nat}{key:Int}{next:Act→World→Prop}{aa:World→Prop}{d:Option Nat}(ag:G.dst=d)(ai:G.op=.call { callee:=.builtin .delete,args:=#[x,S],argTypes:=#[t,hl] })(aR:P.underlying t=some (.map lk pC))
  (aq:P.underlying lk=some (.int k)) (F:ad n f x=.map r) (aB:ad n f S=.int k key) (h:Hx T k r key w aa) (b2:∀ J,aa J→next (act n (gM f d (.tuple #[])) aC) J) :
  mO P G (act n f aC) w next Q:=by
 rw[nO];subst ag;have gH:∀ J,(Builtin.delete_ #[t,hl] G.type #[.map r,.int k key]).run P w=.ok (.tuple #[]) J→(execOp (ad n f) G).run P w=.ok (.value (.tuple #[])) J:=by
  intro J hw;simp only[execOp,ai,resolve,invoke,builtin,List.map_toArray,List.map_cons,List.map_nil,F,aB,pure_bind,Sem.run_bind,hw,Result.andThen_ok,Sem.run_pure]
 cases r with
 |none=>
  have i_:(Builtin.delete_ #[t,hl] G.type #[.map none,.int k key]).run P w=.ok (.tuple #[]) w:=by
   simp[Builtin.delete_,run_underlying aR,run_checkKey aq]
  simp only[Oper.wp,hN,gH _ i_,Oper.upon_value,ia];exact b2 _ h
 |some l=>
  obtain⟨es,⟨arr,c,ao,nW,BA⟩,h⟩:=h;rcases JE (P:=P) (w:=w) aq key nW with ⟨I,O⟩ | ⟨D,u,I,O,aH,bg⟩
  ·have i_:(Builtin.delete_ #[t,hl] G.type #[.map (some l),.int k key]).run P w=.ok (.tuple #[]) (vA w l arr c):=by
    simp[Builtin.delete_,run_underlying aR,w2 ao,run_checkKey aq,O,H7 ao]
   simp only[Oper.wp,hN,gH _ i_,Oper.upon_value,ia];refine b2 _ (h _ _ ?_ BA);rw[Yi key es I]; exact nW
  ·have i_:(Builtin.delete_ #[t,hl] G.type #[.map (some l),.int k key]).run P w=.ok (.tuple #[]) (vA w l (arr.eraseIdxIfInBounds D) c):=by
    simp[Builtin.delete_,run_underlying aR,w2 ao,run_checkKey aq,O,H7 ao]
   simp only[Oper.wp,hN,gH _ i_,Oper.upon_value,ia];have BN:(arr.eraseIdxIfInBounds D).toList.Sublist arr.toList:=by
    unfold Array.eraseIdxIfInBounds;split
    ·rw[Array.toList_eraseIdx]; exact List.eraseIdx_sublist _ _
    ·exact List.Sublist.refl _
   refine b2 _ (h _ _ ?_ (akE BA BN));rw[Yh key es D u aH bg];simp only[sw] at nW ⊢;have bI:D<arr.size:=by
    have dv:D<es.length:=(List.getElem?_eq_some_iff.1 aH).1;have:=congrArg List.length nW;simp at this; omega
   simp only[Array.eraseIdxIfInBounds,bI,dif_pos,Array.toList_eraseIdx];rw[map_eraseIdx,nW,map_eraseIdx]
def wh{Z:Type}(T:bn Z)(ar:Nat)(z:Z)(s:af)(w:World)(aa:World→Prop):Prop:=match s.a with
 |none=>aa w
 |some a=>v7 w a (s.len*ar)∧aa (oC w a 0 ((List.replicate s.len z).flatMap T.cells))
theorem aeg{Z:Type}{T:bn Z}{ar:Nat}{z:Z}(al:(T.cells z).length=ar)(y:Nat):((List.replicate y z).flatMap T.cells).length=y*ar:=by
 induction y with
 |zero=>simp
 |succ y b_=>rw[List.replicate_succ,List.flatMap_cons,List.length_append,b_,al,Nat.add_mul]; omega
theorem afW{Z:Type}{T:bn Z}{ar:Nat}{z:Z}(am:(T.enc z).cells=(T.cells z).toArray)(al:(T.cells z).length=ar):∀ y:Nat,(Builtin.zeroCells (T.enc z).cells y).toList=(List.replicate y z).flatMap T.cells:=by
 intro y;rw[am];apply List.ext_getElem?;intro D;simp only[Builtin.zeroCells,List.size_toArray,al,Array.toList_map,Array.toList_range,List.getElem?_map];by_cases bI:D<y*ar
 ·have nu:0<ar:=by
   rcases Nat.eq_zero_or_pos ar with h | h
   ·rw[h] at bI; omega
   ·exact h
  have Z6:D%ar<ar:=Nat.mod_lt _ nu;rw[List.getElem?_range (by simpa using bI)];simp only[Option.map_some];have:∀ (y D:Nat),D<y*ar→((List.replicate y z).flatMap T.cells)[D]?=(T.cells z)[D%ar]?:=by
   intro y;induction y with
   |zero=>intro D bI; simp at bI
   |succ y b_=>
    intro D bI;rw[List.replicate_succ,List.flatMap_cons];by_cases dv:D<ar
    ·rw[List.getElem?_append_left (by omega),Nat.mod_eq_of_lt dv]
    ·rw[List.getElem?_append_right (by omega),al,b_ (D-ar) (by rw[Nat.add_mul] at bI; omega)];congr 1;exact (Nat.mod_eq_sub_mod (by omega)).symm
  rw[this y D bI];rw[List.getElem?_eq_getElem (by omega)];simp only[Option.some.injEq];have dv:D%ar<(T.cells z).toArray.size:=by simp; omega
  rw[getElem!_pos (T.cells z).toArray (D%ar) dv]; simp
 ·rw[List.getElem?_eq_none (by simpa using bI),List.getElem?_eq_none (by rw[aeg al]; omega)];rfl
theorem Ta{Z:Type}{T:bn Z}{ar az:Nat}{t e:TypeId}{s:af}{z:Z}{next:Act→World→Prop}{aa:World→Prop}{d:Option Nat}(ag:G.dst=d)(ai:G.op=.call { callee:=.builtin .clear,args:=#[x],argTypes:=#[t] })(aR:P.underlying t=some (.slice e))(ok:cj P e T ar)
  (bD:∃ i,P.info? e=some i∧i.zero=some (T.enc z)∧i.size=ar∧i.bytes=az) (F:ad n f x=X.enc s) (h:wh T ar z s w aa) (b2:∀ J,aa J→next (act n (gM f d (.tuple #[])) aC) J):mO P G (act n f aC) w next Q:=by
 rw[nO];subst ag;obtain⟨i,aw,tR,aG,_⟩:=bD;obtain⟨a,len,cap⟩:=s;have gH:∀ J,(Builtin.clear_ #[t] G.type #[.slice a len cap]).run P w=.ok (.tuple #[]) J→(execOp (ad n f) G).run P w=.ok (.value (.tuple #[])) J:=by
  intro J hw;simp only[execOp,ai,resolve,invoke,builtin,List.map_toArray,List.map_cons,List.map_nil,F,pure_bind,Sem.run_bind,hw,Result.andThen_ok,Sem.run_pure]
 have PI:∀ v∈(List.replicate len z).flatMap T.cells,v.oneCell'=true:=fun v aJ=>by
  obtain⟨S,_,aB⟩:=List.mem_flatMap.1 aJ; exact ok.one S v aB
 cases a with
 |none=>
  have i_:(Builtin.clear_ #[t] G.type #[.slice none len cap]).run P w=.ok (.tuple #[]) w:=by
   simp[Builtin.clear_,run_underlying aR]
  simp only[Oper.wp,hN,gH _ i_,Oper.upon_value,ia];exact b2 _ h
 |some a=>
  simp only[wh] at h;have i_:(Builtin.clear_ #[t] G.type #[.slice (some a) len cap]).run P w=.ok (.tuple #[]) (oC w a 0 ((List.replicate len z).flatMap T.cells)):=by
   cases len with
   |zero=>simp[Builtin.clear_,run_underlying aR,oC]
   |succ len=>
    have O:=EO (P:=P) a ((List.replicate (len+1) z).flatMap T.cells) 0 w (by
     intro D bI;rw[Nat.zero_add];refine h.1 D ?_;rw[aeg (ok.len z)] at bI
     exact bI) PI
    have BS:=afW (T:=T) (ok.flat z) (ok.len z) (len+1);simp only[Builtin.clear_];simp[run_underlying aR,zeroValue,typeInfo,aw,tR,BS,O]
  simp only[Oper.wp,hN,gH _ i_,Oper.upon_value,ia];exact b2 _ h.2
theorem Je{w:World}{G u:Obj}{r:Nat}(h:w.heap[r]?=some u):(w.alloc G).heap[r]?=some u:=by
 have dv:r<w.heap.size:=(Array.getElem?_eq_some_iff.1 h).1;simp only[World.alloc,Array.getElem?_push];rw[if_neg (by omega)]; exact h
theorem aBw{Z:Type}{T:bn Z}{k:IntKind}{y:Option Nat}{key:Int}{u:Option Z}{w J:World}{G:Obj}(hw:J=w.alloc G)(h:ih T k y key w u):ih T k y key J u:=by
 subst hw;cases y with
 |none=>exact h
 |some r=>obtain⟨es,⟨arr,c,ao,ab⟩,hu⟩:=h; exact⟨es,⟨arr,c,Je ao,ab⟩,hu⟩
theorem aBx{y:Option Nat}{m:Nat}{w J:World}{G:Obj}(hw:J=w.alloc G)(h:rH y w m):rH y J m:=by
 subst hw;cases y with
 |none=>exact h
 |some r=>obtain⟨arr,c,ao,al⟩:=h; exact⟨arr,c,Je ao,al⟩
end
end bb
namespace bb
open Go.ChangeMaps
section
variable {P:Program} {Q:Exit→Act→World→Prop} {n:Nat} {f:Nat→Value} {aC:List Deferred} {w J:World} {ops:Array Oper} {i:Nat} {rest:List Nat} {G:Oper} {x S z:Operand}
def H2(y:Option Nat)(w:World)(k:Addr→World→Prop):Prop:=match y with
 |none=>k ⟨w.heap.size,0,none⟩ (w.alloc (.mapIter none 0 #[] 0))
 |some l=>∃ arr c,w.heap[l]?=some (.map arr c)∧k ⟨w.heap.size,0,none⟩ (w.alloc (.mapIter (some l) c #[] c))
theorem Tj{t lk pC:TypeId}{r:Option Nat}{next:Act→World→Prop}{aa:Addr→World→Prop}{d:Option Nat}(ag:G.dst=d)(ai:G.op=.range t x)(aR:P.underlying t=some (.map lk pC))(F:ad n f x=.map r)
  (h:H2 r w aa) (b2:∀ a J,aa a J→next (act n (gM f d (.pointer (some a))) aC) J):mO P G (act n f aC) w next Q:=by
 rw[nO];subst ag;cases r with
 |none=>
  have i_:=run_range_nilMap (P:=P) w t lk pC aR;have gH:(execOp (ad n f) G).run P w=.ok (.value (.pointer (some ⟨w.heap.size,0,none⟩))) (w.alloc (.mapIter none 0 #[] 0)):=by simp[execOp,ai,F,i_]
  simp only[Oper.wp,hN,gH,Oper.upon_value,ia];exact b2 _ _ h
 |some l=>
  obtain⟨arr,c,ao,h⟩:=h;have i_:=run_range_map (P:=P) w t lk pC l arr c aR ao;have gH:(execOp (ad n f) G).run P w=.ok (.value (.pointer (some ⟨w.heap.size,0,none⟩))) (w.alloc (.mapIter (some l) c #[] c)):=by simp[execOp,ai,F,i_]
  simp only[Oper.wp,hN,gH,Oper.upon_value,ia];exact b2 _ _ h
theorem Te{t lk pC:TypeId}{r:Option Nat}{next:Act→World→Prop}{aa:World→Prop}{d:Option Nat}(ag:G.dst=d)(ai:G.op=.call { callee:=.builtin .clear,args:=#[x],argTypes:=#[t] })(aR:P.underlying t=some (.map lk pC))(F:ad n f x=.map r)
  (h:aCu r w aa) (b2:∀ J,aa J→next (act n (gM f d (.tuple #[])) aC) J):mO P G (act n f aC) w next Q:=by
 rw[nO];subst ag;have gH:∀ J,(Builtin.clear_ #[t] G.type #[.map r]).run P w=.ok (.tuple #[]) J→(execOp (ad n f) G).run P w=.ok (.value (.tuple #[])) J:=by
  intro J hw;simp only[execOp,ai,resolve,invoke,builtin,List.map_toArray,List.map_cons,List.map_nil,F,pure_bind,Sem.run_bind,hw,Result.andThen_ok,Sem.run_pure]
 cases r with
 |none=>
  have i_:(Builtin.clear_ #[t] G.type #[.map none]).run P w=.ok (.tuple #[]) w:=by simp[Builtin.clear_,run_underlying aR]
  simp only[Oper.wp,hN,gH _ i_,Oper.upon_value,ia];exact b2 _ h
 |some l=>
  obtain⟨arr,c,ao,h⟩:=h;have i_:(Builtin.clear_ #[t] G.type #[.map (some l)]).run P w=.ok (.tuple #[]) (vA w l #[] c):=by
   simp[Builtin.clear_,run_underlying aR,w2 ao,H7 ao]
  simp only[Oper.wp,hN,gH _ i_,Oper.upon_value,ia];exact b2 _ h
def Rb:Option (Value×Value)→Value
 |none=>.tuple #[.bool false]
 |some p=>.tuple #[.bool true,p.1,p.2]
def k0(a:Addr)(w:World)(k:Option (Value×Value)→World→Prop):Prop:=
 ∃ r eM hY seen bY es clock,a=⟨r,0,none⟩∧w.heap[r]?=some (.mapIter (some eM) hY seen bY)∧w.heap[eM]?=some (.map es clock)∧(∀ e∈es.toList,e.born<hY)∧hY≤bY ∧
  ((leftOf es seen).size=0→k none w)∧∀ e∈(leftOf es seen).toList,∀ dz,dz=w∨dz=w.drew→k (some (e.key,e.val)) (setBlock dz r (.mapIter (some eM) hY (seen.push e.born) clock))
theorem Ti{a:Addr}{next:Act→World→Prop}{aa:Option (Value×Value)→World→Prop}{d:Option Nat}(ag:G.dst=d)(ai:G.op=.next x false)(F:ad n f x=.pointer (some a))
  (h:k0 a w aa) (b2:∀ q J,aa q J→next (act n (gM f d (Rb q)) aC) J):mO P G (act n f aC) w next Q:=by
 rw[nO];subst ag;obtain⟨r,eM,hY,seen,bY,es,clock,rfl,ab,ao,hold,aq0,ah,I⟩:=h;rcases run_next_at (P:=P) w G.type r eM hY bY seen es clock ab ao hold aq0 with ⟨bD,i_⟩ | ⟨e,he,dz,G_,i_⟩
 ·have gH:(execOp (ad n f) G).run P w=.ok (.value (.tuple #[.bool false])) w:=by simp[execOp,ai,F,i_]
  simp only[Oper.wp,hN,gH,Oper.upon_value,ia];exact b2 none _ (ah bD)
 ·have gH:(execOp (ad n f) G).run P w=.ok (.value (.tuple #[.bool true,e.key,e.val])) (setBlock dz r (.mapIter (some eM) hY (seen.push e.born) clock)):=by simp[execOp,ai,F,i_]
  simp only[Oper.wp,hN,gH,Oper.upon_value,ia];exact b2 (some (e.key,e.val)) _ (I e he dz G_)
theorem ady{q:Option (Value×Value)}(ai:G.op=.extract x 0)(F:ad n f x=Rb q):(execOp (ad n f) G).run P w=.ok (.value (.bool q.isSome)) w:=by
 cases q<;>simp[execOp,ai,F,Instr.extract,Rb]
def kg{Z:Type}(T:bn Z)(k:IntKind)(a:Addr)(w:World)(p:Int×Z):Prop:=
 ∃ r eM hY seen es clock e,a=⟨r,0,none⟩∧w.heap[r]?=some (.mapIter (some eM) hY (Array.push seen (MapEntry.born e)) clock)∧w.heap[eM]?=some (.map es clock)∧e∈es.toList∧(es.toList.map (·.born)).Nodup∧e.key=.int k p.1∧e.val=T.enc p.2
theorem adt{Z:Type}{T:bn Z}{k:IntKind}{a:Addr}{p:Int×Z}(ai:G.op=.entry x)(F:ad n f x=.pointer (some a))(h:kg T k a w p):(execOp (ad n f) G).run P w=.ok (.value (.tuple #[.int k p.1,T.enc p.2])) w:=by
 obtain⟨r,eM,hY,seen,es,clock,e,rfl,ab,ao,he,aK,I,O⟩:=h;have i_:=run_entry_at (P:=P) w r eM hY seen es clock e ab ao he aK;simp[execOp,ai,F,i_,I,O]
theorem aBv{Z:Type}{T:bn Z}{k:IntKind}{a:Addr}{p:Int×Z}{w J:World}{G:Obj}(hw:J=w.alloc G)(h:kg T k a w p):kg T k a J p:=by
 subst hw;obtain⟨r,eM,hY,seen,es,clock,e,rfl,ab,ao,h⟩:=h;exact⟨r,eM,hY,seen,es,clock,e,rfl,Je ab,Je ao,h⟩
end
section
variable {P:Program} {Q:Exit→Act→World→Prop} {n:Nat} {f:Nat→Value} {aC:List Deferred} {w J:World} {ops:Array Oper} {i:Nat} {rest:List Nat} {G:Oper} {x S z:Operand}
theorem Lf{a l:Int}{k:IntKind}{Gc:Array TypeId}(ai:G.op=.call { callee:=.builtin .max,args:=#[x,S],argTypes:=Gc })(F:ad n f x=.int k a)(aB:ad n f S=.int k l) :
  (execOp (ad n f) G).run P w=.ok (.value (.int k (max a l))) w:=by
 have h:=run_max_int2 (P:=P) (w:=w) Gc G.type k k a l;have e:(if l>a then l else a)=max a l:=by omega
 rw[e] at h;simp only[execOp,ai,resolve,invoke,builtin,List.map_toArray,List.map_cons,List.map_nil,F,aB,pure_bind,Sem.run_bind,h,Result.andThen_ok,Sem.run_pure]
theorem adL{a l:Int}{k:IntKind}{Gc:Array TypeId}(ai:G.op=.call { callee:=.builtin .min,args:=#[x,S],argTypes:=Gc })(F:ad n f x=.int k a)(aB:ad n f S=.int k l) :
  (execOp (ad n f) G).run P w=.ok (.value (.int k (min a l))) w:=by
 have h:=run_min_int2 (P:=P) (w:=w) Gc G.type k k a l;have e:(if l<a then l else a)=min a l:=by omega
 rw[e] at h;simp only[execOp,ai,resolve,invoke,builtin,List.map_toArray,List.map_cons,List.map_nil,F,aB,pure_bind,Sem.run_bind,h,Result.andThen_ok,Sem.run_pure]
theorem adC{t:TypeId}{ik:Array Field}{fd:Field}{k off:Nat}{d:TypeDesc}{c:List Value}{v:Value}(ai:G.op=.field t x k)(aR:P.underlying t=some (.struct ik))(am:ik[k]?=some fd)
  (zU:fd.offset=off) (ag:P.underlying fd.type=some d) (Y:wb d=false) (F:ad n f x=.agg c.toArray) (aJ:c[off]?=some v):(execOp (ad n f) G).run P w=.ok (.value v) w:=by
 subst zU;have h:=jc (P:=P) (w:=w) (t:=fd.type) (a8:=c.toArray) (off:=fd.offset) ag Y (by simpa using aJ);simp[execOp,ai,F,Instr.field,run_underlying aR,am,asAgg,h]
theorem adD{t:TypeId}{ik:Array Field}{fd:Field}{k off y az:Nat}{d:TypeDesc}{c:List Value}{v oe:Value}(ai:G.op=.field t x k)(aR:P.underlying t=some (.struct ik))(am:ik[k]?=some fd)
  (zU:fd.offset=off) (ag:P.underlying fd.type=some d) (Y:wb d=true) (F:ad n f x=.agg c.toArray) (bD:∃ i,P.info? fd.type=some i∧i.zero=some oe∧i.size=y∧i.bytes=az) (aJ:Value.agg ((c.drop off).take y).toArray=v):(execOp (ad n f) G).run P w=.ok (.value v) w:=by
 subst zU;subst aJ;obtain⟨i,aw,_,aG,_⟩:=bD;have h:=H6 (P:=P) (w:=w) (t:=fd.type) (a8:=c.toArray) (off:=fd.offset) (y:=y) (aC:=((c.drop fd.offset).take y).toArray) ag Y ⟨i,aw,aG⟩ (by simp[List.extract_eq_take_drop]);simp[execOp,ai,F,Instr.field,run_underlying aR,am,asAgg,h]
theorem adG{t e:TypeId}{Z:Type}{T:bn Z}{b:Nat}{v:Vector Z b}{k:IntKind}{i:Int}{u:Z}{d:TypeDesc}(ai:G.op=.index t x S)(aR:P.underlying t=some (.array b e))(ok:cj P e T 1)
  (ag:P.underlying e=some d) (Y:wb d=false) (U:∀ x,T.cells x=[T.enc x]) (F:ad n f x=(qA T b).enc v) (aB:ad n f S=.int k i) (aw:WW v i u):(execOp (ad n f) G).run P w=.ok (.value (T.enc u)) w:=by
 obtain⟨ah,hu⟩:=aw;have al:i.toNat<b:=by
  have:=(List.getElem?_eq_some_iff.1 hu).1;simpa using this
 have hm:∀ m:List Z,m.flatMap T.cells=m.map T.enc:=by
  intro m;induction m with
  |nil=>rfl
  |cons a m b_=>rw[List.flatMap_cons,U,b_]; rfl
 have rZ:ad n f x=.agg (v.toList.map T.enc).toArray:=by rw[F,← hm]
 obtain⟨D,bI,aG⟩:=ok.size;have R:(v.toList.map T.enc)[i.toNat]?=some (T.enc u):=by rw[List.getElem?_map,hu]; rfl
 have h:=jc (P:=P) (w:=w) (t:=e) (a8:=(v.toList.map T.enc).toArray) (off:=i.toNat) ag Y (by simpa using R);have dv:i<(b:Int):=by omega
 simp[execOp,ai,rZ,aB,Instr.index,asIntOf,run_underlying aR,ah,dv,run_sizeOf bI,aG,h]
def yG{Z:Type}(t:TypeId)(T:bn Z)(az:Nat)(z:Z)(m c:Int)(w:World)(aa:af→World→Prop):Prop:=
 0≤m∧m≤c∧(az:Int)*c≤281474976710656∧c≤9223372036854775807∧aa ⟨some ⟨w.heap.size,0,none⟩,m.toNat,c.toNat⟩ (w.alloc (.cells ((List.replicate c.toNat z).flatMap T.cells).toArray t))
theorem Tg{Z:Type}{T:bn Z}{ar az:Nat}{t e:TypeId}{z:Z}{m c:Int}{next:Act→World→Prop}{aa:af→World→Prop}{d:Option Nat}(ag:G.dst=d)(ai:G.op=.makeSlice t x S)(aR:P.underlying t=some (.slice e))(ok:cj P e T ar)
  (bD:∃ i,P.info? e=some i∧i.zero=some (T.enc z)∧i.size=ar∧i.bytes=az) (F:ad n f x=.int .i64 m) (aB:ad n f S=.int .i64 c) (h:yG e T az z m c w aa) (b2:∀ r J,aa r J→next (act n (gM f d (X.enc r)) aC) J):mO P G (act n f aC) w next Q:=by
 rw[nO];subst ag;obtain⟨i,aw,tR,aG,rfl⟩:=bD;obtain⟨ah,I,O,aH,h⟩:=h;have i_:=run_make (P:=P) w t e i (T.enc z) aR aw tR .i64 .i64 m c ah I O aH;have ao7:madeCells (T.enc z).cells (c.toNat*i.size)=((List.replicate c.toNat z).flatMap T.cells).toArray:=by
  have BS:=afW (T:=T) (ok.flat z) (ok.len z) c.toNat;have aQ:(T.enc z).cells.size=i.size:=by rw[ok.flat z,aG]; simpa using ok.len z
  have a6:madeCells (T.enc z).cells (c.toNat*i.size)=Builtin.zeroCells (T.enc z).cells c.toNat:=by
   unfold madeCells Builtin.zeroCells; rw[aQ]
  rw[a6,← BS]
 rw[ao7] at i_;have gH:(execOp (ad n f) G).run P w=.ok (.value (X.enc ⟨some ⟨w.heap.size,0,none⟩,m.toNat,c.toNat⟩)) (w.alloc (.cells ((List.replicate c.toNat z).flatMap T.cells).toArray e)):=by
  simp[execOp,ai,F,aB,i_]
 simp only[Oper.wp,hN,gH,Oper.upon_value,ia];exact b2 _ _ h
def Dz{Z:Type}(T:bn Z)(ar:Nat)(s l:af)(w:World)(aa:Nat→World→Prop):Prop:=
 ∃ new:List Z,new.length=min l.len s.len∧k7 T w ⟨l.a,new.length,l.cap⟩ new∧match s.a with
  |none=>aa new.length w
  |some a=>v7 w a (new.length*ar)∧aa new.length (oC w a 0 (new.flatMap T.cells))
theorem Td{Z:Type}{T:bn Z}{ar:Nat}{t u e:TypeId}{s l:af}{next:Act→World→Prop}{aa:Nat→World→Prop}{d:Option Nat}(ag:G.dst=d)(ai:G.op=.call { callee:=.builtin .copy,args:=#[x,S],argTypes:=#[t,u] })(aR:P.underlying t=some (.slice e))(ok:cj P e T ar)
  (F:ad n f x=X.enc s) (aB:ad n f S=X.enc l) (h:Dz T ar s l w aa) (b2:∀ r J,aa r J→next (act n (gM f d (.int .i64 r)) aC) J):mO P G (act n f aC) w next Q:=by
 rw[nO];subst ag;obtain⟨new,aK,qc,h⟩:=h;obtain⟨i,aw,nu⟩:=ok.size;have BG:=Aq (P:=P) ok.len qc;have BG:Sem.run P (Builtin.firstCells ar new.length (Value.slice l.a l.len l.cap)) w=.ok (new.flatMap T.cells).toArray w:=by
  cases ao:l.a with
  |none=>rw[ao] at BG; simpa[Builtin.firstCells] using BG
  |some a=>rw[ao] at BG; exact BG
 have BJ:Nat.min l.len s.len=new.length:=aK.symm;have gH:∀ (v:Value) (J:World),(Builtin.copy_ #[t,u] G.type #[X.enc s,X.enc l]).run P w=.ok v J→(execOp (ad n f) G).run P w=.ok (.value v) J:=by
  intro v J aJ;simp only[execOp,ai,resolve,invoke,builtin];simp only[List.map_toArray,List.map_cons,List.map_nil,F,aB,pure_bind,Sem.run_bind,aJ,Result.andThen_ok,Sem.run_pure]
 cases Y:s.a with
 |none=>
  rw[Y] at h;have i_:(Builtin.copy_ #[t,u] G.type #[X.enc s,X.enc l]).run P w=.ok (.int .i64 new.length) w:=by
   show (Builtin.copy_ #[t,u] G.type #[.slice s.a s.len s.cap,.slice l.a l.len l.cap]).run P w=_
   simp[Builtin.copy_,run_underlying aR,Builtin.lenOf,run_sizeOf aw,nu,BJ,BG,Y,goInt]
  simp only[Oper.wp,hN,gH _ _ i_,Oper.upon_value,ia];exact b2 _ _ h
 |some a=>
  rw[Y] at h;have PI:∀ v∈new.flatMap T.cells,v.oneCell'=true:=fun v aJ=>by
   obtain⟨q,_,a5⟩:=List.mem_flatMap.1 aJ; exact ok.one q v a5
  have lK:=EO (P:=P) a (new.flatMap T.cells) 0 w (by
   intro D bI;rw[Nat.zero_add];refine h.1 D ?_
   rwa [nU ok.len] at bI) PI
  have i_:(Builtin.copy_ #[t,u] G.type #[X.enc s,X.enc l]).run P w=.ok (.int .i64 new.length) (oC w a 0 (new.flatMap T.cells)):=by
   show (Builtin.copy_ #[t,u] G.type #[.slice s.a s.len s.cap,.slice l.a l.len l.cap]).run P w=_
   simp[Builtin.copy_,run_underlying aR,Builtin.lenOf,run_sizeOf aw,nu,BJ,BG,Y,lK,goInt]
  simp only[Oper.wp,hN,gH _ _ i_,Oper.upon_value,ia];exact b2 _ _ h.2
end
end bb
namespace bb
section
variable {P:Program} {Q:Exit→Act→World→Prop} {n:Nat} {f:Nat→Value} {aC:List Deferred} {w J:World} {G:Oper} {x S:Operand}
def aS(m:List UInt8):List Int:=m.map fun l=>(l.toNat:Int)
theorem gq(m:List UInt8):(aS m).length=m.length:=by simp[aS]
theorem xi(m y:List UInt8):aS (m++y)=aS m++aS y:=by simp[aS]
def tl(s:af)(w:World)(r:List UInt8):Prop:=k7 (B .u8) w s (aS r)
theorem OR(k:IntKind):∀ m:List Int,m.flatMap (B k).cells=m.map (Value.int k)
 |[]=>rfl
 |a::m=>by simp[OR k m]
theorem RD{s t e:TypeId}{l:af}{r:List UInt8}(ai:G.op=.convert s t x)(aG:P.underlying s=some (.slice e))(he:P.underlying e=some (.int .u8))(aR:P.underlying t=some .string)(F:ad n f x=X.enc l)(h:tl l w r) :
  (execOp (ad n f) G).run P w=.ok (.value (.string ⟨r.toArray⟩)) w:=by
 obtain⟨al,ab⟩:=h;rw[gq] at al;obtain⟨a,len,cap⟩:=l;simp only at al ab;subst al;have I:(convert s t (.slice a r.length cap)).run P w=.ok (.string ⟨r.toArray⟩) w:=by
  cases a with
  |none=>
   have ah:aS r=[]:=ab;have:r=[]:=by simpa[aS] using ah
   subst this;rw[run_convert_bytes_string w s t e none _ cap aG he aR];rfl
  |some a=>
   refine run_convert_bytes_back w s t e a cap r aG he aR fun D bI=>?_;refine (ab:oS w a _) D _ ?_;rw[OR];simp[aS,List.getElem?_eq_getElem bI]
 simp only[execOp,ai,F,Sem.run_bind,I,Result.andThen_ok,Sem.run_pure]
def aGJ(e:TypeId)(s:List UInt8)(w:World)(k:af→World→Prop):Prop:=
 k ⟨some ⟨w.heap.size,0,none⟩,s.length,grownCap w s.length 0 e⟩ (w.drew.alloc (.cells (bytesRow ⟨s.toArray⟩ (grownCap w s.length 0 e)) e ((bytesRow ⟨s.toArray⟩ (grownCap w s.length 0 e)).size,(bytesRow ⟨s.toArray⟩ (grownCap w s.length 0 e)).size+1)))
theorem Tk{s t e:TypeId}{l:List UInt8}{d:Option Nat}{next:Act→World→Prop}{aa:af→World→Prop}(ag:G.dst=d)(ai:G.op=.convert s t x)(aG:P.underlying s=some .string)(aR:P.underlying t=some (.slice e))(he:P.underlying e=some (.int .u8))
  (F:ad n f x=.string ⟨l.toArray⟩) (h:aGJ e l w aa) (b2:∀ r J,aa r J→next (act n (gM f d (X.enc r)) aC) J):mO P G (act n f aC) w next Q:=by
 rw[nO];subst ag;have I:=run_bytes_of_string (P:=P) w s t e ⟨l.toArray⟩ aG aR he;have nu:(⟨l.toArray⟩:ByteArray).size=l.length:=rfl;rw[nu] at I;have gH:(execOp (ad n f) G).run P w=.ok (.value (X.enc ⟨some ⟨w.heap.size,0,none⟩,l.length,grownCap w l.length 0 e⟩)) (w.drew.alloc (.cells (bytesRow ⟨l.toArray⟩ (grownCap w l.length 0 e)) e ((bytesRow ⟨l.toArray⟩ (grownCap w l.length 0 e)).size,(bytesRow ⟨l.toArray⟩ (grownCap w l.length 0 e)).size+1))):=by
  simp only[execOp,ai,F,Sem.run_bind,I,Result.andThen_ok,Sem.run_pure]
 simp only[Oper.wp,hN,gH,Oper.upon_value,ia];exact b2 _ _ h
theorem aBu{s:af}{r:List UInt8}{aC6:Obj}(hw:J=w.alloc aC6)(h:tl s w r):tl s J r:=by
 subst hw;obtain⟨I,O⟩:=h;refine⟨I,?_⟩;obtain⟨a,len,cap⟩:=s;cases a with
 |none=>exact O
 |some a=>exact W7 (w:=w) O
def aCx(s:af)(w:World)(k:World→Prop):Prop:=∃ a t y,s.a=some a∧w.shape? a.block=some (t,y)∧k (w.freeze ⟨a.block,y,none⟩ 1)
theorem Th{t e:TypeId}{s:af}{d:Option Nat}{next:Act→World→Prop}{aa:World→Prop}(ag:G.dst=d)(ai:G.op=.convert t t x)(aR:P.underlying t=some (.slice e))(he:P.underlying e=some (.int .u8))
  (F:ad n f x=X.enc s) (h:aCx s w aa) (b2:∀ J,aa J→next (act n (gM f d (X.enc s)) aC) J):mO P G (act n f aC) w next Q:=by
 rw[nO];subst ag;obtain⟨a,hl,y,Y,qd,h⟩:=h;have I:(convert t t (X.enc s)).run P w=.ok (X.enc s) (w.freeze ⟨a.block,y,none⟩ 1):=by
  simp[convert,run_underlying aR,run_underlying he,Y,markStringish,qd,Result.andThen]
 have gH:(execOp (ad n f) G).run P w=.ok (.value (X.enc s)) (w.freeze ⟨a.block,y,none⟩ 1):=by
  simp only[execOp,ai,F,Sem.run_bind,I,Result.andThen_ok,Sem.run_pure]
 simp only[Oper.wp,hN,gH,Oper.upon_value,ia];exact b2 _ h
theorem aGF{P:Program}(w:World)(y:Nat)(r:List UInt8):(Builtin.firstCells y r.length (.string ⟨r.toArray⟩)).run P w=.ok ((aS r).flatMap (B .u8).cells).toArray w:=by
 rw[OR];have nu:(⟨r.toArray⟩:ByteArray).size=r.length:=rfl;simp only[Builtin.firstCells,Sem.run_pure];congr 1;apply Array.ext';have he:(⟨r.toArray⟩:ByteArray).extract 0 r.length=⟨r.toArray⟩:=by rw[← nu]; exact ByteArray.extract_zero_size
 rw[he];simp[aS]
theorem Sm(y:Nat)(r:List UInt8):(Builtin.firstCells y r.length (.string ⟨r.toArray⟩)).run P w=.ok ((aS r).flatMap (B .u8).cells).toArray w:=by
 have h:=aGF (P:=P) w y r;exact h
def N1(e:TypeId)(s:af)(r:List UInt8)(w:World)(k:af→World→Prop):Prop:=l4 e (B .u8) 1 1 s (aS r) w k
theorem aGA{t u hl e:TypeId}{s:af}{r:List UInt8}(aR:P.underlying t=some (.slice e))(hu:P.underlying u=some .string)(ok:cj P e (B .u8) 1)(U:s.len+r.length≤s.cap){a:Addr}(Y:s.a=some a)(hw:v7 w (a.add (s.len*1)) (r.length*1)) :
  (Builtin.append_ #[t,u] hl #[X.enc s,.string ⟨r.toArray⟩]).run P w=.ok (X.enc ⟨some a,s.len+r.length,s.cap⟩) (oC w (a.add (s.len*1)) 0 ((aS r).flatMap (B .u8).cells)):=by
 obtain⟨jz,aw,j6⟩:=ok.size
 have O:=EO (P:=P) (a.add (s.len*1)) ((aS r).flatMap (B .u8).cells) 0 w (by
  intro D bI;rw[Nat.zero_add];rw[nU ok.len,gq] at bI
  exact hw D bI) (fun v aJ=>by obtain⟨x,_,F⟩:=List.mem_flatMap.1 aJ; exact ok.one x v F)
 have nu:(⟨r.toArray⟩:ByteArray).size=r.length:=rfl;simp only[Builtin.append_];have I:=Sm (P:=P) (w:=w) 1 r;simp[run_underlying aR,run_underlying hu,run_sizeOf aw,Builtin.lenOf,U,j6,Y,nu,I];simp only[Nat.mul_one] at O;rw[show storeCells (a.add s.len) ((aS r).flatMap (B .u8).cells).toArray.toList=storeCells (a.add s.len) ((aS r).flatMap (B .u8).cells) 0 from rfl,O];simp
theorem aGB{t u hl e:TypeId}{s:af}{r:List UInt8}(aR:P.underlying t=some (.slice e))(hu:P.underlying u=some .string)(ok:cj P e (B .u8) 1)(U:s.len+r.length≤s.cap)(Y:s.a=none) :
  (Builtin.append_ #[t,u] hl #[X.enc s,.string ⟨r.toArray⟩]).run P w=.ok (X.enc ⟨none,s.len+r.length,s.cap⟩) w:=by
 obtain⟨jz,aw,j6⟩:=ok.size;have nu:(⟨r.toArray⟩:ByteArray).size=r.length:=rfl;have I:=Sm (P:=P) (w:=w) 1 r;simp only[Builtin.append_];simp[run_underlying aR,run_underlying hu,run_sizeOf aw,Builtin.lenOf,U,j6,Y,nu,I]
theorem aGz{t u hl e:TypeId}{jz:TypeInfo}{s:af}{r:List UInt8}{old:List Int}(aR:P.underlying t=some (.slice e))(hu:P.underlying u=some .string)
  (ok:cj P e (B .u8) 1) (aw:P.info? e=some jz) (bD:jz.zero=some (.int .u8 0)) (DW:jz.bytes=1) (U:s.cap<s.len+r.length) (sR:(s.len+r.length)*1≤140737488355328) (hold:k7 (B .u8) w s old) :
  ∃ (c:Nat) (rest:List Value),s.len+r.length≤c∧rest.length=(c-(s.len+r.length))*1 ∧
   (Builtin.append_ #[t,u] hl #[X.enc s,.string ⟨r.toArray⟩]).run P w=.ok (X.enc ⟨some ⟨w.heap.size,0,none⟩,s.len+r.length,c⟩) (w.drew.alloc (.cells ((old++aS r).flatMap (B .u8).cells++rest).toArray e)):=by
 obtain⟨anZ,yg,j6⟩:=ok.size;rw[aw] at yg; injection yg with yg; subst yg
 have nu:(⟨r.toArray⟩:ByteArray).size=r.length:=rfl;have BM:old.length=s.len:=hold.1;have BB:¬ (s.len+r.length≤s.cap):=by omega
 have R:=growslice_fits (need:=s.len+r.length) (old:=s.cap) (bytes:=jz.bytes) (by omega) (by rw[DW]; exact sR);have ye:¬ (281474976710656<Builtin.nextslicecap (s.len+r.length) s.cap*jz.bytes):=by omega
 have Pm:jz.bytes≠0:=by omega
 refine⟨(Question.appendCap (s.len+r.length) s.cap e).cut (w.tape w.drawn (.appendCap (s.len+r.length) s.cap e)),(Builtin.zeroCells (Value.int .u8 0).cells ((Question.appendCap (s.len+r.length) s.cap e).cut (w.tape w.drawn (.appendCap (s.len+r.length) s.cap e))-(s.len+r.length))).toList,?_,?_,?_⟩
 ·simp only[Question.cut]; omega
 ·simp[Builtin.zeroCells,Value.cells]
 ·have GD:=Sm (P:=P) (w:=w.drew) 1 r;have O1:Sem.run P (Builtin.firstCells 1 s.len (Value.slice s.a s.len s.cap)) w.drew=.ok (old.flatMap (B .u8).cells).toArray w.drew:=Aq (P:=P) ok.len (NR hold);simp only[Builtin.append_];simp[run_underlying aR,run_underlying hu,run_sizeOf aw,Builtin.lenOf,BB,j6,nu,typeInfo,aw,Pm,ye,Question.forced,GD,O1,zeroValue,bD,newRow,List.flatMap_append,World.drew_eq];congr 2;apply Array.ext';simp
theorem S_{t u e:TypeId}{s:af}{r:List UInt8}{d:Option Nat}{next:Act→World→Prop}{aa:af→World→Prop}(ag:G.dst=d)
  (ai:G.op=.call { callee:=.builtin .append,args:=#[x,S],argTypes:=#[t,u] }) (aR:P.underlying t=some (.slice e)) (hu:P.underlying u=some .string)
  (ok:cj P e (B .u8) 1) (u5:∃ i,P.info? e=some i∧i.zero=some (.int .u8 0)∧i.size=1∧i.bytes=1)
  (F:ad n f x=X.enc s) (aB:ad n f S=.string ⟨r.toArray⟩) (h:N1 e s r w aa) (aq:∀ r J,aa r J→next (act n (gM f d (X.enc r)) aC) J) :
  mO P G (act n f aC) w next Q:=by
 rw[nO];subst ag;obtain⟨jz,aw,bD,j6,DW⟩:=u5;obtain⟨kq,zQ⟩:=h;have gH:∀ (w:World) (v:Value) (J:World),(Builtin.append_ #[t,u] G.type #[X.enc s,.string ⟨r.toArray⟩]).run P w=.ok v J→(execOp (ad n f) G).run P w=.ok (.value v) J:=by
  intro w v J aJ;simp only[execOp,ai,resolve,invoke,builtin];simp only[List.map_toArray,List.map_cons,List.map_nil,F,aB,pure_bind,Sem.run_bind,aJ,Result.andThen_ok,Sem.run_pure]
 rw[gq] at kq zQ;by_cases U:s.len+r.length≤s.cap
 ·have kq:=kq U;cases Y:s.a with
  |none=>
   rw[Y] at kq;simp only[Oper.wp,hN,gH _ _ _ (aGB aR hu ok U Y),Oper.upon_value,ia];exact aq _ _ kq
  |some a=>
   rw[Y] at kq;simp only[Oper.wp,hN,gH _ _ _ (aGA aR hu ok U Y kq.1),Oper.upon_value,ia];exact aq _ _ kq.2
 ·obtain⟨sR,old,hold,zQ⟩:=zQ (by omega);obtain⟨c,rest,I,O,aH⟩:=aGz (hl:=G.type) aR hu ok aw bD DW (by omega) sR hold;simp only[Oper.wp,hN,gH _ _ _ aH,Oper.upon_value,ia];exact aq _ _ (zQ c rest I O)
def fO(op:BinOp)(a l:Nat):Bool:=
 match op with
 |.eql=>FloatKind.f64.format.order a l==some .eq
 |.neq=>FloatKind.f64.format.order a l != some .eq
 |.lss=>FloatKind.f64.format.order a l==some .lt
 |.leq=>FloatKind.f64.format.order a l==some .lt||FloatKind.f64.format.order a l==some .eq
 |.gtr=>FloatKind.f64.format.order a l==some .gt
 |.geq=>FloatKind.f64.format.order a l==some .gt||FloatKind.f64.format.order a l==some .eq
 |_=>false
def anT:BinOp→Bool
 |.eql |.neq |.lss |.leq |.gtr |.geq=>true
 |_=>false
theorem adB{op:BinOp}{a l:Nat}{t u:TypeId}(ai:G.op=.binOp op t x S u)(gH:anT op=true)(F:ad n f x=.float .f64 a)(aB:ad n f S=.float .f64 l) :
  (execOp (ad n f) G).run P w=.ok (.value (.bool (fO op a l))) w:=by
 cases op<;>first
  |cases gH; done
  |simp[execOp,ai,F,aB,eqGuard_at_float,eqGuard_lss,eqGuard_leq,eqGuard_gtr,eqGuard_geq,binOp,Op.floatCmp,fO]
def xl(op:BinOp)(a l:Nat)(r:Nat):Prop:=floatBits op .f64 a l=some r
def zl(k:IntKind)(l:Nat)(y:Int):Prop:=floatToIntVal .f64 l k=some y
def anO:BinOp→Bool
 |.add |.sub |.mul |.quo=>true
 |_=>false
theorem adA{op:BinOp}{a l r:Nat}{t u:TypeId}(ai:G.op=.binOp op t x S u)(gH:anO op=true)(F:ad n f x=.float .f64 a)(aB:ad n f S=.float .f64 l)(h:xl op a l r) :
  (execOp (ad n f) G).run P w=.ok (.value (.float .f64 r)) w:=by
 have ab:=run_float_arith (P:=P) w op t .f64 a l r h;cases op<;>first
  |cases gH; done
  |simp[execOp,ai,F,aB,eqGuard_add,eqGuard_sub,eqGuard_mul,eqGuard_quo,ab]
theorem ads{k:IntKind}{l:Nat}{y:Int}{s t:TypeId}(ai:G.op=.convert s t x)(aG:P.underlying s=some (.float .f64))(aR:P.underlying t=some (.int k))(F:ad n f x=.float .f64 l)(h:zl k l y) :
  (execOp (ad n f) G).run P w=.ok (.value (.int k y)) w:=by
 have ab:=run_convert_float_int (P:=P) w s t .f64 k l y (by rw[aG]; rfl) aR h;simp[execOp,ai,F,ab]
def Ext(P:Program)(k:FuncId)(e:Array Value→Sem Value):Prop:=∃ fn,P.funcs[k]?=some fn∧(fn.name=="runtime.NumGoroutine")=false∧fn.body.isNone=true∧Extern.findNext fn=none∧Extern.find fn=some e
theorem adx{k:FuncId}{e:Array Value→Sem Value}{lc:List Operand}{nI:Array TypeId}{m:List Value}{v:Value}(ai:G.op=.call { callee:=.value (.func k),args:=lc.toArray,argTypes:=nI })(he:Ext P k e)(Y:lc.map (ad n f)=m)(aJ:(e m.toArray).run P w=.ok v w) :
  (execOp (ad n f) G).run P w=.ok (.value v) w:=by
 obtain⟨fn,am,I,O,aH,bg⟩:=he;subst Y;have dh:=run_callFunc_extern am I O aH bg ((lc.map (ad n f)).toArray) w;rw[aJ] at dh;simp only[Result.andThen_ok] at dh;simpa[execOp,ai,resolve,ad,Deferred.ofValue,invoke] using dh
theorem adz{k:FuncId}{l:Nat}{nI:Array TypeId}(ai:G.op=.call { callee:=.value (.func k),args:=#[x],argTypes:=nI })(he:Ext P k Extern.MathFloatBits.float64bits)(F:ad n f x=.float .f64 l) :
  (execOp (ad n f) G).run P w=.ok (.value (.int .u64 l)) w:=adx (lc:=[x]) (m:=[.float .f64 l]) ai he (by simp[F]) rfl
theorem RT{k:FuncId}{l:Int}{nI:Array TypeId}(ai:G.op=.call { callee:=.value (.func k),args:=#[x],argTypes:=nI })(he:Ext P k Extern.MathFloatBits.float64frombits)(F:ad n f x=.int .u64 l) :
  (execOp (ad n f) G).run P w=.ok (.value (.float .f64 l.toNat)) w:=adx (lc:=[x]) (m:=[.int .u64 l]) ai he (by simp[F]) rfl
def aaz:TypeDesc→Bool
 |.interface _=>true
 |_=>false
theorem yV{t:TypeId}{d:TypeDesc}{v:Value}(ai:G.op=.makeInterface t x)(aR:P.underlying t=some d)(ag:aaz d=false)(F:ad n f x=v):(execOp (ad n f) G).run P w=.ok (.value (ei.mk t v).enc) w:=by
 subst F;cases d<;>first
  |simp[execOp,ai,Instr.makeInterface,run_underlying aR,ei.enc]; done
  |cases ag
theorem adQ{t:TypeId}{a:Int}{k:IntKind}(ai:G.op=.unOp .xor t x)(aq:k.signed=false)(F:ad n f x=.int k a):(execOp (ad n f) G).run P w=.ok (.value (.int k (bits .xor k k.max a))) w:=by
 simp[execOp,ai,F,Op.unary,aq,intBits_xor]
theorem adP{t:TypeId}{a:Int}{k:IntKind}(ai:G.op=.unOp .xor t x)(aq:k.signed=true)(F:ad n f x=.int k a):(execOp (ad n f) G).run P w=.ok (.value (.int k (bits .xor k (-1) a))) w:=by
 simp[execOp,ai,F,Op.unary,aq,intBits_xor]
theorem adO{t:TypeId}{a:Nat}(ai:G.op=.unOp .neg t x)(F:ad n f x=.float .f64 a):(execOp (ad n f) G).run P w=.ok (.value (.float .f64 (Op.negFloat .f64 a))) w:=by
 simp[execOp,ai,F,Op.unary]
end
section
variable {P:Program} {Q:Exit→Act→World→Prop} {n:Nat} {f:Nat→Value} {aC:List Deferred} {w J:World} {G:Oper} {x:Operand}
def Ah(v:ei):List PanicEntry:=[{ v:=v.enc,recovered:=false }]
def W8{Z:Type}(T:bn Z)(j:Z→World→Prop)(ej:ei→World→Prop):Ending→World→Prop
 |.returned v,w=>∃ x,v=T.enc x∧j x w
 |.panicked chain,w=>∃ v,chain=Ah v∧ej v w
 |.outgrown,_=>False
def nR{Z:Type}(P:Program)(f:FuncId)(args:List Value)(T:bn Z)(w:World)(ej:ei→World→Prop)(k:Z→World→Prop):Prop:=Calls P f args.toArray w (W8 T k ej)
theorem sa{Z:Type}{T:bn Z}{fn:Func}{j:Z→World→Prop}{ej:ei→World→Prop}{v:ei}(h:ej v w):bodyPost P fn (W8 T j ej) (.panic (Ah v)) (act n f []) w:=⟨rfl,v,rfl,h⟩
theorem zc{Z:Type}{T:bn Z}{k:FuncId}{args:List Value}{d:Option Nat}{next:Act→World→Prop}{aa:Z→World→Prop}{ej:ei→World→Prop}(ag:G.dst=d)
  (aJ:(execOp (ad n f) G).run P w=.ok (.enter k args.toArray) w) (h:nR P k args T w ej aa) (aF:∀ v J,ej v J→Q (.panic (Ah v)) (act n f aC) J) (aq:∀ r J,aa r J→next (act n (gM f d (T.enc r)) aC) J):mO P G (act n f aC) w next Q:=by
 rw[nO];subst ag;refine XP aJ (Calls.mono h fun e J he=>?_);cases e with
 |returned v=>obtain⟨r,rfl,ab⟩:=he; exact aq r J ab
 |panicked c=>obtain⟨v,rfl,aJ⟩:=he; exact aF v J aJ
 |outgrown=>exact he.elim
theorem CI{v:ei}{next:Act→World→Prop}(ai:G.op=.panic x)(F:ad n f x=v.enc)(aK:∃ t u,v=.mk t u)(h:Q (.panic (Ah v)) (act n f aC) w):mO P G (act n f aC) w next Q:=by
 rw[nO];obtain⟨t,u,rfl⟩:=aK;have gH:(execOp (ad n f) G).run P w=.halt (.panic (.iface t u)) w:=by
  simp only[execOp,ai,F];rfl
 simp only[Oper.wp,hN,gH,Oper.upon_panic];exact h
def Gg(P:Program)(fn:Func)(ph:List Nat)(j:Ending→World→Prop):Exit→Act→World→Prop
 |.panic chain,a,w=>∀ tmps:Array Value,(∀ s∈ph,tmps.getD s undef=a.tmps.getD s undef)→Leaves P fn tmps j a.defers (.panicking chain) w
 |e,a,w=>bodyPostD P fn j e a w
theorem akW{f:FuncId}{fn:Func}{c:Code}{m:List Value}{j:Ending→World→Prop}{ph:List Nat}(n:Nat)
  (am:P.funcs[f]?=some fn) (aK:fn.ntmps=n) (ao:fn.body=some c) (al:m.length≤n)
  (h:c.wp P (Gg P fn ph j) (act n (start m) []) w):Calls P f m.toArray w j:=by
 subst aK;refine calls_of_wp_defers am ao ?_;rw[Sz m _ al];refine wp_mono h fun e a J h=>?_;cases e with
 |panic c=>exact h _ fun _ _=>rfl
 |_=>exact h
def yB(P:Program)(k:FuncId)(args:List Value)(u:FrameMode)(w:World)(aa:World→Prop):Prop:=
 CallsD P k args.toArray u w fun e pk J=>(∃ v,e=.returned v)∧settle pk=.returning∧aa J
theorem QS{k:FuncId}{args:List Value}{u:FrameMode}{aa K':World→Prop}(h:yB P k args u w aa)(aq:∀ J,aa J→K' J):yB P k args u w K':=
 CallsD.mono h fun _ _ J ⟨I,O,aH⟩=>⟨I,O,aq J aH⟩
theorem aBe{k:FuncId}{a8:List Value}(he:dr P k):(invoke (.fn (.func k) a8.toArray) #[]).run P w=.ok (.enter k a8.toArray) w:=by
 obtain⟨fn,am,ao,aK⟩:=he;have uY:fn.body≠none:=by intro h; simp[h] at ao
 simp[invoke,callFunc,am,uY,beq_eq_false_iff_ne.1 aK]
def aeL:ResultVar→Nat
 |.tmp t=>t
 |.cell a _=>a
def Lv(an:List ResultVar):List Nat:=an.map aeL
theorem aGr{fn:Func}{an:List ResultVar}{t1 t2:Array Value}(ab:fn.results=an.toArray)(h:∀ s∈Lv an,t1.getD s undef=t2.getD s undef):results fn t1=results fn t2:=by
 have e:∀ t,results fn t=(do let AA ← fn.results.mapM (ul t); pure (if h:AA.size=1 then AA[0] else .tuple AA)):=fun t=>rfl;have hm:∀ m:List ResultVar,(∀ r∈m,ul t1 r=ul t2 r)→m.mapM (ul t1)=m.mapM (ul t2):=by
  intro m;induction m with
  |nil=>intro _; rfl
  |cons a m b_=>
   intro al;rw[List.mapM_cons,List.mapM_cons,al a (by simp),b_ (fun r ab=>al r (by simp[ab]))]
 rw[e,e,ab,Array.mapM_eq_mapM_toList,Array.mapM_eq_mapM_toList,hm _ ?_];intro r tP;have aG:aeL r∈Lv an:=List.mem_map_of_mem (by simpa using tP);cases r with
 |tmp t=>simp only[ul,h t aG]
 |cell a t=>simp only[ul,h a aG]
theorem abv{fn:Func}{an:List ResultVar}{k:FuncId}{a8:List Value}{u:FrameMode}{j:Ending→World→Prop}{tmps:Array Value}(hu:u≠.run)(ab:fn.results=an.toArray)(he:dr P k)(aR:∀ s∈Lv an,tmps.getD s undef=(act n f aC).tmps.getD s undef)
  (h:yB P k a8 u w fun J=>∃ aW,sr P n f J an aW∧j (.returned (Cw aW)) J):Leaves P fn tmps j [{ target:=.fn (.func k) a8.toArray,args:=#[] }] u w:=by
 refine leaves_cons hu (aBe he) (CallsD.mono h fun e pk J ⟨⟨v,I⟩,O,aW,aH,bg⟩=>?_);subst I;simp only[O,Leaves];refine⟨_,?_,bg⟩;rw[aGr ab aR];exact Ly ab aH
theorem aGs{fn:Func}{an:List ResultVar}{k:FuncId}{a8:List Value}{j:Ending→World→Prop}{ph:List Nat}(ab:fn.results=an.toArray)(he:dr P k)
  (h:yB P k a8 .returning w fun J=>∃ aW,sr P n f J an aW∧j (.returned (Cw aW)) J):Gg P fn ph j .ret (act n f [{ target:=.fn (.func k) a8.toArray,args:=#[] }]) w:=
 abv (by simp) ab he (fun _ _=>rfl) h
theorem acv{fn:Func}{an:List ResultVar}{k:FuncId}{a8:List Value}{j:Ending→World→Prop}{v:ei}(ab:fn.results=an.toArray)(he:dr P k)
  (h:yB P k a8 (.panicking (Ah v)) w fun J=>∃ aW,sr P n f J an aW∧j (.returned (Cw aW)) J):Gg P fn (Lv an) j (.panic (Ah v)) (act n f [{ target:=.fn (.func k) a8.toArray,args:=#[] }]) w:=
 fun tmps aR=>abv (aC:=[{ target:=.fn (.func k) a8.toArray,args:=#[] }]) (by simp) ab he aR h
theorem aEd{fn:Func}{ph:List Nat}{j:Ending→World→Prop}{c:List PanicEntry}{a:Act}{d:Option Nat}{v:Value}(ag:∀ s∈ph,d≠some s)(h:Gg P fn ph j (.panic c) (a.put d v) w):Gg P fn ph j (.panic c) a w:=by
 cases d with
 |none=>exact h
 |some d=>
  intro tmps aR;refine h tmps fun s aG=>?_;rw[aR s aG];have:d≠s:=fun e=>ag s aG (by rw[e]);simp[Act.put,Array.getD_eq_getD_getElem?,Array.getElem?_setIfInBounds,this]
theorem amo{ops:Array Oper}{ph:List Nat}{d:Option Nat}(h:(ops.toList.all fun G=>ph.all fun s=>G.dst != some s)=true)(ag:∃ G∈ops.toList,G.dst=d):∀ s∈ph,d≠some s:=by
 obtain⟨G,ai,rfl⟩:=ag;intro s aG;have:=List.all_eq_true.1 (List.all_eq_true.1 h G ai) s aG;simpa using this
theorem aIR{k:FuncId}{a8:List Value}{next:Act→World→Prop}{d:Option Nat}{nI:Array TypeId}(ag:G.dst=d)(ai:G.op=.defer { callee:=.value x,args:=#[],argTypes:=nI })(F:ad n f x=.func (.func k) #[] a8.toArray)
  (h:next (act n (gM f d undef) ({ target:=.fn (.func k) a8.toArray,args:=#[] }::aC)) w):mO P G (act n f aC) w next Q:=by
 rw[nO];subst ag;have gH:(execOp (ad n f) G).run P w=.ok (.defer { target:=.fn (.func k) a8.toArray,args:=#[] }) w:=by
  simp[execOp,ai,F,resolve,Deferred.ofValue]
 simp only[Oper.wp,hN,gH,Oper.upon];have e:(({ (act n f aC) with defers:={ target:=.fn (.func k) a8.toArray,args:=#[] }::aC }:Act).put G.dst undef)=act n (gM f G.dst undef) ({ target:=.fn (.func k) a8.toArray,args:=#[] }::aC):=ia n f _ G.dst undef
 first
  |exact e▸h
  |(rw[← e] at h; exact h)
def I0(u:FrameMode)(v:ei)(pk:FrameMode):Prop:=
 (∃ K2,u=.panicking ({ v:=v.enc,recovered:=false }::K2)∧pk=.panicking ({ v:=v.enc,recovered:=true }::K2))∨(u=.returning∧v=.nil∧pk=.returning)
theorem aF9(v:ei):I0 (.panicking (Ah v)) v (.panicking [{ v:=v.enc,recovered:=true }]):=.inl ⟨[],rfl,rfl⟩
theorem aGa:I0 .returning .nil .returning:=.inr ⟨rfl,rfl,rfl⟩
section
variable {zr:Exit→Act→List Frame→World→Prop} {a8 al0:List Frame} {ops:Array Oper} {i:Nat} {rest:List Nat} {d:Option Nat}
theorem akV{f:FuncId}{fn:Func}{c:Code}{m:List Value}{u:FrameMode}{j:Ending→FrameMode→World→Prop}(n:Nat)(am:P.funcs[f]?=some fn)(aK:fn.ntmps=n)(ao:fn.body=some c)(al:m.length≤n)
  (h:∀ (ot:Frame) (a8:List Frame),ot.mode=u→c.wpS P (bodyPostS P fn ot a8 j) (act n (start m) []) (ot::a8) w):CallsD P f m.toArray u w j:=by
 subst aK;refine callsD_of_wpS am ao fun ot a8 hu=>?_;rw[Sz m _ al];exact h ot a8 hu
theorem aGw{v:ei}{u pk:FrameMode}{ot:Frame}(aw:ops.toList[i]?=some G)(R:G.guard=none)(ag:G.dst=d)(ai:G.op=.call { callee:=.builtin .recover,args:=#[],argTypes:=#[] })(hu:ot.mode=u)(ab:I0 u v pk)
  (h:wpOpsS P ops zr rest (act n (gM f d v.enc) aC) ({ ot with mode:=pk }::a8) w):wpOpsS P ops zr (i::rest) (act n f aC) (ot::a8) w:=by
 subst ag;have gH:(execOp (act n f aC).eval G).run P w=.ok .recover w:=by
  simp[execOp,ai,resolve,invoke,builtin]
 simp only[wpOpsS,ofList aw];rw[if_pos (by simp[Region.wanted,R])];rw[gH];simp only;rcases ab with ⟨K2,rfl,rfl⟩ | ⟨rfl,rfl,rfl⟩
 ·have e:recoverD (ot::a8)=some (v.enc,{ ot with mode:=.panicking ({ v:=v.enc,recovered:=true }::K2) }::a8):=by
   simp only[recoverD,hu]
  rw[e];simp only[ia];exact h
 ·have e:recoverD (ot::a8)=none:=by
   simp only[recoverD,hu]
  rw[e];simp only[ia];have a6:({ ot with mode:=.returning }:Frame)=ot:=by cases ot; simp_all
  rw[a6] at h;exact h
theorem aGx{v:Value}(aw:ops.toList[i]?=some G)(R:G.guard=none)(ag:G.dst=d)(aJ:(execOp (ad n f) G).run P w=.ok (.value v) J)
  (h:wpOpsS P ops zr rest (act n (gM f d v) aC) a8 J):wpOpsS P ops zr (i::rest) (act n f aC) a8 w:=by
 subst ag;simp only[wpOpsS,ofList aw];rw[if_pos (by simp[Region.wanted,R]),hN,aJ];simp only[Oper.upon_value,ia];exact h
theorem aGv(h:zr .normal (act n f aC) a8 w):wpOpsS P ops zr [] (act n f aC) a8 w:=h
theorem aIQ{id:Nat}(m:List Nat)(al:List.range ops.size=m)(h:wpOpsS P ops zr m (act n f aC) a8 w):(Code.region id ops false).wpS P zr (act n f aC) a8 w:=by
 subst al; exact wpS_region h
theorem Yy{fn:Func}{ot:Frame}{pk:FrameMode}{j:World→Prop}(ab:fn.results=#[])(h:j w) :
  bodyPostS P fn ot a8 (fun e tf J=>(∃ v,e=.returned v)∧tf=pk∧j J) .normal (act n f []) ({ ot with mode:=pk }::a8) w:=by
 refine⟨rfl,pk,rfl,.tuple #[],?_,⟨_,rfl⟩,rfl,h⟩;have:=Ly (P:=P) (w:=w) (n:=n) (f:=f) (aC:=[]) (fn:=fn) (an:=[]) (aW:=[]) ab .nil;exact this
end
theorem abB{k:FuncId}{args:List Value}{u pk:FrameMode}{aa:World→Prop}(h:CallsD P k args.toArray u w fun e tf J=>(∃ v,e=.returned v)∧tf=pk∧aa J)(aG:settle pk=.returning):yB P k args u w aa:=
 CallsD.mono h fun _ _ J ⟨I,O,aH⟩=>⟨I,by rw[O]; exact aG,aH⟩
def Tu{Z:Type}(t:TypeId)(T:bn Z)(z:Z)(x:ei)(p:Z×Bool):Prop:=(∃ S,x=.mk t (T.enc S)∧p=(S,true))∨((∀ v,x≠.mk t v)∧p=(z,false))
theorem RC{Z:Type}{T:bn Z}{aI5 t:TypeId}{z:Z}{v:ei}{p:Z×Bool}{y l:Nat}{S:Operand}(ai:G.op=.typeAssert S aI5 t true)(aR:∃ d,P.underlying t=some d∧aaz d=false)(bD:∃ i,P.info? t=some i∧i.zero=some (T.enc z)∧i.size=y∧i.bytes=l)(F:ad n f S=v.enc)(h:Tu t T z v p) :
  (execOp (ad n f) G).run P w=.ok (.value (.tuple #[T.enc p.1,.bool p.2])) w:=by
 obtain⟨d,aR,ag⟩:=aR;obtain⟨i,aw,tR,_⟩:=bD;have dO:∀ y,d≠.interface y:=by intro y e; subst e; cases ag
 rcases h with ⟨u,rfl,rfl⟩ | ⟨aJ,rfl⟩
 ·cases d<;>first
   |cases ag; done
   |simp[execOp,ai,F,ei.enc,Instr.typeAssert,run_underlying aR]; done
 ·cases v with
  |nil=>
   cases d<;>first
    |cases ag; done
    |simp[execOp,ai,F,ei.enc,Instr.typeAssert,run_underlying aR,zeroValue,typeInfo,aw,tR]; done
  |mk tc u=>
   have aq8:¬ tc=t:=fun e=>aJ u (by rw[e]);cases d<;>first
    |cases ag; done
    |simp[execOp,ai,F,ei.enc,Instr.typeAssert,run_underlying aR,aq8,zeroValue,typeInfo,aw,tR]; done
def ei.isNil:ei→Bool
 |.nil=>true
 |.mk _ _=>false
theorem aem{t:TypeId}{v:ei}{Hz:Array (String×TypeId)}(aR:P.underlying t=some (.interface Hz)):(Op.equal t v.enc .nilIface).run P w=.ok v.isNil w:=by
 show (Op.equalIn (9999+1) t v.enc .nilIface).run P w=_
 rw[Op.equalIn];simp only[Sem.run_bind,run_underlying aR,Result.andThen_ok];cases v<;>simp[ei.enc,ei.isNil]
theorem adu{t u:TypeId}{v:ei}{S:Operand}{Hz:Array (String×TypeId)}(ai:G.op=.binOp .eql t S (.const .nilIface) u)(aR:P.underlying t=some (.interface Hz))(F:ad n f S=v.enc):(execOp (ad n f) G).run P w=.ok (.value (.bool v.isNil)) w:=by
 have U:ad n f (.const .nilIface)=.nilIface:=rfl;have R:eqGuard .eql t S (.const .nilIface) v.enc .nilIface=pure ():=by cases v<;>cases S<;>rfl
 have ao:binOp .eql t v.enc .nilIface=(do pure (.bool (← Op.equal t v.enc .nilIface))):=by cases v<;>rfl
 have I:=aem (P:=P) (w:=w) (v:=v) aR;simp only[execOp,ai,F,U,R,ao,Sem.run_bind,Sem.run_pure,Result.andThen_ok,I]
theorem RY{t u:TypeId}{v:ei}{S:Operand}{Hz:Array (String×TypeId)}(ai:G.op=.binOp .neq t S (.const .nilIface) u)(aR:P.underlying t=some (.interface Hz))(F:ad n f S=v.enc):(execOp (ad n f) G).run P w=.ok (.value (.bool (!v.isNil))) w:=by
 have U:ad n f (.const .nilIface)=.nilIface:=rfl;have R:eqGuard .neq t S (.const .nilIface) v.enc .nilIface=pure ():=by cases v<;>cases S<;>rfl
 have ao:binOp .neq t v.enc .nilIface=(do pure (.bool (!(← Op.equal t v.enc .nilIface)))):=by cases v<;>rfl
 have I:=aem (P:=P) (w:=w) (v:=v) aR;simp only[execOp,ai,F,U,R,ao,Sem.run_bind,Sem.run_pure,Result.andThen_ok,I]
section
variable {ops:Array Oper} {i:Nat} {rest:List Nat} {listed:Array Bool} {ay:List (Nat×(World→Prop))} {y:Nat}
theorem a2(k:Nat){v:Value}(aw:ops.toList[i]?=some G)(R:G.guard=none)(ag:G.dst=some k)(aJ:(execOp (ad n f) G).run P w=.ok (.value v) J)
  (h:cW P ops Q rest (act n (ae f k v) aC) J):cW P ops Q (i::rest) (act n f aC) w:=eP (d:=some k) aw (.free R) ag aJ h
theorem fc(i k:Nat){v:Value}(ak:lv ops Q)(aw:ops.toList[i]?=some G)(R:G.guard=none)(ag:G.dst=some k)(aJ:∀ w,(execOp (ad n f) G).run P w=.ok (.value v) w)
  (h:g_ P ops Q ay y (listed.setIfInBounds i true) (act n (ae f k v) aC) w) (am:Region.free .any ops listed i=true:=by kernel_rfl) (ab:(Region.ready .any ops listed).contains i=true:=by kernel_rfl):g_ P ops Q ay (y+1) listed (act n f aC) w:=
 eO (i:=i) (d:=some k) ak am ab aw (.free R) ag aJ h
end
end
def sE{Z:Type}(P:Program)(hE:cc)(args:List Value)(T:bn Z)(w:World)(k:Z→World→Prop):Prop:=
 ∃ (f:FuncId) (a c:List Value),hE=.mk (.func f) a.toArray c.toArray∧dr P f∧M P f (a++args++c) T w k
theorem Oi{Z:Type}{P:Program}{T:bn Z}{hE:cc}{args:List Value}{w:World}{aa K':Z→World→Prop}(h:sE P hE args T w aa)(aq:∀ r J,aa r J→K' r J):sE P hE args T w K':=by
 obtain⟨f,a,c,I,O,aH⟩:=h
 exact⟨f,a,c,I,O,aH.mono fun e J he=>by
  cases e with
  |returned v=>obtain⟨x,F,aB⟩:=he; exact⟨x,F,aq _ _ aB⟩
  |_=>exact he.elim⟩
section
variable {P:Program} {Q:Exit→Act→World→Prop} {n:Nat} {f:Nat→Value} {aC:List Deferred} {w:World} {G:Oper} {x:Operand}
theorem aE3{k:FuncId}{lc:List Operand}{nI:Array TypeId}{m a c:List Value}{hE:cc}(ai:G.op=.call { callee:=.value x,args:=lc.toArray,argTypes:=nI })(F:ad n f x=hE.enc)(yd:hE=.mk (.func k) a.toArray c.toArray)
  (he:dr P k) (Y:lc.map (ad n f)=m):(execOp (ad n f) G).run P w=.ok (.enter k (a++m++c).toArray) w:=by
 obtain⟨fn,am,ao,aK⟩:=he;have uY:fn.body≠none:=by intro h; simp[h] at ao
 subst yd; subst Y;simp[execOp,ai,resolve,F,cc.enc,Deferred.ofValue,invoke,callFunc,am,uY,beq_eq_false_iff_ne.1 aK]
theorem Tc{Z:Type}{T:bn Z}{lc:List Operand}{nI:Array TypeId}{m:List Value}{hE:cc}{d:Option Nat}{next:Act→World→Prop}{aa:Z→World→Prop}(ag:G.dst=d)(ai:G.op=.call { callee:=.value x,args:=lc.toArray,argTypes:=nI })
  (F:ad n f x=hE.enc) (Y:lc.map (ad n f)=m) (h:sE P hE m T w aa) (aq:∀ r J,aa r J→next (act n (gM f d (T.enc r)) aC) J):mO P G (act n f aC) w next Q:=by
 obtain⟨k,a,c,yd,he,h⟩:=h;exact gR ag (aE3 ai F yd he Y) h aq
end
def Lb(P:Program):Sem Next→Option Value
 |.pure (.value v)=>some v
 |.program k=>Lb P (k P)
 |_=>none
theorem aEU{P:Program}:∀ {s:Sem Next} {v:Value},Lb P s=some v→∀ w,s.run P w=.ok (.value v) w:=by
 intro s;induction s with
 |pure a=>
  intro v h w;cases a<;>first | (cases h; rfl) | cases h
 |program k b_=>
  intro v h w;exact b_ P h w
 |_=>intro v h; cases h
def H5(P:Program)(n:Nat)(ops:Array Oper):Nat→List Nat→(Nat→Value)→Option (Nat→Value)
 |0,_,f=>some f
 |_+1,[],_=>none
 |k+1,i::m,f=>match ops.toList[i]? with
  |some G=>match G.guard with
   |none=>match Lb P (execOp (ad n f) G) with
    |some v=>H5 P n ops k m (gM f G.dst v)
    |none=>none
   |some _=>none
  |none=>none
def g0(G:Option (Nat→Value)):Nat→Value:=G.getD fun _=>undef
section
variable {P:Program} {Q:Exit→Act→World→Prop} {n:Nat} {f:Nat→Value} {aC:List Deferred} {w J:World} {ops:Array Oper}
theorem ael:∀ (k:Nat) {m:List Nat} {f g:Nat→Value},H5 P n ops k m f=some g→cW P ops Q (m.drop k) (act n g aC) w→cW P ops Q m (act n f aC) w
 |0,m,f,g,h,U=>by
  cases h;exact U
 |k+1,[],f,g,h,U=>by cases h
 |k+1,i::m,f,g,h,U=>by
  unfold H5 at h;cases ai:ops.toList[i]? with
  |none=>rw[ai] at h; cases h
  |some G=>
   rw[ai] at h;simp only at h;cases R:G.guard with
   |some g=>rw[R] at h; cases h
   |none=>
    rw[R] at h;simp only at h;cases aJ:Lb P (execOp (ad n f) G) with
    |none=>rw[aJ] at h; cases h
    |some v=>
     rw[aJ] at h;simp only at h;exact eP (d:=G.dst) ai (.free R) rfl (aEU aJ w) (ael k h U)
theorem s9(k:Nat){m:List Nat}(U:cW P ops Q (m.drop k) (act n (g0 (H5 P n ops k m f)) aC) w)(h:(H5 P n ops k m f).isSome=true:=by kernel_rfl):cW P ops Q m (act n f aC) w:=by
 obtain⟨g,R⟩:=Option.isSome_iff_exists.1 h;rw[R] at U;exact ael k R U
def QX(ops:Array Oper)(i:Nat):Option (Operand×Nat):=match ops.toList[i]? with
 |some G=>match G.op,G.guard,G.dst with
  |.move x,none,some k=>some (x,k)
  |.assign x,none,some k=>some (x,k)
  |_,_,_=>none
 |none=>none
theorem aCD{i k:Nat}{x:Operand}(h:QX ops i=some (x,k)):∃ G:Oper,ops.toList[i]?=some G∧G.guard=none∧G.dst=some k∧(execOp (ad n f) G).run P w=.ok (.value (ad n f x)) w:=by
 unfold QX at h;cases ai:ops.toList[i]? with
 |none=>rw[ai] at h; cases h
 |some G=>
  rw[ai] at h;simp only at h;obtain⟨op,d,t,p,a,g⟩:=G;split at h
  ·rename_i S fQ aQ a6 c_;cases h;exact⟨_,rfl,a6,c_,cQ aQ rfl⟩
  ·rename_i S fQ aQ a6 c_;cases h;exact⟨_,rfl,a6,c_,Ci aQ rfl⟩
  ·cases h
theorem y{i k:Nat}{x:Operand}{rest:List Nat}(h:QX ops i=some (x,k))(U:cW P ops Q rest (act n (ae f k (ad n f x)) aC) w):cW P ops Q (i::rest) (act n f aC) w:=by
 obtain⟨G,I,O,aH,bg⟩:=aCD (P:=P) (n:=n) (f:=f) (w:=w) h;exact a2 k I O aH bg U
def Hs(ops:Array Oper)(i:Nat):Option (TypeId×Operand×Nat):=match ops.toList[i]? with
 |some G=>match G.op,G.guard,G.dst with
  |.load t x,none,some k=>some (t,x,k)
  |_,_,_=>none
 |none=>none
theorem hR{Z:Type}{T:bn Z}{aa:Z→Prop}{a:Addr}{t:TypeId}{s i k:Nat}{x:Operand}{rest:List Nat}(ok:cj P t T s)(h:ex (L T a w) aa)(aw:Hs ops i=some (t,x,k))(F:ad n f x=.pointer (some a))
  (U:∀ u,L T a w u→aa u→cW P ops Q rest (act n (ae f k (T.enc u)) aC) w):cW P ops Q (i::rest) (act n f aC) w:=by
 obtain⟨u,hu,b2⟩:=h;unfold Hs at aw;cases ai:ops.toList[i]? with
 |none=>rw[ai] at aw; cases aw
 |some G=>
  rw[ai] at aw;simp only at aw;split at aw
  ·rename_i S fQ tc aQ a6 c_;cases aw;exact a2 k ai a6 c_ (j9 aQ ok F hu) (U u hu b2)
  ·cases aw
def Q0(ops:Array Oper)(i:Nat):Option (Operand×Nat):=match ops.toList[i]? with
 |some G=>match G.op,G.guard,G.dst with
  |.nilCheck x,none,some k=>some (x,k)
  |_,_,_=>none
 |none=>none
theorem Ox{aa:Addr→Prop}{p:Option Addr}{i k:Nat}{x:Operand}{rest:List Nat}(h:ex (bC p) aa)(aw:Q0 ops i=some (x,k))(F:ad n f x=.pointer p)
  (U:∀ a,bC p a→aa a→cW P ops Q rest (act n (ae f k (.pointer (some a))) aC) w):cW P ops Q (i::rest) (act n f aC) w:=by
 obtain⟨a,Y,b2⟩:=h;unfold Q0 at aw;cases ai:ops.toList[i]? with
 |none=>rw[ai] at aw; cases aw
 |some G=>
  rw[ai] at aw;simp only at aw;split at aw
  ·rename_i S fQ aQ a6 c_;cases aw;exact a2 k ai a6 c_ (mb aQ (F.trans (congrArg Value.pointer Y))) (U a Y b2)
  ·cases aw
def N0(ops:Array Oper)(i:Nat):Option (TypeId×Nat):=match ops.toList[i]? with
 |some G=>match G.op,G.guard,G.dst with
  |.alloc t,none,some k=>some (t,k)
  |_,_,_=>none
 |none=>none
theorem oZ{Z:Type}{T:bn Z}{aa:Addr→World→Prop}{t:TypeId}{s i k az:Nat}{u:Z}{rest:List Nat}(ok:cj P t T s)(u5:∃ i,P.info? t=some i∧i.zero=some (T.enc u)∧i.size=s∧i.bytes=az)(h:bG t T u w aa)(aw:N0 ops i=some (t,k))
  (U:∀ a J,aa a J→cW P ops Q rest (act n (ae f k (.pointer (some a))) aC) J):cW P ops Q (i::rest) (act n f aC) w:=by
 obtain⟨a,J,Y,hw,b2⟩:=pR h;unfold N0 at aw;cases ai:ops.toList[i]? with
 |none=>rw[ai] at aw; cases aw
 |some G=>
  rw[ai] at aw;simp only at aw;split at aw
  ·rename_i tc fQ aQ a6 c_;cases aw;exact a2 k ai a6 c_ (HQ aQ ok u5 Y hw) (U a J b2)
  ·cases aw
def Sx(ops:Array Oper)(i:Nat):Option (TypeId×Operand×Operand):=match ops.toList[i]? with
 |some G=>match G.op,G.guard,G.dst with
  |.store t x S,none,none=>some (t,x,S)
  |_,_,_=>none
 |none=>none
theorem jN{Z:Type}{T:bn Z}{aa:World→Prop}{t:TypeId}{s i:Nat}{x S:Operand}{a:Addr}{u:Z}{rest:List Nat}(ok:cj P t T s)(h:ba T a u w aa)(aw:Sx ops i=some (t,x,S))(F:ad n f x=.pointer (some a))(aB:ad n f S=T.enc u)
  (U:∀ J,aa J→cW P ops Q rest (act n f aC) J):cW P ops Q (i::rest) (act n f aC) w:=by
 obtain⟨J,hw,ab,b2⟩:=sm h;unfold Sx at aw;cases ai:ops.toList[i]? with
 |none=>rw[ai] at aw; cases aw
 |some G=>
  rw[ai] at aw;simp only at aw;split at aw
  ·rename_i tc afO aLb aQ a6 c_;cases aw;exact aei (d:=none) ai (.free a6) c_ (se aQ ok F aB ab hw) (U J b2)
  ·cases aw
end
section
variable {P:Program} {Q:Exit→Act→World→Prop} {n:Nat} {f:Nat→Value} {aC:List Deferred} {w J:World} {ops:Array Oper} {i:Nat} {rest:List Nat} {x S:Operand} {listed:Array Bool} {ay:List (Nat×(World→Prop))} {y:Nat}
def nA(ops:Array Oper)(i:Nat):Option (Op×Option (Nat×Bool)×Option Nat):=(ops.toList[i]?).map fun G=>(G.op,G.guard,G.dst)
theorem s8{p:Op}{g:Option (Nat×Bool)}{d:Option Nat}(h:nA ops i=some (p,g,d)):∃ G:Oper,ops.toList[i]?=some G∧G.op=p∧G.guard=g∧G.dst=d:=by
 unfold nA at h;obtain⟨G,ai,he⟩:=Option.map_eq_some_iff.1 h;cases he;exact⟨G,ai,rfl,rfl,rfl⟩
theorem fo{G:Oper}{g:Bool}{v:Value}(e D d:Nat)(aw:ops.toList[i]?=some G)(I:G.guard=some (D,true))(O:(ops[D]?).bind (·.dst)=some d)(aH:ad n f (.tmp d)=jO true (.bool g))(ag:G.dst=some e)(aJ:g=true→(execOp (ad n f) G).run P w=.ok (.value v) w)(h:cW P ops Q rest (act n (gM f (some e) (jO g v)) aC) w):cW P ops Q (i::rest) (act n f aC) w:=H3 aw (.eI D d true g I O aH rfl) ag aJ h
theorem dY{G:Oper}{c:Bool}{v:Value}(e D d:Nat)(aw:ops.toList[i]?=some G)(I:G.guard=some (D,false))(O:(ops[D]?).bind (·.dst)=some d)(aH:ad n f (.tmp d)=jO true (.bool c))(ag:G.dst=some e)(aJ:(!c)=true→(execOp (ad n f) G).run P w=.ok (.value v) w)(h:cW P ops Q rest (act n (gM f (some e) (jO (!c) v)) aC) w):cW P ops Q (i::rest) (act n f aC) w:=H3 aw (.no D d true c I O aH rfl) ag aJ h
theorem xU{G:Oper}{a c:Bool}{v:Value}(e D d:Nat)(aw:ops.toList[i]?=some G)(I:G.guard=some (D,true))(O:(ops[D]?).bind (·.dst)=some d)(aH:ad n f (.tmp d)=jO a (.bool c))(ag:G.dst=some e)(aJ:(a&&c)=true→(execOp (ad n f) G).run P w=.ok (.value v) w)(h:cW P ops Q rest (act n (gM f (some e) (jO (a&&c) v)) aC) w):cW P ops Q (i::rest) (act n f aC) w:=H3 aw (.eI D d a c I O aH rfl) ag aJ h
theorem aJW{G:Oper}{a c:Bool}{v:Value}(e D d:Nat)(aw:ops.toList[i]?=some G)(I:G.guard=some (D,false))(O:(ops[D]?).bind (·.dst)=some d)(aH:ad n f (.tmp d)=jO a (.bool c))(ag:G.dst=some e)(aJ:(a&&(!c))=true→(execOp (ad n f) G).run P w=.ok (.value v) w)(h:cW P ops Q rest (act n (gM f (some e) (jO (a&&(!c)) v)) aC) w):cW P ops Q (i::rest) (act n f aC) w:=H3 aw (.no D d a c I O aH rfl) ag aJ h
theorem aLu(k:Nat)(v:Value)(I:nA ops i=some (.move x,none,some k))(O:ad n f x=v)(h:cW P ops Q rest (act n (ae f k v) aC) w):cW P ops Q (i::rest) (act n f aC) w:=by
 obtain⟨G,ai,aF,R,ag⟩:=s8 I;exact a2 k ai R ag (cQ aF O) h
theorem aLs(k:Nat)(v:Value)(I:nA ops i=some (.assign x,none,some k))(O:ad n f x=v)(h:cW P ops Q rest (act n (ae f k v) aC) w):cW P ops Q (i::rest) (act n f aC) w:=by
 obtain⟨G,ai,aF,R,ag⟩:=s8 I;exact a2 k ai R ag (Ci aF O) h
theorem ho{t:TypeId}{ik:Array Field}{D hl:Nat}{Z:Type}{T:bn Z}(k:Nat)(a:Addr)(off:Nat)(aR:P.underlying t=some (.struct ik))(ok:cj P hl T (y+1))(I:nA ops i=some (.fieldAddr t x D,none,some k))
  (am:(ik[D]?).map (fun g=>(g.offset,g.type))=some (off,hl)) (F:ad n f x=.pointer (some a)) (h:cW P ops Q rest (act n (ae f k (.pointer (some (a.add off)))) aC) w):cW P ops Q (i::rest) (act n f aC) w:=by
 obtain⟨G,ai,aF,R,ag⟩:=s8 I;obtain⟨g,Pu,he⟩:=Option.map_eq_some_iff.1 am;cases he;exact a2 k ai R ag (lU aF aR Pu rfl ok (by omega) F) h
theorem aLt{t:TypeId}{Z:Type}{T:bn Z}{a:Addr}{u:Z}(k:Nat)(ab:L T a w u)(ok:cj P t T y)(I:nA ops i=some (.load t x,none,some k))(F:ad n f x=.pointer (some a))(h:cW P ops Q rest (act n (ae f k (T.enc u)) aC) w):cW P ops Q (i::rest) (act n f aC) w:=by
 obtain⟨G,ai,aF,R,ag⟩:=s8 I;exact a2 k ai R ag (j9 aF ok F ab) h
theorem Iy{p:Option Addr}{a:Addr}(k:Nat)(Y:bC p a)(I:nA ops i=some (.nilCheck x,none,some k))(F:ad n f x=.pointer p)(h:cW P ops Q rest (act n (ae f k (.pointer (some a))) aC) w):cW P ops Q (i::rest) (act n f aC) w:=by
 obtain⟨G,ai,aF,R,ag⟩:=s8 I;exact a2 k ai R ag (mb aF (F.trans (congrArg Value.pointer Y))) h
theorem gT{aW:Array Value}{D:Nat}(k:Nat)(v:Value)(I:nA ops i=some (.extract x D,none,some k))(F:ad n f x=.tuple aW)(aJ:aW[D]?=some v)(h:cW P ops Q rest (act n (ae f k v) aC) w):cW P ops Q (i::rest) (act n f aC) w:=by
 obtain⟨G,ai,aF,R,ag⟩:=s8 I;exact a2 k ai R ag (wY aF F aJ) h
theorem ft{Z:Type}{T:bn Z}{k:FuncId}{lc:List Operand}{nI:Array TypeId}{m:List Value}{d:Option Nat}{aa:Z→World→Prop}(he:dr P k)(I:nA ops i=some (.call { callee:=.value (.func k),args:=lc.toArray,argTypes:=nI },none,d))
  (Y:lc.map (ad n f)=m) (h:M P k m T w aa) (aq:∀ r J,aa r J→cW P ops Q rest (act n (gM f d (T.enc r)) aC) J):cW P ops Q (i::rest) (act n f aC) w:=by
 obtain⟨G,ai,aF,R,ag⟩:=s8 I;exact en ai (.free R) (gR ag (fR aF he Y) h aq)
theorem fB{c:Operand}{p q:Code}{l:Bool}{b6 lC:Prop}(h:if l=true then b6 else lC)(U:ad n f c=.bool l)(F:l=true→b6→p.wp P Q (act n f aC) w)(aB:l=false→lC→q.wp P Q (act n f aC) w):(Code.cond c p q).wp P Q (act n f aC) w:=L6 U h F aB
theorem lZ{Z:Type}{T:bn Z}{aa:Z→World→Prop}{r:Z}{fn:Func}{t:Nat}(h:aa r w)(ab:fn.results=[ResultVar.tmp t].toArray)(he:ad n f (.tmp t)=T.enc r):bodyPost P fn (AY T aa) .ret (act n f []) w:=
 n4 ab (.cons (.tmp rfl) .nil) ⟨r,he,h⟩
theorem Tt{Z:Type}{T:bn Z}{aa:Z→World→Prop}{r:Z}{fn:Func}{t u:Nat}(h:aa r w)(ab:fn.results=[ResultVar.tmp t,.tmp u].toArray)(he:Value.tuple #[ad n f (.tmp t),ad n f (.tmp u)]=T.enc r):bodyPost P fn (AY T aa) .ret (act n f []) w:=
 n4 ab (.cons (.tmp rfl) (.cons (.tmp rfl) .nil)) ⟨r,he,h⟩
theorem Iz{Z:Type}{T:bn Z}{aa:Z→World→Prop}{r:Z}{fn:Func}{t u v:Nat}(h:aa r w)(ab:fn.results=[ResultVar.tmp t,.tmp u,.tmp v].toArray)(he:Value.tuple #[ad n f (.tmp t),ad n f (.tmp u),ad n f (.tmp v)]=T.enc r):bodyPost P fn (AY T aa) .ret (act n f []) w:=
 n4 ab (.cons (.tmp rfl) (.cons (.tmp rfl) (.cons (.tmp rfl) .nil))) ⟨r,he,h⟩
theorem gf(i k:Nat)(v:Value)(ak:lv ops Q)(I:nA ops i=some (.move x,none,some k))(O:ad n f x=v)(h:g_ P ops Q ay y (listed.setIfInBounds i true) (act n (ae f k v) aC) w)
  (am:Region.free .any ops listed i=true:=by kernel_rfl) (ab:(Region.ready .any ops listed).contains i=true:=by kernel_rfl):g_ P ops Q ay (y+1) listed (act n f aC) w:=by
 obtain⟨G,ai,aF,R,ag⟩:=s8 I;exact fc i k ak ai R ag (fun _=>cQ aF O) h am ab
theorem E5(i k:Nat)(v:Value)(ak:lv ops Q)(I:nA ops i=some (.assign x,none,some k))(O:ad n f x=v)(h:g_ P ops Q ay y (listed.setIfInBounds i true) (act n (ae f k v) aC) w)
  (am:Region.free .any ops listed i=true:=by kernel_rfl) (ab:(Region.ready .any ops listed).contains i=true:=by kernel_rfl):g_ P ops Q ay (y+1) listed (act n f aC) w:=by
 obtain⟨G,ai,aF,R,ag⟩:=s8 I;exact fc i k ak ai R ag (fun _=>Ci aF O) h am ab
theorem hn{t:TypeId}{ik:Array Field}{D hl yD:Nat}{Z:Type}{T:bn Z}(i k:Nat)(a:Addr)(off:Nat)(aR:P.underlying t=some (.struct ik))(ok:cj P hl T (yD+1))(ak:lv ops Q)(I:nA ops i=some (.fieldAddr t x D,none,some k))
  (u1:(ik[D]?).map (fun g=>(g.offset,g.type))=some (off,hl)) (F:ad n f x=.pointer (some a)) (h:g_ P ops Q ay y (listed.setIfInBounds i true) (act n (ae f k (.pointer (some (a.add off)))) aC) w)
  (am:Region.free .any ops listed i=true:=by kernel_rfl) (ab:(Region.ready .any ops listed).contains i=true:=by kernel_rfl):g_ P ops Q ay (y+1) listed (act n f aC) w:=by
 obtain⟨G,ai,aF,R,ag⟩:=s8 I;obtain⟨g,Pu,he⟩:=Option.map_eq_some_iff.1 u1;cases he;exact fc i k ak ai R ag (fun _=>lU aF aR Pu rfl ok (by omega) F) h am ab
theorem od{p:Option Addr}{a:Addr}(i k:Nat)(Y:bC p a)(ak:lv ops Q)(I:nA ops i=some (.nilCheck x,none,some k))(F:ad n f x=.pointer p)(h:g_ P ops Q ay y (listed.setIfInBounds i true) (act n (ae f k (.pointer (some a))) aC) w)
  (am:Region.free .any ops listed i=true:=by kernel_rfl) (ab:(Region.ready .any ops listed).contains i=true:=by kernel_rfl):g_ P ops Q ay (y+1) listed (act n f aC) w:=by
 obtain⟨G,ai,aF,R,ag⟩:=s8 I;exact fc i k ak ai R ag (fun _=>mb aF (F.trans (congrArg Value.pointer Y))) h am ab
theorem h7{t:TypeId}{Z:Type}{T:bn Z}{a:Addr}{u:Z}{yD:Nat}(i k:Nat)(eX:L T a w u)(ok:cj P t T yD)(ak:lv ops Q)(I:nA ops i=some (.load t x,none,some k))(F:ad n f x=.pointer (some a))
  (h:g_ P ops Q ((i,fun A=>L T a A u)::ay) y (listed.setIfInBounds i true) (act n (ae f k (T.enc u)) aC) w)
  (am:Region.free .any ops listed i=true:=by kernel_rfl) (ab:(Region.ready .any ops listed).contains i=true:=by kernel_rfl):g_ P ops Q ay (y+1) listed (act n f aC) w:=by
 obtain⟨G,ai,aF,R,ag⟩:=s8 I;exact tb (i:=i) (d:=some k) (fun A=>L T a A u) ak am ab ai (.free R) ag (fun A ab=>j9 aF ok F ab) eX h
theorem dM{G:Oper}(i k:Nat)(ak:lv ops Q)(aw:ops.toList[i]?=some G)(R:CQ n ops f G)(ag:G.dst=some k)(h:g_ P ops Q ay y (listed.setIfInBounds i true) (act n (ae f k undef) aC) w)
  (am:Region.free .any ops listed i=true:=by kernel_rfl) (ab:(Region.ready .any ops listed).contains i=true:=by kernel_rfl):g_ P ops Q ay (y+1) listed (act n f aC) w:=
 Sd (i:=i) (d:=some k) ak am ab aw R ag h
end
def ag:Code→Nat
 |.region id _ _=>id+1
 |.seq a l=>match ag a with
  |0=>ag l
  |k=>k
 |.cond _ a l=>match ag a with
  |0=>ag l
  |k=>k
 |.block _ c=>ag c
 |.loop c=>ag c
 |.scope c=>ag c
 |_=>0
class b1(P:Program)(t:TypeId){Z:outParam Type}(T:outParam (bn Z))(n:outParam Nat):Prop where
 out:cj P t T n
class eC(P:Program)(t:TypeId)(z:outParam Value)(s l:outParam Nat):Prop where
 out:∃ i,P.info? t=some i∧i.zero=some z∧i.size=s∧i.bytes=l
class a9(P:Program)(t:TypeId)(d:outParam TypeDesc):Prop where
 out:P.underlying t=some d
class NI(P:Program)(t:TypeId)(D:Nat)(off:outParam Nat):Prop where
 out:∃ (ik:Array Field) (hl y:Nat) (Z:Type) (T:bn Z),P.underlying t=some (.struct ik)∧(ik[D]?).map (fun g=>(g.offset,g.type))=some (off,hl)∧cj P hl T (y+1)
theorem cq{P:Program}{t:TypeId}{ik:Array Field}{hl y:Nat}{Z:Type}{T:bn Z}(D off:Nat)(aR:P.underlying t=some (.struct ik))(ok:cj P hl T y)(hm:y=y-1+1:=by rfl)(am:(ik[D]?).map (fun g=>(g.offset,g.type))=some (off,hl):=by rfl):NI P t D off:=
 ⟨ik,hl,y-1,Z,T,aR,am,hm▸ok⟩
theorem RU{P:Program}{n:Nat}{f:Nat→Value}{G:Oper}{w:World}{t:TypeId}{x:Operand}{a:Addr}{D off:Nat}(ai:G.op=.fieldAddr t x D)[am:NI P t D off](F:ad n f x=.pointer (some a)):(execOp (ad n f) G).run P w=.ok (.value (.pointer (some (a.add off)))) w:=by
 obtain⟨ik,hl,y,Z,T,I,O,aH⟩:=am.out;obtain⟨g,R,he⟩:=Option.map_eq_some_iff.1 O;cases he;exact lU ai I R rfl aH (by omega) F
class IV(P:Program)(k:FuncId):Prop where
 out:dr P k
theorem xS{n:Nat}{f:Nat→Value}{ops:Array Oper}{G:Oper}{D d:Nat}{c:Bool}(R:G.guard=some (D,true))(bI:(ops[D]?).bind (·.dst)=some d)(aJ:ad n f (.tmp d)=.bool c):to n ops f G c:=.eI D d true c R bI aJ (by simp)
theorem xR{n:Nat}{f:Nat→Value}{ops:Array Oper}{G:Oper}{D d:Nat}{c:Bool}(R:G.guard=some (D,false))(bI:(ops[D]?).bind (·.dst)=some d)(aJ:ad n f (.tmp d)=.bool c):to n ops f G (!c):=.no D d true c R bI aJ (by simp)
theorem xT{n:Nat}{f:Nat→Value}{ops:Array Oper}{G:Oper}{D d:Nat}{g c:Bool}(R:G.guard=some (D,true))(bI:(ops[D]?).bind (·.dst)=some d)(aJ:ad n f (.tmp d)=jO g (.bool c)):to n ops f G (g&&c):=.eI D d g c R bI aJ rfl
theorem xQ{n:Nat}{f:Nat→Value}{ops:Array Oper}{G:Oper}{D d:Nat}{g c:Bool}(R:G.guard=some (D,false))(bI:(ops[D]?).bind (·.dst)=some d)(aJ:ad n f (.tmp d)=jO g (.bool c)):to n ops f G (g&&!c):=.no D d g c R bI aJ rfl
theorem bl{P:Program}{k:FuncId}{fn:Func}(h:P.funcs[k]?=some fn)(ao:fn.body.isSome=true:=by rfl) (aK:(fn.name=="runtime.NumGoroutine")=false:=by decide):IV P k:=⟨⟨fn,h,ao,aK⟩⟩
theorem hV{P:Program}{t:TypeId}{Z:Type}{T:bn Z}{z:Value}{l:Nat}{d:TypeDesc}(aw:∃ i,P.info? t=some i∧i.zero=some z∧i.size=1∧i.bytes=l)(hu:P.underlying t=some d)(ag:wb d=false:=by rfl)(U:∀ x,T.cells x=[T.enc x]:=by intro _; rfl)
  (am:∀ x,(T.enc x).cells=(T.cells x).toArray:=by intro _; rfl) (ai:∀ x,(T.enc x).oneCell'=true:=by intro _; rfl):cj P t T 1:=
 ⟨aw.imp fun _ h=>⟨h.1,h.2.2.1⟩,fun x=>by rw[U x]; rfl,.inr ⟨_,hu,ag,rfl,U⟩,am,fun x v aJ=>by rw[U x] at aJ; obtain rfl:=List.mem_singleton.1 aJ; exact ai x⟩
theorem iF{P:Program}{t:TypeId}{Z:Type}{c:Z→List Value}{z:Value}{n l:Nat}{d:TypeDesc}(aw:∃ i,P.info? t=some i∧i.zero=some z∧i.size=n∧i.bytes=l)(hu:P.underlying t=some d)(al:∀ x,(c x).length=n)(ai:∀ x,∀ v∈c x,v.oneCell'=true)(ag:wb d=true:=by rfl):cj P t (hZ c) n:=
 ⟨aw.imp fun _ h=>⟨h.1,h.2.2.1⟩,al,.inl ⟨_,hu,ag,fun _=>rfl⟩,fun _=>rfl,ai⟩
abbrev dA(P:Program)(t:TypeId)(z:Value)(s l:Nat):Prop:=∃ i,P.info? t=some i∧i.zero=some z∧i.size=s∧i.bytes=l
abbrev aL:=Option Addr
def ae6:Op→Nat
 |.move _=>0
 |.assign _=>0
 |.nilCheck _=>1
 |.fieldAddr _ _ _=>2
 |.load _ _=>3
 |.store _ _ _=>4
 |.call c=>match c.callee with
  |.value (.func _)=>5
  |.value _=>6
  |_=>7
 |.binOp _ _ _ _ _=>9
 |.unOp _ _ _=>9
 |.extract _ _=>10
 |.pick _ _ _=>11
 |.build _ _=>12
 |.alloc _=>13
 |.convert _ _ _=>14
 |.field _ _ _=>15
 |.indexAddr _ _ _=>16
 |.index _ _ _=>16
 |.slice _ _ _ _ _=>17
 |.lookup _ _ _ _=>18
 |.makeFunc _ _ _=>19
 |.makeInterface _ _=>19
 |.typeAssert _ _ _ _=>19
 |.entry _=>19
 |_=>20
structure nf(p:Prop):Prop where
 it:p
section
variable {P:Program} {Q:Exit→Act→World→Prop} {n:Nat} {f:Nat→Value} {aC:List Deferred} {w J:World} {ops:Array Oper} {c:Code}
def Hi:BinOp→IntKind→Int→Int→Option Value
 |.eql,_,a,l=>some (.bool (a==l))
 |.neq,_,a,l=>some (.bool (a != l))
 |.lss,_,a,l=>some (.bool (decide (a<l)))
 |.leq,_,a,l=>some (.bool (decide (a≤l)))
 |.gtr,_,a,l=>some (.bool (decide (a>l)))
 |.geq,_,a,l=>some (.bool (decide (a≥l)))
 |.add,k,a,l=>some (.int k (k.wrap (a+l)))
 |.sub,k,a,l=>some (.int k (k.wrap (a-l)))
 |.mul,k,a,l=>some (.int k (k.wrap (a*l)))
 |_,_,_,_=>none
theorem aAF{op:BinOp}{k:IntKind}{a l:Int}{v:Value}{t u:TypeId}{G:Oper}{x S:Operand}(h:Hi op k a l=some v)(ai:G.op=.binOp op t x S u)(F:ad n f x=.int k a)(aB:ad n f S=.int k l):(execOp (ad n f) G).run P w=.ok (.value v) w:=by
 cases op<;>first
  |(cases h; done)
  |(cases h; first
    |exact iH ai F aB
    |exact hc ai F aB
    |exact ma ai F aB
    |exact Ld ai F aB
    |exact vw ai F aB
    |exact HS ai F aB
    |exact pf ai F aB
    |exact yW ai F aB
    |exact RW ai F aB)
def fi(n:Nat)(f:Nat→Value):Op→Option Value
 |.move x=>some (ad n f x)
 |.assign x=>some (ad n f x)
 |.binOp op _ x S _=>match ad n f x,ad n f S with
  |.int k a,.int D l=>bif k==D then Hi op k a l else none
  |_,_=>none
 |.unOp .not _ x=>match ad n f x with
  |.bool l=>some (.bool (!l))
  |_=>none
 |.extract x i=>match ad n f x with
  |.tuple aW=>aW[i]?
  |_=>none
 |_=>none
theorem aEW{G:Oper}{op:Op}{v:Value}(ai:G.op=op)(h:fi n f op=some v):(execOp (ad n f) G).run P w=.ok (.value v) w:=by
 unfold fi at h;split at h
 ·cases h; exact cQ ai rfl
 ·cases h; exact Ci ai rfl
 ·rename_i aKQ t x S u;split at h
  ·rename_i k a D l aQ a6;cases aq:(k==D) with
   |false=>rw[aq] at h; cases h
   |true=>
    rw[aq] at h;have e:k=D:=by simpa using aq
    subst e;exact aAF h ai aQ a6
  ·cases h
 ·split at h
  ·rename_i e; cases h; exact ru ai e
  ·cases h
 ·split at h
  ·rename_i e; exact wY ai e h
  ·cases h
 ·cases h
def acQ(ops:Array Oper)(i n:Nat)(f:Nat→Value):Option (Value×Nat):=match ops.toList[i]? with
 |some G=>match G.guard,G.dst with
  |none,some k=>(fi n f G.op).map fun v=>(v,k)
  |_,_=>none
 |none=>none
theorem aHO{i k:Nat}{v:Value}{rest:List Nat}(h:acQ ops i n f=some (v,k))(U:cW P ops Q rest (act n (ae f k v) aC) w):cW P ops Q (i::rest) (act n f aC) w:=by
 unfold acQ at h;cases ai:ops.toList[i]? with
 |none=>rw[ai] at h; cases h
 |some G=>
  rw[ai] at h;simp only at h;split at h
  ·rename_i fQ aQ a6;obtain⟨aKV,aJ,he⟩:=Option.map_eq_some_iff.1 h;cases he;exact a2 k ai aQ a6 (aEW rfl aJ) U
  ·cases h
theorem bj{D:FuncId}{fn:Func}{m:List Value}{j:Ending→World→Prop}(n:Nat)(am:P.funcs[D]?=some fn)(aK:fn.ntmps=n)(ao:fn.body=some c)(h:c.wp P (bodyPost P fn j) (act n (start m) []) w)(al:Nat.ble m.length n=true:=by rfl):Calls P D m.toArray w j:=
 q0 n am aK ao (Nat.le_of_ble_eq_true al) h
theorem ar6(h:c.wp P Q (act n f aC) w):c.wp P Q (act n f aC) w:=h
theorem aAD{m:List Nat}(h:cW P ops Q m (act n f aC) w):cW P ops Q m (act n f aC) w:=h
theorem hk{G:Oper}{v:Value}(k:Nat)(e:ae6 G.op=k)(h:(execOp (ad n f) G).run P w=.ok (.value v) J):(execOp (ad n f) G).run P w=.ok (.value v) J:=h
theorem wg{x S:Code}(e:c=.seq x S)(h:x.wp P (Exit.then (S.wp P Q) Q) (act n f aC) w):c.wp P Q (act n f aC) w:=by
 subst e; exact wp_seq h
theorem akS{id:Nat}{m:List Nat}(e:c=.region id ops false)(al:List.range ops.size=m)(h:cW P ops Q m (act n f aC) w):c.wp P Q (act n f aC) w:=by
 subst e; exact bq m al h
theorem akN{G:Operand}{x S:Code}{l:Bool}{b6 lC:Prop}(e:c=.cond G x S)(h:if l=true then b6 else lC)(U:ad n f G=.bool l)(F:l=true→b6→x.wp P Q (act n f aC) w)(aB:l=false→lC→S.wp P Q (act n f aC) w):c.wp P Q (act n f aC) w:=by
 subst e; exact L6 U h F aB
theorem akQ{G:Operand}{x S:Code}(e:c=.cond G x S)(U:ad n f G=.bool false)(h:S.wp P Q (act n f aC) w):c.wp P Q (act n f aC) w:=by
 subst e; exact aIT U h
theorem akT{G:Operand}{x S:Code}(e:c=.cond G x S)(U:ad n f G=.bool true)(h:x.wp P Q (act n f aC) w):c.wp P Q (act n f aC) w:=by
 subst e; exact aIU U h
theorem akO(e:c=.skip)(h:Q .normal (act n f aC) w):c.wp P Q (act n f aC) w:=by
 subst e; exact wp_skip h
theorem akP{m:Nat}(e:c=.label m)(h:Q .normal (act n f aC) w):c.wp P Q (act n f aC) w:=by
 subst e; exact wp_label h
theorem akM{m:Nat}(e:c=.exit m)(h:Q (.exit m) (act n f aC) w):c.wp P Q (act n f aC) w:=by
 subst e; exact wp_exit h
theorem Gh(e:c=.ret)(h:Q .ret (act n f aC) w):c.wp P Q (act n f aC) w:=by
 subst e; exact wp_ret h
theorem akL{id:Nat}{x:Code}(e:c=.block id x)(h:x.wp P (Exit.inBlock id Q) (act n f aC) w):c.wp P Q (act n f aC) w:=by
 subst e; exact wp_block h
theorem akR{x:Code}(e:c=.scope x)(h:x.wp P (Exit.noGoto Q) (act n f aC) w):c.wp P Q (act n f aC) w:=by
 subst e; exact wp_scope_straight h
theorem hs{bp:Type}(k:Nat)(eV:bp→World→Prop)(dp:(Nat→Value)→bp→Nat→Value):∀ ⦃P:Program⦄ ⦃Q:Exit→Act→World→Prop⦄ ⦃n:Nat⦄ ⦃f:Nat→Value⦄ ⦃aC:List Deferred⦄ ⦃w:World⦄ ⦃c x S:Code⦄,c=.seq x S→ag S=k →
  x.wp P (Exit.then (fun a w=>∃ s g,a=act n (dp g s) aC∧eV s w) Q) (act n f aC) w→(∀ s g w,eV s w→S.wp P Q (act n (dp g s) aC) w)→c.wp P Q (act n f aC) w:=by
 intro P Q n f aC w c x S e _ F bI;subst e; exact Ar bI F
theorem hb{bp:Type}(k:Nat)(body:bp→World→(bp→World→Prop)→Prop)(dp:(Nat→Value)→bp→Nat→Value):∀ ⦃P:Program⦄ ⦃Q:Exit→Act→World→Prop⦄ ⦃n:Nat⦄ ⦃f:Nat→Value⦄ ⦃aC:List Deferred⦄ ⦃w:World⦄ ⦃c x:Code⦄ ⦃mi:bp⦄,c=.loop x→ag x=k→eZ body mi w→dp f mi=f →
  (∀ (s:bp) (g:Nat→Value) (w:World) (aa:bp→World→Prop),body s w aa→x.wp P (Exit.then (fun cb J=>∃ fy cy,cb=act n (dp cy fy) aC∧aa fy J) Q) (act n (dp g s) aC) w)→c.wp P Q (act n f aC) w:=by
 intro P Q n f aC w c x mi e _ h am ao;subst e; exact s0 am h ao
theorem pN{bp:Type}(cI cL:List Nat)(eV:bp→World→Prop)(dp:(Nat→Value)→bp→Nat→Value):∀ ⦃P:Program⦄ ⦃Q:Exit→Act→World→Prop⦄ ⦃n:Nat⦄ ⦃f:Nat→Value⦄ ⦃aC:List Deferred⦄ ⦃w:World⦄ ⦃ops:Array Oper⦄ ⦃m:List Nat⦄,m=cI++cL →
  cW P ops (Exit.then (fun a w=>∃ s g,a=act n (dp g s) aC∧eV s w) Q) cI (act n f aC) w→(∀ s g w,eV s w→cW P ops Q cL (act n (dp g s) aC) w)→cW P ops Q m (act n f aC) w:=by
 intro P Q n f aC w ops m e F bI;subst e; exact n8 cI cL bI F
section
variable {bp:Type}
theorem akj{eV:Unit→Prop}{dp:(Nat→Value)→Unit→Nat→Value}(h:eV ())(am:dp f ()=f):∃ s g,act n f aC=act n (dp g s) aC∧eV s:=⟨(),f,arr am,h⟩
theorem akk{eV:bp→Prop}{dp:(Nat→Value)→bp→Nat→Value}{a:bp}(h:eV a)(am:dp f a=f):∃ s g,act n f aC=act n (dp g s) aC∧eV s:=⟨a,f,arr am,h⟩
end
theorem akl{aN aS:Type}{eV:aN×aS→Prop}{dp:(Nat→Value)→aN×aS→Nat→Value}{a:aN}{l:aS}(h:eV (a,l))(am:dp f (a,l)=f):∃ s g,act n f aC=act n (dp g s) aC∧eV s:=⟨_,f,arr am,h⟩
theorem akm{aN aS C:Type}{eV:aN×aS×C→Prop}{dp:(Nat→Value)→aN×aS×C→Nat→Value}{a:aN}{l:aS}{c:C}(h:eV (a,l,c))(am:dp f (a,l,c)=f):∃ s g,act n f aC=act n (dp g s) aC∧eV s:=⟨_,f,arr am,h⟩
theorem akn{aN aS C K:Type}{eV:aN×aS×C×K→Prop}{dp:(Nat→Value)→aN×aS×C×K→Nat→Value}{a:aN}{l:aS}{c:C}{d:K}(h:eV (a,l,c,d))(am:dp f (a,l,c,d)=f):∃ s g,act n f aC=act n (dp g s) aC∧eV s:=⟨_,f,arr am,h⟩
theorem ako{aN aS C K qN:Type}{eV:aN×aS×C×K×qN→Prop}{dp:(Nat→Value)→aN×aS×C×K×qN→Nat→Value}{a:aN}{l:aS}{c:C}{d:K}{e:qN}(h:eV (a,l,c,d,e))(am:dp f (a,l,c,d,e)=f):∃ s g,act n f aC=act n (dp g s) aC∧eV s:=⟨_,f,arr am,h⟩
theorem akp{aN aS C K qN aT:Type}{eV:aN×aS×C×K×qN×aT→Prop}{dp:(Nat→Value)→aN×aS×C×K×qN×aT→Nat→Value}{a:aN}{l:aS}{c:C}{d:K}{e:qN}{u:aT}(h:eV (a,l,c,d,e,u))(am:dp f (a,l,c,d,e,u)=f):∃ s g,act n f aC=act n (dp g s) aC∧eV s:=⟨_,f,arr am,h⟩
theorem aGt{fn:Func}{aa:Unit→World→Prop}(h:aa () w)(ab:fn.results=#[]):bodyPost P fn (AY dU aa) .ret (act n f []) w:=n4 (an:=[]) ab .nil ⟨(),rfl,h⟩
theorem amz{fn:Func}{aa:Unit→World→Prop}(h:aa () w)(ab:fn.results=#[]):bodyPost P fn (AY dU aa) .normal (act n f []) w:=Yz (an:=[]) ab .nil ⟨(),rfl,h⟩
theorem aGu{Z:Type}{T:bn Z}{aa:Z→World→Prop}{r:Z}{fn:Func}{t u v x:Nat}(h:aa r w)(ab:fn.results=[ResultVar.tmp t,.tmp u,.tmp v,.tmp x].toArray)(he:Value.tuple #[ad n f (.tmp t),ad n f (.tmp u),ad n f (.tmp v),ad n f (.tmp x)]=T.enc r):bodyPost P fn (AY T aa) .ret (act n f []) w:=
 n4 ab (.cons (.tmp rfl) (.cons (.tmp rfl) (.cons (.tmp rfl) (.cons (.tmp rfl) .nil)))) ⟨r,he,h⟩
section
variable {i k:Nat} {m rest:List Nat} {G:Oper} {ay:Prop}
theorem DJ{Z:Type}{C aa:Z→Prop}(h:ex C aa)(U:∀ x,C x→aa x→ay):ay:=by
 obtain⟨x,I,O⟩:=h;exact U x I O
theorem DK{Z:Type}{C aa:Z→Prop}(h:ex C aa)(U:∀ x,C x→aa x→cW P ops Q m (act n f aC) w):cW P ops Q m (act n f aC) w:=DJ h U
theorem anK{Z:Type}{T:bn Z}{aa:Z→Prop}{a:Addr}{t:TypeId}{s:Nat}{x:Operand}(aw:Hs ops i=some (t,x,k))(ok:cj P t T s)(h:ex (L T a w) aa)(F:ad n f x=.pointer (some a))
  (U:∀ u,L T a w u→aa u→cW P ops Q rest (act n (ae f k (T.enc u)) aC) w):cW P ops Q (i::rest) (act n f aC) w:=hR ok h aw F U
theorem anL{aa:Addr→Prop}{p:Option Addr}{x:Operand}(aw:Q0 ops i=some (x,k))(h:ex (bC p) aa)(F:ad n f x=.pointer p)
  (U:∀ a,bC p a→aa a→cW P ops Q rest (act n (ae f k (.pointer (some a))) aC) w):cW P ops Q (i::rest) (act n f aC) w:=Ox h aw F U
theorem anI{Z:Type}{T:bn Z}{aa:Addr→World→Prop}{t:TypeId}{s az:Nat}{u:Z}(aw:N0 ops i=some (t,k))(ok:cj P t T s)(u5:∃ i,P.info? t=some i∧i.zero=some (T.enc u)∧i.size=s∧i.bytes=az)(h:bG t T u w aa)
  (U:∀ a J,aa a J→cW P ops Q rest (act n (ae f k (.pointer (some a))) aC) J):cW P ops Q (i::rest) (act n f aC) w:=oZ ok u5 h aw U
theorem anM{Z:Type}{T:bn Z}{aa:World→Prop}{t:TypeId}{s:Nat}{x S:Operand}{a:Addr}{u:Z}(aw:Sx ops i=some (t,x,S))(ok:cj P t T s)(h:ba T a u w aa)(F:ad n f x=.pointer (some a))(aB:ad n f S=T.enc u)
  (U:∀ J,aa J→cW P ops Q rest (act n f aC) J):cW P ops Q (i::rest) (act n f aC) w:=jN ok h aw F aB U
theorem anJ{Z:Type}{T:bn Z}{D:FuncId}{lc:List Operand}{nI:Array TypeId}{m:List Value}{d:Option Nat}{aa:Z→World→Prop}(I:nA ops i=some (.call { callee:=.value (.func D),args:=lc.toArray,argTypes:=nI },none,d))(he:dr P D)(h:M P D m T w aa)
  (Y:lc.map (ad n f)=m) (aq:∀ r J,aa r J→cW P ops Q rest (act n (gM f d (T.enc r)) aC) J):cW P ops Q (i::rest) (act n f aC) w:=ft he I Y h aq
theorem aHN(e:m=[])(h:Q .normal (act n f aC) w):cW P ops Q m (act n f aC) w:=by
 subst e; exact bc h
theorem aeX{v:Value}(aw:ops.toList[i]?=some G)(R:G.guard=none)(ag:G.dst=some k)(aJ:(execOp (ad n f) G).run P w=.ok (.value v) w)
  (h:cW P ops Q rest (act n (ae f k v) aC) w):cW P ops Q (i::rest) (act n f aC) w:=a2 k aw R ag aJ h
theorem Aw{v:Value}{g:Bool}(aw:ops.toList[i]?=some G)(R:to n ops f G g)(ag:G.dst=some k)(aJ:g=true→(execOp (ad n f) G).run P w=.ok (.value v) w)
  (h:cW P ops Q rest (act n (ae f k (jO g v)) aC) w):cW P ops Q (i::rest) (act n f aC) w:=H3 (d:=some k) aw R ag aJ h
theorem vE{v:Value}(aw:ops.toList[i]?=some G)(al:uA n ops f G)(ag:G.dst=some k)(aJ:(execOp (ad n f) G).run P w=.ok (.value v) J)
  (h:cW P ops Q rest (act n (ae f k v) aC) J):cW P ops Q (i::rest) (act n f aC) w:=eP (d:=some k) aw al ag aJ h
theorem pV{l:Bool}{b6 lC:Prop}(h:if l=true then b6 else lC)(F:nf (l=true)→b6→cW P ops Q m (act n f aC) w)(aB:nf (l=false)→lC→cW P ops Q m (act n f aC) w):cW P ops Q m (act n f aC) w:=
 jb h (fun e=>F ⟨e⟩) fun e=>aB ⟨e⟩
def Zn(ops:Array Oper)(i:Nat):Nat:=match ops.toList[i]? with
 |some G=>match G.guard with
  |none=>0
  |some (_,true)=>1
  |some (_,false)=>2
 |none=>3
def SK(ops:Array Oper)(i:Nat):Nat:=match ops.toList[i]? with
 |some G=>ae6 G.op
 |none=>99
theorem Qm(k:Nat)(e:Zn ops i=k)(h:cW P ops Q (i::rest) (act n f aC) w):cW P ops Q (i::rest) (act n f aC) w:=h
theorem pL(k:Nat)(e:SK ops i=k)(h:cW P ops Q (i::rest) (act n f aC) w):cW P ops Q (i::rest) (act n f aC) w:=h
theorem aFV{D d:Nat}{c tD:Bool}{b6 lC:Prop}(aw:ops.toList[i]?=some G)(R:G.guard=some (D,tD))(bI:(ops[D]?).bind (·.dst)=some d)(aJ:ad n f (.tmp d)=.bool c)(h:if c=true then b6 else lC)
  (F:nf (c=true)→b6→cW P ops Q (i::rest) (act n f aC) w) (aB:nf (c=false)→lC→cW P ops Q (i::rest) (act n f aC) w):cW P ops Q (i::rest) (act n f aC) w:=
 jb h (fun e=>F ⟨e⟩) fun e=>aB ⟨e⟩
theorem aJq{t:TypeId}{D off:Nat}{x:Operand}{a:Addr}(I:nA ops i=some (.fieldAddr t x D,none,some k))[am:NI P t D off](F:ad n f x=.pointer (some a))(h:cW P ops Q rest (act n (ae f k (.pointer (some (a.add off)))) aC) w):cW P ops Q (i::rest) (act n f aC) w:=by
 obtain⟨G,ai,aF,R,ag⟩:=s8 I;exact a2 k ai R ag (RU aF F) h
theorem aeW{v:Value}{D d:Nat}{l c:Bool}(aw:ops.toList[i]?=some G)(R:G.guard=some (D,l))(bI:(ops[D]?).bind (·.dst)=some d)(G9:ad n f (.tmp d)=.bool c)(Y:nf (c=l))(ag:G.dst=some k)(aJ:(execOp (ad n f) G).run P w=.ok (.value v) w)
  (h:cW P ops Q rest (act n (ae f k v) aC) w):cW P ops Q (i::rest) (act n f aC) w:=eP (d:=some k) aw (.az D l d c R bI G9 Y.it) ag aJ h
theorem aHQ{D d:Nat}{l c:Bool}(aw:ops.toList[i]?=some G)(R:G.guard=some (D,l))(bI:(ops[D]?).bind (·.dst)=some d)(aJ:ad n f (.tmp d)=.bool c)(Y:nf (c=!l))(h:cW P ops Q rest (act n (gM f G.dst undef) aC) w):cW P ops Q (i::rest) (act n f aC) w:=
 dl aw (.az D l d c R bI aJ Y.it) rfl h
theorem aHP{D d:Nat}{l:Bool}(aw:ops.toList[i]?=some G)(R:G.guard=some (D,l))(bI:(ops[D]?).bind (·.dst)=some d)(aJ:ad n f (.tmp d)=undef)(h:cW P ops Q rest (act n (gM f G.dst undef) aC) w):cW P ops Q (i::rest) (act n f aC) w:=
 dl aw (.undef D l d R bI aJ) rfl h
end
end
inductive zq where
 |e
 |c (i:Nat) (r:zq)
 |l (i D:Nat) (r s:zq)
 |d (i D k:Nat) (r s t:zq)
def du:List Nat→zq→zq
 |[],G=>G
 |i::m,G=>.c i (du m G)
def g9(_:zq)(P:Program)(ops:Array Oper)(Q:Exit→Act→World→Prop)(ay:List (Nat×(World→Prop)))(y:Nat)(listed:Array Bool)(a:Act)(w:World):Prop:=g_ P ops Q ay y listed a w
section
variable {P:Program} {Q:Exit→Act→World→Prop} {n i k y:Nat} {f:Nat→Value} {aC:List Deferred} {w J:World} {ops:Array Oper} {hv r s t:zq} {listed:Array Bool} {ay:List (Nat×(World→Prop))} {G:Oper} {v:Value}
theorem ar7(h:g9 hv P ops Q ay y listed (act n f aC) w):g9 hv P ops Q ay y listed (act n f aC) w:=h
theorem aAC{aa:Act→World→Prop}(h:mw P ops Q i aa (act n f aC) w):mw P ops Q i aa (act n f aC) w:=h
theorem Cd{aa:Act→World→Prop}(k:Nat)(e:SK ops i=k)(h:mw P ops Q i aa (act n f aC) w):mw P ops Q i aa (act n f aC) w:=h
theorem eg(k:Nat)(hv:zq):∀ ⦃P:Program⦄ ⦃Q:Exit→Act→World→Prop⦄ ⦃n:Nat⦄ ⦃f:Nat→Value⦄ ⦃aC:List Deferred⦄ ⦃w:World⦄ ⦃c:Code⦄ ⦃id y:Nat⦄ ⦃ops:Array Oper⦄ ⦃aa:World→Prop⦄,c=.region id ops true→id+1=k→de w aa→P.follows .mixedOrders=true→ops.size=y→Region.noSelect ops=true →
  (∀ c a d v w,Q (.panic c) (Act.put a d v) w→Q (.panic c) a w)→(∀ w,aa w→lv ops Q→g9 hv P ops Q [] y (Array.replicate y false) (act n f aC) w)→c.wp P Q (act n f aC) w:=by
 intro P Q n f aC w c id y ops aa e _ h hm al aG dZ U;subst e;obtain⟨J,hw,h⟩:=ou h;exact po y hm al aG dZ hw fun ak=>U J h ak
theorem iP{Z:Type}{C aa:Z→Prop}(h:ex C aa)(U:∀ x,C x→aa x→g9 hv P ops Q ay y listed (act n f aC) w):g9 hv P ops Q ay y listed (act n f aC) w:=by
 obtain⟨x,I,O⟩:=h;exact U x I O
theorem Qz(k:Nat)(e:hv=.c i r)(aq:Zn ops i=k)(h:g9 (.c i r) P ops Q ay y listed (act n f aC) w):g9 hv P ops Q ay y listed (act n f aC) w:=h
theorem aBh(k:Nat)(aq:SK ops i=k)(h:g9 (.c i r) P ops Q ay y listed (act n f aC) w):g9 (.c i r) P ops Q ay y listed (act n f aC) w:=h
theorem aJb(e:hv=.e)(h:Q .normal (act n f aC) w)(ab:Region.ready .any ops listed=[]):g9 hv P ops Q ay y listed (act n f aC) w:=kH ab h
theorem afR(e:hv=.c i r)(aw:ops.toList[i]?=some G)(R:G.guard=none)(ag:G.dst=some k)(ak:lv ops Q)(aJ:∀ w,(execOp (ad n f) G).run P w=.ok (.value v) w)(h:g9 r P ops Q ay y (listed.setIfInBounds i true) (act n (ae f k v) aC) w)
  (am:Region.free .any ops listed i=true) (ab:(Region.ready .any ops listed).contains i=true):g9 hv P ops Q ay (y+1) listed (act n f aC) w:=fc i k ak aw R ag aJ h am ab
theorem aJe{Z:Type}{T:bn Z}{a:Addr}{t ar:Nat}{x:Operand}{aa:Z→Prop}(e:hv=.c i r)(al:Hs ops i=some (t,x,k))[ok:b1 P t T ar](h:ex (L T a w) aa)(ak:lv ops Q)(F:ad n f x=.pointer (some a))(am:Region.free .any ops listed i=true)(ab:(Region.ready .any ops listed).contains i=true)
  (U:∀ u,L T a w u→aa u→g9 r P ops Q ((i,fun A=>L T a A u)::ay) y (listed.setIfInBounds i true) (act n (ae f k (T.enc u)) aC) w):g9 hv P ops Q ay (y+1) listed (act n f aC) w:=by
 obtain⟨u,hu,b2⟩:=h;unfold Hs at al;cases ai:ops.toList[i]? with
 |none=>rw[ai] at al; cases al
 |some G=>
  rw[ai] at al;simp only at al;split at al
  ·rename_i S fQ tc aQ a6 c_;cases al;exact tb (d:=some _) (fun A=>L T a A u) ak am ab ai (.free a6) c_ (fun A ab=>j9 aQ ok.out F ab) hu (U u hu b2)
  ·cases al
theorem afS{D d:Nat}{l c:Bool}(e:hv=.c i r)(aw:ops.toList[i]?=some G)(R:G.guard=some (D,l))(bI:(ops[D]?).bind (·.dst)=some d)(G9:ad n f (.tmp d)=.bool c)(Y:nf (c=l))(ag:G.dst=some k)(ak:lv ops Q)(aJ:∀ w,(execOp (ad n f) G).run P w=.ok (.value v) w)(h:g9 r P ops Q ay y (listed.setIfInBounds i true) (act n (ae f k v) aC) w)
  (am:Region.free .any ops listed i=true) (ab:(Region.ready .any ops listed).contains i=true):g9 hv P ops Q ay (y+1) listed (act n f aC) w:=eO (d:=some k) ak am ab aw (.az D l d c R bI G9 Y.it) ag aJ h
theorem Mb{W:World→Prop}(eX:W w)(e:hv=.c i r)(aw:ops.toList[i]?=some G)(R:G.guard=none)(ag:G.dst=some k)(ak:lv ops Q)(aJ:∀ w,W w→(execOp (ad n f) G).run P w=.ok (.value v) w)(h:g9 r P ops Q ((i,W)::ay) y (listed.setIfInBounds i true) (act n (ae f k v) aC) w)
  (am:Region.free .any ops listed i=true) (ab:(Region.ready .any ops listed).contains i=true):g9 hv P ops Q ay (y+1) listed (act n f aC) w:=tb (d:=some k) W ak am ab aw (.free R) ag aJ eX h
theorem Iv{W:World→Prop}{D d:Nat}{l c:Bool}(eX:W w)(e:hv=.c i r)(aw:ops.toList[i]?=some G)(R:G.guard=some (D,l))(bI:(ops[D]?).bind (·.dst)=some d)(G9:ad n f (.tmp d)=.bool c)(Y:nf (c=l))(ag:G.dst=some k)(ak:lv ops Q)(aJ:∀ w,W w→(execOp (ad n f) G).run P w=.ok (.value v) w)(h:g9 r P ops Q ((i,W)::ay) y (listed.setIfInBounds i true) (act n (ae f k v) aC) w)
  (am:Region.free .any ops listed i=true) (ab:(Region.ready .any ops listed).contains i=true):g9 hv P ops Q ay (y+1) listed (act n f aC) w:=tb (d:=some k) W ak am ab aw (.az D l d c R bI G9 Y.it) ag aJ eX h
theorem aJh{D d:Nat}{l c:Bool}(e:hv=.c i r)(aw:ops.toList[i]?=some G)(R:G.guard=some (D,l))(bI:(ops[D]?).bind (·.dst)=some d)(aJ:ad n f (.tmp d)=.bool c)(Y:nf (c=!l))(ak:lv ops Q)(h:g9 r P ops Q ay y (listed.setIfInBounds i true) (act n (gM f G.dst undef) aC) w)
  (am:Region.free .any ops listed i=true) (ab:(Region.ready .any ops listed).contains i=true):g9 hv P ops Q ay (y+1) listed (act n f aC) w:=Sd ak am ab aw (.az D l d c R bI aJ Y.it) rfl h
theorem aJg{D d:Nat}{l:Bool}(e:hv=.c i r)(aw:ops.toList[i]?=some G)(R:G.guard=some (D,l))(bI:(ops[D]?).bind (·.dst)=some d)(aJ:ad n f (.tmp d)=undef)(ak:lv ops Q)(h:g9 r P ops Q ay y (listed.setIfInBounds i true) (act n (gM f G.dst undef) aC) w)
  (am:Region.free .any ops listed i=true) (ab:(Region.ready .any ops listed).contains i=true):g9 hv P ops Q ay (y+1) listed (act n f aC) w:=Sd ak am ab aw (.undef D l d R bI aJ) rfl h
theorem AL{g:Bool}(e:hv=.c i r)(aw:ops.toList[i]?=some G)(R:to n ops f G g)(ag:G.dst=some k)(ak:lv ops Q)(aJ:g=true→∀ w,(execOp (ad n f) G).run P w=.ok (.value v) w)(h:g9 r P ops Q ay y (listed.setIfInBounds i true) (act n (ae f k (jO g v)) aC) w)
  (am:Region.free .any ops listed i=true) (ab:(Region.ready .any ops listed).contains i=true):g9 hv P ops Q ay (y+1) listed (act n f aC) w:=Se (d:=some k) ak am ab aw R ag aJ h
theorem oc{g:Bool}{W:World→Prop}(eX:g=true→W w)(e:hv=.c i r)(aw:ops.toList[i]?=some G)(R:to n ops f G g)(ag:G.dst=some k)(ak:lv ops Q)(aJ:g=true→∀ w,W w→(execOp (ad n f) G).run P w=.ok (.value v) w)(h:g9 r P ops Q ((i,fun w=>g=true→W w)::ay) y (listed.setIfInBounds i true) (act n (ae f k (jO g v)) aC) w)
  (am:Region.free .any ops listed i=true) (ab:(Region.ready .any ops listed).contains i=true):g9 hv P ops Q ay (y+1) listed (act n f aC) w:=aFZ (d:=some k) W ak am ab aw R ag aJ eX h
theorem aJf(e:hv=.c i r)(h:mw P ops Q i (fun cb J=>(∀ x∈ay,waits ops i x.1=false→x.2 w→x.2 J)∧g9 r P ops Q ay y (listed.setIfInBounds i true) cb J) (act n f aC) w)(ab:Region.ready .any ops listed=[i]):g9 hv P ops Q ay (y+1) listed (act n f aC) w:=fk ab h
theorem aI9{D:Nat}{aN aS:Prop}(e:hv=.l i D r s)(h:sC aN aS)(I:aN→mw P ops Q i (fun cb J=>(∀ x∈ay,waits ops i x.1=false→x.2 w→x.2 J)∧g9 r P ops Q ay y (listed.setIfInBounds i true) cb J) (act n f aC) w)
  (O:aS→mw P ops Q D (fun cb J=>(∀ x∈ay,waits ops D x.1=false→x.2 w→x.2 J)∧g9 s P ops Q ay y (listed.setIfInBounds D true) cb J) (act n f aC) w) (ab:Region.ready .any ops listed=[i,D]):g9 hv P ops Q ay (y+1) listed (act n f aC) w:=aea ab (I h.1) (O h.2)
theorem aJa{D m:Nat}{aN aS C:Prop}(e:hv=.d i D m r s t)(h:sC aN (sC aS C))(I:aN→mw P ops Q i (fun cb J=>(∀ x∈ay,waits ops i x.1=false→x.2 w→x.2 J)∧g9 r P ops Q ay y (listed.setIfInBounds i true) cb J) (act n f aC) w)
  (O:aS→mw P ops Q D (fun cb J=>(∀ x∈ay,waits ops D x.1=false→x.2 w→x.2 J)∧g9 s P ops Q ay y (listed.setIfInBounds D true) cb J) (act n f aC) w)
  (aH:C→mw P ops Q m (fun cb J=>(∀ x∈ay,waits ops m x.1=false→x.2 w→x.2 J)∧g9 t P ops Q ay y (listed.setIfInBounds m true) cb J) (act n f aC) w) (ab:Region.ready .any ops listed=[i,D,m]):g9 hv P ops Q ay (y+1) listed (act n f aC) w:=aF0 ab (I h.1) (O h.2.1) (aH h.2.2)
theorem aJd{D d:Nat}{c tD:Bool}{b6 lC:Prop}(e:hv=.c i r)(aw:ops.toList[i]?=some G)(R:G.guard=some (D,tD))(bI:(ops[D]?).bind (·.dst)=some d)(aJ:ad n f (.tmp d)=.bool c)(h:if c=true then b6 else lC)
  (F:nf (c=true)→b6→g9 hv P ops Q ay y listed (act n f aC) w) (aB:nf (c=false)→lC→g9 hv P ops Q ay y listed (act n f aC) w):g9 hv P ops Q ay y listed (act n f aC) w:=
 jb h (fun e=>F ⟨e⟩) fun e=>aB ⟨e⟩
theorem aJc{l:Bool}{b6 lC:Prop}(h:if l=true then b6 else lC)(F:nf (l=true)→b6→g9 hv P ops Q ay y listed (act n f aC) w)(aB:nf (l=false)→lC→g9 hv P ops Q ay y listed (act n f aC) w):g9 hv P ops Q ay y listed (act n f aC) w:=
 jb h (fun e=>F ⟨e⟩) fun e=>aB ⟨e⟩
section
variable {D:Nat} {W:World→Prop} {b6:Prop}
theorem aCE{p:Prop}(h:nf (true=false)):p:=by cases h.it
theorem aCF{p:Prop}(h:nf (false=true)):p:=by cases h.it
theorem ar8(h:(∀ x∈ay,waits ops D x.1=false→x.2 w→x.2 J)∧b6):(∀ x∈ay,waits ops D x.1=false→x.2 w→x.2 J)∧b6:=h
theorem aBs(h:b6):(∀ x∈([]:List (Nat×(World→Prop))),waits ops D x.1=false→x.2 w→x.2 J)∧b6:=⟨im,h⟩
theorem aBt(h:(∀ x∈ay,waits ops D x.1=false→x.2 w→x.2 J)∧b6)(hw:waits ops D i=true):(∀ x∈(i,W)::ay,waits ops D x.1=false→x.2 w→x.2 J)∧b6:=⟨hi hw h.1,h.2⟩
theorem BV(aG:W w→W J)(h:(∀ x∈ay,waits ops D x.1=false→x.2 w→x.2 J)∧b6):(∀ x∈(i,W)::ay,waits ops D x.1=false→x.2 w→x.2 J)∧b6:=⟨fH aG h.1,h.2⟩
theorem aBr{aN aS:Prop}(h:bw aN aS)(U:aN→aS→(∀ x∈ay,waits ops D x.1=false→x.2 w→x.2 J)∧b6):(∀ x∈ay,waits ops D x.1=false→x.2 w→x.2 J)∧b6:=U h.1 h.2
end
end
structure kV where
 hA:Int
 gA:Nat
 kT:Nat
 ju:Int
def kV.cells(x:kV):List Value:=[.int .i64 (x.hA),.float .f64 (x.gA),.float .f64 (x.kT),.int .i64 (x.ju)]
@[reducible] def g8:bn kV:=hZ kV.cells
@[reducible] def W9:kV:=⟨(0:Int),(0:Nat),(0:Nat),(0:Int)⟩
structure mx where
 aD:Int
 fC:Int
 fv:Int
 b:Int
def mx.cells(x:mx):List Value:=[.int .i64 (x.aD),.int .i64 (x.fC),.int .i64 (x.fv),.int .i64 (x.b)]
@[reducible] def gh:bn mx:=hZ mx.cells
@[reducible] def A_:mx:=⟨(0:Int),(0:Int),(0:Int),(0:Int)⟩
structure oi where
 Kind:Int
 aN:Int
 aS:Int
 b:Int
 b6:mx
 N:af
 gz:af
def oi.cells(x:oi):List Value:=[.int .i64 (x.Kind),.int .i64 (x.aN),.int .i64 (x.aS),.int .i64 (x.b)]++(mx.cells (x.b6)++([X.enc (x.N),X.enc (x.gz)]))
@[reducible] def hK:bn oi:=hZ oi.cells
@[reducible] def Ba:oi:=⟨(0:Int),(0:Int),(0:Int),(0:Int),A_,(⟨none,0,0⟩:af),(⟨none,0,0⟩:af)⟩
structure eW where
 aD:Int
 og:Int
 bW:Int
def eW.cells(x:eW):List Value:=[.int .i64 (x.aD),.int .i64 (x.og),.int .i64 (x.bW)]
@[reducible] def kh:bn eW:=hZ eW.cells
@[reducible] def ajV:eW:=⟨(0:Int),(0:Int),(0:Int)⟩
structure iv where
 aD:Int
 b5:Int
 b:Int
 h8:Bool
def iv.cells(x:iv):List Value:=[.int .i64 (x.aD),.int .i64 (x.b5),.int .i64 (x.b),.bool (x.h8)]
@[reducible] def gX:bn iv:=hZ iv.cells
@[reducible] def zx:iv:=⟨(0:Int),(0:Int),(0:Int),false⟩
structure ij where
 Kind:Int
 Part:iv
 jK:Bool
 bW:Int
def ij.cells(x:ij):List Value:=[.int .i64 (x.Kind)]++(iv.cells (x.Part)++([.bool (x.jK),.int .i64 (x.bW)]))
@[reducible] def eE:bn ij:=hZ ij.cells
@[reducible] def uG:ij:=⟨(0:Int),zx,false,(0:Int)⟩
structure gW where
 aD:Int
 fC:Int
 fv:Int
 o:ij
def gW.cells(x:gW):List Value:=[.int .i64 (x.aD),.int .i64 (x.fC),.int .i64 (x.fv)]++(ij.cells (x.o))
@[reducible] def ew:bn gW:=hZ gW.cells
@[reducible] def k9:gW:=⟨(0:Int),(0:Int),(0:Int),uG⟩
structure mQ where
 aGK:aL
def mQ.cells(x:mQ):List Value:=[.pointer (x.aGK)]
@[reducible] def ds:bn mQ:=hZ mQ.cells
@[reducible] def Xb:mQ:=⟨(none:Option Addr)⟩
structure tw where
 aEe:mQ
 ey:Nat
 fA:Int
 held:(Option Nat)
 busy:(Option Nat)
 dS:(Option Nat)
def tw.cells(x:tw):List Value:=mQ.cells (x.aEe)++([.float .f64 (x.ey),.int .i64 (x.fA),.map (x.held),.map (x.busy),.map (x.dS)])
@[reducible] def A8:bn tw:=hZ tw.cells
@[reducible] def ajW:tw:=⟨Xb,(0:Nat),(0:Int),(none:Option Nat),(none:Option Nat),(none:Option Nat)⟩
structure my where
 vS:Int
 N:af
def my.cells(x:my):List Value:=[.int .i64 (x.vS),X.enc (x.N)]
@[reducible] def p7:bn my:=hZ my.cells
@[reducible] def Xc:my:=⟨(0:Int),(⟨none,0,0⟩:af)⟩
structure fu where
 Key:Int
 V:Int
def fu.cells(x:fu):List Value:=[.int .i64 (x.Key),.int .i64 (x.V)]
@[reducible] def hL:bn fu:=hZ fu.cells
@[reducible] def Dj:fu:=⟨(0:Int),(0:Int)⟩
structure uD where
 clock:aL
 cv:Int
 Gm:aL
 source:aL
 aG3:aL
 log:aL
 aEI:(Option Nat)
 sure:(Option Nat)
 out:af
def uD.cells(x:uD):List Value:=[.pointer (x.clock),.int .i64 (x.cv),.pointer (x.Gm),.pointer (x.source),.pointer (x.aG3),.pointer (x.log),.map (x.aEI),.map (x.sure),X.enc (x.out)]
@[reducible] def A0:bn uD:=hZ uD.cells
@[reducible] def ajJ:uD:=⟨(none:Option Addr),(0:Int),(none:Option Addr),(none:Option Addr),(none:Option Addr),(none:Option Addr),(none:Option Nat),(none:Option Nat),(⟨none,0,0⟩:af)⟩
structure qQ where
 h5:Int
 gL:Int
def qQ.cells(x:qQ):List Value:=[.int .i64 (x.h5),.int .i64 (x.gL)]
@[reducible] def lA:bn qQ:=hZ qQ.cells
@[reducible] def nP:qQ:=⟨(0:Int),(0:Int)⟩
structure rI where
 ek:kV
 now:Int
 nodes:af
 aY:aL
 known:(Option Nat)
 told:af
def rI.cells(x:rI):List Value:=kV.cells (x.ek)++([.int .i64 (x.now),X.enc (x.nodes),.pointer (x.aY),.map (x.known),X.enc (x.told)])
@[reducible] def A1:bn rI:=hZ rI.cells
@[reducible] def ajK:rI:=⟨W9,(0:Int),(⟨none,0,0⟩:af),(none:Option Addr),(none:Option Nat),(⟨none,0,0⟩:af)⟩
structure rJ where
 Part:iv
 bW:Int
 uz:Int
def rJ.cells(x:rJ):List Value:=iv.cells (x.Part)++([.int .i64 (x.bW),.int .i64 (x.uz)])
@[reducible] def ix:bn rJ:=hZ rJ.cells
@[reducible] def qS:rJ:=⟨zx,(0:Int),(0:Int)⟩
structure jt where
 gO:Int
 jr:Int
def jt.cells(x:jt):List Value:=[.int .i64 (x.gO),.int .i64 (x.jr)]
@[reducible] def cG:bn jt:=hZ jt.cells
@[reducible] def jv:jt:=⟨(0:Int),(0:Int)⟩
structure jI where
 Kind:Int
 bW:Int
 aD:Int
 b5:Int
 b:Int
 h8:Bool
def jI.cells(x:jI):List Value:=[.int .i64 (x.Kind),.int .i64 (x.bW),.int .i64 (x.aD),.int .i64 (x.b5),.int .i64 (x.b),.bool (x.h8)]
@[reducible] def fL:bn jI:=hZ jI.cells
@[reducible] def Di:jI:=⟨(0:Int),(0:Int),(0:Int),(0:Int),(0:Int),false⟩
structure xq where
 ajI:aL
 v:aL
def xq.cells(x:xq):List Value:=[.pointer (x.ajI),.pointer (x.v)]
@[reducible] def A2:bn xq:=hZ xq.cells
@[reducible] def ajL:xq:=⟨(none:Option Addr),(none:Option Addr)⟩
structure ts where
 h1:Int
 y:ij
def ts.cells(x:ts):List Value:=[.int .i64 (x.h1)]++(ij.cells (x.y))
@[reducible] def v4:bn ts:=hZ ts.cells
@[reducible] def NU:ts:=⟨(0:Int),uG⟩
structure oU where
def oU.cells(x:oU):List Value:=[]
@[reducible] def fm:bn oU:=hZ oU.cells
@[reducible] def qT:oU:=⟨⟩
structure tt where
 at_:Int
 h0:Int
 width:Int
 set:Bool
def tt.cells(x:tt):List Value:=[.int .i64 (x.at_),.int .i64 (x.h0),.int .i64 (x.width),.bool (x.set)]
@[reducible] def A3:bn tt:=hZ tt.cells
@[reducible] def F3:tt:=⟨(0:Int),(0:Int),(0:Int),false⟩
structure tu where
 dd:tt
 ey:Nat
 last:Int
 floor:Int
def tu.cells(x:tu):List Value:=tt.cells (x.dd)++([.float .f64 (x.ey),.int .i64 (x.last),.int .i64 (x.floor)])
@[reducible] def A4:bn tu:=hZ tu.cells
@[reducible] def ajM:tu:=⟨F3,(0:Nat),(0:Int),(0:Int)⟩
structure xr where
 nodes:Int
 qw:Int
 m:af
 off:(Option Nat)
def xr.cells(x:xr):List Value:=[.int .i64 (x.nodes),.int .i64 (x.qw),X.enc (x.m),.map (x.off)]
@[reducible] def Db:bn xr:=hZ xr.cells
@[reducible] def ajN:xr:=⟨(0:Int),(0:Int),(⟨none,0,0⟩:af),(none:Option Nat)⟩
structure v1 where
 cK:af
 lE:Int
 down:Bool
 ea:Int
 bz:af
def v1.cells(x:v1):List Value:=[X.enc (x.cK),.int .i64 (x.lE),.bool (x.down),.int .i64 (x.ea),X.enc (x.bz)]
@[reducible] def A5:bn v1:=hZ v1.cells
@[reducible] def ajO:v1:=⟨(⟨none,0,0⟩:af),(0:Int),false,(0:Int),(⟨none,0,0⟩:af)⟩
structure mP where
 Kind:Int
 cX:Int
 aV:Int
 aT:Nat
 W:(List UInt8)
def mP.cells(x:mP):List Value:=[.int .i64 (x.Kind),.int .u64 (x.cX),.int .i64 (x.aV),.float .f64 (x.aT),.string ⟨(x.W).toArray⟩]
@[reducible] def gg:bn mP:=hZ mP.cells
@[reducible] def ty:mP:=⟨(0:Int),(0:Int),(0:Int),(0:Nat),([]:List UInt8)⟩
structure lx where
 said:Bool
 eI:Bool
 gL:Int
def lx.cells(x:lx):List Value:=[.bool (x.said),.bool (x.eI),.int .i64 (x.gL)]
@[reducible] def mR:bn lx:=hZ lx.cells
@[reducible] def qU:lx:=⟨false,false,(0:Int)⟩
structure sx where
 aI1:mx
 aIu:(Vector lx 2)
 aj0:(Vector Bool 2)
 bV:Int
 at_:Int
def sx.cells(x:sx):List Value:=mx.cells (x.aI1)++((x.aIu).toList.flatMap mR.cells++((x.aj0).toList.flatMap bf.cells++([.int .i64 (x.bV),.int .i64 (x.at_)])))
@[reducible] def Dc:bn sx:=hZ sx.cells
@[reducible] def ajP:sx:=⟨A_,(Vector.replicate 2 qU),(Vector.replicate 2 false),(0:Int),(0:Int)⟩
structure xt where
 ak4:(Option Nat)
 closed:Int
 mark:Int
def xt.cells(x:xt):List Value:=[.map (x.ak4),.int .i64 (x.closed),.int .i64 (x.mark)]
@[reducible] def p6:bn xt:=hZ xt.cells
@[reducible] def ajQ:xt:=⟨(none:Option Nat),(0:Int),(0:Int)⟩
structure xu where
 last:Int
def xu.cells(x:xu):List Value:=[.int .i64 (x.last)]
@[reducible] def Dd:bn xu:=hZ xu.cells
@[reducible] def ajR:xu:=⟨(0:Int)⟩
structure sy where
 all:Int
 sure:Int
def sy.cells(x:sy):List Value:=[.int .i64 (x.all),.int .i64 (x.sure)]
@[reducible] def A6:bn sy:=hZ sy.cells
@[reducible] def W_:sy:=⟨(0:Int),(0:Int)⟩
structure tv where
 counts:sy
 d:aL
 log:Int
 dead:Bool
def tv.cells(x:tv):List Value:=sy.cells (x.counts)++([.pointer (x.d),.int .i64 (x.log),.bool (x.dead)])
@[reducible] def A7:bn tv:=hZ tv.cells
@[reducible] def ajS:tv:=⟨W_,(none:Option Addr),(0:Int),false⟩
structure v2 where
 Oa:af
 at_:Int
def v2.cells(x:v2):List Value:=[X.enc (x.Oa),.int .i64 (x.at_)]
@[reducible] def De:bn v2:=hZ v2.cells
@[reducible] def ajT:v2:=⟨(⟨none,0,0⟩:af),(0:Int)⟩
structure j0 where
 amt:Int
def j0.cells(x:j0):List Value:=[.int .i64 (x.amt)]
@[reducible] def jJ:bn j0:=hZ j0.cells
@[reducible] def F4:j0:=⟨(0:Int)⟩
structure zt where
 Oa:af
 sure:Int
def zt.cells(x:zt):List Value:=[X.enc (x.Oa),.int .i64 (x.sure)]
@[reducible] def Df:bn zt:=hZ zt.cells
@[reducible] def Xa:zt:=⟨(⟨none,0,0⟩:af),(0:Int)⟩
structure eD where
 bW:Int
 V:Int
def eD.cells(x:eD):List Value:=[.int .i64 (x.bW),.int .i64 (x.V)]
@[reducible] def dD:bn eD:=hZ eD.cells
@[reducible] def kj:eD:=⟨(0:Int),(0:Int)⟩
structure xv where
 m:af
 mark:Int
def xv.cells(x:xv):List Value:=[X.enc (x.m),.int .i64 (x.mark)]
@[reducible] def v5:bn xv:=hZ xv.cells
@[reducible] def ajU:xv:=⟨(⟨none,0,0⟩:af),(0:Int)⟩
theorem aaM:dA Pg 2 (.int .i64 ((0:Int))) 1 8:=dC (by kernel_rfl)
theorem cU:cj Pg 2 (B .i64) 1:=hV aaM Tryz.underlying2
theorem Kj:dA Pg 3 (.int .i64 ((0:Int))) 1 8:=dC (by kernel_rfl)
theorem dj:cj Pg 3 (B .i64) 1:=hV Kj Tryz.underlying3
theorem aaZ:dA Pg 4 (.bool (false)) 1 1:=dC (by kernel_rfl)
theorem oB:cj Pg 4 bf 1:=hV aaZ Tryz.underlying4
theorem aa2:dA Pg 5 (.int .u8 ((0:Int))) 1 1:=dC (by kernel_rfl)
theorem HH:cj Pg 5 (B .u8) 1:=hV aa2 Tryz.underlying5
theorem aA5:dA Pg 9 (.string ⟨(([]:List UInt8)).toArray⟩) 1 16:=dC (by kernel_rfl)
theorem KZ:cj Pg 9 qB 1:=hV aA5 Tryz.underlying9
theorem aAR:dA Pg 22 (.float .f64 ((0:Nat))) 1 8:=dC (by kernel_rfl)
theorem qj:cj Pg 22 gK 1:=hV aAR Tryz.underlying22
theorem aaT:dA Pg 24 (g8.enc (W9)) 4 32:=dC (by kernel_rfl)
theorem aB0(x:kV):(g8.cells x).length=4:=by rfl
theorem acg(x:kV):∀ v∈g8.cells x,v.oneCell'=true:=List.all_eq_true.1 rfl
theorem yK:cj Pg 24 g8 4:=iF aaT Tryz.underlying24 aB0 acg
theorem aAS:dA Pg 26 (.pointer ((none:Option Addr))) 1 8:=dC (by kernel_rfl)
theorem aDl:cj Pg 26 aE 1:=hV aAS Tryz.underlying26
theorem Qu:dA Pg 31 (gh.enc (A_)) 4 32:=dC (by kernel_rfl)
theorem Ku(x:mx):(gh.cells x).length=4:=by rfl
theorem Rl(x:mx):∀ v∈gh.cells x,v.oneCell'=true:=List.all_eq_true.1 rfl
theorem HG:cj Pg 31 gh 4:=iF Qu Tryz.underlying31 Ku Rl
theorem aAT:dA Pg 32 (X.enc ((⟨none,0,0⟩:af))) 1 24:=dC (by kernel_rfl)
theorem ab0:cj Pg 32 X 1:=hV aAT Tryz.underlying32
theorem aAV:dA Pg 33 (X.enc ((⟨none,0,0⟩:af))) 1 24:=dC (by kernel_rfl)
theorem Rg:cj Pg 33 X 1:=hV aAV Tryz.underlying33
theorem aaY:dA Pg 35 (hK.enc (Ba)) 10 112:=dC (by kernel_rfl)
theorem QM(x:oi):(hK.cells x).length=10:=by rfl
theorem aDQ(x:oi):∀ v∈hK.cells x,v.oneCell'=true:=by
 show ∀ v∈oi.cells x,v.oneCell'=true
 simp only[oi.cells,List.forall_mem_append,List.forall_mem_cons,List.forall_mem_nil]
 exact⟨⟨rfl,rfl,rfl,rfl,fun _ h=>absurd h (List.not_mem_nil)⟩,Rl _,⟨rfl,rfl,fun _ h=>absurd h (List.not_mem_nil)⟩⟩
theorem Cb:cj Pg 35 hK 10:=iF aaY Tryz.underlying35 QM aDQ
theorem aAW:dA Pg 36 (.pointer ((none:Option Addr))) 1 8:=dC (by kernel_rfl)
theorem ab2:cj Pg 36 aE 1:=hV aAW Tryz.underlying36
theorem aAX:dA Pg 38 (.int .i64 ((0:Int))) 1 8:=dC (by kernel_rfl)
theorem Ew:cj Pg 38 (B .i64) 1:=hV aAX Tryz.underlying38
theorem Qv:dA Pg 43 (.int .i64 ((0:Int))) 1 8:=dC (by kernel_rfl)
theorem wW:cj Pg 43 (B .i64) 1:=hV Qv Tryz.underlying43
theorem aa0:dA Pg 46 (((qA (B .i64) 60).enc (Vector.replicate 60 (0:Int)))) 60 480:=dC (by kernel_rfl)
theorem aDq:cj Pg 46 (qA (B .i64) 60) 60:=⟨(aa0).imp fun _ h=>⟨h.1,h.2.2.1⟩,fun x=>by simp[DN dj.len],.inl ⟨_,Tryz.underlying46,rfl,fun _=>rfl⟩,fun _=>rfl,fun x v aJ=>by obtain⟨S,_,aB⟩:=List.mem_flatMap.1 aJ; exact dj.one S v aB⟩
theorem aa1:dA Pg 47 (((qA (B .i64) 60).enc (Vector.replicate 60 (0:Int)))) 60 480:=dC (by kernel_rfl)
theorem aDr:cj Pg 47 (qA (B .i64) 60) 60:=⟨(aa1).imp fun _ h=>⟨h.1,h.2.2.1⟩,fun x=>by simp[DN cU.len],.inl ⟨_,Tryz.underlying47,rfl,fun _=>rfl⟩,fun _=>rfl,fun x v aJ=>by obtain⟨S,_,aB⟩:=List.mem_flatMap.1 aJ; exact cU.one S v aB⟩
theorem aAY:dA Pg 50 (X.enc ((⟨none,0,0⟩:af))) 1 24:=dC (by kernel_rfl)
theorem ab3:cj Pg 50 X 1:=hV aAY Tryz.underlying50
theorem Qw:dA Pg 53 (kh.enc (ajV)) 3 24:=dC (by kernel_rfl)
theorem aB5(x:eW):(kh.cells x).length=3:=by rfl
theorem aDR(x:eW):∀ v∈kh.cells x,v.oneCell'=true:=List.all_eq_true.1 rfl
theorem yL:cj Pg 53 kh 3:=iF Qw Tryz.underlying53 aB5 aDR
theorem aAZ:dA Pg 56 (X.enc ((⟨none,0,0⟩:af))) 1 24:=dC (by kernel_rfl)
theorem ab4:cj Pg 56 X 1:=hV aAZ Tryz.underlying56
theorem Hk:dA Pg 60 (gX.enc (zx)) 4 32:=dC (by kernel_rfl)
theorem Kv(x:iv):(gX.cells x).length=4:=by rfl
theorem Rm(x:iv):∀ v∈gX.cells x,v.oneCell'=true:=List.all_eq_true.1 rfl
theorem Ex:cj Pg 60 gX 4:=iF Hk Tryz.underlying60 Kv Rm
theorem Kk:dA Pg 62 (eE.enc (uG)) 7 56:=dC (by kernel_rfl)
theorem Kw(x:ij):(eE.cells x).length=7:=by rfl
theorem Rn(x:ij):∀ v∈eE.cells x,v.oneCell'=true:=by
 show ∀ v∈ij.cells x,v.oneCell'=true
 simp only[ij.cells,List.forall_mem_append,List.forall_mem_cons,List.forall_mem_nil]
 exact⟨⟨rfl,fun _ h=>absurd h (List.not_mem_nil)⟩,Rm _,⟨rfl,rfl,fun _ h=>absurd h (List.not_mem_nil)⟩⟩
theorem Ey:cj Pg 62 eE 7:=iF Kk Tryz.underlying62 Kw Rn
theorem Kl:dA Pg 64 (ew.enc (k9)) 10 80:=dC (by kernel_rfl)
theorem wM(x:gW):(ew.cells x).length=10:=by rfl
theorem aDS(x:gW):∀ v∈ew.cells x,v.oneCell'=true:=by
 show ∀ v∈gW.cells x,v.oneCell'=true
 simp only[gW.cells,List.forall_mem_append,List.forall_mem_cons,List.forall_mem_nil]
 exact⟨⟨rfl,rfl,rfl,fun _ h=>absurd h (List.not_mem_nil)⟩,Rn _⟩
theorem HI:cj Pg 64 ew 10:=iF Kl Tryz.underlying64 wM aDS
theorem aA0:dA Pg 65 (.pointer ((none:Option Addr))) 1 8:=dC (by kernel_rfl)
theorem ab5:cj Pg 65 aE 1:=hV aA0 Tryz.underlying65
theorem aa3:dA Pg 67 (ds.enc (Xb)) 1 8:=dC (by kernel_rfl)
theorem aB6(x:mQ):(ds.cells x).length=1:=by rfl
theorem ach(x:mQ):∀ v∈ds.cells x,v.oneCell'=true:=List.all_eq_true.1 rfl
theorem r8:cj Pg 67 ds 1:=iF aa3 Tryz.underlying67 aB6 ach
theorem aA1:dA Pg 68 (.map ((none:Option Nat))) 1 8:=dC (by kernel_rfl)
theorem ab6:cj Pg 68 ef 1:=hV aA1 Tryz.underlying68
theorem aA2:dA Pg 69 (.map ((none:Option Nat))) 1 8:=dC (by kernel_rfl)
theorem ab7:cj Pg 69 ef 1:=hV aA2 Tryz.underlying69
theorem aA3:dA Pg 70 (.map ((none:Option Nat))) 1 8:=dC (by kernel_rfl)
theorem ab8:cj Pg 70 ef 1:=hV aA3 Tryz.underlying70
theorem aa4:dA Pg 72 (A8.enc (ajW)) 6 48:=dC (by kernel_rfl)
theorem aB7(x:tw):(A8.cells x).length=6:=by rfl
theorem aDT(x:tw):∀ v∈A8.cells x,v.oneCell'=true:=by
 show ∀ v∈tw.cells x,v.oneCell'=true
 simp only[tw.cells,List.forall_mem_append,List.forall_mem_cons,List.forall_mem_nil]
 exact⟨ach _,⟨rfl,rfl,rfl,rfl,rfl,fun _ h=>absurd h (List.not_mem_nil)⟩⟩
theorem aDs:cj Pg 72 A8 6:=iF aa4 Tryz.underlying72 aB7 aDT
theorem aA4:dA Pg 83 (X.enc ((⟨none,0,0⟩:af))) 1 24:=dC (by kernel_rfl)
theorem Ez:cj Pg 83 X 1:=hV aA4 Tryz.underlying83
theorem Qx:dA Pg 85 (p7.enc (Xc)) 2 32:=dC (by kernel_rfl)
theorem aB8(x:my):(p7.cells x).length=2:=by rfl
theorem aDU(x:my):∀ v∈p7.cells x,v.oneCell'=true:=List.all_eq_true.1 rfl
theorem Rh:cj Pg 85 p7 2:=iF Qx Tryz.underlying85 aB8 aDU
theorem Qy:dA Pg 87 (hL.enc (Dj)) 2 16:=dC (by kernel_rfl)
theorem QN(x:fu):(hL.cells x).length=2:=by rfl
theorem aDV(x:fu):∀ v∈hL.cells x,v.oneCell'=true:=List.all_eq_true.1 rfl
theorem ab9:cj Pg 87 hL 2:=iF Qy Tryz.underlying87 QN aDV
theorem Km:dA Pg 89 (.pointer ((none:Option Addr))) 1 8:=dC (by kernel_rfl)
theorem Ri:cj Pg 89 aE 1:=hV Km Tryz.underlying89
theorem aA6:dA Pg 92 (.pointer ((none:Option Addr))) 1 8:=dC (by kernel_rfl)
theorem EA:cj Pg 92 aE 1:=hV aA6 Tryz.underlying92
theorem aA7:dA Pg 93 (.pointer ((none:Option Addr))) 1 8:=dC (by kernel_rfl)
theorem HJ:cj Pg 93 aE 1:=hV aA7 Tryz.underlying93
theorem aA8:dA Pg 94 (.pointer ((none:Option Addr))) 1 8:=dC (by kernel_rfl)
theorem K0:cj Pg 94 aE 1:=hV aA8 Tryz.underlying94
theorem aA9:dA Pg 95 (.pointer ((none:Option Addr))) 1 8:=dC (by kernel_rfl)
theorem EB:cj Pg 95 aE 1:=hV aA9 Tryz.underlying95
theorem aBa:dA Pg 96 (.pointer ((none:Option Addr))) 1 8:=dC (by kernel_rfl)
theorem Rj:cj Pg 96 aE 1:=hV aBa Tryz.underlying96
theorem aBb:dA Pg 97 (.map ((none:Option Nat))) 1 8:=dC (by kernel_rfl)
theorem aca:cj Pg 97 ef 1:=hV aBb Tryz.underlying97
theorem aBc:dA Pg 98 (.map ((none:Option Nat))) 1 8:=dC (by kernel_rfl)
theorem K1:cj Pg 98 ef 1:=hV aBc Tryz.underlying98
theorem aBd:dA Pg 99 (X.enc ((⟨none,0,0⟩:af))) 1 24:=dC (by kernel_rfl)
theorem acb:cj Pg 99 X 1:=hV aBd Tryz.underlying99
theorem aaB:dA Pg 101 (A0.enc (ajJ)) 9 88:=dC (by kernel_rfl)
theorem aBN(x:uD):(A0.cells x).length=9:=by rfl
theorem aDt(x:uD):∀ v∈A0.cells x,v.oneCell'=true:=List.all_eq_true.1 rfl
theorem abT:cj Pg 101 A0 9:=iF aaB Tryz.underlying101 aBN aDt
theorem Kh:dA Pg 104 (lA.enc (nP)) 2 16:=dC (by kernel_rfl)
theorem Ht(x:qQ):(lA.cells x).length=2:=by rfl
theorem aDu(x:qQ):∀ v∈lA.cells x,v.oneCell'=true:=List.all_eq_true.1 rfl
theorem aC7:cj Pg 104 lA 2:=iF Kh Tryz.underlying104 Ht aDu
theorem aaC:dA Pg 107 ((cc.nil).enc) 1 8:=dC (by kernel_rfl)
theorem aC8:cj Pg 107 gb 1:=⟨(aaC).imp fun _ h=>⟨h.1,h.2.2.1⟩,fun _=>rfl,.inr ⟨_,Tryz.underlying107,rfl,rfl,fun _=>rfl⟩,fun x=>cc.flat _,fun x v aJ=>by obtain rfl:=List.mem_singleton.1 aJ; exact cc.one _⟩
theorem aAJ:dA Pg 111 (X.enc ((⟨none,0,0⟩:af))) 1 24:=dC (by kernel_rfl)
theorem Ev:cj Pg 111 X 1:=hV aAJ Tryz.underlying111
theorem aAK:dA Pg 112 (.pointer ((none:Option Addr))) 1 8:=dC (by kernel_rfl)
theorem KX:cj Pg 112 aE 1:=hV aAK Tryz.underlying112
theorem aaD:dA Pg 114 (A1.enc (ajK)) 9 104:=dC (by kernel_rfl)
theorem aBO(x:rI):(A1.cells x).length=9:=by rfl
theorem aDv(x:rI):∀ v∈A1.cells x,v.oneCell'=true:=by
 show ∀ v∈rI.cells x,v.oneCell'=true
 simp only[rI.cells,List.forall_mem_append,List.forall_mem_cons,List.forall_mem_nil]
 exact⟨acg _,⟨rfl,rfl,rfl,rfl,rfl,fun _ h=>absurd h (List.not_mem_nil)⟩⟩
theorem abU:cj Pg 114 A1 9:=iF aaD Tryz.underlying114 aBO aDv
theorem aAL:dA Pg 127 (.pointer ((none:Option Addr))) 1 8:=dC (by kernel_rfl)
theorem Qp:dA Pg 135 (ix.enc (qS)) 6 48:=dC (by kernel_rfl)
theorem Ee(x:rJ):(ix.cells x).length=6:=by rfl
theorem aDw(x:rJ):∀ v∈ix.cells x,v.oneCell'=true:=by
 show ∀ v∈rJ.cells x,v.oneCell'=true
 simp only[rJ.cells,List.forall_mem_append,List.forall_mem_cons,List.forall_mem_nil]
 exact⟨Rm _,⟨rfl,rfl,fun _ h=>absurd h (List.not_mem_nil)⟩⟩
theorem aC9:cj Pg 135 ix 6:=iF Qp Tryz.underlying135 Ee aDw
theorem BT:dA Pg 137 (cG.enc (jv)) 2 16:=dC (by kernel_rfl)
theorem pb(x:jt):(cG.cells x).length=2:=by rfl
theorem aDx(x:jt):∀ v∈cG.cells x,v.oneCell'=true:=List.all_eq_true.1 rfl
theorem oA:cj Pg 137 cG 2:=iF BT Tryz.underlying137 pb aDx
theorem wE:dA Pg 142 (fL.enc (Di)) 6 48:=dC (by kernel_rfl)
theorem Ef(x:jI):(fL.cells x).length=6:=by rfl
theorem aDy(x:jI):∀ v∈fL.cells x,v.oneCell'=true:=List.all_eq_true.1 rfl
theorem r6:cj Pg 142 fL 6:=iF wE Tryz.underlying142 Ef aDy
theorem aaE:dA Pg 143 ((cc.nil).enc) 1 8:=dC (by kernel_rfl)
theorem aDa:cj Pg 143 gb 1:=⟨(aaE).imp fun _ h=>⟨h.1,h.2.2.1⟩,fun _=>rfl,.inr ⟨_,Tryz.underlying143,rfl,rfl,fun _=>rfl⟩,fun x=>cc.flat _,fun x v aJ=>by obtain rfl:=List.mem_singleton.1 aJ; exact cc.one _⟩
theorem aaF:dA Pg 146 (.map ((none:Option Nat))) 1 8:=dC (by kernel_rfl)
theorem aDb:cj Pg 146 ef 1:=hV aaF Tryz.underlying146
theorem aaG:dA Pg 150 (A2.enc (ajL)) 2 16:=dC (by kernel_rfl)
theorem aBP(x:xq):(A2.cells x).length=2:=by rfl
theorem aDz(x:xq):∀ v∈A2.cells x,v.oneCell'=true:=List.all_eq_true.1 rfl
theorem aDc:cj Pg 150 A2 2:=iF aaG Tryz.underlying150 aBP aDz
theorem Qq:dA Pg 161 (v4.enc (NU)) 8 64:=dC (by kernel_rfl)
theorem abw(x:ts):(v4.cells x).length=8:=by rfl
theorem aDA(x:ts):∀ v∈v4.cells x,v.oneCell'=true:=by
 show ∀ v∈ts.cells x,v.oneCell'=true
 simp only[ts.cells,List.forall_mem_append,List.forall_mem_cons,List.forall_mem_nil]
 exact⟨⟨rfl,fun _ h=>absurd h (List.not_mem_nil)⟩,Rn _⟩
theorem aDd:cj Pg 161 v4 8:=iF Qq Tryz.underlying161 abw aDA
theorem Qr:dA Pg 164 (fm.enc (qT)) 0 0:=dC (by kernel_rfl)
theorem aBQ(x:oU):(fm.cells x).length=0:=by rfl
theorem aDB(x:oU):∀ v∈fm.cells x,v.oneCell'=true:=by
 show ∀ v∈oU.cells x,v.oneCell'=true
 simp only[oU.cells,List.forall_mem_append,List.forall_mem_cons,List.forall_mem_nil]
 exact fun _ h=>absurd h (List.not_mem_nil)
theorem aDe:cj Pg 164 fm 0:=iF Qr Tryz.underlying164 aBQ aDB
theorem aaH:dA Pg 173 (A3.enc (F3)) 4 32:=dC (by kernel_rfl)
theorem aBR(x:tt):(A3.cells x).length=4:=by rfl
theorem ace(x:tt):∀ v∈A3.cells x,v.oneCell'=true:=List.all_eq_true.1 rfl
theorem yJ:cj Pg 173 A3 4:=iF aaH Tryz.underlying173 aBR ace
theorem aaI:dA Pg 175 (A4.enc (ajM)) 7 56:=dC (by kernel_rfl)
theorem aBS(x:tu):(A4.cells x).length=7:=by rfl
theorem aDC(x:tu):∀ v∈A4.cells x,v.oneCell'=true:=by
 show ∀ v∈tu.cells x,v.oneCell'=true
 simp only[tu.cells,List.forall_mem_append,List.forall_mem_cons,List.forall_mem_nil]
 exact⟨ace _,⟨rfl,rfl,rfl,fun _ h=>absurd h (List.not_mem_nil)⟩⟩
theorem aDf:cj Pg 175 A4 7:=iF aaI Tryz.underlying175 aBS aDC
theorem aaJ:dA Pg 178 (Db.enc (ajN)) 4 48:=dC (by kernel_rfl)
theorem aBT(x:xr):(Db.cells x).length=4:=by rfl
theorem aDD(x:xr):∀ v∈Db.cells x,v.oneCell'=true:=List.all_eq_true.1 rfl
theorem aDg:cj Pg 178 Db 4:=iF aaJ Tryz.underlying178 aBT aDD
theorem aAM:dA Pg 180 (X.enc ((⟨none,0,0⟩:af))) 1 24:=dC (by kernel_rfl)
theorem abV:cj Pg 180 X 1:=hV aAM Tryz.underlying180
theorem aaK:dA Pg 182 (A5.enc (ajO)) 5 72:=dC (by kernel_rfl)
theorem aBU(x:v1):(A5.cells x).length=5:=by rfl
theorem aDE(x:v1):∀ v∈A5.cells x,v.oneCell'=true:=List.all_eq_true.1 rfl
theorem aDh:cj Pg 182 A5 5:=iF aaK Tryz.underlying182 aBU aDE
theorem aaL:dA Pg 189 (X.enc ((⟨none,0,0⟩:af))) 1 24:=dC (by kernel_rfl)
theorem vn:cj Pg 189 X 1:=hV aaL Tryz.underlying189
theorem Qs:dA Pg 190 (X.enc ((⟨none,0,0⟩:af))) 1 24:=dC (by kernel_rfl)
theorem vo:cj Pg 190 X 1:=hV Qs Tryz.underlying190
theorem aAN:dA Pg 194 (.int .i64 ((0:Int))) 1 8:=dC (by kernel_rfl)
theorem wV:cj Pg 194 (B .i64) 1:=hV aAN Tryz.underlying194
theorem aAO:dA Pg 195 (.int .u64 ((0:Int))) 1 8:=dC (by kernel_rfl)
theorem r7:cj Pg 195 (B .u64) 1:=hV aAO Tryz.underlying195
theorem wF:dA Pg 197 (gg.enc (ty)) 5 48:=dC (by kernel_rfl)
theorem abx(x:mP):(gg.cells x).length=5:=by rfl
theorem aDF(x:mP):∀ v∈gg.cells x,v.oneCell'=true:=List.all_eq_true.1 rfl
theorem lQ:cj Pg 197 gg 5:=iF wF Tryz.underlying197 abx aDF
theorem Qt:dA Pg 210 (mR.enc (qU)) 3 16:=dC (by kernel_rfl)
theorem BX(x:lx):(mR.cells x).length=3:=by rfl
theorem aDG(x:lx):∀ v∈mR.cells x,v.oneCell'=true:=List.all_eq_true.1 rfl
theorem KY:cj Pg 210 mR 3:=iF Qt Tryz.underlying210 BX aDG
theorem aAP:dA Pg 211 ((qA mR 2).enc ((Vector.replicate 2 qU))) 6 32:=dC (by kernel_rfl)
theorem Rd:cj Pg 211 (qA mR 2) 6:=⟨(aAP).imp fun _ h=>⟨h.1,h.2.2.1⟩,fun x=>by simp[DN KY.len],.inl ⟨_,Tryz.underlying211,rfl,fun _=>rfl⟩,fun _=>rfl,fun x v aJ=>by obtain⟨S,_,aB⟩:=List.mem_flatMap.1 aJ; exact KY.one S v aB⟩
theorem aaN:dA Pg 212 ((qA bf 2).enc ((Vector.replicate 2 false))) 2 2:=dC (by kernel_rfl)
theorem Re:cj Pg 212 (qA bf 2) 2:=⟨(aaN).imp fun _ h=>⟨h.1,h.2.2.1⟩,fun x=>by simp[DN oB.len],.inl ⟨_,Tryz.underlying212,rfl,fun _=>rfl⟩,fun _=>rfl,fun x v aJ=>by obtain⟨S,_,aB⟩:=List.mem_flatMap.1 aJ; exact oB.one S v aB⟩
theorem aaO:dA Pg 214 (Dc.enc (ajP)) 14 88:=dC (by kernel_rfl)
theorem aBV(x:sx):(Dc.cells x).length=14:=by
 show (sx.cells x).length=14
 simp only[sx.cells,List.length_append,List.length_cons,List.length_nil,Vector.length_toList,DN KY.len,DN oB.len,show ∀ S,(mx.cells S).length=4 from Ku]
theorem aDH(x:sx):∀ v∈Dc.cells x,v.oneCell'=true:=by
 show ∀ v∈sx.cells x,v.oneCell'=true
 simp only[sx.cells,List.forall_mem_append,List.forall_mem_cons,List.forall_mem_nil]
 exact⟨Rl _,Rd.one _,Re.one _,⟨rfl,rfl,fun _ h=>absurd h (List.not_mem_nil)⟩⟩
theorem aDi:cj Pg 214 Dc 14:=iF aaO Tryz.underlying214 aBV aDH
theorem aAQ:dA Pg 216 (.map ((none:Option Nat))) 1 8:=dC (by kernel_rfl)
theorem abW:cj Pg 216 ef 1:=hV aAQ Tryz.underlying216
theorem aaP:dA Pg 218 (p6.enc (ajQ)) 3 24:=dC (by kernel_rfl)
theorem aBW(x:xt):(p6.cells x).length=3:=by rfl
theorem aDI(x:xt):∀ v∈p6.cells x,v.oneCell'=true:=List.all_eq_true.1 rfl
theorem aDj:cj Pg 218 p6 3:=iF aaP Tryz.underlying218 aBW aDI
theorem aaQ:dA Pg 223 (Dd.enc (ajR)) 1 8:=dC (by kernel_rfl)
theorem aBX(x:xu):(Dd.cells x).length=1:=by rfl
theorem aDJ(x:xu):∀ v∈Dd.cells x,v.oneCell'=true:=List.all_eq_true.1 rfl
theorem aDk:cj Pg 223 Dd 1:=iF aaQ Tryz.underlying223 aBX aDJ
theorem aaR:dA Pg 236 (A6.enc (W_)) 2 16:=dC (by kernel_rfl)
theorem aBY(x:sy):(A6.cells x).length=2:=by rfl
theorem acf(x:sy):∀ v∈A6.cells x,v.oneCell'=true:=List.all_eq_true.1 rfl
theorem abX:cj Pg 236 A6 2:=iF aaR Tryz.underlying236 aBY acf
theorem aaS:dA Pg 238 (A7.enc (ajS)) 5 40:=dC (by kernel_rfl)
theorem aBZ(x:tv):(A7.cells x).length=5:=by rfl
theorem aDK(x:tv):∀ v∈A7.cells x,v.oneCell'=true:=by
 show ∀ v∈tv.cells x,v.oneCell'=true
 simp only[tv.cells,List.forall_mem_append,List.forall_mem_cons,List.forall_mem_nil]
 exact⟨acf _,⟨rfl,rfl,rfl,fun _ h=>absurd h (List.not_mem_nil)⟩⟩
theorem abY:cj Pg 238 A7 5:=iF aaS Tryz.underlying238 aBZ aDK
theorem aaU:dA Pg 257 (De.enc (ajT)) 2 32:=dC (by kernel_rfl)
theorem aB1(x:v2):(De.cells x).length=2:=by rfl
theorem aDL(x:v2):∀ v∈De.cells x,v.oneCell'=true:=List.all_eq_true.1 rfl
theorem abZ:cj Pg 257 De 2:=iF aaU Tryz.underlying257 aB1 aDL
theorem Hj:dA Pg 259 (jJ.enc (F4)) 1 8:=dC (by kernel_rfl)
theorem aB2(x:j0):(jJ.cells x).length=1:=by rfl
theorem aDM(x:j0):∀ v∈jJ.cells x,v.oneCell'=true:=List.all_eq_true.1 rfl
theorem Rf:cj Pg 259 jJ 1:=iF Hj Tryz.underlying259 aB2 aDM
theorem aaV:dA Pg 278 (Df.enc (Xa)) 2 32:=dC (by kernel_rfl)
theorem aB3(x:zt):(Df.cells x).length=2:=by rfl
theorem aDN(x:zt):∀ v∈Df.cells x,v.oneCell'=true:=List.all_eq_true.1 rfl
theorem aDm:cj Pg 278 Df 2:=iF aaV Tryz.underlying278 aB3 aDN
theorem aaW:dA Pg 290 (.pointer ((none:Option Addr))) 1 8:=dC (by kernel_rfl)
theorem aDn:cj Pg 290 aE 1:=hV aaW Tryz.underlying290
theorem Ki:dA Pg 292 (dD.enc (kj)) 2 16:=dC (by kernel_rfl)
theorem qf(x:eD):(dD.cells x).length=2:=by rfl
theorem aDO(x:eD):∀ v∈dD.cells x,v.oneCell'=true:=List.all_eq_true.1 rfl
theorem aDo:cj Pg 292 dD 2:=iF Ki Tryz.underlying292 qf aDO
theorem aAU:dA Pg 326 (X.enc ((⟨none,0,0⟩:af))) 1 24:=dC (by kernel_rfl)
theorem ab1:cj Pg 326 X 1:=hV aAU Tryz.underlying326
theorem aaX:dA Pg 328 (v5.enc (ajU)) 2 32:=dC (by kernel_rfl)
theorem aB4(x:xv):(v5.cells x).length=2:=by rfl
theorem aDP(x:xv):∀ v∈v5.cells x,v.oneCell'=true:=List.all_eq_true.1 rfl
theorem aDp:cj Pg 328 v5 2:=iF aaX Tryz.underlying328 aB4 aDP
theorem OH:dr Pg 7:=⟨_,Tryz.func7,rfl,by decide⟩
theorem Jy:dr Pg 8:=⟨_,Tryz.func8,rfl,by decide⟩
theorem OI:dr Pg 9:=⟨_,Tryz.func9,rfl,by decide⟩
theorem amA:dr Pg 10:=⟨_,Tryz.func10,rfl,by decide⟩
theorem amD:dr Pg 11:=⟨_,Tryz.func11,rfl,by decide⟩
theorem amG:dr Pg 12:=⟨_,Tryz.func12,rfl,by decide⟩
theorem YB:dr Pg 13:=⟨_,Tryz.func13,rfl,by decide⟩
theorem YC:dr Pg 14:=⟨_,Tryz.func14,rfl,by decide⟩
theorem DH:dr Pg 15:=⟨_,Tryz.func15,rfl,by decide⟩
theorem Jv:dr Pg 16:=⟨_,Tryz.func16,rfl,by decide⟩
theorem YD:dr Pg 17:=⟨_,Tryz.func17,rfl,by decide⟩
theorem OD:dr Pg 18:=⟨_,Tryz.func18,rfl,by decide⟩
theorem OG:dr Pg 19:=⟨_,Tryz.func19,rfl,by decide⟩
theorem YE:dr Pg 20:=⟨_,Tryz.func20,rfl,by decide⟩
theorem YF:dr Pg 21:=⟨_,Tryz.func21,rfl,by decide⟩
theorem Jw:dr Pg 22:=⟨_,Tryz.func22,rfl,by decide⟩
theorem DI:dr Pg 23:=⟨_,Tryz.func23,rfl,by decide⟩
theorem am3:dr Pg 24:=⟨_,Tryz.func24,rfl,by decide⟩
theorem YG:dr Pg 25:=⟨_,Tryz.func25,rfl,by decide⟩
theorem am5:dr Pg 26:=⟨_,Tryz.func26,rfl,by decide⟩
theorem am6:dr Pg 27:=⟨_,Tryz.func27,rfl,by decide⟩
theorem YH:dr Pg 28:=⟨_,Tryz.func28,rfl,by decide⟩
theorem am7:dr Pg 30:=⟨_,Tryz.func30,rfl,by decide⟩
theorem Jx:dr Pg 35:=⟨_,Tryz.func35,rfl,by decide⟩
theorem YI:dr Pg 36:=⟨_,Tryz.func36,rfl,by decide⟩
theorem YJ:dr Pg 37:=⟨_,Tryz.func37,rfl,by decide⟩
theorem am8:dr Pg 38:=⟨_,Tryz.func38,rfl,by decide⟩
theorem am9:dr Pg 39:=⟨_,Tryz.func39,rfl,by decide⟩
theorem ana:dr Pg 40:=⟨_,Tryz.func40,rfl,by decide⟩
theorem anb:dr Pg 41:=⟨_,Tryz.func41,rfl,by decide⟩
theorem anc:dr Pg 42:=⟨_,Tryz.func42,rfl,by decide⟩
theorem ane:dr Pg 43:=⟨_,Tryz.func43,rfl,by decide⟩
theorem YK:dr Pg 44:=⟨_,Tryz.func44,rfl,by decide⟩
theorem anf:dr Pg 45:=⟨_,Tryz.func45,rfl,by decide⟩
theorem YL:dr Pg 49:=⟨_,Tryz.func49,rfl,by decide⟩
theorem ang:dr Pg 62:=⟨_,Tryz.func62,rfl,by decide⟩
theorem anh:dr Pg 63:=⟨_,Tryz.func63,rfl,by decide⟩
theorem ani:dr Pg 68:=⟨_,Tryz.func68,rfl,by decide⟩
theorem anj:dr Pg 70:=⟨_,Tryz.func70,rfl,by decide⟩
theorem ank:dr Pg 72:=⟨_,Tryz.func72,rfl,by decide⟩
theorem anl:dr Pg 75:=⟨_,Tryz.func75,rfl,by decide⟩
theorem anm:dr Pg 77:=⟨_,Tryz.func77,rfl,by decide⟩
theorem ann:dr Pg 89:=⟨_,Tryz.func89,rfl,by decide⟩
theorem ano:dr Pg 93:=⟨_,Tryz.func93,rfl,by decide⟩
theorem amB:dr Pg 102:=⟨_,Tryz.func102,rfl,by decide⟩
theorem amC:dr Pg 104:=⟨_,Tryz.func104,rfl,by decide⟩
theorem YA:dr Pg 111:=⟨_,Tryz.func111,rfl,by decide⟩
theorem amE:dr Pg 112:=⟨_,Tryz.func112,rfl,by decide⟩
theorem amF:dr Pg 113:=⟨_,Tryz.func113,rfl,by decide⟩
theorem amH:dr Pg 120:=⟨_,Tryz.func120,rfl,by decide⟩
theorem amI:dr Pg 122:=⟨_,Tryz.func122,rfl,by decide⟩
theorem amJ:dr Pg 129:=⟨_,Tryz.func129,rfl,by decide⟩
theorem amK:dr Pg 142:=⟨_,Tryz.func142,rfl,by decide⟩
theorem amL:dr Pg 143:=⟨_,Tryz.func143,rfl,by decide⟩
theorem amM:dr Pg 144:=⟨_,Tryz.func144,rfl,by decide⟩
theorem amN:dr Pg 145:=⟨_,Tryz.func145,rfl,by decide⟩
theorem OC:dr Pg 146:=⟨_,Tryz.func146,rfl,by decide⟩
theorem amO:dr Pg 147:=⟨_,Tryz.func147,rfl,by decide⟩
theorem amP:dr Pg 178:=⟨_,Tryz.func178,rfl,by decide⟩
theorem amQ:dr Pg 185:=⟨_,Tryz.func185,rfl,by decide⟩
theorem OE:dr Pg 186:=⟨_,Tryz.func186,rfl,by decide⟩
theorem OF:dr Pg 187:=⟨_,Tryz.func187,rfl,by decide⟩
theorem amR:dr Pg 188:=⟨_,Tryz.func188,rfl,by decide⟩
theorem amS:dr Pg 189:=⟨_,Tryz.func189,rfl,by decide⟩
theorem amT:dr Pg 194:=⟨_,Tryz.func194,rfl,by decide⟩
theorem amU:dr Pg 197:=⟨_,Tryz.func197,rfl,by decide⟩
theorem amV:dr Pg 217:=⟨_,Tryz.func217,rfl,by decide⟩
theorem amW:dr Pg 218:=⟨_,Tryz.func218,rfl,by decide⟩
theorem amX:dr Pg 219:=⟨_,Tryz.func219,rfl,by decide⟩
theorem amY:dr Pg 220:=⟨_,Tryz.func220,rfl,by decide⟩
theorem amZ:dr Pg 221:=⟨_,Tryz.func221,rfl,by decide⟩
theorem am0:dr Pg 222:=⟨_,Tryz.func222,rfl,by decide⟩
theorem am1:dr Pg 223:=⟨_,Tryz.func223,rfl,by decide⟩
theorem am2:dr Pg 229:=⟨_,Tryz.func229,rfl,by decide⟩
theorem am4:dr Pg 255:=⟨_,Tryz.func255,rfl,by decide⟩
theorem mixed:Tryz.prog.follows .mixedOrders=true:=by kernel_rfl
theorem aEw(w:World):(((Tryz.prog.fieldsOf 24).toList).mapM fun f=>(do pure (f.offset,← sizeOf f.type):Sem (Nat×Nat))).run Pg w=.ok [(0,1),(1,1),(2,1),(3,1)] w:=by kernel_rfl
theorem aEz(w:World):(((Tryz.prog.fieldsOf 31).toList).mapM fun f=>(do pure (f.offset,← sizeOf f.type):Sem (Nat×Nat))).run Pg w=.ok [(0,1),(1,1),(2,1),(3,1)] w:=by kernel_rfl
theorem aEB(w:World):(((Tryz.prog.fieldsOf 53).toList).mapM fun f=>(do pure (f.offset,← sizeOf f.type):Sem (Nat×Nat))).run Pg w=.ok [(0,1),(1,1),(2,1)] w:=by kernel_rfl
theorem Rw(w:World):(((Tryz.prog.fieldsOf 60).toList).mapM fun f=>(do pure (f.offset,← sizeOf f.type):Sem (Nat×Nat))).run Pg w=.ok [(0,1),(1,1),(2,1),(3,1)] w:=by kernel_rfl
theorem acD(w:World):(((Tryz.prog.fieldsOf 62).toList).mapM fun f=>(do pure (f.offset,← sizeOf f.type):Sem (Nat×Nat))).run Pg w=.ok [(0,1),(1,4),(5,1),(6,1)] w:=by kernel_rfl
theorem acE(w:World):(((Tryz.prog.fieldsOf 64).toList).mapM fun f=>(do pure (f.offset,← sizeOf f.type):Sem (Nat×Nat))).run Pg w=.ok [(0,1),(1,1),(2,1),(3,7)] w:=by kernel_rfl
theorem aEC(w:World):(((Tryz.prog.fieldsOf 67).toList).mapM fun f=>(do pure (f.offset,← sizeOf f.type):Sem (Nat×Nat))).run Pg w=.ok [(0,1)] w:=by kernel_rfl
theorem aED(w:World):(((Tryz.prog.fieldsOf 72).toList).mapM fun f=>(do pure (f.offset,← sizeOf f.type):Sem (Nat×Nat))).run Pg w=.ok [(0,1),(1,1),(2,1),(3,1),(4,1),(5,1)] w:=by kernel_rfl
theorem aEE(w:World):(((Tryz.prog.fieldsOf 85).toList).mapM fun f=>(do pure (f.offset,← sizeOf f.type):Sem (Nat×Nat))).run Pg w=.ok [(0,1),(1,1)] w:=by kernel_rfl
theorem aEF(w:World):(((Tryz.prog.fieldsOf 87).toList).mapM fun f=>(do pure (f.offset,← sizeOf f.type):Sem (Nat×Nat))).run Pg w=.ok [(0,1),(1,1)] w:=by kernel_rfl
theorem aEg(w:World):(((Tryz.prog.fieldsOf 101).toList).mapM fun f=>(do pure (f.offset,← sizeOf f.type):Sem (Nat×Nat))).run Pg w=.ok [(0,1),(1,1),(2,1),(3,1),(4,1),(5,1),(6,1),(7,1),(8,1)] w:=by kernel_rfl
theorem acA(w:World):(((Tryz.prog.fieldsOf 104).toList).mapM fun f=>(do pure (f.offset,← sizeOf f.type):Sem (Nat×Nat))).run Pg w=.ok [(0,1),(1,1)] w:=by kernel_rfl
theorem aEh(w:World):(((Tryz.prog.fieldsOf 114).toList).mapM fun f=>(do pure (f.offset,← sizeOf f.type):Sem (Nat×Nat))).run Pg w=.ok [(0,4),(4,1),(5,1),(6,1),(7,1),(8,1)] w:=by kernel_rfl
theorem aEi(w:World):(((Tryz.prog.fieldsOf 135).toList).mapM fun f=>(do pure (f.offset,← sizeOf f.type):Sem (Nat×Nat))).run Pg w=.ok [(0,4),(4,1),(5,1)] w:=by kernel_rfl
theorem acB(w:World):(((Tryz.prog.fieldsOf 137).toList).mapM fun f=>(do pure (f.offset,← sizeOf f.type):Sem (Nat×Nat))).run Pg w=.ok [(0,1),(1,1)] w:=by kernel_rfl
theorem EE(w:World):(((Tryz.prog.fieldsOf 142).toList).mapM fun f=>(do pure (f.offset,← sizeOf f.type):Sem (Nat×Nat))).run Pg w=.ok [(0,1),(1,1),(2,1),(3,1),(4,1),(5,1)] w:=by kernel_rfl
theorem aEj(w:World):(((Tryz.prog.fieldsOf 150).toList).mapM fun f=>(do pure (f.offset,← sizeOf f.type):Sem (Nat×Nat))).run Pg w=.ok [(0,1),(1,1)] w:=by kernel_rfl
theorem aEk(w:World):(((Tryz.prog.fieldsOf 161).toList).mapM fun f=>(do pure (f.offset,← sizeOf f.type):Sem (Nat×Nat))).run Pg w=.ok [(0,1),(1,7)] w:=by kernel_rfl
theorem aEl(w:World):(((Tryz.prog.fieldsOf 164).toList).mapM fun f=>(do pure (f.offset,← sizeOf f.type):Sem (Nat×Nat))).run Pg w=.ok [] w:=by kernel_rfl
theorem aEm(w:World):(((Tryz.prog.fieldsOf 173).toList).mapM fun f=>(do pure (f.offset,← sizeOf f.type):Sem (Nat×Nat))).run Pg w=.ok [(0,1),(1,1),(2,1),(3,1)] w:=by kernel_rfl
theorem aEn(w:World):(((Tryz.prog.fieldsOf 175).toList).mapM fun f=>(do pure (f.offset,← sizeOf f.type):Sem (Nat×Nat))).run Pg w=.ok [(0,4),(4,1),(5,1),(6,1)] w:=by kernel_rfl
theorem aEo(w:World):(((Tryz.prog.fieldsOf 178).toList).mapM fun f=>(do pure (f.offset,← sizeOf f.type):Sem (Nat×Nat))).run Pg w=.ok [(0,1),(1,1),(2,1),(3,1)] w:=by kernel_rfl
theorem aEp(w:World):(((Tryz.prog.fieldsOf 182).toList).mapM fun f=>(do pure (f.offset,← sizeOf f.type):Sem (Nat×Nat))).run Pg w=.ok [(0,1),(1,1),(2,1),(3,1),(4,1)] w:=by kernel_rfl
theorem Rv(w:World):(((Tryz.prog.fieldsOf 197).toList).mapM fun f=>(do pure (f.offset,← sizeOf f.type):Sem (Nat×Nat))).run Pg w=.ok [(0,1),(1,1),(2,1),(3,1),(4,1)] w:=by kernel_rfl
theorem aEq(w:World):(((Tryz.prog.fieldsOf 210).toList).mapM fun f=>(do pure (f.offset,← sizeOf f.type):Sem (Nat×Nat))).run Pg w=.ok [(0,1),(1,1),(2,1)] w:=by kernel_rfl
theorem aEr(w:World):(((Tryz.prog.fieldsOf 214).toList).mapM fun f=>(do pure (f.offset,← sizeOf f.type):Sem (Nat×Nat))).run Pg w=.ok [(0,4),(4,6),(10,2),(12,1),(13,1)] w:=by kernel_rfl
theorem aEs(w:World):(((Tryz.prog.fieldsOf 218).toList).mapM fun f=>(do pure (f.offset,← sizeOf f.type):Sem (Nat×Nat))).run Pg w=.ok [(0,1),(1,1),(2,1)] w:=by kernel_rfl
theorem aEt(w:World):(((Tryz.prog.fieldsOf 223).toList).mapM fun f=>(do pure (f.offset,← sizeOf f.type):Sem (Nat×Nat))).run Pg w=.ok [(0,1)] w:=by kernel_rfl
theorem aEu(w:World):(((Tryz.prog.fieldsOf 236).toList).mapM fun f=>(do pure (f.offset,← sizeOf f.type):Sem (Nat×Nat))).run Pg w=.ok [(0,1),(1,1)] w:=by kernel_rfl
theorem aEv(w:World):(((Tryz.prog.fieldsOf 238).toList).mapM fun f=>(do pure (f.offset,← sizeOf f.type):Sem (Nat×Nat))).run Pg w=.ok [(0,2),(2,1),(3,1),(4,1)] w:=by kernel_rfl
theorem aEx(w:World):(((Tryz.prog.fieldsOf 257).toList).mapM fun f=>(do pure (f.offset,← sizeOf f.type):Sem (Nat×Nat))).run Pg w=.ok [(0,1),(1,1)] w:=by kernel_rfl
theorem aEy(w:World):(((Tryz.prog.fieldsOf 259).toList).mapM fun f=>(do pure (f.offset,← sizeOf f.type):Sem (Nat×Nat))).run Pg w=.ok [(0,1)] w:=by kernel_rfl
theorem acC(w:World):(((Tryz.prog.fieldsOf 292).toList).mapM fun f=>(do pure (f.offset,← sizeOf f.type):Sem (Nat×Nat))).run Pg w=.ok [(0,1),(1,1)] w:=by kernel_rfl
theorem aEA(w:World):(((Tryz.prog.fieldsOf 328).toList).mapM fun f=>(do pure (f.offset,← sizeOf f.type):Sem (Nat×Nat))).run Pg w=.ok [(0,1),(1,1)] w:=by kernel_rfl
theorem RM{n f w G bx dW a_ fS}(ai:G.op=.build 24 #[(0,bx),(3,dW)])(ah:ad n f bx=.int .i64 (a_))(aH:ad n f dW=.int .i64 (fS)):(execOp (ad n f) G).run Pg w=.ok (.value (g8.enc ⟨a_,(0:Nat),(0:Nat),fS⟩)) w:=
 gD (eB:=[(0,bx),(3,dW)]) (fi:=[(0,.int .i64 (a_)),(3,.int .i64 (fS))]) (a8:=kV.cells ⟨a_,(0:Nat),(0:Nat),fS⟩) ai Tryz.underlying24 aaT (by have:=aEw; simp only[Program.fieldsOf,Tryz.underlying24] at this; exact this) (by simp only[List.map_cons,List.map_nil,ah,aH]) (by kernel_rfl)
theorem RO{n f w G bx b9 fl dW a_ bM dV fS}(ai:G.op=.build 31 #[(0,bx),(1,b9),(2,fl),(3,dW)])(ah:ad n f bx=.int .i64 (a_))(I:ad n f b9=.int .i64 (bM))(O:ad n f fl=.int .i64 (dV))(aH:ad n f dW=.int .i64 (fS)):(execOp (ad n f) G).run Pg w=.ok (.value (gh.enc ⟨a_,bM,dV,fS⟩)) w:=
 gD (eB:=[(0,bx),(1,b9),(2,fl),(3,dW)]) (fi:=[(0,.int .i64 (a_)),(1,.int .i64 (bM)),(2,.int .i64 (dV)),(3,.int .i64 (fS))]) (a8:=mx.cells ⟨a_,bM,dV,fS⟩) ai Tryz.underlying31 Qu (by have:=aEz; simp only[Program.fieldsOf,Tryz.underlying31] at this; exact this) (by simp only[List.map_cons,List.map_nil,ah,I,O,aH]) (by kernel_rfl)
theorem RP{n f w G bx b9 fl a_ bM dV}(ai:G.op=.build 53 #[(0,bx),(1,b9),(2,fl)])(ah:ad n f bx=.int .i64 (a_))(I:ad n f b9=.int .i64 (bM))(O:ad n f fl=.int .i64 (dV)):(execOp (ad n f) G).run Pg w=.ok (.value (kh.enc ⟨a_,bM,dV⟩)) w:=
 gD (eB:=[(0,bx),(1,b9),(2,fl)]) (fi:=[(0,.int .i64 (a_)),(1,.int .i64 (bM)),(2,.int .i64 (dV))]) (a8:=eW.cells ⟨a_,bM,dV⟩) ai Tryz.underlying53 Qw (by have:=aEB; simp only[Program.fieldsOf,Tryz.underlying53] at this; exact this) (by simp only[List.map_cons,List.map_nil,ah,I,O]) (by kernel_rfl)
theorem RQ{n f w G bx a_}(ai:G.op=.build 60 #[(0,bx)])(ah:ad n f bx=.int .i64 (a_)):(execOp (ad n f) G).run Pg w=.ok (.value (gX.enc ⟨a_,(0:Int),(0:Int),false⟩)) w:=
 gD (eB:=[(0,bx)]) (fi:=[(0,.int .i64 (a_))]) (a8:=iv.cells ⟨a_,(0:Int),(0:Int),false⟩) ai Tryz.underlying60 Hk (by have:=Rw; simp only[Program.fieldsOf,Tryz.underlying60] at this; exact this) (by simp only[List.map_cons,List.map_nil,ah]) (by kernel_rfl)
theorem adh{n f w G bx b9 fl a_ bM dV}(ai:G.op=.build 60 #[(0,bx),(1,b9),(2,fl)])(ah:ad n f bx=.int .i64 (a_))(I:ad n f b9=.int .i64 (bM))(O:ad n f fl=.int .i64 (dV)):(execOp (ad n f) G).run Pg w=.ok (.value (gX.enc ⟨a_,bM,dV,false⟩)) w:=
 gD (eB:=[(0,bx),(1,b9),(2,fl)]) (fi:=[(0,.int .i64 (a_)),(1,.int .i64 (bM)),(2,.int .i64 (dV))]) (a8:=iv.cells ⟨a_,bM,dV,false⟩) ai Tryz.underlying60 Hk (by have:=Rw; simp only[Program.fieldsOf,Tryz.underlying60] at this; exact this) (by simp only[List.map_cons,List.map_nil,ah,I,O]) (by kernel_rfl)
theorem adi{n f w G bx b9 fl dW a_ bM dV fS}(ai:G.op=.build 60 #[(0,bx),(1,b9),(2,fl),(3,dW)])(ah:ad n f bx=.int .i64 (a_))(I:ad n f b9=.int .i64 (bM))(O:ad n f fl=.int .i64 (dV))(aH:ad n f dW=.bool (fS)):(execOp (ad n f) G).run Pg w=.ok (.value (gX.enc ⟨a_,bM,dV,fS⟩)) w:=
 gD (eB:=[(0,bx),(1,b9),(2,fl),(3,dW)]) (fi:=[(0,.int .i64 (a_)),(1,.int .i64 (bM)),(2,.int .i64 (dV)),(3,.bool (fS))]) (a8:=iv.cells ⟨a_,bM,dV,fS⟩) ai Tryz.underlying60 Hk (by have:=Rw; simp only[Program.fieldsOf,Tryz.underlying60] at this; exact this) (by simp only[List.map_cons,List.map_nil,ah,I,O,aH]) (by kernel_rfl)
theorem RR{n f w G bx b9 a_ bM}(ai:G.op=.build 62 #[(0,bx),(1,b9)])(ah:ad n f bx=.int .i64 (a_))(I:ad n f b9=gX.enc (bM)):(execOp (ad n f) G).run Pg w=.ok (.value (eE.enc ⟨a_,bM,false,(0:Int)⟩)) w:=
 gD (eB:=[(0,bx),(1,b9)]) (fi:=[(0,.int .i64 (a_)),(1,gX.enc (bM))]) (a8:=ij.cells ⟨a_,bM,false,(0:Int)⟩) ai Tryz.underlying62 Kk (by have:=acD; simp only[Program.fieldsOf,Tryz.underlying62] at this; exact this) (by simp only[List.map_cons,List.map_nil,ah,I]) (by kernel_rfl)
theorem adj{n f w G bx b9 fl dW a_ bM dV fS}(ai:G.op=.build 62 #[(0,bx),(1,b9),(2,fl),(3,dW)])(ah:ad n f bx=.int .i64 (a_))(I:ad n f b9=gX.enc (bM))(O:ad n f fl=.bool (dV))(aH:ad n f dW=.int .i64 (fS)):(execOp (ad n f) G).run Pg w=.ok (.value (eE.enc ⟨a_,bM,dV,fS⟩)) w:=
 gD (eB:=[(0,bx),(1,b9),(2,fl),(3,dW)]) (fi:=[(0,.int .i64 (a_)),(1,gX.enc (bM)),(2,.bool (dV)),(3,.int .i64 (fS))]) (a8:=ij.cells ⟨a_,bM,dV,fS⟩) ai Tryz.underlying62 Kk (by have:=acD; simp only[Program.fieldsOf,Tryz.underlying62] at this; exact this) (by simp only[List.map_cons,List.map_nil,ah,I,O,aH]) (by kernel_rfl)
theorem adk{n f w G }(ai:G.op=.build 64 #[]):(execOp (ad n f) G).run Pg w=.ok (.value (ew.enc ⟨(0:Int),(0:Int),(0:Int),uG⟩)) w:=
 gD (eB:=[]) (fi:=[]) (a8:=gW.cells ⟨(0:Int),(0:Int),(0:Int),uG⟩) ai Tryz.underlying64 Kl (by have:=acE; simp only[Program.fieldsOf,Tryz.underlying64] at this; exact this) (by simp only[List.map_cons,List.map_nil]) (by kernel_rfl)
theorem adl{n f w G bx b9 fl dW a_ bM dV fS}(ai:G.op=.build 64 #[(0,bx),(1,b9),(2,fl),(3,dW)])(ah:ad n f bx=.int .i64 (a_))(I:ad n f b9=.int .i64 (bM))(O:ad n f fl=.int .i64 (dV))(aH:ad n f dW=eE.enc (fS)):(execOp (ad n f) G).run Pg w=.ok (.value (ew.enc ⟨a_,bM,dV,fS⟩)) w:=
 gD (eB:=[(0,bx),(1,b9),(2,fl),(3,dW)]) (fi:=[(0,.int .i64 (a_)),(1,.int .i64 (bM)),(2,.int .i64 (dV)),(3,eE.enc (fS))]) (a8:=gW.cells ⟨a_,bM,dV,fS⟩) ai Tryz.underlying64 Kl (by have:=acE; simp only[Program.fieldsOf,Tryz.underlying64] at this; exact this) (by simp only[List.map_cons,List.map_nil,ah,I,O,aH]) (by kernel_rfl)
theorem adm{n f w G bx a_}(ai:G.op=.build 67 #[(0,bx)])(ah:ad n f bx=.pointer (a_)):(execOp (ad n f) G).run Pg w=.ok (.value (ds.enc ⟨a_⟩)) w:=
 gD (eB:=[(0,bx)]) (fi:=[(0,.pointer (a_))]) (a8:=mQ.cells ⟨a_⟩) ai Tryz.underlying67 aa3 (by have:=aEC; simp only[Program.fieldsOf,Tryz.underlying67] at this; exact this) (by simp only[List.map_cons,List.map_nil,ah]) (by kernel_rfl)
theorem adn{n f w G bx b9 dW c6 dH a_ bM fS lX vM}(ai:G.op=.build 72 #[(0,bx),(1,b9),(3,dW),(4,c6),(5,dH)])(ah:ad n f bx=ds.enc (a_))(I:ad n f b9=.float .f64 (bM))(aH:ad n f dW=.map (fS))(bg:ad n f c6=.map (lX))(dh:ad n f dH=.map (vM)):(execOp (ad n f) G).run Pg w=.ok (.value (A8.enc ⟨a_,bM,(0:Int),fS,lX,vM⟩)) w:=
 gD (eB:=[(0,bx),(1,b9),(3,dW),(4,c6),(5,dH)]) (fi:=[(0,ds.enc (a_)),(1,.float .f64 (bM)),(3,.map (fS)),(4,.map (lX)),(5,.map (vM))]) (a8:=tw.cells ⟨a_,bM,(0:Int),fS,lX,vM⟩) ai Tryz.underlying72 aa4 (by have:=aED; simp only[Program.fieldsOf,Tryz.underlying72] at this; exact this) (by simp only[List.map_cons,List.map_nil,ah,I,aH,bg,dh]) (by kernel_rfl)
theorem ado{n f w G bx b9 a_ bM}(ai:G.op=.build 85 #[(0,bx),(1,b9)])(ah:ad n f bx=.int .i64 (a_))(I:ad n f b9=X.enc (bM)):(execOp (ad n f) G).run Pg w=.ok (.value (p7.enc ⟨a_,bM⟩)) w:=
 gD (eB:=[(0,bx),(1,b9)]) (fi:=[(0,.int .i64 (a_)),(1,X.enc (bM))]) (a8:=my.cells ⟨a_,bM⟩) ai Tryz.underlying85 Qx (by have:=aEE; simp only[Program.fieldsOf,Tryz.underlying85] at this; exact this) (by simp only[List.map_cons,List.map_nil,ah,I]) (by kernel_rfl)
theorem adp{n f w G bx b9 a_ bM}(ai:G.op=.build 87 #[(0,bx),(1,b9)])(ah:ad n f bx=.int .i64 (a_))(I:ad n f b9=.int .i64 (bM)):(execOp (ad n f) G).run Pg w=.ok (.value (hL.enc ⟨a_,bM⟩)) w:=
 gD (eB:=[(0,bx),(1,b9)]) (fi:=[(0,.int .i64 (a_)),(1,.int .i64 (bM))]) (a8:=fu.cells ⟨a_,bM⟩) ai Tryz.underlying87 Qy (by have:=aEF; simp only[Program.fieldsOf,Tryz.underlying87] at this; exact this) (by simp only[List.map_cons,List.map_nil,ah,I]) (by kernel_rfl)
theorem RE{n f w G }(ai:G.op=.build 101 #[]):(execOp (ad n f) G).run Pg w=.ok (.value (A0.enc ⟨(none:Option Addr),(0:Int),(none:Option Addr),(none:Option Addr),(none:Option Addr),(none:Option Addr),(none:Option Nat),(none:Option Nat),(⟨none,0,0⟩:af)⟩)) w:=
 gD (eB:=[]) (fi:=[]) (a8:=uD.cells ⟨(none:Option Addr),(0:Int),(none:Option Addr),(none:Option Addr),(none:Option Addr),(none:Option Addr),(none:Option Nat),(none:Option Nat),(⟨none,0,0⟩:af)⟩) ai Tryz.underlying101 aaB (by have:=aEg; simp only[Program.fieldsOf,Tryz.underlying101] at this; exact this) (by simp only[List.map_cons,List.map_nil]) (by kernel_rfl)
theorem acS{n f w G bx a_}(ai:G.op=.build 104 #[(0,bx)])(ah:ad n f bx=.int .i64 (a_)):(execOp (ad n f) G).run Pg w=.ok (.value (lA.enc ⟨a_,(0:Int)⟩)) w:=
 gD (eB:=[(0,bx)]) (fi:=[(0,.int .i64 (a_))]) (a8:=qQ.cells ⟨a_,(0:Int)⟩) ai Tryz.underlying104 Kh (by have:=acA; simp only[Program.fieldsOf,Tryz.underlying104] at this; exact this) (by simp only[List.map_cons,List.map_nil,ah]) (by kernel_rfl)
theorem acT{n f w G bx b9 a_ bM}(ai:G.op=.build 104 #[(0,bx),(1,b9)])(ah:ad n f bx=.int .i64 (a_))(I:ad n f b9=.int .i64 (bM)):(execOp (ad n f) G).run Pg w=.ok (.value (lA.enc ⟨a_,bM⟩)) w:=
 gD (eB:=[(0,bx),(1,b9)]) (fi:=[(0,.int .i64 (a_)),(1,.int .i64 (bM))]) (a8:=qQ.cells ⟨a_,bM⟩) ai Tryz.underlying104 Kh (by have:=acA; simp only[Program.fieldsOf,Tryz.underlying104] at this; exact this) (by simp only[List.map_cons,List.map_nil,ah,I]) (by kernel_rfl)
theorem RF{n f w G bx b9 c6 a_ bM lX}(ai:G.op=.build 114 #[(0,bx),(1,b9),(4,c6)])(ah:ad n f bx=g8.enc (a_))(I:ad n f b9=.int .i64 (bM))(bg:ad n f c6=.map (lX)):(execOp (ad n f) G).run Pg w=.ok (.value (A1.enc ⟨a_,bM,(⟨none,0,0⟩:af),(none:Option Addr),lX,(⟨none,0,0⟩:af)⟩)) w:=
 gD (eB:=[(0,bx),(1,b9),(4,c6)]) (fi:=[(0,g8.enc (a_)),(1,.int .i64 (bM)),(4,.map (lX))]) (a8:=rI.cells ⟨a_,bM,(⟨none,0,0⟩:af),(none:Option Addr),lX,(⟨none,0,0⟩:af)⟩) ai Tryz.underlying114 aaD (by have:=aEh; simp only[Program.fieldsOf,Tryz.underlying114] at this; exact this) (by simp only[List.map_cons,List.map_nil,ah,I,bg]) (by kernel_rfl)
theorem acU{n f w G bx b9 fl a_ bM dV}(ai:G.op=.build 135 #[(0,bx),(1,b9),(2,fl)])(ah:ad n f bx=gX.enc (a_))(I:ad n f b9=.int .i64 (bM))(O:ad n f fl=.int .i64 (dV)):(execOp (ad n f) G).run Pg w=.ok (.value (ix.enc ⟨a_,bM,dV⟩)) w:=
 gD (eB:=[(0,bx),(1,b9),(2,fl)]) (fi:=[(0,gX.enc (a_)),(1,.int .i64 (bM)),(2,.int .i64 (dV))]) (a8:=rJ.cells ⟨a_,bM,dV⟩) ai Tryz.underlying135 Qp (by have:=aEi; simp only[Program.fieldsOf,Tryz.underlying135] at this; exact this) (by simp only[List.map_cons,List.map_nil,ah,I,O]) (by kernel_rfl)
theorem EJ{n f w G }(ai:G.op=.build 137 #[]):(execOp (ad n f) G).run Pg w=.ok (.value (cG.enc ⟨(0:Int),(0:Int)⟩)) w:=
 gD (eB:=[]) (fi:=[]) (a8:=jt.cells ⟨(0:Int),(0:Int)⟩) ai Tryz.underlying137 BT (by have:=acB; simp only[Program.fieldsOf,Tryz.underlying137] at this; exact this) (by simp only[List.map_cons,List.map_nil]) (by kernel_rfl)
theorem acV{n f w G bx b9 a_ bM}(ai:G.op=.build 137 #[(0,bx),(1,b9)])(ah:ad n f bx=.int .i64 (a_))(I:ad n f b9=.int .i64 (bM)):(execOp (ad n f) G).run Pg w=.ok (.value (cG.enc ⟨a_,bM⟩)) w:=
 gD (eB:=[(0,bx),(1,b9)]) (fi:=[(0,.int .i64 (a_)),(1,.int .i64 (bM))]) (a8:=jt.cells ⟨a_,bM⟩) ai Tryz.underlying137 BT (by have:=acB; simp only[Program.fieldsOf,Tryz.underlying137] at this; exact this) (by simp only[List.map_cons,List.map_nil,ah,I]) (by kernel_rfl)
theorem HR{n f w G }(ai:G.op=.build 142 #[]):(execOp (ad n f) G).run Pg w=.ok (.value (fL.enc ⟨(0:Int),(0:Int),(0:Int),(0:Int),(0:Int),false⟩)) w:=
 gD (eB:=[]) (fi:=[]) (a8:=jI.cells ⟨(0:Int),(0:Int),(0:Int),(0:Int),(0:Int),false⟩) ai Tryz.underlying142 wE (by have:=EE; simp only[Program.fieldsOf,Tryz.underlying142] at this; exact this) (by simp only[List.map_cons,List.map_nil]) (by kernel_rfl)
theorem acW{n f w G bx b9 a_ bM}(ai:G.op=.build 142 #[(0,bx),(1,b9)])(ah:ad n f bx=.int .i64 (a_))(I:ad n f b9=.int .i64 (bM)):(execOp (ad n f) G).run Pg w=.ok (.value (fL.enc ⟨a_,bM,(0:Int),(0:Int),(0:Int),false⟩)) w:=
 gD (eB:=[(0,bx),(1,b9)]) (fi:=[(0,.int .i64 (a_)),(1,.int .i64 (bM))]) (a8:=jI.cells ⟨a_,bM,(0:Int),(0:Int),(0:Int),false⟩) ai Tryz.underlying142 wE (by have:=EE; simp only[Program.fieldsOf,Tryz.underlying142] at this; exact this) (by simp only[List.map_cons,List.map_nil,ah,I]) (by kernel_rfl)
theorem RG{n f w G bx b9 fl a_ bM dV}(ai:G.op=.build 142 #[(0,bx),(1,b9),(2,fl)])(ah:ad n f bx=.int .i64 (a_))(I:ad n f b9=.int .i64 (bM))(O:ad n f fl=.int .i64 (dV)):(execOp (ad n f) G).run Pg w=.ok (.value (fL.enc ⟨a_,bM,dV,(0:Int),(0:Int),false⟩)) w:=
 gD (eB:=[(0,bx),(1,b9),(2,fl)]) (fi:=[(0,.int .i64 (a_)),(1,.int .i64 (bM)),(2,.int .i64 (dV))]) (a8:=jI.cells ⟨a_,bM,dV,(0:Int),(0:Int),false⟩) ai Tryz.underlying142 wE (by have:=EE; simp only[Program.fieldsOf,Tryz.underlying142] at this; exact this) (by simp only[List.map_cons,List.map_nil,ah,I,O]) (by kernel_rfl)
theorem RH{n f w G bx b9 fl dW c6 dH a_ bM dV fS lX vM}(ai:G.op=.build 142 #[(0,bx),(1,b9),(2,fl),(3,dW),(4,c6),(5,dH)])(ah:ad n f bx=.int .i64 (a_))(I:ad n f b9=.int .i64 (bM))(O:ad n f fl=.int .i64 (dV))(aH:ad n f dW=.int .i64 (fS))(bg:ad n f c6=.int .i64 (lX))(dh:ad n f dH=.bool (vM)):(execOp (ad n f) G).run Pg w=.ok (.value (fL.enc ⟨a_,bM,dV,fS,lX,vM⟩)) w:=
 gD (eB:=[(0,bx),(1,b9),(2,fl),(3,dW),(4,c6),(5,dH)]) (fi:=[(0,.int .i64 (a_)),(1,.int .i64 (bM)),(2,.int .i64 (dV)),(3,.int .i64 (fS)),(4,.int .i64 (lX)),(5,.bool (vM))]) (a8:=jI.cells ⟨a_,bM,dV,fS,lX,vM⟩) ai Tryz.underlying142 wE (by have:=EE; simp only[Program.fieldsOf,Tryz.underlying142] at this; exact this) (by simp only[List.map_cons,List.map_nil,ah,I,O,aH,bg,dh]) (by kernel_rfl)
theorem acX{n f w G bx b9 dW c6 a_ bM fS lX}(ai:G.op=.build 142 #[(0,bx),(1,b9),(3,dW),(4,c6)])(ah:ad n f bx=.int .i64 (a_))(I:ad n f b9=.int .i64 (bM))(aH:ad n f dW=.int .i64 (fS))(bg:ad n f c6=.int .i64 (lX)):(execOp (ad n f) G).run Pg w=.ok (.value (fL.enc ⟨a_,bM,(0:Int),fS,lX,false⟩)) w:=
 gD (eB:=[(0,bx),(1,b9),(3,dW),(4,c6)]) (fi:=[(0,.int .i64 (a_)),(1,.int .i64 (bM)),(3,.int .i64 (fS)),(4,.int .i64 (lX))]) (a8:=jI.cells ⟨a_,bM,(0:Int),fS,lX,false⟩) ai Tryz.underlying142 wE (by have:=EE; simp only[Program.fieldsOf,Tryz.underlying142] at this; exact this) (by simp only[List.map_cons,List.map_nil,ah,I,aH,bg]) (by kernel_rfl)
theorem RI{n f w G bx fl a_ dV}(ai:G.op=.build 142 #[(0,bx),(2,fl)])(ah:ad n f bx=.int .i64 (a_))(O:ad n f fl=.int .i64 (dV)):(execOp (ad n f) G).run Pg w=.ok (.value (fL.enc ⟨a_,(0:Int),dV,(0:Int),(0:Int),false⟩)) w:=
 gD (eB:=[(0,bx),(2,fl)]) (fi:=[(0,.int .i64 (a_)),(2,.int .i64 (dV))]) (a8:=jI.cells ⟨a_,(0:Int),dV,(0:Int),(0:Int),false⟩) ai Tryz.underlying142 wE (by have:=EE; simp only[Program.fieldsOf,Tryz.underlying142] at this; exact this) (by simp only[List.map_cons,List.map_nil,ah,O]) (by kernel_rfl)
theorem acY{n f w G bx b9 a_ bM}(ai:G.op=.build 150 #[(0,bx),(1,b9)])(ah:ad n f bx=.pointer (a_))(I:ad n f b9=.pointer (bM)):(execOp (ad n f) G).run Pg w=.ok (.value (A2.enc ⟨a_,bM⟩)) w:=
 gD (eB:=[(0,bx),(1,b9)]) (fi:=[(0,.pointer (a_)),(1,.pointer (bM))]) (a8:=xq.cells ⟨a_,bM⟩) ai Tryz.underlying150 aaG (by have:=aEj; simp only[Program.fieldsOf,Tryz.underlying150] at this; exact this) (by simp only[List.map_cons,List.map_nil,ah,I]) (by kernel_rfl)
theorem acZ{n f w G bx b9 a_ bM}(ai:G.op=.build 161 #[(0,bx),(1,b9)])(ah:ad n f bx=.int .i64 (a_))(I:ad n f b9=eE.enc (bM)):(execOp (ad n f) G).run Pg w=.ok (.value (v4.enc ⟨a_,bM⟩)) w:=
 gD (eB:=[(0,bx),(1,b9)]) (fi:=[(0,.int .i64 (a_)),(1,eE.enc (bM))]) (a8:=ts.cells ⟨a_,bM⟩) ai Tryz.underlying161 Qq (by have:=aEk; simp only[Program.fieldsOf,Tryz.underlying161] at this; exact this) (by simp only[List.map_cons,List.map_nil,ah,I]) (by kernel_rfl)
theorem ac0{n f w G }(ai:G.op=.build 164 #[]):(execOp (ad n f) G).run Pg w=.ok (.value (fm.enc ⟨⟩)) w:=
 gD (eB:=[]) (fi:=[]) (a8:=oU.cells ⟨⟩) ai Tryz.underlying164 Qr (by have:=aEl; simp only[Program.fieldsOf,Tryz.underlying164] at this; exact this) (by simp only[List.map_cons,List.map_nil]) (by kernel_rfl)
theorem ac1{n f w G bx b9 fl dW a_ bM dV fS}(ai:G.op=.build 173 #[(0,bx),(1,b9),(2,fl),(3,dW)])(ah:ad n f bx=.int .i64 (a_))(I:ad n f b9=.int .i64 (bM))(O:ad n f fl=.int .i64 (dV))(aH:ad n f dW=.bool (fS)):(execOp (ad n f) G).run Pg w=.ok (.value (A3.enc ⟨a_,bM,dV,fS⟩)) w:=
 gD (eB:=[(0,bx),(1,b9),(2,fl),(3,dW)]) (fi:=[(0,.int .i64 (a_)),(1,.int .i64 (bM)),(2,.int .i64 (dV)),(3,.bool (fS))]) (a8:=tt.cells ⟨a_,bM,dV,fS⟩) ai Tryz.underlying173 aaH (by have:=aEm; simp only[Program.fieldsOf,Tryz.underlying173] at this; exact this) (by simp only[List.map_cons,List.map_nil,ah,I,O,aH]) (by kernel_rfl)
theorem ac2{n f w G b9 bM}(ai:G.op=.build 175 #[(1,b9)])(I:ad n f b9=.float .f64 (bM)):(execOp (ad n f) G).run Pg w=.ok (.value (A4.enc ⟨F3,bM,(0:Int),(0:Int)⟩)) w:=
 gD (eB:=[(1,b9)]) (fi:=[(1,.float .f64 (bM))]) (a8:=tu.cells ⟨F3,bM,(0:Int),(0:Int)⟩) ai Tryz.underlying175 aaI (by have:=aEn; simp only[Program.fieldsOf,Tryz.underlying175] at this; exact this) (by simp only[List.map_cons,List.map_nil,I]) (by kernel_rfl)
theorem ac3{n f w G bx dW a_ fS}(ai:G.op=.build 178 #[(0,bx),(3,dW)])(ah:ad n f bx=.int .i64 (a_))(aH:ad n f dW=.map (fS)):(execOp (ad n f) G).run Pg w=.ok (.value (Db.enc ⟨a_,(0:Int),(⟨none,0,0⟩:af),fS⟩)) w:=
 gD (eB:=[(0,bx),(3,dW)]) (fi:=[(0,.int .i64 (a_)),(3,.map (fS))]) (a8:=xr.cells ⟨a_,(0:Int),(⟨none,0,0⟩:af),fS⟩) ai Tryz.underlying178 aaJ (by have:=aEo; simp only[Program.fieldsOf,Tryz.underlying178] at this; exact this) (by simp only[List.map_cons,List.map_nil,ah,aH]) (by kernel_rfl)
theorem ac4{n f w G bx a_}(ai:G.op=.build 182 #[(0,bx)])(ah:ad n f bx=X.enc (a_)):(execOp (ad n f) G).run Pg w=.ok (.value (A5.enc ⟨a_,(0:Int),false,(0:Int),(⟨none,0,0⟩:af)⟩)) w:=
 gD (eB:=[(0,bx)]) (fi:=[(0,X.enc (a_))]) (a8:=v1.cells ⟨a_,(0:Int),false,(0:Int),(⟨none,0,0⟩:af)⟩) ai Tryz.underlying182 aaK (by have:=aEp; simp only[Program.fieldsOf,Tryz.underlying182] at this; exact this) (by simp only[List.map_cons,List.map_nil,ah]) (by kernel_rfl)
theorem RJ{n f w G bx a_}(ai:G.op=.build 197 #[(0,bx)])(ah:ad n f bx=.int .i64 (a_)):(execOp (ad n f) G).run Pg w=.ok (.value (gg.enc ⟨a_,(0:Int),(0:Int),(0:Nat),([]:List UInt8)⟩)) w:=
 gD (eB:=[(0,bx)]) (fi:=[(0,.int .i64 (a_))]) (a8:=mP.cells ⟨a_,(0:Int),(0:Int),(0:Nat),([]:List UInt8)⟩) ai Tryz.underlying197 wF (by have:=Rv; simp only[Program.fieldsOf,Tryz.underlying197] at this; exact this) (by simp only[List.map_cons,List.map_nil,ah]) (by kernel_rfl)
theorem ac5{n f w G bx b9 a_ bM}(ai:G.op=.build 197 #[(0,bx),(1,b9)])(ah:ad n f bx=.int .i64 (a_))(I:ad n f b9=.int .u64 (bM)):(execOp (ad n f) G).run Pg w=.ok (.value (gg.enc ⟨a_,bM,(0:Int),(0:Nat),([]:List UInt8)⟩)) w:=
 gD (eB:=[(0,bx),(1,b9)]) (fi:=[(0,.int .i64 (a_)),(1,.int .u64 (bM))]) (a8:=mP.cells ⟨a_,bM,(0:Int),(0:Nat),([]:List UInt8)⟩) ai Tryz.underlying197 wF (by have:=Rv; simp only[Program.fieldsOf,Tryz.underlying197] at this; exact this) (by simp only[List.map_cons,List.map_nil,ah,I]) (by kernel_rfl)
theorem ac6{n f w G bx fl a_ dV}(ai:G.op=.build 197 #[(0,bx),(2,fl)])(ah:ad n f bx=.int .i64 (a_))(O:ad n f fl=.int .i64 (dV)):(execOp (ad n f) G).run Pg w=.ok (.value (gg.enc ⟨a_,(0:Int),dV,(0:Nat),([]:List UInt8)⟩)) w:=
 gD (eB:=[(0,bx),(2,fl)]) (fi:=[(0,.int .i64 (a_)),(2,.int .i64 (dV))]) (a8:=mP.cells ⟨a_,(0:Int),dV,(0:Nat),([]:List UInt8)⟩) ai Tryz.underlying197 wF (by have:=Rv; simp only[Program.fieldsOf,Tryz.underlying197] at this; exact this) (by simp only[List.map_cons,List.map_nil,ah,O]) (by kernel_rfl)
theorem ac7{n f w G bx b9 a_ bM}(ai:G.op=.build 210 #[(0,bx),(1,b9)])(ah:ad n f bx=.bool (a_))(I:ad n f b9=.bool (bM)):(execOp (ad n f) G).run Pg w=.ok (.value (mR.enc ⟨a_,bM,(0:Int)⟩)) w:=
 gD (eB:=[(0,bx),(1,b9)]) (fi:=[(0,.bool (a_)),(1,.bool (bM))]) (a8:=lx.cells ⟨a_,bM,(0:Int)⟩) ai Tryz.underlying210 Qt (by have:=aEq; simp only[Program.fieldsOf,Tryz.underlying210] at this; exact this) (by simp only[List.map_cons,List.map_nil,ah,I]) (by kernel_rfl)
theorem ac8{n f w G bx b9 a_ bM}(ai:G.op=.build 212 #[(0,bx),(1,b9)])(ah:ad n f bx=.bool (a_))(I:ad n f b9=.bool (bM)):(execOp (ad n f) G).run Pg w=.ok (.value ((qA bf 2).enc (⟨#[a_,bM],rfl⟩:(Vector Bool 2)))) w:=
 aE1 (eB:=[(0,bx),(1,b9)]) (fi:=[(0,.bool (a_)),(1,.bool (bM))]) (a8:=(qA bf 2).cells (⟨#[a_,bM],rfl⟩:(Vector Bool 2))) ai Tryz.underlying212 aaN oB.size (by simp only[List.map_cons,List.map_nil,ah,I]) (by rfl)
theorem ac9{n f w G bx a_}(ai:G.op=.build 214 #[(0,bx)])(ah:ad n f bx=gh.enc (a_)):(execOp (ad n f) G).run Pg w=.ok (.value (Dc.enc ⟨a_,(Vector.replicate 2 qU),(Vector.replicate 2 false),(0:Int),(0:Int)⟩)) w:=
 gD (eB:=[(0,bx)]) (fi:=[(0,gh.enc (a_))]) (a8:=sx.cells ⟨a_,(Vector.replicate 2 qU),(Vector.replicate 2 false),(0:Int),(0:Int)⟩) ai Tryz.underlying214 aaO (by have:=aEr; simp only[Program.fieldsOf,Tryz.underlying214] at this; exact this) (by simp only[List.map_cons,List.map_nil,ah]) (by kernel_rfl)
theorem ada{n f w G bx a_}(ai:G.op=.build 218 #[(0,bx)])(ah:ad n f bx=.map (a_)):(execOp (ad n f) G).run Pg w=.ok (.value (p6.enc ⟨a_,(0:Int),(0:Int)⟩)) w:=
 gD (eB:=[(0,bx)]) (fi:=[(0,.map (a_))]) (a8:=xt.cells ⟨a_,(0:Int),(0:Int)⟩) ai Tryz.underlying218 aaP (by have:=aEs; simp only[Program.fieldsOf,Tryz.underlying218] at this; exact this) (by simp only[List.map_cons,List.map_nil,ah]) (by kernel_rfl)
theorem adb{n f w G }(ai:G.op=.build 223 #[]):(execOp (ad n f) G).run Pg w=.ok (.value (Dd.enc ⟨(0:Int)⟩)) w:=
 gD (eB:=[]) (fi:=[]) (a8:=xu.cells ⟨(0:Int)⟩) ai Tryz.underlying223 aaQ (by have:=aEt; simp only[Program.fieldsOf,Tryz.underlying223] at this; exact this) (by simp only[List.map_cons,List.map_nil]) (by kernel_rfl)
theorem RK{n f w G bx b9 a_ bM}(ai:G.op=.build 236 #[(0,bx),(1,b9)])(ah:ad n f bx=.int .i64 (a_))(I:ad n f b9=.int .i64 (bM)):(execOp (ad n f) G).run Pg w=.ok (.value (A6.enc ⟨a_,bM⟩)) w:=
 gD (eB:=[(0,bx),(1,b9)]) (fi:=[(0,.int .i64 (a_)),(1,.int .i64 (bM))]) (a8:=sy.cells ⟨a_,bM⟩) ai Tryz.underlying236 aaR (by have:=aEu; simp only[Program.fieldsOf,Tryz.underlying236] at this; exact this) (by simp only[List.map_cons,List.map_nil,ah,I]) (by kernel_rfl)
theorem RL{n f w G bx b9 fl a_ bM dV}(ai:G.op=.build 238 #[(0,bx),(1,b9),(2,fl)])(ah:ad n f bx=A6.enc (a_))(I:ad n f b9=.pointer (bM))(O:ad n f fl=.int .i64 (dV)):(execOp (ad n f) G).run Pg w=.ok (.value (A7.enc ⟨a_,bM,dV,false⟩)) w:=
 gD (eB:=[(0,bx),(1,b9),(2,fl)]) (fi:=[(0,A6.enc (a_)),(1,.pointer (bM)),(2,.int .i64 (dV))]) (a8:=tv.cells ⟨a_,bM,dV,false⟩) ai Tryz.underlying238 aaS (by have:=aEv; simp only[Program.fieldsOf,Tryz.underlying238] at this; exact this) (by simp only[List.map_cons,List.map_nil,ah,I,O]) (by kernel_rfl)
theorem RN{n f w G bx a_}(ai:G.op=.build 257 #[(0,bx)])(ah:ad n f bx=X.enc (a_)):(execOp (ad n f) G).run Pg w=.ok (.value (De.enc ⟨a_,(0:Int)⟩)) w:=
 gD (eB:=[(0,bx)]) (fi:=[(0,X.enc (a_))]) (a8:=v2.cells ⟨a_,(0:Int)⟩) ai Tryz.underlying257 aaU (by have:=aEx; simp only[Program.fieldsOf,Tryz.underlying257] at this; exact this) (by simp only[List.map_cons,List.map_nil,ah]) (by kernel_rfl)
theorem yU{n f w G bx a_}(ai:G.op=.build 259 #[(0,bx)])(ah:ad n f bx=.int .i64 (a_)):(execOp (ad n f) G).run Pg w=.ok (.value (jJ.enc ⟨a_⟩)) w:=
 gD (eB:=[(0,bx)]) (fi:=[(0,.int .i64 (a_))]) (a8:=j0.cells ⟨a_⟩) ai Tryz.underlying259 Hj (by have:=aEy; simp only[Program.fieldsOf,Tryz.underlying259] at this; exact this) (by simp only[List.map_cons,List.map_nil,ah]) (by kernel_rfl)
theorem ade{n f w G }(ai:G.op=.build 292 #[]):(execOp (ad n f) G).run Pg w=.ok (.value (dD.enc ⟨(0:Int),(0:Int)⟩)) w:=
 gD (eB:=[]) (fi:=[]) (a8:=eD.cells ⟨(0:Int),(0:Int)⟩) ai Tryz.underlying292 Ki (by have:=acC; simp only[Program.fieldsOf,Tryz.underlying292] at this; exact this) (by simp only[List.map_cons,List.map_nil]) (by kernel_rfl)
theorem adf{n f w G bx b9 a_ bM}(ai:G.op=.build 292 #[(0,bx),(1,b9)])(ah:ad n f bx=.int .i64 (a_))(I:ad n f b9=.int .i64 (bM)):(execOp (ad n f) G).run Pg w=.ok (.value (dD.enc ⟨a_,bM⟩)) w:=
 gD (eB:=[(0,bx),(1,b9)]) (fi:=[(0,.int .i64 (a_)),(1,.int .i64 (bM))]) (a8:=eD.cells ⟨a_,bM⟩) ai Tryz.underlying292 Ki (by have:=acC; simp only[Program.fieldsOf,Tryz.underlying292] at this; exact this) (by simp only[List.map_cons,List.map_nil,ah,I]) (by kernel_rfl)
theorem adg{n f w G }(ai:G.op=.build 328 #[]):(execOp (ad n f) G).run Pg w=.ok (.value (v5.enc ⟨(⟨none,0,0⟩:af),(0:Int)⟩)) w:=
 gD (eB:=[]) (fi:=[]) (a8:=xv.cells ⟨(⟨none,0,0⟩:af),(0:Int)⟩) ai Tryz.underlying328 aaX (by have:=aEA; simp only[Program.fieldsOf,Tryz.underlying328] at this; exact this) (by simp only[List.map_cons,List.map_nil]) (by kernel_rfl)
def eW.gZ(x S:eW):Bool:=((x.aD==S.aD)&&((x.og==S.og)&&((x.bW==S.bW)&&true)))
theorem anq{d:Nat}{w:World}(x S:eW):(Op.equalIn (d+2) 53 (.agg (eW.cells x).toArray) (.agg (eW.cells S).toArray)).run Pg w=.ok (eW.gZ x S) w:=
 Gx Tryz.underlying53 (by kernel_rfl) (o1 (by decide) (jc Tryz.underlying3 rfl rfl) (jc Tryz.underlying3 rfl rfl) (tI Tryz.underlying3) (o1 (by decide) (jc Tryz.underlying38 rfl rfl) (jc Tryz.underlying38 rfl rfl) (tI Tryz.underlying38) (o1 (by decide) (jc Tryz.underlying2 rfl rfl) (jc Tryz.underlying2 rfl rfl) (tI Tryz.underlying2) Gw)))
theorem Gu(x S:eW):Tryz.prog.eqGuardType Tryz.prog.depth 53=false∧∀ w,(Op.equalIn 10000 53 (.agg (eW.cells x).toArray) (.agg (eW.cells S).toArray)).run Pg w=.ok (eW.gZ x S) w:=
 ⟨by kernel_rfl,fun _=>anq (d:=9998) x S⟩
def iv.gZ(x S:iv):Bool:=((x.aD==S.aD)&&((x.b5==S.b5)&&((x.b==S.b)&&((x.h8==S.h8)&&true))))
theorem anr{d:Nat}{w:World}(x S:iv):(Op.equalIn (d+2) 60 (.agg (iv.cells x).toArray) (.agg (iv.cells S).toArray)).run Pg w=.ok (iv.gZ x S) w:=
 Gx Tryz.underlying60 (by kernel_rfl) (o1 (by decide) (jc Tryz.underlying3 rfl rfl) (jc Tryz.underlying3 rfl rfl) (tI Tryz.underlying3) (o1 (by decide) (jc Tryz.underlying3 rfl rfl) (jc Tryz.underlying3 rfl rfl) (tI Tryz.underlying3) (o1 (by decide) (jc Tryz.underlying2 rfl rfl) (jc Tryz.underlying2 rfl rfl) (tI Tryz.underlying2) (o1 (by decide) (jc Tryz.underlying4 rfl rfl) (jc Tryz.underlying4 rfl rfl) (JA Tryz.underlying4) Gw))))
def ij.gZ(x S:ij):Bool:=((x.Kind==S.Kind)&&((iv.gZ x.Part S.Part)&&((x.jK==S.jK)&&((x.bW==S.bW)&&true))))
theorem ans{d:Nat}{w:World}(x S:ij):(Op.equalIn (d+3) 62 (.agg (ij.cells x).toArray) (.agg (ij.cells S).toArray)).run Pg w=.ok (ij.gZ x S) w:=
 Gx Tryz.underlying62 (by kernel_rfl) (o1 (by decide) (jc Tryz.underlying3 rfl rfl) (jc Tryz.underlying3 rfl rfl) (tI Tryz.underlying3) (o1 (by decide) (H6 Tryz.underlying60 rfl Ex.size rfl) (H6 Tryz.underlying60 rfl Ex.size rfl) (anr (d:=d) _ _) (o1 (by decide) (jc Tryz.underlying4 rfl rfl) (jc Tryz.underlying4 rfl rfl) (JA Tryz.underlying4) (o1 (by decide) (jc Tryz.underlying2 rfl rfl) (jc Tryz.underlying2 rfl rfl) (tI Tryz.underlying2) Gw))))
def gW.gZ(x S:gW):Bool:=((x.aD==S.aD)&&((x.fC==S.fC)&&((x.fv==S.fv)&&((ij.gZ x.o S.o)&&true))))
theorem ant{d:Nat}{w:World}(x S:gW):(Op.equalIn (d+4) 64 (.agg (gW.cells x).toArray) (.agg (gW.cells S).toArray)).run Pg w=.ok (gW.gZ x S) w:=
 Gx Tryz.underlying64 (by kernel_rfl) (o1 (by decide) (jc Tryz.underlying3 rfl rfl) (jc Tryz.underlying3 rfl rfl) (tI Tryz.underlying3) (o1 (by decide) (jc Tryz.underlying3 rfl rfl) (jc Tryz.underlying3 rfl rfl) (tI Tryz.underlying3) (o1 (by decide) (jc Tryz.underlying3 rfl rfl) (jc Tryz.underlying3 rfl rfl) (tI Tryz.underlying3) (o1 (by decide) (H6 Tryz.underlying62 rfl Ey.size rfl) (H6 Tryz.underlying62 rfl Ey.size rfl) (ans (d:=d) _ _) Gw))))
theorem Gv(x S:gW):Tryz.prog.eqGuardType Tryz.prog.depth 64=false∧∀ w,(Op.equalIn 10000 64 (.agg (gW.cells x).toArray) (.agg (gW.cells S).toArray)).run Pg w=.ok (gW.gZ x S) w:=
 ⟨by kernel_rfl,fun _=>ant (d:=9996) x S⟩
def lx.gZ(x S:lx):Bool:=((x.said==S.said)&&((x.eI==S.eI)&&((x.gL==S.gL)&&true)))
theorem anp{d:Nat}{w:World}(x S:lx):(Op.equalIn (d+2) 210 (.agg (lx.cells x).toArray) (.agg (lx.cells S).toArray)).run Pg w=.ok (lx.gZ x S) w:=
 Gx Tryz.underlying210 (by kernel_rfl) (o1 (by decide) (jc Tryz.underlying4 rfl rfl) (jc Tryz.underlying4 rfl rfl) (JA Tryz.underlying4) (o1 (by decide) (jc Tryz.underlying4 rfl rfl) (jc Tryz.underlying4 rfl rfl) (JA Tryz.underlying4) (o1 (by decide) (jc Tryz.underlying2 rfl rfl) (jc Tryz.underlying2 rfl rfl) (tI Tryz.underlying2) Gw)))
theorem Jz(x S:lx):Tryz.prog.eqGuardType Tryz.prog.depth 210=false∧∀ w,(Op.equalIn 10000 210 (.agg (lx.cells x).toArray) (.agg (lx.cells S).toArray)).run Pg w=.ok (lx.gZ x S) w:=
 ⟨by kernel_rfl,fun _=>anp (d:=9998) x S⟩
theorem YX:Ext Pg 137 Extern.MathFloatBits.float64bits:=⟨_,Tryz.func137,rfl,rfl,by kernel_rfl,by kernel_rfl⟩
theorem OL:Ext Pg 227 Extern.MathFloatBits.float64frombits:=⟨_,Tryz.func227,rfl,rfl,by kernel_rfl,by kernel_rfl⟩
end bb
end Go.Proofs.YthaobmpdjcoheaaGreat
