/- Own texts of this claim, part 0: short, merged. -/
import Derived.OrdersHeld
import Derived.Calls
import Derived.Laws.World
import Derived.KernelRfl
import Derived.WalkKit
import Derived.WalkLawsBesides
import Derived.Lib.SliceRun
import Derived.Laws.Cover3
import Derived.Laws.Pointers
import Derived.Lib.Strings
import Derived.Laws.Append
import Derived.Maps.OwnOps
import Derived.Laws.StructEq
import Derived.Maps.RangeRun
import Derived.Scope
import Derived.Laws.MakeOwn
import Derived.Laws.Small
import Derived.Laws.Externs
import Derived.Laws.BytesString
import Derived.Laws.IdiomStrings
import Derived.Laws.FloatArith
import Derived.Recover
import Derived.Test.YthaobmpdjcoheaaGreatProg
set_option maxRecDepth 100000
set_option maxHeartbeats 40000000
set_option linter.defProp false
set_option linter.unusedVariables false
set_option linter.unusedSimpArgs false
namespace Go.Proofs.YthaobmpdjcoheaaGreat
noncomputable abbrev Pg:=Tryz.prog
end Go.Proofs.YthaobmpdjcoheaaGreat
namespace Go.Proofs.YthaobmpdjcoheaaGreat
namespace bj
def ae(f:Nat→Value)(d:Nat)(v:Value):Nat→Value:=fun t=>bif Nat.beq t d then v else f t
def hx(f:Nat→Value):Option Nat→Value→(Nat→Value)
 |some d,v=>ae f d v
 |none,_=>f
def act(n:Nat)(f:Nat→Value)(aG:List Deferred):Act:={ tmps:=Array.ofFn (n:=n) fun i=>f i.1,defers:=aG }
def ad(n:Nat)(f:Nat→Value):Operand→Value
 |.tmp t=>bif Nat.blt t n then f t else undef
 |.const v=>v
 |.global g=>.pointer (some ⟨g,0,none⟩)
 |.func f=>.func (.func f) #[] #[]
theorem aIL{f:Nat→Value}{d:Nat}{v:Value}(h:f d=v):ae f d v=f:=by
 funext t;simp only[ae];cases ao:Nat.beq t d with
 |false=>rfl
 |true=>rw[Nat.eq_of_beq_eq_true ao,h]; rfl
theorem aC{g f:Nat→Value}{d:Nat}{v:Value}(h:g=f)(aL:f d=v):ae g d v=f:=by
 subst h; exact aIL aL
theorem h3(n:Nat)(f:Nat→Value)(aG:List Deferred):(act n f aG).eval=ad n f:=by
 funext x;cases x with
 |tmp t=>
  simp only[Act.eval,act,ad];by_cases h:t<n
  ·have ao:Nat.blt t n=true:=by simpa using h
   simp[h,ao]
  ·have ao:Nat.blt t n=false:=by cases ao:Nat.blt t n with | false=>rfl | true=>exact absurd (by simpa using ao) h
   simp[h,ao]
 |const v=>rfl
 |global g=>rfl
 |func g=>rfl
theorem iv(n:Nat)(f:Nat→Value)(aG:List Deferred)(d:Option Nat)(v:Value):(act n f aG).put d v=act n (hx f d v) aG:=by
 cases d with
 |none=>rfl
 |some d=>
  simp only[Act.put,act,hx];congr 1;apply Array.ext
  ·simp
  ·intro i I R;simp only[Array.size_setIfInBounds,Array.size_ofFn] at I;simp only[Array.getElem_setIfInBounds,Array.size_ofFn,I,Array.getElem_ofFn,ae];by_cases l:d=i
   ·subst l; simp
   ·have ao:Nat.beq i d=false:=by
     cases ao:Nat.beq i d with
     |false=>rfl
     |true=>exact absurd (Nat.eq_of_beq_eq_true ao).symm l
    simp[l,ao]
def start(m:List Value):Nat→Value:=fun t=>m.getD t undef
theorem SW(m:List Value)(n:Nat)(h:m.length≤n) :
  ({ tmps:=m.toArray++Array.replicate (n-m.toArray.size) undef,defers:=[] }:Act)=act n (start m) []:=by
 simp only[act];congr 1;apply Array.ext
 ·simp; omega
 ·intro i I R;simp only[Array.size_ofFn] at R;simp only[Array.getElem_ofFn,start,Array.getElem_append,List.size_toArray];by_cases al:i<m.length
  ·simp[al]
  ·simp[al]
theorem oH{P:Program}{f:FuncId}{fn:Func}{c:Code}{m:List Value}{w:World}{j:Ending→World→Prop}(n:Nat)
  (am:P.funcs[f]?=some fn) (aM:fn.ntmps=n) (ao:fn.body=some c) (al:m.length≤n)
  (h:c.wp P (bodyPost P fn j) (act n (start m) []) w):Calls P f m.toArray w j:=by
 subst aM;exact calls_of_wp am ao (by rw[SW m _ al]; exact h)
def C4(n:Nat)(ops:Array Oper)(f:Nat→Value)(D:Nat):Option Bool:=
 match (ops[D]?).bind (·.dst) with
 |some d=>(match ad n f (.tmp d) with |.bool e=>some e |_=>none)
 |none=>none
theorem IP(n:Nat)(ops:Array Oper)(f:Nat→Value)(aG:List Deferred)(D:Nat) :
  yielded ops (act n f aG).tmps D=C4 n ops f D:=by
 unfold yielded C4;cases h:(ops[D]?).bind (·.dst) with
 |none=>rfl
 |some d=>
  simp only[Option.bind_some,act,ad];by_cases ag:d<n
  ·have ao:Nat.blt d n=true:=by simpa using ag
   simp[ag,ao];cases f d<;>rfl
  ·have ao:Nat.blt d n=false:=by cases ao:Nat.blt d n with | false=>rfl | true=>exact absurd (by simpa using ao) ag
   simp[ag,ao,undef]
inductive uO(n:Nat)(ops:Array Oper)(f:Nat→Value)(G:Oper):Prop
 |free (h:G.guard=none)
 |av (D:Nat) (e:Bool) (d:Nat) (c:Bool) (O:G.guard=some (D,e)) (bT:(ops[D]?).bind (·.dst)=some d) (aL:ad n f (.tmp d)=.bool c) (U:c=e)
theorem uO.wanted{n:Nat}{ops:Array Oper}{f:Nat→Value}{G:Oper}{aG:List Deferred}(h:uO n ops f G) :
  Region.wanted G (yielded ops (act n f aG).tmps)=true:=by
 cases h with
 |free h=>simp[Region.wanted,h]
 |av D e d c O bT aL U=>
  simp only[Region.wanted,O,IP,C4,bT,aL,U];simp
inductive C8(n:Nat)(ops:Array Oper)(f:Nat→Value)(G:Oper):Prop
 |av (D:Nat) (e:Bool) (d:Nat) (c:Bool) (O:G.guard=some (D,e)) (bT:(ops[D]?).bind (·.dst)=some d) (aL:ad n f (.tmp d)=.bool c) (U:c=!e)
 |undef (D:Nat) (e:Bool) (d:Nat) (O:G.guard=some (D,e)) (bT:(ops[D]?).bind (·.dst)=some d) (aL:ad n f (.tmp d)=undef)
theorem C8.wanted{n:Nat}{ops:Array Oper}{f:Nat→Value}{G:Oper}{aG:List Deferred}(h:C8 n ops f G) :
  Region.wanted G (yielded ops (act n f aG).tmps)=false:=by
 cases h with
 |av D e d c O bT aL U=>
  simp only[Region.wanted,O,IP,C4,bT,aL,U];cases e<;>simp
 |undef D e d O bT aL=>
  simp only[Region.wanted,O,IP,C4,bT,aL,undef];rfl
@[irreducible] def du(P:Program)(ops:Array Oper)(Q:Exit→Act→World→Prop)(m:List Nat)(a:Act)(w:World):Prop:=wpOps P ops Q m a w
@[irreducible] def m4(P:Program)(G:Oper)(a:Act)(w:World)(next:Act→World→Prop)(Q:Exit→Act→World→Prop):Prop:=G.wp P a w next Q
theorem n0{P:Program}{G:Oper}{a:Act}{w:World}{next:Act→World→Prop}{Q:Exit→Act→World→Prop}:m4 P G a w next Q=G.wp P a w next Q:=by unfold m4; rfl
theorem zN:du=wpOps:=by funext P ops Q m a w; unfold du; rfl
section
variable {P:Program} {Q:Exit→Act→World→Prop} {n:Nat} {f:Nat→Value} {aG:List Deferred} {w J:World} {ops:Array Oper} {i:Nat} {rest:List Nat} {G:Oper} {d:Option Nat}
theorem ofList(h:ops.toList[i]?=some G):ops[i]?=some G:=by simpa using h
theorem eg{v:Value}(ay:ops.toList[i]?=some G)(O:uO n ops f G)(ag:G.dst=d)(aL:(execOp (ad n f) G).run P w=.ok (.value v) J)
  (h:du P ops Q rest (act n (hx f d v) aG) J):du P ops Q (i::rest) (act n f aG) w:=by
 subst ag;rw[zN] at *;rw[wpOps_cons];simp only[wpOp,ofList ay,O.wanted,if_true];left;simp only[Oper.wp,h3,aL,Oper.upon_value,iv];exact h
theorem aeD(ay:ops.toList[i]?=some G)(O:uO n ops f G)(ag:G.dst=d)(aL:(execOp (ad n f) G).run P w=.ok .skip J)
  (h:du P ops Q rest (act n (hx f d undef) aG) J):du P ops Q (i::rest) (act n f aG) w:=by
 subst ag;rw[zN] at *;rw[wpOps_cons];simp only[wpOp,ofList ay,O.wanted,if_true];left;simp only[Oper.wp,h3,aL,Oper.upon_skip,iv];exact h
theorem da(ay:ops.toList[i]?=some G)(O:C8 n ops f G)(ag:G.dst=d)
  (h:du P ops Q rest (act n (hx f d undef) aG) w):du P ops Q (i::rest) (act n f aG) w:=by
 subst ag;rw[zN] at *;rw[wpOps_cons];simp only[wpOp,ofList ay,O.wanted,Bool.false_eq_true,if_false,iv];exact h
theorem ey(ay:ops.toList[i]?=some G)(O:uO n ops f G)
  (h:m4 P G (act n f aG) w (du P ops Q rest) Q):du P ops Q (i::rest) (act n f aG) w:=by
 rw[n0] at h;rw[zN] at *;rw[wpOps_cons];simp only[wpOp,ofList ay,O.wanted,if_true];exact .inl h
theorem aU(h:Q .normal (act n f aG) w):du P ops Q [] (act n f aG) w:=by rw[zN]; exact h
theorem a4{id:Nat}(m:List Nat)(al:List.range ops.size=m)(h:du P ops Q m (act n f aG) w):(Code.region id ops false).wp P Q (act n f aG) w:=by
 subst al; rw[zN] at h; exact wp_region h
theorem X7{k:FuncId}{args:Array Value}{next:Act→World→Prop}
  (aL:(execOp (ad n f) G).run P w=.ok (.enter k args) J)
  (h : Calls P k args J fun
   |.returned v,Tm=>next (act n (hx f G.dst v) aG) Tm
   |.panicked chain,Tm=>Q (.panic chain) (act n f aG) Tm
   |.outgrown,_=>LetsOut Q):G.wp P (act n f aG) w next Q:=by
 simp only[Oper.wp,h3,aL,Oper.upon_enter,iv];exact h
end
section
variable {P:Program} {Q:Exit→Act→World→Prop} {ops:Array Oper}
def waits(ops:Array Oper)(D i:Nat):Bool:=
 match ops[D]? with
 |some G=>G.after.any fun l=>Region.binds .any l&&l.on==i
 |none=>false
def xx(P:Program)(ops:Array Oper)(Q:Exit→Act→World→Prop):List (Nat×(World→Prop))→Nat→Array Bool→Act→World→Prop
 |_,0,bW,a,w=>Region.ready .any ops bW=[]∧Q .normal a w
 |az,oL+1,bW,a,w=>
  (Region.ready .any ops bW=[]→Q .normal a w) ∧
  ∀ i∈Region.ready .any ops bW,wpOp P ops Q i (fun cv J=>(∀ x∈az,waits ops i x.1=false→x.2 w→x.2 J)∧xx P ops Q az oL (bW.setIfInBounds i true) cv J) a w
@[irreducible] def ht(P:Program)(ops:Array Oper)(Q:Exit→Act→World→Prop)(az:List (Nat×(World→Prop)))(k:Nat)(m:Array Bool)(a:Act)(w:World):Prop:=xx P ops Q az k m a w
theorem zM:ht=xx:=by funext P ops Q az k m a w; unfold ht; rfl
@[irreducible] def mJ(P:Program)(ops:Array Oper)(Q:Exit→Act→World→Prop)(i:Nat)(ab:Act→World→Prop)(a:Act)(w:World):Prop:=wpOp P ops Q i ab a w
theorem Oe:mJ=wpOp:=by funext P ops Q i ab a w; unfold mJ; rfl
theorem Tu(az:List (Nat×(World→Prop))):∀ (oL:Nat) (bW:Array Bool) (a:Act) (w:World),xx P ops Q az oL bW a w→wpAny P .any ops Q oL bW a w
 |0,_,_,_,h=>h
 |oL+1,_,_,_,h=>⟨h.1,fun i ay=>wpOp_mono (fun cv J fG=>Tu az oL _ cv J fG.2) (h.2 i ay)⟩
theorem af9{x:Nat×(World→Prop)}{az:List (Nat×(World→Prop))}:∀ (g:Nat) (m:Array Bool) (a:Act) (w:World),xx P ops Q (x::az) g m a w→xx P ops Q az g m a w
 |0,_,_,_,h=>h
 |g+1,_,_,_,h=>⟨h.1,fun k aq=>wpOp_mono (fun cv J fG=>⟨fun S aB hw=>fG.1 S (List.mem_cons_of_mem _ aB) hw,af9 g _ cv J fG.2⟩) (h.2 k aq)⟩
theorem aJe{i:Nat}{Ct:Oper}{v:Value}{W:World→Prop}(ay:ops[i]?=some Ct)(aaA:∀ (D:Nat) (G:Oper) bd e,ops[D]?=some G→G.op≠.select bd e)
  (en:∀ c a w,Q (.panic c) (a.put Ct.dst v) w→Q (.panic c) a w) (az:List (Nat×(World→Prop))) :
  ∀ (oL:Nat) (bW:Array Bool) (a:Act) (w:World),
   (∀ D Cu,ops[D]?=some Cu→D≠i→bW.getD D true=false→(∀ l∈Cu.after,Region.binds .any l=true→l.on≠i)→Ct.apart ops Cu=true) →
   i∈Region.ready .any ops bW→YieldsIf P ops W Ct v a→W w →
   xx P ops Q ((i,W)::az) oL (bW.setIfInBounds i true) (a.put Ct.dst v) w→xx P ops Q az (oL+1) bW a w:=by
 intro oL;induction oL with
 |zero=>
  intro bW a w _ aa aB ff H;refine⟨fun h=>(by rw[h] at aa; cases aa),fun D bT=>?_⟩;by_cases yy:D=i
  ·subst yy;exact aB.wpOp ay ff ⟨fun x F _ h=>h,H⟩
  ·have:=ready_mono bT yy;rw[H.1] at this;cases this
 |succ oL cq=>
  intro bW a w aai aa aB ff H;refine⟨fun h=>(by rw[h] at aa; cases aa),fun D bT=>?_⟩;by_cases yy:D=i
  ·subst yy;exact aB.wpOp ay ff ⟨fun x F _ h=>h,af9 _ _ _ _ H⟩
  ·have I:=H.2 D (ready_mono bT yy);obtain⟨aam,Cu,Kn,rl⟩:=mem_ready.1 bT;have Hb:∀ l∈Cu.after,Region.binds .any l=true→l.on≠i:=fun l he ao Ef=>by
    have I:=rl l he ao;have ah:=(mem_ready.1 aa).1;rw[Ef] at I;rcases Nat.lt_or_ge i bW.size with fG | fG
    ·simp[fG] at ah I; rw[ah] at I; cases I
    ·simp[Array.getElem?_eq_none fG] at I
   have asa:waits ops D i=false:=by
    simp only[waits,Kn];rw[Array.any_eq_false'];intro l he;have:=Hb l he;cases ao:Region.binds .any l<;>simp_all
   have R:=wpOp_putIf Kn (aai D Cu Kn yy aam Hb) (fun bd e=>aaA i Ct bd e ay) (fun bd e=>aaA D Cu bd e Kn) en aB I;have apT:∀ k ok,ops[k]?=some ok→k≠i→(bW.setIfInBounds D true).getD k true=false →
     (∀ l∈ok.after,Region.binds .any l=true→l.on≠i)→Ct.apart ops ok=true:=fun k ok aq aqS aaK vm=>by
    refine aai k ok aq aqS ?_ vm;by_cases Aa:D=k
    ·subst Aa; exact aam
    ·rw[getD_set_ne true Aa] at aaK; exact aaK
   refine wpOp_mono (fun cv J aK=>?_) R;obtain⟨yF,ZQ,bp⟩:=aK;have ao0:W J:=ZQ (i,W) (List.mem_cons_self ..) asa ff;refine⟨fun x F hw=>ZQ x (List.mem_cons_of_mem _ F) hw,?_⟩;refine cq (bW.setIfInBounds D true) cv J apT (ready_mono aa (Ne.symm yy)) yF ao0 ?_;rw[Array.setIfInBounds_comm _ _ yy];exact bp
theorem Mr{x:Nat×(World→Prop)}(F:∀ w,x.2 w){az:List (Nat×(World→Prop))}:∀ (g:Nat) (m:Array Bool) (a:Act) (w:World),xx P ops Q az g m a w→xx P ops Q (x::az) g m a w
 |0,_,_,_,h=>h
 |g+1,_,_,_,h=>⟨h.1,fun k aq=>wpOp_mono (fun cv J fG=>⟨fun S aB hw ah=>(List.mem_cons.1 aB).elim (fun l=>l▸F J) (fun aB=>fG.1 S aB hw ah),Mr F g _ cv J fG.2⟩) (h.2 k aq)⟩
structure lQ(ops:Array Oper)(Q:Exit→Act→World→Prop):Prop where
 aHk:Region.noSelect ops=true
 aEG:∀ c a d v w,(∃ G∈ops.toList,G.dst=d)→Q (.panic c) (Act.put a d v) w→Q (.panic c) a w
theorem o2{id:Nat}{n:Nat}{f:Nat→Value}{aG:List Deferred}{w dL:World}(o:Nat)(hm:P.follows .mixedOrders=true)(al:ops.size=o)(aH:Region.noSelect ops=true)
  (en:∀ c a d v w,Q (.panic c) (Act.put a d v) w→Q (.panic c) a w) (hw:dL=w.drew)
  (h:lQ ops Q→ht P ops Q [] o (Array.replicate o false) (act n f aG) dL):(Code.region id ops true).wp P Q (act n f aG) w:=by
 subst al; subst hw;rw[zM] at h;exact wp_region_any hm (Tu [] _ _ _ _ (h ⟨aH,fun c a d v w _=>en c a d v w⟩))
theorem aJi{id:Nat}{n:Nat}{f:Nat→Value}{aG:List Deferred}{w dL:World}(o:Nat)(hm:P.follows .mixedOrders=true)(al:ops.size=o)(aH:Region.noSelect ops=true)
  (en:∀ c a d v w,(∃ G∈ops.toList,G.dst=d)→Q (.panic c) (Act.put a d v) w→Q (.panic c) a w) (hw:dL=w.drew)
  (h:lQ ops Q→ht P ops Q [] o (Array.replicate o false) (act n f aG) dL):(Code.region id ops true).wp P Q (act n f aG) w:=by
 subst al; subst hw;rw[zM] at h;exact wp_region_any hm (Tu [] _ _ _ _ (h ⟨aH,en⟩))
section
variable {n k:Nat} {f:Nat→Value} {aG:List Deferred} {w J:World} {i:Nat} {bW:Array Bool} {az:List (Nat×(World→Prop))} {G:Oper} {d:Option Nat}
theorem Iz{v:Value}{W:World→Prop}(ai:lQ ops Q)(am:Region.free .any ops bW i=true)(aa:(Region.ready .any ops bW).contains i=true)(ay:ops.toList[i]?=some G)
  (ag:G.dst=d)
  (aB:YieldsIf P ops W G v (act n f aG)) (ff:W w) (h:ht P ops Q ((i,W)::az) k (bW.setIfInBounds i true) (act n (hx f d v) aG) w):ht P ops Q az (k+1) bW (act n f aG) w:=by
 rw[zM] at *;exact aJe (ofList ay) (Region.noSelect_spec ai.aHk) (fun c a w=>ai.aEG c a _ _ w ⟨G,List.mem_of_getElem? ay,rfl⟩) az k bW _ w (Region.free_spec (ofList ay) am) (by simpa using aa) aB ff (by rw[iv,ag]; exact h)
theorem e5{v:Value}(ai:lQ ops Q)(am:Region.free .any ops bW i=true)(aa:(Region.ready .any ops bW).contains i=true)(ay:ops.toList[i]?=some G)(O:uO n ops f G)(ag:G.dst=d)
  (aL:∀ w,(execOp (ad n f) G).run P w=.ok (.value v) w)
  (h:ht P ops Q az k (bW.setIfInBounds i true) (act n (hx f d v) aG) w):ht P ops Q az (k+1) bW (act n f aG) w:=
 Iz (W:=fun _=>True) ai am aa ay ag (.inl ⟨O.wanted,fun w _=>by rw[h3]; exact aL w⟩) trivial (by rw[zM] at *; exact Mr (fun _=>trivial) _ _ _ _ h)
theorem tq{v:Value}(W:World→Prop)(ai:lQ ops Q)(am:Region.free .any ops bW i=true)(aa:(Region.ready .any ops bW).contains i=true)(ay:ops.toList[i]?=some G)(O:uO n ops f G)(ag:G.dst=d)
  (aL:∀ w,W w→(execOp (ad n f) G).run P w=.ok (.value v) w) (ff:W w)
  (h:ht P ops Q ((i,W)::az) k (bW.setIfInBounds i true) (act n (hx f d v) aG) w):ht P ops Q az (k+1) bW (act n f aG) w:=
 Iz ai am aa ay ag (.inl ⟨O.wanted,fun w hw=>by rw[h3]; exact aL w hw⟩) ff h
theorem Sz(ai:lQ ops Q)(am:Region.free .any ops bW i=true)(aa:(Region.ready .any ops bW).contains i=true)(ay:ops.toList[i]?=some G)(O:C8 n ops f G)(ag:G.dst=d)
  (h:ht P ops Q az k (bW.setIfInBounds i true) (act n (hx f d undef) aG) w):ht P ops Q az (k+1) bW (act n f aG) w:=
 Iz (W:=fun _=>True) ai am aa ay ag (.inr ⟨O.wanted,rfl⟩) trivial (by rw[zM] at *; exact Mr (fun _=>trivial) _ _ _ _ h)
theorem Sy{an:List Nat}{a:Act}(aa:Region.ready .any ops bW=an)(d_:an≠[])
  (h:∀ i∈an,mJ P ops Q i (fun cv J=>(∀ x∈az,waits ops i x.1=false→x.2 w→x.2 J)∧ht P ops Q az k (bW.setIfInBounds i true) cv J) a w):ht P ops Q az (k+1) bW a w:=by
 rw[zM,Oe] at *;exact⟨fun ah=>absurd (aa▸ah) d_,aa▸h⟩
theorem fq{a:Act}(aa:Region.ready .any ops bW=[i])
  (h:mJ P ops Q i (fun cv J=>(∀ x∈az,waits ops i x.1=false→x.2 w→x.2 J)∧ht P ops Q az k (bW.setIfInBounds i true) cv J) a w):ht P ops Q az (k+1) bW a w:=
 Sy aa (by simp) fun D bT=>by
  obtain rfl:D=i:=by simpa using bT
  exact h
theorem aev{D:Nat}{a:Act}(aa:Region.ready .any ops bW=[i,D])
  (h:mJ P ops Q i (fun cv J=>(∀ x∈az,waits ops i x.1=false→x.2 w→x.2 J)∧ht P ops Q az k (bW.setIfInBounds i true) cv J) a w)
  (fG:mJ P ops Q D (fun cv J=>(∀ x∈az,waits ops D x.1=false→x.2 w→x.2 J)∧ht P ops Q az k (bW.setIfInBounds D true) cv J) a w):ht P ops Q az (k+1) bW a w:=
 Sy aa (by simp) fun m al=>by
  rcases List.mem_cons.1 al with rfl | al
  ·exact h
  ·obtain rfl:m=D:=by simpa using al
   exact fG
theorem aGs{D o:Nat}{a:Act}(aa:Region.ready .any ops bW=[i,D,o])
  (h:mJ P ops Q i (fun cv J=>(∀ x∈az,waits ops i x.1=false→x.2 w→x.2 J)∧ht P ops Q az k (bW.setIfInBounds i true) cv J) a w)
  (fG:mJ P ops Q D (fun cv J=>(∀ x∈az,waits ops D x.1=false→x.2 w→x.2 J)∧ht P ops Q az k (bW.setIfInBounds D true) cv J) a w)
  (aoC:mJ P ops Q o (fun cv J=>(∀ x∈az,waits ops o x.1=false→x.2 w→x.2 J)∧ht P ops Q az k (bW.setIfInBounds o true) cv J) a w):ht P ops Q az (k+1) bW a w:=
 Sy aa (by simp) fun m al=>by
  rcases List.mem_cons.1 al with rfl | al
  ·exact h
  ·rcases List.mem_cons.1 al with rfl | al
   ·exact fG
   ·obtain rfl:m=o:=by simpa using al
    exact aoC
section
variable {ab:Act→World→Prop}
theorem hC(ay:ops.toList[i]?=some G)(O:uO n ops f G)(h:m4 P G (act n f aG) w ab Q):mJ P ops Q i ab (act n f aG) w:=by
 rw[n0] at h;rw[Oe];simp only[wpOp,ofList ay,O.wanted,if_true];exact .inl h
theorem y_{v:Value}(ay:ops.toList[i]?=some G)(O:uO n ops f G)(ag:G.dst=d)(aL:(execOp (ad n f) G).run P w=.ok (.value v) J)(h:ab (act n (hx f d v) aG) J):mJ P ops Q i ab (act n f aG) w:=by
 subst ag;refine hC ay O ?_;rw[n0];simp only[Oper.wp,h3,aL,Oper.upon_value,iv];exact h
theorem uu(ay:ops.toList[i]?=some G)(O:uO n ops f G)(ag:G.dst=d)(aL:(execOp (ad n f) G).run P w=.ok .skip J)(h:ab (act n (hx f d undef) aG) J):mJ P ops Q i ab (act n f aG) w:=by
 subst ag;refine hC ay O ?_;rw[n0];simp only[Oper.wp,h3,aL,Oper.upon_skip,iv];exact h
theorem me(ay:ops.toList[i]?=some G)(O:C8 n ops f G)(ag:G.dst=d)(h:ab (act n (hx f d undef) aG) w):mJ P ops Q i ab (act n f aG) w:=by
 subst ag;rw[Oe];simp only[wpOp,ofList ay,O.wanted,Bool.false_eq_true,if_false,iv];exact h
end
theorem kM{o:Nat}{a:Act}(aa:Region.ready .any ops bW=[])(h:Q .normal a w):ht P ops Q az o bW a w:=by
 rw[zM];cases o with
 |zero=>exact⟨aa,h⟩
 |succ o=>exact⟨fun _=>h,by rw[aa]; simp⟩
theorem h9{D:Nat}:∀ x∈([]:List (Nat×(World→Prop))),waits ops D x.1=false→x.2 w→x.2 J:=fun x F=>absurd F (List.not_mem_nil)
theorem hA{D i:Nat}{W:World→Prop}(h:waits ops D i=true)(t:∀ x∈az,waits ops D x.1=false→x.2 w→x.2 J):∀ x∈(i,W)::az,waits ops D x.1=false→x.2 w→x.2 J:=by
 intro x F am;rcases List.mem_cons.1 F with rfl | F
 ·rw[h] at am; cases am
 ·exact t x F am
theorem fc{D i:Nat}{W:World→Prop}(h:W w→W J)(t:∀ x∈az,waits ops D x.1=false→x.2 w→x.2 J):∀ x∈(i,W)::az,waits ops D x.1=false→x.2 w→x.2 J:=by
 intro x F am;rcases List.mem_cons.1 F with rfl | F
 ·exact h
 ·exact t x F am
end
end
structure bz(Z:Type) where
 enc:Z→Value
 cells:Z→List Value
structure af where
 a:Option Addr
 len:Nat
 cap:Nat
inductive cw where
 |nil
 |mk (fn:Fn) (first captured:Array Value)
def cw.enc:cw→Value
 |.nil=>.nilFunc
 |.mk f a c=>.func f a c
inductive eF where
 |nil
 |mk (t:TypeId) (v:Value)
def eF.enc:eF→Value
 |.nil=>.nilIface
 |.mk t v=>.iface t v
theorem cw.one(x:cw):x.enc.oneCell'=true:=by cases x<;>rfl
theorem cw.flat(x:cw):x.enc.cells=#[x.enc]:=by cases x<;>rfl
theorem eF.one(x:eF):x.enc.oneCell'=true:=by cases x<;>rfl
theorem eF.flat(x:eF):x.enc.cells=#[x.enc]:=by cases x<;>rfl
@[reducible] def B(k:IntKind):bz Int:=⟨fun n=>.int k n,fun n=>[.int k n]⟩
@[reducible] def bo:bz Bool:=⟨fun e=>.bool e,fun e=>[.bool e]⟩
@[reducible] def g4:bz Nat:=⟨fun e=>.float .f64 e,fun e=>[.float .f64 e]⟩
@[reducible] def qN:bz (List UInt8):=⟨fun s=>.string ⟨s.toArray⟩,fun s=>[.string ⟨s.toArray⟩]⟩
@[reducible] def aE:bz (Option Addr):=⟨fun a=>.pointer a,fun a=>[.pointer a]⟩
@[reducible] def X:bz af:=⟨fun s=>.slice s.a s.len s.cap,fun s=>[.slice s.a s.len s.cap]⟩
@[reducible] def eC:bz (Option Nat):=⟨fun r=>.map r,fun r=>[.map r]⟩
@[reducible] def gw:bz cw:=⟨fun x=>x.enc,fun x=>[x.enc]⟩
@[reducible] def ig{Z:Type}(c:Z→List Value):bz Z:=⟨fun x=>.agg (c x).toArray,c⟩
@[reducible] def qM{Z:Type}(T:bz Z)(n:Nat):bz (Vector Z n):=ig fun v=>v.toList.flatMap T.cells
@[reducible] def bB{Z eL:Type}(aQ:bz Z)(aV:bz eL):bz (Z×eL):=⟨fun x=>.tuple #[aQ.enc x.1,aV.enc x.2],fun _=>[]⟩
@[reducible] def mz{Z eL IS:Type}(aQ:bz Z)(aV:bz eL)(C:bz IS):bz (Z×eL×IS):=⟨fun x=>.tuple #[aQ.enc x.1,aV.enc x.2.1,C.enc x.2.2],fun _=>[]⟩
@[reducible] def eh:bz Unit:=⟨fun _=>.tuple #[],fun _=>[]⟩
def wC:TypeDesc→Bool
 |.struct _ |.array _ _=>true
 |_=>false
structure cE(P:Program)(t:TypeId){Z:Type}(T:bz Z)(n:Nat):Prop where
 size:∃ i,P.info? t=some i∧i.size=n
 len:∀ x,(T.cells x).length=n
 shape:(∃ d,P.underlying t=some d∧wC d=true∧∀ x,T.enc x=.agg (T.cells x).toArray) ∨
  (∃ d,P.underlying t=some d∧wC d=false∧n=1∧∀ x,T.cells x=[T.enc x])
 flat:∀ x,(T.enc x).cells=(T.cells x).toArray
 one:∀ x,∀ v∈T.cells x,v.oneCell'=true
def o6(w:World)(a:Addr)(bd:List Value):Prop:=∀ D v,bd[D]?=some v→w.cell? (a.add D)=some v
def wx(w:World)(a:Addr)(n:Nat):Prop:=∀ D,D<n→(w.cell? (a.add D)).isSome=true∧w.frozen? (a.add D)=false
def oS:World→Addr→Nat→List Value→World
 |w,_,_,[]=>w
 |w,a,i,v::m=>oS (w.setCell (a.add i) v) a (i+1) m
theorem run_loadCellsFrom(P:Program)(w:World)(a:Addr):∀ (bd:List Value) (i:Nat) (acc:Array Value),
  (∀ D v,bd[D]?=some v→w.cell? (a.add (i+D))=some v)→(loadCellsFrom a i bd.length acc).run P w=.ok (acc++bd.toArray) w
 |[],i,acc,_=>by simp[loadCellsFrom]
 |v::bd,i,acc,h=>by
  have ah:=h 0 v rfl;simp only[Nat.add_zero] at ah;simp only[List.length_cons,loadCellsFrom,Sem.run_bind,run_load,ah,Result.andThen_ok];rw[run_loadCellsFrom P w a bd (i+1) (acc.push v)]
  ·simp
  ·intro D u hu;have:=h (D+1) u (by simpa using hu);rwa [show i+1+D=i+(D+1) from by omega]
theorem LX{P:Program}{t:TypeId}{d:TypeDesc}(h:P.underlying t=some d)(w:World) :
  (isAgg t).run P w=.ok (wC d) w:=by
 simp only[isAgg,Sem.run_bind,run_underlying h,Result.andThen_ok];cases d<;>rfl
theorem run_sizeOf{P:Program}{t:TypeId}{i:TypeInfo}(h:P.info? t=some i)(w:World):(sizeOf t).run P w=.ok i.size w:=by
 simp[sizeOf,typeInfo,h]
theorem aeI{P:Program}{t:TypeId}{Z:Type}{T:bz Z}{n:Nat}(ok:cE P t T n){w:World}{a:Addr}{x:Z}(h:o6 w a (T.cells x)) :
  (loadVar t a).run P w=.ok (T.enc x) w:=by
 obtain⟨i,ay,aM⟩:=ok.size;have al:=ok.len x;rcases ok.shape with ⟨d,ag,aH,he⟩ | ⟨d,ag,aH,I,he⟩
 ·simp only[loadVar,Sem.run_bind,LX ag,aH,Result.andThen_ok,if_true,run_sizeOf ay,loadCells];rw[show i.size=(T.cells x).length from by omega,run_loadCellsFrom P w a (T.cells x) 0 #[] (by intro D v aL; rw[Nat.zero_add]; exact h D v aL)];simp[he x]
 ·simp only[loadVar,Sem.run_bind,LX ag,aH,Result.andThen_ok,Bool.false_eq_true,if_false,run_load];have:=h 0 (T.enc x) (by simp[he x]);rw[show a.add 0=a from by simp[Addr.add]] at this;simp[this]
theorem E2{P:Program}(a:Addr):∀ (bd:List Value) (i:Nat) (w:World),
  (∀ D, D < bd.length → (w.cell? (a.add (i + D))).isSome = true ∧ w.frozen? (a.add (i + D)) = false) → (∀ v ∈ bd, v.oneCell' = true) →
   (storeCells a bd i).run P w=.ok () (oS w a i bd)
 |[],i,w,_,_=>by simp[storeCells,oS]
 |v::bd,i,w,h,I=>by
  obtain⟨ah,am⟩:=h 0 (by simp);rw[Nat.add_zero] at ah am;obtain⟨u,hu⟩:=Option.isSome_iff_exists.1 ah;simp only[storeCells,Sem.run_bind,run_store P w (a.add i) v .plain (I v (by simp)),hu,am,Bool.false_eq_true,if_false,Result.andThen_ok,oS];refine E2 a bd (i+1) _ ?_ (fun v aL=>I v (by simp[aL]));intro D bT;obtain⟨cX,ZI⟩:=h (D+1) (by simpa using bT);rw[show i+(D+1)=i+1+D from by omega] at cX ZI;refine⟨?_,by simpa using ZI⟩;by_cases l:a.add i=a.add (i+1+D)
  ·rw[← l]; simp[World.cell?_setCell_same _ _ v hu]
  ·rw[World.cell?_setCell_other _ _ _ v l]; exact cX
theorem aG9{P:Program}{t:TypeId}{Z:Type}{T:bz Z}{n:Nat}(ok:cE P t T n){w:World}{a:Addr}{x:Z}(h:wx w a n) :
  (storeVar t a (T.enc x)).run P w=.ok () (oS w a 0 (T.cells x)):=by
 obtain⟨i,ay,aM⟩:=ok.size;have al:=ok.len x;simp only[storeVar,Sem.run_bind,run_sizeOf ay,Result.andThen_ok,ok.flat x];rw[if_neg (by simp[al,aM])];refine E2 a _ 0 w ?_ (ok.one x);intro D bT;rw[Nat.zero_add];exact h D (by simpa[al] using bT)
theorem aeK{P:Program}{t:TypeId}{Z:Type}{T:bz Z}{n:Nat}(ok:cE P t T n){w:World}(x:Z) :
  (newVar t (T.enc x)).run P w=.ok ⟨w.heap.size,0,none⟩ (w.alloc (.cells (T.cells x).toArray t)):=by
 simp only[newVar,newRow,Sem.run_bind,run_newObj,Result.andThen_ok,Sem.run_pure,ok.flat x,World.alloc_eq]
def ex{Z:Type}(C:Z→Prop)(k:Z→Prop):Prop:=∃ x,C x∧k x
def bG(aQ aV:Prop):Prop:=aQ∧aV
def L{Z:Type}(T:bz Z)(a:Addr)(w:World)(x:Z):Prop:=o6 w a (T.cells x)
def bM(p:Option Addr)(a:Addr):Prop:=p=some a
def bi{Z:Type}(T:bz Z)(a:Addr)(x:Z)(w:World)(k:World→Prop):Prop:=wx w a (T.cells x).length∧k (oS w a 0 (T.cells x))
def bQ{Z:Type}(t:TypeId)(T:bz Z)(x:Z)(w:World)(k:Addr→World→Prop):Prop:=k ⟨w.heap.size,0,none⟩ (w.alloc (.cells (T.cells x).toArray t))
def tk{Z:Type}(t:TypeId)(T:bz Z)(xs:List Z)(w:World)(k:Addr→World→Prop):Prop:=k ⟨w.heap.size,0,none⟩ (w.alloc (.cells (xs.flatMap T.cells).toArray t))
def cT(s:af)(ar:Nat)(i:Int)(a:Addr):Prop:=∃ e,s.a=some e∧0≤i∧i<s.len∧a=e.add (i.toNat*ar)
def oA(e:Addr)(o ar:Nat)(i:Int)(a:Addr):Prop:=0≤i∧i<o∧a=e.add (i.toNat*ar)
def ajR(s:List UInt8)(i:Int)(e:Int):Prop:=0≤i∧∃ c,s[i.toNat]?=some c∧e=c.toNat
def Xd{Z:Type}{n:Nat}(v:Vector Z n)(i:Int)(x:Z):Prop:=0≤i∧v.toList[i.toNat]?=some x
def Sub(s:af)(ar:Nat)(m h o:Int)(r:af):Prop:=
 0≤m∧m≤h∧h≤o∧o≤s.cap∧r=⟨if o.toNat=m.toNat then s.a else s.a.map (·.add (m.toNat*ar)),h.toNat-m.toNat,o.toNat-m.toNat⟩
def Oh(s:List UInt8)(m h:Int)(r:List UInt8):Prop:=0≤m∧m≤h∧h≤s.length∧r=(s.take h.toNat).drop m.toNat
def agl(a e r:List UInt8):Prop:=a.length+e.length≤9223372036854775807∧r=a++e
def Bg{Z:Type}(T:bz Z)(j:Z→World→Prop):Ending→World→Prop
 |.returned v,w=>∃ x,v=T.enc x∧j x w
 |_,_=>False
def M{Z:Type}(P:Program)(f:FuncId)(args:List Value)(T:bz Z)(w:World)(k:Z→World→Prop):Prop:=Calls P f args.toArray w (Bg T k)
def fh{bC:Type}(body:bC→World→(bC→World→Prop)→Prop)(s:bC)(w:World):Prop:=
 ∃ (aZ:bC→World→Prop) (ty:bC→World→Nat),aZ s w∧∀ s w,aZ s w→body s w fun fO J=>aZ fO J∧ty fO J<ty s w
theorem dO{P:Program}{t:TypeId}{z:Value}{n e:Nat}(h:(P.info? t).map (fun i=>(i.zero,i.size,i.bytes))=some (some z,n,e)) :
  ∃ i,P.info? t=some i∧i.zero=some z∧i.size=n∧i.bytes=e:=by
 cases ay:P.info? t with
 |none=>rw[ay] at h; cases h
 |some i=>
  rw[ay] at h;simp only[Option.map_some,Option.some.injEq,Prod.mk.injEq] at h;exact⟨i,rfl,h.1,h.2.1,h.2.2⟩
theorem D5{Z:Type}{c:Z→List Value}{o:Nat}(h:∀ x,(c x).length=o)(xs:List Z):(xs.flatMap c).length=xs.length*o:=by
 induction xs with
 |nil=>simp
 |cons x xs cq=>simp[cq,h x,Nat.add_mul,Nat.add_comm]
section
variable {P:Program} {n:Nat} {f:Nat→Value} {w:World} {G:Oper} {x S z:Operand}
theorem cs{v:Value}(aj:G.op=.move x)(F:ad n f x=v):(execOp (ad n f) G).run P w=.ok (.value v) w:=by
 simp[execOp,aj,F]
theorem CB{v:Value}(aj:G.op=.assign x)(F:ad n f x=v):(execOp (ad n f) G).run P w=.ok (.value v) w:=by
 simp[execOp,aj,F]
theorem hD{v:Value}{e:Bool}(aj:G.op=.pick x S z)(F:ad n f x=.bool e)(ao:e=true)(aB:ad n f S=v):(execOp (ad n f) G).run P w=.ok (.value v) w:=by
 subst ao; simp[execOp,aj,F,aB,asBool]
theorem iB{v:Value}{e:Bool}(aj:G.op=.pick x S z)(F:ad n f x=.bool e)(ao:e=false)(bN:ad n f z=v):(execOp (ad n f) G).run P w=.ok (.value v) w:=by
 subst ao; simp[execOp,aj,F,bN,asBool]
theorem aed{a c:Bool}(aj:G.op=.pick x S z)(F:ad n f x=.bool a)(aB:ad n f S=.bool true)(bN:ad n f z=.bool c) :
  (execOp (ad n f) G).run P w=.ok (.value (.bool (a||c))) w:=by
 cases a<;>simp[execOp,aj,F,aB,bN,asBool]
theorem aec{a e:Bool}(aj:G.op=.pick x S z)(F:ad n f x=.bool a)(aB:ad n f S=.bool e)(bN:ad n f z=.bool false) :
  (execOp (ad n f) G).run P w=.ok (.value (.bool (a&&e))) w:=by
 cases a<;>simp[execOp,aj,F,aB,bN,asBool]
theorem H6{Z:Type}{T:bz Z}{o:Nat}{t:TypeId}{u:Z}{a:Addr}{J:World}(aj:G.op=.alloc t)(ok:cE P t T o){av:Nat}(vk:∃ i,P.info? t=some i∧i.zero=some (T.enc u)∧i.size=o∧i.bytes=av)
  (Y:a=⟨w.heap.size,0,none⟩) (hw:J=w.alloc (.cells (T.cells u).toArray t)):(execOp (ad n f) G).run P w=.ok (.value (.pointer (some a))) J:=by
 obtain⟨i,ay,bN,_⟩:=vk;subst Y; subst hw; simp[execOp,aj,Instr.alloc,zeroValue,typeInfo,ay,bN,aeK ok]
theorem sq{Z:Type}{T:bz Z}{o:Nat}{t:TypeId}{u:Z}{a:Addr}{J:World}(aj:G.op=.box t x)(ok:cE P t T o)(F:ad n f x=T.enc u)
  (Y:a=⟨w.heap.size,0,none⟩) (hw:J=w.alloc (.cells (T.cells u).toArray t)):(execOp (ad n f) G).run P w=.ok (.value (.pointer (some a))) J:=by
 subst Y; subst hw; simp[execOp,aj,F,Instr.box,aeK ok]
theorem hM{Z:Type}{T:bz Z}{o:Nat}{t:TypeId}{u:Z}{a:Addr}(aj:G.op=.load t x)(ok:cE P t T o)(F:ad n f x=.pointer (some a))(aa:o6 w a (T.cells u)) :
  (execOp (ad n f) G).run P w=.ok (.value (T.enc u)) w:=by
 simp[execOp,aj,F,Instr.loadAt,Instr.sureAddr,aeI ok aa]
theorem st{Z:Type}{T:bz Z}{o:Nat}{t:TypeId}{u:Z}{a:Addr}{J:World}(aj:G.op=.store t x S)(ok:cE P t T o)(F:ad n f x=.pointer (some a))(aB:ad n f S=T.enc u)
  (aa:wx w a (T.cells u).length) (hw:J=oS w a 0 (T.cells u)):(execOp (ad n f) G).run P w=.ok .skip J:=by
 subst hw; simp[execOp,aj,F,aB,Instr.storeAt,Instr.sureAddr,aG9 ok (by rw[ok.len] at aa; exact aa)]
theorem lo{a:Addr}(aj:G.op=.nilCheck x)(F:ad n f x=.pointer (some a)):(execOp (ad n f) G).run P w=.ok (.value (.pointer (some a))) w:=by
 simp[execOp,aj,F]
theorem ni{k:IntKind}{a e:Int}{t u:TypeId}(aj:G.op=.binOp .add t x S u)(F:ad n f x=.int k a)(aB:ad n f S=.int k e) :
  (execOp (ad n f) G).run P w=.ok (.value (.int k (k.wrap (a+e)))) w:=by simp[execOp,aj,F,aB,eqGuard_add,binOp_add,Op.intArith]
theorem vM{k:IntKind}{a e:Int}{t u:TypeId}(aj:G.op=.binOp .sub t x S u)(F:ad n f x=.int k a)(aB:ad n f S=.int k e) :
  (execOp (ad n f) G).run P w=.ok (.value (.int k (k.wrap (a-e)))) w:=by simp[execOp,aj,F,aB,eqGuard_sub,binOp_sub,Op.intArith]
theorem H8{k:IntKind}{a e:Int}{t u:TypeId}(aj:G.op=.binOp .mul t x S u)(F:ad n f x=.int k a)(aB:ad n f S=.int k e) :
  (execOp (ad n f) G).run P w=.ok (.value (.int k (k.wrap (a*e)))) w:=by simp[execOp,aj,F,aB,eqGuard_mul,binOp_mul,Op.intArith]
theorem Ly{k:IntKind}{a e:Int}{t u:TypeId}(aj:G.op=.binOp .and t x S u)(F:ad n f x=.int k a)(aB:ad n f S=.int k e) :
  (execOp (ad n f) G).run P w=.ok (.value (.int k (bits .and k a e))) w:=by simp[execOp,aj,F,aB,eqGuard_and,binOp_and,intBits_and]
theorem LH{k:IntKind}{a e:Int}{t u:TypeId}(aj:G.op=.binOp .or t x S u)(F:ad n f x=.int k a)(aB:ad n f S=.int k e) :
  (execOp (ad n f) G).run P w=.ok (.value (.int k (bits .or k a e))) w:=by simp[execOp,aj,F,aB,eqGuard_or,binOp_or,intBits_or]
theorem Sr{k:IntKind}{a e:Int}{t u:TypeId}(aj:G.op=.binOp .xor t x S u)(F:ad n f x=.int k a)(aB:ad n f S=.int k e) :
  (execOp (ad n f) G).run P w=.ok (.value (.int k (bits .xor k a e))) w:=by simp[execOp,aj,F,aB,eqGuard_xor,binOp_xor,intBits_xor]
theorem adg{k:IntKind}{a e:Int}{t u:TypeId}(aj:G.op=.binOp .andNot t x S u)(F:ad n f x=.int k a)(aB:ad n f S=.int k e) :
  (execOp (ad n f) G).run P w=.ok (.value (.int k (bits .andNot k a e))) w:=by simp[execOp,aj,F,aB,eqGuard_andNot,binOp_andNot,intBits_andNot]
def Fj(e qz r:Int):Prop:=e≠0∧r=qz
def jd(e qz r:Int):Prop:=0≤e∧r=qz
theorem Sm{k:IntKind}{a e r:Int}{t u:TypeId}(aj:G.op=.binOp .quo t x S u)(F:ad n f x=.int k a)(aB:ad n f S=.int k e)(h:Fj e (k.wrap (a.tdiv e)) r) :
  (execOp (ad n f) G).run P w=.ok (.value (.int k r)) w:=by
 obtain⟨h,rfl⟩:=h;simp[execOp,aj,F,aB,eqGuard_quo,binOp_quo,Op.intDiv,h]
theorem H9{k:IntKind}{a e r:Int}{t u:TypeId}(aj:G.op=.binOp .rem t x S u)(F:ad n f x=.int k a)(aB:ad n f S=.int k e)(h:Fj e (a.tmod e) r) :
  (execOp (ad n f) G).run P w=.ok (.value (.int k r)) w:=by
 obtain⟨h,rfl⟩:=h;simp[execOp,aj,F,aB,eqGuard_rem,binOp_rem,Op.intDiv,h]
theorem aee{k:IntKind}{a e:Int}{t u:TypeId}(aj:G.op=.binOp .quo t x S u)(F:ad n f x=.int k a)(aB:ad n f S=.int k e)(h:e≠0) :
  (execOp (ad n f) G).run P w=.ok (.value (.int k (k.wrap (a.tdiv e)))) w:=Sm aj F aB ⟨h,rfl⟩
theorem aef{k:IntKind}{a e:Int}{t u:TypeId}(aj:G.op=.binOp .rem t x S u)(F:ad n f x=.int k a)(aB:ad n f S=.int k e)(h:e≠0) :
  (execOp (ad n f) G).run P w=.ok (.value (.int k (a.tmod e))) w:=H9 aj F aB ⟨h,rfl⟩
theorem H_{k TK:IntKind}{a e r:Int}{t u:TypeId}(aj:G.op=.binOp .shl t x S u)(F:ad n f x=.int k a)(aB:ad n f S=.int TK e)(h:jd e (k.wrap (a*2^(min e.toNat k.bits))) r) :
  (execOp (ad n f) G).run P w=.ok (.value (.int k r)) w:=by
 obtain⟨h,rfl⟩:=h;simp[execOp,aj,F,aB,eqGuard_shl,binOp_shl,Op.shift,Int.not_lt.2 h]
theorem So{k TK:IntKind}{a e r:Int}{t u:TypeId}(aj:G.op=.binOp .shr t x S u)(F:ad n f x=.int k a)(aB:ad n f S=.int TK e)(h:jd e (a.fdiv (2^(min e.toNat k.bits))) r) :
  (execOp (ad n f) G).run P w=.ok (.value (.int k r)) w:=by
 obtain⟨h,rfl⟩:=h;simp[execOp,aj,F,aB,eqGuard_shr,binOp_shr,Op.shift,Int.not_lt.2 h]
theorem gn{k:IntKind}{a e:Int}{t u:TypeId}(aj:G.op=.binOp .eql t x S u)(F:ad n f x=.int k a)(aB:ad n f S=.int k e) :
  (execOp (ad n f) G).run P w=.ok (.value (.bool (a==e))) w:=by simp[execOp,aj,F,aB,eqGuard_at_int,binOp_eql]
theorem g1{k:IntKind}{a e:Int}{t u:TypeId}(aj:G.op=.binOp .neq t x S u)(F:ad n f x=.int k a)(aB:ad n f S=.int k e) :
  (execOp (ad n f) G).run P w=.ok (.value (.bool (a != e))) w:=by simp[execOp,aj,F,aB,eqGuard_at_int,binOp_neq]
theorem jw{k:IntKind}{a e:Int}{t u:TypeId}(aj:G.op=.binOp .lss t x S u)(F:ad n f x=.int k a)(aB:ad n f S=.int k e) :
  (execOp (ad n f) G).run P w=.ok (.value (.bool (decide (a<e)))) w:=by simp[execOp,aj,F,aB,eqGuard_lss,binOp_lss]
theorem LA{k:IntKind}{a e:Int}{t u:TypeId}(aj:G.op=.binOp .leq t x S u)(F:ad n f x=.int k a)(aB:ad n f S=.int k e) :
  (execOp (ad n f) G).run P w=.ok (.value (.bool (decide (a≤e)))) w:=by simp[execOp,aj,F,aB,eqGuard_leq,binOp_leq]
theorem ss{k:IntKind}{a e:Int}{t u:TypeId}(aj:G.op=.binOp .gtr t x S u)(F:ad n f x=.int k a)(aB:ad n f S=.int k e) :
  (execOp (ad n f) G).run P w=.ok (.value (.bool (decide (a>e)))) w:=by simp[execOp,aj,F,aB,eqGuard_gtr,binOp_gtr]
theorem AE{k:IntKind}{a e:Int}{t u:TypeId}(aj:G.op=.binOp .geq t x S u)(F:ad n f x=.int k a)(aB:ad n f S=.int k e) :
  (execOp (ad n f) G).run P w=.ok (.value (.bool (decide (a≥e)))) w:=by simp[execOp,aj,F,aB,eqGuard_geq,binOp_geq]
theorem Sh{a e:Bool}{t u:TypeId}(aj:G.op=.binOp .eql t x S u)(aT:P.underlying t=some .bool)(F:ad n f x=.bool a)(aB:ad n f S=.bool e) :
  (execOp (ad n f) G).run P w=.ok (.value (.bool (a==e))) w:=by simp[execOp,aj,F,aB,eqGuard_at_bool,run_eql_bool _ _ _ _ aT]
theorem LD{a e:Bool}{t u:TypeId}(aj:G.op=.binOp .neq t x S u)(aT:P.underlying t=some .bool)(F:ad n f x=.bool a)(aB:ad n f S=.bool e) :
  (execOp (ad n f) G).run P w=.ok (.value (.bool (!(a==e)))) w:=by simp[execOp,aj,F,aB,eqGuard_at_bool,run_neq_bool _ _ _ _ aT]
theorem toList_toArray(s:List UInt8):(⟨s.toArray⟩:ByteArray).toList=s:=by
 rw[ByteArray.toList_eq]
theorem adS{a e:List UInt8}{t u:TypeId}(aj:G.op=.binOp .eql t x S u)(F:ad n f x=.string ⟨a.toArray⟩)(aB:ad n f S=.string ⟨e.toArray⟩) :
  (execOp (ad n f) G).run P w=.ok (.value (.bool (a==e))) w:=by simp[execOp,aj,F,aB,eqGuard_at_string,binOp,Op.stringOp,toList_toArray]
theorem ad8{a e:List UInt8}{t u:TypeId}(aj:G.op=.binOp .neq t x S u)(F:ad n f x=.string ⟨a.toArray⟩)(aB:ad n f S=.string ⟨e.toArray⟩) :
  (execOp (ad n f) G).run P w=.ok (.value (.bool (!(a==e)))) w:=by simp[execOp,aj,F,aB,eqGuard_at_string,binOp,Op.stringOp,toList_toArray]
theorem adO{a e r:List UInt8}{t u:TypeId}(aj:G.op=.binOp .add t x S u)(F:ad n f x=.string ⟨a.toArray⟩)(aB:ad n f S=.string ⟨e.toArray⟩)(aH:agl a e r) :
  (execOp (ad n f) G).run P w=.ok (.value (.string ⟨r.toArray⟩)) w:=by
 obtain⟨aH,rfl⟩:=aH;have nJ:((⟨a.toArray⟩:ByteArray).size+(⟨e.toArray⟩:ByteArray).size:Nat)=a.length+e.length:=rfl;have apo:(⟨a.toArray⟩:ByteArray)++⟨e.toArray⟩=⟨(a++e).toArray⟩:=by
  apply ByteArray.ext; simp
 simp only[execOp,aj,F,aB,eqGuard_add,binOp,Op.stringOp,apo];rw[if_neg (by rw[nJ,IntKind.max_i64]; omega)];rfl
theorem p3{a:Option Addr}{t u l:TypeId}(aj:G.op=.binOp .eql t x S u)(aT:P.underlying t=some (.pointer l))(F:ad n f x=.pointer a)(aB:ad n f S=.pointer none) :
  (execOp (ad n f) G).run P w=.ok (.value (.bool a.isNone)) w:=by
 have aF:P.underlying t=some (.pointer (P.pointee t)):=by simp[Program.pointee,aT]
 simp only[execOp,aj,F,aB,eqGuard_at_pointer,bind_pure_comp,Sem.run_map,pure_bind,run_eql_pointer_nil w t a aF,Result.andThen_ok]
theorem LF{a:Option Addr}{t u l:TypeId}(aj:G.op=.binOp .neq t x S u)(aT:P.underlying t=some (.pointer l))(F:ad n f x=.pointer a)(aB:ad n f S=.pointer none) :
  (execOp (ad n f) G).run P w=.ok (.value (.bool (!a.isNone))) w:=by
 have aF:P.underlying t=some (.pointer (P.pointee t)):=by simp[Program.pointee,aT]
 simp only[execOp,aj,F,aB,eqGuard_at_pointer,bind_pure_comp,Sem.run_map,pure_bind,run_neq_pointer_nil w t a aF,Result.andThen_ok]
theorem adR{s:af}{t u l:TypeId}(aj:G.op=.binOp .eql t x S u)(aT:P.underlying t=some (.slice l))(F:ad n f x=X.enc s)(aB:ad n f S=.slice none 0 0) :
  (execOp (ad n f) G).run P w=.ok (.value (.bool s.a.isNone)) w:=by
 simp only[execOp,aj,F,aB,eqGuard_at_slice,bind_pure_comp,Sem.run_map,pure_bind,Lib.run_eql_slice_nil w t l s.a s.len s.cap 0 0 aT,Result.andThen_ok]
theorem ad7{s:af}{t u l:TypeId}(aj:G.op=.binOp .neq t x S u)(aT:P.underlying t=some (.slice l))(F:ad n f x=X.enc s)(aB:ad n f S=.slice none 0 0) :
  (execOp (ad n f) G).run P w=.ok (.value (.bool (!s.a.isNone))) w:=by
 simp only[execOp,aj,F,aB,eqGuard_at_slice,bind_pure_comp,Sem.run_map,pure_bind,run_neq_slice_nil w t l s.a s.len s.cap aT,Result.andThen_ok]
theorem nj{e:Bool}{t:TypeId}(aj:G.op=.unOp .not t x)(F:ad n f x=.bool e) :
  (execOp (ad n f) G).run P w=.ok (.value (.bool (!e))) w:=by simp[execOp,aj,F,Op.unary]
theorem LG{k:IntKind}{a:Int}{t:TypeId}(aj:G.op=.unOp .neg t x)(F:ad n f x=.int k a) :
  (execOp (ad n f) G).run P w=.ok (.value (.int k (k.wrap (0-a)))) w:=by simp[execOp,aj,F,Op.unary,Op.intArith]
theorem sr{k D:IntKind}{a:Int}{s t:TypeId}(aj:G.op=.convert s t x)(aH:P.underlying s=some (.int D))(aT:P.underlying t=some (.int k))(F:ad n f x=.int D a) :
  (execOp (ad n f) G).run P w=.ok (.value (.int k (k.wrap a))) w:=by
 simp[execOp,aj,F,convert,run_underlying aH,run_underlying aT,Conv.intToInt]
theorem iI{t:TypeId}{iF:Array Field}{fd:Field}{a:Addr}{k off o:Nat}{Z:Type}{T:bz Z}(aj:G.op=.fieldAddr t x k)(aT:P.underlying t=some (.struct iF))(am:iF[k]?=some fd)
  (Ac:fd.offset=off) (ok:cE P fd.type T o) (hm:o≠0) (F:ad n f x=.pointer (some a)) :
  (execOp (ad n f) G).run P w=.ok (.value (.pointer (some (a.add off)))) w:=by
 obtain⟨i,ay,aH⟩:=ok.size;subst Ac;have yC:i.size≠0:=by omega
 simp[execOp,aj,F,Instr.fieldAt,run_underlying aT,am,Instr.sureAddr,fieldPlace,run_sizeOf ay,yC]
theorem kd{t l:TypeId}{a:Addr}{s:af}{k:IntKind}{i:Int}{o:Nat}{Z:Type}{T:bz Z}(aj:G.op=.indexAddr t x S)(aT:P.underlying t=some (.slice l))(ok:cE P l T o)
  (F:ad n f x=X.enc s) (aB:ad n f S=.int k i) (Y:cT s o i a) :
  (execOp (ad n f) G).run P w=.ok (.value (.pointer (some a))) w:=by
 obtain⟨jT,ay,aH⟩:=ok.size;obtain⟨e,ao,ah,I,rfl⟩:=Y;simp[execOp,aj,F,aB,Instr.indexAt,asIntOf,run_underlying aT,ao,ah,I,run_sizeOf ay,aH]
theorem Lz{t l:TypeId}{a e:Addr}{m o:Nat}{k:IntKind}{i:Int}{Z:Type}{T:bz Z}(aj:G.op=.indexAddr t x S)(aT:P.underlying t=some (.array m l))(ok:cE P l T o)
  (F:ad n f x=.pointer (some e)) (aB:ad n f S=.int k i) (Y:oA e m o i a) :
  (execOp (ad n f) G).run P w=.ok (.value (.pointer (some a))) w:=by
 obtain⟨jT,ay,aH⟩:=ok.size;obtain⟨ah,I,rfl⟩:=Y;simp[execOp,aj,F,aB,Instr.indexAt,Instr.sureAddr,asIntOf,run_underlying aT,ah,I,run_sizeOf ay,aH]
theorem ad0{t:TypeId}{s:List UInt8}{k:IntKind}{i e:Int}(aj:G.op=.index t x S)(aT:P.underlying t=some .string)(F:ad n f x=.string ⟨s.toArray⟩)(aB:ad n f S=.int k i)(Y:ajR s i e) :
  (execOp (ad n f) G).run P w=.ok (.value (.int .u8 e)) w:=by
 obtain⟨ah,c,U,rfl⟩:=Y;have O:(⟨s.toArray⟩:ByteArray)[i.toNat]?=some c:=by
  have al:i.toNat<s.length:=(List.getElem?_eq_some_iff.1 U).1;have:i.toNat<(⟨s.toArray⟩:ByteArray).size:=al;rw[getElem?_pos (⟨s.toArray⟩:ByteArray) i.toNat this];have:=(List.getElem?_eq_some_iff.1 U).2;simpa[ByteArray.getElem_eq_getElem_data] using this
 simp[execOp,aj,F,aB,Instr.index,asIntOf,run_underlying aT,ah,O]
theorem jZ{s:af}{t l:TypeId}(aj:G.op=.call { callee:=.builtin .len,args:=#[x],argTypes:=#[t] })(aT:P.underlying t=some (.slice l))(F:ad n f x=X.enc s) :
  (execOp (ad n f) G).run P w=.ok (.value (.int .i64 s.len)) w:=by
 simp[execOp,aj,F,resolve,invoke,builtin,Builtin.len_,run_underlying aT,goInt]
theorem adN{s:af}{t l:TypeId}(aj:G.op=.call { callee:=.builtin .cap,args:=#[x],argTypes:=#[t] })(aT:P.underlying t=some (.slice l))(F:ad n f x=X.enc s) :
  (execOp (ad n f) G).run P w=.ok (.value (.int .i64 s.cap)) w:=by
 simp[execOp,aj,F,resolve,invoke,builtin,Builtin.cap_,run_underlying aT,goInt]
theorem ad3{s:List UInt8}{t:TypeId}(aj:G.op=.call { callee:=.builtin .len,args:=#[x],argTypes:=#[t] })(aT:P.underlying t=some .string)(F:ad n f x=.string ⟨s.toArray⟩) :
  (execOp (ad n f) G).run P w=.ok (.value (.int .i64 s.length)) w:=by
 have aH:(⟨s.toArray⟩:ByteArray).size=s.length:=rfl;simp only[execOp,aj,F,resolve,invoke,builtin,Builtin.len_,goInt,aH];simp[run_underlying aT,F,aH]
theorem xg{a0:Array Value}{v:Value}{i:Nat}(aj:G.op=.extract x i)(F:ad n f x=.tuple a0)(aL:a0[i]?=some v):(execOp (ad n f) G).run P w=.ok (.value v) w:=by
 simp[execOp,aj,F,Instr.extract,aL]
theorem Sk{fn:Fn}{a c:List Operand}{Tf Th:List Value}(aj:G.op=.makeFunc fn a.toArray c.toArray)(Y:a.map (ad n f)=Tf)(U:c.map (ad n f)=Th) :
  (execOp (ad n f) G).run P w=.ok (.value (.func fn Tf.toArray Th.toArray)) w:=by
 subst Y; subst U; simp[execOp,aj,Instr.makeFunc]
def dj(P:Program)(k:FuncId):Prop:=∃ fn,P.funcs[k]?=some fn∧fn.body.isSome=true∧(fn.name=="runtime.NumGoroutine")=false
theorem fD{k:FuncId}{lz:List Operand}{nW:Array TypeId}{m:List Value}(aj:G.op=.call { callee:=.value (.func k),args:=lz.toArray,argTypes:=nW })(he:dj P k)(Y:lz.map (ad n f)=m) :
  (execOp (ad n f) G).run P w=.ok (.enter k m.toArray) w:=by
 obtain⟨fn,am,ao,aM⟩:=he;have vc:fn.body≠none:=by intro h; simp[h] at ao
 subst Y;simp[execOp,aj,resolve,ad,Deferred.ofValue,invoke,callFunc,am,vc,beq_eq_false_iff_ne.1 aM]
theorem aFv{k:FuncId}{lz:List Operand}{nW:Array TypeId}{m:List Value}{c:List Value}{hV:cw}(aj:G.op=.call { callee:=.value x,args:=lz.toArray,argTypes:=nW })(F:ad n f x=hV.enc)(yu:hV=.mk (.func k) #[] c.toArray)
  (he:dj P k) (Y:lz.map (ad n f)=m):(execOp (ad n f) G).run P w=.ok (.enter k (m++c).toArray) w:=by
 obtain⟨fn,am,ao,aM⟩:=he;have vc:fn.body≠none:=by intro h; simp[h] at ao
 subst yu; subst Y;simp[execOp,aj,resolve,F,cw.enc,Deferred.ofValue,invoke,callFunc,am,vc,beq_eq_false_iff_ne.1 aM]
end
theorem oQ{Z:Type}{t:TypeId}{T:bz Z}{x:Z}{w:World}{k:Addr→World→Prop}(h:bQ t T x w k):∃ a J,a=⟨w.heap.size,0,none⟩∧J=w.alloc (.cells (T.cells x).toArray t)∧k a J:=⟨_,_,rfl,rfl,h⟩
theorem sD{Z:Type}{T:bz Z}{a:Addr}{x:Z}{w:World}{k:World→Prop}(h:bi T a x w k):∃ J,J=oS w a 0 (T.cells x)∧wx w a (T.cells x).length∧k J:=⟨_,rfl,h.1,h.2⟩
section
variable {P:Program} {Q:Exit→Act→World→Prop} {n:Nat} {f:Nat→Value} {aG:List Deferred} {w J:World} {ops:Array Oper} {i:Nat} {rest:List Nat} {G:Oper} {x S:Operand}
inductive Gc(P:Program)(n:Nat)(f:Nat→Value)(w:World):ResultVar→Value→Prop
 |tmp {t:Nat} {v:Value} (h:ad n f (.tmp t)=v):Gc P n f w (.tmp t) v
 |cell {Z:Type} {T:bz Z} {o:Nat} {t:Nat} {hF:TypeId} {a:Addr} {u:Z} (ok:cE P hF T o) (h:ad n f (.tmp t)=.pointer (some a)) (aa:o6 w a (T.cells u)):Gc P n f w (.cell t hF) (T.enc u)
inductive sI(P:Program)(n:Nat)(f:Nat→Value)(w:World):List ResultVar→List Value→Prop
 |nil:sI P n f w [] []
 |cons {r:ResultVar} {v:Value} {an:List ResultVar} {a0:List Value} (h:Gc P n f w r v) (t:sI P n f w an a0):sI P n f w (r::an) (v::a0)
theorem XH(t:Nat):(act n f aG).tmps.getD t undef=ad n f (.tmp t):=by
 have:=congrFun (h3 n f aG) (.tmp t);exact this
def uA(tmps:Array Value):ResultVar→Sem Value
 |.tmp t=>pure (tmps.getD t undef)
 |.cell a t=>do loadVar t (← asAddr (tmps.getD a undef))
theorem aG8{r:ResultVar}{v:Value}(h:Gc P n f w r v):(uA (act n f aG).tmps r).run P w=.ok v w:=by
 cases h with
 |tmp h=>simp only[uA,XH,h]; exact Sem.run_pure ..
 |cell ok h aa=>simp only[uA,XH,h,asAddr,pure_bind,aeI ok aa]
theorem aeJ(g:ResultVar→Sem Value):∀ (an:List ResultVar) (a0:List Value),(∀ (D:Nat) (r:ResultVar) (v:Value),an[D]?=some r→a0[D]?=some v→(g r).run P w=.ok v w)→an.length=a0.length →
  (an.mapM g).run P w=.ok a0 w
 |[],[],_,_=>by simp
 |r::an,v::a0,h,al=>by
  have ah:=h 0 r v rfl rfl;have aT:=aeJ g an a0 (fun D r v aa aL=>h (D+1) r v (by simpa using aa) (by simpa using aL)) (by simpa using al);simp only[List.mapM_cons,Sem.run_bind,ah,Result.andThen_ok,aT,Sem.run_pure]
 |[],_::_,_,al=>by simp at al
 |_::_,[],_,al=>by simp at al
theorem sI.length{an:List ResultVar}{a0:List Value}(h:sI P n f w an a0):an.length=a0.length:=by
 induction h with
 |nil=>rfl
 |cons _ _ cq=>simp[cq]
theorem sI.get{an:List ResultVar}{a0:List Value}(h:sI P n f w an a0):∀ (D:Nat) (r:ResultVar) (v:Value),an[D]?=some r→a0[D]?=some v→Gc P n f w r v:=by
 induction h with
 |nil=>intro D r v aa; simp at aa
 |cons h t cq=>
  intro D r v aa aL;cases D with
  |zero=>simp at aa aL; subst aa; subst aL; exact h
  |succ D=>exact cq D r v (by simpa using aa) (by simpa using aL)
def CO:List Value→Value
 |[v]=>v
 |a0=>.tuple a0.toArray
theorem LY{fn:Func}{an:List ResultVar}{a0:List Value}(aa:fn.results=an.toArray)(h:sI P n f w an a0) :
  (results fn (act n f aG).tmps).run P w=.ok (CO a0) w:=by
 have key:=aeJ (P:=P) (w:=w) (uA (act n f aG).tmps) an a0 (fun D r v aa aL=>aG8 (h.get D r v aa aL)) h.length;have l:results fn (act n f aG).tmps=(do let AR ← fn.results.mapM (uA (act n f aG).tmps); pure (if h:AR.size=1 then AR[0] else .tuple AR)):=rfl;rw[l,aa,Array.mapM_eq_mapM_toList];simp only[bind_map_left,Sem.run_bind,key,Result.andThen_ok,Sem.run_pure];congr 1;cases a0 with
 |nil=>rfl
 |cons v a0=>cases a0 with
  |nil=>rfl
  |cons u a0=>simp[CO]
theorem om{fn:Func}{an:List ResultVar}{a0:List Value}{j:Ending→World→Prop}(aa:fn.results=an.toArray)(h:sI P n f w an a0)(jE:j (.returned (CO a0)) w) :
  bodyPost P fn j .ret (act n f []) w:=⟨rfl,_,LY aa h,jE⟩
theorem YR{fn:Func}{an:List ResultVar}{a0:List Value}{j:Ending→World→Prop}(aa:fn.results=an.toArray)(h:sI P n f w an a0)(jE:j (.returned (CO a0)) w) :
  bodyPost P fn j .normal (act n f []) w:=⟨rfl,_,LY aa h,jE⟩
theorem vQ{c d:Code}{bC:Type}{eM:bC→World→Prop}{dp:(Nat→Value)→bC→(Nat→Value)}
  (bT:∀ s g w,eM s w→d.wp P Q (act n (dp g s) aG) w) (F:c.wp P (Exit.then (fun a w=>∃ s g,a=act n (dp g s) aG∧eM s w) Q) (act n f aG) w):(Code.seq c d).wp P Q (act n f aG) w:=
 wp_seq_k fun ab cg=>wp_mono F fun l a w h=>by
  cases l<;>first
   |exact h
   |(obtain⟨s,g,rfl,Pt⟩:=h; exact cg _ _ (bT s g w Pt))
theorem Ms{c:Operand}{p q:Code}{e:Bool}{cm lX:Prop}(U:ad n f c=.bool e)(h:if e=true then cm else lX)(F:e=true→cm→p.wp P Q (act n f aG) w)(aB:e=false→lX→q.wp P Q (act n f aG) w) :
  (Code.cond c p q).wp P Q (act n f aG) w:=by
 refine wp_cond_split (t:=e) (by rw[h3]; exact U) (fun ao=>F ao (by simpa[ao] using h)) (fun ao=>aB ao (by simpa[ao] using h))
theorem aJj{c:Operand}{p q:Code}(U:ad n f c=.bool false)(aB:q.wp P Q (act n f aG) w):(Code.cond c p q).wp P Q (act n f aG) w:=
 Ms (e:=false) (cm:=False) (lX:=True) U (by simp) (fun h=>by cases h) fun _ _=>aB
theorem aJk{c:Operand}{p q:Code}(U:ad n f c=.bool true)(F:p.wp P Q (act n f aG) w):(Code.cond c p q).wp P Q (act n f aG) w:=
 Ms (e:=true) (cm:=True) (lX:=False) U (by simp) (fun _ _=>F) fun h=>by cases h
theorem iJ{e:Bool}{cm lX az:Prop}(h:if e=true then cm else lX)(F:e=true→cm→az)(aB:e=false→lX→az):az:=by
 cases e
 ·exact aB rfl (by simpa using h)
 ·exact F rfl (by simpa using h)
theorem least{p:Nat→Prop}(h:∃ n,p n):∃ o,p o∧∀ k,p k→o≤k:=by
 obtain⟨n,aM⟩:=h;induction n using Nat.strongRecOn with
 |_ n cq=>
  by_cases aH:∃ k,k<n∧p k
  ·obtain⟨k,aq,aF⟩:=aH; exact cq k aq aF
  ·exact⟨n,aM,fun k aq=>Nat.le_of_not_lt fun al=>aH ⟨k,al,aq⟩⟩
theorem aCM{c:Code}{bC:Type}{dp:(Nat→Value)→bC→(Nat→Value)}{body:bC→World→(bC→World→Prop)→Prop}{lI:bC}{cX:Nat→Value}(h:fh body lI w)
    (ao:∀ (s:bC) (g:Nat→Value) (w:World) (ab:bC→World→Prop),body s w ab→c.wp P (Exit.then (fun cv J=>∃ fO cP,cv=act n (dp cP fO) aG∧ab fO J) Q) (act n (dp g s) aG) w) :
    (Code.loop c).wp P Q (act n (dp cX lI) aG) w:=by
  obtain⟨aZ,ty,ah,aa⟩:=h
  classical
  let eM:Nat→Act→World→Prop:=fun o a w=>∃ s g,a=act n (dp g s) aG∧aZ s w∧ty s w=o
  let IT:Act→World→Nat:=fun a w=>if h:∃ o,eM o a w then (least h).choose else 0
  refine wp_loop (fun a w=>∃ o,eM o a w) IT ⟨_,lI,cX,rfl,ah,rfl⟩ ?_;intro a w a_;have asD:IT a w=(least a_).choose:=by simp only[IT,dif_pos a_]
  obtain⟨⟨s,g,rfl,aH,hm⟩,B1⟩:=(least a_).choose_spec;have:=ao s g w _ (aa s w aH);refine wp_mono this fun l cv J he=>?_;cases l<;>first
    |exact he
    | (obtain ⟨fO, cP, rfl, D7, dI⟩ := he
       have hex:∃ o,eM o (act n (dp cP fO) aG) J:=⟨_,fO,cP,rfl,D7,rfl⟩
       refine⟨hex,?_⟩;have I:IT (act n (dp cP fO) aG) J=(least hex).choose:=by simp only[IT,dif_pos hex]
       have R:(least hex).choose≤ty fO J:=(least hex).choose_spec.2 _ ⟨fO,cP,rfl,D7,rfl⟩;rw[asD,I,← hm]
       omega)
theorem gx{Z:Type}{T:bz Z}{k:FuncId}{args:List Value}{d:Option Nat}{next:Act→World→Prop}{ab:Z→World→Prop}(ag:G.dst=d)
  (aL:(execOp (ad n f) G).run P w=.ok (.enter k args.toArray) w) (h:M P k args T w ab) (aq:∀ r J,ab r J→next (act n (hx f d (T.enc r)) aG) J):m4 P G (act n f aG) w next Q:=by
 rw[n0];subst ag;refine X7 aL (Calls.mono h fun l J he=>?_);cases l with
 |returned v=>obtain⟨r,rfl,aa⟩:=he; exact aq r J aa
 |panicked c=>exact he.elim
 |outgrown=>exact he.elim
theorem ap{Z:Type}{T:bz Z}{k:FuncId}{args:List Value}{ab K':Z→World→Prop}(h:M P k args T w ab)(aq:∀ r J,ab r J→K' r J):M P k args T w K':=
 Calls.mono h fun l J he=>by
  cases l with
  |returned v=>obtain⟨r,aa,cg⟩:=he; exact⟨r,aa,aq r J cg⟩
  |panicked c=>exact he
  |outgrown=>exact he
def mO(g:Bool)(v:Value):Value:=bif g then v else undef
theorem cc{g:Bool}{v:Value}(h:g=true):mO g v=v:=by subst h; rfl
theorem akv{a e:Bool}(h:(a&&e)=true):a=true:=(Bool.and_eq_true_iff.1 h).1
inductive tD(n:Nat)(ops:Array Oper)(f:Nat→Value)(G:Oper)(g:Bool):Prop
 |b7 (D:Nat) (d:Nat) (cX c:Bool) (O:G.guard=some (D,true)) (bT:(ops[D]?).bind (·.dst)=some d) (aL:ad n f (.tmp d)=mO cX (.bool c)) (he:g=(cX&&c))
 |no (D:Nat) (d:Nat) (cX c:Bool) (O:G.guard=some (D,false)) (bT:(ops[D]?).bind (·.dst)=some d) (aL:ad n f (.tmp d)=mO cX (.bool c)) (he:g=(cX&&!c))
theorem tD.wanted{g:Bool}(h:tD n ops f G g):Region.wanted G (yielded ops (act n f aG).tmps)=g:=by
 cases h with
 |b7 D d cX c O bT aL he=>
  subst he;simp only[Region.wanted,O,IP,C4,bT,aL];cases cX<;>cases c<;>rfl
 |no D d cX c O bT aL he=>
  subst he;simp only[Region.wanted,O,IP,C4,bT,aL];cases cX<;>cases c<;>rfl
theorem bn{g:Bool}{v:Value}{d:Option Nat}(ay:ops.toList[i]?=some G)(O:tD n ops f G g)(ag:G.dst=d)(aL:g=true→(execOp (ad n f) G).run P w=.ok (.value v) w)
  (h:du P ops Q rest (act n (hx f d (mO g v)) aG) w):du P ops Q (i::rest) (act n f aG) w:=by
 subst ag;rw[zN] at *;rw[wpOps_cons];simp only[wpOp,ofList ay,O.wanted];cases g with
 |true=>
  left;simp only[Oper.wp,h3,aL rfl,Oper.upon_value,iv];exact h
 |false=>simp only[Bool.false_eq_true,if_false,iv]; exact h
theorem SA{g:Bool}{v:Value}{k:Nat}{d:Option Nat}{bW:Array Bool}{az:List (Nat×(World→Prop))}(ai:lQ ops Q)(am:Region.free .any ops bW i=true)(aa:(Region.ready .any ops bW).contains i=true)(ay:ops.toList[i]?=some G)
  (O:tD n ops f G g) (ag:G.dst=d) (aL:g=true→∀ w,(execOp (ad n f) G).run P w=.ok (.value v) w)
  (h:ht P ops Q az k (bW.setIfInBounds i true) (act n (hx f d (mO g v)) aG) w):ht P ops Q az (k+1) bW (act n f aG) w:=by
 refine Iz (W:=fun _=>True) (v:=mO g v) ai am aa ay ag ?_ trivial (by rw[zM] at *; exact Mr (fun _=>trivial) _ _ _ _ h);cases g with
 |true=>exact .inl ⟨O.wanted,fun w _=>by rw[h3]; exact aL rfl w⟩
 |false=>exact .inr ⟨O.wanted,rfl⟩
theorem aGr{g:Bool}{v:Value}{k:Nat}{d:Option Nat}{bW:Array Bool}{az:List (Nat×(World→Prop))}(W:World→Prop)(ai:lQ ops Q)(am:Region.free .any ops bW i=true)(aa:(Region.ready .any ops bW).contains i=true)(ay:ops.toList[i]?=some G)
  (O:tD n ops f G g) (ag:G.dst=d) (aL:g=true→∀ w,W w→(execOp (ad n f) G).run P w=.ok (.value v) w) (ff:g=true→W w)
  (h:ht P ops Q ((i,fun w=>g=true→W w)::az) k (bW.setIfInBounds i true) (act n (hx f d (mO g v)) aG) w):ht P ops Q az (k+1) bW (act n f aG) w:=by
 refine Iz (W:=fun w=>g=true→W w) (v:=mO g v) ai am aa ay ag ?_ ff h;cases g with
 |true=>exact .inl ⟨O.wanted,fun w hw=>by rw[h3]; exact aL rfl w (hw rfl)⟩
 |false=>exact .inr ⟨O.wanted,rfl⟩
theorem i_{z:Operand}{a c:Bool}(aj:G.op=.pick x S z)(F:ad n f x=.bool a)(aB:ad n f S=.bool true)(bN:ad n f z=mO (!a) (.bool c)) :
  (execOp (ad n f) G).run P w=.ok (.value (.bool (a||c))) w:=by
 cases a<;>simp[execOp,aj,F,aB,bN,asBool,mO]
theorem lH{z:Operand}{a e:Bool}(aj:G.op=.pick x S z)(F:ad n f x=.bool a)(aB:ad n f S=mO a (.bool e))(bN:ad n f z=.bool false) :
  (execOp (ad n f) G).run P w=.ok (.value (.bool (a&&e))) w:=by
 cases a<;>simp[execOp,aj,F,aB,bN,asBool,mO]
theorem aFx{z:Operand}{cX a c:Bool}(O:cX=true)(aj:G.op=.pick x S z)(F:ad n f x=mO cX (.bool a))(aB:ad n f S=.bool true)(bN:ad n f z=mO (cX&&!a) (.bool c)) :
  (execOp (ad n f) G).run P w=.ok (.value (.bool (a||c))) w:=by
 subst O; cases a<;>simp[execOp,aj,F,aB,bN,asBool,mO]
theorem vL{z:Operand}{cX a e:Bool}(O:cX=true)(aj:G.op=.pick x S z)(F:ad n f x=mO cX (.bool a))(aB:ad n f S=mO (cX&&a) (.bool e))(bN:ad n f z=.bool false) :
  (execOp (ad n f) G).run P w=.ok (.value (.bool (a&&e))) w:=by
 subst O; cases a<;>simp[execOp,aj,F,aB,bN,asBool,mO]
theorem aX{g f:Nat→Value}(h:g=f):act n f aG=act n g aG:=by rw[h]
theorem aJf(c4:List Nat):∀ (c0:List Nat) (a:Act) (w:World),wpOps P ops (Exit.then (fun a w=>wpOps P ops Q c4 a w) Q) c0 a w→wpOps P ops Q (c0++c4) a w:=by
 intro c0;induction c0 with
 |nil=>intro a w h; exact h
 |cons i c0 cq=>
  intro a w h;rw[List.cons_append,wpOps_cons];rw[wpOps_cons] at h;unfold wpOp at *;cases aj:ops[i]? with
  |none=>simp only[aj] at h ⊢; exact cq _ _ h
  |some G=>
   simp only[aj] at h ⊢;by_cases hw:Region.wanted G (yielded ops a.tmps)=true
   ·rw[if_pos hw] at h ⊢;rcases h with h | ⟨I,nE,Tn,R⟩
    ·left;have fG:=Oper.wp_mono (K':=wpOps P ops Q (c0++c4)) (fun a w h=>cq a w h) h;unfold Oper.wp at fG ⊢;revert fG;generalize (execOp a.eval G).run P w=r;cases r with
     |ok k1 J=>cases k1<;>exact fun h=>h
     |halt x J=>cases x<;>exact fun h=>h
    ·exact .inr ⟨I,nE,Tn,R⟩
   ·rw[if_neg hw] at h ⊢;exact cq _ _ h
theorem mT{bC:Type}{eM:bC→World→Prop}{dp:(Nat→Value)→bC→(Nat→Value)}(c0 c4:List Nat)
  (bT:∀ s g w,eM s w→du P ops Q c4 (act n (dp g s) aG) w) (F:du P ops (Exit.then (fun a w=>∃ s g,a=act n (dp g s) aG∧eM s w) Q) c0 (act n f aG) w):du P ops Q (c0++c4) (act n f aG) w:=by
 rw[zN] at *;refine aJf c4 c0 _ _ ?_;have:∀ (m:List Nat) (a:Act) (w:World),wpOps P ops (Exit.then (fun a w=>∃ s g,a=act n (dp g s) aG∧eM s w) Q) m a w→wpOps P ops (Exit.then (fun a w=>wpOps P ops Q c4 a w) Q) m a w:=by
  intro m;induction m with
  |nil=>rintro a w ⟨s,g,rfl,Pt⟩; exact bT s g w Pt
  |cons i m cq=>
   intro a w h;rw[wpOps_cons] at h ⊢;unfold wpOp at *;cases aj:ops[i]? with
   |none=>simp only[aj] at h ⊢; exact cq _ _ h
   |some G=>
    simp only[aj] at h ⊢;by_cases hw:Region.wanted G (yielded ops a.tmps)=true
    ·rw[if_pos hw] at h ⊢;rcases h with h | ⟨I,nE,Tn,R⟩
     ·left;have fG:=Oper.wp_mono (K':=wpOps P ops (Exit.then (fun a w=>wpOps P ops Q c4 a w) Q) m) (fun a w h=>cq a w h) h;unfold Oper.wp at fG ⊢;revert fG;generalize (execOp a.eval G).run P w=r;cases r with
      |ok k1 J=>cases k1<;>exact fun h=>h
      |halt x J=>cases x<;>exact fun h=>h
     ·exact .inr ⟨I,nE,Tn,R⟩
    ·rw[if_neg hw] at h ⊢;exact cq _ _ h
 exact this c0 _ _ F
theorem rE{c:Code}{bC:Type}{dp:(Nat→Value)→bC→(Nat→Value)}{body:bC→World→(bC→World→Prop)→Prop}{lI:bC}(am:dp f lI=f)(h:fh body lI w)
  (ao:∀ (s:bC) (g:Nat→Value) (w:World) (ab:bC→World→Prop),body s w ab→c.wp P (Exit.then (fun cv J=>∃ fO cP,cv=act n (dp cP fO) aG∧ab fO J) Q) (act n (dp g s) aG) w) :
  (Code.loop c).wp P Q (act n f aG) w:=by
 rw[← am];exact aCM (dp:=dp) h ao
def tU{Z:Type}(P:Program)(hV:cw)(args:List Value)(T:bz Z)(w:World)(k:Z→World→Prop):Prop:=
 ∃ (f:FuncId) (c:List Value),hV=.mk (.func f) #[] c.toArray∧dj P f∧M P f (args++c) T w k
theorem Tx{Z:Type}{T:bz Z}{lz:List Operand}{nW:Array TypeId}{m:List Value}{hV:cw}{d:Option Nat}{next:Act→World→Prop}{ab:Z→World→Prop}(ag:G.dst=d)(aj:G.op=.call { callee:=.value x,args:=lz.toArray,argTypes:=nW })
  (F:ad n f x=hV.enc) (Y:lz.map (ad n f)=m) (h:tU P hV m T w ab) (aq:∀ r J,ab r J→next (act n (hx f d (T.enc r)) aG) J):m4 P G (act n f aG) w next Q:=by
 obtain⟨k,c,yu,he,h⟩:=h;exact gx ag (aFv aj F yu he Y) h aq
def dw(w:World)(k:World→Prop):Prop:=k w.drew
theorem n9{w:World}{k:World→Prop}(h:dw w k):∃ J,J=w.drew∧k J:=⟨_,rfl,h⟩
def sT(aQ aV:Prop):Prop:=aQ∧aV
end
theorem Xo{w:World}{G:Obj}{a:Addr}{bd:List Value}(h:o6 w a bd):o6 (w.alloc G) a bd:=by
 intro D v aL;have ah:=h D v aL;rw[World.cell?_alloc_lt _ _ _ (World.block_lt_of_cell? _ _ ah)];exact ah
theorem yM{Z:Type}{T:bz Z}{a:Addr}{x:Z}{w J:World}{G:Obj}(hw:J=w.alloc G)(h:L T a w x):L T a J x:=hw▸Xo h
def Gb{Z:Type}(T:bz Z)(w:World)(a:Option Addr)(xs:List Z):Prop:=match a with
 |some a=>o6 w a (xs.flatMap T.cells)
 |none=>xs=[]
def lu{Z:Type}(T:bz Z)(w:World)(s:af)(xs:List Z):Prop:=xs.length=s.len∧Gb T w s.a xs
def mo{Z:Type}(t:TypeId)(T:bz Z)(ar av:Nat)(s:af)(new:List Z)(w:World)(k:af→World→Prop):Prop:=
 (s.len + new.length ≤ s.cap → match s.a with
  |some a=>wx w (a.add (s.len*ar)) (new.length*ar)∧k ⟨some a,s.len+new.length,s.cap⟩ (oS w (a.add (s.len*ar)) 0 (new.flatMap T.cells))
  |none=>k ⟨none,s.len+new.length,s.cap⟩ w) ∧
 (s.cap < s.len + new.length → (s.len + new.length) * av ≤ 140737488355328 ∧ ∃ old : List Z, lu T w s old ∧
  ∀ (c:Nat) (rest:List Value),s.len+new.length≤c→rest.length=(c-(s.len+new.length))*ar →
   k ⟨some ⟨w.heap.size,0,none⟩,s.len+new.length,c⟩ (w.drew.alloc (.cells ((old++new).flatMap T.cells++rest).toArray t)))
def tO{Z:Type}(t:TypeId)(T:bz Z)(ar av:Nat)(s e:af)(w:World)(k:af→World→Prop):Prop:=
 ∃ new:List Z,lu T w e new∧mo t T ar av s new w k
def mn{Z:Type}(t:TypeId)(T:bz Z)(ar av:Nat)(s:af)(new:List Z)(w:World)(k:af→World→Prop):Prop:=
 mo t T ar av s new (w.alloc (.cells (new.flatMap T.cells).toArray t)) k
section
variable {P:Program} {Q:Exit→Act→World→Prop} {n:Nat} {f:Nat→Value} {aG:List Deferred} {w J:World} {ops:Array Oper} {i:Nat} {rest:List Nat} {G:Oper} {x S z:Operand}
theorem n_{Z:Type}{T:bz Z}{o:Nat}(h:∀ x,(T.cells x).length=o)(xs:List Z):(xs.flatMap T.cells).length=xs.length*o:=by
 induction xs with
 |nil=>simp
 |cons x xs cq=>simp[cq,h x,Nat.add_mul,Nat.add_comm]
theorem AI{Z:Type}{T:bz Z}{o:Nat}(al:∀ x,(T.cells x).length=o){s:af}{xs:List Z}(h:lu T w s xs) :
  (Builtin.firstCells o s.len (X.enc s)).run P w=.ok (xs.flatMap T.cells).toArray w:=by
 obtain⟨hi,aa⟩:=h;obtain⟨a,m,c⟩:=s;cases a with
 |none=>
  simp only[Gb] at aa;subst aa;simp[Builtin.firstCells]
 |some a=>
  simp only[Gb] at aa;simp only at hi;have:=run_loadCellsFrom P w a (xs.flatMap T.cells) 0 #[] (by intro D v aL; rw[Nat.zero_add]; exact aa D v aL);rw[n_ al,hi] at this;simp only[Builtin.firstCells,loadCells];rw[this]; simp
theorem Of{Z:Type}{T:bz Z}{s:af}{xs:List Z}(h:lu T w s xs):lu T w.drew s xs:=by
 obtain⟨a,m,c⟩:=s;cases a<;>exact h
theorem aG5{Z:Type}{T:bz Z}{ar:Nat}{t u hF l:TypeId}{s e:af}{new:List Z}(aT:P.underlying t=some (.slice l))(hu:∃ h6,P.underlying u=some (.slice h6))
  (ok:cE P l T ar) (rq:lu T w e new) (U:s.len+new.length≤s.cap) {a:Addr} (Y:s.a=some a) (hw:wx w (a.add (s.len*ar)) (new.length*ar)) :
  (Builtin.append_ #[t,u] hF #[X.enc s,X.enc e]).run P w=.ok (X.enc ⟨some a,s.len+new.length,s.cap⟩) (oS w (a.add (s.len*ar)) 0 (new.flatMap T.cells)):=by
 obtain⟨jT,ay,kp⟩:=ok.size;obtain⟨h6,hu⟩:=hu;have mP:new.length=e.len:=rq.1;have BT:s.len+e.len≤s.cap:=by omega
 have I:=AI (P:=P) ok.len rq
 have R:=E2 (P:=P) (a.add (s.len*ar)) (new.flatMap T.cells) 0 w (by
  intro D bT;rw[Nat.zero_add];rw[n_ ok.len] at bT
  exact hw D bT) (fun v aL=>by obtain⟨x,_,F⟩:=List.mem_flatMap.1 aL; exact ok.one x v F)
 simp only[Builtin.append_];simp[run_underlying aT,run_underlying hu,run_sizeOf ay,Builtin.lenOf,BT,kp,Y,mP];have GQ:Sem.run P (Builtin.firstCells ar e.len (Value.slice e.a e.len e.cap)) w=.ok (new.flatMap T.cells).toArray w:=I;rw[GQ];simp only[Result.andThen_ok];rw[show storeCells (a.add (s.len*ar)) (new.flatMap T.cells).toArray.toList=storeCells (a.add (s.len*ar)) (new.flatMap T.cells) 0 from rfl,R];simp
theorem aG6{Z:Type}{T:bz Z}{ar:Nat}{t u hF l:TypeId}{s e:af}{new:List Z}(aT:P.underlying t=some (.slice l))(hu:∃ h6,P.underlying u=some (.slice h6))
  (ok:cE P l T ar) (rq:lu T w e new) (U:s.len+new.length≤s.cap) (Y:s.a=none) :
  (Builtin.append_ #[t,u] hF #[X.enc s,X.enc e]).run P w=.ok (X.enc ⟨none,s.len+new.length,s.cap⟩) w:=by
 obtain⟨jT,ay,kp⟩:=ok.size;obtain⟨h6,hu⟩:=hu;have mP:new.length=e.len:=rq.1;have BT:s.len+e.len≤s.cap:=by omega
 have I:Sem.run P (Builtin.firstCells ar e.len (Value.slice e.a e.len e.cap)) w=.ok (new.flatMap T.cells).toArray w:=AI (P:=P) ok.len rq;simp only[Builtin.append_];simp[run_underlying aT,run_underlying hu,run_sizeOf ay,Builtin.lenOf,BT,kp,Y,mP,I]
theorem aG4{Z:Type}{T:bz Z}{ar:Nat}{t u hF l:TypeId}{jT:TypeInfo}{ox:Value}{ew:List Value}{s e:af}{new old:List Z}(aT:P.underlying t=some (.slice l))(hu:∃ h6,P.underlying u=some (.slice h6))
  (ok:cE P l T ar) (ay:P.info? l=some jT) (bN:jT.zero=some ox) (Cb:ox.cells=ew.toArray) (wU:ew.length=ar) (Eb:0<jT.bytes)
  (rq:lu T w e new) (U:s.cap<s.len+new.length) (s9:(s.len+new.length)*jT.bytes≤140737488355328) (hold:lu T w s old) :
  ∃ (c:Nat) (rest:List Value),s.len+new.length≤c∧rest.length=(c-(s.len+new.length))*ar ∧
   (Builtin.append_ #[t,u] hF #[X.enc s,X.enc e]).run P w=.ok (X.enc ⟨some ⟨w.heap.size,0,none⟩,s.len+new.length,c⟩) (w.drew.alloc (.cells ((old++new).flatMap T.cells++rest).toArray l)):=by
 obtain⟨aos,yx,kp⟩:=ok.size;rw[ay] at yx; injection yx with yx; subst yx
 obtain⟨h6,hu⟩:=hu;have mP:new.length=e.len:=rq.1;have B4:old.length=s.len:=hold.1;have BT:¬ (s.len+e.len≤s.cap):=by omega
 have O:=growslice_fits (need:=s.len+e.len) (old:=s.cap) (bytes:=jT.bytes) (by omega) (by rw[← mP]; exact s9);have yv:¬ (281474976710656<Builtin.nextslicecap (s.len+e.len) s.cap*jT.bytes):=by omega
 have PM:jT.bytes≠0:=by omega
 have I:=AI (P:=P) ok.len rq;have R:=AI (P:=P) ok.len hold;refine⟨(Question.appendCap (s.len+e.len) s.cap l).cut (w.tape w.drawn (.appendCap (s.len+e.len) s.cap l)),(Builtin.zeroCells ox.cells ((Question.appendCap (s.len+e.len) s.cap l).cut (w.tape w.drawn (.appendCap (s.len+e.len) s.cap l))-(s.len+e.len))).toList,?_,?_,?_⟩
 ·simp only[Question.cut]; omega
 ·simp[Builtin.zeroCells,Cb,wU,mP]
 ·have GQ:Sem.run P (Builtin.firstCells ar e.len (Value.slice e.a e.len e.cap)) w.drew=.ok (new.flatMap T.cells).toArray w.drew:=AI (P:=P) ok.len (Of rq);have Pp:Sem.run P (Builtin.firstCells ar s.len (Value.slice s.a s.len s.cap)) w.drew=.ok (old.flatMap T.cells).toArray w.drew:=AI (P:=P) ok.len (Of hold);simp only[Builtin.append_];simp[run_underlying aT,run_underlying hu,run_sizeOf ay,Builtin.lenOf,BT,kp,mP,typeInfo,ay,PM,yv,Question.forced,GQ,Pp,zeroValue,bN,newRow,List.flatMap_append,World.drew_eq];congr 2;apply Array.ext';simp
theorem IK{Z:Type}{T:bz Z}{ar av:Nat}{t u l:TypeId}{ox:Value}{ew:List Value}{s e:af}{d:Option Nat}{next:Act→World→Prop}{ab:af→World→Prop}(ag:G.dst=d)
  (aj:G.op=.call { callee:=.builtin .append,args:=#[x,S],argTypes:=#[t,u] }) (aT:P.underlying t=some (.slice l)) (hu:∃ h6,P.underlying u=some (.slice h6))
  (ok:cE P l T ar) (vk:∃ i,P.info? l=some i∧i.zero=some ox∧i.size=ar∧i.bytes=av) (Cb:ox.cells=ew.toArray) (wU:ew.length=ar) (Eb:0<av)
  (F:ad n f x=X.enc s) (aB:ad n f S=X.enc e) (h:tO l T ar av s e w ab) (aq:∀ r J,ab r J→next (act n (hx f d (X.enc r)) aG) J) :
  m4 P G (act n f aG) w next Q:=by
 rw[n0];subst ag;obtain⟨jT,ay,bN,kp,rfl⟩:=vk;obtain⟨new,rq,kK,z9⟩:=h;have gZ:∀ (w:World) (v:Value) (J:World),(Builtin.append_ #[t,u] G.type #[X.enc s,X.enc e]).run P w=.ok v J→(execOp (ad n f) G).run P w=.ok (.value v) J:=by
  intro w v J aL;simp only[execOp,aj,resolve,invoke,builtin];simp only[List.map_toArray,List.map_cons,List.map_nil,F,aB,pure_bind,Sem.run_bind,aL,Result.andThen_ok,Sem.run_pure]
 by_cases U:s.len+new.length≤s.cap
 ·have kK:=kK U;cases Y:s.a with
  |none=>
   rw[Y] at kK;simp only[Oper.wp,h3,gZ _ _ _ (aG6 aT hu ok rq U Y),Oper.upon_value,iv];exact aq _ _ kK
  |some a=>
   rw[Y] at kK;simp only[Oper.wp,h3,gZ _ _ _ (aG5 aT hu ok rq U Y kK.1),Oper.upon_value,iv];exact aq _ _ kK.2
 ·obtain⟨s9,old,hold,z9⟩:=z9 (by omega);obtain⟨c,rest,I,R,aK⟩:=aG4 (hF:=G.type) aT hu ok ay bN Cb wU Eb rq (by omega) s9 hold;simp only[Oper.wp,h3,gZ _ _ _ aK,Oper.upon_value,iv];exact aq _ _ (z9 c rest I R)
theorem aj0(w:World)(bd:List Value)(t:TypeId):o6 (w.alloc (.cells bd.toArray t)) ⟨w.heap.size,0,none⟩ bd:=by
 intro D v aL;have:(⟨w.heap.size,0,none⟩:Addr).add D=⟨w.heap.size,D,none⟩:=by
  cases D<;>simp[Addr.add]
 rw[this,World.cell?_alloc_new];simpa using aL
theorem aky{Z:Type}{t:TypeId}{T:bz Z}{ar av:Nat}{s:af}{new:List Z}{ab:af→World→Prop}(h:mn t T ar av s new w ab) :
  tO t T ar av s ⟨some ⟨w.heap.size,0,none⟩,new.length,new.length⟩ (w.alloc (.cells (new.flatMap T.cells).toArray t)) ab:=
 ⟨new,⟨rfl,aj0 w _ t⟩,h⟩
theorem aoo{Z:Type}{T:bz Z}{ar:Nat}(al:∀ x,(T.cells x).length=ar)(am:∀ x,(T.enc x).cells=(T.cells x).toArray) :
  ∀ (xs:List Z) (i:Nat) (pre lK:List Value),pre.length=i*ar→lK.length=xs.length*ar →
   Instr.fill (fun i=>some (i*ar,ar)) (pre++lK).toArray ((xs.zipIdx i).map fun p=>(p.2,T.enc p.1))=some (pre++xs.flatMap T.cells).toArray:=by
 have jM:∀ (a0:List Value) (G:Nat) (pre lK:List Value),pre.length=G→a0.length≤lK.length →
   ((a0.toArray.zipIdx).foldl (fun bd (x:Value×Nat)=>bd.setIfInBounds (G+x.2) x.1) (pre++lK).toArray)=(pre++a0++lK.drop a0.length).toArray:=by
  intro a0;have gen:∀ (a0:List Value) (k G:Nat) (pre lK:List Value),pre.length=G+k→a0.length≤lK.length →
    ((a0.zipIdx k).foldl (fun (bd:Array Value) (x:Value×Nat)=>bd.setIfInBounds (G+x.2) x.1) (pre++lK).toArray)=(pre++a0++lK.drop a0.length).toArray:=by
   intro a0;induction a0 with
   |nil=>intro k G pre lK _ _; simp
   |cons v a0 cq=>
    intro k G pre lK aF aH;cases lK with
    |nil=>simp at aH
    |cons s lK=>
     have I:((pre++s::lK).toArray.setIfInBounds (G+k) v)=((pre++[v])++lK).toArray:=by
      rw[← aF];simp
     simp only[List.zipIdx_cons,List.foldl_cons,I];rw[cq (k+1) G (pre++[v]) lK (by simp; omega) (by simpa using aH)];simp
  intro G pre lK aF aH;rw[← Array.foldl_toList];have:(a0.toArray.zipIdx).toList=a0.zipIdx 0:=by simp
  rw[this];exact gen a0 0 G pre lK (by omega) aH
 intro xs;induction xs with
 |nil=>
  intro i pre lK aF aH;have:lK=[]:=by simpa using aH
  subst this;simp[Instr.fill]
 |cons x xs cq=>
  intro i pre lK aF aH;simp only[List.zipIdx_cons,List.map_cons,Instr.fill,am x];have yC:lK.length=xs.length*ar+ar:=by rw[aH]; simp[Nat.add_mul]
  have U:((T.cells x).toArray.size≠ar||i*ar+(T.cells x).toArray.size>(pre++lK).toArray.size)=false:=by
   simp[al x,aF,yC]
  rw[U];simp only[Bool.false_eq_true,if_false];have R:=jM (T.cells x) (i*ar) pre lK aF (by rw[al x,yC]; omega);rw[R];rw[cq (i+1) (pre++T.cells x) (lK.drop (T.cells x).length) (by simp[aF,al x,Nat.add_mul]) (by simp[al x,yC])];simp
theorem AF{Z:Type}{T:bz Z}{ar:Nat}{t l:TypeId}{ox:Value}{o:Nat}{eT:List (Nat×Operand)}{xs:List Z}{a:Addr}{J:World}(aj:G.op=.buildSlice t o eT.toArray)(aT:P.underlying t=some (.slice l))
  (ok:cE P l T ar) {av:Nat} (vk:∃ i,P.info? l=some i∧i.zero=some ox∧i.size=ar∧i.bytes=av) (hm:xs.length=o) (ao:o*ar≤2^24) (ah:o*ar≠0)
  (aF:eT.map (fun p=>(p.1,ad n f p.2))=(xs.zipIdx 0).map fun p=>(p.2,T.enc p.1))
  (Y:a=⟨w.heap.size,0,none⟩) (hw:J=w.alloc (.cells (xs.flatMap T.cells).toArray l)) :
  (execOp (ad n f) G).run P w=.ok (.value (X.enc ⟨some a,o,o⟩)) J:=by
 subst Y; subst hw;obtain⟨jT,ay,bN,kp,_⟩:=vk;have PV:=aoo (T:=T) ok.len ok.flat xs 0 [] ((Array.range (o*jT.size)).map (ox.cells[·%ox.cells.size]!)).toList (by simp) (by simp[hm,kp]);simp only[List.nil_append,Array.toArray_toList] at PV;have aq1:¬ (o*jT.size>2^24):=by rw[kp]; omega
 have aoD:o*jT.size≠0:=by rw[kp]; exact ah
 simp only[execOp,aj,Instr.buildSlice];simp only[List.map_toArray,aF];simp only[bind_pure_comp,Sem.run_map,Sem.run_bind,run_underlying aT,Result.andThen_ok,run_sizeOf ay];rw[if_neg aq1,if_neg aoD];simp[zeroValue,typeInfo,ay,bN,kp,newRow] at PV ⊢;simp[PV]
theorem EI{Z:Type}{t:TypeId}{T:bz Z}{xs:List Z}{w:World}{k:Addr→World→Prop}(h:tk t T xs w k) :
  ∃ a J,a=⟨w.heap.size,0,none⟩∧J=w.alloc (.cells (xs.flatMap T.cells).toArray t)∧k a J:=⟨_,_,rfl,rfl,h⟩
theorem LI{t l:TypeId}{s r:af}{m h:Int}{rC pZ:IntKind}{ar:Nat}{Z:Type}{T:bz Z}(aj:G.op=.slice t x (some S) (some z) none)(aT:P.underlying t=some (.slice l))(ok:cE P l T ar)(F:ad n f x=X.enc s)(aB:ad n f S=.int rC m)(bN:ad n f z=.int pZ h)
  (aa:Sub s ar m h (s.cap:Int) r):(execOp (ad n f) G).run P w=.ok (.value (X.enc r)) w:=by
 obtain⟨jT,vh,kp⟩:=ok.size;obtain⟨a,len,cap⟩:=s
 try simp only at aa
 obtain⟨ah,I,R,aK,rfl⟩:=aa;have aS:(((h:Int).toNat:Nat):Int)=h:=Int.toNat_of_nonneg (by omega);have bb:((((cap:Int):Int).toNat:Nat):Int)=(cap:Int):=Int.toNat_of_nonneg (by omega);have ao:∀ (k:IntKind) (i:Int) (S:Nat) (c:BoundsCode),0≤i→i≤S→(Instr.sliceBound (.int k i) S c).run P w=.ok i.toNat w:=fun k i S c vi vj=>by
  simp[Instr.sliceBound,asIntOf,vi,vj]
 simp only[execOp,aj,F,Option.map_some,Option.map_none,aB,bN];simp only[Instr.sliceAt,Instr.slice,Sem.run_bind,run_underlying aT,Result.andThen_ok,Instr.sliceBounds,bind_pure_comp,Sem.run_map,Sem.run_pure,ao pZ h cap _ (by omega) (by omega),ao rC m h.toNat _ (by omega) (by omega)];simp[run_sizeOf vh,kp]
theorem aeh{t l:TypeId}{s r:af}{m:Int}{rC:IntKind}{ar:Nat}{Z:Type}{T:bz Z}(aj:G.op=.slice t x (some S) none none)(aT:P.underlying t=some (.slice l))(ok:cE P l T ar)(F:ad n f x=X.enc s)(aB:ad n f S=.int rC m)
  (aa:Sub s ar m (s.len:Int) (s.cap:Int) r):(execOp (ad n f) G).run P w=.ok (.value (X.enc r)) w:=by
 obtain⟨jT,vh,kp⟩:=ok.size;obtain⟨a,len,cap⟩:=s
 try simp only at aa
 obtain⟨ah,I,R,aK,rfl⟩:=aa;have aS:((((len:Int):Int).toNat:Nat):Int)=(len:Int):=Int.toNat_of_nonneg (by omega);have bb:((((cap:Int):Int).toNat:Nat):Int)=(cap:Int):=Int.toNat_of_nonneg (by omega);have ao:∀ (k:IntKind) (i:Int) (S:Nat) (c:BoundsCode),0≤i→i≤S→(Instr.sliceBound (.int k i) S c).run P w=.ok i.toNat w:=fun k i S c vi vj=>by
  simp[Instr.sliceBound,asIntOf,vi,vj]
 simp only[execOp,aj,F,Option.map_some,Option.map_none,aB];simp only[Instr.sliceAt,Instr.slice,Sem.run_bind,run_underlying aT,Result.andThen_ok,Instr.sliceBounds,bind_pure_comp,Sem.run_map,Sem.run_pure,ao rC m len _ (by omega) (by omega)];simp[run_sizeOf vh,kp]
theorem Sp{t l:TypeId}{s r:af}{h:Int}{pZ:IntKind}{ar:Nat}{Z:Type}{T:bz Z}(aj:G.op=.slice t x none (some z) none)(aT:P.underlying t=some (.slice l))(ok:cE P l T ar)(F:ad n f x=X.enc s)(bN:ad n f z=.int pZ h)
  (aa:Sub s ar 0 h (s.cap:Int) r):(execOp (ad n f) G).run P w=.ok (.value (X.enc r)) w:=by
 obtain⟨jT,vh,kp⟩:=ok.size;obtain⟨a,len,cap⟩:=s
 try simp only at aa
 obtain⟨ah,I,R,aK,rfl⟩:=aa;have aS:(((h:Int).toNat:Nat):Int)=h:=Int.toNat_of_nonneg (by omega);have bb:((((cap:Int):Int).toNat:Nat):Int)=(cap:Int):=Int.toNat_of_nonneg (by omega);have ao:∀ (k:IntKind) (i:Int) (S:Nat) (c:BoundsCode),0≤i→i≤S→(Instr.sliceBound (.int k i) S c).run P w=.ok i.toNat w:=fun k i S c vi vj=>by
  simp[Instr.sliceBound,asIntOf,vi,vj]
 simp only[execOp,aj,F,Option.map_some,Option.map_none,bN];simp only[Instr.sliceAt,Instr.slice,Sem.run_bind,run_underlying aT,Result.andThen_ok,Instr.sliceBounds,bind_pure_comp,Sem.run_map,Sem.run_pure,ao pZ h cap _ (by omega) (by omega)];simp[run_sizeOf vh,kp]
theorem aeg{t l:TypeId}{s r:af}  {ar:Nat} {Z:Type} {T:bz Z} (aj:G.op=.slice t x none none none) (aT:P.underlying t=some (.slice l)) (ok:cE P l T ar) (F:ad n f x=X.enc s) 
  (aa:Sub s ar 0 (s.len:Int) (s.cap:Int) r):(execOp (ad n f) G).run P w=.ok (.value (X.enc r)) w:=by
 obtain⟨jT,vh,kp⟩:=ok.size;obtain⟨a,len,cap⟩:=s
 try simp only at aa
 obtain⟨ah,I,R,aK,rfl⟩:=aa;have aS:((((len:Int):Int).toNat:Nat):Int)=(len:Int):=Int.toNat_of_nonneg (by omega);have bb:((((cap:Int):Int).toNat:Nat):Int)=(cap:Int):=Int.toNat_of_nonneg (by omega);have ao:∀ (k:IntKind) (i:Int) (S:Nat) (c:BoundsCode),0≤i→i≤S→(Instr.sliceBound (.int k i) S c).run P w=.ok i.toNat w:=fun k i S c vi vj=>by
  simp[Instr.sliceBound,asIntOf,vi,vj]
 simp only[execOp,aj,F,Option.map_some,Option.map_none];simp only[Instr.sliceAt,Instr.slice,Sem.run_bind,run_underlying aT,Result.andThen_ok,Instr.sliceBounds,bind_pure_comp,Sem.run_map,Sem.run_pure];simp[run_sizeOf vh,kp]
theorem aei{t l:TypeId}{s r:af}{m h o:Int}{rC pZ kZ:IntKind}{v:Operand}{ar:Nat}{Z:Type}{T:bz Z}(aj:G.op=.slice t x (some S) (some z) (some v))(aT:P.underlying t=some (.slice l))(ok:cE P l T ar)(F:ad n f x=X.enc s)(aB:ad n f S=.int rC m)(bN:ad n f z=.int pZ h)(aL:ad n f v=.int kZ o)
  (aa:Sub s ar m h o r):(execOp (ad n f) G).run P w=.ok (.value (X.enc r)) w:=by
 obtain⟨jT,vh,kp⟩:=ok.size;obtain⟨a,len,cap⟩:=s
 try simp only at aa
 obtain⟨ah,I,R,aK,rfl⟩:=aa;have aS:(((h:Int).toNat:Nat):Int)=h:=Int.toNat_of_nonneg (by omega);have bb:(((o:Int).toNat:Nat):Int)=o:=Int.toNat_of_nonneg (by omega);have ao:∀ (k:IntKind) (i:Int) (S:Nat) (c:BoundsCode),0≤i→i≤S→(Instr.sliceBound (.int k i) S c).run P w=.ok i.toNat w:=fun k i S c vi vj=>by
  simp[Instr.sliceBound,asIntOf,vi,vj]
 simp only[execOp,aj,F,Option.map_some,Option.map_none,aB,bN,aL];simp only[Instr.sliceAt,Instr.slice,Sem.run_bind,run_underlying aT,Result.andThen_ok,Instr.sliceBounds,bind_pure_comp,Sem.run_map,Sem.run_pure,ao kZ o cap _ (by omega) (by omega),ao pZ h o.toNat _ (by omega) (by omega),ao rC m h.toNat _ (by omega) (by omega)];simp[run_sizeOf vh,kp]
theorem Sq{t l:TypeId}{s r:af}{h o:Int}{pZ kZ:IntKind}{v:Operand}{ar:Nat}{Z:Type}{T:bz Z}(aj:G.op=.slice t x none (some z) (some v))(aT:P.underlying t=some (.slice l))(ok:cE P l T ar)(F:ad n f x=X.enc s)(bN:ad n f z=.int pZ h)(aL:ad n f v=.int kZ o)
  (aa:Sub s ar 0 h o r):(execOp (ad n f) G).run P w=.ok (.value (X.enc r)) w:=by
 obtain⟨jT,vh,kp⟩:=ok.size;obtain⟨a,len,cap⟩:=s
 try simp only at aa
 obtain⟨ah,I,R,aK,rfl⟩:=aa;have aS:(((h:Int).toNat:Nat):Int)=h:=Int.toNat_of_nonneg (by omega);have bb:(((o:Int).toNat:Nat):Int)=o:=Int.toNat_of_nonneg (by omega);have ao:∀ (k:IntKind) (i:Int) (S:Nat) (c:BoundsCode),0≤i→i≤S→(Instr.sliceBound (.int k i) S c).run P w=.ok i.toNat w:=fun k i S c vi vj=>by
  simp[Instr.sliceBound,asIntOf,vi,vj]
 simp only[execOp,aj,F,Option.map_some,Option.map_none,bN,aL];simp only[Instr.sliceAt,Instr.slice,Sem.run_bind,run_underlying aT,Result.andThen_ok,Instr.sliceBounds,bind_pure_comp,Sem.run_map,Sem.run_pure,ao kZ o cap _ (by omega) (by omega),ao pZ h o.toNat _ (by omega) (by omega)];simp[run_sizeOf vh,kp]
theorem Gk{Z:Type}{t:TypeId}{T:bz Z}{ar av:Nat}{s:af}{new:List Z}{w:World}{ab:af→World→Prop}(h:mn t T ar av s new w ab) :
  ∃ a J,a=⟨w.heap.size,0,none⟩∧J=w.alloc (.cells (new.flatMap T.cells).toArray t)∧tO t T ar av s ⟨some a,new.length,new.length⟩ J ab:=⟨_,_,rfl,rfl,aky h⟩
theorem Sn{Z:Type}{T:bz Z}{ar av:Nat}{ox:Value}{t l:TypeId}{a:Addr}{J:World}(aj:G.op=.buildSlice t 0 #[])(aT:P.underlying t=some (.slice l))(ok:cE P l T ar)
  (ay:∃ i,P.info? l=some i∧i.zero=some ox∧i.size=ar∧i.bytes=av) (Y:a=⟨w.heap.size,0,none⟩) (hw:J=w.alloc (.cells (([]:List Z).flatMap T.cells).toArray l)) :
  (execOp (ad n f) G).run P w=.ok (.value (X.enc ⟨some a,0,0⟩)) J:=by
 subst Y; subst hw;obtain⟨i,ay,bN,aH,ao⟩:=ay;simp[execOp,aj,Instr.buildSlice,run_underlying aT,run_sizeOf ay,Instr.fill,newRow];rw[show Array.range 0=#[] from by simp[Array.range]];simp
end
section
variable {P:Program} {Q:Exit→Act→World→Prop} {n:Nat} {f:Nat→Value} {aG:List Deferred} {w J:World} {ops:Array Oper} {i:Nat} {rest:List Nat} {G:Oper} {x S z:Operand}
theorem jx{t:TypeId}{d:TypeDesc}{bd:Array Value}{off:Nat}{v:Value}(ag:P.underlying t=some d)(Y:wC d=false)(aL:bd[off]?=some v):(part t bd off).run P w=.ok v w:=by
 simp[part,LX ag,Y,aL]
theorem Io{t:TypeId}{d:TypeDesc}{bd aG:Array Value}{off o:Nat}(ag:P.underlying t=some d)(Y:wC d=true)(aH:∃ i,P.info? t=some i∧i.size=o)(aL:bd.extract off (off+o)=aG):(part t bd off).run P w=.ok (.agg aG) w:=by
 obtain⟨i,ay,rfl⟩:=aH;simp[part,LX ag,Y,run_sizeOf ay,aL]
theorem GJ{d:Nat}{xs gX:Array Value}:(Op.eqFields d xs gX []).run P w=.ok true w:=by simp[Op.eqFields]
theorem pd{d:Nat}{xs gX:Array Value}{fd:Field}{iF:List Field}{a e:Value}{c r:Bool} (aM:fd.name≠"_") (Y:(part fd.type xs fd.offset).run P w=.ok a w) (ao:(part fd.type gX fd.offset).run P w=.ok e w)
  (he:(Op.equalIn d fd.type a e).run P w=.ok c w) (aa:(Op.eqFields d xs gX iF).run P w=.ok r w):(Op.eqFields d xs gX (fd::iF)).run P w=.ok (c&&r) w:=by
 simp only[Op.eqFields,aM,ne_eq,not_false_eq_true,if_true,Sem.run_bind,Y,ao,he,Result.andThen_ok];cases c<;>simp[aa]
theorem tX{d:Nat}{t:TypeId}{k:IntKind}{a e:Int}(h:P.underlying t=some (.int k)):(Op.equalIn (d+1) t (.int k a) (.int k e)).run P w=.ok (a==e) w:=run_equalIn_int w d t k k a e h
theorem JU{d:Nat}{t:TypeId}{a e:Bool}(h:P.underlying t=some .bool):(Op.equalIn (d+1) t (.bool a) (.bool e)).run P w=.ok (a==e) w:=run_equalIn_bool' w d t a e h
theorem GK{d:Nat}{t:TypeId}{iF:Array Field}{xs gX:List Value}{r:Bool}(aT:P.underlying t=some (.struct iF))(aF:P.stoodInHeld t=false)(aa:(Op.eqFields d xs.toArray gX.toArray iF.toList).run P w=.ok r w) :
  (Op.equalIn (d+1) t (.agg xs.toArray) (.agg gX.toArray)).run P w=.ok r w:=by
 have am:P.fieldsOf t=iF:=by simp[Program.fieldsOf,aT]
 rw[run_equalIn_struct w d t _ _ (by rw[am]; exact aT) aF,am]; exact aa
theorem CC{xs gX:List Value}{t u:TypeId}{r:Bool}(aj:G.op=.binOp .eql t x S u)(he:P.eqGuardType P.depth t=false∧∀ w,(Op.equalIn 10000 t (.agg xs.toArray) (.agg gX.toArray)).run P w=.ok r w)
  (F:ad n f x=.agg xs.toArray) (aB:ad n f S=.agg gX.toArray):(execOp (ad n f) G).run P w=.ok (.value (.bool r)) w:=by
 simp only[execOp,aj,F,aB,bind_pure_comp,Sem.run_map,Sem.run_bind,run_eqGuard_agg w _ _ _ _ _ _ he.1,Result.andThen_ok,run_eql_struct,he.2 w]
theorem CD{xs gX:List Value}{t u:TypeId}{r:Bool}(aj:G.op=.binOp .neq t x S u)(he:P.eqGuardType P.depth t=false∧∀ w,(Op.equalIn 10000 t (.agg xs.toArray) (.agg gX.toArray)).run P w=.ok r w)
  (F:ad n f x=.agg xs.toArray) (aB:ad n f S=.agg gX.toArray):(execOp (ad n f) G).run P w=.ok (.value (.bool (!r))) w:=by
 simp only[execOp,aj,F,aB,bind_pure_comp,Sem.run_map,Sem.run_bind,run_eqGuard_agg w _ _ _ _ _ _ he.1,Result.andThen_ok,run_neq_struct,he.2 w]
theorem aFu{t l:TypeId}{len ar:Nat}{ox:Value}{o av:Nat}{eT:List (Nat×Operand)}{fC:List (Nat×Value)}{bd:List Value}(aj:G.op=.build t eT.toArray)(aT:P.underlying t=some (.array len l))
  (bN:∃ i,P.info? t=some i∧i.zero=some ox∧i.size=o∧i.bytes=av) (aH:∃ i,P.info? l=some i∧i.size=ar)
  (aF:eT.map (fun p=>(p.1,ad n f p.2))=fC) (am:Instr.fill (fun D=>some (D*ar,ar)) ox.cells fC=some bd.toArray):(execOp (ad n f) G).run P w=.ok (.value (.agg bd.toArray)) w:=by
 obtain⟨i,ay,bN,_⟩:=bN;obtain⟨D,bT,rfl⟩:=aH;subst aF;simp only[execOp,aj,Instr.build,zeroValue,typeInfo,bind_assoc,pure_bind,bind_pure_comp,Sem.run_map,Sem.run_bind,run_program,Result.andThen_ok,ay,bN,Sem.run_pure,run_underlying aT,run_sizeOf bT,List.map_toArray];rw[am];simp
theorem gT{t:TypeId}{iF:Array Field}{pl:List (Nat×Nat)}{ox:Value}{o av:Nat}{eT:List (Nat×Operand)}{fC:List (Nat×Value)}{bd:List Value}(aj:G.op=.build t eT.toArray)(aT:P.underlying t=some (.struct iF))
  (bN:∃ i,P.info? t=some i∧i.zero=some ox∧i.size=o∧i.bytes=av) (Qd:∀ w,(iF.toList.mapM fun f=>(do pure (f.offset,← sizeOf f.type):Sem (Nat×Nat))).run P w=.ok pl w)
  (aF:eT.map (fun p=>(p.1,ad n f p.2))=fC) (am:Instr.fill (fun D=>pl[D]?) ox.cells fC=some bd.toArray):(execOp (ad n f) G).run P w=.ok (.value (.agg bd.toArray)) w:=by
 obtain⟨i,ay,bN,_⟩:=bN;subst aF;have aax:(iF.mapM fun f=>(do pure (f.offset,← sizeOf f.type):Sem (Nat×Nat))).run P w=.ok pl.toArray w:=by
  rw[Array.mapM_eq_mapM_toList];simp only[Sem.run_map,Qd w,Result.andThen_ok]
 simp only[execOp,aj,Instr.build,zeroValue,typeInfo,bind_assoc,pure_bind,bind_pure_comp,Sem.run_map,Sem.run_bind,run_program,Result.andThen_ok,ay,bN,Sem.run_pure,run_underlying aT];simp only[bind_pure_comp] at aax;rw[aax];simp only[Result.andThen_ok,List.map_toArray,List.getElem?_toArray];rw[am];simp
theorem O9{s:List UInt8}{m h:Nat}(cK:h≤s.length):(⟨s.toArray⟩:ByteArray).extract m h=⟨((s.take h).drop m).toArray⟩:=by
 apply ByteArray.ext;simp[List.extract_eq_take_drop,List.drop_take]
theorem LZ{k:IntKind}{i:Int}{S:Nat}{c:BoundsCode}(ah:0≤i)(I:i≤S):(Instr.sliceBound (.int k i) S c).run P w=.ok i.toNat w:=by
 simp[Instr.sliceBound,asIntOf,ah,I]
theorem ael{t:TypeId}{s r:List UInt8}{m h:Int}{rC pZ:IntKind}(aj:G.op=.slice t x (some S) (some z) none)(aT:P.underlying t=some .string)(F:ad n f x=.string ⟨s.toArray⟩)(aB:ad n f S=.int rC m)(bN:ad n f z=.int pZ h)
  (aa:Oh s m h r):(execOp (ad n f) G).run P w=.ok (.value (.string ⟨r.toArray⟩)) w:=by
 obtain⟨ah,I,R,rfl⟩:=aa;have aH:(⟨s.toArray⟩:ByteArray).size=s.length:=rfl;have aS:((h.toNat:Nat):Int)=h:=Int.toNat_of_nonneg (by omega);simp only[execOp,aj,F,aB,bN,Option.map_some,Option.map_none]
 simp only[Instr.sliceAt,Instr.slice,Sem.run_bind,run_underlying aT,Result.andThen_ok,Instr.sliceBounds,bind_pure_comp,Sem.run_map,Sem.run_pure,aH,
  LZ (P:=P) (w:=w) (k:=pZ) (i:=h) (S:=s.length) (by omega) (by omega),LZ (P:=P) (w:=w) (k:=rC) (i:=m) (S:=h.toNat) (by omega) (by omega),Option.isSome_none,Bool.false_eq_true,if_false]
 rw[O9 (by omega)]
theorem aek{t:TypeId}{s r:List UInt8}{m:Int}{rC:IntKind}(aj:G.op=.slice t x (some S) none none)(aT:P.underlying t=some .string)(F:ad n f x=.string ⟨s.toArray⟩)(aB:ad n f S=.int rC m)
  (aa:Oh s m s.length r):(execOp (ad n f) G).run P w=.ok (.value (.string ⟨r.toArray⟩)) w:=by
 obtain⟨ah,I,R,rfl⟩:=aa;have aH:(⟨s.toArray⟩:ByteArray).size=s.length:=rfl;simp only[execOp,aj,F,aB,Option.map_some,Option.map_none]
 simp only[Instr.sliceAt,Instr.slice,Sem.run_bind,run_underlying aT,Result.andThen_ok,Instr.sliceBounds,bind_pure_comp,Sem.run_map,Sem.run_pure,aH,
  LZ (P:=P) (w:=w) (k:=rC) (i:=m) (S:=s.length) (by omega) (by omega),Option.isSome_none,Bool.false_eq_true,if_false]
 rw[O9 (by omega)];simp
theorem aej{t:TypeId}{s r:List UInt8}{h:Int}{pZ:IntKind}(aj:G.op=.slice t x none (some z) none)(aT:P.underlying t=some .string)(F:ad n f x=.string ⟨s.toArray⟩)(bN:ad n f z=.int pZ h)
  (aa:Oh s 0 h r):(execOp (ad n f) G).run P w=.ok (.value (.string ⟨r.toArray⟩)) w:=by
 obtain⟨ah,I,R,rfl⟩:=aa;have aH:(⟨s.toArray⟩:ByteArray).size=s.length:=rfl;simp only[execOp,aj,F,bN,Option.map_some,Option.map_none]
 simp only[Instr.sliceAt,Instr.slice,Sem.run_bind,run_underlying aT,Result.andThen_ok,Instr.sliceBounds,bind_pure_comp,Sem.run_map,Sem.run_pure,aH,
  LZ (P:=P) (w:=w) (k:=pZ) (i:=h) (S:=s.length) (by omega) (by omega),Option.isSome_none,Bool.false_eq_true,if_false]
 rw[O9 (by omega)];simp
def qV(aX:Array MapEntry)(c:Nat):Prop:=(∀ x∈aX.toList,x.born<c)∧(aX.toList.map (·.born)).Nodup
theorem akZ{aX:Array MapEntry}{c:Nat}{k v:Value}(h:qV aX c):qV (aX.push { key:=k,val:=v,born:=c }) (c+1):=by
 refine⟨fun x F=>?_,?_⟩
 ·simp only[Array.toList_push,List.mem_append,List.mem_singleton] at F;rcases F with F | rfl
  ·have:=h.1 x F; omega
  ·exact Nat.lt_succ_self _
 ·simp only[Array.toList_push,List.map_append,List.map_cons,List.map_nil,List.nodup_append];refine⟨h.2,by simp,fun a Y e ao=>?_⟩;obtain⟨x,F,rfl⟩:=List.mem_map.1 Y;have:=h.1 x F;rw[List.mem_singleton.1 ao]; omega
theorem ak0{aX uX:Array MapEntry}{c:Nat}(h:qV aX c)(l:uX.toList.map (·.born)=aX.toList.map (·.born)):qV uX c:=by
 refine⟨fun x F=>?_,by rw[l]; exact h.2⟩;have:x.born∈uX.toList.map (·.born):=List.mem_map.2 ⟨x,F,rfl⟩;rw[l] at this;obtain⟨S,aB,he⟩:=List.mem_map.1 this;rw[← he]; exact h.1 S aB
theorem ak1{aX uX:Array MapEntry}{c:Nat}(h:qV aX c)(l:uX.toList.Sublist aX.toList):qV uX c:=
 ⟨fun x F=>h.1 x (l.subset F),h.2.sublist (l.map _)⟩
def N_{Z:Type}(T:bz Z)(k:IntKind)(w:World)(r:Nat)(es:List (Int×Z)):Prop:=
 ∃ aX c,w.heap[r]?=some (.map aX c)∧aX.toList.map (fun l=>(l.key,l.val))=(es.map fun p=>(.int k p.1,T.enc p.2))∧qV aX c
def iD{Z:Type}(T:bz Z)(k:IntKind)(o:Option Nat)(key:Int)(w:World)(u:Option Z):Prop:=match o with
 |none=>u=none
 |some r=>∃ es,N_ T k w r es∧u=es.lookup key
def rR(o:Option Nat)(w:World)(m:Nat):Prop:=match o with
 |none=>m=0
 |some r=>∃ aX c,w.heap[r]?=some (.map aX c)∧m=aX.size
def eZ{Z:Type}(key:Int)(v:Z):List (Int×Z)→List (Int×Z)
 |[]=>[(key,v)]
 |(a,e)::t=>if key==a then (key,v)::t else (a,e)::eZ key v t
def del{Z:Type}(key:Int):List (Int×Z)→List (Int×Z)
 |[]=>[]
 |(a,e)::t=>if key==a then t else (a,e)::del key t
def vR(w:World)(r:Nat)(aX:Array MapEntry)(c:Nat):World:={ w with heap:=w.heap.setIfInBounds r (.map aX c) }
def sN{Z:Type}(T:bz Z)(k:IntKind)(aX:Array MapEntry)(es:List (Int×Z)):Prop:=aX.toList.map (fun l=>(l.key,l.val))=es.map fun p=>(.int k p.1,T.enc p.2)
def ur(w:World)(k:Nat→World→Prop):Prop:=k w.heap.size (w.alloc (.map #[] 0))
def qt{Z:Type}(T:bz Z)(k:IntKind)(o:Option Nat)(key:Int)(v:Z)(w:World)(ab:World→Prop):Prop:=
 ∃ r es,o=some r∧N_ T k w r es∧∀ aX c,sN T k aX (eZ key v es)→qV aX c→ab (vR w r aX c)
def HN{Z:Type}(T:bz Z)(k:IntKind)(o:Option Nat)(key:Int)(w:World)(ab:World→Prop):Prop:=match o with
 |none=>ab w
 |some r=>∃ es,N_ T k w r es∧∀ aX c,sN T k aX (del key es)→qV aX c→ab (vR w r aX c)
def aC0(o:Option Nat)(w:World)(ab:World→Prop):Prop:=match o with
 |none=>ab w
 |some r=>∃ aX c,w.heap[r]?=some (.map aX c)∧ab (vR w r #[] c)
theorem Zq{Z:Type}{T:bz Z}{k:IntKind}(key:Int):∀ (aX:List MapEntry) (es:List (Int×Z)) (i:Nat),aX.map (fun l=>(l.key,l.val))=es.map (fun p=>(.int k p.1,T.enc p.2)) →
  (es.lookup key=none∧Instr.findNow (.int k) (.int k key) aX i=some none) ∨
  (∃ D v,es.lookup key=some v∧Instr.findNow (.int k) (.int k key) aX i=some (some (i+D,T.enc v))∧es[D]?=some (key,v)∧(∀ m,m<D→(es[m]?.map (·.1))≠some key))
 |[],[],i,_=>.inl ⟨rfl,rfl⟩
 |[],_::_,i,h=>by simp at h
 |_::_,[],i,h=>by simp at h
 |l::aX,(a,e)::es,i,h=>by
  simp only[List.map_cons,List.cons.injEq,Prod.mk.injEq] at h;obtain⟨⟨aq,aL⟩,aT⟩:=h;by_cases hU:key=a
  ·subst hU;right;refine⟨0,e,by simp,?_,rfl,fun m al=>absurd al (Nat.not_lt_zero _)⟩;simp[Instr.findNow,aq,aL,Instr.sameNow]
  ·have d_:(key==a)=false:=by simpa using hU
   rcases Zq key aX es (i+1) aT with ⟨I,R⟩ | ⟨D,v,I,R,aK,bp⟩
   ·left;exact⟨by simp[List.lookup,d_,I],by simp only[Instr.findNow,aq,Instr.sameNow,if_true,d_,R]⟩
   ·right;refine⟨D+1,v,by simp[List.lookup,d_,I],by simp only[Instr.findNow,aq,Instr.sameNow,if_true,d_,R]; rw[show i+1+D=i+(D+1) from by omega],by simpa using aK,?_⟩;intro m al;cases m with
    |zero=>simpa using fun h=>hU h.symm
    |succ m=>simpa using bp m (by omega)
theorem run_checkKey{t:TypeId}{k:IntKind}(aT:P.underlying t=some (.int k))(l:Bool)(o:Nat)(a:Int):(Instr.checkKey l (o+1) t (.int k a)).run P w=.ok () w:=by
 simp[Instr.checkKey,run_underlying aT]
theorem xk{r:Nat}{aX:Array MapEntry}{c:Nat}(h:w.heap[r]?=some (.map aX c)):(getObj r).run P w=.ok (.map aX c) w:=by
 simp[getObj,Sem.run,h]
theorem Ip{r:Nat}{aX uX:Array MapEntry}{c Jy:Nat}(h:w.heap[r]?=some (.map aX c)):(setObj r (.map uX Jy)).run P w=.ok () (vR w r uX Jy):=by
 simp[setObj,Sem.run,h,vR]
theorem JY{Z:Type}{T:bz Z}{k:IntKind}{lF:TypeId}{aX:Array MapEntry}{es:List (Int×Z)}(aq:P.underlying lF=some (.int k))(key:Int)(h:sN T k aX es) :
  (es.lookup key=none∧(Instr.findKey lF (.int k key) aX.toList).run P w=.ok none w) ∨
  (∃ D v,es.lookup key=some v∧(Instr.findKey lF (.int k key) aX.toList).run P w=.ok (some (D,T.enc v)) w∧es[D]?=some (key,v)∧(∀ m,m<D→(es[m]?.map (·.1))≠some key)):=by
 rcases Zq key aX.toList es 0 h with ⟨I,R⟩ | ⟨D,v,I,R,aK,bp⟩
 ·exact .inl ⟨I,by simp only[Instr.findKey,Sem.run_bind,run_underlying aq,Result.andThen_ok,R,Sem.run_pure]⟩
 ·exact .inr ⟨D,v,I,by simp only[Instr.findKey,Sem.run_bind,run_underlying aq,Result.andThen_ok,R,Sem.run_pure,Nat.zero_add],aK,bp⟩
theorem ad5{Z:Type}{T:bz Z}{o av:Nat}{t lF pO:TypeId}{k:IntKind}{r:Option Nat}{key:Int}{u:Option Z}{z:Z}(aj:G.op=.lookup t x S true)(aT:P.underlying t=some (.map lF pO))(aq:P.underlying lF=some (.int k))
  (bN:∃ i,P.info? pO=some i∧i.zero=some (T.enc z)∧i.size=o∧i.bytes=av) (F:ad n f x=.map r) (aB:ad n f S=.int k key) (aa:iD T k r key w u) :
  (execOp (ad n f) G).run P w=.ok (.value (.tuple #[T.enc (u.getD z),.bool u.isSome])) w:=by
 obtain⟨i,ay,ug,_⟩:=bN;cases r with
 |none=>
  simp only[iD] at aa;subst aa;simp[execOp,aj,F,aB,Instr.lookup,run_underlying aT,run_checkKey aq,Instr.findKey,run_underlying aq,Instr.findNow,zeroValue,typeInfo,ay,ug]
 |some r=>
  obtain⟨es,⟨aX,c,ao,ob,BS⟩,rfl⟩:=aa;rcases JY (P:=P) (w:=w) aq key ob with ⟨I,R⟩ | ⟨D,v,I,R,_⟩
  ·simp[execOp,aj,F,aB,Instr.lookup,run_underlying aT,xk ao,run_checkKey aq,I,R,zeroValue,typeInfo,ay,ug]
  ·simp[execOp,aj,F,aB,Instr.lookup,run_underlying aT,xk ao,run_checkKey aq,I,R]
theorem ad4{Z:Type}{T:bz Z}{o av:Nat}{t lF pO:TypeId}{k:IntKind}{r:Option Nat}{key:Int}{u:Option Z}{z:Z}(aj:G.op=.lookup t x S false)(aT:P.underlying t=some (.map lF pO))(aq:P.underlying lF=some (.int k))
  (bN:∃ i,P.info? pO=some i∧i.zero=some (T.enc z)∧i.size=o∧i.bytes=av) (F:ad n f x=.map r) (aB:ad n f S=.int k key) (aa:iD T k r key w u) :
  (execOp (ad n f) G).run P w=.ok (.value (T.enc (u.getD z))) w:=by
 obtain⟨i,ay,ug,_⟩:=bN;cases r with
 |none=>
  simp only[iD] at aa;subst aa;simp[execOp,aj,F,aB,Instr.lookup,run_underlying aT,run_checkKey aq,Instr.findKey,run_underlying aq,Instr.findNow,zeroValue,typeInfo,ay,ug]
 |some r=>
  obtain⟨es,⟨aX,c,ao,ob,BS⟩,rfl⟩:=aa;rcases JY (P:=P) (w:=w) aq key ob with ⟨I,R⟩ | ⟨D,v,I,R,_⟩
  ·simp[execOp,aj,F,aB,Instr.lookup,run_underlying aT,xk ao,run_checkKey aq,I,R,zeroValue,typeInfo,ay,ug]
  ·simp[execOp,aj,F,aB,Instr.lookup,run_underlying aT,xk ao,run_checkKey aq,I,R]
theorem ad2{t lF pO:TypeId}{r:Option Nat}{m:Nat}(aj:G.op=.call { callee:=.builtin .len,args:=#[x],argTypes:=#[t] })(aT:P.underlying t=some (.map lF pO))(F:ad n f x=.map r)(aa:rR r w m) :
  (execOp (ad n f) G).run P w=.ok (.value (.int .i64 m)) w:=by
 cases r with
 |none=>simp only[rR] at aa; subst aa; simp[execOp,aj,F,resolve,invoke,builtin,Builtin.len_,run_underlying aT,goInt]
 |some r=>
  obtain⟨aX,c,ao,rfl⟩:=aa;simp[execOp,aj,F,resolve,invoke,builtin,Builtin.len_,run_underlying aT,goInt,xk ao]
theorem Lg{w:World}{k:Nat→World→Prop}(h:ur w k):∃ r J,r=w.heap.size∧J=w.alloc (.map #[] 0)∧k r J:=⟨_,_,rfl,rfl,h⟩
theorem LB{t:TypeId}{r:Nat}(aj:G.op=.makeMap t none)(aa:r=w.heap.size)(hw:J=w.alloc (.map #[] 0)):(execOp (ad n f) G).run P w=.ok (.value (.map (some r))) J:=by
 subst aa; subst hw; simp[execOp,aj,Instr.makeMap]
theorem afJ{Z:Type}(key:Int)(v:Z):∀ (es:List (Int×Z)) (D:Nat) (u:Z),es[D]?=some (key,u)→(∀ m,m<D→(es[m]?.map (·.1))≠some key)→eZ key v es=es.set D (key,v)
 |[],D,u,h,_=>by simp at h
 |(a,e)::es,0,u,h,_=>by simp at h; simp[eZ,h.1]
 |(a,e)::es,D+1,u,h,al=>by
  have ah:=al 0 (by omega);have d_:(key==a)=false:=by simp at ah; simpa using fun l=>ah l.symm
  simp only[eZ,d_,Bool.false_eq_true,if_false,List.set_cons_succ];rw[afJ key v es D u (by simpa using h) fun m G6=>by simpa using al (m+1) (by omega)]
theorem Tb{Z:Type}(key:Int)(v:Z):∀ (es:List (Int×Z)),es.lookup key=none→eZ key v es=es++[(key,v)]
 |[],_=>rfl
 |(a,e)::es,h=>by
  by_cases l:(key==a)=true
  ·simp[List.lookup,l] at h
  ·simp only[List.lookup,l] at h;simp[eZ,l,Tb key v es h]
theorem Yz{Z:Type}(key:Int):∀ (es:List (Int×Z)) (D:Nat) (u:Z),es[D]?=some (key,u)→(∀ m,m<D→(es[m]?.map (·.1))≠some key)→del key es=es.eraseIdx D
 |[],D,u,h,_=>by simp at h
 |(a,e)::es,0,u,h,_=>by simp at h; simp[del,h.1]
 |(a,e)::es,D+1,u,h,al=>by
  have ah:=al 0 (by omega);have d_:(key==a)=false:=by simp at ah; simpa using fun l=>ah l.symm
  simp only[del,d_,Bool.false_eq_true,if_false,List.eraseIdx_cons_succ];rw[Yz key es D u (by simpa using h) fun m G6=>by simpa using al (m+1) (by omega)]
theorem YA{Z:Type}(key:Int):∀ (es:List (Int×Z)),es.lookup key=none→del key es=es
 |[],_=>rfl
 |(a,e)::es,h=>by
  by_cases l:(key==a)=true
  ·simp[List.lookup,l] at h
  ·simp only[List.lookup,l] at h;simp[del,l,YA key es h]
theorem Fh{Z:Type}{T:bz Z}{t lF pO:TypeId}{k:IntKind}{r:Option Nat}{key:Int}{v:Z}{next:Act→World→Prop}{ab:World→Prop}{d:Option Nat}(ag:G.dst=d)(aj:G.op=.mapUpdate t x S z∨G.op=.insert t x S z)(aT:P.underlying t=some (.map lF pO))
  (aq:P.underlying lF=some (.int k)) (F:ad n f x=.map r) (aB:ad n f S=.int k key) (bN:ad n f z=T.enc v) (h:qt T k r key v w ab) (cg:∀ J,ab J→next (act n (hx f d undef) aG) J) :
  m4 P G (act n f aG) w next Q:=by
 rw[n0];subst ag;obtain⟨e,es,rfl,⟨aX,c,ao,ob,BS⟩,h⟩:=h;have gZ:∀ J,(Instr.mapUpdate t (.map (some e)) (.int k key) (T.enc v)).run P w=.ok () J→(execOp (ad n f) G).run P w=.ok .skip J:=by
  intro J hw;rcases aj with aj | aj<;>simp only[execOp,aj,F,aB,bN,Sem.run_bind,hw,Result.andThen_ok,Sem.run_pure]
 rcases JY (P:=P) (w:=w) aq key ob with ⟨I,R⟩ | ⟨D,u,I,R,aK,bp⟩
 ·have js:(Instr.mapUpdate t (.map (some e)) (.int k key) (T.enc v)).run P w=.ok () (vR w e (aX.push { key:=.int k key,val:=T.enc v,born:=c }) (c+1)):=by
   simp only[Instr.mapUpdate,Sem.run_bind,run_underlying aT,Result.andThen_ok,xk ao,run_checkKey aq,R,Ip ao]
  simp only[Oper.wp,h3,gZ _ js,Oper.upon_skip,iv];refine cg _ (h _ _ ?_ (akZ BS));simp only[sN] at ob ⊢;rw[Tb key v es I];simp[ob]
 ·have aqR:∃ l,aX[D]?=some l∧l.key=.int k key:=by
   have:=congrArg (·[D]?) ob;simp only[List.getElem?_map,aK,Option.map_some] at this;cases Y:aX[D]? with
   |none=>simp[Y] at this
   |some l=>simp[Y] at this; exact⟨l,rfl,this.1⟩
  obtain⟨l,he,Kf⟩:=aqR;have arI:(Instr.keyThatStays (((aX[D]?).map (·.key)).getD (.int k key)) (.int k key)).run P w=.ok (.int k key) w:=by
   simp[he,Kf,Instr.keyThatStays,Instr.sameBits]
  have js:(Instr.mapUpdate t (.map (some e)) (.int k key) (T.enc v)).run P w=.ok () (vR w e (aX.modify D fun l=>{ l with key:=.int k key,val:=T.enc v }) c):=by
   simp only[Instr.mapUpdate,Sem.run_bind,run_underlying aT,Result.andThen_ok,xk ao,run_checkKey aq,R,arI,Ip ao]
  simp only[Oper.wp,h3,gZ _ js,Oper.upon_skip,iv];have apu:(aX.modify D fun l=>{ l with key:=.int k key,val:=T.enc v }).toList.map (·.born)=aX.toList.map (·.born):=by
   apply List.ext_getElem?;intro m;simp only[List.getElem?_map,Array.getElem?_toList,Array.getElem?_modify];by_cases aS:D=m
   ·subst aS; cases aX[D]?<;>simp
   ·simp[aS]
  refine cg _ (h _ _ ?_ (ak0 BS apu));simp only[sN] at ob ⊢;rw[afJ key v es D u aK bp];apply List.ext_getElem?;intro m;have al:=congrArg (·[m]?) ob;simp only[List.getElem?_map,Array.getElem?_toList] at al;simp only[List.getElem?_map,Array.getElem?_toList,Array.getElem?_modify,List.getElem?_set];by_cases aS:D=m
  ·subst aS;have dI:D<es.length:=(List.getElem?_eq_some_iff.1 aK).1;simp[he,dI]
  ·simp[aS,al]
theorem map_eraseIdx{Z eL:Type}(g:Z→eL):∀ (m:List Z) (i:Nat),(m.eraseIdx i).map g=(m.map g).eraseIdx i
 |[],_=>rfl
 |_::_,0=>rfl
 |a::m,i+1=>by simp[map_eraseIdx g m i]
theorem TB{Z:Type}{T:bz Z}{t lF pO hF:TypeId}{k:IntKind}{r:Option Nat}{key:Int}{next:Act→World→Prop}{ab:World→Prop}{d:Option Nat}(ag:G.dst=d)(aj:G.op=.call { callee:=.builtin .delete,args:=#[x,S],argTypes:=#[t,hF] })(aT:P.underlying t=some (.map lF pO))
  (aq:P.underlying lF=some (.int k)) (F:ad n f x=.map r) (aB:ad n f S=.int k key) (h:HN T k r key w ab) (cg:∀ J,ab J→next (act n (hx f d (.tuple #[])) aG) J) :
  m4 P G (act n f aG) w next Q:=by
 rw[n0];subst ag;have gZ:∀ J,(Builtin.delete_ #[t,hF] G.type #[.map r,.int k key]).run P w=.ok (.tuple #[]) J→(execOp (ad n f) G).run P w=.ok (.value (.tuple #[])) J:=by
  intro J hw;simp only[execOp,aj,resolve,invoke,builtin,List.map_toArray,List.map_cons,List.map_nil,F,aB,pure_bind,Sem.run_bind,hw,Result.andThen_ok,Sem.run_pure]
 cases r with
 |none=>
  have js:(Builtin.delete_ #[t,hF] G.type #[.map none,.int k key]).run P w=.ok (.tuple #[]) w:=by
   simp[Builtin.delete_,run_underlying aT,run_checkKey aq]
  simp only[Oper.wp,h3,gZ _ js,Oper.upon_value,iv];exact cg _ h
 |some e=>
  obtain⟨es,⟨aX,c,ao,ob,BS⟩,h⟩:=h;rcases JY (P:=P) (w:=w) aq key ob with ⟨I,R⟩ | ⟨D,u,I,R,aK,bp⟩
  ·have js:(Builtin.delete_ #[t,hF] G.type #[.map (some e),.int k key]).run P w=.ok (.tuple #[]) (vR w e aX c):=by
    simp[Builtin.delete_,run_underlying aT,xk ao,run_checkKey aq,R,Ip ao]
   simp only[Oper.wp,h3,gZ _ js,Oper.upon_value,iv];refine cg _ (h _ _ ?_ BS);rw[YA key es I]; exact ob
  ·have js:(Builtin.delete_ #[t,hF] G.type #[.map (some e),.int k key]).run P w=.ok (.tuple #[]) (vR w e (aX.eraseIdxIfInBounds D) c):=by
    simp[Builtin.delete_,run_underlying aT,xk ao,run_checkKey aq,R,Ip ao]
   simp only[Oper.wp,h3,gZ _ js,Oper.upon_value,iv];have B5:(aX.eraseIdxIfInBounds D).toList.Sublist aX.toList:=by
    unfold Array.eraseIdxIfInBounds;split
    ·rw[Array.toList_eraseIdx]; exact List.eraseIdx_sublist _ _
    ·exact List.Sublist.refl _
   refine cg _ (h _ _ ?_ (ak1 BS B5));rw[Yz key es D u aK bp];simp only[sN] at ob ⊢;have bT:D<aX.size:=by
    have dI:D<es.length:=(List.getElem?_eq_some_iff.1 aK).1;have:=congrArg List.length ob;simp at this; omega
   simp only[Array.eraseIdxIfInBounds,bT,dif_pos,Array.toList_eraseIdx];rw[map_eraseIdx,ob,map_eraseIdx]
def wG{Z:Type}(T:bz Z)(ar:Nat)(z:Z)(s:af)(w:World)(ab:World→Prop):Prop:=match s.a with
 |none=>ab w
 |some a=>wx w a (s.len*ar)∧ab (oS w a 0 ((List.replicate s.len z).flatMap T.cells))
theorem aeB{Z:Type}{T:bz Z}{ar:Nat}{z:Z}(al:(T.cells z).length=ar)(o:Nat):((List.replicate o z).flatMap T.cells).length=o*ar:=by
 induction o with
 |zero=>simp
 |succ o cq=>rw[List.replicate_succ,List.flatMap_cons,List.length_append,cq,al,Nat.add_mul]; omega
theorem agk{Z:Type}{T:bz Z}{ar:Nat}{z:Z}(am:(T.enc z).cells=(T.cells z).toArray)(al:(T.cells z).length=ar):∀ o:Nat,(Builtin.zeroCells (T.enc z).cells o).toList=(List.replicate o z).flatMap T.cells:=by
 intro o;rw[am];apply List.ext_getElem?;intro D;simp only[Builtin.zeroCells,List.size_toArray,al,Array.toList_map,Array.toList_range,List.getElem?_map];by_cases bT:D<o*ar
 ·have nJ:0<ar:=by
   rcases Nat.eq_zero_or_pos ar with h | h
   ·rw[h] at bT; omega
   ·exact h
  have aaq:D%ar<ar:=Nat.mod_lt _ nJ;rw[List.getElem?_range (by simpa using bT)];simp only[Option.map_some];have:∀ (o D:Nat),D<o*ar→((List.replicate o z).flatMap T.cells)[D]?=(T.cells z)[D%ar]?:=by
   intro o;induction o with
   |zero=>intro D bT; simp at bT
   |succ o cq=>
    intro D bT;rw[List.replicate_succ,List.flatMap_cons];by_cases dI:D<ar
    ·rw[List.getElem?_append_left (by omega),Nat.mod_eq_of_lt dI]
    ·rw[List.getElem?_append_right (by omega),al,cq (D-ar) (by rw[Nat.add_mul] at bT; omega)];congr 1;exact (Nat.mod_eq_sub_mod (by omega)).symm
  rw[this o D bT];rw[List.getElem?_eq_getElem (by omega)];simp only[Option.some.injEq];have dI:D%ar<(T.cells z).toArray.size:=by simp; omega
  rw[getElem!_pos (T.cells z).toArray (D%ar) dI]; simp
 ·rw[List.getElem?_eq_none (by simpa using bT),List.getElem?_eq_none (by rw[aeB al]; omega)];rfl
theorem Tw{Z:Type}{T:bz Z}{ar av:Nat}{t l:TypeId}{s:af}{z:Z}{next:Act→World→Prop}{ab:World→Prop}{d:Option Nat}(ag:G.dst=d)(aj:G.op=.call { callee:=.builtin .clear,args:=#[x],argTypes:=#[t] })(aT:P.underlying t=some (.slice l))(ok:cE P l T ar)
  (bN:∃ i,P.info? l=some i∧i.zero=some (T.enc z)∧i.size=ar∧i.bytes=av) (F:ad n f x=X.enc s) (h:wG T ar z s w ab) (cg:∀ J,ab J→next (act n (hx f d (.tuple #[])) aG) J):m4 P G (act n f aG) w next Q:=by
 rw[n0];subst ag;obtain⟨i,ay,ug,aH,_⟩:=bN;obtain⟨a,len,cap⟩:=s;have gZ:∀ J,(Builtin.clear_ #[t] G.type #[.slice a len cap]).run P w=.ok (.tuple #[]) J→(execOp (ad n f) G).run P w=.ok (.value (.tuple #[])) J:=by
  intro J hw;simp only[execOp,aj,resolve,invoke,builtin,List.map_toArray,List.map_cons,List.map_nil,F,pure_bind,Sem.run_bind,hw,Result.andThen_ok,Sem.run_pure]
 have P9:∀ v∈(List.replicate len z).flatMap T.cells,v.oneCell'=true:=fun v aL=>by
  obtain⟨S,_,aB⟩:=List.mem_flatMap.1 aL; exact ok.one S v aB
 cases a with
 |none=>
  have js:(Builtin.clear_ #[t] G.type #[.slice none len cap]).run P w=.ok (.tuple #[]) w:=by
   simp[Builtin.clear_,run_underlying aT]
  simp only[Oper.wp,h3,gZ _ js,Oper.upon_value,iv];exact cg _ h
 |some a=>
  simp only[wG] at h;have js:(Builtin.clear_ #[t] G.type #[.slice (some a) len cap]).run P w=.ok (.tuple #[]) (oS w a 0 ((List.replicate len z).flatMap T.cells)):=by
   cases len with
   |zero=>simp[Builtin.clear_,run_underlying aT,oS]
   |succ len=>
    have R:=E2 (P:=P) a ((List.replicate (len+1) z).flatMap T.cells) 0 w (by
     intro D bT;rw[Nat.zero_add];refine h.1 D ?_;rw[aeB (ok.len z)] at bT
     exact bT) P9
    have Cb:=agk (T:=T) (ok.flat z) (ok.len z) (len+1);simp only[Builtin.clear_];simp[run_underlying aT,zeroValue,typeInfo,ay,ug,Cb,R]
  simp only[Oper.wp,h3,gZ _ js,Oper.upon_value,iv];exact cg _ h.2
theorem Jx{w:World}{G u:Obj}{r:Nat}(h:w.heap[r]?=some u):(w.alloc G).heap[r]?=some u:=by
 have dI:r<w.heap.size:=(Array.getElem?_eq_some_iff.1 h).1;simp only[World.alloc,Array.getElem?_push];rw[if_neg (by omega)]; exact h
theorem aB2{Z:Type}{T:bz Z}{k:IntKind}{o:Option Nat}{key:Int}{u:Option Z}{w J:World}{G:Obj}(hw:J=w.alloc G)(h:iD T k o key w u):iD T k o key J u:=by
 subst hw;cases o with
 |none=>exact h
 |some r=>obtain⟨es,⟨aX,c,ao,aa⟩,hu⟩:=h; exact⟨es,⟨aX,c,Jx ao,aa⟩,hu⟩
theorem aB3{o:Option Nat}{m:Nat}{w J:World}{G:Obj}(hw:J=w.alloc G)(h:rR o w m):rR o J m:=by
 subst hw;cases o with
 |none=>exact h
 |some r=>obtain⟨aX,c,ao,al⟩:=h; exact⟨aX,c,Jx ao,al⟩
end
end bj
namespace bj
open Go.ChangeMaps
section
variable {P:Program} {Q:Exit→Act→World→Prop} {n:Nat} {f:Nat→Value} {aG:List Deferred} {w J:World} {ops:Array Oper} {i:Nat} {rest:List Nat} {G:Oper} {x S z:Operand}
def Ik(o:Option Nat)(w:World)(k:Addr→World→Prop):Prop:=match o with
 |none=>k ⟨w.heap.size,0,none⟩ (w.alloc (.mapIter none 0 #[] 0))
 |some e=>∃ aX c,w.heap[e]?=some (.map aX c)∧k ⟨w.heap.size,0,none⟩ (w.alloc (.mapIter (some e) c #[] c))
theorem TF{t lF pO:TypeId}{r:Option Nat}{next:Act→World→Prop}{ab:Addr→World→Prop}{d:Option Nat}(ag:G.dst=d)(aj:G.op=.range t x)(aT:P.underlying t=some (.map lF pO))(F:ad n f x=.map r)
  (h:Ik r w ab) (cg:∀ a J,ab a J→next (act n (hx f d (.pointer (some a))) aG) J):m4 P G (act n f aG) w next Q:=by
 rw[n0];subst ag;cases r with
 |none=>
  have js:=run_range_nilMap (P:=P) w t lF pO aT;have gZ:(execOp (ad n f) G).run P w=.ok (.value (.pointer (some ⟨w.heap.size,0,none⟩))) (w.alloc (.mapIter none 0 #[] 0)):=by simp[execOp,aj,F,js]
  simp only[Oper.wp,h3,gZ,Oper.upon_value,iv];exact cg _ _ h
 |some e=>
  obtain⟨aX,c,ao,h⟩:=h;have js:=run_range_map (P:=P) w t lF pO e aX c aT ao;have gZ:(execOp (ad n f) G).run P w=.ok (.value (.pointer (some ⟨w.heap.size,0,none⟩))) (w.alloc (.mapIter (some e) c #[] c)):=by simp[execOp,aj,F,js]
  simp only[Oper.wp,h3,gZ,Oper.upon_value,iv];exact cg _ _ h
theorem TA{t lF pO:TypeId}{r:Option Nat}{next:Act→World→Prop}{ab:World→Prop}{d:Option Nat}(ag:G.dst=d)(aj:G.op=.call { callee:=.builtin .clear,args:=#[x],argTypes:=#[t] })(aT:P.underlying t=some (.map lF pO))(F:ad n f x=.map r)
  (h:aC0 r w ab) (cg:∀ J,ab J→next (act n (hx f d (.tuple #[])) aG) J):m4 P G (act n f aG) w next Q:=by
 rw[n0];subst ag;have gZ:∀ J,(Builtin.clear_ #[t] G.type #[.map r]).run P w=.ok (.tuple #[]) J→(execOp (ad n f) G).run P w=.ok (.value (.tuple #[])) J:=by
  intro J hw;simp only[execOp,aj,resolve,invoke,builtin,List.map_toArray,List.map_cons,List.map_nil,F,pure_bind,Sem.run_bind,hw,Result.andThen_ok,Sem.run_pure]
 cases r with
 |none=>
  have js:(Builtin.clear_ #[t] G.type #[.map none]).run P w=.ok (.tuple #[]) w:=by simp[Builtin.clear_,run_underlying aT]
  simp only[Oper.wp,h3,gZ _ js,Oper.upon_value,iv];exact cg _ h
 |some e=>
  obtain⟨aX,c,ao,h⟩:=h;have js:(Builtin.clear_ #[t] G.type #[.map (some e)]).run P w=.ok (.tuple #[]) (vR w e #[] c):=by
   simp[Builtin.clear_,run_underlying aT,xk ao,Ip ao]
  simp only[Oper.wp,h3,gZ _ js,Oper.upon_value,iv];exact cg _ h
def RB:Option (Value×Value)→Value
 |none=>.tuple #[.bool false]
 |some p=>.tuple #[.bool true,p.1,p.2]
def lm(a:Addr)(w:World)(k:Option (Value×Value)→World→Prop):Prop:=
 ∃ r e3 ie seen cb es clock,a=⟨r,0,none⟩∧w.heap[r]?=some (.mapIter (some e3) ie seen cb)∧w.heap[e3]?=some (.map es clock)∧(∀ l∈es.toList,l.born<ie)∧ie≤cb ∧
  ((leftOf es seen).size=0→k none w)∧∀ l∈(leftOf es seen).toList,∀ dL,dL=w∨dL=w.drew→k (some (l.key,l.val)) (setBlock dL r (.mapIter (some e3) ie (seen.push l.born) clock))
theorem TE{a:Addr}{next:Act→World→Prop}{ab:Option (Value×Value)→World→Prop}{d:Option Nat}(ag:G.dst=d)(aj:G.op=.next x false)(F:ad n f x=.pointer (some a))
  (h:lm a w ab) (cg:∀ q J,ab q J→next (act n (hx f d (RB q)) aG) J):m4 P G (act n f aG) w next Q:=by
 rw[n0];subst ag;obtain⟨r,e3,ie,seen,cb,es,clock,rfl,aa,ao,hold,arC,ah,I⟩:=h;rcases run_next_at (P:=P) w G.type r e3 ie cb seen es clock aa ao hold arC with ⟨bN,js⟩ | ⟨l,he,dL,Hl,js⟩
 ·have gZ:(execOp (ad n f) G).run P w=.ok (.value (.tuple #[.bool false])) w:=by simp[execOp,aj,F,js]
  simp only[Oper.wp,h3,gZ,Oper.upon_value,iv];exact cg none _ (ah bN)
 ·have gZ:(execOp (ad n f) G).run P w=.ok (.value (.tuple #[.bool true,l.key,l.val])) (setBlock dL r (.mapIter (some e3) ie (seen.push l.born) clock)):=by simp[execOp,aj,F,js]
  simp only[Oper.wp,h3,gZ,Oper.upon_value,iv];exact cg (some (l.key,l.val)) _ (I l he dL Hl)
theorem adU{q:Option (Value×Value)}(aj:G.op=.extract x 0)(F:ad n f x=RB q):(execOp (ad n f) G).run P w=.ok (.value (.bool q.isSome)) w:=by
 cases q<;>simp[execOp,aj,F,Instr.extract,RB]
def kA{Z:Type}(T:bz Z)(k:IntKind)(a:Addr)(w:World)(p:Int×Z):Prop:=
 ∃ r e3 ie seen es clock l,a=⟨r,0,none⟩∧w.heap[r]?=some (.mapIter (some e3) ie (Array.push seen (MapEntry.born l)) clock)∧w.heap[e3]?=some (.map es clock)∧l∈es.toList∧(es.toList.map (·.born)).Nodup∧l.key=.int k p.1∧l.val=T.enc p.2
theorem adP{Z:Type}{T:bz Z}{k:IntKind}{a:Addr}{p:Int×Z}(aj:G.op=.entry x)(F:ad n f x=.pointer (some a))(h:kA T k a w p):(execOp (ad n f) G).run P w=.ok (.value (.tuple #[.int k p.1,T.enc p.2])) w:=by
 obtain⟨r,e3,ie,seen,es,clock,l,rfl,aa,ao,he,aM,I,R⟩:=h;have js:=run_entry_at (P:=P) w r e3 ie seen es clock l aa ao he aM;simp[execOp,aj,F,js,I,R]
theorem aB1{Z:Type}{T:bz Z}{k:IntKind}{a:Addr}{p:Int×Z}{w J:World}{G:Obj}(hw:J=w.alloc G)(h:kA T k a w p):kA T k a J p:=by
 subst hw;obtain⟨r,e3,ie,seen,es,clock,l,rfl,aa,ao,h⟩:=h;exact⟨r,e3,ie,seen,es,clock,l,rfl,Jx aa,Jx ao,h⟩
end
section
variable {P:Program} {Q:Exit→Act→World→Prop} {n:Nat} {f:Nat→Value} {aG:List Deferred} {w J:World} {ops:Array Oper} {i:Nat} {rest:List Nat} {G:Oper} {x S z:Operand}
theorem LC{a e:Int}{k:IntKind}{Gn:Array TypeId}(aj:G.op=.call { callee:=.builtin .max,args:=#[x,S],argTypes:=Gn })(F:ad n f x=.int k a)(aB:ad n f S=.int k e) :
  (execOp (ad n f) G).run P w=.ok (.value (.int k (max a e))) w:=by
 have h:=run_max_int2 (P:=P) (w:=w) Gn G.type k k a e;have l:(if e>a then e else a)=max a e:=by omega
 rw[l] at h;simp only[execOp,aj,resolve,invoke,builtin,List.map_toArray,List.map_cons,List.map_nil,F,aB,pure_bind,Sem.run_bind,h,Result.andThen_ok,Sem.run_pure]
theorem ad6{a e:Int}{k:IntKind}{Gn:Array TypeId}(aj:G.op=.call { callee:=.builtin .min,args:=#[x,S],argTypes:=Gn })(F:ad n f x=.int k a)(aB:ad n f S=.int k e) :
  (execOp (ad n f) G).run P w=.ok (.value (.int k (min a e))) w:=by
 have h:=run_min_int2 (P:=P) (w:=w) Gn G.type k k a e;have l:(if e<a then e else a)=min a e:=by omega
 rw[l] at h;simp only[execOp,aj,resolve,invoke,builtin,List.map_toArray,List.map_cons,List.map_nil,F,aB,pure_bind,Sem.run_bind,h,Result.andThen_ok,Sem.run_pure]
theorem adY{t:TypeId}{iF:Array Field}{fd:Field}{k off:Nat}{d:TypeDesc}{c:List Value}{v:Value}(aj:G.op=.field t x k)(aT:P.underlying t=some (.struct iF))(am:iF[k]?=some fd)
  (Ac:fd.offset=off) (ag:P.underlying fd.type=some d) (Y:wC d=false) (F:ad n f x=.agg c.toArray) (aL:c[off]?=some v):(execOp (ad n f) G).run P w=.ok (.value v) w:=by
 subst Ac;have h:=jx (P:=P) (w:=w) (t:=fd.type) (bd:=c.toArray) (off:=fd.offset) ag Y (by simpa using aL);simp[execOp,aj,F,Instr.field,run_underlying aT,am,asAgg,h]
theorem adZ{t:TypeId}{iF:Array Field}{fd:Field}{k off o av:Nat}{d:TypeDesc}{c:List Value}{v ox:Value}(aj:G.op=.field t x k)(aT:P.underlying t=some (.struct iF))(am:iF[k]?=some fd)
  (Ac:fd.offset=off) (ag:P.underlying fd.type=some d) (Y:wC d=true) (F:ad n f x=.agg c.toArray) (bN:∃ i,P.info? fd.type=some i∧i.zero=some ox∧i.size=o∧i.bytes=av) (aL:Value.agg ((c.drop off).take o).toArray=v):(execOp (ad n f) G).run P w=.ok (.value v) w:=by
 subst Ac;subst aL;obtain⟨i,ay,_,aH,_⟩:=bN;have h:=Io (P:=P) (w:=w) (t:=fd.type) (bd:=c.toArray) (off:=fd.offset) (o:=o) (aG:=((c.drop fd.offset).take o).toArray) ag Y ⟨i,ay,aH⟩ (by simp[List.extract_eq_take_drop]);simp[execOp,aj,F,Instr.field,run_underlying aT,am,asAgg,h]
theorem ad1{t l:TypeId}{Z:Type}{T:bz Z}{b:Nat}{v:Vector Z b}{k:IntKind}{i:Int}{u:Z}{d:TypeDesc}(aj:G.op=.index t x S)(aT:P.underlying t=some (.array b l))(ok:cE P l T 1)
  (ag:P.underlying l=some d) (Y:wC d=false) (U:∀ x,T.cells x=[T.enc x]) (F:ad n f x=(qM T b).enc v) (aB:ad n f S=.int k i) (ay:Xd v i u):(execOp (ad n f) G).run P w=.ok (.value (T.enc u)) w:=by
 obtain⟨ah,hu⟩:=ay;have al:i.toNat<b:=by
  have:=(List.getElem?_eq_some_iff.1 hu).1;simpa using this
 have hm:∀ m:List Z,m.flatMap T.cells=m.map T.enc:=by
  intro m;induction m with
  |nil=>rfl
  |cons a m cq=>rw[List.flatMap_cons,U,cq]; rfl
 have r9:ad n f x=.agg (v.toList.map T.enc).toArray:=by rw[F,← hm]
 obtain⟨D,bT,aH⟩:=ok.size;have O:(v.toList.map T.enc)[i.toNat]?=some (T.enc u):=by rw[List.getElem?_map,hu]; rfl
 have h:=jx (P:=P) (w:=w) (t:=l) (bd:=(v.toList.map T.enc).toArray) (off:=i.toNat) ag Y (by simpa using O);have dI:i<(b:Int):=by omega
 simp[execOp,aj,r9,aB,Instr.index,asIntOf,run_underlying aT,ah,dI,run_sizeOf bT,aH,h]
def yX{Z:Type}(t:TypeId)(T:bz Z)(av:Nat)(z:Z)(m c:Int)(w:World)(ab:af→World→Prop):Prop:=
 0≤m∧m≤c∧(av:Int)*c≤281474976710656∧c≤9223372036854775807∧ab ⟨some ⟨w.heap.size,0,none⟩,m.toNat,c.toNat⟩ (w.alloc (.cells ((List.replicate c.toNat z).flatMap T.cells).toArray t))
theorem TC{Z:Type}{T:bz Z}{ar av:Nat}{t l:TypeId}{z:Z}{m c:Int}{next:Act→World→Prop}{ab:af→World→Prop}{d:Option Nat}(ag:G.dst=d)(aj:G.op=.makeSlice t x S)(aT:P.underlying t=some (.slice l))(ok:cE P l T ar)
  (bN:∃ i,P.info? l=some i∧i.zero=some (T.enc z)∧i.size=ar∧i.bytes=av) (F:ad n f x=.int .i64 m) (aB:ad n f S=.int .i64 c) (h:yX l T av z m c w ab) (cg:∀ r J,ab r J→next (act n (hx f d (X.enc r)) aG) J):m4 P G (act n f aG) w next Q:=by
 rw[n0];subst ag;obtain⟨i,ay,ug,aH,rfl⟩:=bN;obtain⟨ah,I,R,aK,h⟩:=h;have js:=run_make (P:=P) w t l i (T.enc z) aT ay ug .i64 .i64 m c ah I R aK;have apy:madeCells (T.enc z).cells (c.toNat*i.size)=((List.replicate c.toNat z).flatMap T.cells).toArray:=by
  have Cb:=agk (T:=T) (ok.flat z) (ok.len z) c.toNat;have aS:(T.enc z).cells.size=i.size:=by rw[ok.flat z,aH]; simpa using ok.len z
  have bb:madeCells (T.enc z).cells (c.toNat*i.size)=Builtin.zeroCells (T.enc z).cells c.toNat:=by
   unfold madeCells Builtin.zeroCells; rw[aS]
  rw[bb,← Cb]
 rw[apy] at js;have gZ:(execOp (ad n f) G).run P w=.ok (.value (X.enc ⟨some ⟨w.heap.size,0,none⟩,m.toNat,c.toNat⟩)) (w.alloc (.cells ((List.replicate c.toNat z).flatMap T.cells).toArray l)):=by
  simp[execOp,aj,F,aB,js]
 simp only[Oper.wp,h3,gZ,Oper.upon_value,iv];exact cg _ _ h
def DQ{Z:Type}(T:bz Z)(ar:Nat)(s e:af)(w:World)(ab:Nat→World→Prop):Prop:=
 ∃ new:List Z,new.length=min e.len s.len∧lu T w ⟨e.a,new.length,e.cap⟩ new∧match s.a with
  |none=>ab new.length w
  |some a=>wx w a (new.length*ar)∧ab new.length (oS w a 0 (new.flatMap T.cells))
theorem Tz{Z:Type}{T:bz Z}{ar:Nat}{t u l:TypeId}{s e:af}{next:Act→World→Prop}{ab:Nat→World→Prop}{d:Option Nat}(ag:G.dst=d)(aj:G.op=.call { callee:=.builtin .copy,args:=#[x,S],argTypes:=#[t,u] })(aT:P.underlying t=some (.slice l))(ok:cE P l T ar)
  (F:ad n f x=X.enc s) (aB:ad n f S=X.enc e) (h:DQ T ar s e w ab) (cg:∀ r J,ab r J→next (act n (hx f d (.int .i64 r)) aG) J):m4 P G (act n f aG) w next Q:=by
 rw[n0];subst ag;obtain⟨new,aM,qn,h⟩:=h;obtain⟨i,ay,nJ⟩:=ok.size;have BY:=AI (P:=P) ok.len qn;have BY:Sem.run P (Builtin.firstCells ar new.length (Value.slice e.a e.len e.cap)) w=.ok (new.flatMap T.cells).toArray w:=by
  cases ao:e.a with
  |none=>rw[ao] at BY; simpa[Builtin.firstCells] using BY
  |some a=>rw[ao] at BY; exact BY
 have B1:Nat.min e.len s.len=new.length:=aM.symm;have gZ:∀ (v:Value) (J:World),(Builtin.copy_ #[t,u] G.type #[X.enc s,X.enc e]).run P w=.ok v J→(execOp (ad n f) G).run P w=.ok (.value v) J:=by
  intro v J aL;simp only[execOp,aj,resolve,invoke,builtin];simp only[List.map_toArray,List.map_cons,List.map_nil,F,aB,pure_bind,Sem.run_bind,aL,Result.andThen_ok,Sem.run_pure]
 cases Y:s.a with
 |none=>
  rw[Y] at h;have js:(Builtin.copy_ #[t,u] G.type #[X.enc s,X.enc e]).run P w=.ok (.int .i64 new.length) w:=by
   show (Builtin.copy_ #[t,u] G.type #[.slice s.a s.len s.cap,.slice e.a e.len e.cap]).run P w=_
   simp[Builtin.copy_,run_underlying aT,Builtin.lenOf,run_sizeOf ay,nJ,B1,BY,Y,goInt]
  simp only[Oper.wp,h3,gZ _ _ js,Oper.upon_value,iv];exact cg _ _ h
 |some a=>
  rw[Y] at h;have P9:∀ v∈new.flatMap T.cells,v.oneCell'=true:=fun v aL=>by
   obtain⟨q,_,ba⟩:=List.mem_flatMap.1 aL; exact ok.one q v ba
  have l5:=E2 (P:=P) a (new.flatMap T.cells) 0 w (by
   intro D bT;rw[Nat.zero_add];refine h.1 D ?_
   rwa [n_ ok.len] at bT) P9
  have js:(Builtin.copy_ #[t,u] G.type #[X.enc s,X.enc e]).run P w=.ok (.int .i64 new.length) (oS w a 0 (new.flatMap T.cells)):=by
   show (Builtin.copy_ #[t,u] G.type #[.slice s.a s.len s.cap,.slice e.a e.len e.cap]).run P w=_
   simp[Builtin.copy_,run_underlying aT,Builtin.lenOf,run_sizeOf ay,nJ,B1,BY,Y,l5,goInt]
  simp only[Oper.wp,h3,gZ _ _ js,Oper.upon_value,iv];exact cg _ _ h.2
end
end bj
namespace bj
section
variable {P:Program} {Q:Exit→Act→World→Prop} {n:Nat} {f:Nat→Value} {aG:List Deferred} {w J:World} {G:Oper} {x S:Operand}
def aV(m:List UInt8):List Int:=m.map fun e=>(e.toNat:Int)
theorem gI(m:List UInt8):(aV m).length=m.length:=by simp[aV]
theorem xB(m o:List UInt8):aV (m++o)=aV m++aV o:=by simp[aV]
def tA(s:af)(w:World)(r:List UInt8):Prop:=lu (B .u8) w s (aV r)
theorem Pd(k:IntKind):∀ m:List Int,m.flatMap (B k).cells=m.map (Value.int k)
 |[]=>rfl
 |a::m=>by simp[Pd k m]
theorem R2{s t l:TypeId}{e:af}{r:List UInt8}(aj:G.op=.convert s t x)(aH:P.underlying s=some (.slice l))(he:P.underlying l=some (.int .u8))(aT:P.underlying t=some .string)(F:ad n f x=X.enc e)(h:tA e w r) :
  (execOp (ad n f) G).run P w=.ok (.value (.string ⟨r.toArray⟩)) w:=by
 obtain⟨al,aa⟩:=h;rw[gI] at al;obtain⟨a,len,cap⟩:=e;simp only at al aa;subst al;have I:(convert s t (.slice a r.length cap)).run P w=.ok (.string ⟨r.toArray⟩) w:=by
  cases a with
  |none=>
   have ah:aV r=[]:=aa;have:r=[]:=by simpa[aV] using ah
   subst this;rw[run_convert_bytes_string w s t l none _ cap aH he aT];rfl
  |some a=>
   refine run_convert_bytes_back w s t l a cap r aH he aT fun D bT=>?_;refine (aa:o6 w a _) D _ ?_;rw[Pd];simp[aV,List.getElem?_eq_getElem bT]
 simp only[execOp,aj,F,Sem.run_bind,I,Result.andThen_ok,Sem.run_pure]
def aHb(l:TypeId)(s:List UInt8)(w:World)(k:af→World→Prop):Prop:=
 k ⟨some ⟨w.heap.size,0,none⟩,s.length,grownCap w s.length 0 l⟩ (w.drew.alloc (.cells (bytesRow ⟨s.toArray⟩ (grownCap w s.length 0 l)) l ((bytesRow ⟨s.toArray⟩ (grownCap w s.length 0 l)).size,(bytesRow ⟨s.toArray⟩ (grownCap w s.length 0 l)).size+1)))
theorem TG{s t l:TypeId}{e:List UInt8}{d:Option Nat}{next:Act→World→Prop}{ab:af→World→Prop}(ag:G.dst=d)(aj:G.op=.convert s t x)(aH:P.underlying s=some .string)(aT:P.underlying t=some (.slice l))(he:P.underlying l=some (.int .u8))
  (F:ad n f x=.string ⟨e.toArray⟩) (h:aHb l e w ab) (cg:∀ r J,ab r J→next (act n (hx f d (X.enc r)) aG) J):m4 P G (act n f aG) w next Q:=by
 rw[n0];subst ag;have I:=run_bytes_of_string (P:=P) w s t l ⟨e.toArray⟩ aH aT he;have nJ:(⟨e.toArray⟩:ByteArray).size=e.length:=rfl;rw[nJ] at I;have gZ:(execOp (ad n f) G).run P w=.ok (.value (X.enc ⟨some ⟨w.heap.size,0,none⟩,e.length,grownCap w e.length 0 l⟩)) (w.drew.alloc (.cells (bytesRow ⟨e.toArray⟩ (grownCap w e.length 0 l)) l ((bytesRow ⟨e.toArray⟩ (grownCap w e.length 0 l)).size,(bytesRow ⟨e.toArray⟩ (grownCap w e.length 0 l)).size+1))):=by
  simp only[execOp,aj,F,Sem.run_bind,I,Result.andThen_ok,Sem.run_pure]
 simp only[Oper.wp,h3,gZ,Oper.upon_value,iv];exact cg _ _ h
theorem aB0{s:af}{r:List UInt8}{aDA:Obj}(hw:J=w.alloc aDA)(h:tA s w r):tA s J r:=by
 subst hw;obtain⟨I,R⟩:=h;refine⟨I,?_⟩;obtain⟨a,len,cap⟩:=s;cases a with
 |none=>exact R
 |some a=>exact Xo (w:=w) R
def aC3(s:af)(w:World)(k:World→Prop):Prop:=∃ a t o,s.a=some a∧w.shape? a.block=some (t,o)∧k (w.freeze ⟨a.block,o,none⟩ 1)
theorem TD{t l:TypeId}{s:af}{d:Option Nat}{next:Act→World→Prop}{ab:World→Prop}(ag:G.dst=d)(aj:G.op=.convert t t x)(aT:P.underlying t=some (.slice l))(he:P.underlying l=some (.int .u8))
  (F:ad n f x=X.enc s) (h:aC3 s w ab) (cg:∀ J,ab J→next (act n (hx f d (X.enc s)) aG) J):m4 P G (act n f aG) w next Q:=by
 rw[n0];subst ag;obtain⟨a,hF,o,Y,qo,h⟩:=h;have I:(convert t t (X.enc s)).run P w=.ok (X.enc s) (w.freeze ⟨a.block,o,none⟩ 1):=by
  simp[convert,run_underlying aT,run_underlying he,Y,markStringish,qo,Result.andThen]
 have gZ:(execOp (ad n f) G).run P w=.ok (.value (X.enc s)) (w.freeze ⟨a.block,o,none⟩ 1):=by
  simp only[execOp,aj,F,Sem.run_bind,I,Result.andThen_ok,Sem.run_pure]
 simp only[Oper.wp,h3,gZ,Oper.upon_value,iv];exact cg _ h
theorem aG7{P:Program}(w:World)(o:Nat)(r:List UInt8):(Builtin.firstCells o r.length (.string ⟨r.toArray⟩)).run P w=.ok ((aV r).flatMap (B .u8).cells).toArray w:=by
 rw[Pd];have nJ:(⟨r.toArray⟩:ByteArray).size=r.length:=rfl;simp only[Builtin.firstCells,Sem.run_pure];congr 1;apply Array.ext';have he:(⟨r.toArray⟩:ByteArray).extract 0 r.length=⟨r.toArray⟩:=by rw[← nJ]; exact ByteArray.extract_zero_size
 rw[he];simp[aV]
theorem SI(o:Nat)(r:List UInt8):(Builtin.firstCells o r.length (.string ⟨r.toArray⟩)).run P w=.ok ((aV r).flatMap (B .u8).cells).toArray w:=by
 have h:=aG7 (P:=P) w o r;exact h
def Oq(l:TypeId)(s:af)(r:List UInt8)(w:World)(k:af→World→Prop):Prop:=mo l (B .u8) 1 1 s (aV r) w k
theorem aG2{t u hF l:TypeId}{s:af}{r:List UInt8}(aT:P.underlying t=some (.slice l))(hu:P.underlying u=some .string)(ok:cE P l (B .u8) 1)(U:s.len+r.length≤s.cap){a:Addr}(Y:s.a=some a)(hw:wx w (a.add (s.len*1)) (r.length*1)) :
  (Builtin.append_ #[t,u] hF #[X.enc s,.string ⟨r.toArray⟩]).run P w=.ok (X.enc ⟨some a,s.len+r.length,s.cap⟩) (oS w (a.add (s.len*1)) 0 ((aV r).flatMap (B .u8).cells)):=by
 obtain⟨jT,ay,kp⟩:=ok.size
 have R:=E2 (P:=P) (a.add (s.len*1)) ((aV r).flatMap (B .u8).cells) 0 w (by
  intro D bT;rw[Nat.zero_add];rw[n_ ok.len,gI] at bT
  exact hw D bT) (fun v aL=>by obtain⟨x,_,F⟩:=List.mem_flatMap.1 aL; exact ok.one x v F)
 have nJ:(⟨r.toArray⟩:ByteArray).size=r.length:=rfl;simp only[Builtin.append_];have I:=SI (P:=P) (w:=w) 1 r;simp[run_underlying aT,run_underlying hu,run_sizeOf ay,Builtin.lenOf,U,kp,Y,nJ,I];simp only[Nat.mul_one] at R;rw[show storeCells (a.add s.len) ((aV r).flatMap (B .u8).cells).toArray.toList=storeCells (a.add s.len) ((aV r).flatMap (B .u8).cells) 0 from rfl,R];simp
theorem aG3{t u hF l:TypeId}{s:af}{r:List UInt8}(aT:P.underlying t=some (.slice l))(hu:P.underlying u=some .string)(ok:cE P l (B .u8) 1)(U:s.len+r.length≤s.cap)(Y:s.a=none) :
  (Builtin.append_ #[t,u] hF #[X.enc s,.string ⟨r.toArray⟩]).run P w=.ok (X.enc ⟨none,s.len+r.length,s.cap⟩) w:=by
 obtain⟨jT,ay,kp⟩:=ok.size;have nJ:(⟨r.toArray⟩:ByteArray).size=r.length:=rfl;have I:=SI (P:=P) (w:=w) 1 r;simp only[Builtin.append_];simp[run_underlying aT,run_underlying hu,run_sizeOf ay,Builtin.lenOf,U,kp,Y,nJ,I]
theorem aG1{t u hF l:TypeId}{jT:TypeInfo}{s:af}{r:List UInt8}{old:List Int}(aT:P.underlying t=some (.slice l))(hu:P.underlying u=some .string)
  (ok:cE P l (B .u8) 1) (ay:P.info? l=some jT) (bN:jT.zero=some (.int .u8 0)) (Eb:jT.bytes=1) (U:s.cap<s.len+r.length) (s9:(s.len+r.length)*1≤140737488355328) (hold:lu (B .u8) w s old) :
  ∃ (c:Nat) (rest:List Value),s.len+r.length≤c∧rest.length=(c-(s.len+r.length))*1 ∧
   (Builtin.append_ #[t,u] hF #[X.enc s,.string ⟨r.toArray⟩]).run P w=.ok (X.enc ⟨some ⟨w.heap.size,0,none⟩,s.len+r.length,c⟩) (w.drew.alloc (.cells ((old++aV r).flatMap (B .u8).cells++rest).toArray l)):=by
 obtain⟨aos,yx,kp⟩:=ok.size;rw[ay] at yx; injection yx with yx; subst yx
 have nJ:(⟨r.toArray⟩:ByteArray).size=r.length:=rfl;have B4:old.length=s.len:=hold.1;have BT:¬ (s.len+r.length≤s.cap):=by omega
 have O:=growslice_fits (need:=s.len+r.length) (old:=s.cap) (bytes:=jT.bytes) (by omega) (by rw[Eb]; exact s9);have yv:¬ (281474976710656<Builtin.nextslicecap (s.len+r.length) s.cap*jT.bytes):=by omega
 have PM:jT.bytes≠0:=by omega
 refine⟨(Question.appendCap (s.len+r.length) s.cap l).cut (w.tape w.drawn (.appendCap (s.len+r.length) s.cap l)),(Builtin.zeroCells (Value.int .u8 0).cells ((Question.appendCap (s.len+r.length) s.cap l).cut (w.tape w.drawn (.appendCap (s.len+r.length) s.cap l))-(s.len+r.length))).toList,?_,?_,?_⟩
 ·simp only[Question.cut]; omega
 ·simp[Builtin.zeroCells,Value.cells]
 ·have GQ:=SI (P:=P) (w:=w.drew) 1 r;have Pp:Sem.run P (Builtin.firstCells 1 s.len (Value.slice s.a s.len s.cap)) w.drew=.ok (old.flatMap (B .u8).cells).toArray w.drew:=AI (P:=P) ok.len (Of hold);simp only[Builtin.append_];simp[run_underlying aT,run_underlying hu,run_sizeOf ay,Builtin.lenOf,BT,kp,nJ,typeInfo,ay,PM,yv,Question.forced,GQ,Pp,zeroValue,bN,newRow,List.flatMap_append,World.drew_eq];congr 2;apply Array.ext';simp
theorem Tv{t u l:TypeId}{s:af}{r:List UInt8}{d:Option Nat}{next:Act→World→Prop}{ab:af→World→Prop}(ag:G.dst=d)
  (aj:G.op=.call { callee:=.builtin .append,args:=#[x,S],argTypes:=#[t,u] }) (aT:P.underlying t=some (.slice l)) (hu:P.underlying u=some .string)
  (ok:cE P l (B .u8) 1) (vk:∃ i,P.info? l=some i∧i.zero=some (.int .u8 0)∧i.size=1∧i.bytes=1)
  (F:ad n f x=X.enc s) (aB:ad n f S=.string ⟨r.toArray⟩) (h:Oq l s r w ab) (aq:∀ r J,ab r J→next (act n (hx f d (X.enc r)) aG) J) :
  m4 P G (act n f aG) w next Q:=by
 rw[n0];subst ag;obtain⟨jT,ay,bN,kp,Eb⟩:=vk;obtain⟨kK,z9⟩:=h;have gZ:∀ (w:World) (v:Value) (J:World),(Builtin.append_ #[t,u] G.type #[X.enc s,.string ⟨r.toArray⟩]).run P w=.ok v J→(execOp (ad n f) G).run P w=.ok (.value v) J:=by
  intro w v J aL;simp only[execOp,aj,resolve,invoke,builtin];simp only[List.map_toArray,List.map_cons,List.map_nil,F,aB,pure_bind,Sem.run_bind,aL,Result.andThen_ok,Sem.run_pure]
 rw[gI] at kK z9;by_cases U:s.len+r.length≤s.cap
 ·have kK:=kK U;cases Y:s.a with
  |none=>
   rw[Y] at kK;simp only[Oper.wp,h3,gZ _ _ _ (aG3 aT hu ok U Y),Oper.upon_value,iv];exact aq _ _ kK
  |some a=>
   rw[Y] at kK;simp only[Oper.wp,h3,gZ _ _ _ (aG2 aT hu ok U Y kK.1),Oper.upon_value,iv];exact aq _ _ kK.2
 ·obtain⟨s9,old,hold,z9⟩:=z9 (by omega);obtain⟨c,rest,I,R,aK⟩:=aG1 (hF:=G.type) aT hu ok ay bN Eb (by omega) s9 hold;simp only[Oper.wp,h3,gZ _ _ _ aK,Oper.upon_value,iv];exact aq _ _ (z9 c rest I R)
def ga(op:BinOp)(a e:Nat):Bool:=
 match op with
 |.eql=>FloatKind.f64.format.order a e==some .eq
 |.neq=>FloatKind.f64.format.order a e != some .eq
 |.lss=>FloatKind.f64.format.order a e==some .lt
 |.leq=>FloatKind.f64.format.order a e==some .lt||FloatKind.f64.format.order a e==some .eq
 |.gtr=>FloatKind.f64.format.order a e==some .gt
 |.geq=>FloatKind.f64.format.order a e==some .gt||FloatKind.f64.format.order a e==some .eq
 |_=>false
def aom:BinOp→Bool
 |.eql |.neq |.lss |.leq |.gtr |.geq=>true
 |_=>false
theorem adX{op:BinOp}{a e:Nat}{t u:TypeId}(aj:G.op=.binOp op t x S u)(gZ:aom op=true)(F:ad n f x=.float .f64 a)(aB:ad n f S=.float .f64 e) :
  (execOp (ad n f) G).run P w=.ok (.value (.bool (ga op a e))) w:=by
 cases op<;>first
  |cases gZ; done
  |simp[execOp,aj,F,aB,eqGuard_at_float,eqGuard_lss,eqGuard_leq,eqGuard_gtr,eqGuard_geq,binOp,Op.floatCmp,ga]
def xE(op:BinOp)(a e:Nat)(r:Nat):Prop:=floatBits op .f64 a e=some r
def zC(k:IntKind)(e:Nat)(o:Int):Prop:=floatToIntVal .f64 e k=some o
def aoh:BinOp→Bool
 |.add |.sub |.mul |.quo=>true
 |_=>false
theorem adW{op:BinOp}{a e r:Nat}{t u:TypeId}(aj:G.op=.binOp op t x S u)(gZ:aoh op=true)(F:ad n f x=.float .f64 a)(aB:ad n f S=.float .f64 e)(h:xE op a e r) :
  (execOp (ad n f) G).run P w=.ok (.value (.float .f64 r)) w:=by
 have aa:=run_float_arith (P:=P) w op t .f64 a e r h;cases op<;>first
  |cases gZ; done
  |simp[execOp,aj,F,aB,eqGuard_add,eqGuard_sub,eqGuard_mul,eqGuard_quo,aa]
theorem Sg{k:IntKind}{e:Nat}{o:Int}{s t:TypeId}(aj:G.op=.convert s t x)(aH:P.underlying s=some (.float .f64))(aT:P.underlying t=some (.int k))(F:ad n f x=.float .f64 e)(h:zC k e o) :
  (execOp (ad n f) G).run P w=.ok (.value (.int k o)) w:=by
 have aa:=run_convert_float_int (P:=P) w s t .f64 k e o (by rw[aH]; rfl) aT h;simp[execOp,aj,F,aa]
def Ext(P:Program)(k:FuncId)(l:Array Value→Sem Value):Prop:=∃ fn,P.funcs[k]?=some fn∧(fn.name=="runtime.NumGoroutine")=false∧fn.body.isNone=true∧Extern.findNext fn=none∧Extern.find fn=some l
theorem adT{k:FuncId}{l:Array Value→Sem Value}{lz:List Operand}{nW:Array TypeId}{m:List Value}{v:Value}(aj:G.op=.call { callee:=.value (.func k),args:=lz.toArray,argTypes:=nW })(he:Ext P k l)(Y:lz.map (ad n f)=m)(aL:(l m.toArray).run P w=.ok v w) :
  (execOp (ad n f) G).run P w=.ok (.value v) w:=by
 obtain⟨fn,am,I,R,aK,bp⟩:=he;subst Y;have dz:=run_callFunc_extern am I R aK bp ((lz.map (ad n f)).toArray) w;rw[aL] at dz;simp only[Result.andThen_ok] at dz;simpa[execOp,aj,resolve,ad,Deferred.ofValue,invoke] using dz
theorem adV{k:FuncId}{e:Nat}{nW:Array TypeId}(aj:G.op=.call { callee:=.value (.func k),args:=#[x],argTypes:=nW })(he:Ext P k Extern.MathFloatBits.float64bits)(F:ad n f x=.float .f64 e) :
  (execOp (ad n f) G).run P w=.ok (.value (.int .u64 e)) w:=adT (lz:=[x]) (m:=[.float .f64 e]) aj he (by simp[F]) rfl
theorem Si{k:FuncId}{e:Int}{nW:Array TypeId}(aj:G.op=.call { callee:=.value (.func k),args:=#[x],argTypes:=nW })(he:Ext P k Extern.MathFloatBits.float64frombits)(F:ad n f x=.int .u64 e) :
  (execOp (ad n f) G).run P w=.ok (.value (.float .f64 e.toNat)) w:=adT (lz:=[x]) (m:=[.int .u64 e]) aj he (by simp[F]) rfl
def aaU:TypeDesc→Bool
 |.interface _=>true
 |_=>false
theorem zb{t:TypeId}{d:TypeDesc}{v:Value}(aj:G.op=.makeInterface t x)(aT:P.underlying t=some d)(ag:aaU d=false)(F:ad n f x=v):(execOp (ad n f) G).run P w=.ok (.value (eF.mk t v).enc) w:=by
 subst F;cases d<;>first
  |simp[execOp,aj,Instr.makeInterface,run_underlying aT,eF.enc]; done
  |cases ag
theorem aeb{t:TypeId}{a:Int}{k:IntKind}(aj:G.op=.unOp .xor t x)(aq:k.signed=false)(F:ad n f x=.int k a):(execOp (ad n f) G).run P w=.ok (.value (.int k (bits .xor k k.max a))) w:=by
 simp[execOp,aj,F,Op.unary,aq,intBits_xor]
theorem aea{t:TypeId}{a:Int}{k:IntKind}(aj:G.op=.unOp .xor t x)(aq:k.signed=true)(F:ad n f x=.int k a):(execOp (ad n f) G).run P w=.ok (.value (.int k (bits .xor k (-1) a))) w:=by
 simp[execOp,aj,F,Op.unary,aq,intBits_xor]
theorem ad9{t:TypeId}{a:Nat}(aj:G.op=.unOp .neg t x)(F:ad n f x=.float .f64 a):(execOp (ad n f) G).run P w=.ok (.value (.float .f64 (Op.negFloat .f64 a))) w:=by
 simp[execOp,aj,F,Op.unary]
end
section
variable {P:Program} {Q:Exit→Act→World→Prop} {n:Nat} {f:Nat→Value} {aG:List Deferred} {w J:World} {G:Oper} {x:Operand}
def AA(v:eF):List PanicEntry:=[{ v:=v.enc,recovered:=false }]
def Xp{Z:Type}(T:bz Z)(j:Z→World→Prop)(eG:eF→World→Prop):Ending→World→Prop
 |.returned v,w=>∃ x,v=T.enc x∧j x w
 |.panicked chain,w=>∃ v,chain=AA v∧eG v w
 |.outgrown,_=>False
def n3{Z:Type}(P:Program)(f:FuncId)(args:List Value)(T:bz Z)(w:World)(eG:eF→World→Prop)(k:Z→World→Prop):Prop:=Calls P f args.toArray w (Xp T k eG)
theorem sn{Z:Type}{T:bz Z}{fn:Func}{j:Z→World→Prop}{eG:eF→World→Prop}{v:eF}(h:eG v w):bodyPost P fn (Xp T j eG) (.panic (AA v)) (act n f []) w:=⟨rfl,v,rfl,h⟩
theorem zt{Z:Type}{T:bz Z}{k:FuncId}{args:List Value}{d:Option Nat}{next:Act→World→Prop}{ab:Z→World→Prop}{eG:eF→World→Prop}(ag:G.dst=d)
  (aL:(execOp (ad n f) G).run P w=.ok (.enter k args.toArray) w) (h:n3 P k args T w eG ab) (aF:∀ v J,eG v J→Q (.panic (AA v)) (act n f aG) J) (aq:∀ r J,ab r J→next (act n (hx f d (T.enc r)) aG) J):m4 P G (act n f aG) w next Q:=by
 rw[n0];subst ag;refine X7 aL (Calls.mono h fun l J he=>?_);cases l with
 |returned v=>obtain⟨r,rfl,aa⟩:=he; exact aq r J aa
 |panicked c=>obtain⟨v,rfl,aL⟩:=he; exact aF v J aL
 |outgrown=>exact he.elim
theorem C0{v:eF}{next:Act→World→Prop}(aj:G.op=.panic x)(F:ad n f x=v.enc)(aM:∃ t u,v=.mk t u)(h:Q (.panic (AA v)) (act n f aG) w):m4 P G (act n f aG) w next Q:=by
 rw[n0];obtain⟨t,u,rfl⟩:=aM;have gZ:(execOp (ad n f) G).run P w=.halt (.panic (.iface t u)) w:=by
  simp only[execOp,aj,F];rfl
 simp only[Oper.wp,h3,gZ,Oper.upon_panic];exact h
def Gs(P:Program)(fn:Func)(pu:List Nat)(j:Ending→World→Prop):Exit→Act→World→Prop
 |.panic chain,a,w=>∀ tmps:Array Value,(∀ s∈pu,tmps.getD s undef=a.tmps.getD s undef)→Leaves P fn tmps j a.defers (.panicking chain) w
 |l,a,w=>bodyPostD P fn j l a w
theorem alj{f:FuncId}{fn:Func}{c:Code}{m:List Value}{j:Ending→World→Prop}{pu:List Nat}(n:Nat)
  (am:P.funcs[f]?=some fn) (aM:fn.ntmps=n) (ao:fn.body=some c) (al:m.length≤n)
  (h:c.wp P (Gs P fn pu j) (act n (start m) []) w):Calls P f m.toArray w j:=by
 subst aM;refine calls_of_wp_defers am ao ?_;rw[SW m _ al];refine wp_mono h fun l a J h=>?_;cases l with
 |panic c=>exact h _ fun _ _=>rfl
 |_=>exact h
def yS(P:Program)(k:FuncId)(args:List Value)(u:FrameMode)(w:World)(ab:World→Prop):Prop:=
 CallsD P k args.toArray u w fun l px J=>(∃ v,l=.returned v)∧settle px=.returning∧ab J
theorem Rh{k:FuncId}{args:List Value}{u:FrameMode}{ab K':World→Prop}(h:yS P k args u w ab)(aq:∀ J,ab J→K' J):yS P k args u w K':=
 CallsD.mono h fun _ _ J ⟨I,R,aK⟩=>⟨I,R,aq J aK⟩
theorem aBK{k:FuncId}{bd:List Value}(he:dj P k):(invoke (.fn (.func k) bd.toArray) #[]).run P w=.ok (.enter k bd.toArray) w:=by
 obtain⟨fn,am,ao,aM⟩:=he;have vc:fn.body≠none:=by intro h; simp[h] at ao
 simp[invoke,callFunc,am,vc,beq_eq_false_iff_ne.1 aM]
def ae6:ResultVar→Nat
 |.tmp t=>t
 |.cell a _=>a
def LV(an:List ResultVar):List Nat:=an.map ae6
theorem aGT{fn:Func}{an:List ResultVar}{t1 t2:Array Value}(aa:fn.results=an.toArray)(h:∀ s∈LV an,t1.getD s undef=t2.getD s undef):results fn t1=results fn t2:=by
 have l:∀ t,results fn t=(do let AR ← fn.results.mapM (uA t); pure (if h:AR.size=1 then AR[0] else .tuple AR)):=fun t=>rfl;have hm:∀ m:List ResultVar,(∀ r∈m,uA t1 r=uA t2 r)→m.mapM (uA t1)=m.mapM (uA t2):=by
  intro m;induction m with
  |nil=>intro _; rfl
  |cons a m cq=>
   intro al;rw[List.mapM_cons,List.mapM_cons,al a (by simp),cq (fun r aa=>al r (by simp[aa]))]
 rw[l,l,aa,Array.mapM_eq_mapM_toList,Array.mapM_eq_mapM_toList,hm _ ?_];intro r ue;have aH:ae6 r∈LV an:=List.mem_map_of_mem (by simpa using ue);cases r with
 |tmp t=>simp only[uA,h t aH]
 |cell a t=>simp only[uA,h a aH]
theorem abQ{fn:Func}{an:List ResultVar}{k:FuncId}{bd:List Value}{u:FrameMode}{j:Ending→World→Prop}{tmps:Array Value}(hu:u≠.run)(aa:fn.results=an.toArray)(he:dj P k)(aT:∀ s∈LV an,tmps.getD s undef=(act n f aG).tmps.getD s undef)
  (h:yS P k bd u w fun J=>∃ a0,sI P n f J an a0∧j (.returned (CO a0)) J):Leaves P fn tmps j [{ target:=.fn (.func k) bd.toArray,args:=#[] }] u w:=by
 refine leaves_cons hu (aBK he) (CallsD.mono h fun l px J ⟨⟨v,I⟩,R,a0,aK,bp⟩=>?_);subst I;simp only[R,Leaves];refine⟨_,?_,bp⟩;rw[aGT aa aT];exact LY aa aK
theorem aGU{fn:Func}{an:List ResultVar}{k:FuncId}{bd:List Value}{j:Ending→World→Prop}{pu:List Nat}(aa:fn.results=an.toArray)(he:dj P k)
  (h:yS P k bd .returning w fun J=>∃ a0,sI P n f J an a0∧j (.returned (CO a0)) J):Gs P fn pu j .ret (act n f [{ target:=.fn (.func k) bd.toArray,args:=#[] }]) w:=
 abQ (by simp) aa he (fun _ _=>rfl) h
theorem acR{fn:Func}{an:List ResultVar}{k:FuncId}{bd:List Value}{j:Ending→World→Prop}{v:eF}(aa:fn.results=an.toArray)(he:dj P k)
  (h:yS P k bd (.panicking (AA v)) w fun J=>∃ a0,sI P n f J an a0∧j (.returned (CO a0)) J):Gs P fn (LV an) j (.panic (AA v)) (act n f [{ target:=.fn (.func k) bd.toArray,args:=#[] }]) w:=
 fun tmps aT=>abQ (aG:=[{ target:=.fn (.func k) bd.toArray,args:=#[] }]) (by simp) aa he aT h
theorem aEH{fn:Func}{pu:List Nat}{j:Ending→World→Prop}{c:List PanicEntry}{a:Act}{d:Option Nat}{v:Value}(ag:∀ s∈pu,d≠some s)(h:Gs P fn pu j (.panic c) (a.put d v) w):Gs P fn pu j (.panic c) a w:=by
 cases d with
 |none=>exact h
 |some d=>
  intro tmps aT;refine h tmps fun s aH=>?_;rw[aT s aH];have:d≠s:=fun l=>ag s aH (by rw[l]);simp[Act.put,Array.getD_eq_getD_getElem?,Array.getElem?_setIfInBounds,this]
theorem amL{ops:Array Oper}{pu:List Nat}{d:Option Nat}(h:(ops.toList.all fun G=>pu.all fun s=>G.dst != some s)=true)(ag:∃ G∈ops.toList,G.dst=d):∀ s∈pu,d≠some s:=by
 obtain⟨G,aj,rfl⟩:=ag;intro s aH;have:=List.all_eq_true.1 (List.all_eq_true.1 h G aj) s aH;simpa using this
theorem aJh{k:FuncId}{bd:List Value}{next:Act→World→Prop}{d:Option Nat}{nW:Array TypeId}(ag:G.dst=d)(aj:G.op=.defer { callee:=.value x,args:=#[],argTypes:=nW })(F:ad n f x=.func (.func k) #[] bd.toArray)
  (h:next (act n (hx f d undef) ({ target:=.fn (.func k) bd.toArray,args:=#[] }::aG)) w):m4 P G (act n f aG) w next Q:=by
 rw[n0];subst ag;have gZ:(execOp (ad n f) G).run P w=.ok (.defer { target:=.fn (.func k) bd.toArray,args:=#[] }) w:=by
  simp[execOp,aj,F,resolve,Deferred.ofValue]
 simp only[Oper.wp,h3,gZ,Oper.upon];have l:(({ (act n f aG) with defers:={ target:=.fn (.func k) bd.toArray,args:=#[] }::aG }:Act).put G.dst undef)=act n (hx f G.dst undef) ({ target:=.fn (.func k) bd.toArray,args:=#[] }::aG):=iv n f _ G.dst undef
 first
  |exact l▸h
  |(rw[← l] at h; exact h)
def Ji(u:FrameMode)(v:eF)(px:FrameMode):Prop:=
 (∃ Ln,u=.panicking ({ v:=v.enc,recovered:=false }::Ln)∧px=.panicking ({ v:=v.enc,recovered:=true }::Ln))∨(u=.returning∧v=.nil∧px=.returning)
theorem aGB(v:eF):Ji (.panicking (AA v)) v (.panicking [{ v:=v.enc,recovered:=true }]):=.inl ⟨[],rfl,rfl⟩
theorem aGC:Ji .returning .nil .returning:=.inr ⟨rfl,rfl,rfl⟩
section
variable {zI:Exit→Act→List Frame→World→Prop} {bd amn:List Frame} {ops:Array Oper} {i:Nat} {rest:List Nat} {d:Option Nat}
theorem ali{f:FuncId}{fn:Func}{c:Code}{m:List Value}{u:FrameMode}{j:Ending→FrameMode→World→Prop}(n:Nat)(am:P.funcs[f]?=some fn)(aM:fn.ntmps=n)(ao:fn.body=some c)(al:m.length≤n)
  (h:∀ (oI:Frame) (bd:List Frame),oI.mode=u→c.wpS P (bodyPostS P fn oI bd j) (act n (start m) []) (oI::bd) w):CallsD P f m.toArray u w j:=by
 subst aM;refine callsD_of_wpS am ao fun oI bd hu=>?_;rw[SW m _ al];exact h oI bd hu
theorem aGY{v:eF}{u px:FrameMode}{oI:Frame}(ay:ops.toList[i]?=some G)(O:G.guard=none)(ag:G.dst=d)(aj:G.op=.call { callee:=.builtin .recover,args:=#[],argTypes:=#[] })(hu:oI.mode=u)(aa:Ji u v px)
  (h:wpOpsS P ops zI rest (act n (hx f d v.enc) aG) ({ oI with mode:=px }::bd) w):wpOpsS P ops zI (i::rest) (act n f aG) (oI::bd) w:=by
 subst ag;have gZ:(execOp (act n f aG).eval G).run P w=.ok .recover w:=by
  simp[execOp,aj,resolve,invoke,builtin]
 simp only[wpOpsS,ofList ay];rw[if_pos (by simp[Region.wanted,O])];rw[gZ];simp only;rcases aa with ⟨Ln,rfl,rfl⟩ | ⟨rfl,rfl,rfl⟩
 ·have l:recoverD (oI::bd)=some (v.enc,{ oI with mode:=.panicking ({ v:=v.enc,recovered:=true }::Ln) }::bd):=by
   simp only[recoverD,hu]
  rw[l];simp only[iv];exact h
 ·have l:recoverD (oI::bd)=none:=by
   simp only[recoverD,hu]
  rw[l];simp only[iv];have bb:({ oI with mode:=.returning }:Frame)=oI:=by cases oI; simp_all
  rw[bb] at h;exact h
theorem aGZ{v:Value}(ay:ops.toList[i]?=some G)(O:G.guard=none)(ag:G.dst=d)(aL:(execOp (ad n f) G).run P w=.ok (.value v) J)
  (h:wpOpsS P ops zI rest (act n (hx f d v) aG) bd J):wpOpsS P ops zI (i::rest) (act n f aG) bd w:=by
 subst ag;simp only[wpOpsS,ofList ay];rw[if_pos (by simp[Region.wanted,O]),h3,aL];simp only[Oper.upon_value,iv];exact h
theorem aGX(h:zI .normal (act n f aG) bd w):wpOpsS P ops zI [] (act n f aG) bd w:=h
theorem aJg{id:Nat}(m:List Nat)(al:List.range ops.size=m)(h:wpOpsS P ops zI m (act n f aG) bd w):(Code.region id ops false).wpS P zI (act n f aG) bd w:=by
 subst al; exact wpS_region h
theorem YQ{fn:Func}{oI:Frame}{px:FrameMode}{j:World→Prop}(aa:fn.results=#[])(h:j w) :
  bodyPostS P fn oI bd (fun l tu J=>(∃ v,l=.returned v)∧tu=px∧j J) .normal (act n f []) ({ oI with mode:=px }::bd) w:=by
 refine⟨rfl,px,rfl,.tuple #[],?_,⟨_,rfl⟩,rfl,h⟩;have:=LY (P:=P) (w:=w) (n:=n) (f:=f) (aG:=[]) (fn:=fn) (an:=[]) (a0:=[]) aa .nil;exact this
end
theorem abW{k:FuncId}{args:List Value}{u px:FrameMode}{ab:World→Prop}(h:CallsD P k args.toArray u w fun l tu J=>(∃ v,l=.returned v)∧tu=px∧ab J)(aH:settle px=.returning):yS P k args u w ab:=
 CallsD.mono h fun _ _ J ⟨I,R,aK⟩=>⟨I,by rw[R]; exact aH,aK⟩
def TP{Z:Type}(t:TypeId)(T:bz Z)(z:Z)(x:eF)(p:Z×Bool):Prop:=(∃ S,x=.mk t (T.enc S)∧p=(S,true))∨((∀ v,x≠.mk t v)∧p=(z,false))
theorem R1{Z:Type}{T:bz Z}{aJu t:TypeId}{z:Z}{v:eF}{p:Z×Bool}{o e:Nat}{S:Operand}(aj:G.op=.typeAssert S aJu t true)(aT:∃ d,P.underlying t=some d∧aaU d=false)(bN:∃ i,P.info? t=some i∧i.zero=some (T.enc z)∧i.size=o∧i.bytes=e)(F:ad n f S=v.enc)(h:TP t T z v p) :
  (execOp (ad n f) G).run P w=.ok (.value (.tuple #[T.enc p.1,.bool p.2])) w:=by
 obtain⟨d,aT,ag⟩:=aT;obtain⟨i,ay,ug,_⟩:=bN;have d_:∀ o,d≠.interface o:=by intro o l; subst l; cases ag
 rcases h with ⟨u,rfl,rfl⟩ | ⟨aL,rfl⟩
 ·cases d<;>first
   |cases ag; done
   |simp[execOp,aj,F,eF.enc,Instr.typeAssert,run_underlying aT]; done
 ·cases v with
  |nil=>
   cases d<;>first
    |cases ag; done
    |simp[execOp,aj,F,eF.enc,Instr.typeAssert,run_underlying aT,zeroValue,typeInfo,ay,ug]; done
  |mk tr u=>
   have arK:¬ tr=t:=fun l=>aL u (by rw[l]);cases d<;>first
    |cases ag; done
    |simp[execOp,aj,F,eF.enc,Instr.typeAssert,run_underlying aT,arK,zeroValue,typeInfo,ay,ug]; done
def eF.isNil:eF→Bool
 |.nil=>true
 |.mk _ _=>false
theorem aeH{t:TypeId}{v:eF}{HP:Array (String×TypeId)}(aT:P.underlying t=some (.interface HP)):(Op.equal t v.enc .nilIface).run P w=.ok v.isNil w:=by
 show (Op.equalIn (9999+1) t v.enc .nilIface).run P w=_
 rw[Op.equalIn];simp only[Sem.run_bind,run_underlying aT,Result.andThen_ok];cases v<;>simp[eF.enc,eF.isNil]
theorem adQ{t u:TypeId}{v:eF}{S:Operand}{HP:Array (String×TypeId)}(aj:G.op=.binOp .eql t S (.const .nilIface) u)(aT:P.underlying t=some (.interface HP))(F:ad n f S=v.enc):(execOp (ad n f) G).run P w=.ok (.value (.bool v.isNil)) w:=by
 have U:ad n f (.const .nilIface)=.nilIface:=rfl;have O:eqGuard .eql t S (.const .nilIface) v.enc .nilIface=pure ():=by cases v<;>cases S<;>rfl
 have ao:binOp .eql t v.enc .nilIface=(do pure (.bool (← Op.equal t v.enc .nilIface))):=by cases v<;>rfl
 have I:=aeH (P:=P) (w:=w) (v:=v) aT;simp only[execOp,aj,F,U,O,ao,Sem.run_bind,Sem.run_pure,Result.andThen_ok,I]
theorem Sl{t u:TypeId}{v:eF}{S:Operand}{HP:Array (String×TypeId)}(aj:G.op=.binOp .neq t S (.const .nilIface) u)(aT:P.underlying t=some (.interface HP))(F:ad n f S=v.enc):(execOp (ad n f) G).run P w=.ok (.value (.bool (!v.isNil))) w:=by
 have U:ad n f (.const .nilIface)=.nilIface:=rfl;have O:eqGuard .neq t S (.const .nilIface) v.enc .nilIface=pure ():=by cases v<;>cases S<;>rfl
 have ao:binOp .neq t v.enc .nilIface=(do pure (.bool (!(← Op.equal t v.enc .nilIface)))):=by cases v<;>rfl
 have I:=aeH (P:=P) (w:=w) (v:=v) aT;simp only[execOp,aj,F,U,O,ao,Sem.run_bind,Sem.run_pure,Result.andThen_ok,I]
section
variable {ops:Array Oper} {i:Nat} {rest:List Nat} {bW:Array Bool} {az:List (Nat×(World→Prop))} {o:Nat}
theorem aP(k:Nat){v:Value}(ay:ops.toList[i]?=some G)(O:G.guard=none)(ag:G.dst=some k)(aL:(execOp (ad n f) G).run P w=.ok (.value v) J)
  (h:du P ops Q rest (act n (ae f k v) aG) J):du P ops Q (i::rest) (act n f aG) w:=eg (d:=some k) ay (.free O) ag aL h
theorem fl(i k:Nat){v:Value}(ai:lQ ops Q)(ay:ops.toList[i]?=some G)(O:G.guard=none)(ag:G.dst=some k)(aL:∀ w,(execOp (ad n f) G).run P w=.ok (.value v) w)
  (h:ht P ops Q az o (bW.setIfInBounds i true) (act n (ae f k v) aG) w) (am:Region.free .any ops bW i=true:=by kernel_rfl) (aa:(Region.ready .any ops bW).contains i=true:=by kernel_rfl):ht P ops Q az (o+1) bW (act n f aG) w:=
 e5 (i:=i) (d:=some k) ai am aa ay (.free O) ag aL h
end
end
def sV{Z:Type}(P:Program)(hV:cw)(args:List Value)(T:bz Z)(w:World)(k:Z→World→Prop):Prop:=
 ∃ (f:FuncId) (a c:List Value),hV=.mk (.func f) a.toArray c.toArray∧dj P f∧M P f (a++args++c) T w k
theorem OK{Z:Type}{P:Program}{T:bz Z}{hV:cw}{args:List Value}{w:World}{ab K':Z→World→Prop}(h:sV P hV args T w ab)(aq:∀ r J,ab r J→K' r J):sV P hV args T w K':=by
 obtain⟨f,a,c,I,R,aK⟩:=h
 exact⟨f,a,c,I,R,aK.mono fun l J he=>by
  cases l with
  |returned v=>obtain⟨x,F,aB⟩:=he; exact⟨x,F,aq _ _ aB⟩
  |_=>exact he.elim⟩
section
variable {P:Program} {Q:Exit→Act→World→Prop} {n:Nat} {f:Nat→Value} {aG:List Deferred} {w:World} {G:Oper} {x:Operand}
theorem aFw{k:FuncId}{lz:List Operand}{nW:Array TypeId}{m a c:List Value}{hV:cw}(aj:G.op=.call { callee:=.value x,args:=lz.toArray,argTypes:=nW })(F:ad n f x=hV.enc)(yu:hV=.mk (.func k) a.toArray c.toArray)
  (he:dj P k) (Y:lz.map (ad n f)=m):(execOp (ad n f) G).run P w=.ok (.enter k (a++m++c).toArray) w:=by
 obtain⟨fn,am,ao,aM⟩:=he;have vc:fn.body≠none:=by intro h; simp[h] at ao
 subst yu; subst Y;simp[execOp,aj,resolve,F,cw.enc,Deferred.ofValue,invoke,callFunc,am,vc,beq_eq_false_iff_ne.1 aM]
theorem Ty{Z:Type}{T:bz Z}{lz:List Operand}{nW:Array TypeId}{m:List Value}{hV:cw}{d:Option Nat}{next:Act→World→Prop}{ab:Z→World→Prop}(ag:G.dst=d)(aj:G.op=.call { callee:=.value x,args:=lz.toArray,argTypes:=nW })
  (F:ad n f x=hV.enc) (Y:lz.map (ad n f)=m) (h:sV P hV m T w ab) (aq:∀ r J,ab r J→next (act n (hx f d (T.enc r)) aG) J):m4 P G (act n f aG) w next Q:=by
 obtain⟨k,a,c,yu,he,h⟩:=h;exact gx ag (aFw aj F yu he Y) h aq
end
def Lx(P:Program):Sem Next→Option Value
 |.pure (.value v)=>some v
 |.program k=>Lx P (k P)
 |_=>none
theorem aFo{P:Program}:∀ {s:Sem Next} {v:Value},Lx P s=some v→∀ w,s.run P w=.ok (.value v) w:=by
 intro s;induction s with
 |pure a=>
  intro v h w;cases a<;>first | (cases h; rfl) | cases h
 |program k cq=>
  intro v h w;exact cq P h w
 |_=>intro v h; cases h
def Im(P:Program)(n:Nat)(ops:Array Oper):Nat→List Nat→(Nat→Value)→Option (Nat→Value)
 |0,_,f=>some f
 |_+1,[],_=>none
 |k+1,i::m,f=>match ops.toList[i]? with
  |some G=>match G.guard with
   |none=>match Lx P (execOp (ad n f) G) with
    |some v=>Im P n ops k m (hx f G.dst v)
    |none=>none
   |some _=>none
  |none=>none
def hh(G:Option (Nat→Value)):Nat→Value:=G.getD fun _=>undef
section
variable {P:Program} {Q:Exit→Act→World→Prop} {n:Nat} {f:Nat→Value} {aG:List Deferred} {w J:World} {ops:Array Oper}
theorem aeG:∀ (k:Nat) {m:List Nat} {f g:Nat→Value},Im P n ops k m f=some g→du P ops Q (m.drop k) (act n g aG) w→du P ops Q m (act n f aG) w
 |0,m,f,g,h,U=>by
  cases h;exact U
 |k+1,[],f,g,h,U=>by cases h
 |k+1,i::m,f,g,h,U=>by
  unfold Im at h;cases aj:ops.toList[i]? with
  |none=>rw[aj] at h; cases h
  |some G=>
   rw[aj] at h;simp only at h;cases O:G.guard with
   |some g=>rw[O] at h; cases h
   |none=>
    rw[O] at h;simp only at h;cases aL:Lx P (execOp (ad n f) G) with
    |none=>rw[aL] at h; cases h
    |some v=>
     rw[aL] at h;simp only at h;exact eg (d:=G.dst) aj (.free O) rfl (aFo aL w) (aeG k h U)
theorem tn(k:Nat){m:List Nat}(U:du P ops Q (m.drop k) (act n (hh (Im P n ops k m f)) aG) w)(h:(Im P n ops k m f).isSome=true:=by kernel_rfl):du P ops Q m (act n f aG) w:=by
 obtain⟨g,O⟩:=Option.isSome_iff_exists.1 h;rw[O] at U;exact aeG k O U
def Rm(ops:Array Oper)(i:Nat):Option (Operand×Nat):=match ops.toList[i]? with
 |some G=>match G.op,G.guard,G.dst with
  |.move x,none,some k=>some (x,k)
  |.assign x,none,some k=>some (x,k)
  |_,_,_=>none
 |none=>none
theorem aC9{i k:Nat}{x:Operand}(h:Rm ops i=some (x,k)):∃ G:Oper,ops.toList[i]?=some G∧G.guard=none∧G.dst=some k∧(execOp (ad n f) G).run P w=.ok (.value (ad n f x)) w:=by
 unfold Rm at h;cases aj:ops.toList[i]? with
 |none=>rw[aj] at h; cases h
 |some G=>
  rw[aj] at h;simp only at h;obtain⟨op,d,t,p,a,g⟩:=G;split at h
  ·rename_i S gf aS bb dn;cases h;exact⟨_,rfl,bb,dn,cs aS rfl⟩
  ·rename_i S gf aS bb dn;cases h;exact⟨_,rfl,bb,dn,CB aS rfl⟩
  ·cases h
theorem o{i k:Nat}{x:Operand}{rest:List Nat}(h:Rm ops i=some (x,k))(U:du P ops Q rest (act n (ae f k (ad n f x)) aG) w):du P ops Q (i::rest) (act n f aG) w:=by
 obtain⟨G,I,R,aK,bp⟩:=aC9 (P:=P) (n:=n) (f:=f) (w:=w) h;exact aP k I R aK bp U
def HH(ops:Array Oper)(i:Nat):Option (TypeId×Operand×Nat):=match ops.toList[i]? with
 |some G=>match G.op,G.guard,G.dst with
  |.load t x,none,some k=>some (t,x,k)
  |_,_,_=>none
 |none=>none
theorem gQ{Z:Type}{T:bz Z}{ab:Z→Prop}{a:Addr}{t:TypeId}{s i k:Nat}{x:Operand}{rest:List Nat}(ok:cE P t T s)(h:ex (L T a w) ab)(ay:HH ops i=some (t,x,k))(F:ad n f x=.pointer (some a))
  (U:∀ u,L T a w u→ab u→du P ops Q rest (act n (ae f k (T.enc u)) aG) w):du P ops Q (i::rest) (act n f aG) w:=by
 obtain⟨u,hu,cg⟩:=h;unfold HH at ay;cases aj:ops.toList[i]? with
 |none=>rw[aj] at ay; cases ay
 |some G=>
  rw[aj] at ay;simp only at ay;split at ay
  ·rename_i S gf tr aS bb dn;cases ay;exact aP k aj bb dn (hM aS ok F hu) (U u hu cg)
  ·cases ay
def Rp(ops:Array Oper)(i:Nat):Option (Operand×Nat):=match ops.toList[i]? with
 |some G=>match G.op,G.guard,G.dst with
  |.nilCheck x,none,some k=>some (x,k)
  |_,_,_=>none
 |none=>none
theorem JM{ab:Addr→Prop}{p:Option Addr}{i k:Nat}{x:Operand}{rest:List Nat}(h:ex (bM p) ab)(ay:Rp ops i=some (x,k))(F:ad n f x=.pointer p)
  (U:∀ a,bM p a→ab a→du P ops Q rest (act n (ae f k (.pointer (some a))) aG) w):du P ops Q (i::rest) (act n f aG) w:=by
 obtain⟨a,Y,cg⟩:=h;unfold Rp at ay;cases aj:ops.toList[i]? with
 |none=>rw[aj] at ay; cases ay
 |some G=>
  rw[aj] at ay;simp only at ay;split at ay
  ·rename_i S gf aS bb dn;cases ay;exact aP k aj bb dn (lo aS (F.trans (congrArg Value.pointer Y))) (U a Y cg)
  ·cases ay
def Oo(ops:Array Oper)(i:Nat):Option (TypeId×Nat):=match ops.toList[i]? with
 |some G=>match G.op,G.guard,G.dst with
  |.alloc t,none,some k=>some (t,k)
  |_,_,_=>none
 |none=>none
theorem oJ{Z:Type}{T:bz Z}{ab:Addr→World→Prop}{t:TypeId}{s i k av:Nat}{u:Z}{rest:List Nat}(ok:cE P t T s)(vk:∃ i,P.info? t=some i∧i.zero=some (T.enc u)∧i.size=s∧i.bytes=av)(h:bQ t T u w ab)(ay:Oo ops i=some (t,k))
  (U:∀ a J,ab a J→du P ops Q rest (act n (ae f k (.pointer (some a))) aG) J):du P ops Q (i::rest) (act n f aG) w:=by
 obtain⟨a,J,Y,hw,cg⟩:=oQ h;unfold Oo at ay;cases aj:ops.toList[i]? with
 |none=>rw[aj] at ay; cases ay
 |some G=>
  rw[aj] at ay;simp only at ay;split at ay
  ·rename_i tr gf aS bb dn;cases ay;exact aP k aj bb dn (H6 aS ok vk Y hw) (U a J cg)
  ·cases ay
def SU(ops:Array Oper)(i:Nat):Option (TypeId×Operand×Operand):=match ops.toList[i]? with
 |some G=>match G.op,G.guard,G.dst with
  |.store t x S,none,none=>some (t,x,S)
  |_,_,_=>none
 |none=>none
theorem jp{Z:Type}{T:bz Z}{ab:World→Prop}{t:TypeId}{s i:Nat}{x S:Operand}{a:Addr}{u:Z}{rest:List Nat}(ok:cE P t T s)(h:bi T a u w ab)(ay:SU ops i=some (t,x,S))(F:ad n f x=.pointer (some a))(aB:ad n f S=T.enc u)
  (U:∀ J,ab J→du P ops Q rest (act n f aG) J):du P ops Q (i::rest) (act n f aG) w:=by
 obtain⟨J,hw,aa,cg⟩:=sD h;unfold SU at ay;cases aj:ops.toList[i]? with
 |none=>rw[aj] at ay; cases ay
 |some G=>
  rw[aj] at ay;simp only at ay;split at ay
  ·rename_i tr agb aLz aS bb dn;cases ay;exact aeD (d:=none) aj (.free bb) dn (st aS ok F aB aa hw) (U J cg)
  ·cases ay
end
section
variable {P:Program} {Q:Exit→Act→World→Prop} {n:Nat} {f:Nat→Value} {aG:List Deferred} {w J:World} {ops:Array Oper} {i:Nat} {rest:List Nat} {x S:Operand} {bW:Array Bool} {az:List (Nat×(World→Prop))} {o:Nat}
def nP(ops:Array Oper)(i:Nat):Option (Op×Option (Nat×Bool)×Option Nat):=(ops.toList[i]?).map fun G=>(G.op,G.guard,G.dst)
theorem tm{p:Op}{g:Option (Nat×Bool)}{d:Option Nat}(h:nP ops i=some (p,g,d)):∃ G:Oper,ops.toList[i]?=some G∧G.op=p∧G.guard=g∧G.dst=d:=by
 unfold nP at h;obtain⟨G,aj,he⟩:=Option.map_eq_some_iff.1 h;cases he;exact⟨G,aj,rfl,rfl,rfl⟩
theorem aLS(k:Nat)(v:Value)(I:nP ops i=some (.move x,none,some k))(R:ad n f x=v)(h:du P ops Q rest (act n (ae f k v) aG) w):du P ops Q (i::rest) (act n f aG) w:=by
 obtain⟨G,aj,aF,O,ag⟩:=tm I;exact aP k aj O ag (cs aF R) h
theorem aLQ(k:Nat)(v:Value)(I:nP ops i=some (.assign x,none,some k))(R:ad n f x=v)(h:du P ops Q rest (act n (ae f k v) aG) w):du P ops Q (i::rest) (act n f aG) w:=by
 obtain⟨G,aj,aF,O,ag⟩:=tm I;exact aP k aj O ag (CB aF R) h
theorem gk{t:TypeId}{iF:Array Field}{D hF:Nat}{Z:Type}{T:bz Z}(k:Nat)(a:Addr)(off:Nat)(aT:P.underlying t=some (.struct iF))(ok:cE P hF T (o+1))(I:nP ops i=some (.fieldAddr t x D,none,some k))
  (am:(iF[D]?).map (fun g=>(g.offset,g.type))=some (off,hF)) (F:ad n f x=.pointer (some a)) (h:du P ops Q rest (act n (ae f k (.pointer (some (a.add off)))) aG) w):du P ops Q (i::rest) (act n f aG) w:=by
 obtain⟨G,aj,aF,O,ag⟩:=tm I;obtain⟨g,PU,he⟩:=Option.map_eq_some_iff.1 am;cases he;exact aP k aj O ag (iI aF aT PU rfl ok (by omega) F) h
theorem aLR{t:TypeId}{Z:Type}{T:bz Z}{a:Addr}{u:Z}(k:Nat)(aa:L T a w u)(ok:cE P t T o)(I:nP ops i=some (.load t x,none,some k))(F:ad n f x=.pointer (some a))(h:du P ops Q rest (act n (ae f k (T.enc u)) aG) w):du P ops Q (i::rest) (act n f aG) w:=by
 obtain⟨G,aj,aF,O,ag⟩:=tm I;exact aP k aj O ag (hM aF ok F aa) h
theorem zx{p:Option Addr}{a:Addr}(k:Nat)(Y:bM p a)(I:nP ops i=some (.nilCheck x,none,some k))(F:ad n f x=.pointer p)(h:du P ops Q rest (act n (ae f k (.pointer (some a))) aG) w):du P ops Q (i::rest) (act n f aG) w:=by
 obtain⟨G,aj,aF,O,ag⟩:=tm I;exact aP k aj O ag (lo aF (F.trans (congrArg Value.pointer Y))) h
theorem fb{a0:Array Value}{D:Nat}(k:Nat)(v:Value)(I:nP ops i=some (.extract x D,none,some k))(F:ad n f x=.tuple a0)(aL:a0[D]?=some v)(h:du P ops Q rest (act n (ae f k v) aG) w):du P ops Q (i::rest) (act n f aG) w:=by
 obtain⟨G,aj,aF,O,ag⟩:=tm I;exact aP k aj O ag (xg aF F aL) h
theorem ew{Z:Type}{T:bz Z}{k:FuncId}{lz:List Operand}{nW:Array TypeId}{m:List Value}{d:Option Nat}{ab:Z→World→Prop}(he:dj P k)(I:nP ops i=some (.call { callee:=.value (.func k),args:=lz.toArray,argTypes:=nW },none,d))
  (Y:lz.map (ad n f)=m) (h:M P k m T w ab) (aq:∀ r J,ab r J→du P ops Q rest (act n (hx f d (T.enc r)) aG) J):du P ops Q (i::rest) (act n f aG) w:=by
 obtain⟨G,aj,aF,O,ag⟩:=tm I;exact ey aj (.free O) (gx ag (fD aF he Y) h aq)
theorem eb{c:Operand}{p q:Code}{e:Bool}{cm lX:Prop}(h:if e=true then cm else lX)(U:ad n f c=.bool e)(F:e=true→cm→p.wp P Q (act n f aG) w)(aB:e=false→lX→q.wp P Q (act n f aG) w):(Code.cond c p q).wp P Q (act n f aG) w:=Ms U h F aB
theorem iN{Z:Type}{T:bz Z}{ab:Z→World→Prop}{r:Z}{fn:Func}{t:Nat}(h:ab r w)(aa:fn.results=[ResultVar.tmp t].toArray)(he:ad n f (.tmp t)=T.enc r):bodyPost P fn (Bg T ab) .ret (act n f []) w:=
 om aa (.cons (.tmp rfl) .nil) ⟨r,he,h⟩
theorem v9{Z:Type}{T:bz Z}{ab:Z→World→Prop}{r:Z}{fn:Func}{t u:Nat}(h:ab r w)(aa:fn.results=[ResultVar.tmp t,.tmp u].toArray)(he:Value.tuple #[ad n f (.tmp t),ad n f (.tmp u)]=T.enc r):bodyPost P fn (Bg T ab) .ret (act n f []) w:=
 om aa (.cons (.tmp rfl) (.cons (.tmp rfl) .nil)) ⟨r,he,h⟩
theorem IR{Z:Type}{T:bz Z}{ab:Z→World→Prop}{r:Z}{fn:Func}{t u v:Nat}(h:ab r w)(aa:fn.results=[ResultVar.tmp t,.tmp u,.tmp v].toArray)(he:Value.tuple #[ad n f (.tmp t),ad n f (.tmp u),ad n f (.tmp v)]=T.enc r):bodyPost P fn (Bg T ab) .ret (act n f []) w:=
 om aa (.cons (.tmp rfl) (.cons (.tmp rfl) (.cons (.tmp rfl) .nil))) ⟨r,he,h⟩
theorem gj(i k:Nat)(v:Value)(ai:lQ ops Q)(I:nP ops i=some (.move x,none,some k))(R:ad n f x=v)(h:ht P ops Q az o (bW.setIfInBounds i true) (act n (ae f k v) aG) w)
  (am:Region.free .any ops bW i=true:=by kernel_rfl) (aa:(Region.ready .any ops bW).contains i=true:=by kernel_rfl):ht P ops Q az (o+1) bW (act n f aG) w:=by
 obtain⟨G,aj,aF,O,ag⟩:=tm I;exact fl i k ai aj O ag (fun _=>cs aF R) h am aa
theorem A2(i k:Nat)(v:Value)(ai:lQ ops Q)(I:nP ops i=some (.assign x,none,some k))(R:ad n f x=v)(h:ht P ops Q az o (bW.setIfInBounds i true) (act n (ae f k v) aG) w)
  (am:Region.free .any ops bW i=true:=by kernel_rfl) (aa:(Region.ready .any ops bW).contains i=true:=by kernel_rfl):ht P ops Q az (o+1) bW (act n f aG) w:=by
 obtain⟨G,aj,aF,O,ag⟩:=tm I;exact fl i k ai aj O ag (fun _=>CB aF R) h am aa
theorem g_{t:TypeId}{iF:Array Field}{D hF yU:Nat}{Z:Type}{T:bz Z}(i k:Nat)(a:Addr)(off:Nat)(aT:P.underlying t=some (.struct iF))(ok:cE P hF T (yU+1))(ai:lQ ops Q)(I:nP ops i=some (.fieldAddr t x D,none,some k))
  (vg:(iF[D]?).map (fun g=>(g.offset,g.type))=some (off,hF)) (F:ad n f x=.pointer (some a)) (h:ht P ops Q az o (bW.setIfInBounds i true) (act n (ae f k (.pointer (some (a.add off)))) aG) w)
  (am:Region.free .any ops bW i=true:=by kernel_rfl) (aa:(Region.ready .any ops bW).contains i=true:=by kernel_rfl):ht P ops Q az (o+1) bW (act n f aG) w:=by
 obtain⟨G,aj,aF,O,ag⟩:=tm I;obtain⟨g,PU,he⟩:=Option.map_eq_some_iff.1 vg;cases he;exact fl i k ai aj O ag (fun _=>iI aF aT PU rfl ok (by omega) F) h am aa
theorem ow{p:Option Addr}{a:Addr}(i k:Nat)(Y:bM p a)(ai:lQ ops Q)(I:nP ops i=some (.nilCheck x,none,some k))(F:ad n f x=.pointer p)(h:ht P ops Q az o (bW.setIfInBounds i true) (act n (ae f k (.pointer (some a))) aG) w)
  (am:Region.free .any ops bW i=true:=by kernel_rfl) (aa:(Region.ready .any ops bW).contains i=true:=by kernel_rfl):ht P ops Q az (o+1) bW (act n f aG) w:=by
 obtain⟨G,aj,aF,O,ag⟩:=tm I;exact fl i k ai aj O ag (fun _=>lo aF (F.trans (congrArg Value.pointer Y))) h am aa
theorem hy{t:TypeId}{Z:Type}{T:bz Z}{a:Addr}{u:Z}{yU:Nat}(i k:Nat)(ff:L T a w u)(ok:cE P t T yU)(ai:lQ ops Q)(I:nP ops i=some (.load t x,none,some k))(F:ad n f x=.pointer (some a))
  (h:ht P ops Q ((i,fun A=>L T a A u)::az) o (bW.setIfInBounds i true) (act n (ae f k (T.enc u)) aG) w)
  (am:Region.free .any ops bW i=true:=by kernel_rfl) (aa:(Region.ready .any ops bW).contains i=true:=by kernel_rfl):ht P ops Q az (o+1) bW (act n f aG) w:=by
 obtain⟨G,aj,aF,O,ag⟩:=tm I;exact tq (i:=i) (d:=some k) (fun A=>L T a A u) ai am aa aj (.free O) ag (fun A aa=>hM aF ok F aa) ff h
theorem dY{G:Oper}(i k:Nat)(ai:lQ ops Q)(ay:ops.toList[i]?=some G)(O:C8 n ops f G)(ag:G.dst=some k)(h:ht P ops Q az o (bW.setIfInBounds i true) (act n (ae f k undef) aG) w)
  (am:Region.free .any ops bW i=true:=by kernel_rfl) (aa:(Region.ready .any ops bW).contains i=true:=by kernel_rfl):ht P ops Q az (o+1) bW (act n f aG) w:=
 Sz (i:=i) (d:=some k) ai am aa ay O ag h
end
def ag:Code→Nat
 |.region id _ _=>id+1
 |.seq a e=>match ag a with
  |0=>ag e
  |k=>k
 |.cond _ a e=>match ag a with
  |0=>ag e
  |k=>k
 |.block _ c=>ag c
 |.loop c=>ag c
 |.scope c=>ag c
 |_=>0
class cf(P:Program)(t:TypeId){Z:outParam Type}(T:outParam (bz Z))(n:outParam Nat):Prop where
 out:cE P t T n
class eU(P:Program)(t:TypeId)(z:outParam Value)(s e:outParam Nat):Prop where
 out:∃ i,P.info? t=some i∧i.zero=some z∧i.size=s∧i.bytes=e
class bg(P:Program)(t:TypeId)(d:outParam TypeDesc):Prop where
 out:P.underlying t=some d
class N7(P:Program)(t:TypeId)(D:Nat)(off:outParam Nat):Prop where
 out:∃ (iF:Array Field) (hF o:Nat) (Z:Type) (T:bz Z),P.underlying t=some (.struct iF)∧(iF[D]?).map (fun g=>(g.offset,g.type))=some (off,hF)∧cE P hF T (o+1)
theorem cM{P:Program}{t:TypeId}{iF:Array Field}{hF o:Nat}{Z:Type}{T:bz Z}(D off:Nat)(aT:P.underlying t=some (.struct iF))(ok:cE P hF T o)(hm:o=o-1+1:=by rfl)(am:(iF[D]?).map (fun g=>(g.offset,g.type))=some (off,hF):=by rfl):N7 P t D off:=
 ⟨iF,hF,o-1,Z,T,aT,am,hm▸ok⟩
theorem Sj{P:Program}{n:Nat}{f:Nat→Value}{G:Oper}{w:World}{t:TypeId}{x:Operand}{a:Addr}{D off:Nat}(aj:G.op=.fieldAddr t x D)[am:N7 P t D off](F:ad n f x=.pointer (some a)):(execOp (ad n f) G).run P w=.ok (.value (.pointer (some (a.add off)))) w:=by
 obtain⟨iF,hF,o,Z,T,I,R,aK⟩:=am.out;obtain⟨g,O,he⟩:=Option.map_eq_some_iff.1 R;cases he;exact iI aj I O rfl aK (by omega) F
class Jd(P:Program)(k:FuncId):Prop where
 out:dj P k
theorem x_{n:Nat}{f:Nat→Value}{ops:Array Oper}{G:Oper}{D d:Nat}{c:Bool}(O:G.guard=some (D,true))(bT:(ops[D]?).bind (·.dst)=some d)(aL:ad n f (.tmp d)=.bool c):tD n ops f G c:=.b7 D d true c O bT aL (by simp)
theorem x9{n:Nat}{f:Nat→Value}{ops:Array Oper}{G:Oper}{D d:Nat}{c:Bool}(O:G.guard=some (D,false))(bT:(ops[D]?).bind (·.dst)=some d)(aL:ad n f (.tmp d)=.bool c):tD n ops f G (!c):=.no D d true c O bT aL (by simp)
theorem ya{n:Nat}{f:Nat→Value}{ops:Array Oper}{G:Oper}{D d:Nat}{g c:Bool}(O:G.guard=some (D,true))(bT:(ops[D]?).bind (·.dst)=some d)(aL:ad n f (.tmp d)=mO g (.bool c)):tD n ops f G (g&&c):=.b7 D d g c O bT aL rfl
theorem x8{n:Nat}{f:Nat→Value}{ops:Array Oper}{G:Oper}{D d:Nat}{g c:Bool}(O:G.guard=some (D,false))(bT:(ops[D]?).bind (·.dst)=some d)(aL:ad n f (.tmp d)=mO g (.bool c)):tD n ops f G (g&&!c):=.no D d g c O bT aL rfl
theorem bv{P:Program}{k:FuncId}{fn:Func}(h:P.funcs[k]?=some fn)(ao:fn.body.isSome=true:=by rfl) (aM:(fn.name=="runtime.NumGoroutine")=false:=by decide):Jd P k:=⟨⟨fn,h,ao,aM⟩⟩
theorem ib{P:Program}{t:TypeId}{Z:Type}{T:bz Z}{z:Value}{e:Nat}{d:TypeDesc}(ay:∃ i,P.info? t=some i∧i.zero=some z∧i.size=1∧i.bytes=e)(hu:P.underlying t=some d)(ag:wC d=false:=by rfl)(U:∀ x,T.cells x=[T.enc x]:=by intro _; rfl)
  (am:∀ x,(T.enc x).cells=(T.cells x).toArray:=by intro _; rfl) (aj:∀ x,(T.enc x).oneCell'=true:=by intro _; rfl):cE P t T 1:=
 ⟨ay.imp fun _ h=>⟨h.1,h.2.2.1⟩,fun x=>by rw[U x]; rfl,.inr ⟨_,hu,ag,rfl,U⟩,am,fun x v aL=>by rw[U x] at aL; obtain rfl:=List.mem_singleton.1 aL; exact aj x⟩
theorem iY{P:Program}{t:TypeId}{Z:Type}{c:Z→List Value}{z:Value}{n e:Nat}{d:TypeDesc}(ay:∃ i,P.info? t=some i∧i.zero=some z∧i.size=n∧i.bytes=e)(hu:P.underlying t=some d)(al:∀ x,(c x).length=n)(aj:∀ x,∀ v∈c x,v.oneCell'=true)(ag:wC d=true:=by rfl):cE P t (ig c) n:=
 ⟨ay.imp fun _ h=>⟨h.1,h.2.2.1⟩,al,.inl ⟨_,hu,ag,fun _=>rfl⟩,fun _=>rfl,aj⟩
abbrev dM(P:Program)(t:TypeId)(z:Value)(s e:Nat):Prop:=∃ i,P.info? t=some i∧i.zero=some z∧i.size=s∧i.bytes=e
abbrev aN:=Option Addr
def aft:Op→Nat
 |.move _=>0
 |.assign _=>0
 |.nilCheck _=>1
 |.fieldAddr _ _ _=>2
 |.load _ _=>3
 |.store _ _ _=>4
 |.call c=>match c.callee with
  |.value (.func _)=>5
  |.value _=>6
  |_=>7
 |.binOp _ _ _ _ _=>9
 |.unOp _ _ _=>9
 |.extract _ _=>10
 |.pick _ _ _=>11
 |.build _ _=>12
 |.alloc _=>13
 |.convert _ _ _=>14
 |.field _ _ _=>15
 |.indexAddr _ _ _=>16
 |.index _ _ _=>16
 |.slice _ _ _ _ _=>17
 |.lookup _ _ _ _=>18
 |.makeFunc _ _ _=>19
 |.makeInterface _ _=>19
 |.typeAssert _ _ _ _=>19
 |.entry _=>19
 |_=>20
structure oy(p:Prop):Prop where
 it:p
section
variable {P:Program} {Q:Exit→Act→World→Prop} {n:Nat} {f:Nat→Value} {aG:List Deferred} {w J:World} {ops:Array Oper} {c:Code}
def Hy:BinOp→IntKind→Int→Int→Option Value
 |.eql,_,a,e=>some (.bool (a==e))
 |.neq,_,a,e=>some (.bool (a != e))
 |.lss,_,a,e=>some (.bool (decide (a<e)))
 |.leq,_,a,e=>some (.bool (decide (a≤e)))
 |.gtr,_,a,e=>some (.bool (decide (a>e)))
 |.geq,_,a,e=>some (.bool (decide (a≥e)))
 |.add,k,a,e=>some (.int k (k.wrap (a+e)))
 |.sub,k,a,e=>some (.int k (k.wrap (a-e)))
 |.mul,k,a,e=>some (.int k (k.wrap (a*e)))
 |_,_,_,_=>none
theorem aBb{op:BinOp}{k:IntKind}{a e:Int}{v:Value}{t u:TypeId}{G:Oper}{x S:Operand}(h:Hy op k a e=some v)(aj:G.op=.binOp op t x S u)(F:ad n f x=.int k a)(aB:ad n f S=.int k e):(execOp (ad n f) G).run P w=.ok (.value v) w:=by
 cases op<;>first
  |(cases h; done)
  |(cases h; first
    |exact gn aj F aB
    |exact g1 aj F aB
    |exact jw aj F aB
    |exact LA aj F aB
    |exact ss aj F aB
    |exact AE aj F aB
    |exact ni aj F aB
    |exact vM aj F aB
    |exact H8 aj F aB)
def fC(n:Nat)(f:Nat→Value):Op→Option Value
 |.move x=>some (ad n f x)
 |.assign x=>some (ad n f x)
 |.binOp op _ x S _=>match ad n f x,ad n f S with
  |.int k a,.int D e=>bif k==D then Hy op k a e else none
  |_,_=>none
 |.unOp .not _ x=>match ad n f x with
  |.bool e=>some (.bool (!e))
  |_=>none
 |.extract x i=>match ad n f x with
  |.tuple a0=>a0[i]?
  |_=>none
 |_=>none
theorem aFq{G:Oper}{op:Op}{v:Value}(aj:G.op=op)(h:fC n f op=some v):(execOp (ad n f) G).run P w=.ok (.value v) w:=by
 unfold fC at h;split at h
 ·cases h; exact cs aj rfl
 ·cases h; exact CB aj rfl
 ·rename_i aLe t x S u;split at h
  ·rename_i k a D e aS bb;cases aq:(k==D) with
   |false=>rw[aq] at h; cases h
   |true=>
    rw[aq] at h;have l:k=D:=by simpa using aq
    subst l;exact aBb h aj aS bb
  ·cases h
 ·split at h
  ·rename_i l; cases h; exact nj aj l
  ·cases h
 ·split at h
  ·rename_i l; exact xg aj l h
  ·cases h
 ·cases h
def ade(ops:Array Oper)(i n:Nat)(f:Nat→Value):Option (Value×Nat):=match ops.toList[i]? with
 |some G=>match G.guard,G.dst with
  |none,some k=>(fC n f G.op).map fun v=>(v,k)
  |_,_=>none
 |none=>none
theorem aIg{i k:Nat}{v:Value}{rest:List Nat}(h:ade ops i n f=some (v,k))(U:du P ops Q rest (act n (ae f k v) aG) w):du P ops Q (i::rest) (act n f aG) w:=by
 unfold ade at h;cases aj:ops.toList[i]? with
 |none=>rw[aj] at h; cases h
 |some G=>
  rw[aj] at h;simp only at h;split at h
  ·rename_i gf aS bb;obtain⟨aLj,aL,he⟩:=Option.map_eq_some_iff.1 h;cases he;exact aP k aj aS bb (aFq rfl aL) U
  ·cases h
theorem bu{D:FuncId}{fn:Func}{m:List Value}{j:Ending→World→Prop}(n:Nat)(am:P.funcs[D]?=some fn)(aM:fn.ntmps=n)(ao:fn.body=some c)(h:c.wp P (bodyPost P fn j) (act n (start m) []) w)(al:Nat.ble m.length n=true:=by rfl):Calls P D m.toArray w j:=
 oH n am aM ao (Nat.le_of_ble_eq_true al) h
theorem asF(h:c.wp P Q (act n f aG) w):c.wp P Q (act n f aG) w:=h
theorem aA9{m:List Nat}(h:du P ops Q m (act n f aG) w):du P ops Q m (act n f aG) w:=h
theorem hE{G:Oper}{v:Value}(k:Nat)(l:aft G.op=k)(h:(execOp (ad n f) G).run P w=.ok (.value v) J):(execOp (ad n f) G).run P w=.ok (.value v) J:=h
theorem wF{x S:Code}(l:c=.seq x S)(h:x.wp P (Exit.then (S.wp P Q) Q) (act n f aG) w):c.wp P Q (act n f aG) w:=by
 subst l; exact wp_seq h
theorem alf{id:Nat}{m:List Nat}(l:c=.region id ops false)(al:List.range ops.size=m)(h:du P ops Q m (act n f aG) w):c.wp P Q (act n f aG) w:=by
 subst l; exact a4 m al h
theorem ala{G:Operand}{x S:Code}{e:Bool}{cm lX:Prop}(l:c=.cond G x S)(h:if e=true then cm else lX)(U:ad n f G=.bool e)(F:e=true→cm→x.wp P Q (act n f aG) w)(aB:e=false→lX→S.wp P Q (act n f aG) w):c.wp P Q (act n f aG) w:=by
 subst l; exact Ms U h F aB
theorem ald{G:Operand}{x S:Code}(l:c=.cond G x S)(U:ad n f G=.bool false)(h:S.wp P Q (act n f aG) w):c.wp P Q (act n f aG) w:=by
 subst l; exact aJj U h
theorem alg{G:Operand}{x S:Code}(l:c=.cond G x S)(U:ad n f G=.bool true)(h:x.wp P Q (act n f aG) w):c.wp P Q (act n f aG) w:=by
 subst l; exact aJk U h
theorem alb(l:c=.skip)(h:Q .normal (act n f aG) w):c.wp P Q (act n f aG) w:=by
 subst l; exact wp_skip h
theorem alc{m:Nat}(l:c=.label m)(h:Q .normal (act n f aG) w):c.wp P Q (act n f aG) w:=by
 subst l; exact wp_label h
theorem ak9{m:Nat}(l:c=.exit m)(h:Q (.exit m) (act n f aG) w):c.wp P Q (act n f aG) w:=by
 subst l; exact wp_exit h
theorem Gt(l:c=.ret)(h:Q .ret (act n f aG) w):c.wp P Q (act n f aG) w:=by
 subst l; exact wp_ret h
theorem ak8{id:Nat}{x:Code}(l:c=.block id x)(h:x.wp P (Exit.inBlock id Q) (act n f aG) w):c.wp P Q (act n f aG) w:=by
 subst l; exact wp_block h
theorem ale{x:Code}(l:c=.scope x)(h:x.wp P (Exit.noGoto Q) (act n f aG) w):c.wp P Q (act n f aG) w:=by
 subst l; exact wp_scope_straight h
theorem iz{bC:Type}(k:Nat)(eM:bC→World→Prop)(dp:(Nat→Value)→bC→Nat→Value):∀ ⦃P:Program⦄ ⦃Q:Exit→Act→World→Prop⦄ ⦃n:Nat⦄ ⦃f:Nat→Value⦄ ⦃aG:List Deferred⦄ ⦃w:World⦄ ⦃c x S:Code⦄,c=.seq x S→ag S=k →
  x.wp P (Exit.then (fun a w=>∃ s g,a=act n (dp g s) aG∧eM s w) Q) (act n f aG) w→(∀ s g w,eM s w→S.wp P Q (act n (dp g s) aG) w)→c.wp P Q (act n f aG) w:=by
 intro P Q n f aG w c x S l _ F bT;subst l; exact vQ bT F
theorem hJ{bC:Type}(k:Nat)(body:bC→World→(bC→World→Prop)→Prop)(dp:(Nat→Value)→bC→Nat→Value):∀ ⦃P:Program⦄ ⦃Q:Exit→Act→World→Prop⦄ ⦃n:Nat⦄ ⦃f:Nat→Value⦄ ⦃aG:List Deferred⦄ ⦃w:World⦄ ⦃c x:Code⦄ ⦃lI:bC⦄,c=.loop x→ag x=k→fh body lI w→dp f lI=f →
  (∀ (s:bC) (g:Nat→Value) (w:World) (ab:bC→World→Prop),body s w ab→x.wp P (Exit.then (fun cv J=>∃ fO cP,cv=act n (dp cP fO) aG∧ab fO J) Q) (act n (dp g s) aG) w)→c.wp P Q (act n f aG) w:=by
 intro P Q n f aG w c x lI l _ h am ao;subst l; exact rE am h ao
theorem sb{bC:Type}(c0 c4:List Nat)(eM:bC→World→Prop)(dp:(Nat→Value)→bC→Nat→Value):∀ ⦃P:Program⦄ ⦃Q:Exit→Act→World→Prop⦄ ⦃n:Nat⦄ ⦃f:Nat→Value⦄ ⦃aG:List Deferred⦄ ⦃w:World⦄ ⦃ops:Array Oper⦄ ⦃m:List Nat⦄,m=c0++c4 →
  du P ops (Exit.then (fun a w=>∃ s g,a=act n (dp g s) aG∧eM s w) Q) c0 (act n f aG) w→(∀ s g w,eM s w→du P ops Q c4 (act n (dp g s) aG) w)→du P ops Q m (act n f aG) w:=by
 intro P Q n f aG w ops m l F bT;subst l; exact mT c0 c4 bT F
section
variable {bC:Type}
theorem akG{eM:Unit→Prop}{dp:(Nat→Value)→Unit→Nat→Value}(h:eM ())(am:dp f ()=f):∃ s g,act n f aG=act n (dp g s) aG∧eM s:=⟨(),f,aX am,h⟩
theorem akH{eM:bC→Prop}{dp:(Nat→Value)→bC→Nat→Value}{a:bC}(h:eM a)(am:dp f a=f):∃ s g,act n f aG=act n (dp g s) aG∧eM s:=⟨a,f,aX am,h⟩
end
theorem akI{aQ aV:Type}{eM:aQ×aV→Prop}{dp:(Nat→Value)→aQ×aV→Nat→Value}{a:aQ}{e:aV}(h:eM (a,e))(am:dp f (a,e)=f):∃ s g,act n f aG=act n (dp g s) aG∧eM s:=⟨_,f,aX am,h⟩
theorem akJ{aQ aV C:Type}{eM:aQ×aV×C→Prop}{dp:(Nat→Value)→aQ×aV×C→Nat→Value}{a:aQ}{e:aV}{c:C}(h:eM (a,e,c))(am:dp f (a,e,c)=f):∃ s g,act n f aG=act n (dp g s) aG∧eM s:=⟨_,f,aX am,h⟩
theorem akK{aQ aV C K:Type}{eM:aQ×aV×C×K→Prop}{dp:(Nat→Value)→aQ×aV×C×K→Nat→Value}{a:aQ}{e:aV}{c:C}{d:K}(h:eM (a,e,c,d))(am:dp f (a,e,c,d)=f):∃ s g,act n f aG=act n (dp g s) aG∧eM s:=⟨_,f,aX am,h⟩
theorem akL{aQ aV C K qW:Type}{eM:aQ×aV×C×K×qW→Prop}{dp:(Nat→Value)→aQ×aV×C×K×qW→Nat→Value}{a:aQ}{e:aV}{c:C}{d:K}{l:qW}(h:eM (a,e,c,d,l))(am:dp f (a,e,c,d,l)=f):∃ s g,act n f aG=act n (dp g s) aG∧eM s:=⟨_,f,aX am,h⟩
theorem akM{aQ aV C K qW aW:Type}{eM:aQ×aV×C×K×qW×aW→Prop}{dp:(Nat→Value)→aQ×aV×C×K×qW×aW→Nat→Value}{a:aQ}{e:aV}{c:C}{d:K}{l:qW}{u:aW}(h:eM (a,e,c,d,l,u))(am:dp f (a,e,c,d,l,u)=f):∃ s g,act n f aG=act n (dp g s) aG∧eM s:=⟨_,f,aX am,h⟩
theorem aGV{fn:Func}{ab:Unit→World→Prop}(h:ab () w)(aa:fn.results=#[]):bodyPost P fn (Bg eh ab) .ret (act n f []) w:=om (an:=[]) aa .nil ⟨(),rfl,h⟩
theorem amW{fn:Func}{ab:Unit→World→Prop}(h:ab () w)(aa:fn.results=#[]):bodyPost P fn (Bg eh ab) .normal (act n f []) w:=YR (an:=[]) aa .nil ⟨(),rfl,h⟩
theorem aGW{Z:Type}{T:bz Z}{ab:Z→World→Prop}{r:Z}{fn:Func}{t u v x:Nat}(h:ab r w)(aa:fn.results=[ResultVar.tmp t,.tmp u,.tmp v,.tmp x].toArray)(he:Value.tuple #[ad n f (.tmp t),ad n f (.tmp u),ad n f (.tmp v),ad n f (.tmp x)]=T.enc r):bodyPost P fn (Bg T ab) .ret (act n f []) w:=
 om aa (.cons (.tmp rfl) (.cons (.tmp rfl) (.cons (.tmp rfl) (.cons (.tmp rfl) .nil)))) ⟨r,he,h⟩
section
variable {i k:Nat} {m rest:List Nat} {G:Oper} {az:Prop}
theorem D1{Z:Type}{C ab:Z→Prop}(h:ex C ab)(U:∀ x,C x→ab x→az):az:=by
 obtain⟨x,I,R⟩:=h;exact U x I R
theorem D2{Z:Type}{C ab:Z→Prop}(h:ex C ab)(U:∀ x,C x→ab x→du P ops Q m (act n f aG) w):du P ops Q m (act n f aG) w:=D1 h U
theorem aod{Z:Type}{T:bz Z}{ab:Z→Prop}{a:Addr}{t:TypeId}{s:Nat}{x:Operand}(ay:HH ops i=some (t,x,k))(ok:cE P t T s)(h:ex (L T a w) ab)(F:ad n f x=.pointer (some a))
  (U:∀ u,L T a w u→ab u→du P ops Q rest (act n (ae f k (T.enc u)) aG) w):du P ops Q (i::rest) (act n f aG) w:=gQ ok h ay F U
theorem aoe{ab:Addr→Prop}{p:Option Addr}{x:Operand}(ay:Rp ops i=some (x,k))(h:ex (bM p) ab)(F:ad n f x=.pointer p)
  (U:∀ a,bM p a→ab a→du P ops Q rest (act n (ae f k (.pointer (some a))) aG) w):du P ops Q (i::rest) (act n f aG) w:=JM h ay F U
theorem aob{Z:Type}{T:bz Z}{ab:Addr→World→Prop}{t:TypeId}{s av:Nat}{u:Z}(ay:Oo ops i=some (t,k))(ok:cE P t T s)(vk:∃ i,P.info? t=some i∧i.zero=some (T.enc u)∧i.size=s∧i.bytes=av)(h:bQ t T u w ab)
  (U:∀ a J,ab a J→du P ops Q rest (act n (ae f k (.pointer (some a))) aG) J):du P ops Q (i::rest) (act n f aG) w:=oJ ok vk h ay U
theorem aof{Z:Type}{T:bz Z}{ab:World→Prop}{t:TypeId}{s:Nat}{x S:Operand}{a:Addr}{u:Z}(ay:SU ops i=some (t,x,S))(ok:cE P t T s)(h:bi T a u w ab)(F:ad n f x=.pointer (some a))(aB:ad n f S=T.enc u)
  (U:∀ J,ab J→du P ops Q rest (act n f aG) J):du P ops Q (i::rest) (act n f aG) w:=jp ok h ay F aB U
theorem aoc{Z:Type}{T:bz Z}{D:FuncId}{lz:List Operand}{nW:Array TypeId}{m:List Value}{d:Option Nat}{ab:Z→World→Prop}(I:nP ops i=some (.call { callee:=.value (.func D),args:=lz.toArray,argTypes:=nW },none,d))(he:dj P D)(h:M P D m T w ab)
  (Y:lz.map (ad n f)=m) (aq:∀ r J,ab r J→du P ops Q rest (act n (hx f d (T.enc r)) aG) J):du P ops Q (i::rest) (act n f aG) w:=ew he I Y h aq
theorem aIf(l:m=[])(h:Q .normal (act n f aG) w):du P ops Q m (act n f aG) w:=by
 subst l; exact aU h
theorem afi{v:Value}(ay:ops.toList[i]?=some G)(O:G.guard=none)(ag:G.dst=some k)(aL:(execOp (ad n f) G).run P w=.ok (.value v) w)
  (h:du P ops Q rest (act n (ae f k v) aG) w):du P ops Q (i::rest) (act n f aG) w:=aP k ay O ag aL h
theorem AN{v:Value}{g:Bool}(ay:ops.toList[i]?=some G)(O:tD n ops f G g)(ag:G.dst=some k)(aL:g=true→(execOp (ad n f) G).run P w=.ok (.value v) w)
  (h:du P ops Q rest (act n (ae f k (mO g v)) aG) w):du P ops Q (i::rest) (act n f aG) w:=bn (d:=some k) ay O ag aL h
theorem vV{v:Value}(ay:ops.toList[i]?=some G)(al:uO n ops f G)(ag:G.dst=some k)(aL:(execOp (ad n f) G).run P w=.ok (.value v) J)
  (h:du P ops Q rest (act n (ae f k v) aG) J):du P ops Q (i::rest) (act n f aG) w:=eg (d:=some k) ay al ag aL h
theorem p6{e:Bool}{cm lX:Prop}(h:if e=true then cm else lX)(F:oy (e=true)→cm→du P ops Q m (act n f aG) w)(aB:oy (e=false)→lX→du P ops Q m (act n f aG) w):du P ops Q m (act n f aG) w:=
 iJ h (fun l=>F ⟨l⟩) fun l=>aB ⟨l⟩
def ZJ(ops:Array Oper)(i:Nat):Nat:=match ops.toList[i]? with
 |some G=>match G.guard with
  |none=>0
  |some (_,true)=>1
  |some (_,false)=>2
 |none=>3
def S7(ops:Array Oper)(i:Nat):Nat:=match ops.toList[i]? with
 |some G=>aft G.op
 |none=>99
theorem QN(k:Nat)(l:ZJ ops i=k)(h:du P ops Q (i::rest) (act n f aG) w):du P ops Q (i::rest) (act n f aG) w:=h
theorem pW(k:Nat)(l:S7 ops i=k)(h:du P ops Q (i::rest) (act n f aG) w):du P ops Q (i::rest) (act n f aG) w:=h
theorem aGn{D d:Nat}{c tS:Bool}{cm lX:Prop}(ay:ops.toList[i]?=some G)(O:G.guard=some (D,tS))(bT:(ops[D]?).bind (·.dst)=some d)(aL:ad n f (.tmp d)=.bool c)(h:if c=true then cm else lX)
  (F:oy (c=true)→cm→du P ops Q (i::rest) (act n f aG) w) (aB:oy (c=false)→lX→du P ops Q (i::rest) (act n f aG) w):du P ops Q (i::rest) (act n f aG) w:=
 iJ h (fun l=>F ⟨l⟩) fun l=>aB ⟨l⟩
theorem aJP{t:TypeId}{D off:Nat}{x:Operand}{a:Addr}(I:nP ops i=some (.fieldAddr t x D,none,some k))[am:N7 P t D off](F:ad n f x=.pointer (some a))(h:du P ops Q rest (act n (ae f k (.pointer (some (a.add off)))) aG) w):du P ops Q (i::rest) (act n f aG) w:=by
 obtain⟨G,aj,aF,O,ag⟩:=tm I;exact aP k aj O ag (Sj aF F) h
theorem afh{v:Value}{D d:Nat}{e c:Bool}(ay:ops.toList[i]?=some G)(O:G.guard=some (D,e))(bT:(ops[D]?).bind (·.dst)=some d)(Hk:ad n f (.tmp d)=.bool c)(Y:oy (c=e))(ag:G.dst=some k)(aL:(execOp (ad n f) G).run P w=.ok (.value v) w)
  (h:du P ops Q rest (act n (ae f k v) aG) w):du P ops Q (i::rest) (act n f aG) w:=eg (d:=some k) ay (.av D e d c O bT Hk Y.it) ag aL h
theorem aIi{D d:Nat}{e c:Bool}(ay:ops.toList[i]?=some G)(O:G.guard=some (D,e))(bT:(ops[D]?).bind (·.dst)=some d)(aL:ad n f (.tmp d)=.bool c)(Y:oy (c=!e))(h:du P ops Q rest (act n (hx f G.dst undef) aG) w):du P ops Q (i::rest) (act n f aG) w:=
 da ay (.av D e d c O bT aL Y.it) rfl h
theorem aIh{D d:Nat}{e:Bool}(ay:ops.toList[i]?=some G)(O:G.guard=some (D,e))(bT:(ops[D]?).bind (·.dst)=some d)(aL:ad n f (.tmp d)=undef)(h:du P ops Q rest (act n (hx f G.dst undef) aG) w):du P ops Q (i::rest) (act n f aG) w:=
 da ay (.undef D e d O bT aL) rfl h
end
end
inductive zH where
 |l
 |c (i:Nat) (r:zH)
 |e (i D:Nat) (r s:zH)
 |d (i D k:Nat) (r s t:zH)
def dJ:List Nat→zH→zH
 |[],G=>G
 |i::m,G=>.c i (dJ m G)
def hs(_:zH)(P:Program)(ops:Array Oper)(Q:Exit→Act→World→Prop)(az:List (Nat×(World→Prop)))(o:Nat)(bW:Array Bool)(a:Act)(w:World):Prop:=ht P ops Q az o bW a w
section
variable {P:Program} {Q:Exit→Act→World→Prop} {n i k o:Nat} {f:Nat→Value} {aG:List Deferred} {w J:World} {ops:Array Oper} {hL r s t:zH} {bW:Array Bool} {az:List (Nat×(World→Prop))} {G:Oper} {v:Value}
theorem asG(h:hs hL P ops Q az o bW (act n f aG) w):hs hL P ops Q az o bW (act n f aG) w:=h
theorem aA8{ab:Act→World→Prop}(h:mJ P ops Q i ab (act n f aG) w):mJ P ops Q i ab (act n f aG) w:=h
theorem Cw{ab:Act→World→Prop}(k:Nat)(l:S7 ops i=k)(h:mJ P ops Q i ab (act n f aG) w):mJ P ops Q i ab (act n f aG) w:=h
theorem eI(k:Nat)(hL:zH):∀ ⦃P:Program⦄ ⦃Q:Exit→Act→World→Prop⦄ ⦃n:Nat⦄ ⦃f:Nat→Value⦄ ⦃aG:List Deferred⦄ ⦃w:World⦄ ⦃c:Code⦄ ⦃id o:Nat⦄ ⦃ops:Array Oper⦄ ⦃ab:World→Prop⦄,c=.region id ops true→id+1=k→dw w ab→P.follows .mixedOrders=true→ops.size=o→Region.noSelect ops=true →
  (∀ c a d v w,Q (.panic c) (Act.put a d v) w→Q (.panic c) a w)→(∀ w,ab w→lQ ops Q→hs hL P ops Q [] o (Array.replicate o false) (act n f aG) w)→c.wp P Q (act n f aG) w:=by
 intro P Q n f aG w c id o ops ab l _ h hm al aH en U;subst l;obtain⟨J,hw,h⟩:=n9 h;exact o2 o hm al aH en hw fun ai=>U J h ai
theorem ji{Z:Type}{C ab:Z→Prop}(h:ex C ab)(U:∀ x,C x→ab x→hs hL P ops Q az o bW (act n f aG) w):hs hL P ops Q az o bW (act n f aG) w:=by
 obtain⟨x,I,R⟩:=h;exact U x I R
theorem QZ(k:Nat)(l:hL=.c i r)(aq:ZJ ops i=k)(h:hs (.c i r) P ops Q az o bW (act n f aG) w):hs hL P ops Q az o bW (act n f aG) w:=h
theorem aBN(k:Nat)(aq:S7 ops i=k)(h:hs (.c i r) P ops Q az o bW (act n f aG) w):hs (.c i r) P ops Q az o bW (act n f aG) w:=h
theorem aJA(l:hL=.l)(h:Q .normal (act n f aG) w)(aa:Region.ready .any ops bW=[]):hs hL P ops Q az o bW (act n f aG) w:=kM aa h
theorem age(l:hL=.c i r)(ay:ops.toList[i]?=some G)(O:G.guard=none)(ag:G.dst=some k)(ai:lQ ops Q)(aL:∀ w,(execOp (ad n f) G).run P w=.ok (.value v) w)(h:hs r P ops Q az o (bW.setIfInBounds i true) (act n (ae f k v) aG) w)
  (am:Region.free .any ops bW i=true) (aa:(Region.ready .any ops bW).contains i=true):hs hL P ops Q az (o+1) bW (act n f aG) w:=fl i k ai ay O ag aL h am aa
theorem aJD{Z:Type}{T:bz Z}{a:Addr}{t ar:Nat}{x:Operand}{ab:Z→Prop}(l:hL=.c i r)(al:HH ops i=some (t,x,k))[ok:cf P t T ar](h:ex (L T a w) ab)(ai:lQ ops Q)(F:ad n f x=.pointer (some a))(am:Region.free .any ops bW i=true)(aa:(Region.ready .any ops bW).contains i=true)
  (U:∀ u,L T a w u→ab u→hs r P ops Q ((i,fun A=>L T a A u)::az) o (bW.setIfInBounds i true) (act n (ae f k (T.enc u)) aG) w):hs hL P ops Q az (o+1) bW (act n f aG) w:=by
 obtain⟨u,hu,cg⟩:=h;unfold HH at al;cases aj:ops.toList[i]? with
 |none=>rw[aj] at al; cases al
 |some G=>
  rw[aj] at al;simp only at al;split at al
  ·rename_i S gf tr aS bb dn;cases al;exact tq (d:=some _) (fun A=>L T a A u) ai am aa aj (.free bb) dn (fun A aa=>hM aS ok.out F aa) hu (U u hu cg)
  ·cases al
theorem agf{D d:Nat}{e c:Bool}(l:hL=.c i r)(ay:ops.toList[i]?=some G)(O:G.guard=some (D,e))(bT:(ops[D]?).bind (·.dst)=some d)(Hk:ad n f (.tmp d)=.bool c)(Y:oy (c=e))(ag:G.dst=some k)(ai:lQ ops Q)(aL:∀ w,(execOp (ad n f) G).run P w=.ok (.value v) w)(h:hs r P ops Q az o (bW.setIfInBounds i true) (act n (ae f k v) aG) w)
  (am:Region.free .any ops bW i=true) (aa:(Region.ready .any ops bW).contains i=true):hs hL P ops Q az (o+1) bW (act n f aG) w:=e5 (d:=some k) ai am aa ay (.av D e d c O bT Hk Y.it) ag aL h
theorem Mz{W:World→Prop}(ff:W w)(l:hL=.c i r)(ay:ops.toList[i]?=some G)(O:G.guard=none)(ag:G.dst=some k)(ai:lQ ops Q)(aL:∀ w,W w→(execOp (ad n f) G).run P w=.ok (.value v) w)(h:hs r P ops Q ((i,W)::az) o (bW.setIfInBounds i true) (act n (ae f k v) aG) w)
  (am:Region.free .any ops bW i=true) (aa:(Region.ready .any ops bW).contains i=true):hs hL P ops Q az (o+1) bW (act n f aG) w:=tq (d:=some k) W ai am aa ay (.free O) ag aL ff h
theorem IN{W:World→Prop}{D d:Nat}{e c:Bool}(ff:W w)(l:hL=.c i r)(ay:ops.toList[i]?=some G)(O:G.guard=some (D,e))(bT:(ops[D]?).bind (·.dst)=some d)(Hk:ad n f (.tmp d)=.bool c)(Y:oy (c=e))(ag:G.dst=some k)(ai:lQ ops Q)(aL:∀ w,W w→(execOp (ad n f) G).run P w=.ok (.value v) w)(h:hs r P ops Q ((i,W)::az) o (bW.setIfInBounds i true) (act n (ae f k v) aG) w)
  (am:Region.free .any ops bW i=true) (aa:(Region.ready .any ops bW).contains i=true):hs hL P ops Q az (o+1) bW (act n f aG) w:=tq (d:=some k) W ai am aa ay (.av D e d c O bT Hk Y.it) ag aL ff h
theorem aJG{D d:Nat}{e c:Bool}(l:hL=.c i r)(ay:ops.toList[i]?=some G)(O:G.guard=some (D,e))(bT:(ops[D]?).bind (·.dst)=some d)(aL:ad n f (.tmp d)=.bool c)(Y:oy (c=!e))(ai:lQ ops Q)(h:hs r P ops Q az o (bW.setIfInBounds i true) (act n (hx f G.dst undef) aG) w)
  (am:Region.free .any ops bW i=true) (aa:(Region.ready .any ops bW).contains i=true):hs hL P ops Q az (o+1) bW (act n f aG) w:=Sz ai am aa ay (.av D e d c O bT aL Y.it) rfl h
theorem aJF{D d:Nat}{e:Bool}(l:hL=.c i r)(ay:ops.toList[i]?=some G)(O:G.guard=some (D,e))(bT:(ops[D]?).bind (·.dst)=some d)(aL:ad n f (.tmp d)=undef)(ai:lQ ops Q)(h:hs r P ops Q az o (bW.setIfInBounds i true) (act n (hx f G.dst undef) aG) w)
  (am:Region.free .any ops bW i=true) (aa:(Region.ready .any ops bW).contains i=true):hs hL P ops Q az (o+1) bW (act n f aG) w:=Sz ai am aa ay (.undef D e d O bT aL) rfl h
theorem A0{g:Bool}(l:hL=.c i r)(ay:ops.toList[i]?=some G)(O:tD n ops f G g)(ag:G.dst=some k)(ai:lQ ops Q)(aL:g=true→∀ w,(execOp (ad n f) G).run P w=.ok (.value v) w)(h:hs r P ops Q az o (bW.setIfInBounds i true) (act n (ae f k (mO g v)) aG) w)
  (am:Region.free .any ops bW i=true) (aa:(Region.ready .any ops bW).contains i=true):hs hL P ops Q az (o+1) bW (act n f aG) w:=SA (d:=some k) ai am aa ay O ag aL h
theorem ov{g:Bool}{W:World→Prop}(ff:g=true→W w)(l:hL=.c i r)(ay:ops.toList[i]?=some G)(O:tD n ops f G g)(ag:G.dst=some k)(ai:lQ ops Q)(aL:g=true→∀ w,W w→(execOp (ad n f) G).run P w=.ok (.value v) w)(h:hs r P ops Q ((i,fun w=>g=true→W w)::az) o (bW.setIfInBounds i true) (act n (ae f k (mO g v)) aG) w)
  (am:Region.free .any ops bW i=true) (aa:(Region.ready .any ops bW).contains i=true):hs hL P ops Q az (o+1) bW (act n f aG) w:=aGr (d:=some k) W ai am aa ay O ag aL ff h
theorem aJE(l:hL=.c i r)(h:mJ P ops Q i (fun cv J=>(∀ x∈az,waits ops i x.1=false→x.2 w→x.2 J)∧hs r P ops Q az o (bW.setIfInBounds i true) cv J) (act n f aG) w)(aa:Region.ready .any ops bW=[i]):hs hL P ops Q az (o+1) bW (act n f aG) w:=fq aa h
theorem aJy{D:Nat}{aQ aV:Prop}(l:hL=.e i D r s)(h:sT aQ aV)(I:aQ→mJ P ops Q i (fun cv J=>(∀ x∈az,waits ops i x.1=false→x.2 w→x.2 J)∧hs r P ops Q az o (bW.setIfInBounds i true) cv J) (act n f aG) w)
  (R:aV→mJ P ops Q D (fun cv J=>(∀ x∈az,waits ops D x.1=false→x.2 w→x.2 J)∧hs s P ops Q az o (bW.setIfInBounds D true) cv J) (act n f aG) w) (aa:Region.ready .any ops bW=[i,D]):hs hL P ops Q az (o+1) bW (act n f aG) w:=aev aa (I h.1) (R h.2)
theorem aJz{D m:Nat}{aQ aV C:Prop}(l:hL=.d i D m r s t)(h:sT aQ (sT aV C))(I:aQ→mJ P ops Q i (fun cv J=>(∀ x∈az,waits ops i x.1=false→x.2 w→x.2 J)∧hs r P ops Q az o (bW.setIfInBounds i true) cv J) (act n f aG) w)
  (R:aV→mJ P ops Q D (fun cv J=>(∀ x∈az,waits ops D x.1=false→x.2 w→x.2 J)∧hs s P ops Q az o (bW.setIfInBounds D true) cv J) (act n f aG) w)
  (aK:C→mJ P ops Q m (fun cv J=>(∀ x∈az,waits ops m x.1=false→x.2 w→x.2 J)∧hs t P ops Q az o (bW.setIfInBounds m true) cv J) (act n f aG) w) (aa:Region.ready .any ops bW=[i,D,m]):hs hL P ops Q az (o+1) bW (act n f aG) w:=aGs aa (I h.1) (R h.2.1) (aK h.2.2)
theorem aJC{D d:Nat}{c tS:Bool}{cm lX:Prop}(l:hL=.c i r)(ay:ops.toList[i]?=some G)(O:G.guard=some (D,tS))(bT:(ops[D]?).bind (·.dst)=some d)(aL:ad n f (.tmp d)=.bool c)(h:if c=true then cm else lX)
  (F:oy (c=true)→cm→hs hL P ops Q az o bW (act n f aG) w) (aB:oy (c=false)→lX→hs hL P ops Q az o bW (act n f aG) w):hs hL P ops Q az o bW (act n f aG) w:=
 iJ h (fun l=>F ⟨l⟩) fun l=>aB ⟨l⟩
theorem aJB{e:Bool}{cm lX:Prop}(h:if e=true then cm else lX)(F:oy (e=true)→cm→hs hL P ops Q az o bW (act n f aG) w)(aB:oy (e=false)→lX→hs hL P ops Q az o bW (act n f aG) w):hs hL P ops Q az o bW (act n f aG) w:=
 iJ h (fun l=>F ⟨l⟩) fun l=>aB ⟨l⟩
section
variable {D:Nat} {W:World→Prop} {cm:Prop}
theorem asH(h:(∀ x∈az,waits ops D x.1=false→x.2 w→x.2 J)∧cm):(∀ x∈az,waits ops D x.1=false→x.2 w→x.2 J)∧cm:=h
theorem aBY(h:cm):(∀ x∈([]:List (Nat×(World→Prop))),waits ops D x.1=false→x.2 w→x.2 J)∧cm:=⟨h9,h⟩
theorem aBZ(h:(∀ x∈az,waits ops D x.1=false→x.2 w→x.2 J)∧cm)(hw:waits ops D i=true):(∀ x∈(i,W)::az,waits ops D x.1=false→x.2 w→x.2 J)∧cm:=⟨hA hw h.1,h.2⟩
theorem Ce(aH:W w→W J)(h:(∀ x∈az,waits ops D x.1=false→x.2 w→x.2 J)∧cm):(∀ x∈(i,W)::az,waits ops D x.1=false→x.2 w→x.2 J)∧cm:=⟨fc aH h.1,h.2⟩
theorem aBX{aQ aV:Prop}(h:bG aQ aV)(U:aQ→aV→(∀ x∈az,waits ops D x.1=false→x.2 w→x.2 J)∧cm):(∀ x∈az,waits ops D x.1=false→x.2 w→x.2 J)∧cm:=U h.1 h.2
end
end
structure kU where
 hQ:Int
 gP:Nat
 lc:Nat
 jQ:Int
def kU.cells(x:kU):List Value:=[.int .i64 (x.hQ),.float .f64 (x.gP),.float .f64 (x.lc),.int .i64 (x.jQ)]
@[reducible] def hr:bz kU:=ig kU.cells
@[reducible] def Xq:kU:=⟨(0:Int),(0:Nat),(0:Nat),(0:Int)⟩
structure mK where
 aD:Int
 fR:Int
 fL:Int
 b:Int
def mK.cells(x:mK):List Value:=[.int .i64 (x.aD),.int .i64 (x.fR),.int .i64 (x.fL),.int .i64 (x.b)]
@[reducible] def gz:bz mK:=ig mK.cells
@[reducible] def Bs:mK:=⟨(0:Int),(0:Int),(0:Int),(0:Int)⟩
structure oB where
 Kind:Int
 aQ:Int
 aV:Int
 b:Int
 cm:mK
 N:af
 gO:af
def oB.cells(x:oB):List Value:=[.int .i64 (x.Kind),.int .i64 (x.aQ),.int .i64 (x.aV),.int .i64 (x.b)]++(mK.cells (x.cm)++([X.enc (x.N),X.enc (x.gO)]))
@[reducible] def h1:bz oB:=ig oB.cells
@[reducible] def Bt:oB:=⟨(0:Int),(0:Int),(0:Int),(0:Int),Bs,(⟨none,0,0⟩:af),(⟨none,0,0⟩:af)⟩
structure bk where
 aD:Int
 oz:Int
 b9:Int
def bk.cells(x:bk):List Value:=[.int .i64 (x.aD),.int .i64 (x.oz),.int .i64 (x.b9)]
@[reducible] def kB:bz bk:=ig bk.cells
@[reducible] def aki:bk:=⟨(0:Int),(0:Int),(0:Int)⟩
structure iO where
 aD:Int
 cl:Int
 b:Int
 ir:Bool
def iO.cells(x:iO):List Value:=[.int .i64 (x.aD),.int .i64 (x.cl),.int .i64 (x.b),.bool (x.ir)]
@[reducible] def hd:bz iO:=ig iO.cells
@[reducible] def zO:iO:=⟨(0:Int),(0:Int),(0:Int),false⟩
structure iE where
 Kind:Int
 Part:iO
 j5:Bool
 b9:Int
def iE.cells(x:iE):List Value:=[.int .i64 (x.Kind)]++(iO.cells (x.Part)++([.bool (x.j5),.int .i64 (x.b9)]))
@[reducible] def eW:bz iE:=ig iE.cells
@[reducible] def uU:iE:=⟨(0:Int),zO,false,(0:Int)⟩
structure hc where
 aD:Int
 fR:Int
 fL:Int
 y:iE
def hc.cells(x:hc):List Value:=[.int .i64 (x.aD),.int .i64 (x.fR),.int .i64 (x.fL)]++(iE.cells (x.y))
@[reducible] def eQ:bz hc:=ig hc.cells
@[reducible] def lw:hc:=⟨(0:Int),(0:Int),(0:Int),uU⟩
structure m6 where
 aHc:aN
def m6.cells(x:m6):List Value:=[.pointer (x.aHc)]
@[reducible] def dG:bz m6:=ig m6.cells
@[reducible] def Xt:m6:=⟨(none:Option Addr)⟩
structure tL where
 aEI:m6
 eR:Nat
 fQ:Int
 held:(Option Nat)
 busy:(Option Nat)
 ee:(Option Nat)
def tL.cells(x:tL):List Value:=m6.cells (x.aEI)++([.float .f64 (x.eR),.int .i64 (x.fQ),.map (x.held),.map (x.busy),.map (x.ee)])
@[reducible] def Bq:bz tL:=ig tL.cells
@[reducible] def akj:tL:=⟨Xt,(0:Nat),(0:Int),(none:Option Nat),(none:Option Nat),(none:Option Nat)⟩
structure mL where
 wa:Int
 N:af
def mL.cells(x:mL):List Value:=[.int .i64 (x.wa),X.enc (x.N)]
@[reducible] def qj:bz mL:=ig mL.cells
@[reducible] def Xu:mL:=⟨(0:Int),(⟨none,0,0⟩:af)⟩
structure fK where
 Key:Int
 V:Int
def fK.cells(x:fK):List Value:=[.int .i64 (x.Key),.int .i64 (x.V)]
@[reducible] def h2:bz fK:=ig fK.cells
@[reducible] def DA:fK:=⟨(0:Int),(0:Int)⟩
structure uR where
 clock:aN
 cO:Int
 Gy:aN
 source:aN
 aHv:aN
 log:aN
 aFc:(Option Nat)
 sure:(Option Nat)
 out:af
def uR.cells(x:uR):List Value:=[.pointer (x.clock),.int .i64 (x.cO),.pointer (x.Gy),.pointer (x.source),.pointer (x.aHv),.pointer (x.log),.map (x.aFc),.map (x.sure),X.enc (x.out)]
@[reducible] def Bi:bz uR:=ig uR.cells
@[reducible] def aj6:uR:=⟨(none:Option Addr),(0:Int),(none:Option Addr),(none:Option Addr),(none:Option Addr),(none:Option Addr),(none:Option Nat),(none:Option Nat),(⟨none,0,0⟩:af)⟩
structure qZ where
 im:Int
 g5:Int
def qZ.cells(x:qZ):List Value:=[.int .i64 (x.im),.int .i64 (x.g5)]
@[reducible] def lV:bz qZ:=ig qZ.cells
@[reducible] def n1:qZ:=⟨(0:Int),(0:Int)⟩
structure rS where
 eH:kU
 now:Int
 nodes:af
 a2:aN
 known:(Option Nat)
 told:af
def rS.cells(x:rS):List Value:=kU.cells (x.eH)++([.int .i64 (x.now),X.enc (x.nodes),.pointer (x.a2),.map (x.known),X.enc (x.told)])
@[reducible] def Bj:bz rS:=ig rS.cells
@[reducible] def aj7:rS:=⟨Xq,(0:Int),(⟨none,0,0⟩:af),(none:Option Addr),(none:Option Nat),(⟨none,0,0⟩:af)⟩
structure rT where
 Part:iO
 b9:Int
 uN:Int
def rT.cells(x:rT):List Value:=iO.cells (x.Part)++([.int .i64 (x.b9),.int .i64 (x.uN)])
@[reducible] def iQ:bz rT:=ig rT.cells
@[reducible] def q1:rT:=⟨zO,(0:Int),(0:Int)⟩
structure jB where
 g7:Int
 jO:Int
def jB.cells(x:jB):List Value:=[.int .i64 (x.g7),.int .i64 (x.jO)]
@[reducible] def cW:bz jB:=ig jB.cells
@[reducible] def jR:jB:=⟨(0:Int),(0:Int)⟩
structure j3 where
 Kind:Int
 b9:Int
 aD:Int
 cl:Int
 b:Int
 ir:Bool
def j3.cells(x:j3):List Value:=[.int .i64 (x.Kind),.int .i64 (x.b9),.int .i64 (x.aD),.int .i64 (x.cl),.int .i64 (x.b),.bool (x.ir)]
@[reducible] def fY:bz j3:=ig j3.cells
@[reducible] def Dz:j3:=⟨(0:Int),(0:Int),(0:Int),(0:Int),(0:Int),false⟩
structure xJ where
 aj5:aN
 v:aN
def xJ.cells(x:xJ):List Value:=[.pointer (x.aj5),.pointer (x.v)]
@[reducible] def Bk:bz xJ:=ig xJ.cells
@[reducible] def aj8:xJ:=⟨(none:Option Addr),(none:Option Addr)⟩
structure tH where
 ij:Int
 o:iE
def tH.cells(x:tH):List Value:=[.int .i64 (x.ij)]++(iE.cells (x.o))
@[reducible] def ws:bz tH:=ig tH.cells
@[reducible] def Oi:tH:=⟨(0:Int),uU⟩
structure o8 where
def o8.cells(x:o8):List Value:=[]
@[reducible] def fF:bz o8:=ig o8.cells
@[reducible] def q2:o8:=⟨⟩
structure tI where
 at_:Int
 ih:Int
 width:Int
 set:Bool
def tI.cells(x:tI):List Value:=[.int .i64 (x.at_),.int .i64 (x.ih),.int .i64 (x.width),.bool (x.set)]
@[reducible] def Bl:bz tI:=ig tI.cells
@[reducible] def Gd:tI:=⟨(0:Int),(0:Int),(0:Int),false⟩
structure tJ where
 dv:tI
 eR:Nat
 last:Int
 floor:Int
def tJ.cells(x:tJ):List Value:=tI.cells (x.dv)++([.float .f64 (x.eR),.int .i64 (x.last),.int .i64 (x.floor)])
@[reducible] def Bm:bz tJ:=ig tJ.cells
@[reducible] def aj9:tJ:=⟨Gd,(0:Nat),(0:Int),(0:Int)⟩
structure xK where
 nodes:Int
 qI:Int
 m:af
 off:(Option Nat)
def xK.cells(x:xK):List Value:=[.int .i64 (x.nodes),.int .i64 (x.qI),X.enc (x.m),.map (x.off)]
@[reducible] def Ds:bz xK:=ig xK.cells
@[reducible] def aka:xK:=⟨(0:Int),(0:Int),(⟨none,0,0⟩:af),(none:Option Nat)⟩
structure wm where
 c3:af
 lZ:Int
 down:Bool
 et:Int
 bI:af
def wm.cells(x:wm):List Value:=[X.enc (x.c3),.int .i64 (x.lZ),.bool (x.down),.int .i64 (x.et),X.enc (x.bI)]
@[reducible] def Bn:bz wm:=ig wm.cells
@[reducible] def akb:wm:=⟨(⟨none,0,0⟩:af),(0:Int),false,(0:Int),(⟨none,0,0⟩:af)⟩
structure m5 where
 Kind:Int
 dg:Int
 aZ:Int
 aW:Nat
 W:(List UInt8)
def m5.cells(x:m5):List Value:=[.int .i64 (x.Kind),.int .u64 (x.dg),.int .i64 (x.aZ),.float .f64 (x.aW),.string ⟨(x.W).toArray⟩]
@[reducible] def gy:bz m5:=ig m5.cells
@[reducible] def tN:m5:=⟨(0:Int),(0:Int),(0:Int),(0:Nat),([]:List UInt8)⟩
structure lS where
 said:Bool
 b7:Bool
 g5:Int
def lS.cells(x:lS):List Value:=[.bool (x.said),.bool (x.b7),.int .i64 (x.g5)]
@[reducible] def m7:bz lS:=ig lS.cells
@[reducible] def q3:lS:=⟨false,false,(0:Int)⟩
structure sO where
 aJq:mK
 aIU:(Vector lS 2)
 akn:(Vector Bool 2)
 b8:Int
 at_:Int
def sO.cells(x:sO):List Value:=mK.cells (x.aJq)++((x.aIU).toList.flatMap m7.cells++((x.akn).toList.flatMap bo.cells++([.int .i64 (x.b8),.int .i64 (x.at_)])))
@[reducible] def Dt:bz sO:=ig sO.cells
@[reducible] def akc:sO:=⟨Bs,(Vector.replicate 2 q3),(Vector.replicate 2 false),(0:Int),(0:Int)⟩
structure xL where
 als:(Option Nat)
 closed:Int
 mark:Int
def xL.cells(x:xL):List Value:=[.map (x.als),.int .i64 (x.closed),.int .i64 (x.mark)]
@[reducible] def qi:bz xL:=ig xL.cells
@[reducible] def akd:xL:=⟨(none:Option Nat),(0:Int),(0:Int)⟩
structure xM where
 last:Int
def xM.cells(x:xM):List Value:=[.int .i64 (x.last)]
@[reducible] def Du:bz xM:=ig xM.cells
@[reducible] def ake:xM:=⟨(0:Int)⟩
structure sP where
 all:Int
 sure:Int
def sP.cells(x:sP):List Value:=[.int .i64 (x.all),.int .i64 (x.sure)]
@[reducible] def Bo:bz sP:=ig sP.cells
@[reducible] def Xr:sP:=⟨(0:Int),(0:Int)⟩
structure tK where
 counts:sP
 d:aN
 log:Int
 dead:Bool
def tK.cells(x:tK):List Value:=sP.cells (x.counts)++([.pointer (x.d),.int .i64 (x.log),.bool (x.dead)])
@[reducible] def Bp:bz tK:=ig tK.cells
@[reducible] def akf:tK:=⟨Xr,(none:Option Addr),(0:Int),false⟩
structure wo where
 OC:af
 at_:Int
def wo.cells(x:wo):List Value:=[X.enc (x.OC),.int .i64 (x.at_)]
@[reducible] def Dv:bz wo:=ig wo.cells
@[reducible] def akg:wo:=⟨(⟨none,0,0⟩:af),(0:Int)⟩
structure kj where
 amQ:Int
def kj.cells(x:kj):List Value:=[.int .i64 (x.amQ)]
@[reducible] def j4:bz kj:=ig kj.cells
@[reducible] def Ge:kj:=⟨(0:Int)⟩
structure zK where
 OC:af
 sure:Int
def zK.cells(x:zK):List Value:=[X.enc (x.OC),.int .i64 (x.sure)]
@[reducible] def Dw:bz zK:=ig zK.cells
@[reducible] def Xs:zK:=⟨(⟨none,0,0⟩:af),(0:Int)⟩
structure eV where
 b9:Int
 V:Int
def eV.cells(x:eV):List Value:=[.int .i64 (x.b9),.int .i64 (x.V)]
@[reducible] def dR:bz eV:=ig eV.cells
@[reducible] def kD:eV:=⟨(0:Int),(0:Int)⟩
structure xN where
 m:af
 mark:Int
def xN.cells(x:xN):List Value:=[X.enc (x.m),.int .i64 (x.mark)]
@[reducible] def wu:bz xN:=ig xN.cells
@[reducible] def akh:xN:=⟨(⟨none,0,0⟩:af),(0:Int)⟩
theorem aa7:dM Pg 2 (.int .i64 ((0:Int))) 1 8:=dO (by kernel_rfl)
theorem cS:cE Pg 2 (B .i64) 1:=ib aa7 Tryz.underlying2
theorem KF:dM Pg 3 (.int .i64 ((0:Int))) 1 8:=dO (by kernel_rfl)
theorem cU:cE Pg 3 (B .i64) 1:=ib KF Tryz.underlying3
theorem abk:dM Pg 4 (.bool (false)) 1 1:=dO (by kernel_rfl)
theorem oR:cE Pg 4 bo 1:=ib abk Tryz.underlying4
theorem abn:dM Pg 5 (.int .u8 ((0:Int))) 1 1:=dO (by kernel_rfl)
theorem HX:cE Pg 5 (B .u8) 1:=ib abn Tryz.underlying5
theorem aBB:dM Pg 9 (.string ⟨(([]:List UInt8)).toArray⟩) 1 16:=dO (by kernel_rfl)
theorem Lk:cE Pg 9 qN 1:=ib aBB Tryz.underlying9
theorem aBn:dM Pg 22 (.float .f64 ((0:Nat))) 1 8:=dO (by kernel_rfl)
theorem qv:cE Pg 22 g4 1:=ib aBn Tryz.underlying22
theorem abe:dM Pg 24 (hr.enc (Xq)) 4 32:=dO (by kernel_rfl)
theorem aCw(x:kU):(hr.cells x).length=4:=by rfl
theorem acC(x:kU):∀ v∈hr.cells x,v.oneCell'=true:=List.all_eq_true.1 rfl
theorem vD:cE Pg 24 hr 4:=iY abe Tryz.underlying24 aCw acC
theorem aBo:dM Pg 26 (.pointer ((none:Option Addr))) 1 8:=dO (by kernel_rfl)
theorem aDP:cE Pg 26 aE 1:=ib aBo Tryz.underlying26
theorem KG:dM Pg 31 (gz.enc (Bs)) 4 32:=dO (by kernel_rfl)
theorem KR(x:mK):(gz.cells x).length=4:=by rfl
theorem RK(x:mK):∀ v∈gz.cells x,v.oneCell'=true:=List.all_eq_true.1 rfl
theorem y0:cE Pg 31 gz 4:=iY KG Tryz.underlying31 KR RK
theorem aBp:dM Pg 32 (X.enc ((⟨none,0,0⟩:af))) 1 24:=dO (by kernel_rfl)
theorem acm:cE Pg 32 X 1:=ib aBp Tryz.underlying32
theorem aBr:dM Pg 33 (X.enc ((⟨none,0,0⟩:af))) 1 24:=dO (by kernel_rfl)
theorem RF:cE Pg 33 X 1:=ib aBr Tryz.underlying33
theorem abj:dM Pg 35 (h1.enc (Bt)) 10 112:=dO (by kernel_rfl)
theorem Rb(x:oB):(h1.cells x).length=10:=by rfl
theorem aEk(x:oB):∀ v∈h1.cells x,v.oneCell'=true:=by
 show ∀ v∈oB.cells x,v.oneCell'=true
 simp only[oB.cells,List.forall_mem_append,List.forall_mem_cons,List.forall_mem_nil]
 exact⟨⟨rfl,rfl,rfl,rfl,fun _ h=>absurd h (List.not_mem_nil)⟩,RK _,⟨rfl,rfl,fun _ h=>absurd h (List.not_mem_nil)⟩⟩
theorem y1:cE Pg 35 h1 10:=iY abj Tryz.underlying35 Rb aEk
theorem aBs:dM Pg 36 (.pointer ((none:Option Addr))) 1 8:=dO (by kernel_rfl)
theorem aco:cE Pg 36 aE 1:=ib aBs Tryz.underlying36
theorem aBt:dM Pg 38 (.int .i64 ((0:Int))) 1 8:=dO (by kernel_rfl)
theorem sj:cE Pg 38 (B .i64) 1:=ib aBt Tryz.underlying38
theorem QV:dM Pg 43 (.int .i64 ((0:Int))) 1 8:=dO (by kernel_rfl)
theorem xe:cE Pg 43 (B .i64) 1:=ib QV Tryz.underlying43
theorem abl:dM Pg 46 (((qM (B .i64) 60).enc (Vector.replicate 60 (0:Int)))) 60 480:=dO (by kernel_rfl)
theorem aDU:cE Pg 46 (qM (B .i64) 60) 60:=⟨(abl).imp fun _ h=>⟨h.1,h.2.2.1⟩,fun x=>by simp[D5 cU.len],.inl ⟨_,Tryz.underlying46,rfl,fun _=>rfl⟩,fun _=>rfl,fun x v aL=>by obtain⟨S,_,aB⟩:=List.mem_flatMap.1 aL; exact cU.one S v aB⟩
theorem abm:dM Pg 47 (((qM (B .i64) 60).enc (Vector.replicate 60 (0:Int)))) 60 480:=dO (by kernel_rfl)
theorem aDV:cE Pg 47 (qM (B .i64) 60) 60:=⟨(abm).imp fun _ h=>⟨h.1,h.2.2.1⟩,fun x=>by simp[D5 cS.len],.inl ⟨_,Tryz.underlying47,rfl,fun _=>rfl⟩,fun _=>rfl,fun x v aL=>by obtain⟨S,_,aB⟩:=List.mem_flatMap.1 aL; exact cS.one S v aB⟩
theorem aBu:dM Pg 50 (X.enc ((⟨none,0,0⟩:af))) 1 24:=dO (by kernel_rfl)
theorem acp:cE Pg 50 X 1:=ib aBu Tryz.underlying50
theorem QW:dM Pg 53 (kB.enc (aki)) 3 24:=dO (by kernel_rfl)
theorem aCB(x:bk):(kB.cells x).length=3:=by rfl
theorem aEl(x:bk):∀ v∈kB.cells x,v.oneCell'=true:=List.all_eq_true.1 rfl
theorem y2:cE Pg 53 kB 3:=iY QW Tryz.underlying53 aCB aEl
theorem aBv:dM Pg 56 (X.enc ((⟨none,0,0⟩:af))) 1 24:=dO (by kernel_rfl)
theorem acq:cE Pg 56 X 1:=ib aBv Tryz.underlying56
theorem HA:dM Pg 60 (hd.enc (zO)) 4 32:=dO (by kernel_rfl)
theorem KS(x:iO):(hd.cells x).length=4:=by rfl
theorem RL(x:iO):∀ v∈hd.cells x,v.oneCell'=true:=List.all_eq_true.1 rfl
theorem EM:cE Pg 60 hd 4:=iY HA Tryz.underlying60 KS RL
theorem KH:dM Pg 62 (eW.enc (uU)) 7 56:=dO (by kernel_rfl)
theorem KT(x:iE):(eW.cells x).length=7:=by rfl
theorem RM(x:iE):∀ v∈eW.cells x,v.oneCell'=true:=by
 show ∀ v∈iE.cells x,v.oneCell'=true
 simp only[iE.cells,List.forall_mem_append,List.forall_mem_cons,List.forall_mem_nil]
 exact⟨⟨rfl,fun _ h=>absurd h (List.not_mem_nil)⟩,RL _,⟨rfl,rfl,fun _ h=>absurd h (List.not_mem_nil)⟩⟩
theorem EN:cE Pg 62 eW 7:=iY KH Tryz.underlying62 KT RM
theorem KI:dM Pg 64 (eQ.enc (lw)) 10 80:=dO (by kernel_rfl)
theorem w5(x:hc):(eQ.cells x).length=10:=by rfl
theorem aEm(x:hc):∀ v∈eQ.cells x,v.oneCell'=true:=by
 show ∀ v∈hc.cells x,v.oneCell'=true
 simp only[hc.cells,List.forall_mem_append,List.forall_mem_cons,List.forall_mem_nil]
 exact⟨⟨rfl,rfl,rfl,fun _ h=>absurd h (List.not_mem_nil)⟩,RM _⟩
theorem HY:cE Pg 64 eQ 10:=iY KI Tryz.underlying64 w5 aEm
theorem aBw:dM Pg 65 (.pointer ((none:Option Addr))) 1 8:=dO (by kernel_rfl)
theorem acr:cE Pg 65 aE 1:=ib aBw Tryz.underlying65
theorem abo:dM Pg 67 (dG.enc (Xt)) 1 8:=dO (by kernel_rfl)
theorem aCC(x:m6):(dG.cells x).length=1:=by rfl
theorem acD(x:m6):∀ v∈dG.cells x,v.oneCell'=true:=List.all_eq_true.1 rfl
theorem sk:cE Pg 67 dG 1:=iY abo Tryz.underlying67 aCC acD
theorem aBx:dM Pg 68 (.map ((none:Option Nat))) 1 8:=dO (by kernel_rfl)
theorem acs:cE Pg 68 eC 1:=ib aBx Tryz.underlying68
theorem aBy:dM Pg 69 (.map ((none:Option Nat))) 1 8:=dO (by kernel_rfl)
theorem acu:cE Pg 69 eC 1:=ib aBy Tryz.underlying69
theorem aBz:dM Pg 70 (.map ((none:Option Nat))) 1 8:=dO (by kernel_rfl)
theorem acv:cE Pg 70 eC 1:=ib aBz Tryz.underlying70
theorem abp:dM Pg 72 (Bq.enc (akj)) 6 48:=dO (by kernel_rfl)
theorem aCD(x:tL):(Bq.cells x).length=6:=by rfl
theorem aEn(x:tL):∀ v∈Bq.cells x,v.oneCell'=true:=by
 show ∀ v∈tL.cells x,v.oneCell'=true
 simp only[tL.cells,List.forall_mem_append,List.forall_mem_cons,List.forall_mem_nil]
 exact⟨acD _,⟨rfl,rfl,rfl,rfl,rfl,fun _ h=>absurd h (List.not_mem_nil)⟩⟩
theorem aDW:cE Pg 72 Bq 6:=iY abp Tryz.underlying72 aCD aEn
theorem aBA:dM Pg 83 (X.enc ((⟨none,0,0⟩:af))) 1 24:=dO (by kernel_rfl)
theorem EO:cE Pg 83 X 1:=ib aBA Tryz.underlying83
theorem QX:dM Pg 85 (qj.enc (Xu)) 2 32:=dO (by kernel_rfl)
theorem aCE(x:mL):(qj.cells x).length=2:=by rfl
theorem aEo(x:mL):∀ v∈qj.cells x,v.oneCell'=true:=List.all_eq_true.1 rfl
theorem RG:cE Pg 85 qj 2:=iY QX Tryz.underlying85 aCE aEo
theorem QY:dM Pg 87 (h2.enc (DA)) 2 16:=dO (by kernel_rfl)
theorem Rc(x:fK):(h2.cells x).length=2:=by rfl
theorem aEp(x:fK):∀ v∈h2.cells x,v.oneCell'=true:=List.all_eq_true.1 rfl
theorem acw:cE Pg 87 h2 2:=iY QY Tryz.underlying87 Rc aEp
theorem KJ:dM Pg 89 (.pointer ((none:Option Addr))) 1 8:=dO (by kernel_rfl)
theorem RH:cE Pg 89 aE 1:=ib KJ Tryz.underlying89
theorem aBC:dM Pg 92 (.pointer ((none:Option Addr))) 1 8:=dO (by kernel_rfl)
theorem EP:cE Pg 92 aE 1:=ib aBC Tryz.underlying92
theorem aBD:dM Pg 93 (.pointer ((none:Option Addr))) 1 8:=dO (by kernel_rfl)
theorem HZ:cE Pg 93 aE 1:=ib aBD Tryz.underlying93
theorem aBE:dM Pg 94 (.pointer ((none:Option Addr))) 1 8:=dO (by kernel_rfl)
theorem Ll:cE Pg 94 aE 1:=ib aBE Tryz.underlying94
theorem aBF:dM Pg 95 (.pointer ((none:Option Addr))) 1 8:=dO (by kernel_rfl)
theorem EQ:cE Pg 95 aE 1:=ib aBF Tryz.underlying95
theorem aBG:dM Pg 96 (.pointer ((none:Option Addr))) 1 8:=dO (by kernel_rfl)
theorem RI:cE Pg 96 aE 1:=ib aBG Tryz.underlying96
theorem aBH:dM Pg 97 (.map ((none:Option Nat))) 1 8:=dO (by kernel_rfl)
theorem acx:cE Pg 97 eC 1:=ib aBH Tryz.underlying97
theorem aBI:dM Pg 98 (.map ((none:Option Nat))) 1 8:=dO (by kernel_rfl)
theorem Lm:cE Pg 98 eC 1:=ib aBI Tryz.underlying98
theorem aBJ:dM Pg 99 (X.enc ((⟨none,0,0⟩:af))) 1 24:=dO (by kernel_rfl)
theorem acy:cE Pg 99 X 1:=ib aBJ Tryz.underlying99
theorem aaW:dM Pg 101 (Bi.enc (aj6)) 9 88:=dO (by kernel_rfl)
theorem aCj(x:uR):(Bi.cells x).length=9:=by rfl
theorem aDX(x:uR):∀ v∈Bi.cells x,v.oneCell'=true:=List.all_eq_true.1 rfl
theorem acf:cE Pg 101 Bi 9:=iY aaW Tryz.underlying101 aCj aDX
theorem KD:dM Pg 104 (lV.enc (n1)) 2 16:=dO (by kernel_rfl)
theorem HI(x:qZ):(lV.cells x).length=2:=by rfl
theorem aDY(x:qZ):∀ v∈lV.cells x,v.oneCell'=true:=List.all_eq_true.1 rfl
theorem aDB:cE Pg 104 lV 2:=iY KD Tryz.underlying104 HI aDY
theorem aaX:dM Pg 107 ((cw.nil).enc) 1 8:=dO (by kernel_rfl)
theorem aDC:cE Pg 107 gw 1:=⟨(aaX).imp fun _ h=>⟨h.1,h.2.2.1⟩,fun _=>rfl,.inr ⟨_,Tryz.underlying107,rfl,rfl,fun _=>rfl⟩,fun x=>cw.flat _,fun x v aL=>by obtain rfl:=List.mem_singleton.1 aL; exact cw.one _⟩
theorem aBf:dM Pg 111 (X.enc ((⟨none,0,0⟩:af))) 1 24:=dO (by kernel_rfl)
theorem EK:cE Pg 111 X 1:=ib aBf Tryz.underlying111
theorem aBg:dM Pg 112 (.pointer ((none:Option Addr))) 1 8:=dO (by kernel_rfl)
theorem Lj:cE Pg 112 aE 1:=ib aBg Tryz.underlying112
theorem aaY:dM Pg 114 (Bj.enc (aj7)) 9 104:=dO (by kernel_rfl)
theorem aCk(x:rS):(Bj.cells x).length=9:=by rfl
theorem aDZ(x:rS):∀ v∈Bj.cells x,v.oneCell'=true:=by
 show ∀ v∈rS.cells x,v.oneCell'=true
 simp only[rS.cells,List.forall_mem_append,List.forall_mem_cons,List.forall_mem_nil]
 exact⟨acC _,⟨rfl,rfl,rfl,rfl,rfl,fun _ h=>absurd h (List.not_mem_nil)⟩⟩
theorem acg:cE Pg 114 Bj 9:=iY aaY Tryz.underlying114 aCk aDZ
theorem aBh:dM Pg 127 (.pointer ((none:Option Addr))) 1 8:=dO (by kernel_rfl)
theorem QQ:dM Pg 135 (iQ.enc (q1)) 6 48:=dO (by kernel_rfl)
theorem Ev(x:rT):(iQ.cells x).length=6:=by rfl
theorem aD0(x:rT):∀ v∈iQ.cells x,v.oneCell'=true:=by
 show ∀ v∈rT.cells x,v.oneCell'=true
 simp only[rT.cells,List.forall_mem_append,List.forall_mem_cons,List.forall_mem_nil]
 exact⟨RL _,⟨rfl,rfl,fun _ h=>absurd h (List.not_mem_nil)⟩⟩
theorem aDD:cE Pg 135 iQ 6:=iY QQ Tryz.underlying135 Ev aD0
theorem Cc:dM Pg 137 (cW.enc (jR)) 2 16:=dO (by kernel_rfl)
theorem po(x:jB):(cW.cells x).length=2:=by rfl
theorem aD1(x:jB):∀ v∈cW.cells x,v.oneCell'=true:=List.all_eq_true.1 rfl
theorem oi:cE Pg 137 cW 2:=iY Cc Tryz.underlying137 po aD1
theorem wX:dM Pg 142 (fY.enc (Dz)) 6 48:=dO (by kernel_rfl)
theorem Ew(x:j3):(fY.cells x).length=6:=by rfl
theorem aD2(x:j3):∀ v∈fY.cells x,v.oneCell'=true:=List.all_eq_true.1 rfl
theorem sh:cE Pg 142 fY 6:=iY wX Tryz.underlying142 Ew aD2
theorem aaZ:dM Pg 143 ((cw.nil).enc) 1 8:=dO (by kernel_rfl)
theorem aDE:cE Pg 143 gw 1:=⟨(aaZ).imp fun _ h=>⟨h.1,h.2.2.1⟩,fun _=>rfl,.inr ⟨_,Tryz.underlying143,rfl,rfl,fun _=>rfl⟩,fun x=>cw.flat _,fun x v aL=>by obtain rfl:=List.mem_singleton.1 aL; exact cw.one _⟩
theorem aa0:dM Pg 146 (.map ((none:Option Nat))) 1 8:=dO (by kernel_rfl)
theorem aDF:cE Pg 146 eC 1:=ib aa0 Tryz.underlying146
theorem aa1:dM Pg 150 (Bk.enc (aj8)) 2 16:=dO (by kernel_rfl)
theorem aCl(x:xJ):(Bk.cells x).length=2:=by rfl
theorem aD3(x:xJ):∀ v∈Bk.cells x,v.oneCell'=true:=List.all_eq_true.1 rfl
theorem aDG:cE Pg 150 Bk 2:=iY aa1 Tryz.underlying150 aCl aD3
theorem QR:dM Pg 161 (ws.enc (Oi)) 8 64:=dO (by kernel_rfl)
theorem abR(x:tH):(ws.cells x).length=8:=by rfl
theorem aD4(x:tH):∀ v∈ws.cells x,v.oneCell'=true:=by
 show ∀ v∈tH.cells x,v.oneCell'=true
 simp only[tH.cells,List.forall_mem_append,List.forall_mem_cons,List.forall_mem_nil]
 exact⟨⟨rfl,fun _ h=>absurd h (List.not_mem_nil)⟩,RM _⟩
theorem aDH:cE Pg 161 ws 8:=iY QR Tryz.underlying161 abR aD4
theorem QS:dM Pg 164 (fF.enc (q2)) 0 0:=dO (by kernel_rfl)
theorem aCm(x:o8):(fF.cells x).length=0:=by rfl
theorem aD5(x:o8):∀ v∈fF.cells x,v.oneCell'=true:=by
 show ∀ v∈o8.cells x,v.oneCell'=true
 simp only[o8.cells,List.forall_mem_append,List.forall_mem_cons,List.forall_mem_nil]
 exact fun _ h=>absurd h (List.not_mem_nil)
theorem aDI:cE Pg 164 fF 0:=iY QS Tryz.underlying164 aCm aD5
theorem aa2:dM Pg 173 (Bl.enc (Gd)) 4 32:=dO (by kernel_rfl)
theorem aCn(x:tI):(Bl.cells x).length=4:=by rfl
theorem acA(x:tI):∀ v∈Bl.cells x,v.oneCell'=true:=List.all_eq_true.1 rfl
theorem yZ:cE Pg 173 Bl 4:=iY aa2 Tryz.underlying173 aCn acA
theorem aa3:dM Pg 175 (Bm.enc (aj9)) 7 56:=dO (by kernel_rfl)
theorem aCo(x:tJ):(Bm.cells x).length=7:=by rfl
theorem aD6(x:tJ):∀ v∈Bm.cells x,v.oneCell'=true:=by
 show ∀ v∈tJ.cells x,v.oneCell'=true
 simp only[tJ.cells,List.forall_mem_append,List.forall_mem_cons,List.forall_mem_nil]
 exact⟨acA _,⟨rfl,rfl,rfl,fun _ h=>absurd h (List.not_mem_nil)⟩⟩
theorem aDJ:cE Pg 175 Bm 7:=iY aa3 Tryz.underlying175 aCo aD6
theorem aa4:dM Pg 178 (Ds.enc (aka)) 4 48:=dO (by kernel_rfl)
theorem aCp(x:xK):(Ds.cells x).length=4:=by rfl
theorem aD7(x:xK):∀ v∈Ds.cells x,v.oneCell'=true:=List.all_eq_true.1 rfl
theorem aDK:cE Pg 178 Ds 4:=iY aa4 Tryz.underlying178 aCp aD7
theorem aBi:dM Pg 180 (X.enc ((⟨none,0,0⟩:af))) 1 24:=dO (by kernel_rfl)
theorem ach:cE Pg 180 X 1:=ib aBi Tryz.underlying180
theorem aa5:dM Pg 182 (Bn.enc (akb)) 5 72:=dO (by kernel_rfl)
theorem aCq(x:wm):(Bn.cells x).length=5:=by rfl
theorem aD8(x:wm):∀ v∈Bn.cells x,v.oneCell'=true:=List.all_eq_true.1 rfl
theorem aDL:cE Pg 182 Bn 5:=iY aa5 Tryz.underlying182 aCq aD8
theorem aa6:dM Pg 189 (X.enc ((⟨none,0,0⟩:af))) 1 24:=dO (by kernel_rfl)
theorem vB:cE Pg 189 X 1:=ib aa6 Tryz.underlying189
theorem QT:dM Pg 190 (X.enc ((⟨none,0,0⟩:af))) 1 24:=dO (by kernel_rfl)
theorem vC:cE Pg 190 X 1:=ib QT Tryz.underlying190
theorem aBj:dM Pg 194 (.int .i64 ((0:Int))) 1 8:=dO (by kernel_rfl)
theorem xd:cE Pg 194 (B .i64) 1:=ib aBj Tryz.underlying194
theorem aBk:dM Pg 195 (.int .u64 ((0:Int))) 1 8:=dO (by kernel_rfl)
theorem si:cE Pg 195 (B .u64) 1:=ib aBk Tryz.underlying195
theorem wY:dM Pg 197 (gy.enc (tN)) 5 48:=dO (by kernel_rfl)
theorem abS(x:m5):(gy.cells x).length=5:=by rfl
theorem aD9(x:m5):∀ v∈gy.cells x,v.oneCell'=true:=List.all_eq_true.1 rfl
theorem ma:cE Pg 197 gy 5:=iY wY Tryz.underlying197 abS aD9
theorem QU:dM Pg 210 (m7.enc (q3)) 3 16:=dO (by kernel_rfl)
theorem Cg(x:lS):(m7.cells x).length=3:=by rfl
theorem aEa(x:lS):∀ v∈m7.cells x,v.oneCell'=true:=List.all_eq_true.1 rfl
theorem EL:cE Pg 210 m7 3:=iY QU Tryz.underlying210 Cg aEa
theorem aBl:dM Pg 211 ((qM m7 2).enc ((Vector.replicate 2 q3))) 6 32:=dO (by kernel_rfl)
theorem HW:cE Pg 211 (qM m7 2) 6:=⟨(aBl).imp fun _ h=>⟨h.1,h.2.2.1⟩,fun x=>by simp[D5 EL.len],.inl ⟨_,Tryz.underlying211,rfl,fun _=>rfl⟩,fun _=>rfl,fun x v aL=>by obtain⟨S,_,aB⟩:=List.mem_flatMap.1 aL; exact EL.one S v aB⟩
theorem aa8:dM Pg 212 ((qM bo 2).enc ((Vector.replicate 2 false))) 2 2:=dO (by kernel_rfl)
theorem RD:cE Pg 212 (qM bo 2) 2:=⟨(aa8).imp fun _ h=>⟨h.1,h.2.2.1⟩,fun x=>by simp[D5 oR.len],.inl ⟨_,Tryz.underlying212,rfl,fun _=>rfl⟩,fun _=>rfl,fun x v aL=>by obtain⟨S,_,aB⟩:=List.mem_flatMap.1 aL; exact oR.one S v aB⟩
theorem aa9:dM Pg 214 (Dt.enc (akc)) 14 88:=dO (by kernel_rfl)
theorem aCr(x:sO):(Dt.cells x).length=14:=by
 show (sO.cells x).length=14
 simp only[sO.cells,List.length_append,List.length_cons,List.length_nil,Vector.length_toList,D5 EL.len,D5 oR.len,show ∀ S,(mK.cells S).length=4 from KR]
theorem aEb(x:sO):∀ v∈Dt.cells x,v.oneCell'=true:=by
 show ∀ v∈sO.cells x,v.oneCell'=true
 simp only[sO.cells,List.forall_mem_append,List.forall_mem_cons,List.forall_mem_nil]
 exact⟨RK _,HW.one _,RD.one _,⟨rfl,rfl,fun _ h=>absurd h (List.not_mem_nil)⟩⟩
theorem aDM:cE Pg 214 Dt 14:=iY aa9 Tryz.underlying214 aCr aEb
theorem aBm:dM Pg 216 (.map ((none:Option Nat))) 1 8:=dO (by kernel_rfl)
theorem aci:cE Pg 216 eC 1:=ib aBm Tryz.underlying216
theorem aba:dM Pg 218 (qi.enc (akd)) 3 24:=dO (by kernel_rfl)
theorem aCs(x:xL):(qi.cells x).length=3:=by rfl
theorem aEc(x:xL):∀ v∈qi.cells x,v.oneCell'=true:=List.all_eq_true.1 rfl
theorem aDN:cE Pg 218 qi 3:=iY aba Tryz.underlying218 aCs aEc
theorem abb:dM Pg 223 (Du.enc (ake)) 1 8:=dO (by kernel_rfl)
theorem aCt(x:xM):(Du.cells x).length=1:=by rfl
theorem aEd(x:xM):∀ v∈Du.cells x,v.oneCell'=true:=List.all_eq_true.1 rfl
theorem aDO:cE Pg 223 Du 1:=iY abb Tryz.underlying223 aCt aEd
theorem abc:dM Pg 236 (Bo.enc (Xr)) 2 16:=dO (by kernel_rfl)
theorem aCu(x:sP):(Bo.cells x).length=2:=by rfl
theorem acB(x:sP):∀ v∈Bo.cells x,v.oneCell'=true:=List.all_eq_true.1 rfl
theorem acj:cE Pg 236 Bo 2:=iY abc Tryz.underlying236 aCu acB
theorem abd:dM Pg 238 (Bp.enc (akf)) 5 40:=dO (by kernel_rfl)
theorem aCv(x:tK):(Bp.cells x).length=5:=by rfl
theorem aEe(x:tK):∀ v∈Bp.cells x,v.oneCell'=true:=by
 show ∀ v∈tK.cells x,v.oneCell'=true
 simp only[tK.cells,List.forall_mem_append,List.forall_mem_cons,List.forall_mem_nil]
 exact⟨acB _,⟨rfl,rfl,rfl,fun _ h=>absurd h (List.not_mem_nil)⟩⟩
theorem ack:cE Pg 238 Bp 5:=iY abd Tryz.underlying238 aCv aEe
theorem abf:dM Pg 257 (Dv.enc (akg)) 2 32:=dO (by kernel_rfl)
theorem aCx(x:wo):(Dv.cells x).length=2:=by rfl
theorem aEf(x:wo):∀ v∈Dv.cells x,v.oneCell'=true:=List.all_eq_true.1 rfl
theorem acl:cE Pg 257 Dv 2:=iY abf Tryz.underlying257 aCx aEf
theorem Hz:dM Pg 259 (j4.enc (Ge)) 1 8:=dO (by kernel_rfl)
theorem aCy(x:kj):(j4.cells x).length=1:=by rfl
theorem aEg(x:kj):∀ v∈j4.cells x,v.oneCell'=true:=List.all_eq_true.1 rfl
theorem RE:cE Pg 259 j4 1:=iY Hz Tryz.underlying259 aCy aEg
theorem abg:dM Pg 278 (Dw.enc (Xs)) 2 32:=dO (by kernel_rfl)
theorem aCz(x:zK):(Dw.cells x).length=2:=by rfl
theorem aEh(x:zK):∀ v∈Dw.cells x,v.oneCell'=true:=List.all_eq_true.1 rfl
theorem aDQ:cE Pg 278 Dw 2:=iY abg Tryz.underlying278 aCz aEh
theorem abh:dM Pg 290 (.pointer ((none:Option Addr))) 1 8:=dO (by kernel_rfl)
theorem aDR:cE Pg 290 aE 1:=ib abh Tryz.underlying290
theorem KE:dM Pg 292 (dR.enc (kD)) 2 16:=dO (by kernel_rfl)
theorem qq(x:eV):(dR.cells x).length=2:=by rfl
theorem aEi(x:eV):∀ v∈dR.cells x,v.oneCell'=true:=List.all_eq_true.1 rfl
theorem aDS:cE Pg 292 dR 2:=iY KE Tryz.underlying292 qq aEi
theorem aBq:dM Pg 326 (X.enc ((⟨none,0,0⟩:af))) 1 24:=dO (by kernel_rfl)
theorem acn:cE Pg 326 X 1:=ib aBq Tryz.underlying326
theorem abi:dM Pg 328 (wu.enc (akh)) 2 32:=dO (by kernel_rfl)
theorem aCA(x:xN):(wu.cells x).length=2:=by rfl
theorem aEj(x:xN):∀ v∈wu.cells x,v.oneCell'=true:=List.all_eq_true.1 rfl
theorem aDT:cE Pg 328 wu 2:=iY abi Tryz.underlying328 aCA aEj
theorem JS:dj Pg 7:=⟨_,Tryz.func7,rfl,by decide⟩
theorem D0:dj Pg 8:=⟨_,Tryz.func8,rfl,by decide⟩
theorem GG:dj Pg 9:=⟨_,Tryz.func9,rfl,by decide⟩
theorem O0:dj Pg 10:=⟨_,Tryz.func10,rfl,by decide⟩
theorem YS:dj Pg 11:=⟨_,Tryz.func11,rfl,by decide⟩
theorem am1:dj Pg 12:=⟨_,Tryz.func12,rfl,by decide⟩
theorem YU:dj Pg 13:=⟨_,Tryz.func13,rfl,by decide⟩
theorem YV:dj Pg 14:=⟨_,Tryz.func14,rfl,by decide⟩
theorem DY:dj Pg 15:=⟨_,Tryz.func15,rfl,by decide⟩
theorem JP:dj Pg 16:=⟨_,Tryz.func16,rfl,by decide⟩
theorem YZ:dj Pg 17:=⟨_,Tryz.func17,rfl,by decide⟩
theorem O2:dj Pg 18:=⟨_,Tryz.func18,rfl,by decide⟩
theorem O5:dj Pg 19:=⟨_,Tryz.func19,rfl,by decide⟩
theorem Y0:dj Pg 20:=⟨_,Tryz.func20,rfl,by decide⟩
theorem Y1:dj Pg 21:=⟨_,Tryz.func21,rfl,by decide⟩
theorem JQ:dj Pg 22:=⟨_,Tryz.func22,rfl,by decide⟩
theorem DZ:dj Pg 23:=⟨_,Tryz.func23,rfl,by decide⟩
theorem anw:dj Pg 24:=⟨_,Tryz.func24,rfl,by decide⟩
theorem Y2:dj Pg 25:=⟨_,Tryz.func25,rfl,by decide⟩
theorem anz:dj Pg 26:=⟨_,Tryz.func26,rfl,by decide⟩
theorem anA:dj Pg 27:=⟨_,Tryz.func27,rfl,by decide⟩
theorem Y3:dj Pg 28:=⟨_,Tryz.func28,rfl,by decide⟩
theorem anB:dj Pg 30:=⟨_,Tryz.func30,rfl,by decide⟩
theorem JR:dj Pg 35:=⟨_,Tryz.func35,rfl,by decide⟩
theorem Y4:dj Pg 36:=⟨_,Tryz.func36,rfl,by decide⟩
theorem Y5:dj Pg 37:=⟨_,Tryz.func37,rfl,by decide⟩
theorem anC:dj Pg 38:=⟨_,Tryz.func38,rfl,by decide⟩
theorem anD:dj Pg 39:=⟨_,Tryz.func39,rfl,by decide⟩
theorem anE:dj Pg 40:=⟨_,Tryz.func40,rfl,by decide⟩
theorem anF:dj Pg 41:=⟨_,Tryz.func41,rfl,by decide⟩
theorem anG:dj Pg 42:=⟨_,Tryz.func42,rfl,by decide⟩
theorem anH:dj Pg 43:=⟨_,Tryz.func43,rfl,by decide⟩
theorem Y6:dj Pg 44:=⟨_,Tryz.func44,rfl,by decide⟩
theorem anI:dj Pg 45:=⟨_,Tryz.func45,rfl,by decide⟩
theorem Y7:dj Pg 49:=⟨_,Tryz.func49,rfl,by decide⟩
theorem anJ:dj Pg 62:=⟨_,Tryz.func62,rfl,by decide⟩
theorem anK:dj Pg 63:=⟨_,Tryz.func63,rfl,by decide⟩
theorem anL:dj Pg 68:=⟨_,Tryz.func68,rfl,by decide⟩
theorem anM:dj Pg 70:=⟨_,Tryz.func70,rfl,by decide⟩
theorem anN:dj Pg 72:=⟨_,Tryz.func72,rfl,by decide⟩
theorem anO:dj Pg 75:=⟨_,Tryz.func75,rfl,by decide⟩
theorem anP:dj Pg 77:=⟨_,Tryz.func77,rfl,by decide⟩
theorem anQ:dj Pg 87:=⟨_,Tryz.func87,rfl,by decide⟩
theorem anR:dj Pg 89:=⟨_,Tryz.func89,rfl,by decide⟩
theorem anS:dj Pg 93:=⟨_,Tryz.func93,rfl,by decide⟩
theorem amX:dj Pg 102:=⟨_,Tryz.func102,rfl,by decide⟩
theorem amY:dj Pg 104:=⟨_,Tryz.func104,rfl,by decide⟩
theorem YT:dj Pg 111:=⟨_,Tryz.func111,rfl,by decide⟩
theorem amZ:dj Pg 112:=⟨_,Tryz.func112,rfl,by decide⟩
theorem am0:dj Pg 113:=⟨_,Tryz.func113,rfl,by decide⟩
theorem am2:dj Pg 120:=⟨_,Tryz.func120,rfl,by decide⟩
theorem am3:dj Pg 122:=⟨_,Tryz.func122,rfl,by decide⟩
theorem am4:dj Pg 129:=⟨_,Tryz.func129,rfl,by decide⟩
theorem am5:dj Pg 142:=⟨_,Tryz.func142,rfl,by decide⟩
theorem am6:dj Pg 143:=⟨_,Tryz.func143,rfl,by decide⟩
theorem am7:dj Pg 144:=⟨_,Tryz.func144,rfl,by decide⟩
theorem am8:dj Pg 145:=⟨_,Tryz.func145,rfl,by decide⟩
theorem O1:dj Pg 146:=⟨_,Tryz.func146,rfl,by decide⟩
theorem am9:dj Pg 147:=⟨_,Tryz.func147,rfl,by decide⟩
theorem ana:dj Pg 150:=⟨_,Tryz.func150,rfl,by decide⟩
theorem anb:dj Pg 151:=⟨_,Tryz.func151,rfl,by decide⟩
theorem anc:dj Pg 152:=⟨_,Tryz.func152,rfl,by decide⟩
theorem YW:dj Pg 153:=⟨_,Tryz.func153,rfl,by decide⟩
theorem ane:dj Pg 154:=⟨_,Tryz.func154,rfl,by decide⟩
theorem YX:dj Pg 155:=⟨_,Tryz.func155,rfl,by decide⟩
theorem anf:dj Pg 156:=⟨_,Tryz.func156,rfl,by decide⟩
theorem YY:dj Pg 168:=⟨_,Tryz.func168,rfl,by decide⟩
theorem ang:dj Pg 178:=⟨_,Tryz.func178,rfl,by decide⟩
theorem anh:dj Pg 179:=⟨_,Tryz.func179,rfl,by decide⟩
theorem ani:dj Pg 180:=⟨_,Tryz.func180,rfl,by decide⟩
theorem anj:dj Pg 185:=⟨_,Tryz.func185,rfl,by decide⟩
theorem O3:dj Pg 186:=⟨_,Tryz.func186,rfl,by decide⟩
theorem O4:dj Pg 187:=⟨_,Tryz.func187,rfl,by decide⟩
theorem ank:dj Pg 188:=⟨_,Tryz.func188,rfl,by decide⟩
theorem anl:dj Pg 189:=⟨_,Tryz.func189,rfl,by decide⟩
theorem anm:dj Pg 194:=⟨_,Tryz.func194,rfl,by decide⟩
theorem ann:dj Pg 197:=⟨_,Tryz.func197,rfl,by decide⟩
theorem ano:dj Pg 217:=⟨_,Tryz.func217,rfl,by decide⟩
theorem anp:dj Pg 218:=⟨_,Tryz.func218,rfl,by decide⟩
theorem anq:dj Pg 219:=⟨_,Tryz.func219,rfl,by decide⟩
theorem anr:dj Pg 220:=⟨_,Tryz.func220,rfl,by decide⟩
theorem ans:dj Pg 221:=⟨_,Tryz.func221,rfl,by decide⟩
theorem ant:dj Pg 222:=⟨_,Tryz.func222,rfl,by decide⟩
theorem anu:dj Pg 223:=⟨_,Tryz.func223,rfl,by decide⟩
theorem anv:dj Pg 229:=⟨_,Tryz.func229,rfl,by decide⟩
theorem anx:dj Pg 255:=⟨_,Tryz.func255,rfl,by decide⟩
theorem mixed:Tryz.prog.follows .mixedOrders=true:=by kernel_rfl
theorem aE0(w:World):(((Tryz.prog.fieldsOf 24).toList).mapM fun f=>(do pure (f.offset,← sizeOf f.type):Sem (Nat×Nat))).run Pg w=.ok [(0,1),(1,1),(2,1),(3,1)] w:=by kernel_rfl
theorem aE3(w:World):(((Tryz.prog.fieldsOf 31).toList).mapM fun f=>(do pure (f.offset,← sizeOf f.type):Sem (Nat×Nat))).run Pg w=.ok [(0,1),(1,1),(2,1),(3,1)] w:=by kernel_rfl
theorem aE5(w:World):(((Tryz.prog.fieldsOf 53).toList).mapM fun f=>(do pure (f.offset,← sizeOf f.type):Sem (Nat×Nat))).run Pg w=.ok [(0,1),(1,1),(2,1)] w:=by kernel_rfl
theorem RV(w:World):(((Tryz.prog.fieldsOf 60).toList).mapM fun f=>(do pure (f.offset,← sizeOf f.type):Sem (Nat×Nat))).run Pg w=.ok [(0,1),(1,1),(2,1),(3,1)] w:=by kernel_rfl
theorem acZ(w:World):(((Tryz.prog.fieldsOf 62).toList).mapM fun f=>(do pure (f.offset,← sizeOf f.type):Sem (Nat×Nat))).run Pg w=.ok [(0,1),(1,4),(5,1),(6,1)] w:=by kernel_rfl
theorem ac0(w:World):(((Tryz.prog.fieldsOf 64).toList).mapM fun f=>(do pure (f.offset,← sizeOf f.type):Sem (Nat×Nat))).run Pg w=.ok [(0,1),(1,1),(2,1),(3,7)] w:=by kernel_rfl
theorem aE6(w:World):(((Tryz.prog.fieldsOf 67).toList).mapM fun f=>(do pure (f.offset,← sizeOf f.type):Sem (Nat×Nat))).run Pg w=.ok [(0,1)] w:=by kernel_rfl
theorem aE7(w:World):(((Tryz.prog.fieldsOf 72).toList).mapM fun f=>(do pure (f.offset,← sizeOf f.type):Sem (Nat×Nat))).run Pg w=.ok [(0,1),(1,1),(2,1),(3,1),(4,1),(5,1)] w:=by kernel_rfl
theorem aE8(w:World):(((Tryz.prog.fieldsOf 85).toList).mapM fun f=>(do pure (f.offset,← sizeOf f.type):Sem (Nat×Nat))).run Pg w=.ok [(0,1),(1,1)] w:=by kernel_rfl
theorem aE9(w:World):(((Tryz.prog.fieldsOf 87).toList).mapM fun f=>(do pure (f.offset,← sizeOf f.type):Sem (Nat×Nat))).run Pg w=.ok [(0,1),(1,1)] w:=by kernel_rfl
theorem aEK(w:World):(((Tryz.prog.fieldsOf 101).toList).mapM fun f=>(do pure (f.offset,← sizeOf f.type):Sem (Nat×Nat))).run Pg w=.ok [(0,1),(1,1),(2,1),(3,1),(4,1),(5,1),(6,1),(7,1),(8,1)] w:=by kernel_rfl
theorem acW(w:World):(((Tryz.prog.fieldsOf 104).toList).mapM fun f=>(do pure (f.offset,← sizeOf f.type):Sem (Nat×Nat))).run Pg w=.ok [(0,1),(1,1)] w:=by kernel_rfl
theorem aEL(w:World):(((Tryz.prog.fieldsOf 114).toList).mapM fun f=>(do pure (f.offset,← sizeOf f.type):Sem (Nat×Nat))).run Pg w=.ok [(0,4),(4,1),(5,1),(6,1),(7,1),(8,1)] w:=by kernel_rfl
theorem aEM(w:World):(((Tryz.prog.fieldsOf 135).toList).mapM fun f=>(do pure (f.offset,← sizeOf f.type):Sem (Nat×Nat))).run Pg w=.ok [(0,4),(4,1),(5,1)] w:=by kernel_rfl
theorem acX(w:World):(((Tryz.prog.fieldsOf 137).toList).mapM fun f=>(do pure (f.offset,← sizeOf f.type):Sem (Nat×Nat))).run Pg w=.ok [(0,1),(1,1)] w:=by kernel_rfl
theorem ET(w:World):(((Tryz.prog.fieldsOf 142).toList).mapM fun f=>(do pure (f.offset,← sizeOf f.type):Sem (Nat×Nat))).run Pg w=.ok [(0,1),(1,1),(2,1),(3,1),(4,1),(5,1)] w:=by kernel_rfl
theorem aEN(w:World):(((Tryz.prog.fieldsOf 150).toList).mapM fun f=>(do pure (f.offset,← sizeOf f.type):Sem (Nat×Nat))).run Pg w=.ok [(0,1),(1,1)] w:=by kernel_rfl
theorem aEO(w:World):(((Tryz.prog.fieldsOf 161).toList).mapM fun f=>(do pure (f.offset,← sizeOf f.type):Sem (Nat×Nat))).run Pg w=.ok [(0,1),(1,7)] w:=by kernel_rfl
theorem aEP(w:World):(((Tryz.prog.fieldsOf 164).toList).mapM fun f=>(do pure (f.offset,← sizeOf f.type):Sem (Nat×Nat))).run Pg w=.ok [] w:=by kernel_rfl
theorem aEQ(w:World):(((Tryz.prog.fieldsOf 173).toList).mapM fun f=>(do pure (f.offset,← sizeOf f.type):Sem (Nat×Nat))).run Pg w=.ok [(0,1),(1,1),(2,1),(3,1)] w:=by kernel_rfl
theorem aER(w:World):(((Tryz.prog.fieldsOf 175).toList).mapM fun f=>(do pure (f.offset,← sizeOf f.type):Sem (Nat×Nat))).run Pg w=.ok [(0,4),(4,1),(5,1),(6,1)] w:=by kernel_rfl
theorem aES(w:World):(((Tryz.prog.fieldsOf 178).toList).mapM fun f=>(do pure (f.offset,← sizeOf f.type):Sem (Nat×Nat))).run Pg w=.ok [(0,1),(1,1),(2,1),(3,1)] w:=by kernel_rfl
theorem aET(w:World):(((Tryz.prog.fieldsOf 182).toList).mapM fun f=>(do pure (f.offset,← sizeOf f.type):Sem (Nat×Nat))).run Pg w=.ok [(0,1),(1,1),(2,1),(3,1),(4,1)] w:=by kernel_rfl
theorem RU(w:World):(((Tryz.prog.fieldsOf 197).toList).mapM fun f=>(do pure (f.offset,← sizeOf f.type):Sem (Nat×Nat))).run Pg w=.ok [(0,1),(1,1),(2,1),(3,1),(4,1)] w:=by kernel_rfl
theorem aEU(w:World):(((Tryz.prog.fieldsOf 210).toList).mapM fun f=>(do pure (f.offset,← sizeOf f.type):Sem (Nat×Nat))).run Pg w=.ok [(0,1),(1,1),(2,1)] w:=by kernel_rfl
theorem aEV(w:World):(((Tryz.prog.fieldsOf 214).toList).mapM fun f=>(do pure (f.offset,← sizeOf f.type):Sem (Nat×Nat))).run Pg w=.ok [(0,4),(4,6),(10,2),(12,1),(13,1)] w:=by kernel_rfl
theorem aEW(w:World):(((Tryz.prog.fieldsOf 218).toList).mapM fun f=>(do pure (f.offset,← sizeOf f.type):Sem (Nat×Nat))).run Pg w=.ok [(0,1),(1,1),(2,1)] w:=by kernel_rfl
theorem aEX(w:World):(((Tryz.prog.fieldsOf 223).toList).mapM fun f=>(do pure (f.offset,← sizeOf f.type):Sem (Nat×Nat))).run Pg w=.ok [(0,1)] w:=by kernel_rfl
theorem aEY(w:World):(((Tryz.prog.fieldsOf 236).toList).mapM fun f=>(do pure (f.offset,← sizeOf f.type):Sem (Nat×Nat))).run Pg w=.ok [(0,1),(1,1)] w:=by kernel_rfl
theorem aEZ(w:World):(((Tryz.prog.fieldsOf 238).toList).mapM fun f=>(do pure (f.offset,← sizeOf f.type):Sem (Nat×Nat))).run Pg w=.ok [(0,2),(2,1),(3,1),(4,1)] w:=by kernel_rfl
theorem aE1(w:World):(((Tryz.prog.fieldsOf 257).toList).mapM fun f=>(do pure (f.offset,← sizeOf f.type):Sem (Nat×Nat))).run Pg w=.ok [(0,1),(1,1)] w:=by kernel_rfl
theorem aE2(w:World):(((Tryz.prog.fieldsOf 259).toList).mapM fun f=>(do pure (f.offset,← sizeOf f.type):Sem (Nat×Nat))).run Pg w=.ok [(0,1)] w:=by kernel_rfl
theorem acY(w:World):(((Tryz.prog.fieldsOf 292).toList).mapM fun f=>(do pure (f.offset,← sizeOf f.type):Sem (Nat×Nat))).run Pg w=.ok [(0,1),(1,1)] w:=by kernel_rfl
theorem aE4(w:World):(((Tryz.prog.fieldsOf 328).toList).mapM fun f=>(do pure (f.offset,← sizeOf f.type):Sem (Nat×Nat))).run Pg w=.ok [(0,1),(1,1)] w:=by kernel_rfl
theorem Sa{n f w G bH ej bh gg}(aj:G.op=.build 24 #[(0,bH),(3,ej)])(ah:ad n f bH=.int .i64 (bh))(aK:ad n f ej=.int .i64 (gg)):(execOp (ad n f) G).run Pg w=.ok (.value (hr.enc ⟨bh,(0:Nat),(0:Nat),gg⟩)) w:=
 gT (eT:=[(0,bH),(3,ej)]) (fC:=[(0,.int .i64 (bh)),(3,.int .i64 (gg))]) (bd:=kU.cells ⟨bh,(0:Nat),(0:Nat),gg⟩) aj Tryz.underlying24 abe (by have:=aE0; simp only[Program.fieldsOf,Tryz.underlying24] at this; exact this) (by simp only[List.map_cons,List.map_nil,ah,aK]) (by kernel_rfl)
theorem Sc{n f w G bH cp fE ej bh bY ei gg}(aj:G.op=.build 31 #[(0,bH),(1,cp),(2,fE),(3,ej)])(ah:ad n f bH=.int .i64 (bh))(I:ad n f cp=.int .i64 (bY))(R:ad n f fE=.int .i64 (ei))(aK:ad n f ej=.int .i64 (gg)):(execOp (ad n f) G).run Pg w=.ok (.value (gz.enc ⟨bh,bY,ei,gg⟩)) w:=
 gT (eT:=[(0,bH),(1,cp),(2,fE),(3,ej)]) (fC:=[(0,.int .i64 (bh)),(1,.int .i64 (bY)),(2,.int .i64 (ei)),(3,.int .i64 (gg))]) (bd:=mK.cells ⟨bh,bY,ei,gg⟩) aj Tryz.underlying31 KG (by have:=aE3; simp only[Program.fieldsOf,Tryz.underlying31] at this; exact this) (by simp only[List.map_cons,List.map_nil,ah,I,R,aK]) (by kernel_rfl)
theorem Sd{n f w G bH cp fE bh bY ei}(aj:G.op=.build 53 #[(0,bH),(1,cp),(2,fE)])(ah:ad n f bH=.int .i64 (bh))(I:ad n f cp=.int .i64 (bY))(R:ad n f fE=.int .i64 (ei)):(execOp (ad n f) G).run Pg w=.ok (.value (kB.enc ⟨bh,bY,ei⟩)) w:=
 gT (eT:=[(0,bH),(1,cp),(2,fE)]) (fC:=[(0,.int .i64 (bh)),(1,.int .i64 (bY)),(2,.int .i64 (ei))]) (bd:=bk.cells ⟨bh,bY,ei⟩) aj Tryz.underlying53 QW (by have:=aE5; simp only[Program.fieldsOf,Tryz.underlying53] at this; exact this) (by simp only[List.map_cons,List.map_nil,ah,I,R]) (by kernel_rfl)
theorem Se{n f w G bH bh}(aj:G.op=.build 60 #[(0,bH)])(ah:ad n f bH=.int .i64 (bh)):(execOp (ad n f) G).run Pg w=.ok (.value (hd.enc ⟨bh,(0:Int),(0:Int),false⟩)) w:=
 gT (eT:=[(0,bH)]) (fC:=[(0,.int .i64 (bh))]) (bd:=iO.cells ⟨bh,(0:Int),(0:Int),false⟩) aj Tryz.underlying60 HA (by have:=RV; simp only[Program.fieldsOf,Tryz.underlying60] at this; exact this) (by simp only[List.map_cons,List.map_nil,ah]) (by kernel_rfl)
theorem adE{n f w G bH cp fE bh bY ei}(aj:G.op=.build 60 #[(0,bH),(1,cp),(2,fE)])(ah:ad n f bH=.int .i64 (bh))(I:ad n f cp=.int .i64 (bY))(R:ad n f fE=.int .i64 (ei)):(execOp (ad n f) G).run Pg w=.ok (.value (hd.enc ⟨bh,bY,ei,false⟩)) w:=
 gT (eT:=[(0,bH),(1,cp),(2,fE)]) (fC:=[(0,.int .i64 (bh)),(1,.int .i64 (bY)),(2,.int .i64 (ei))]) (bd:=iO.cells ⟨bh,bY,ei,false⟩) aj Tryz.underlying60 HA (by have:=RV; simp only[Program.fieldsOf,Tryz.underlying60] at this; exact this) (by simp only[List.map_cons,List.map_nil,ah,I,R]) (by kernel_rfl)
theorem adF{n f w G bH cp fE ej bh bY ei gg}(aj:G.op=.build 60 #[(0,bH),(1,cp),(2,fE),(3,ej)])(ah:ad n f bH=.int .i64 (bh))(I:ad n f cp=.int .i64 (bY))(R:ad n f fE=.int .i64 (ei))(aK:ad n f ej=.bool (gg)):(execOp (ad n f) G).run Pg w=.ok (.value (hd.enc ⟨bh,bY,ei,gg⟩)) w:=
 gT (eT:=[(0,bH),(1,cp),(2,fE),(3,ej)]) (fC:=[(0,.int .i64 (bh)),(1,.int .i64 (bY)),(2,.int .i64 (ei)),(3,.bool (gg))]) (bd:=iO.cells ⟨bh,bY,ei,gg⟩) aj Tryz.underlying60 HA (by have:=RV; simp only[Program.fieldsOf,Tryz.underlying60] at this; exact this) (by simp only[List.map_cons,List.map_nil,ah,I,R,aK]) (by kernel_rfl)
theorem Sf{n f w G bH cp bh bY}(aj:G.op=.build 62 #[(0,bH),(1,cp)])(ah:ad n f bH=.int .i64 (bh))(I:ad n f cp=hd.enc (bY)):(execOp (ad n f) G).run Pg w=.ok (.value (eW.enc ⟨bh,bY,false,(0:Int)⟩)) w:=
 gT (eT:=[(0,bH),(1,cp)]) (fC:=[(0,.int .i64 (bh)),(1,hd.enc (bY))]) (bd:=iE.cells ⟨bh,bY,false,(0:Int)⟩) aj Tryz.underlying62 KH (by have:=acZ; simp only[Program.fieldsOf,Tryz.underlying62] at this; exact this) (by simp only[List.map_cons,List.map_nil,ah,I]) (by kernel_rfl)
theorem adG{n f w G bH cp fE ej bh bY ei gg}(aj:G.op=.build 62 #[(0,bH),(1,cp),(2,fE),(3,ej)])(ah:ad n f bH=.int .i64 (bh))(I:ad n f cp=hd.enc (bY))(R:ad n f fE=.bool (ei))(aK:ad n f ej=.int .i64 (gg)):(execOp (ad n f) G).run Pg w=.ok (.value (eW.enc ⟨bh,bY,ei,gg⟩)) w:=
 gT (eT:=[(0,bH),(1,cp),(2,fE),(3,ej)]) (fC:=[(0,.int .i64 (bh)),(1,hd.enc (bY)),(2,.bool (ei)),(3,.int .i64 (gg))]) (bd:=iE.cells ⟨bh,bY,ei,gg⟩) aj Tryz.underlying62 KH (by have:=acZ; simp only[Program.fieldsOf,Tryz.underlying62] at this; exact this) (by simp only[List.map_cons,List.map_nil,ah,I,R,aK]) (by kernel_rfl)
theorem adH{n f w G }(aj:G.op=.build 64 #[]):(execOp (ad n f) G).run Pg w=.ok (.value (eQ.enc ⟨(0:Int),(0:Int),(0:Int),uU⟩)) w:=
 gT (eT:=[]) (fC:=[]) (bd:=hc.cells ⟨(0:Int),(0:Int),(0:Int),uU⟩) aj Tryz.underlying64 KI (by have:=ac0; simp only[Program.fieldsOf,Tryz.underlying64] at this; exact this) (by simp only[List.map_cons,List.map_nil]) (by kernel_rfl)
theorem adI{n f w G bH cp fE ej bh bY ei gg}(aj:G.op=.build 64 #[(0,bH),(1,cp),(2,fE),(3,ej)])(ah:ad n f bH=.int .i64 (bh))(I:ad n f cp=.int .i64 (bY))(R:ad n f fE=.int .i64 (ei))(aK:ad n f ej=eW.enc (gg)):(execOp (ad n f) G).run Pg w=.ok (.value (eQ.enc ⟨bh,bY,ei,gg⟩)) w:=
 gT (eT:=[(0,bH),(1,cp),(2,fE),(3,ej)]) (fC:=[(0,.int .i64 (bh)),(1,.int .i64 (bY)),(2,.int .i64 (ei)),(3,eW.enc (gg))]) (bd:=hc.cells ⟨bh,bY,ei,gg⟩) aj Tryz.underlying64 KI (by have:=ac0; simp only[Program.fieldsOf,Tryz.underlying64] at this; exact this) (by simp only[List.map_cons,List.map_nil,ah,I,R,aK]) (by kernel_rfl)
theorem adJ{n f w G bH bh}(aj:G.op=.build 67 #[(0,bH)])(ah:ad n f bH=.pointer (bh)):(execOp (ad n f) G).run Pg w=.ok (.value (dG.enc ⟨bh⟩)) w:=
 gT (eT:=[(0,bH)]) (fC:=[(0,.pointer (bh))]) (bd:=m6.cells ⟨bh⟩) aj Tryz.underlying67 abo (by have:=aE6; simp only[Program.fieldsOf,Tryz.underlying67] at this; exact this) (by simp only[List.map_cons,List.map_nil,ah]) (by kernel_rfl)
theorem adK{n f w G bH cp ej dk dQ bh bY gg mh v3}(aj:G.op=.build 72 #[(0,bH),(1,cp),(3,ej),(4,dk),(5,dQ)])(ah:ad n f bH=dG.enc (bh))(I:ad n f cp=.float .f64 (bY))(aK:ad n f ej=.map (gg))(bp:ad n f dk=.map (mh))(dz:ad n f dQ=.map (v3)):(execOp (ad n f) G).run Pg w=.ok (.value (Bq.enc ⟨bh,bY,(0:Int),gg,mh,v3⟩)) w:=
 gT (eT:=[(0,bH),(1,cp),(3,ej),(4,dk),(5,dQ)]) (fC:=[(0,dG.enc (bh)),(1,.float .f64 (bY)),(3,.map (gg)),(4,.map (mh)),(5,.map (v3))]) (bd:=tL.cells ⟨bh,bY,(0:Int),gg,mh,v3⟩) aj Tryz.underlying72 abp (by have:=aE7; simp only[Program.fieldsOf,Tryz.underlying72] at this; exact this) (by simp only[List.map_cons,List.map_nil,ah,I,aK,bp,dz]) (by kernel_rfl)
theorem adL{n f w G bH cp bh bY}(aj:G.op=.build 85 #[(0,bH),(1,cp)])(ah:ad n f bH=.int .i64 (bh))(I:ad n f cp=X.enc (bY)):(execOp (ad n f) G).run Pg w=.ok (.value (qj.enc ⟨bh,bY⟩)) w:=
 gT (eT:=[(0,bH),(1,cp)]) (fC:=[(0,.int .i64 (bh)),(1,X.enc (bY))]) (bd:=mL.cells ⟨bh,bY⟩) aj Tryz.underlying85 QX (by have:=aE8; simp only[Program.fieldsOf,Tryz.underlying85] at this; exact this) (by simp only[List.map_cons,List.map_nil,ah,I]) (by kernel_rfl)
theorem adM{n f w G bH cp bh bY}(aj:G.op=.build 87 #[(0,bH),(1,cp)])(ah:ad n f bH=.int .i64 (bh))(I:ad n f cp=.int .i64 (bY)):(execOp (ad n f) G).run Pg w=.ok (.value (h2.enc ⟨bh,bY⟩)) w:=
 gT (eT:=[(0,bH),(1,cp)]) (fC:=[(0,.int .i64 (bh)),(1,.int .i64 (bY))]) (bd:=fK.cells ⟨bh,bY⟩) aj Tryz.underlying87 QY (by have:=aE9; simp only[Program.fieldsOf,Tryz.underlying87] at this; exact this) (by simp only[List.map_cons,List.map_nil,ah,I]) (by kernel_rfl)
theorem R3{n f w G }(aj:G.op=.build 101 #[]):(execOp (ad n f) G).run Pg w=.ok (.value (Bi.enc ⟨(none:Option Addr),(0:Int),(none:Option Addr),(none:Option Addr),(none:Option Addr),(none:Option Addr),(none:Option Nat),(none:Option Nat),(⟨none,0,0⟩:af)⟩)) w:=
 gT (eT:=[]) (fC:=[]) (bd:=uR.cells ⟨(none:Option Addr),(0:Int),(none:Option Addr),(none:Option Addr),(none:Option Addr),(none:Option Addr),(none:Option Nat),(none:Option Nat),(⟨none,0,0⟩:af)⟩) aj Tryz.underlying101 aaW (by have:=aEK; simp only[Program.fieldsOf,Tryz.underlying101] at this; exact this) (by simp only[List.map_cons,List.map_nil]) (by kernel_rfl)
theorem adh{n f w G bH bh}(aj:G.op=.build 104 #[(0,bH)])(ah:ad n f bH=.int .i64 (bh)):(execOp (ad n f) G).run Pg w=.ok (.value (lV.enc ⟨bh,(0:Int)⟩)) w:=
 gT (eT:=[(0,bH)]) (fC:=[(0,.int .i64 (bh))]) (bd:=qZ.cells ⟨bh,(0:Int)⟩) aj Tryz.underlying104 KD (by have:=acW; simp only[Program.fieldsOf,Tryz.underlying104] at this; exact this) (by simp only[List.map_cons,List.map_nil,ah]) (by kernel_rfl)
theorem adi{n f w G bH cp bh bY}(aj:G.op=.build 104 #[(0,bH),(1,cp)])(ah:ad n f bH=.int .i64 (bh))(I:ad n f cp=.int .i64 (bY)):(execOp (ad n f) G).run Pg w=.ok (.value (lV.enc ⟨bh,bY⟩)) w:=
 gT (eT:=[(0,bH),(1,cp)]) (fC:=[(0,.int .i64 (bh)),(1,.int .i64 (bY))]) (bd:=qZ.cells ⟨bh,bY⟩) aj Tryz.underlying104 KD (by have:=acW; simp only[Program.fieldsOf,Tryz.underlying104] at this; exact this) (by simp only[List.map_cons,List.map_nil,ah,I]) (by kernel_rfl)
theorem R4{n f w G bH cp dk bh bY mh}(aj:G.op=.build 114 #[(0,bH),(1,cp),(4,dk)])(ah:ad n f bH=hr.enc (bh))(I:ad n f cp=.int .i64 (bY))(bp:ad n f dk=.map (mh)):(execOp (ad n f) G).run Pg w=.ok (.value (Bj.enc ⟨bh,bY,(⟨none,0,0⟩:af),(none:Option Addr),mh,(⟨none,0,0⟩:af)⟩)) w:=
 gT (eT:=[(0,bH),(1,cp),(4,dk)]) (fC:=[(0,hr.enc (bh)),(1,.int .i64 (bY)),(4,.map (mh))]) (bd:=rS.cells ⟨bh,bY,(⟨none,0,0⟩:af),(none:Option Addr),mh,(⟨none,0,0⟩:af)⟩) aj Tryz.underlying114 aaY (by have:=aEL; simp only[Program.fieldsOf,Tryz.underlying114] at this; exact this) (by simp only[List.map_cons,List.map_nil,ah,I,bp]) (by kernel_rfl)
theorem adj{n f w G bH cp fE bh bY ei}(aj:G.op=.build 135 #[(0,bH),(1,cp),(2,fE)])(ah:ad n f bH=hd.enc (bh))(I:ad n f cp=.int .i64 (bY))(R:ad n f fE=.int .i64 (ei)):(execOp (ad n f) G).run Pg w=.ok (.value (iQ.enc ⟨bh,bY,ei⟩)) w:=
 gT (eT:=[(0,bH),(1,cp),(2,fE)]) (fC:=[(0,hd.enc (bh)),(1,.int .i64 (bY)),(2,.int .i64 (ei))]) (bd:=rT.cells ⟨bh,bY,ei⟩) aj Tryz.underlying135 QQ (by have:=aEM; simp only[Program.fieldsOf,Tryz.underlying135] at this; exact this) (by simp only[List.map_cons,List.map_nil,ah,I,R]) (by kernel_rfl)
theorem EY{n f w G }(aj:G.op=.build 137 #[]):(execOp (ad n f) G).run Pg w=.ok (.value (cW.enc ⟨(0:Int),(0:Int)⟩)) w:=
 gT (eT:=[]) (fC:=[]) (bd:=jB.cells ⟨(0:Int),(0:Int)⟩) aj Tryz.underlying137 Cc (by have:=acX; simp only[Program.fieldsOf,Tryz.underlying137] at this; exact this) (by simp only[List.map_cons,List.map_nil]) (by kernel_rfl)
theorem adk{n f w G bH cp bh bY}(aj:G.op=.build 137 #[(0,bH),(1,cp)])(ah:ad n f bH=.int .i64 (bh))(I:ad n f cp=.int .i64 (bY)):(execOp (ad n f) G).run Pg w=.ok (.value (cW.enc ⟨bh,bY⟩)) w:=
 gT (eT:=[(0,bH),(1,cp)]) (fC:=[(0,.int .i64 (bh)),(1,.int .i64 (bY))]) (bd:=jB.cells ⟨bh,bY⟩) aj Tryz.underlying137 Cc (by have:=acX; simp only[Program.fieldsOf,Tryz.underlying137] at this; exact this) (by simp only[List.map_cons,List.map_nil,ah,I]) (by kernel_rfl)
theorem H7{n f w G }(aj:G.op=.build 142 #[]):(execOp (ad n f) G).run Pg w=.ok (.value (fY.enc ⟨(0:Int),(0:Int),(0:Int),(0:Int),(0:Int),false⟩)) w:=
 gT (eT:=[]) (fC:=[]) (bd:=j3.cells ⟨(0:Int),(0:Int),(0:Int),(0:Int),(0:Int),false⟩) aj Tryz.underlying142 wX (by have:=ET; simp only[Program.fieldsOf,Tryz.underlying142] at this; exact this) (by simp only[List.map_cons,List.map_nil]) (by kernel_rfl)
theorem adl{n f w G bH cp bh bY}(aj:G.op=.build 142 #[(0,bH),(1,cp)])(ah:ad n f bH=.int .i64 (bh))(I:ad n f cp=.int .i64 (bY)):(execOp (ad n f) G).run Pg w=.ok (.value (fY.enc ⟨bh,bY,(0:Int),(0:Int),(0:Int),false⟩)) w:=
 gT (eT:=[(0,bH),(1,cp)]) (fC:=[(0,.int .i64 (bh)),(1,.int .i64 (bY))]) (bd:=j3.cells ⟨bh,bY,(0:Int),(0:Int),(0:Int),false⟩) aj Tryz.underlying142 wX (by have:=ET; simp only[Program.fieldsOf,Tryz.underlying142] at this; exact this) (by simp only[List.map_cons,List.map_nil,ah,I]) (by kernel_rfl)
theorem R5{n f w G bH cp fE bh bY ei}(aj:G.op=.build 142 #[(0,bH),(1,cp),(2,fE)])(ah:ad n f bH=.int .i64 (bh))(I:ad n f cp=.int .i64 (bY))(R:ad n f fE=.int .i64 (ei)):(execOp (ad n f) G).run Pg w=.ok (.value (fY.enc ⟨bh,bY,ei,(0:Int),(0:Int),false⟩)) w:=
 gT (eT:=[(0,bH),(1,cp),(2,fE)]) (fC:=[(0,.int .i64 (bh)),(1,.int .i64 (bY)),(2,.int .i64 (ei))]) (bd:=j3.cells ⟨bh,bY,ei,(0:Int),(0:Int),false⟩) aj Tryz.underlying142 wX (by have:=ET; simp only[Program.fieldsOf,Tryz.underlying142] at this; exact this) (by simp only[List.map_cons,List.map_nil,ah,I,R]) (by kernel_rfl)
theorem R6{n f w G bH cp fE ej dk dQ bh bY ei gg mh v3}(aj:G.op=.build 142 #[(0,bH),(1,cp),(2,fE),(3,ej),(4,dk),(5,dQ)])(ah:ad n f bH=.int .i64 (bh))(I:ad n f cp=.int .i64 (bY))(R:ad n f fE=.int .i64 (ei))(aK:ad n f ej=.int .i64 (gg))(bp:ad n f dk=.int .i64 (mh))(dz:ad n f dQ=.bool (v3)):(execOp (ad n f) G).run Pg w=.ok (.value (fY.enc ⟨bh,bY,ei,gg,mh,v3⟩)) w:=
 gT (eT:=[(0,bH),(1,cp),(2,fE),(3,ej),(4,dk),(5,dQ)]) (fC:=[(0,.int .i64 (bh)),(1,.int .i64 (bY)),(2,.int .i64 (ei)),(3,.int .i64 (gg)),(4,.int .i64 (mh)),(5,.bool (v3))]) (bd:=j3.cells ⟨bh,bY,ei,gg,mh,v3⟩) aj Tryz.underlying142 wX (by have:=ET; simp only[Program.fieldsOf,Tryz.underlying142] at this; exact this) (by simp only[List.map_cons,List.map_nil,ah,I,R,aK,bp,dz]) (by kernel_rfl)
theorem adm{n f w G bH cp ej dk bh bY gg mh}(aj:G.op=.build 142 #[(0,bH),(1,cp),(3,ej),(4,dk)])(ah:ad n f bH=.int .i64 (bh))(I:ad n f cp=.int .i64 (bY))(aK:ad n f ej=.int .i64 (gg))(bp:ad n f dk=.int .i64 (mh)):(execOp (ad n f) G).run Pg w=.ok (.value (fY.enc ⟨bh,bY,(0:Int),gg,mh,false⟩)) w:=
 gT (eT:=[(0,bH),(1,cp),(3,ej),(4,dk)]) (fC:=[(0,.int .i64 (bh)),(1,.int .i64 (bY)),(3,.int .i64 (gg)),(4,.int .i64 (mh))]) (bd:=j3.cells ⟨bh,bY,(0:Int),gg,mh,false⟩) aj Tryz.underlying142 wX (by have:=ET; simp only[Program.fieldsOf,Tryz.underlying142] at this; exact this) (by simp only[List.map_cons,List.map_nil,ah,I,aK,bp]) (by kernel_rfl)
theorem R7{n f w G bH fE bh ei}(aj:G.op=.build 142 #[(0,bH),(2,fE)])(ah:ad n f bH=.int .i64 (bh))(R:ad n f fE=.int .i64 (ei)):(execOp (ad n f) G).run Pg w=.ok (.value (fY.enc ⟨bh,(0:Int),ei,(0:Int),(0:Int),false⟩)) w:=
 gT (eT:=[(0,bH),(2,fE)]) (fC:=[(0,.int .i64 (bh)),(2,.int .i64 (ei))]) (bd:=j3.cells ⟨bh,(0:Int),ei,(0:Int),(0:Int),false⟩) aj Tryz.underlying142 wX (by have:=ET; simp only[Program.fieldsOf,Tryz.underlying142] at this; exact this) (by simp only[List.map_cons,List.map_nil,ah,R]) (by kernel_rfl)
theorem adn{n f w G bH cp bh bY}(aj:G.op=.build 150 #[(0,bH),(1,cp)])(ah:ad n f bH=.pointer (bh))(I:ad n f cp=.pointer (bY)):(execOp (ad n f) G).run Pg w=.ok (.value (Bk.enc ⟨bh,bY⟩)) w:=
 gT (eT:=[(0,bH),(1,cp)]) (fC:=[(0,.pointer (bh)),(1,.pointer (bY))]) (bd:=xJ.cells ⟨bh,bY⟩) aj Tryz.underlying150 aa1 (by have:=aEN; simp only[Program.fieldsOf,Tryz.underlying150] at this; exact this) (by simp only[List.map_cons,List.map_nil,ah,I]) (by kernel_rfl)
theorem ado{n f w G bH cp bh bY}(aj:G.op=.build 161 #[(0,bH),(1,cp)])(ah:ad n f bH=.int .i64 (bh))(I:ad n f cp=eW.enc (bY)):(execOp (ad n f) G).run Pg w=.ok (.value (ws.enc ⟨bh,bY⟩)) w:=
 gT (eT:=[(0,bH),(1,cp)]) (fC:=[(0,.int .i64 (bh)),(1,eW.enc (bY))]) (bd:=tH.cells ⟨bh,bY⟩) aj Tryz.underlying161 QR (by have:=aEO; simp only[Program.fieldsOf,Tryz.underlying161] at this; exact this) (by simp only[List.map_cons,List.map_nil,ah,I]) (by kernel_rfl)
theorem adp{n f w G }(aj:G.op=.build 164 #[]):(execOp (ad n f) G).run Pg w=.ok (.value (fF.enc ⟨⟩)) w:=
 gT (eT:=[]) (fC:=[]) (bd:=o8.cells ⟨⟩) aj Tryz.underlying164 QS (by have:=aEP; simp only[Program.fieldsOf,Tryz.underlying164] at this; exact this) (by simp only[List.map_cons,List.map_nil]) (by kernel_rfl)
theorem adq{n f w G bH cp fE ej bh bY ei gg}(aj:G.op=.build 173 #[(0,bH),(1,cp),(2,fE),(3,ej)])(ah:ad n f bH=.int .i64 (bh))(I:ad n f cp=.int .i64 (bY))(R:ad n f fE=.int .i64 (ei))(aK:ad n f ej=.bool (gg)):(execOp (ad n f) G).run Pg w=.ok (.value (Bl.enc ⟨bh,bY,ei,gg⟩)) w:=
 gT (eT:=[(0,bH),(1,cp),(2,fE),(3,ej)]) (fC:=[(0,.int .i64 (bh)),(1,.int .i64 (bY)),(2,.int .i64 (ei)),(3,.bool (gg))]) (bd:=tI.cells ⟨bh,bY,ei,gg⟩) aj Tryz.underlying173 aa2 (by have:=aEQ; simp only[Program.fieldsOf,Tryz.underlying173] at this; exact this) (by simp only[List.map_cons,List.map_nil,ah,I,R,aK]) (by kernel_rfl)
theorem adr{n f w G cp bY}(aj:G.op=.build 175 #[(1,cp)])(I:ad n f cp=.float .f64 (bY)):(execOp (ad n f) G).run Pg w=.ok (.value (Bm.enc ⟨Gd,bY,(0:Int),(0:Int)⟩)) w:=
 gT (eT:=[(1,cp)]) (fC:=[(1,.float .f64 (bY))]) (bd:=tJ.cells ⟨Gd,bY,(0:Int),(0:Int)⟩) aj Tryz.underlying175 aa3 (by have:=aER; simp only[Program.fieldsOf,Tryz.underlying175] at this; exact this) (by simp only[List.map_cons,List.map_nil,I]) (by kernel_rfl)
theorem ads{n f w G bH ej bh gg}(aj:G.op=.build 178 #[(0,bH),(3,ej)])(ah:ad n f bH=.int .i64 (bh))(aK:ad n f ej=.map (gg)):(execOp (ad n f) G).run Pg w=.ok (.value (Ds.enc ⟨bh,(0:Int),(⟨none,0,0⟩:af),gg⟩)) w:=
 gT (eT:=[(0,bH),(3,ej)]) (fC:=[(0,.int .i64 (bh)),(3,.map (gg))]) (bd:=xK.cells ⟨bh,(0:Int),(⟨none,0,0⟩:af),gg⟩) aj Tryz.underlying178 aa4 (by have:=aES; simp only[Program.fieldsOf,Tryz.underlying178] at this; exact this) (by simp only[List.map_cons,List.map_nil,ah,aK]) (by kernel_rfl)
theorem adt{n f w G bH bh}(aj:G.op=.build 182 #[(0,bH)])(ah:ad n f bH=X.enc (bh)):(execOp (ad n f) G).run Pg w=.ok (.value (Bn.enc ⟨bh,(0:Int),false,(0:Int),(⟨none,0,0⟩:af)⟩)) w:=
 gT (eT:=[(0,bH)]) (fC:=[(0,X.enc (bh))]) (bd:=wm.cells ⟨bh,(0:Int),false,(0:Int),(⟨none,0,0⟩:af)⟩) aj Tryz.underlying182 aa5 (by have:=aET; simp only[Program.fieldsOf,Tryz.underlying182] at this; exact this) (by simp only[List.map_cons,List.map_nil,ah]) (by kernel_rfl)
theorem R8{n f w G bH bh}(aj:G.op=.build 197 #[(0,bH)])(ah:ad n f bH=.int .i64 (bh)):(execOp (ad n f) G).run Pg w=.ok (.value (gy.enc ⟨bh,(0:Int),(0:Int),(0:Nat),([]:List UInt8)⟩)) w:=
 gT (eT:=[(0,bH)]) (fC:=[(0,.int .i64 (bh))]) (bd:=m5.cells ⟨bh,(0:Int),(0:Int),(0:Nat),([]:List UInt8)⟩) aj Tryz.underlying197 wY (by have:=RU; simp only[Program.fieldsOf,Tryz.underlying197] at this; exact this) (by simp only[List.map_cons,List.map_nil,ah]) (by kernel_rfl)
theorem adu{n f w G bH cp bh bY}(aj:G.op=.build 197 #[(0,bH),(1,cp)])(ah:ad n f bH=.int .i64 (bh))(I:ad n f cp=.int .u64 (bY)):(execOp (ad n f) G).run Pg w=.ok (.value (gy.enc ⟨bh,bY,(0:Int),(0:Nat),([]:List UInt8)⟩)) w:=
 gT (eT:=[(0,bH),(1,cp)]) (fC:=[(0,.int .i64 (bh)),(1,.int .u64 (bY))]) (bd:=m5.cells ⟨bh,bY,(0:Int),(0:Nat),([]:List UInt8)⟩) aj Tryz.underlying197 wY (by have:=RU; simp only[Program.fieldsOf,Tryz.underlying197] at this; exact this) (by simp only[List.map_cons,List.map_nil,ah,I]) (by kernel_rfl)
theorem adv{n f w G bH fE bh ei}(aj:G.op=.build 197 #[(0,bH),(2,fE)])(ah:ad n f bH=.int .i64 (bh))(R:ad n f fE=.int .i64 (ei)):(execOp (ad n f) G).run Pg w=.ok (.value (gy.enc ⟨bh,(0:Int),ei,(0:Nat),([]:List UInt8)⟩)) w:=
 gT (eT:=[(0,bH),(2,fE)]) (fC:=[(0,.int .i64 (bh)),(2,.int .i64 (ei))]) (bd:=m5.cells ⟨bh,(0:Int),ei,(0:Nat),([]:List UInt8)⟩) aj Tryz.underlying197 wY (by have:=RU; simp only[Program.fieldsOf,Tryz.underlying197] at this; exact this) (by simp only[List.map_cons,List.map_nil,ah,R]) (by kernel_rfl)
theorem adw{n f w G bH cp bh bY}(aj:G.op=.build 210 #[(0,bH),(1,cp)])(ah:ad n f bH=.bool (bh))(I:ad n f cp=.bool (bY)):(execOp (ad n f) G).run Pg w=.ok (.value (m7.enc ⟨bh,bY,(0:Int)⟩)) w:=
 gT (eT:=[(0,bH),(1,cp)]) (fC:=[(0,.bool (bh)),(1,.bool (bY))]) (bd:=lS.cells ⟨bh,bY,(0:Int)⟩) aj Tryz.underlying210 QU (by have:=aEU; simp only[Program.fieldsOf,Tryz.underlying210] at this; exact this) (by simp only[List.map_cons,List.map_nil,ah,I]) (by kernel_rfl)
theorem adx{n f w G bH cp bh bY}(aj:G.op=.build 212 #[(0,bH),(1,cp)])(ah:ad n f bH=.bool (bh))(I:ad n f cp=.bool (bY)):(execOp (ad n f) G).run Pg w=.ok (.value ((qM bo 2).enc (⟨#[bh,bY],rfl⟩:(Vector Bool 2)))) w:=
 aFu (eT:=[(0,bH),(1,cp)]) (fC:=[(0,.bool (bh)),(1,.bool (bY))]) (bd:=(qM bo 2).cells (⟨#[bh,bY],rfl⟩:(Vector Bool 2))) aj Tryz.underlying212 aa8 oR.size (by simp only[List.map_cons,List.map_nil,ah,I]) (by rfl)
theorem ady{n f w G bH bh}(aj:G.op=.build 214 #[(0,bH)])(ah:ad n f bH=gz.enc (bh)):(execOp (ad n f) G).run Pg w=.ok (.value (Dt.enc ⟨bh,(Vector.replicate 2 q3),(Vector.replicate 2 false),(0:Int),(0:Int)⟩)) w:=
 gT (eT:=[(0,bH)]) (fC:=[(0,gz.enc (bh))]) (bd:=sO.cells ⟨bh,(Vector.replicate 2 q3),(Vector.replicate 2 false),(0:Int),(0:Int)⟩) aj Tryz.underlying214 aa9 (by have:=aEV; simp only[Program.fieldsOf,Tryz.underlying214] at this; exact this) (by simp only[List.map_cons,List.map_nil,ah]) (by kernel_rfl)
theorem adz{n f w G bH bh}(aj:G.op=.build 218 #[(0,bH)])(ah:ad n f bH=.map (bh)):(execOp (ad n f) G).run Pg w=.ok (.value (qi.enc ⟨bh,(0:Int),(0:Int)⟩)) w:=
 gT (eT:=[(0,bH)]) (fC:=[(0,.map (bh))]) (bd:=xL.cells ⟨bh,(0:Int),(0:Int)⟩) aj Tryz.underlying218 aba (by have:=aEW; simp only[Program.fieldsOf,Tryz.underlying218] at this; exact this) (by simp only[List.map_cons,List.map_nil,ah]) (by kernel_rfl)
theorem adA{n f w G }(aj:G.op=.build 223 #[]):(execOp (ad n f) G).run Pg w=.ok (.value (Du.enc ⟨(0:Int)⟩)) w:=
 gT (eT:=[]) (fC:=[]) (bd:=xM.cells ⟨(0:Int)⟩) aj Tryz.underlying223 abb (by have:=aEX; simp only[Program.fieldsOf,Tryz.underlying223] at this; exact this) (by simp only[List.map_cons,List.map_nil]) (by kernel_rfl)
theorem R9{n f w G bH cp bh bY}(aj:G.op=.build 236 #[(0,bH),(1,cp)])(ah:ad n f bH=.int .i64 (bh))(I:ad n f cp=.int .i64 (bY)):(execOp (ad n f) G).run Pg w=.ok (.value (Bo.enc ⟨bh,bY⟩)) w:=
 gT (eT:=[(0,bH),(1,cp)]) (fC:=[(0,.int .i64 (bh)),(1,.int .i64 (bY))]) (bd:=sP.cells ⟨bh,bY⟩) aj Tryz.underlying236 abc (by have:=aEY; simp only[Program.fieldsOf,Tryz.underlying236] at this; exact this) (by simp only[List.map_cons,List.map_nil,ah,I]) (by kernel_rfl)
theorem R_{n f w G bH cp fE bh bY ei}(aj:G.op=.build 238 #[(0,bH),(1,cp),(2,fE)])(ah:ad n f bH=Bo.enc (bh))(I:ad n f cp=.pointer (bY))(R:ad n f fE=.int .i64 (ei)):(execOp (ad n f) G).run Pg w=.ok (.value (Bp.enc ⟨bh,bY,ei,false⟩)) w:=
 gT (eT:=[(0,bH),(1,cp),(2,fE)]) (fC:=[(0,Bo.enc (bh)),(1,.pointer (bY)),(2,.int .i64 (ei))]) (bd:=tK.cells ⟨bh,bY,ei,false⟩) aj Tryz.underlying238 abd (by have:=aEZ; simp only[Program.fieldsOf,Tryz.underlying238] at this; exact this) (by simp only[List.map_cons,List.map_nil,ah,I,R]) (by kernel_rfl)
theorem Sb{n f w G bH bh}(aj:G.op=.build 257 #[(0,bH)])(ah:ad n f bH=X.enc (bh)):(execOp (ad n f) G).run Pg w=.ok (.value (Dv.enc ⟨bh,(0:Int)⟩)) w:=
 gT (eT:=[(0,bH)]) (fC:=[(0,X.enc (bh))]) (bd:=wo.cells ⟨bh,(0:Int)⟩) aj Tryz.underlying257 abf (by have:=aE1; simp only[Program.fieldsOf,Tryz.underlying257] at this; exact this) (by simp only[List.map_cons,List.map_nil,ah]) (by kernel_rfl)
theorem za{n f w G bH bh}(aj:G.op=.build 259 #[(0,bH)])(ah:ad n f bH=.int .i64 (bh)):(execOp (ad n f) G).run Pg w=.ok (.value (j4.enc ⟨bh⟩)) w:=
 gT (eT:=[(0,bH)]) (fC:=[(0,.int .i64 (bh))]) (bd:=kj.cells ⟨bh⟩) aj Tryz.underlying259 Hz (by have:=aE2; simp only[Program.fieldsOf,Tryz.underlying259] at this; exact this) (by simp only[List.map_cons,List.map_nil,ah]) (by kernel_rfl)
theorem adB{n f w G }(aj:G.op=.build 292 #[]):(execOp (ad n f) G).run Pg w=.ok (.value (dR.enc ⟨(0:Int),(0:Int)⟩)) w:=
 gT (eT:=[]) (fC:=[]) (bd:=eV.cells ⟨(0:Int),(0:Int)⟩) aj Tryz.underlying292 KE (by have:=acY; simp only[Program.fieldsOf,Tryz.underlying292] at this; exact this) (by simp only[List.map_cons,List.map_nil]) (by kernel_rfl)
theorem adC{n f w G bH cp bh bY}(aj:G.op=.build 292 #[(0,bH),(1,cp)])(ah:ad n f bH=.int .i64 (bh))(I:ad n f cp=.int .i64 (bY)):(execOp (ad n f) G).run Pg w=.ok (.value (dR.enc ⟨bh,bY⟩)) w:=
 gT (eT:=[(0,bH),(1,cp)]) (fC:=[(0,.int .i64 (bh)),(1,.int .i64 (bY))]) (bd:=eV.cells ⟨bh,bY⟩) aj Tryz.underlying292 KE (by have:=acY; simp only[Program.fieldsOf,Tryz.underlying292] at this; exact this) (by simp only[List.map_cons,List.map_nil,ah,I]) (by kernel_rfl)
theorem adD{n f w G }(aj:G.op=.build 328 #[]):(execOp (ad n f) G).run Pg w=.ok (.value (wu.enc ⟨(⟨none,0,0⟩:af),(0:Int)⟩)) w:=
 gT (eT:=[]) (fC:=[]) (bd:=xN.cells ⟨(⟨none,0,0⟩:af),(0:Int)⟩) aj Tryz.underlying328 abi (by have:=aE4; simp only[Program.fieldsOf,Tryz.underlying328] at this; exact this) (by simp only[List.map_cons,List.map_nil]) (by kernel_rfl)
def bk.cB(x S:bk):Bool:=((x.aD==S.aD)&&((x.oz==S.oz)&&((x.b9==S.b9)&&true)))
theorem anU{d:Nat}{w:World}(x S:bk):(Op.equalIn (d+2) 53 (.agg (bk.cells x).toArray) (.agg (bk.cells S).toArray)).run Pg w=.ok (bk.cB x S) w:=
 GK Tryz.underlying53 (by kernel_rfl) (pd (by decide) (jx Tryz.underlying3 rfl rfl) (jx Tryz.underlying3 rfl rfl) (tX Tryz.underlying3) (pd (by decide) (jx Tryz.underlying38 rfl rfl) (jx Tryz.underlying38 rfl rfl) (tX Tryz.underlying38) (pd (by decide) (jx Tryz.underlying2 rfl rfl) (jx Tryz.underlying2 rfl rfl) (tX Tryz.underlying2) GJ)))
theorem GH(x S:bk):Tryz.prog.eqGuardType Tryz.prog.depth 53=false∧∀ w,(Op.equalIn 10000 53 (.agg (bk.cells x).toArray) (.agg (bk.cells S).toArray)).run Pg w=.ok (bk.cB x S) w:=
 ⟨by kernel_rfl,fun _=>anU (d:=9998) x S⟩
def iO.cB(x S:iO):Bool:=((x.aD==S.aD)&&((x.cl==S.cl)&&((x.b==S.b)&&((x.ir==S.ir)&&true))))
theorem anV{d:Nat}{w:World}(x S:iO):(Op.equalIn (d+2) 60 (.agg (iO.cells x).toArray) (.agg (iO.cells S).toArray)).run Pg w=.ok (iO.cB x S) w:=
 GK Tryz.underlying60 (by kernel_rfl) (pd (by decide) (jx Tryz.underlying3 rfl rfl) (jx Tryz.underlying3 rfl rfl) (tX Tryz.underlying3) (pd (by decide) (jx Tryz.underlying3 rfl rfl) (jx Tryz.underlying3 rfl rfl) (tX Tryz.underlying3) (pd (by decide) (jx Tryz.underlying2 rfl rfl) (jx Tryz.underlying2 rfl rfl) (tX Tryz.underlying2) (pd (by decide) (jx Tryz.underlying4 rfl rfl) (jx Tryz.underlying4 rfl rfl) (JU Tryz.underlying4) GJ))))
def iE.cB(x S:iE):Bool:=((x.Kind==S.Kind)&&((iO.cB x.Part S.Part)&&((x.j5==S.j5)&&((x.b9==S.b9)&&true))))
theorem anW{d:Nat}{w:World}(x S:iE):(Op.equalIn (d+3) 62 (.agg (iE.cells x).toArray) (.agg (iE.cells S).toArray)).run Pg w=.ok (iE.cB x S) w:=
 GK Tryz.underlying62 (by kernel_rfl) (pd (by decide) (jx Tryz.underlying3 rfl rfl) (jx Tryz.underlying3 rfl rfl) (tX Tryz.underlying3) (pd (by decide) (Io Tryz.underlying60 rfl EM.size rfl) (Io Tryz.underlying60 rfl EM.size rfl) (anV (d:=d) _ _) (pd (by decide) (jx Tryz.underlying4 rfl rfl) (jx Tryz.underlying4 rfl rfl) (JU Tryz.underlying4) (pd (by decide) (jx Tryz.underlying2 rfl rfl) (jx Tryz.underlying2 rfl rfl) (tX Tryz.underlying2) GJ))))
def hc.cB(x S:hc):Bool:=((x.aD==S.aD)&&((x.fR==S.fR)&&((x.fL==S.fL)&&((iE.cB x.y S.y)&&true))))
theorem anX{d:Nat}{w:World}(x S:hc):(Op.equalIn (d+4) 64 (.agg (hc.cells x).toArray) (.agg (hc.cells S).toArray)).run Pg w=.ok (hc.cB x S) w:=
 GK Tryz.underlying64 (by kernel_rfl) (pd (by decide) (jx Tryz.underlying3 rfl rfl) (jx Tryz.underlying3 rfl rfl) (tX Tryz.underlying3) (pd (by decide) (jx Tryz.underlying3 rfl rfl) (jx Tryz.underlying3 rfl rfl) (tX Tryz.underlying3) (pd (by decide) (jx Tryz.underlying3 rfl rfl) (jx Tryz.underlying3 rfl rfl) (tX Tryz.underlying3) (pd (by decide) (Io Tryz.underlying62 rfl EN.size rfl) (Io Tryz.underlying62 rfl EN.size rfl) (anW (d:=d) _ _) GJ))))
theorem GI(x S:hc):Tryz.prog.eqGuardType Tryz.prog.depth 64=false∧∀ w,(Op.equalIn 10000 64 (.agg (hc.cells x).toArray) (.agg (hc.cells S).toArray)).run Pg w=.ok (hc.cB x S) w:=
 ⟨by kernel_rfl,fun _=>anX (d:=9996) x S⟩
def lS.cB(x S:lS):Bool:=((x.said==S.said)&&((x.b7==S.b7)&&((x.g5==S.g5)&&true)))
theorem anT{d:Nat}{w:World}(x S:lS):(Op.equalIn (d+2) 210 (.agg (lS.cells x).toArray) (.agg (lS.cells S).toArray)).run Pg w=.ok (lS.cB x S) w:=
 GK Tryz.underlying210 (by kernel_rfl) (pd (by decide) (jx Tryz.underlying4 rfl rfl) (jx Tryz.underlying4 rfl rfl) (JU Tryz.underlying4) (pd (by decide) (jx Tryz.underlying4 rfl rfl) (jx Tryz.underlying4 rfl rfl) (JU Tryz.underlying4) (pd (by decide) (jx Tryz.underlying2 rfl rfl) (jx Tryz.underlying2 rfl rfl) (tX Tryz.underlying2) GJ)))
theorem JT(x S:lS):Tryz.prog.eqGuardType Tryz.prog.depth 210=false∧∀ w,(Op.equalIn 10000 210 (.agg (lS.cells x).toArray) (.agg (lS.cells S).toArray)).run Pg w=.ok (lS.cB x S) w:=
 ⟨by kernel_rfl,fun _=>anT (d:=9998) x S⟩
theorem Zi:Ext Pg 137 Extern.MathFloatBits.float64bits:=⟨_,Tryz.func137,rfl,rfl,by kernel_rfl,by kernel_rfl⟩
theorem O8:Ext Pg 227 Extern.MathFloatBits.float64frombits:=⟨_,Tryz.func227,rfl,rfl,by kernel_rfl,by kernel_rfl⟩
end bj
end Go.Proofs.YthaobmpdjcoheaaGreat
