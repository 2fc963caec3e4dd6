/- Own texts of this claim, part 0: short, merged. -/
import Derived.OrdersHeld
import Derived.Calls
import Derived.Laws.World
import Derived.KernelRfl
import Derived.WalkKit
import Derived.WalkLawsBesides
import Derived.Lib.SliceRun
import Derived.Laws.Cover3
import Derived.Laws.Pointers
import Derived.Lib.Strings
import Derived.Laws.Append
import Derived.Maps.OwnOps
import Derived.Laws.StructEq
import Derived.Maps.RangeRun
import Derived.Laws.MakeOwn
import Derived.Laws.Small
import Derived.Laws.Externs
import Derived.Laws.BytesString
import Derived.Laws.IdiomStrings
import Derived.Laws.FloatArith
import Derived.Recover
import Derived.Test.YtehclfjjjiiieaaGreatProg
namespace Go.Proofs.YtehclfjjjiiieaaGreat.Cf
set_option linter.unusedSimpArgs false
set_option linter.unusedVariables false
open Go
def upd (f : Nat → Value) (d : Nat) (v : Value) : Nat → Value := fun t => bif Nat.beq t d then v else f t
def updo (f : Nat → Value) : Option Nat → Value → (Nat → Value)
 | some d, v => upd f d v
 | none, _ => f
def act (n : Nat) (f : Nat → Value) (ds : List Deferred) : Act := { tmps := Array.ofFn (n := n) fun i => f i.1, defers := ds }
def evl (n : Nat) (f : Nat → Value) : Operand → Value
 | .tmp t => bif Nat.blt t n then f t else undef
 | .const v => v
 | .global g => .pointer (some ⟨g, 0, none⟩)
 | .func f => .func (.func f) #[] #[]
theorem upd_eq {f : Nat → Value} {d : Nat} {v : Value} (h : f d = v) : upd f d v = f := by
 funext t
 simp only [upd]
 cases hb : Nat.beq t d with
 | false => rfl
 | true => rw [Nat.eq_of_beq_eq_true hb, h]; rfl
theorem upd_step {g f : Nat → Value} {d : Nat} {v : Value} (h : g = f) (hv : f d = v) : upd g d v = f := by
 subst h; exact upd_eq hv
theorem act_eval (n : Nat) (f : Nat → Value) (ds : List Deferred) : (act n f ds).eval = evl n f := by
 funext x
 cases x with
 | tmp t =>
  simp only [Act.eval, act, evl]
  by_cases h : t < n
  ·have hb : Nat.blt t n = true := by simpa using h
   simp [h, hb]
  ·have hb : Nat.blt t n = false := by cases hb : Nat.blt t n with | false => rfl | true => exact absurd (by simpa using hb) h
   simp [h, hb]
 | const v => rfl
 | global g => rfl
 | func g => rfl
theorem act_put (n : Nat) (f : Nat → Value) (ds : List Deferred) (d : Option Nat) (v : Value) : (act n f ds).put d v = act n (updo f d v) ds := by
 cases d with
 | none => rfl
 | some d =>
  simp only [Act.put, act, updo]
  congr 1
  apply Array.ext
  ·simp
  ·intro i h1 h2
   simp only [Array.size_setIfInBounds, Array.size_ofFn] at h1
   simp only [Array.getElem_setIfInBounds, Array.size_ofFn, h1, Array.getElem_ofFn, upd]
   by_cases e : d = i
   ·subst e; simp
   ·have hb : Nat.beq i d = false := by
     cases hb : Nat.beq i d with
     | false => rfl
     | true => exact absurd (Nat.eq_of_beq_eq_true hb).symm e
    simp [e, hb]
def start (l : List Value) : Nat → Value := fun t => l.getD t undef
theorem start_act (l : List Value) (n : Nat) (h : l.length ≤ n) :
  ({ tmps := l.toArray ++ Array.replicate (n - l.toArray.size) undef, defers := [] } : Act) = act n (start l) [] := by
 simp only [act]
 congr 1
 apply Array.ext
 ·simp; omega
 ·intro i h1 h2
  simp only [Array.size_ofFn] at h2
  simp only [Array.getElem_ofFn, start, Array.getElem_append, List.size_toArray]
  by_cases hl : i < l.length
  ·simp [hl]
  ·simp [hl]
theorem calls_start {P : Program} {f : FuncId} {fn : Func} {c : Code} {l : List Value} {w : World} {R : Ending → World → Prop} (n : Nat)
  (hf : P.funcs[f]? = some fn) (hn : fn.ntmps = n) (hb : fn.body = some c) (hl : l.length ≤ n)
  (h : c.wp P (bodyPost P fn R) (act n (start l) []) w) : Calls P f l.toArray w R := by
 subst hn
 exact calls_of_wp hf hb (by rw [start_act l _ hl]; exact h)
def yieldedF (n : Nat) (ops : Array Oper) (f : Nat → Value) (j : Nat) : Option Bool :=
 match (ops[j]?).bind (·.dst) with
 | some d => (match evl n f (.tmp d) with | .bool b => some b | _ => none)
 | none => none
theorem yielded_act (n : Nat) (ops : Array Oper) (f : Nat → Value) (ds : List Deferred) (j : Nat) :
  yielded ops (act n f ds).tmps j = yieldedF n ops f j := by
 unfold yielded yieldedF
 cases h : (ops[j]?).bind (·.dst) with
 | none => rfl
 | some d =>
  simp only [Option.bind_some, act, evl]
  by_cases hd : d < n
  ·have hb : Nat.blt d n = true := by simpa using hd
   simp [hd, hb]
   cases f d <;> rfl
  ·have hb : Nat.blt d n = false := by cases hb : Nat.blt d n with | false => rfl | true => exact absurd (by simpa using hb) hd
   simp [hd, hb, undef]
inductive Lets (n : Nat) (ops : Array Oper) (f : Nat → Value) (o : Oper) : Prop
 | free (h : o.guard = none)
 | by_ (j : Nat) (b : Bool) (d : Nat) (c : Bool) (hg : o.guard = some (j, b)) (hj : (ops[j]?).bind (·.dst) = some d) (hv : evl n f (.tmp d) = .bool c) (hc : c = b)
theorem Lets.wanted {n : Nat} {ops : Array Oper} {f : Nat → Value} {o : Oper} {ds : List Deferred} (h : Lets n ops f o) :
  Region.wanted o (yielded ops (act n f ds).tmps) = true := by
 cases h with
 | free h => simp [Region.wanted, h]
 | by_ j b d c hg hj hv hc =>
  simp only [Region.wanted, hg, yielded_act, yieldedF, hj, hv, hc]
  simp
inductive Bars (n : Nat) (ops : Array Oper) (f : Nat → Value) (o : Oper) : Prop
 | by_ (j : Nat) (b : Bool) (d : Nat) (c : Bool) (hg : o.guard = some (j, b)) (hj : (ops[j]?).bind (·.dst) = some d) (hv : evl n f (.tmp d) = .bool c) (hc : c = !b)
 | undef (j : Nat) (b : Bool) (d : Nat) (hg : o.guard = some (j, b)) (hj : (ops[j]?).bind (·.dst) = some d) (hv : evl n f (.tmp d) = undef)
theorem Bars.wanted {n : Nat} {ops : Array Oper} {f : Nat → Value} {o : Oper} {ds : List Deferred} (h : Bars n ops f o) :
  Region.wanted o (yielded ops (act n f ds).tmps) = false := by
 cases h with
 | by_ j b d c hg hj hv hc =>
  simp only [Region.wanted, hg, yielded_act, yieldedF, hj, hv, hc]
  cases b <;> simp
 | undef j b d hg hj hv =>
  simp only [Region.wanted, hg, yielded_act, yieldedF, hj, hv, undef]
  rfl
@[irreducible] def Wo (P : Program) (ops : Array Oper) (Q : Exit → Act → World → Prop) (l : List Nat) (a : Act) (w : World) : Prop := wpOps P ops Q l a w
@[irreducible] def Ow (P : Program) (o : Oper) (a : Act) (w : World) (next : Act → World → Prop) (Q : Exit → Act → World → Prop) : Prop := o.wp P a w next Q
theorem Ow_eq {P : Program} {o : Oper} {a : Act} {w : World} {next : Act → World → Prop} {Q : Exit → Act → World → Prop} : Ow P o a w next Q = o.wp P a w next Q := by unfold Ow; rfl
theorem Wo_eq : Wo = wpOps := by funext P ops Q l a w; unfold Wo; rfl
section
variable {P : Program} {Q : Exit → Act → World → Prop} {n : Nat} {f : Nat → Value} {ds : List Deferred} {w w' : World} {ops : Array Oper} {i : Nat} {rest : List Nat} {o : Oper} {d : Option Nat}
theorem ofList (h : ops.toList[i]? = some o) : ops[i]? = some o := by simpa using h
theorem ro_val {v : Value} (hi : ops.toList[i]? = some o) (hg : Lets n ops f o) (hd : o.dst = d) (hv : (execOp (evl n f) o).run P w = .ok (.value v) w')
  (h : Wo P ops Q rest (act n (updo f d v) ds) w') : Wo P ops Q (i :: rest) (act n f ds) w := by
 subst hd
 rw [Wo_eq] at *
 rw [wpOps_cons]
 simp only [wpOp, ofList hi, hg.wanted, if_true]
 left
 simp only [Oper.wp, act_eval, hv, Oper.upon_value, act_put]
 exact h
theorem ro_skip (hi : ops.toList[i]? = some o) (hg : Lets n ops f o) (hd : o.dst = d) (hv : (execOp (evl n f) o).run P w = .ok .skip w')
  (h : Wo P ops Q rest (act n (updo f d undef) ds) w') : Wo P ops Q (i :: rest) (act n f ds) w := by
 subst hd
 rw [Wo_eq] at *
 rw [wpOps_cons]
 simp only [wpOp, ofList hi, hg.wanted, if_true]
 left
 simp only [Oper.wp, act_eval, hv, Oper.upon_skip, act_put]
 exact h
theorem ro_bar (hi : ops.toList[i]? = some o) (hg : Bars n ops f o) (hd : o.dst = d)
  (h : Wo P ops Q rest (act n (updo f d undef) ds) w) : Wo P ops Q (i :: rest) (act n f ds) w := by
 subst hd
 rw [Wo_eq] at *
 rw [wpOps_cons]
 simp only [wpOp, ofList hi, hg.wanted, Bool.false_eq_true, if_false, act_put]
 exact h
theorem ro_wp (hi : ops.toList[i]? = some o) (hg : Lets n ops f o)
  (h : Ow P o (act n f ds) w (Wo P ops Q rest) Q) : Wo P ops Q (i :: rest) (act n f ds) w := by
 rw [Ow_eq] at h
 rw [Wo_eq] at *
 rw [wpOps_cons]
 simp only [wpOp, ofList hi, hg.wanted, if_true]
 exact .inl h
theorem ro_nil (h : Q .normal (act n f ds) w) : Wo P ops Q [] (act n f ds) w := by rw [Wo_eq]; exact h
theorem wp_text {id : Nat} (l : List Nat) (hl : List.range ops.size = l) (h : Wo P ops Q l (act n f ds) w) : (Code.region id ops false).wp P Q (act n f ds) w := by
 subst hl; rw [Wo_eq] at h; exact wp_region h
theorem call_wp {k : FuncId} {args : Array Value} {next : Act → World → Prop}
  (hv : (execOp (evl n f) o).run P w = .ok (.enter k args) w')
  (h : Calls P k args w' fun
   | .returned v, w'' => next (act n (updo f o.dst v) ds) w''
   | .panicked chain, w'' => Q (.panic chain) (act n f ds) w''
   | .outgrown, _ => LetsOut Q) : o.wp P (act n f ds) w next Q := by
 simp only [Oper.wp, act_eval, hv, Oper.upon_enter, act_put]
 exact h
end
section
variable {P : Program} {Q : Exit → Act → World → Prop} {ops : Array Oper}
def waits (ops : Array Oper) (j i : Nat) : Bool :=
 match ops[j]? with
 | some o => o.after.any fun e => Region.binds .any e && e.on == i
 | none => false
def wpAnyG (P : Program) (ops : Array Oper) (Q : Exit → Act → World → Prop) : List (Nat × (World → Prop)) → Nat → Array Bool → Act → World → Prop
 | _, 0, listed, a, w => Region.ready .any ops listed = [] ∧ Q .normal a w
 | G, fuel + 1, listed, a, w =>
  (Region.ready .any ops listed = [] → Q .normal a w) ∧
  ∀ i ∈ Region.ready .any ops listed, wpOp P ops Q i (fun a' w' => (∀ x ∈ G, waits ops i x.1 = false → x.2 w → x.2 w') ∧ wpAnyG P ops Q G fuel (listed.setIfInBounds i true) a' w') a w
@[irreducible] def Wg (P : Program) (ops : Array Oper) (Q : Exit → Act → World → Prop) (G : List (Nat × (World → Prop))) (k : Nat) (l : Array Bool) (a : Act) (w : World) : Prop := wpAnyG P ops Q G k l a w
theorem Wg_eq : Wg = wpAnyG := by funext P ops Q G k l a w; unfold Wg; rfl
@[irreducible] def Po (P : Program) (ops : Array Oper) (Q : Exit → Act → World → Prop) (i : Nat) (K : Act → World → Prop) (a : Act) (w : World) : Prop := wpOp P ops Q i K a w
theorem Po_eq : Po = wpOp := by funext P ops Q i K a w; unfold Po; rfl
theorem wpAny_of_G (G : List (Nat × (World → Prop))) : ∀ (fuel : Nat) (listed : Array Bool) (a : Act) (w : World), wpAnyG P ops Q G fuel listed a w → wpAny P .any ops Q fuel listed a w
 | 0, _, _, _, h => h
 | fuel + 1, _, _, _, h => ⟨h.1, fun i hi => wpOp_mono (fun a' w' h' => wpAny_of_G G fuel _ a' w' h'.2) (h.2 i hi)⟩
theorem wpAnyG_weak {x : Nat × (World → Prop)} {G : List (Nat × (World → Prop))} : ∀ (g : Nat) (l : Array Bool) (a : Act) (w : World), wpAnyG P ops Q (x :: G) g l a w → wpAnyG P ops Q G g l a w
 | 0, _, _, _, h => h
 | g + 1, _, _, _, h => ⟨h.1, fun k hk => wpOp_mono (fun a' w' h' => ⟨fun y hy hw => h'.1 y (List.mem_cons_of_mem _ hy) hw, wpAnyG_weak g _ a' w' h'.2⟩) (h.2 k hk)⟩
theorem wpAnyG_first {i : Nat} {oi : Oper} {v : Value} {S : World → Prop} (hi : ops[i]? = some oi) (hsel : ∀ (j : Nat) (o : Oper) cs b, ops[j]? = some o → o.op ≠ .select cs b)
  (hQ : ∀ c a w, Q (.panic c) (a.put oi.dst v) w → Q (.panic c) a w) (G : List (Nat × (World → Prop))) :
  ∀ (fuel : Nat) (listed : Array Bool) (a : Act) (w : World),
   (∀ j oj, ops[j]? = some oj → j ≠ i → listed.getD j true = false → (∀ e ∈ oj.after, Region.binds .any e = true → e.on ≠ i) → oi.apart ops oj = true) →
   i ∈ Region.ready .any ops listed → YieldsIf P ops S oi v a → S w →
   wpAnyG P ops Q ((i, S) :: G) fuel (listed.setIfInBounds i true) (a.put oi.dst v) w → wpAnyG P ops Q G (fuel + 1) listed a w := by
 intro fuel
 induction fuel with
 | zero =>
  intro listed a w _ hr hy hS H
  refine ⟨fun h => (by rw [h] at hr; cases hr), fun j hj => ?_⟩
  by_cases hji : j = i
  ·subst hji
   exact hy.wpOp hi hS ⟨fun x hx _ h => h, H⟩
  ·have := ready_mono hj hji
   rw [H.1] at this
   cases this
 | succ fuel ih =>
  intro listed a w hfree hr hy hS H
  refine ⟨fun h => (by rw [h] at hr; cases hr), fun j hj => ?_⟩
  by_cases hji : j = i
  ·subst hji
   exact hy.wpOp hi hS ⟨fun x hx _ h => h, wpAnyG_weak _ _ _ _ H⟩
  ·have h1 := H.2 j (ready_mono hj hji)
   obtain ⟨hjun, oj, hoj, hall⟩ := mem_ready.1 hj
   have hnot : ∀ e ∈ oj.after, Region.binds .any e = true → e.on ≠ i := fun e he hb heq => by
    have h1 := hall e he hb
    have h0 := (mem_ready.1 hr).1
    rw [heq] at h1
    rcases Nat.lt_or_ge i listed.size with h' | h'
    ·simp [h'] at h0 h1; rw [h0] at h1; cases h1
    ·simp [Array.getElem?_eq_none h'] at h1
   have hwait : waits ops j i = false := by
    simp only [waits, hoj]
    rw [Array.any_eq_false']
    intro e he
    have := hnot e he
    cases hb : Region.binds .any e <;> simp_all
   have h2 := wpOp_putIf hoj (hfree j oj hoj hji hjun hnot) (fun cs b => hsel i oi cs b hi) (fun cs b => hsel j oj cs b hoj) hQ hy h1
   have hfree' : ∀ k ok, ops[k]? = some ok → k ≠ i → (listed.setIfInBounds j true).getD k true = false →
     (∀ e ∈ ok.after, Region.binds .any e = true → e.on ≠ i) → oi.apart ops ok = true := fun k ok hk hki hun hno => by
    refine hfree k ok hk hki ?_ hno
    by_cases hjk : j = k
    ·subst hjk; exact hjun
    ·rw [getD_set_ne true hjk] at hun; exact hun
   refine wpOp_mono (fun a' w' h3 => ?_) h2
   obtain ⟨hy', hG', h4⟩ := h3
   have hS' : S w' := hG' (i, S) (List.mem_cons_self ..) hwait hS
   refine ⟨fun x hx hw => hG' x (List.mem_cons_of_mem _ hx) hw, ?_⟩
   refine ih (listed.setIfInBounds j true) a' w' hfree' (ready_mono hr (Ne.symm hji)) hy' hS' ?_
   rw [Array.setIfInBounds_comm _ _ hji]
   exact h4
theorem wpAnyG_idle {x : Nat × (World → Prop)} (hx : ∀ w, x.2 w) {G : List (Nat × (World → Prop))} : ∀ (g : Nat) (l : Array Bool) (a : Act) (w : World), wpAnyG P ops Q G g l a w → wpAnyG P ops Q (x :: G) g l a w
 | 0, _, _, _, h => h
 | g + 1, _, _, _, h => ⟨h.1, fun k hk => wpOp_mono (fun a' w' h' => ⟨fun y hy hw h0 => (List.mem_cons.1 hy).elim (fun e => e ▸ hx w') (fun hy => h'.1 y hy hw h0), wpAnyG_idle hx g _ a' w' h'.2⟩) (h.2 k hk)⟩
structure DrOk (ops : Array Oper) (Q : Exit → Act → World → Prop) : Prop where
 sel : Region.noSelect ops = true
 pan : ∀ c a d v w, (∃ o ∈ ops.toList, o.dst = d) → Q (.panic c) (Act.put a d v) w → Q (.panic c) a w
theorem wp_drawn {id : Nat} {n : Nat} {f : Nat → Value} {ds : List Deferred} {w w1 : World} (m : Nat) (hm : P.follows .mixedOrders = true) (hl : ops.size = m) (hs : Region.noSelect ops = true)
  (hQ : ∀ c a d v w, Q (.panic c) (Act.put a d v) w → Q (.panic c) a w) (hw : w1 = w.drew)
  (h : DrOk ops Q → Wg P ops Q [] m (Array.replicate m false) (act n f ds) w1) : (Code.region id ops true).wp P Q (act n f ds) w := by
 subst hl; subst hw
 rw [Wg_eq] at h
 exact wp_region_any hm (wpAny_of_G [] _ _ _ _ (h ⟨hs, fun c a d v w _ => hQ c a d v w⟩))
theorem wp_drawnE {id : Nat} {n : Nat} {f : Nat → Value} {ds : List Deferred} {w w1 : World} (m : Nat) (hm : P.follows .mixedOrders = true) (hl : ops.size = m) (hs : Region.noSelect ops = true)
  (hQ : ∀ c a d v w, (∃ o ∈ ops.toList, o.dst = d) → Q (.panic c) (Act.put a d v) w → Q (.panic c) a w) (hw : w1 = w.drew)
  (h : DrOk ops Q → Wg P ops Q [] m (Array.replicate m false) (act n f ds) w1) : (Code.region id ops true).wp P Q (act n f ds) w := by
 subst hl; subst hw
 rw [Wg_eq] at h
 exact wp_region_any hm (wpAny_of_G [] _ _ _ _ (h ⟨hs, hQ⟩))
section
variable {n k : Nat} {f : Nat → Value} {ds : List Deferred} {w w' : World} {i : Nat} {listed : Array Bool} {G : List (Nat × (World → Prop))} {o : Oper} {d : Option Nat}
theorem take_ahead {v : Value} {S : World → Prop} (hD : DrOk ops Q) (hf : Region.free .any ops listed i = true) (hr : (Region.ready .any ops listed).contains i = true) (hi : ops.toList[i]? = some o)
  (hd : o.dst = d)
  (hy : YieldsIf P ops S o v (act n f ds)) (hS : S w) (h : Wg P ops Q ((i, S) :: G) k (listed.setIfInBounds i true) (act n (updo f d v) ds) w) : Wg P ops Q G (k + 1) listed (act n f ds) w := by
 rw [Wg_eq] at *
 exact wpAnyG_first (ofList hi) (Region.noSelect_spec hD.sel) (fun c a w => hD.pan c a _ _ w ⟨o, List.mem_of_getElem? hi, rfl⟩) G k listed _ w (Region.free_spec (ofList hi) hf) (by simpa using hr) hy hS (by rw [act_put, hd]; exact h)
theorem rd_pure {v : Value} (hD : DrOk ops Q) (hf : Region.free .any ops listed i = true) (hr : (Region.ready .any ops listed).contains i = true) (hi : ops.toList[i]? = some o) (hg : Lets n ops f o) (hd : o.dst = d)
  (hv : ∀ w, (execOp (evl n f) o).run P w = .ok (.value v) w)
  (h : Wg P ops Q G k (listed.setIfInBounds i true) (act n (updo f d v) ds) w) : Wg P ops Q G (k + 1) listed (act n f ds) w :=
 take_ahead (S := fun _ => True) hD hf hr hi hd (.inl ⟨hg.wanted, fun w _ => by rw [act_eval]; exact hv w⟩) trivial (by rw [Wg_eq] at *; exact wpAnyG_idle (fun _ => trivial) _ _ _ _ h)
theorem rd_read {v : Value} (S : World → Prop) (hD : DrOk ops Q) (hf : Region.free .any ops listed i = true) (hr : (Region.ready .any ops listed).contains i = true) (hi : ops.toList[i]? = some o) (hg : Lets n ops f o) (hd : o.dst = d)
  (hv : ∀ w, S w → (execOp (evl n f) o).run P w = .ok (.value v) w) (hS : S w)
  (h : Wg P ops Q ((i, S) :: G) k (listed.setIfInBounds i true) (act n (updo f d v) ds) w) : Wg P ops Q G (k + 1) listed (act n f ds) w :=
 take_ahead hD hf hr hi hd (.inl ⟨hg.wanted, fun w hw => by rw [act_eval]; exact hv w hw⟩) hS h
theorem rd_bar (hD : DrOk ops Q) (hf : Region.free .any ops listed i = true) (hr : (Region.ready .any ops listed).contains i = true) (hi : ops.toList[i]? = some o) (hg : Bars n ops f o) (hd : o.dst = d)
  (h : Wg P ops Q G k (listed.setIfInBounds i true) (act n (updo f d undef) ds) w) : Wg P ops Q G (k + 1) listed (act n f ds) w :=
 take_ahead (S := fun _ => True) hD hf hr hi hd (.inr ⟨hg.wanted, rfl⟩) trivial (by rw [Wg_eq] at *; exact wpAnyG_idle (fun _ => trivial) _ _ _ _ h)
theorem rd_all {rs : List Nat} {a : Act} (hr : Region.ready .any ops listed = rs) (hne : rs ≠ [])
  (h : ∀ i ∈ rs, Po P ops Q i (fun a' w' => (∀ x ∈ G, waits ops i x.1 = false → x.2 w → x.2 w') ∧ Wg P ops Q G k (listed.setIfInBounds i true) a' w') a w) : Wg P ops Q G (k + 1) listed a w := by
 rw [Wg_eq, Po_eq] at *
 exact ⟨fun h0 => absurd (hr ▸ h0) hne, hr ▸ h⟩
theorem rd_one {a : Act} (hr : Region.ready .any ops listed = [i])
  (h : Po P ops Q i (fun a' w' => (∀ x ∈ G, waits ops i x.1 = false → x.2 w → x.2 w') ∧ Wg P ops Q G k (listed.setIfInBounds i true) a' w') a w) : Wg P ops Q G (k + 1) listed a w :=
 rd_all hr (by simp) fun j hj => by
  obtain rfl : j = i := by simpa using hj
  exact h
theorem rd_two {j : Nat} {a : Act} (hr : Region.ready .any ops listed = [i, j])
  (h : Po P ops Q i (fun a' w' => (∀ x ∈ G, waits ops i x.1 = false → x.2 w → x.2 w') ∧ Wg P ops Q G k (listed.setIfInBounds i true) a' w') a w)
  (h' : Po P ops Q j (fun a' w' => (∀ x ∈ G, waits ops j x.1 = false → x.2 w → x.2 w') ∧ Wg P ops Q G k (listed.setIfInBounds j true) a' w') a w) : Wg P ops Q G (k + 1) listed a w :=
 rd_all hr (by simp) fun l hl => by
  rcases List.mem_cons.1 hl with rfl | hl
  ·exact h
  ·obtain rfl : l = j := by simpa using hl
   exact h'
theorem rd_three {j m : Nat} {a : Act} (hr : Region.ready .any ops listed = [i, j, m])
  (h : Po P ops Q i (fun a' w' => (∀ x ∈ G, waits ops i x.1 = false → x.2 w → x.2 w') ∧ Wg P ops Q G k (listed.setIfInBounds i true) a' w') a w)
  (h' : Po P ops Q j (fun a' w' => (∀ x ∈ G, waits ops j x.1 = false → x.2 w → x.2 w') ∧ Wg P ops Q G k (listed.setIfInBounds j true) a' w') a w)
  (h'' : Po P ops Q m (fun a' w' => (∀ x ∈ G, waits ops m x.1 = false → x.2 w → x.2 w') ∧ Wg P ops Q G k (listed.setIfInBounds m true) a' w') a w) : Wg P ops Q G (k + 1) listed a w :=
 rd_all hr (by simp) fun l hl => by
  rcases List.mem_cons.1 hl with rfl | hl
  ·exact h
  ·rcases List.mem_cons.1 hl with rfl | hl
   ·exact h'
   ·obtain rfl : l = m := by simpa using hl
    exact h''
section
variable {K : Act → World → Prop}
theorem po_wp (hi : ops.toList[i]? = some o) (hg : Lets n ops f o) (h : Ow P o (act n f ds) w K Q) : Po P ops Q i K (act n f ds) w := by
 rw [Ow_eq] at h
 rw [Po_eq]
 simp only [wpOp, ofList hi, hg.wanted, if_true]
 exact .inl h
theorem po_val {v : Value} (hi : ops.toList[i]? = some o) (hg : Lets n ops f o) (hd : o.dst = d) (hv : (execOp (evl n f) o).run P w = .ok (.value v) w') (h : K (act n (updo f d v) ds) w') : Po P ops Q i K (act n f ds) w := by
 subst hd
 refine po_wp hi hg ?_
 rw [Ow_eq]
 simp only [Oper.wp, act_eval, hv, Oper.upon_value, act_put]
 exact h
theorem po_skip (hi : ops.toList[i]? = some o) (hg : Lets n ops f o) (hd : o.dst = d) (hv : (execOp (evl n f) o).run P w = .ok .skip w') (h : K (act n (updo f d undef) ds) w') : Po P ops Q i K (act n f ds) w := by
 subst hd
 refine po_wp hi hg ?_
 rw [Ow_eq]
 simp only [Oper.wp, act_eval, hv, Oper.upon_skip, act_put]
 exact h
theorem po_bar (hi : ops.toList[i]? = some o) (hg : Bars n ops f o) (hd : o.dst = d) (h : K (act n (updo f d undef) ds) w) : Po P ops Q i K (act n f ds) w := by
 subst hd
 rw [Po_eq]
 simp only [wpOp, ofList hi, hg.wanted, Bool.false_eq_true, if_false, act_put]
 exact h
end
theorem rd_nil {m : Nat} {a : Act} (hr : Region.ready .any ops listed = []) (h : Q .normal a w) : Wg P ops Q G m listed a w := by
 rw [Wg_eq]
 cases m with
 | zero => exact ⟨hr, h⟩
 | succ m => exact ⟨fun _ => h, by rw [hr]; simp⟩
theorem hk_nil {j : Nat} : ∀ x ∈ ([] : List (Nat × (World → Prop))), waits ops j x.1 = false → x.2 w → x.2 w' := fun x hx => absurd hx (List.not_mem_nil)
theorem hk_wait {j i : Nat} {S : World → Prop} (h : waits ops j i = true) (t : ∀ x ∈ G, waits ops j x.1 = false → x.2 w → x.2 w') : ∀ x ∈ (i, S) :: G, waits ops j x.1 = false → x.2 w → x.2 w' := by
 intro x hx hf
 rcases List.mem_cons.1 hx with rfl | hx
 ·rw [h] at hf; cases hf
 ·exact t x hx hf
theorem hk_keep {j i : Nat} {S : World → Prop} (h : S w → S w') (t : ∀ x ∈ G, waits ops j x.1 = false → x.2 w → x.2 w') : ∀ x ∈ (i, S) :: G, waits ops j x.1 = false → x.2 w → x.2 w' := by
 intro x hx hf
 rcases List.mem_cons.1 hx with rfl | hx
 ·exact h
 ·exact t x hx hf
end
end
end Go.Proofs.YtehclfjjjiiieaaGreat.Cf
namespace Go.Proofs.YtehclfjjjiiieaaGreat.Cf
set_option linter.unusedSimpArgs false
set_option linter.unusedVariables false
open Go
structure Ty (α : Type) where
 enc : α → Value
 cells : α → List Value
structure Slc where
 a : Option Addr
 len : Nat
 cap : Nat
inductive Fv where
 | nil
 | mk (fn : Fn) (first captured : Array Value)
def Fv.enc : Fv → Value
 | .nil => .nilFunc
 | .mk f a c => .func f a c
inductive Iv where
 | nil
 | mk (t : TypeId) (v : Value)
def Iv.enc : Iv → Value
 | .nil => .nilIface
 | .mk t v => .iface t v
theorem Fv.one (x : Fv) : x.enc.oneCell' = true := by cases x <;> rfl
theorem Fv.flat (x : Fv) : x.enc.cells = #[x.enc] := by cases x <;> rfl
theorem Iv.one (x : Iv) : x.enc.oneCell' = true := by cases x <;> rfl
theorem Iv.flat (x : Iv) : x.enc.cells = #[x.enc] := by cases x <;> rfl
@[reducible] def tInt (k : IntKind) : Ty Int := ⟨fun n => .int k n, fun n => [.int k n]⟩
@[reducible] def tBool : Ty Bool := ⟨fun b => .bool b, fun b => [.bool b]⟩
@[reducible] def tFlt : Ty Nat := ⟨fun b => .float .f64 b, fun b => [.float .f64 b]⟩
@[reducible] def tStr : Ty (List UInt8) := ⟨fun s => .string ⟨s.toArray⟩, fun s => [.string ⟨s.toArray⟩]⟩
@[reducible] def tPtr : Ty (Option Addr) := ⟨fun a => .pointer a, fun a => [.pointer a]⟩
@[reducible] def tSlc : Ty Slc := ⟨fun s => .slice s.a s.len s.cap, fun s => [.slice s.a s.len s.cap]⟩
@[reducible] def tMap : Ty (Option Nat) := ⟨fun r => .map r, fun r => [.map r]⟩
@[reducible] def tFun : Ty Fv := ⟨fun x => x.enc, fun x => [x.enc]⟩
@[reducible] def tAgg {α : Type} (c : α → List Value) : Ty α := ⟨fun x => .agg (c x).toArray, c⟩
@[reducible] def tTup2 {α β : Type} (A : Ty α) (B : Ty β) : Ty (α × β) := ⟨fun x => .tuple #[A.enc x.1, B.enc x.2], fun _ => []⟩
@[reducible] def tTup3 {α β γ : Type} (A : Ty α) (B : Ty β) (C : Ty γ) : Ty (α × β × γ) := ⟨fun x => .tuple #[A.enc x.1, B.enc x.2.1, C.enc x.2.2], fun _ => []⟩
@[reducible] def tUnit : Ty Unit := ⟨fun _ => .tuple #[], fun _ => []⟩
def aggD : TypeDesc → Bool
 | .struct _ | .array _ _ => true
 | _ => false
structure TyOk (P : Program) (t : TypeId) {α : Type} (T : Ty α) (n : Nat) : Prop where
 size : ∃ i, P.info? t = some i ∧ i.size = n
 len : ∀ x, (T.cells x).length = n
 shape : (∃ d, P.underlying t = some d ∧ aggD d = true ∧ ∀ x, T.enc x = .agg (T.cells x).toArray) ∨
  (∃ d, P.underlying t = some d ∧ aggD d = false ∧ n = 1 ∧ ∀ x, T.cells x = [T.enc x])
 flat : ∀ x, (T.enc x).cells = (T.cells x).toArray
 one : ∀ x, ∀ v ∈ T.cells x, v.oneCell' = true
def Rd (w : World) (a : Addr) (cs : List Value) : Prop := ∀ j v, cs[j]? = some v → w.cell? (a.add j) = some v
def Wr (w : World) (a : Addr) (n : Nat) : Prop := ∀ j, j < n → (w.cell? (a.add j)).isSome = true ∧ w.frozen? (a.add j) = false
def putc : World → Addr → Nat → List Value → World
 | w, _, _, [] => w
 | w, a, i, v :: l => putc (w.setCell (a.add i) v) a (i + 1) l
theorem run_loadCellsFrom (P : Program) (w : World) (a : Addr) : ∀ (cs : List Value) (i : Nat) (acc : Array Value),
  (∀ j v, cs[j]? = some v → w.cell? (a.add (i + j)) = some v) → (loadCellsFrom a i cs.length acc).run P w = .ok (acc ++ cs.toArray) w
 | [], i, acc, _ => by simp [loadCellsFrom]
 | v :: cs, i, acc, h => by
  have h0 := h 0 v rfl
  simp only [Nat.add_zero] at h0
  simp only [List.length_cons, loadCellsFrom, Sem.run_bind, run_load, h0, Result.andThen_ok]
  rw [run_loadCellsFrom P w a cs (i + 1) (acc.push v)]
  ·simp
  ·intro j u hu
   have := h (j + 1) u (by simpa using hu)
   rwa [show i + 1 + j = i + (j + 1) from by omega]
theorem run_isAgg {P : Program} {t : TypeId} {d : TypeDesc} (h : P.underlying t = some d) (w : World) :
  (isAgg t).run P w = .ok (aggD d) w := by
 simp only [isAgg, Sem.run_bind, run_underlying h, Result.andThen_ok]
 cases d <;> rfl
theorem run_sizeOf {P : Program} {t : TypeId} {i : TypeInfo} (h : P.info? t = some i) (w : World) : (sizeOf t).run P w = .ok i.size w := by
 simp [sizeOf, typeInfo, h]
theorem run_loadVar {P : Program} {t : TypeId} {α : Type} {T : Ty α} {n : Nat} (ok : TyOk P t T n) {w : World} {a : Addr} {x : α} (h : Rd w a (T.cells x)) :
  (loadVar t a).run P w = .ok (T.enc x) w := by
 obtain ⟨i, hi, hn⟩ := ok.size
 have hl := ok.len x
 rcases ok.shape with ⟨d, hd, hs, he⟩ | ⟨d, hd, hs, h1, he⟩
 ·simp only [loadVar, Sem.run_bind, run_isAgg hd, hs, Result.andThen_ok, if_true, run_sizeOf hi, loadCells]
  rw [show i.size = (T.cells x).length from by omega, run_loadCellsFrom P w a (T.cells x) 0 #[] (by intro j v hv; rw [Nat.zero_add]; exact h j v hv)]
  simp [he x]
 ·simp only [loadVar, Sem.run_bind, run_isAgg hd, hs, Result.andThen_ok, Bool.false_eq_true, if_false, run_load]
  have := h 0 (T.enc x) (by simp [he x])
  rw [show a.add 0 = a from by simp [Addr.add]] at this
  simp [this]
theorem run_storeCells {P : Program} (a : Addr) : ∀ (cs : List Value) (i : Nat) (w : World),
  (∀ j, j < cs.length → (w.cell? (a.add (i + j))).isSome = true ∧ w.frozen? (a.add (i + j)) = false) → (∀ v ∈ cs, v.oneCell' = true) →
   (storeCells a cs i).run P w = .ok () (putc w a i cs)
 | [], i, w, _, _ => by simp [storeCells, putc]
 | v :: cs, i, w, h, h1 => by
  obtain ⟨h0, hf⟩ := h 0 (by simp)
  rw [Nat.add_zero] at h0 hf
  obtain ⟨u, hu⟩ := Option.isSome_iff_exists.1 h0
  simp only [storeCells, Sem.run_bind, run_store P w (a.add i) v .plain (h1 v (by simp)), hu, hf, Bool.false_eq_true, if_false, Result.andThen_ok, putc]
  refine run_storeCells a cs (i + 1) _ ?_ (fun v hv => h1 v (by simp [hv]))
  intro j hj
  obtain ⟨g0, gf⟩ := h (j + 1) (by simpa using hj)
  rw [show i + (j + 1) = i + 1 + j from by omega] at g0 gf
  refine ⟨?_, by simpa using gf⟩
  by_cases e : a.add i = a.add (i + 1 + j)
  ·rw [← e]; simp [World.cell?_setCell_same _ _ v hu]
  ·rw [World.cell?_setCell_other _ _ _ v e]; exact g0
theorem run_storeVar {P : Program} {t : TypeId} {α : Type} {T : Ty α} {n : Nat} (ok : TyOk P t T n) {w : World} {a : Addr} {x : α} (h : Wr w a n) :
  (storeVar t a (T.enc x)).run P w = .ok () (putc w a 0 (T.cells x)) := by
 obtain ⟨i, hi, hn⟩ := ok.size
 have hl := ok.len x
 simp only [storeVar, Sem.run_bind, run_sizeOf hi, Result.andThen_ok, ok.flat x]
 rw [if_neg (by simp [hl, hn])]
 refine run_storeCells a _ 0 w ?_ (ok.one x)
 intro j hj
 rw [Nat.zero_add]
 exact h j (by simpa [hl] using hj)
theorem run_newVar {P : Program} {t : TypeId} {α : Type} {T : Ty α} {n : Nat} (ok : TyOk P t T n) {w : World} (x : α) :
  (newVar t (T.enc x)).run P w = .ok ⟨w.heap.size, 0, none⟩ (w.alloc (.cells (T.cells x).toArray t)) := by
 simp only [newVar, newRow, Sem.run_bind, run_newObj, Result.andThen_ok, Sem.run_pure, ok.flat x, World.alloc_eq]
def ex {α : Type} (C : α → Prop) (k : α → Prop) : Prop := ∃ x, C x ∧ k x
def kp (A B : Prop) : Prop := A ∧ B
def RdAt {α : Type} (T : Ty α) (a : Addr) (w : World) (x : α) : Prop := Rd w a (T.cells x)
def NC (p : Option Addr) (a : Addr) : Prop := p = some a
def st {α : Type} (T : Ty α) (a : Addr) (x : α) (w : World) (k : World → Prop) : Prop := Wr w a (T.cells x).length ∧ k (putc w a 0 (T.cells x))
def nw {α : Type} (t : TypeId) (T : Ty α) (x : α) (w : World) (k : Addr → World → Prop) : Prop := k ⟨w.heap.size, 0, none⟩ (w.alloc (.cells (T.cells x).toArray t))
def nwS {α : Type} (t : TypeId) (T : Ty α) (xs : List α) (w : World) (k : Addr → World → Prop) : Prop := k ⟨w.heap.size, 0, none⟩ (w.alloc (.cells (xs.flatMap T.cells).toArray t))
def IxA (s : Slc) (sz : Nat) (i : Int) (a : Addr) : Prop := ∃ b, s.a = some b ∧ 0 ≤ i ∧ i < s.len ∧ a = b.add (i.toNat * sz)
def Sub (s : Slc) (sz : Nat) (l h m : Int) (r : Slc) : Prop :=
 0 ≤ l ∧ l ≤ h ∧ h ≤ m ∧ m ≤ s.cap ∧ r = ⟨if m.toNat = l.toNat then s.a else s.a.map (·.add (l.toNat * sz)), h.toNat - l.toNat, m.toNat - l.toNat⟩
def Ret {α : Type} (T : Ty α) (R : α → World → Prop) : Ending → World → Prop
 | .returned v, w => ∃ x, v = T.enc x ∧ R x w
 | _, _ => False
def cl {α : Type} (P : Program) (f : FuncId) (args : List Value) (T : Ty α) (w : World) (k : α → World → Prop) : Prop := Calls P f args.toArray w (Ret T k)
def lp {σ : Type} (body : σ → World → (σ → World → Prop) → Prop) (s : σ) (w : World) : Prop :=
 ∃ (I : σ → World → Prop) (μ : σ → World → Nat), I s w ∧ ∀ s w, I s w → body s w fun s' w' => I s' w' ∧ μ s' w' < μ s w
theorem info_four {P : Program} {t : TypeId} {z : Value} {n b : Nat} (h : (P.info? t).map (fun i => (i.zero, i.size, i.bytes)) = some (some z, n, b)) :
  ∃ i, P.info? t = some i ∧ i.zero = some z ∧ i.size = n ∧ i.bytes = b := by
 cases hi : P.info? t with
 | none => rw [hi] at h; cases h
 | some i =>
  rw [hi] at h
  simp only [Option.map_some, Option.some.injEq, Prod.mk.injEq] at h
  exact ⟨i, rfl, h.1, h.2.1, h.2.2⟩
end Go.Proofs.YtehclfjjjiiieaaGreat.Cf
namespace Go.Proofs.YtehclfjjjiiieaaGreat.Cf
set_option linter.unusedSimpArgs false
set_option linter.unusedVariables false
open Go
section
variable {P : Program} {n : Nat} {f : Nat → Value} {w : World} {o : Oper} {x y z : Operand}
theorem q_move {v : Value} (ho : o.op = .move x) (hx : evl n f x = v) : (execOp (evl n f) o).run P w = .ok (.value v) w := by
 simp [execOp, ho, hx]
theorem q_assign {v : Value} (ho : o.op = .assign x) (hx : evl n f x = v) : (execOp (evl n f) o).run P w = .ok (.value v) w := by
 simp [execOp, ho, hx]
theorem q_pickT {v : Value} {b : Bool} (ho : o.op = .pick x y z) (hx : evl n f x = .bool b) (hb : b = true) (hy : evl n f y = v) : (execOp (evl n f) o).run P w = .ok (.value v) w := by
 subst hb; simp [execOp, ho, hx, hy, asBool]
theorem q_pickF {v : Value} {b : Bool} (ho : o.op = .pick x y z) (hx : evl n f x = .bool b) (hb : b = false) (hz : evl n f z = v) : (execOp (evl n f) o).run P w = .ok (.value v) w := by
 subst hb; simp [execOp, ho, hx, hz, asBool]
theorem q_alloc {α : Type} {T : Ty α} {m : Nat} {t : TypeId} {u : α} {a : Addr} {w' : World} (ho : o.op = .alloc t) (ok : TyOk P t T m) {by_ : Nat} (hinf : ∃ i, P.info? t = some i ∧ i.zero = some (T.enc u) ∧ i.size = m ∧ i.bytes = by_)
  (ha : a = ⟨w.heap.size, 0, none⟩) (hw : w' = w.alloc (.cells (T.cells u).toArray t)) : (execOp (evl n f) o).run P w = .ok (.value (.pointer (some a))) w' := by
 obtain ⟨i, hi, hz, _⟩ := hinf
 subst ha; subst hw; simp [execOp, ho, Instr.alloc, zeroValue, typeInfo, hi, hz, run_newVar ok]
theorem q_box {α : Type} {T : Ty α} {m : Nat} {t : TypeId} {u : α} {a : Addr} {w' : World} (ho : o.op = .box t x) (ok : TyOk P t T m) (hx : evl n f x = T.enc u)
  (ha : a = ⟨w.heap.size, 0, none⟩) (hw : w' = w.alloc (.cells (T.cells u).toArray t)) : (execOp (evl n f) o).run P w = .ok (.value (.pointer (some a))) w' := by
 subst ha; subst hw; simp [execOp, ho, hx, Instr.box, run_newVar ok]
theorem q_load {α : Type} {T : Ty α} {m : Nat} {t : TypeId} {u : α} {a : Addr} (ho : o.op = .load t x) (ok : TyOk P t T m) (hx : evl n f x = .pointer (some a)) (hr : Rd w a (T.cells u)) :
  (execOp (evl n f) o).run P w = .ok (.value (T.enc u)) w := by
 simp [execOp, ho, hx, Instr.loadAt, Instr.sureAddr, run_loadVar ok hr]
theorem q_store {α : Type} {T : Ty α} {m : Nat} {t : TypeId} {u : α} {a : Addr} {w' : World} (ho : o.op = .store t x y) (ok : TyOk P t T m) (hx : evl n f x = .pointer (some a)) (hy : evl n f y = T.enc u)
  (hr : Wr w a (T.cells u).length) (hw : w' = putc w a 0 (T.cells u)) : (execOp (evl n f) o).run P w = .ok .skip w' := by
 subst hw; simp [execOp, ho, hx, hy, Instr.storeAt, Instr.sureAddr, run_storeVar ok (by rw [ok.len] at hr; exact hr)]
theorem q_nilCheck {a : Addr} (ho : o.op = .nilCheck x) (hx : evl n f x = .pointer (some a)) : (execOp (evl n f) o).run P w = .ok (.value (.pointer (some a))) w := by
 simp [execOp, ho, hx]
theorem q_add {k : IntKind} {a b : Int} {t u : TypeId} (ho : o.op = .binOp .add t x y u) (hx : evl n f x = .int k a) (hy : evl n f y = .int k b) :
  (execOp (evl n f) o).run P w = .ok (.value (.int k (k.wrap (a + b)))) w := by simp [execOp, ho, hx, hy, eqGuard_add, binOp_add, Op.intArith]
theorem q_sub {k : IntKind} {a b : Int} {t u : TypeId} (ho : o.op = .binOp .sub t x y u) (hx : evl n f x = .int k a) (hy : evl n f y = .int k b) :
  (execOp (evl n f) o).run P w = .ok (.value (.int k (k.wrap (a - b)))) w := by simp [execOp, ho, hx, hy, eqGuard_sub, binOp_sub, Op.intArith]
theorem q_mul {k : IntKind} {a b : Int} {t u : TypeId} (ho : o.op = .binOp .mul t x y u) (hx : evl n f x = .int k a) (hy : evl n f y = .int k b) :
  (execOp (evl n f) o).run P w = .ok (.value (.int k (k.wrap (a * b)))) w := by simp [execOp, ho, hx, hy, eqGuard_mul, binOp_mul, Op.intArith]
theorem q_and {k : IntKind} {a b : Int} {t u : TypeId} (ho : o.op = .binOp .and t x y u) (hx : evl n f x = .int k a) (hy : evl n f y = .int k b) :
  (execOp (evl n f) o).run P w = .ok (.value (.int k (bits .and k a b))) w := by simp [execOp, ho, hx, hy, eqGuard_and, binOp_and, intBits_and]
theorem q_or {k : IntKind} {a b : Int} {t u : TypeId} (ho : o.op = .binOp .or t x y u) (hx : evl n f x = .int k a) (hy : evl n f y = .int k b) :
  (execOp (evl n f) o).run P w = .ok (.value (.int k (bits .or k a b))) w := by simp [execOp, ho, hx, hy, eqGuard_or, binOp_or, intBits_or]
theorem q_xor {k : IntKind} {a b : Int} {t u : TypeId} (ho : o.op = .binOp .xor t x y u) (hx : evl n f x = .int k a) (hy : evl n f y = .int k b) :
  (execOp (evl n f) o).run P w = .ok (.value (.int k (bits .xor k a b))) w := by simp [execOp, ho, hx, hy, eqGuard_xor, binOp_xor, intBits_xor]
theorem q_andNot {k : IntKind} {a b : Int} {t u : TypeId} (ho : o.op = .binOp .andNot t x y u) (hx : evl n f x = .int k a) (hy : evl n f y = .int k b) :
  (execOp (evl n f) o).run P w = .ok (.value (.int k (bits .andNot k a b))) w := by simp [execOp, ho, hx, hy, eqGuard_andNot, binOp_andNot, intBits_andNot]
def Shift (b r0 r : Int) : Prop := 0 ≤ b ∧ r = r0
theorem q_shl {k yk : IntKind} {a b r : Int} {t u : TypeId} (ho : o.op = .binOp .shl t x y u) (hx : evl n f x = .int k a) (hy : evl n f y = .int yk b) (h : Shift b (k.wrap (a * 2 ^ (min b.toNat k.bits))) r) :
  (execOp (evl n f) o).run P w = .ok (.value (.int k r)) w := by
 obtain ⟨h, rfl⟩ := h
 simp [execOp, ho, hx, hy, eqGuard_shl, binOp_shl, Op.shift, Int.not_lt.2 h]
theorem q_shr {k yk : IntKind} {a b r : Int} {t u : TypeId} (ho : o.op = .binOp .shr t x y u) (hx : evl n f x = .int k a) (hy : evl n f y = .int yk b) (h : Shift b (a.fdiv (2 ^ (min b.toNat k.bits))) r) :
  (execOp (evl n f) o).run P w = .ok (.value (.int k r)) w := by
 obtain ⟨h, rfl⟩ := h
 simp [execOp, ho, hx, hy, eqGuard_shr, binOp_shr, Op.shift, Int.not_lt.2 h]
theorem q_eql {k : IntKind} {a b : Int} {t u : TypeId} (ho : o.op = .binOp .eql t x y u) (hx : evl n f x = .int k a) (hy : evl n f y = .int k b) :
  (execOp (evl n f) o).run P w = .ok (.value (.bool (a == b))) w := by simp [execOp, ho, hx, hy, eqGuard_at_int, binOp_eql]
theorem q_neq {k : IntKind} {a b : Int} {t u : TypeId} (ho : o.op = .binOp .neq t x y u) (hx : evl n f x = .int k a) (hy : evl n f y = .int k b) :
  (execOp (evl n f) o).run P w = .ok (.value (.bool (a != b))) w := by simp [execOp, ho, hx, hy, eqGuard_at_int, binOp_neq]
theorem q_lss {k : IntKind} {a b : Int} {t u : TypeId} (ho : o.op = .binOp .lss t x y u) (hx : evl n f x = .int k a) (hy : evl n f y = .int k b) :
  (execOp (evl n f) o).run P w = .ok (.value (.bool (decide (a < b)))) w := by simp [execOp, ho, hx, hy, eqGuard_lss, binOp_lss]
theorem q_leq {k : IntKind} {a b : Int} {t u : TypeId} (ho : o.op = .binOp .leq t x y u) (hx : evl n f x = .int k a) (hy : evl n f y = .int k b) :
  (execOp (evl n f) o).run P w = .ok (.value (.bool (decide (a ≤ b)))) w := by simp [execOp, ho, hx, hy, eqGuard_leq, binOp_leq]
theorem q_gtr {k : IntKind} {a b : Int} {t u : TypeId} (ho : o.op = .binOp .gtr t x y u) (hx : evl n f x = .int k a) (hy : evl n f y = .int k b) :
  (execOp (evl n f) o).run P w = .ok (.value (.bool (decide (a > b)))) w := by simp [execOp, ho, hx, hy, eqGuard_gtr, binOp_gtr]
theorem q_geq {k : IntKind} {a b : Int} {t u : TypeId} (ho : o.op = .binOp .geq t x y u) (hx : evl n f x = .int k a) (hy : evl n f y = .int k b) :
  (execOp (evl n f) o).run P w = .ok (.value (.bool (decide (a ≥ b)))) w := by simp [execOp, ho, hx, hy, eqGuard_geq, binOp_geq]
theorem q_neB {a b : Bool} {t u : TypeId} (ho : o.op = .binOp .neq t x y u) (ht : P.underlying t = some .bool) (hx : evl n f x = .bool a) (hy : evl n f y = .bool b) :
  (execOp (evl n f) o).run P w = .ok (.value (.bool (!(a == b)))) w := by simp [execOp, ho, hx, hy, eqGuard_at_bool, run_neq_bool _ _ _ _ ht]
theorem toList_toArray (s : List UInt8) : (⟨s.toArray⟩ : ByteArray).toList = s := by
 rw [ByteArray.toList_eq]
theorem q_eqS {a b : List UInt8} {t u : TypeId} (ho : o.op = .binOp .eql t x y u) (hx : evl n f x = .string ⟨a.toArray⟩) (hy : evl n f y = .string ⟨b.toArray⟩) :
  (execOp (evl n f) o).run P w = .ok (.value (.bool (a == b))) w := by simp [execOp, ho, hx, hy, eqGuard_at_string, binOp, Op.stringOp, toList_toArray]
theorem q_eqP0 {a : Option Addr} {t u e : TypeId} (ho : o.op = .binOp .eql t x y u) (ht : P.underlying t = some (.pointer e)) (hx : evl n f x = .pointer a) (hy : evl n f y = .pointer none) :
  (execOp (evl n f) o).run P w = .ok (.value (.bool a.isNone)) w := by
 have hp : P.underlying t = some (.pointer (P.pointee t)) := by simp [Program.pointee, ht]
 simp only [execOp, ho, hx, hy, eqGuard_at_pointer, bind_pure_comp, Sem.run_map, pure_bind, run_eql_pointer_nil w t a hp, Result.andThen_ok]
theorem q_not {b : Bool} {t : TypeId} (ho : o.op = .unOp .not t x) (hx : evl n f x = .bool b) :
  (execOp (evl n f) o).run P w = .ok (.value (.bool (!b))) w := by simp [execOp, ho, hx, Op.unary]
theorem q_neg {k : IntKind} {a : Int} {t : TypeId} (ho : o.op = .unOp .neg t x) (hx : evl n f x = .int k a) :
  (execOp (evl n f) o).run P w = .ok (.value (.int k (k.wrap (0 - a)))) w := by simp [execOp, ho, hx, Op.unary, Op.intArith]
theorem q_cvtI {k j : IntKind} {a : Int} {s t : TypeId} (ho : o.op = .convert s t x) (hs : P.underlying s = some (.int j)) (ht : P.underlying t = some (.int k)) (hx : evl n f x = .int j a) :
  (execOp (evl n f) o).run P w = .ok (.value (.int k (k.wrap a))) w := by
 simp [execOp, ho, hx, convert, run_underlying hs, run_underlying ht, Conv.intToInt]
theorem q_fieldAddr {t : TypeId} {fs : Array Field} {fd : Field} {a : Addr} {k off m : Nat} {α : Type} {T : Ty α} (ho : o.op = .fieldAddr t x k) (ht : P.underlying t = some (.struct fs)) (hf : fs[k]? = some fd)
  (hoff : fd.offset = off) (ok : TyOk P fd.type T m) (hm : m ≠ 0) (hx : evl n f x = .pointer (some a)) :
  (execOp (evl n f) o).run P w = .ok (.value (.pointer (some (a.add off)))) w := by
 obtain ⟨i, hi, hs⟩ := ok.size
 subst hoff
 have hs' : i.size ≠ 0 := by omega
 simp [execOp, ho, hx, Instr.fieldAt, run_underlying ht, hf, Instr.sureAddr, fieldPlace, run_sizeOf hi, hs']
theorem q_indexAddr {t e : TypeId} {a : Addr} {s : Slc} {k : IntKind} {i : Int} {m : Nat} {α : Type} {T : Ty α} (ho : o.op = .indexAddr t x y) (ht : P.underlying t = some (.slice e)) (ok : TyOk P e T m)
  (hx : evl n f x = tSlc.enc s) (hy : evl n f y = .int k i) (ha : IxA s m i a) :
  (execOp (evl n f) o).run P w = .ok (.value (.pointer (some a))) w := by
 obtain ⟨fo, hi, hs⟩ := ok.size
 obtain ⟨b, hb, h0, h1, rfl⟩ := ha
 simp [execOp, ho, hx, hy, Instr.indexAt, asIntOf, run_underlying ht, hb, h0, h1, run_sizeOf hi, hs]
theorem q_len {s : Slc} {t e : TypeId} (ho : o.op = .call { callee := .builtin .len, args := #[x], argTypes := #[t] }) (ht : P.underlying t = some (.slice e)) (hx : evl n f x = tSlc.enc s) :
  (execOp (evl n f) o).run P w = .ok (.value (.int .i64 s.len)) w := by
 simp [execOp, ho, hx, resolve, invoke, builtin, Builtin.len_, run_underlying ht, goInt]
theorem q_lenS {s : List UInt8} {t : TypeId} (ho : o.op = .call { callee := .builtin .len, args := #[x], argTypes := #[t] }) (ht : P.underlying t = some .string) (hx : evl n f x = .string ⟨s.toArray⟩) :
  (execOp (evl n f) o).run P w = .ok (.value (.int .i64 s.length)) w := by
 have hs : (⟨s.toArray⟩ : ByteArray).size = s.length := rfl
 simp only [execOp, ho, hx, resolve, invoke, builtin, Builtin.len_, goInt, hs]
 simp [run_underlying ht, hx, hs]
theorem q_extract {vs : Array Value} {v : Value} {i : Nat} (ho : o.op = .extract x i) (hx : evl n f x = .tuple vs) (hv : vs[i]? = some v) : (execOp (evl n f) o).run P w = .ok (.value v) w := by
 simp [execOp, ho, hx, Instr.extract, hv]
theorem q_makeFunc {fn : Fn} {a c : List Operand} {va vc : List Value} (ho : o.op = .makeFunc fn a.toArray c.toArray) (ha : a.map (evl n f) = va) (hc : c.map (evl n f) = vc) :
  (execOp (evl n f) o).run P w = .ok (.value (.func fn va.toArray vc.toArray)) w := by
 subst ha; subst hc; simp [execOp, ho, Instr.makeFunc]
def Enters (P : Program) (k : FuncId) : Prop := ∃ fn, P.funcs[k]? = some fn ∧ fn.body.isSome = true ∧ (fn.name == "runtime.NumGoroutine") = false
theorem q_call {k : FuncId} {as_ : List Operand} {ts : Array TypeId} {l : List Value} (ho : o.op = .call { callee := .value (.func k), args := as_.toArray, argTypes := ts }) (he : Enters P k) (ha : as_.map (evl n f) = l) :
  (execOp (evl n f) o).run P w = .ok (.enter k l.toArray) w := by
 obtain ⟨fn, hf, hb, hn⟩ := he
 have hb' : fn.body ≠ none := by intro h; simp [h] at hb
 subst ha
 simp [execOp, ho, resolve, evl, Deferred.ofValue, invoke, callFunc, hf, hb', beq_eq_false_iff_ne.1 hn]
theorem q_callV {k : FuncId} {as_ : List Operand} {ts : Array TypeId} {l : List Value} {c : List Value} {fv : Fv} (ho : o.op = .call { callee := .value x, args := as_.toArray, argTypes := ts }) (hx : evl n f x = fv.enc) (hfv : fv = .mk (.func k) #[] c.toArray)
  (he : Enters P k) (ha : as_.map (evl n f) = l) : (execOp (evl n f) o).run P w = .ok (.enter k (l ++ c).toArray) w := by
 obtain ⟨fn, hf, hb, hn⟩ := he
 have hb' : fn.body ≠ none := by intro h; simp [h] at hb
 subst hfv; subst ha
 simp [execOp, ho, resolve, hx, Fv.enc, Deferred.ofValue, invoke, callFunc, hf, hb', beq_eq_false_iff_ne.1 hn]
end
theorem nw_open {α : Type} {t : TypeId} {T : Ty α} {x : α} {w : World} {k : Addr → World → Prop} (h : nw t T x w k) : ∃ a w', a = ⟨w.heap.size, 0, none⟩ ∧ w' = w.alloc (.cells (T.cells x).toArray t) ∧ k a w' := ⟨_, _, rfl, rfl, h⟩
theorem st_open {α : Type} {T : Ty α} {a : Addr} {x : α} {w : World} {k : World → Prop} (h : st T a x w k) : ∃ w', w' = putc w a 0 (T.cells x) ∧ Wr w a (T.cells x).length ∧ k w' := ⟨_, rfl, h.1, h.2⟩
end Go.Proofs.YtehclfjjjiiieaaGreat.Cf
namespace Go.Proofs.YtehclfjjjiiieaaGreat.Cf
set_option linter.unusedSimpArgs false
set_option linter.unusedVariables false
open Go
section
variable {P : Program} {Q : Exit → Act → World → Prop} {n : Nat} {f : Nat → Value} {ds : List Deferred} {w w' : World} {ops : Array Oper} {i : Nat} {rest : List Nat} {o : Oper} {x y : Operand}
inductive ResIs (P : Program) (n : Nat) (f : Nat → Value) (w : World) : ResultVar → Value → Prop
 | tmp {t : Nat} {v : Value} (h : evl n f (.tmp t) = v) : ResIs P n f w (.tmp t) v
 | cell {α : Type} {T : Ty α} {m : Nat} {t : Nat} {ty : TypeId} {a : Addr} {u : α} (ok : TyOk P ty T m) (h : evl n f (.tmp t) = .pointer (some a)) (hr : Rd w a (T.cells u)) : ResIs P n f w (.cell t ty) (T.enc u)
inductive AllRes (P : Program) (n : Nat) (f : Nat → Value) (w : World) : List ResultVar → List Value → Prop
 | nil : AllRes P n f w [] []
 | cons {r : ResultVar} {v : Value} {rs : List ResultVar} {vs : List Value} (h : ResIs P n f w r v) (t : AllRes P n f w rs vs) : AllRes P n f w (r :: rs) (v :: vs)
theorem act_getD (t : Nat) : (act n f ds).tmps.getD t undef = evl n f (.tmp t) := by
 have := congrFun (act_eval n f ds) (.tmp t)
 exact this
def resG (tmps : Array Value) : ResultVar → Sem Value
 | .tmp t => pure (tmps.getD t undef)
 | .cell a t => do loadVar t (← asAddr (tmps.getD a undef))
theorem run_resIs {r : ResultVar} {v : Value} (h : ResIs P n f w r v) : (resG (act n f ds).tmps r).run P w = .ok v w := by
 cases h with
 | tmp h => simp only [resG, act_getD, h]; exact Sem.run_pure ..
 | cell ok h hr => simp only [resG, act_getD, h, asAddr, pure_bind, run_loadVar ok hr]
theorem run_mapM_res (g : ResultVar → Sem Value) : ∀ (rs : List ResultVar) (vs : List Value), (∀ (j : Nat) (r : ResultVar) (v : Value), rs[j]? = some r → vs[j]? = some v → (g r).run P w = .ok v w) → rs.length = vs.length →
  (rs.mapM g).run P w = .ok vs w
 | [], [], _, _ => by simp
 | r :: rs, v :: vs, h, hl => by
  have h0 := h 0 r v rfl rfl
  have ht := run_mapM_res g rs vs (fun j r v hr hv => h (j + 1) r v (by simpa using hr) (by simpa using hv)) (by simpa using hl)
  simp only [List.mapM_cons, Sem.run_bind, h0, Result.andThen_ok, ht, Sem.run_pure]
 | [], _ :: _, _, hl => by simp at hl
 | _ :: _, [], _, hl => by simp at hl
theorem AllRes.length {rs : List ResultVar} {vs : List Value} (h : AllRes P n f w rs vs) : rs.length = vs.length := by
 induction h with
 | nil => rfl
 | cons _ _ ih => simp [ih]
theorem AllRes.get {rs : List ResultVar} {vs : List Value} (h : AllRes P n f w rs vs) : ∀ (j : Nat) (r : ResultVar) (v : Value), rs[j]? = some r → vs[j]? = some v → ResIs P n f w r v := by
 induction h with
 | nil => intro j r v hr; simp at hr
 | cons h t ih =>
  intro j r v hr hv
  cases j with
  | zero => simp at hr hv; subst hr; subst hv; exact h
  | succ j => exact ih j r v (by simpa using hr) (by simpa using hv)
def resV : List Value → Value
 | [v] => v
 | vs => .tuple vs.toArray
theorem run_results {fn : Func} {rs : List ResultVar} {vs : List Value} (hr : fn.results = rs.toArray) (h : AllRes P n f w rs vs) :
  (results fn (act n f ds).tmps).run P w = .ok (resV vs) w := by
 have key := run_mapM_res (P := P) (w := w) (resG (act n f ds).tmps) rs vs (fun j r v hr hv => run_resIs (h.get j r v hr hv)) h.length
 have e : results fn (act n f ds).tmps = (do let us ← fn.results.mapM (resG (act n f ds).tmps); pure (if h : us.size = 1 then us[0] else .tuple us)) := rfl
 rw [e, hr, Array.mapM_eq_mapM_toList]
 simp only [bind_map_left, Sem.run_bind, key, Result.andThen_ok, Sem.run_pure]
 congr 1
 cases vs with
 | nil => rfl
 | cons v vs => cases vs with
  | nil => rfl
  | cons u vs => simp [resV]
theorem ret_ok {fn : Func} {rs : List ResultVar} {vs : List Value} {R : Ending → World → Prop} (hr : fn.results = rs.toArray) (h : AllRes P n f w rs vs) (hR : R (.returned (resV vs)) w) :
  bodyPost P fn R .ret (act n f []) w := ⟨rfl, _, run_results hr h, hR⟩
theorem end_ok {fn : Func} {rs : List ResultVar} {vs : List Value} {R : Ending → World → Prop} (hr : fn.results = rs.toArray) (h : AllRes P n f w rs vs) (hR : R (.returned (resV vs)) w) :
  bodyPost P fn R .normal (act n f []) w := ⟨rfl, _, run_results hr h, hR⟩
theorem seq_join {c d : Code} {σ : Type} {J : σ → World → Prop} {fr : (Nat → Value) → σ → (Nat → Value)}
  (hj : ∀ s g w, J s w → d.wp P Q (act n (fr g s) ds) w) (hx : c.wp P (Exit.then (fun a w => ∃ s g, a = act n (fr g s) ds ∧ J s w) Q) (act n f ds) w) : (Code.seq c d).wp P Q (act n f ds) w :=
 wp_seq_k fun K hK => wp_mono hx fun e a w h => by
  cases e <;> first
   | exact h
   | (obtain ⟨s, g, rfl, hJ⟩ := h; exact hK _ _ (hj s g w hJ))
theorem wp_if {c : Operand} {p q : Code} {b : Bool} {X Y : Prop} (hc : evl n f c = .bool b) (h : if b = true then X else Y) (hx : b = true → X → p.wp P Q (act n f ds) w) (hy : b = false → Y → q.wp P Q (act n f ds) w) :
  (Code.cond c p q).wp P Q (act n f ds) w := by
 refine wp_cond_split (t := b) (by rw [act_eval]; exact hc) (fun hb => hx hb (by simpa [hb] using h)) (fun hb => hy hb (by simpa [hb] using h))
theorem wp_no {c : Operand} {p q : Code} (hc : evl n f c = .bool false) (hy : q.wp P Q (act n f ds) w) : (Code.cond c p q).wp P Q (act n f ds) w :=
 wp_if (b := false) (X := False) (Y := True) hc (by simp) (fun h => by cases h) fun _ _ => hy
theorem ro_if {b : Bool} {X Y G : Prop} (h : if b = true then X else Y) (hx : b = true → X → G) (hy : b = false → Y → G) : G := by
 cases b
 ·exact hy rfl (by simpa using h)
 ·exact hx rfl (by simpa using h)
theorem least {p : Nat → Prop} (h : ∃ n, p n) : ∃ m, p m ∧ ∀ k, p k → m ≤ k := by
 obtain ⟨n, hn⟩ := h
 induction n using Nat.strongRecOn with
 | _ n ih =>
  by_cases hs : ∃ k, k < n ∧ p k
  ·obtain ⟨k, hk, hp⟩ := hs; exact ih k hk hp
  ·exact ⟨n, hn, fun k hk => Nat.le_of_not_lt fun hl => hs ⟨k, hl, hk⟩⟩
theorem loop_walk {c : Code} {σ : Type} {fr : (Nat → Value) → σ → (Nat → Value)} {body : σ → World → (σ → World → Prop) → Prop} {s0 : σ} {g0 : Nat → Value} (h : lp body s0 w)
    (hb : ∀ (s : σ) (g : Nat → Value) (w : World) (K : σ → World → Prop), body s w K → c.wp P (Exit.then (fun a' w' => ∃ s' g', a' = act n (fr g' s') ds ∧ K s' w') Q) (act n (fr g s) ds) w) :
    (Code.loop c).wp P Q (act n (fr g0 s0) ds) w := by
  obtain ⟨I, μ, h0, hr⟩ := h
  classical
  let J : Nat → Act → World → Prop := fun m a w => ∃ s g, a = act n (fr g s) ds ∧ I s w ∧ μ s w = m
  let ν : Act → World → Nat := fun a w => if h : ∃ m, J m a w then (least h).choose else 0
  refine wp_loop (fun a w => ∃ m, J m a w) ν ⟨_, s0, g0, rfl, h0, rfl⟩ ?_
  intro a w hI
  have hν : ν a w = (least hI).choose := by simp only [ν, dif_pos hI]
  obtain ⟨⟨s, g, rfl, hs, hm⟩, hmin⟩ := (least hI).choose_spec
  have := hb s g w _ (hr s w hs)
  refine wp_mono this fun e a' w' he => ?_
  cases e <;> first
    | exact he
    | (obtain ⟨s', g', rfl, hI', hlt⟩ := he
       have hex : ∃ m, J m (act n (fr g' s') ds) w' := ⟨_, s', g', rfl, hI', rfl⟩
       refine ⟨hex, ?_⟩
       have h1 : ν (act n (fr g' s') ds) w' = (least hex).choose := by simp only [ν, dif_pos hex]
       have h2 : (least hex).choose ≤ μ s' w' := (least hex).choose_spec.2 _ ⟨s', g', rfl, hI', rfl⟩
       rw [hν, h1, ← hm]
       omega)
theorem wp_cl {α : Type} {T : Ty α} {k : FuncId} {args : List Value} {d : Option Nat} {next : Act → World → Prop} {K : α → World → Prop} (hd : o.dst = d)
  (hv : (execOp (evl n f) o).run P w = .ok (.enter k args.toArray) w) (h : cl P k args T w K) (hk : ∀ r w', K r w' → next (act n (updo f d (T.enc r)) ds) w') : Ow P o (act n f ds) w next Q := by
 rw [Ow_eq]
 subst hd
 refine call_wp hv (Calls.mono h fun e w' he => ?_)
 cases e with
 | returned v => obtain ⟨r, rfl, hr⟩ := he; exact hk r w' hr
 | panicked c => exact he.elim
 | outgrown => exact he.elim
theorem cl_mono {α : Type} {T : Ty α} {k : FuncId} {args : List Value} {K K' : α → World → Prop} (h : cl P k args T w K) (hk : ∀ r w', K r w' → K' r w') : cl P k args T w K' :=
 Calls.mono h fun e w' he => by
  cases e with
  | returned v => obtain ⟨r, hr, hK⟩ := he; exact ⟨r, hr, hk r w' hK⟩
  | panicked c => exact he
  | outgrown => exact he
def gvb (g : Bool) (v : Value) : Value := bif g then v else undef
theorem gvb_yes {g : Bool} {v : Value} (h : g = true) : gvb g v = v := by subst h; rfl
inductive Guard (n : Nat) (ops : Array Oper) (f : Nat → Value) (o : Oper) (g : Bool) : Prop
 | yes (j : Nat) (d : Nat) (g0 c : Bool) (hg : o.guard = some (j, true)) (hj : (ops[j]?).bind (·.dst) = some d) (hv : evl n f (.tmp d) = gvb g0 (.bool c)) (he : g = (g0 && c))
 | no (j : Nat) (d : Nat) (g0 c : Bool) (hg : o.guard = some (j, false)) (hj : (ops[j]?).bind (·.dst) = some d) (hv : evl n f (.tmp d) = gvb g0 (.bool c)) (he : g = (g0 && !c))
theorem Guard.wanted {g : Bool} (h : Guard n ops f o g) : Region.wanted o (yielded ops (act n f ds).tmps) = g := by
 cases h with
 | yes j d g0 c hg hj hv he =>
  subst he
  simp only [Region.wanted, hg, yielded_act, yieldedF, hj, hv]
  cases g0 <;> cases c <;> rfl
 | no j d g0 c hg hj hv he =>
  subst he
  simp only [Region.wanted, hg, yielded_act, yieldedF, hj, hv]
  cases g0 <;> cases c <;> rfl
theorem ro_gval {g : Bool} {v : Value} {d : Option Nat} (hi : ops.toList[i]? = some o) (hg : Guard n ops f o g) (hd : o.dst = d) (hv : g = true → (execOp (evl n f) o).run P w = .ok (.value v) w)
  (h : Wo P ops Q rest (act n (updo f d (gvb g v)) ds) w) : Wo P ops Q (i :: rest) (act n f ds) w := by
 subst hd
 rw [Wo_eq] at *
 rw [wpOps_cons]
 simp only [wpOp, ofList hi, hg.wanted]
 cases g with
 | true =>
  left
  simp only [Oper.wp, act_eval, hv rfl, Oper.upon_value, act_put]
  exact h
 | false => simp only [Bool.false_eq_true, if_false, act_put]; exact h
theorem rd_gpure {g : Bool} {v : Value} {k : Nat} {d : Option Nat} {listed : Array Bool} {G : List (Nat × (World → Prop))} (hD : DrOk ops Q) (hf : Region.free .any ops listed i = true) (hr : (Region.ready .any ops listed).contains i = true) (hi : ops.toList[i]? = some o)
  (hg : Guard n ops f o g) (hd : o.dst = d) (hv : g = true → ∀ w, (execOp (evl n f) o).run P w = .ok (.value v) w)
  (h : Wg P ops Q G k (listed.setIfInBounds i true) (act n (updo f d (gvb g v)) ds) w) : Wg P ops Q G (k + 1) listed (act n f ds) w := by
 refine take_ahead (S := fun _ => True) (v := gvb g v) hD hf hr hi hd ?_ trivial (by rw [Wg_eq] at *; exact wpAnyG_idle (fun _ => trivial) _ _ _ _ h)
 cases g with
 | true => exact .inl ⟨hg.wanted, fun w _ => by rw [act_eval]; exact hv rfl w⟩
 | false => exact .inr ⟨hg.wanted, rfl⟩
theorem rd_gread {g : Bool} {v : Value} {k : Nat} {d : Option Nat} {listed : Array Bool} {G : List (Nat × (World → Prop))} (S : World → Prop) (hD : DrOk ops Q) (hf : Region.free .any ops listed i = true) (hr : (Region.ready .any ops listed).contains i = true) (hi : ops.toList[i]? = some o)
  (hg : Guard n ops f o g) (hd : o.dst = d) (hv : g = true → ∀ w, S w → (execOp (evl n f) o).run P w = .ok (.value v) w) (hS : g = true → S w)
  (h : Wg P ops Q ((i, fun w => g = true → S w) :: G) k (listed.setIfInBounds i true) (act n (updo f d (gvb g v)) ds) w) : Wg P ops Q G (k + 1) listed (act n f ds) w := by
 refine take_ahead (S := fun w => g = true → S w) (v := gvb g v) hD hf hr hi hd ?_ hS h
 cases g with
 | true => exact .inl ⟨hg.wanted, fun w hw => by rw [act_eval]; exact hv rfl w (hw rfl)⟩
 | false => exact .inr ⟨hg.wanted, rfl⟩
theorem q_pickGF {z : Operand} {a c : Bool} (ho : o.op = .pick x y z) (hx : evl n f x = .bool a) (hy : evl n f y = .bool true) (hz : evl n f z = gvb (!a) (.bool c)) :
  (execOp (evl n f) o).run P w = .ok (.value (.bool (a || c))) w := by
 cases a <;> simp [execOp, ho, hx, hy, hz, asBool, gvb]
theorem q_pickGT {z : Operand} {a b : Bool} (ho : o.op = .pick x y z) (hx : evl n f x = .bool a) (hy : evl n f y = gvb a (.bool b)) (hz : evl n f z = .bool false) :
  (execOp (evl n f) o).run P w = .ok (.value (.bool (a && b))) w := by
 cases a <;> simp [execOp, ho, hx, hy, hz, asBool, gvb]
theorem q_pickNT {z : Operand} {g0 a b : Bool} (hg : g0 = true) (ho : o.op = .pick x y z) (hx : evl n f x = gvb g0 (.bool a)) (hy : evl n f y = gvb (g0 && a) (.bool b)) (hz : evl n f z = .bool false) :
  (execOp (evl n f) o).run P w = .ok (.value (.bool (a && b))) w := by
 subst hg; cases a <;> simp [execOp, ho, hx, hy, hz, asBool, gvb]
theorem arr {g f : Nat → Value} (h : g = f) : act n f ds = act n g ds := by rw [h]
theorem wpOps_append (l2 : List Nat) : ∀ (l1 : List Nat) (a : Act) (w : World), wpOps P ops (Exit.then (fun a w => wpOps P ops Q l2 a w) Q) l1 a w → wpOps P ops Q (l1 ++ l2) a w := by
 intro l1
 induction l1 with
 | nil => intro a w h; exact h
 | cons i l1 ih =>
  intro a w h
  rw [List.cons_append, wpOps_cons]
  rw [wpOps_cons] at h
  unfold wpOp at *
  cases ho : ops[i]? with
  | none => simp only [ho] at h ⊢; exact ih _ _ h
  | some o =>
   simp only [ho] at h ⊢
   by_cases hw : Region.wanted o (yielded ops a.tmps) = true
   ·rw [if_pos hw] at h ⊢
    rcases h with h | ⟨h1, a0, w0, h2⟩
    ·left
     have h' := Oper.wp_mono (K' := wpOps P ops Q (l1 ++ l2)) (fun a w h => ih a w h) h
     unfold Oper.wp at h' ⊢
     revert h'
     generalize (execOp a.eval o).run P w = r
     cases r with
     | ok nx w' => cases nx <;> exact fun h => h
     | halt x w' => cases x <;> exact fun h => h
    ·exact .inr ⟨h1, a0, w0, h2⟩
   ·rw [if_neg hw] at h ⊢
    exact ih _ _ h
theorem ro_join {σ : Type} {J : σ → World → Prop} {fr : (Nat → Value) → σ → (Nat → Value)} (l1 l2 : List Nat)
  (hj : ∀ s g w, J s w → Wo P ops Q l2 (act n (fr g s) ds) w) (hx : Wo P ops (Exit.then (fun a w => ∃ s g, a = act n (fr g s) ds ∧ J s w) Q) l1 (act n f ds) w) : Wo P ops Q (l1 ++ l2) (act n f ds) w := by
 rw [Wo_eq] at *
 refine wpOps_append l2 l1 _ _ ?_
 have : ∀ (l : List Nat) (a : Act) (w : World), wpOps P ops (Exit.then (fun a w => ∃ s g, a = act n (fr g s) ds ∧ J s w) Q) l a w → wpOps P ops (Exit.then (fun a w => wpOps P ops Q l2 a w) Q) l a w := by
  intro l
  induction l with
  | nil => rintro a w ⟨s, g, rfl, hJ⟩; exact hj s g w hJ
  | cons i l ih =>
   intro a w h
   rw [wpOps_cons] at h ⊢
   unfold wpOp at *
   cases ho : ops[i]? with
   | none => simp only [ho] at h ⊢; exact ih _ _ h
   | some o =>
    simp only [ho] at h ⊢
    by_cases hw : Region.wanted o (yielded ops a.tmps) = true
    ·rw [if_pos hw] at h ⊢
     rcases h with h | ⟨h1, a0, w0, h2⟩
     ·left
      have h' := Oper.wp_mono (K' := wpOps P ops (Exit.then (fun a w => wpOps P ops Q l2 a w) Q) l) (fun a w h => ih a w h) h
      unfold Oper.wp at h' ⊢
      revert h'
      generalize (execOp a.eval o).run P w = r
      cases r with
      | ok nx w' => cases nx <;> exact fun h => h
      | halt x w' => cases x <;> exact fun h => h
     ·exact .inr ⟨h1, a0, w0, h2⟩
    ·rw [if_neg hw] at h ⊢
     exact ih _ _ h
 exact this l1 _ _ hx
theorem loop_at {c : Code} {σ : Type} {fr : (Nat → Value) → σ → (Nat → Value)} {body : σ → World → (σ → World → Prop) → Prop} {s0 : σ} (hf : fr f s0 = f) (h : lp body s0 w)
  (hb : ∀ (s : σ) (g : Nat → Value) (w : World) (K : σ → World → Prop), body s w K → c.wp P (Exit.then (fun a' w' => ∃ s' g', a' = act n (fr g' s') ds ∧ K s' w') Q) (act n (fr g s) ds) w) :
  (Code.loop c).wp P Q (act n f ds) w := by
 rw [← hf]
 exact loop_walk (fr := fr) h hb
def clv {α : Type} (P : Program) (fv : Fv) (args : List Value) (T : Ty α) (w : World) (k : α → World → Prop) : Prop :=
 ∃ (f : FuncId) (c : List Value), fv = .mk (.func f) #[] c.toArray ∧ Enters P f ∧ cl P f (args ++ c) T w k
theorem wp_clv {α : Type} {T : Ty α} {as_ : List Operand} {ts : Array TypeId} {l : List Value} {fv : Fv} {d : Option Nat} {next : Act → World → Prop} {K : α → World → Prop} (hd : o.dst = d) (ho : o.op = .call { callee := .value x, args := as_.toArray, argTypes := ts })
  (hx : evl n f x = fv.enc) (ha : as_.map (evl n f) = l) (h : clv P fv l T w K) (hk : ∀ r w', K r w' → next (act n (updo f d (T.enc r)) ds) w') : Ow P o (act n f ds) w next Q := by
 obtain ⟨k, c, hfv, he, h⟩ := h
 exact wp_cl hd (q_callV ho hx hfv he ha) h hk
def dr (w : World) (k : World → Prop) : Prop := k w.drew
theorem dr_open {w : World} {k : World → Prop} (h : dr w k) : ∃ w', w' = w.drew ∧ k w' := ⟨_, rfl, h⟩
def bth (A B : Prop) : Prop := A ∧ B
end
theorem Rd_alloc {w : World} {o : Obj} {a : Addr} {cs : List Value} (h : Rd w a cs) : Rd (w.alloc o) a cs := by
 intro j v hv
 have h0 := h j v hv
 rw [World.cell?_alloc_lt _ _ _ (World.block_lt_of_cell? _ _ h0)]
 exact h0
theorem keep_RdAt {α : Type} {T : Ty α} {a : Addr} {x : α} {w w' : World} {o : Obj} (hw : w' = w.alloc o) (h : RdAt T a w x) : RdAt T a w' x := hw ▸ Rd_alloc h
end Go.Proofs.YtehclfjjjiiieaaGreat.Cf
namespace Go.Proofs.YtehclfjjjiiieaaGreat.Cf
set_option linter.unusedSimpArgs false
set_option linter.unusedVariables false
open Go
def RdO {α : Type} (T : Ty α) (w : World) (a : Option Addr) (xs : List α) : Prop := match a with
 | some a => Rd w a (xs.flatMap T.cells)
 | none => xs = []
def RdS {α : Type} (T : Ty α) (w : World) (s : Slc) (xs : List α) : Prop := xs.length = s.len ∧ RdO T w s.a xs
def app {α : Type} (t : TypeId) (T : Ty α) (sz by_ : Nat) (s : Slc) (new : List α) (w : World) (k : Slc → World → Prop) : Prop :=
 (s.len + new.length ≤ s.cap → match s.a with
  | some a => Wr w (a.add (s.len * sz)) (new.length * sz) ∧ k ⟨some a, s.len + new.length, s.cap⟩ (putc w (a.add (s.len * sz)) 0 (new.flatMap T.cells))
  | none => k ⟨none, s.len + new.length, s.cap⟩ w) ∧
 (s.cap < s.len + new.length → (s.len + new.length) * by_ ≤ 140737488355328 ∧ ∃ old : List α, RdS T w s old ∧
  ∀ (c : Nat) (rest : List Value), s.len + new.length ≤ c → rest.length = (c - (s.len + new.length)) * sz →
   k ⟨some ⟨w.heap.size, 0, none⟩, s.len + new.length, c⟩ (w.drew.alloc (.cells ((old ++ new).flatMap T.cells ++ rest).toArray t)))
def apd {α : Type} (t : TypeId) (T : Ty α) (sz by_ : Nat) (s b : Slc) (w : World) (k : Slc → World → Prop) : Prop :=
 ∃ new : List α, RdS T w b new ∧ app t T sz by_ s new w k
def apl {α : Type} (t : TypeId) (T : Ty α) (sz by_ : Nat) (s : Slc) (new : List α) (w : World) (k : Slc → World → Prop) : Prop :=
 app t T sz by_ s new (w.alloc (.cells (new.flatMap T.cells).toArray t)) k
section
variable {P : Program} {Q : Exit → Act → World → Prop} {n : Nat} {f : Nat → Value} {ds : List Deferred} {w w' : World} {ops : Array Oper} {i : Nat} {rest : List Nat} {o : Oper} {x y z : Operand}
theorem flat_len {α : Type} {T : Ty α} {m : Nat} (h : ∀ x, (T.cells x).length = m) (xs : List α) : (xs.flatMap T.cells).length = xs.length * m := by
 induction xs with
 | nil => simp
 | cons x xs ih => simp [ih, h x, Nat.add_mul, Nat.add_comm]
theorem run_firstCells {α : Type} {T : Ty α} {m : Nat} (hl : ∀ x, (T.cells x).length = m) {s : Slc} {xs : List α} (h : RdS T w s xs) :
  (Builtin.firstCells m s.len (tSlc.enc s)).run P w = .ok (xs.flatMap T.cells).toArray w := by
 obtain ⟨hlen, hr⟩ := h
 obtain ⟨a, l, c⟩ := s
 cases a with
 | none =>
  simp only [RdO] at hr
  subst hr
  simp [Builtin.firstCells]
 | some a =>
  simp only [RdO] at hr
  simp only at hlen
  have := run_loadCellsFrom P w a (xs.flatMap T.cells) 0 #[] (by intro j v hv; rw [Nat.zero_add]; exact hr j v hv)
  rw [flat_len hl, hlen] at this
  simp only [Builtin.firstCells, loadCells]
  rw [this]; simp
theorem RdS_drew {α : Type} {T : Ty α} {s : Slc} {xs : List α} (h : RdS T w s xs) : RdS T w.drew s xs := by
 obtain ⟨a, l, c⟩ := s
 cases a <;> exact h
theorem run_append_in {α : Type} {T : Ty α} {sz : Nat} {t u ty e : TypeId} {s b : Slc} {new : List α} (ht : P.underlying t = some (.slice e)) (hu : ∃ e', P.underlying u = some (.slice e'))
  (ok : TyOk P e T sz) (hnew : RdS T w b new) (hc : s.len + new.length ≤ s.cap) {a : Addr} (ha : s.a = some a) (hw : Wr w (a.add (s.len * sz)) (new.length * sz)) :
  (Builtin.append_ #[t, u] ty #[tSlc.enc s, tSlc.enc b]).run P w = .ok (tSlc.enc ⟨some a, s.len + new.length, s.cap⟩) (putc w (a.add (s.len * sz)) 0 (new.flatMap T.cells)) := by
 obtain ⟨fo, hi, hfs⟩ := ok.size
 obtain ⟨e', hu⟩ := hu
 have hnl : new.length = b.len := hnew.1
 have hc' : s.len + b.len ≤ s.cap := by omega
 have h1 := run_firstCells (P := P) ok.len hnew
 have h2 := run_storeCells (P := P) (a.add (s.len * sz)) (new.flatMap T.cells) 0 w (by
  intro j hj
  rw [Nat.zero_add]
  rw [flat_len ok.len] at hj
  exact hw j hj) (fun v hv => by obtain ⟨x, _, hx⟩ := List.mem_flatMap.1 hv; exact ok.one x v hx)
 simp only [Builtin.append_]
 simp [run_underlying ht, run_underlying hu, run_sizeOf hi, Builtin.lenOf, hc', hfs, ha, hnl]
 have h1' : Sem.run P (Builtin.firstCells sz b.len (Value.slice b.a b.len b.cap)) w = .ok (new.flatMap T.cells).toArray w := h1
 rw [h1']
 simp only [Result.andThen_ok]
 rw [show storeCells (a.add (s.len * sz)) (new.flatMap T.cells).toArray.toList = storeCells (a.add (s.len * sz)) (new.flatMap T.cells) 0 from rfl, h2]
 simp
theorem run_append_in0 {α : Type} {T : Ty α} {sz : Nat} {t u ty e : TypeId} {s b : Slc} {new : List α} (ht : P.underlying t = some (.slice e)) (hu : ∃ e', P.underlying u = some (.slice e'))
  (ok : TyOk P e T sz) (hnew : RdS T w b new) (hc : s.len + new.length ≤ s.cap) (ha : s.a = none) :
  (Builtin.append_ #[t, u] ty #[tSlc.enc s, tSlc.enc b]).run P w = .ok (tSlc.enc ⟨none, s.len + new.length, s.cap⟩) w := by
 obtain ⟨fo, hi, hfs⟩ := ok.size
 obtain ⟨e', hu⟩ := hu
 have hnl : new.length = b.len := hnew.1
 have hc' : s.len + b.len ≤ s.cap := by omega
 have h1 : Sem.run P (Builtin.firstCells sz b.len (Value.slice b.a b.len b.cap)) w = .ok (new.flatMap T.cells).toArray w := run_firstCells (P := P) ok.len hnew
 simp only [Builtin.append_]
 simp [run_underlying ht, run_underlying hu, run_sizeOf hi, Builtin.lenOf, hc', hfs, ha, hnl, h1]
theorem run_append_grown {α : Type} {T : Ty α} {sz : Nat} {t u ty e : TypeId} {fo : TypeInfo} {zv : Value} {zc : List Value} {s b : Slc} {new old : List α} (ht : P.underlying t = some (.slice e)) (hu : ∃ e', P.underlying u = some (.slice e'))
  (ok : TyOk P e T sz) (hi : P.info? e = some fo) (hz : fo.zero = some zv) (hzc : zv.cells = zc.toArray) (hzl : zc.length = sz) (hby : 0 < fo.bytes)
  (hnew : RdS T w b new) (hc : s.cap < s.len + new.length) (hfit : (s.len + new.length) * fo.bytes ≤ 140737488355328) (hold : RdS T w s old) :
  ∃ (c : Nat) (rest : List Value), s.len + new.length ≤ c ∧ rest.length = (c - (s.len + new.length)) * sz ∧
   (Builtin.append_ #[t, u] ty #[tSlc.enc s, tSlc.enc b]).run P w = .ok (tSlc.enc ⟨some ⟨w.heap.size, 0, none⟩, s.len + new.length, c⟩) (w.drew.alloc (.cells ((old ++ new).flatMap T.cells ++ rest).toArray e)) := by
 obtain ⟨fo', hi', hfs⟩ := ok.size
 rw [hi] at hi'; injection hi' with hi'; subst hi'
 obtain ⟨e', hu⟩ := hu
 have hnl : new.length = b.len := hnew.1
 have hol : old.length = s.len := hold.1
 have hc' : ¬ (s.len + b.len ≤ s.cap) := by omega
 have hg := growslice_fits (need := s.len + b.len) (old := s.cap) (bytes := fo.bytes) (by omega) (by rw [← hnl]; exact hfit)
 have hg' : ¬ (281474976710656 < Builtin.nextslicecap (s.len + b.len) s.cap * fo.bytes) := by omega
 have hb0 : fo.bytes ≠ 0 := by omega
 have h1 := run_firstCells (P := P) ok.len hnew
 have h2 := run_firstCells (P := P) ok.len hold
 refine ⟨(Question.appendCap (s.len + b.len) s.cap e).cut (w.tape w.drawn (.appendCap (s.len + b.len) s.cap e)), (Builtin.zeroCells zv.cells ((Question.appendCap (s.len + b.len) s.cap e).cut (w.tape w.drawn (.appendCap (s.len + b.len) s.cap e)) - (s.len + b.len))).toList, ?_, ?_, ?_⟩
 ·simp only [Question.cut]; omega
 ·simp [Builtin.zeroCells, hzc, hzl, hnl]
 ·have h1' : Sem.run P (Builtin.firstCells sz b.len (Value.slice b.a b.len b.cap)) w.drew = .ok (new.flatMap T.cells).toArray w.drew := run_firstCells (P := P) ok.len (RdS_drew hnew)
  have h2' : Sem.run P (Builtin.firstCells sz s.len (Value.slice s.a s.len s.cap)) w.drew = .ok (old.flatMap T.cells).toArray w.drew := run_firstCells (P := P) ok.len (RdS_drew hold)
  simp only [Builtin.append_]
  simp [run_underlying ht, run_underlying hu, run_sizeOf hi, Builtin.lenOf, hc', hfs, hnl, typeInfo, hi, hb0, hg', Question.forced, h1', h2', zeroValue, hz, newRow, List.flatMap_append, World.drew_eq]
  congr 2
  apply Array.ext'
  simp
theorem wp_append {α : Type} {T : Ty α} {sz by_ : Nat} {t u e : TypeId} {zv : Value} {zc : List Value} {s b : Slc} {d : Option Nat} {next : Act → World → Prop} {K : Slc → World → Prop} (hd : o.dst = d)
  (ho : o.op = .call { callee := .builtin .append, args := #[x, y], argTypes := #[t, u] }) (ht : P.underlying t = some (.slice e)) (hu : ∃ e', P.underlying u = some (.slice e'))
  (ok : TyOk P e T sz) (hinf : ∃ i, P.info? e = some i ∧ i.zero = some zv ∧ i.size = sz ∧ i.bytes = by_) (hzc : zv.cells = zc.toArray) (hzl : zc.length = sz) (hby : 0 < by_)
  (hx : evl n f x = tSlc.enc s) (hy : evl n f y = tSlc.enc b) (h : apd e T sz by_ s b w K) (hk : ∀ r w', K r w' → next (act n (updo f d (tSlc.enc r)) ds) w') :
  Ow P o (act n f ds) w next Q := by
 rw [Ow_eq]
 subst hd
 obtain ⟨fo, hi, hz, hfs, rfl⟩ := hinf
 obtain ⟨new, hnew, hin, hgr⟩ := h
 have hop : ∀ (w : World) (v : Value) (w' : World), (Builtin.append_ #[t, u] o.type #[tSlc.enc s, tSlc.enc b]).run P w = .ok v w' → (execOp (evl n f) o).run P w = .ok (.value v) w' := by
  intro w v w' hv
  simp only [execOp, ho, resolve, invoke, builtin]
  simp only [List.map_toArray, List.map_cons, List.map_nil, hx, hy, pure_bind, Sem.run_bind, hv, Result.andThen_ok, Sem.run_pure]
 by_cases hc : s.len + new.length ≤ s.cap
 ·have hin := hin hc
  cases ha : s.a with
  | none =>
   rw [ha] at hin
   simp only [Oper.wp, act_eval, hop _ _ _ (run_append_in0 ht hu ok hnew hc ha), Oper.upon_value, act_put]
   exact hk _ _ hin
  | some a =>
   rw [ha] at hin
   simp only [Oper.wp, act_eval, hop _ _ _ (run_append_in ht hu ok hnew hc ha hin.1), Oper.upon_value, act_put]
   exact hk _ _ hin.2
 ·obtain ⟨hfit, old, hold, hgr⟩ := hgr (by omega)
  obtain ⟨c, rest, h1, h2, h3⟩ := run_append_grown (ty := o.type) ht hu ok hi hz hzc hzl hby hnew (by omega) hfit hold
  simp only [Oper.wp, act_eval, hop _ _ _ h3, Oper.upon_value, act_put]
  exact hk _ _ (hgr c rest h1 h2)
theorem Rd_new (w : World) (cs : List Value) (t : TypeId) : Rd (w.alloc (.cells cs.toArray t)) ⟨w.heap.size, 0, none⟩ cs := by
 intro j v hv
 have : (⟨w.heap.size, 0, none⟩ : Addr).add j = ⟨w.heap.size, j, none⟩ := by
  cases j <;> simp [Addr.add]
 rw [this, World.cell?_alloc_new]
 simpa using hv
theorem apd_of_apl {α : Type} {t : TypeId} {T : Ty α} {sz by_ : Nat} {s : Slc} {new : List α} {K : Slc → World → Prop} (h : apl t T sz by_ s new w K) :
  apd t T sz by_ s ⟨some ⟨w.heap.size, 0, none⟩, new.length, new.length⟩ (w.alloc (.cells (new.flatMap T.cells).toArray t)) K :=
 ⟨new, ⟨rfl, Rd_new w _ t⟩, h⟩
theorem fill_all {α : Type} {T : Ty α} {sz : Nat} (hl : ∀ x, (T.cells x).length = sz) (hf : ∀ x, (T.enc x).cells = (T.cells x).toArray) :
  ∀ (xs : List α) (i : Nat) (pre suf : List Value), pre.length = i * sz → suf.length = xs.length * sz →
   Instr.fill (fun i => some (i * sz, sz)) (pre ++ suf).toArray ((xs.zipIdx i).map fun p => (p.2, T.enc p.1)) = some (pre ++ xs.flatMap T.cells).toArray := by
 have splice : ∀ (vs : List Value) (o : Nat) (pre suf : List Value), pre.length = o → vs.length ≤ suf.length →
   ((vs.toArray.zipIdx).foldl (fun cs (x : Value × Nat) => cs.setIfInBounds (o + x.2) x.1) (pre ++ suf).toArray) = (pre ++ vs ++ suf.drop vs.length).toArray := by
  intro vs
  have gen : ∀ (vs : List Value) (k o : Nat) (pre suf : List Value), pre.length = o + k → vs.length ≤ suf.length →
    ((vs.zipIdx k).foldl (fun (cs : Array Value) (x : Value × Nat) => cs.setIfInBounds (o + x.2) x.1) (pre ++ suf).toArray) = (pre ++ vs ++ suf.drop vs.length).toArray := by
   intro vs
   induction vs with
   | nil => intro k o pre suf _ _; simp
   | cons v vs ih =>
    intro k o pre suf hp hs
    cases suf with
    | nil => simp at hs
    | cons s suf =>
     have h1 : ((pre ++ s :: suf).toArray.setIfInBounds (o + k) v) = ((pre ++ [v]) ++ suf).toArray := by
      rw [← hp]
      simp
     simp only [List.zipIdx_cons, List.foldl_cons, h1]
     rw [ih (k + 1) o (pre ++ [v]) suf (by simp; omega) (by simpa using hs)]
     simp
  intro o pre suf hp hs
  rw [← Array.foldl_toList]
  have : (vs.toArray.zipIdx).toList = vs.zipIdx 0 := by simp
  rw [this]
  exact gen vs 0 o pre suf (by omega) hs
 intro xs
 induction xs with
 | nil =>
  intro i pre suf hp hs
  have : suf = [] := by simpa using hs
  subst this
  simp [Instr.fill]
 | cons x xs ih =>
  intro i pre suf hp hs
  simp only [List.zipIdx_cons, List.map_cons, Instr.fill, hf x]
  have hs' : suf.length = xs.length * sz + sz := by rw [hs]; simp [Nat.add_mul]
  have hc : ((T.cells x).toArray.size ≠ sz || i * sz + (T.cells x).toArray.size > (pre ++ suf).toArray.size) = false := by
   simp [hl x, hp, hs']
  rw [hc]
  simp only [Bool.false_eq_true, if_false]
  have h2 := splice (T.cells x) (i * sz) pre suf hp (by rw [hl x, hs']; omega)
  rw [h2]
  rw [ih (i + 1) (pre ++ T.cells x) (suf.drop (T.cells x).length) (by simp [hp, hl x, Nat.add_mul]) (by simp [hl x, hs'])]
  simp
theorem q_rowOf {α : Type} {T : Ty α} {sz : Nat} {t e : TypeId} {zv : Value} {m : Nat} {ps : List (Nat × Operand)} {xs : List α} {a : Addr} {w' : World} (ho : o.op = .buildSlice t m ps.toArray) (ht : P.underlying t = some (.slice e))
  (ok : TyOk P e T sz) {by_ : Nat} (hinf : ∃ i, P.info? e = some i ∧ i.zero = some zv ∧ i.size = sz ∧ i.bytes = by_) (hm : xs.length = m) (hb : m * sz ≤ 2 ^ 24) (h0 : m * sz ≠ 0)
  (hp : ps.map (fun p => (p.1, evl n f p.2)) = (xs.zipIdx 0).map fun p => (p.2, T.enc p.1))
  (ha : a = ⟨w.heap.size, 0, none⟩) (hw : w' = w.alloc (.cells (xs.flatMap T.cells).toArray e)) :
  (execOp (evl n f) o).run P w = .ok (.value (tSlc.enc ⟨some a, m, m⟩)) w' := by
 subst ha; subst hw
 obtain ⟨fo, hi, hz, hfs, _⟩ := hinf
 have hfill := fill_all (T := T) ok.len ok.flat xs 0 [] ((Array.range (m * fo.size)).map (zv.cells[· % zv.cells.size]!)).toList (by simp) (by simp [hm, hfs])
 simp only [List.nil_append, Array.toArray_toList] at hfill
 have hm' : ¬ (m * fo.size > 2 ^ 24) := by rw [hfs]; omega
 have h0' : m * fo.size ≠ 0 := by rw [hfs]; exact h0
 simp only [execOp, ho, Instr.buildSlice]
 simp only [List.map_toArray, hp]
 simp only [bind_pure_comp, Sem.run_map, Sem.run_bind, run_underlying ht, Result.andThen_ok, run_sizeOf hi]
 rw [if_neg hm', if_neg h0']
 simp [zeroValue, typeInfo, hi, hz, hfs, newRow] at hfill ⊢
 simp [hfill]
theorem nwS_open {α : Type} {t : TypeId} {T : Ty α} {xs : List α} {w : World} {k : Addr → World → Prop} (h : nwS t T xs w k) :
  ∃ a w', a = ⟨w.heap.size, 0, none⟩ ∧ w' = w.alloc (.cells (xs.flatMap T.cells).toArray t) ∧ k a w' := ⟨_, _, rfl, rfl, h⟩
theorem q_sliceLH {t e : TypeId} {s r : Slc} {l h : Int} {kl kh : IntKind} {sz : Nat} {α : Type} {T : Ty α} (ho : o.op = .slice t x (some y) (some z) none) (ht : P.underlying t = some (.slice e)) (ok : TyOk P e T sz) (hx : evl n f x = tSlc.enc s) (hy : evl n f y = .int kl l) (hz : evl n f z = .int kh h)
  (hr : Sub s sz l h (s.cap : Int) r) : (execOp (evl n f) o).run P w = .ok (.value (tSlc.enc r)) w := by
 obtain ⟨fo, hfi, hfs⟩ := ok.size
 obtain ⟨a, len, cap⟩ := s
 try simp only at hr
 obtain ⟨h0, h1, h2, h3, rfl⟩ := hr
 have e1 : (((h : Int).toNat : Nat) : Int) = h := Int.toNat_of_nonneg (by omega)
 have e2 : ((((cap : Int) : Int).toNat : Nat) : Int) = (cap : Int) := Int.toNat_of_nonneg (by omega)
 have hb : ∀ (k : IntKind) (i : Int) (y : Nat) (c : BoundsCode), 0 ≤ i → i ≤ y → (Instr.sliceBound (.int k i) y c).run P w = .ok i.toNat w := fun k i y c hi0 hi1 => by
  simp [Instr.sliceBound, asIntOf, hi0, hi1]
 simp only [execOp, ho, hx, Option.map_some, Option.map_none, hy, hz]
 simp only [Instr.sliceAt, Instr.slice, Sem.run_bind, run_underlying ht, Result.andThen_ok, Instr.sliceBounds, bind_pure_comp, Sem.run_map, Sem.run_pure, hb kh h cap _ (by omega) (by omega), hb kl l h.toNat _ (by omega) (by omega)]
 simp [run_sizeOf hfi, hfs]
theorem q_sliceL {t e : TypeId} {s r : Slc} {l : Int} {kl : IntKind} {sz : Nat} {α : Type} {T : Ty α} (ho : o.op = .slice t x (some y) none none) (ht : P.underlying t = some (.slice e)) (ok : TyOk P e T sz) (hx : evl n f x = tSlc.enc s) (hy : evl n f y = .int kl l)
  (hr : Sub s sz l (s.len : Int) (s.cap : Int) r) : (execOp (evl n f) o).run P w = .ok (.value (tSlc.enc r)) w := by
 obtain ⟨fo, hfi, hfs⟩ := ok.size
 obtain ⟨a, len, cap⟩ := s
 try simp only at hr
 obtain ⟨h0, h1, h2, h3, rfl⟩ := hr
 have e1 : ((((len : Int) : Int).toNat : Nat) : Int) = (len : Int) := Int.toNat_of_nonneg (by omega)
 have e2 : ((((cap : Int) : Int).toNat : Nat) : Int) = (cap : Int) := Int.toNat_of_nonneg (by omega)
 have hb : ∀ (k : IntKind) (i : Int) (y : Nat) (c : BoundsCode), 0 ≤ i → i ≤ y → (Instr.sliceBound (.int k i) y c).run P w = .ok i.toNat w := fun k i y c hi0 hi1 => by
  simp [Instr.sliceBound, asIntOf, hi0, hi1]
 simp only [execOp, ho, hx, Option.map_some, Option.map_none, hy]
 simp only [Instr.sliceAt, Instr.slice, Sem.run_bind, run_underlying ht, Result.andThen_ok, Instr.sliceBounds, bind_pure_comp, Sem.run_map, Sem.run_pure, hb kl l len _ (by omega) (by omega)]
 simp [run_sizeOf hfi, hfs]
theorem q_sliceH {t e : TypeId} {s r : Slc} {h : Int} {kh : IntKind} {sz : Nat} {α : Type} {T : Ty α} (ho : o.op = .slice t x none (some z) none) (ht : P.underlying t = some (.slice e)) (ok : TyOk P e T sz) (hx : evl n f x = tSlc.enc s) (hz : evl n f z = .int kh h)
  (hr : Sub s sz 0 h (s.cap : Int) r) : (execOp (evl n f) o).run P w = .ok (.value (tSlc.enc r)) w := by
 obtain ⟨fo, hfi, hfs⟩ := ok.size
 obtain ⟨a, len, cap⟩ := s
 try simp only at hr
 obtain ⟨h0, h1, h2, h3, rfl⟩ := hr
 have e1 : (((h : Int).toNat : Nat) : Int) = h := Int.toNat_of_nonneg (by omega)
 have e2 : ((((cap : Int) : Int).toNat : Nat) : Int) = (cap : Int) := Int.toNat_of_nonneg (by omega)
 have hb : ∀ (k : IntKind) (i : Int) (y : Nat) (c : BoundsCode), 0 ≤ i → i ≤ y → (Instr.sliceBound (.int k i) y c).run P w = .ok i.toNat w := fun k i y c hi0 hi1 => by
  simp [Instr.sliceBound, asIntOf, hi0, hi1]
 simp only [execOp, ho, hx, Option.map_some, Option.map_none, hz]
 simp only [Instr.sliceAt, Instr.slice, Sem.run_bind, run_underlying ht, Result.andThen_ok, Instr.sliceBounds, bind_pure_comp, Sem.run_map, Sem.run_pure, hb kh h cap _ (by omega) (by omega)]
 simp [run_sizeOf hfi, hfs]
theorem q_sliceHM {t e : TypeId} {s r : Slc} {h m : Int} {kh km : IntKind} {v : Operand} {sz : Nat} {α : Type} {T : Ty α} (ho : o.op = .slice t x none (some z) (some v)) (ht : P.underlying t = some (.slice e)) (ok : TyOk P e T sz) (hx : evl n f x = tSlc.enc s) (hz : evl n f z = .int kh h) (hv : evl n f v = .int km m)
  (hr : Sub s sz 0 h m r) : (execOp (evl n f) o).run P w = .ok (.value (tSlc.enc r)) w := by
 obtain ⟨fo, hfi, hfs⟩ := ok.size
 obtain ⟨a, len, cap⟩ := s
 try simp only at hr
 obtain ⟨h0, h1, h2, h3, rfl⟩ := hr
 have e1 : (((h : Int).toNat : Nat) : Int) = h := Int.toNat_of_nonneg (by omega)
 have e2 : (((m : Int).toNat : Nat) : Int) = m := Int.toNat_of_nonneg (by omega)
 have hb : ∀ (k : IntKind) (i : Int) (y : Nat) (c : BoundsCode), 0 ≤ i → i ≤ y → (Instr.sliceBound (.int k i) y c).run P w = .ok i.toNat w := fun k i y c hi0 hi1 => by
  simp [Instr.sliceBound, asIntOf, hi0, hi1]
 simp only [execOp, ho, hx, Option.map_some, Option.map_none, hz, hv]
 simp only [Instr.sliceAt, Instr.slice, Sem.run_bind, run_underlying ht, Result.andThen_ok, Instr.sliceBounds, bind_pure_comp, Sem.run_map, Sem.run_pure, hb km m cap _ (by omega) (by omega), hb kh h m.toNat _ (by omega) (by omega)]
 simp [run_sizeOf hfi, hfs]
theorem apl_open {α : Type} {t : TypeId} {T : Ty α} {sz by_ : Nat} {s : Slc} {new : List α} {w : World} {K : Slc → World → Prop} (h : apl t T sz by_ s new w K) :
  ∃ a w', a = ⟨w.heap.size, 0, none⟩ ∧ w' = w.alloc (.cells (new.flatMap T.cells).toArray t) ∧ apd t T sz by_ s ⟨some a, new.length, new.length⟩ w' K := ⟨_, _, rfl, rfl, apd_of_apl h⟩
theorem q_row0 {α : Type} {T : Ty α} {sz by_ : Nat} {zv : Value} {t e : TypeId} {a : Addr} {w' : World} (ho : o.op = .buildSlice t 0 #[]) (ht : P.underlying t = some (.slice e)) (ok : TyOk P e T sz)
  (hi : ∃ i, P.info? e = some i ∧ i.zero = some zv ∧ i.size = sz ∧ i.bytes = by_) (ha : a = ⟨w.heap.size, 0, none⟩) (hw : w' = w.alloc (.cells (([] : List α).flatMap T.cells).toArray e)) :
  (execOp (evl n f) o).run P w = .ok (.value (tSlc.enc ⟨some a, 0, 0⟩)) w' := by
 subst ha; subst hw
 obtain ⟨i, hi, hz, hs, hb⟩ := hi
 simp [execOp, ho, Instr.buildSlice, run_underlying ht, run_sizeOf hi, Instr.fill, newRow]
 rw [show Array.range 0 = #[] from by simp [Array.range]]
 simp
end
end Go.Proofs.YtehclfjjjiiieaaGreat.Cf
namespace Go.Proofs.YtehclfjjjiiieaaGreat.Cf
set_option linter.unusedSimpArgs false
set_option linter.unusedVariables false
open Go
section
variable {P : Program} {Q : Exit → Act → World → Prop} {n : Nat} {f : Nat → Value} {ds : List Deferred} {w w' : World} {ops : Array Oper} {i : Nat} {rest : List Nat} {o : Oper} {x y z : Operand}
theorem run_part1 {t : TypeId} {d : TypeDesc} {cs : Array Value} {off : Nat} {v : Value} (hd : P.underlying t = some d) (ha : aggD d = false) (hv : cs[off]? = some v) : (part t cs off).run P w = .ok v w := by
 simp [part, run_isAgg hd, ha, hv]
theorem eqF_nil {d : Nat} {xs ys : Array Value} : (Op.eqFields d xs ys []).run P w = .ok true w := by simp [Op.eqFields]
theorem eqF_cons {d : Nat} {xs ys : Array Value} {fd : Field} {fs : List Field} {a b : Value} {c r : Bool} (hn : fd.name ≠ "_") (ha : (part fd.type xs fd.offset).run P w = .ok a w) (hb : (part fd.type ys fd.offset).run P w = .ok b w)
  (he : (Op.equalIn d fd.type a b).run P w = .ok c w) (hr : (Op.eqFields d xs ys fs).run P w = .ok r w) : (Op.eqFields d xs ys (fd :: fs)).run P w = .ok (c && r) w := by
 simp only [Op.eqFields, hn, ne_eq, not_false_eq_true, if_true, Sem.run_bind, ha, hb, he, Result.andThen_ok]
 cases c <;> simp [hr]
theorem eqI_int {d : Nat} {t : TypeId} {k : IntKind} {a b : Int} (h : P.underlying t = some (.int k)) : (Op.equalIn (d + 1) t (.int k a) (.int k b)).run P w = .ok (a == b) w := run_equalIn_int w d t k k a b h
theorem eqI_bool {d : Nat} {t : TypeId} {a b : Bool} (h : P.underlying t = some .bool) : (Op.equalIn (d + 1) t (.bool a) (.bool b)).run P w = .ok (a == b) w := run_equalIn_bool' w d t a b h
theorem eqI_struct {d : Nat} {t : TypeId} {fs : Array Field} {xs ys : List Value} {r : Bool} (ht : P.underlying t = some (.struct fs)) (hp : P.stoodInHeld t = false) (hr : (Op.eqFields d xs.toArray ys.toArray fs.toList).run P w = .ok r w) :
  (Op.equalIn (d + 1) t (.agg xs.toArray) (.agg ys.toArray)).run P w = .ok r w := by
 have hf : P.fieldsOf t = fs := by simp [Program.fieldsOf, ht]
 rw [run_equalIn_struct w d t _ _ (by rw [hf]; exact ht) hp, hf]; exact hr
theorem q_neT {xs ys : List Value} {t u : TypeId} {r : Bool} (ho : o.op = .binOp .neq t x y u) (he : P.eqGuardType P.depth t = false ∧ ∀ w, (Op.equalIn 10000 t (.agg xs.toArray) (.agg ys.toArray)).run P w = .ok r w)
  (hx : evl n f x = .agg xs.toArray) (hy : evl n f y = .agg ys.toArray) : (execOp (evl n f) o).run P w = .ok (.value (.bool (!r))) w := by
 simp only [execOp, ho, hx, hy, bind_pure_comp, Sem.run_map, Sem.run_bind, run_eqGuard_agg w _ _ _ _ _ _ he.1, Result.andThen_ok, run_neq_struct, he.2 w]
theorem run_places : ∀ (fs : List Field) (pl : List (Nat × Nat)), fs.length = pl.length → (∀ (j : Nat) fd p, fs[j]? = some fd → pl[j]? = some p → p.1 = fd.offset ∧ ∃ i, P.info? fd.type = some i ∧ i.size = p.2) →
  (fs.mapM fun f => (do pure (f.offset, ← sizeOf f.type) : Sem (Nat × Nat))).run P w = .ok pl w
 | [], [], _, _ => by simp
 | [], _ :: _, h, _ => by simp at h
 | _ :: _, [], h, _ => by simp at h
 | fd :: fs, p :: pl, hl, h => by
  obtain ⟨h1, i, hi, h2⟩ := h 0 fd p rfl rfl
  have ht := run_places fs pl (by simpa using hl) fun j fd p hf hp => h (j + 1) fd p (by simpa using hf) (by simpa using hp)
  simp only [List.mapM_cons, Sem.run_bind, run_sizeOf hi, Result.andThen_ok, Sem.run_pure, bind_pure_comp, Sem.run_map] at ht ⊢
  rw [ht]
  obtain ⟨p1, p2⟩ := p
  simp only at h1 h2
  simp [h1, h2]
theorem q_build {t : TypeId} {fs : Array Field} {pl : List (Nat × Nat)} {zv : Value} {m by_ : Nat} {ps : List (Nat × Operand)} {pv : List (Nat × Value)} {cs : List Value} (ho : o.op = .build t ps.toArray) (ht : P.underlying t = some (.struct fs))
  (hz : ∃ i, P.info? t = some i ∧ i.zero = some zv ∧ i.size = m ∧ i.bytes = by_) (hpl : ∀ w, (fs.toList.mapM fun f => (do pure (f.offset, ← sizeOf f.type) : Sem (Nat × Nat))).run P w = .ok pl w)
  (hp : ps.map (fun p => (p.1, evl n f p.2)) = pv) (hf : Instr.fill (fun j => pl[j]?) zv.cells pv = some cs.toArray) : (execOp (evl n f) o).run P w = .ok (.value (.agg cs.toArray)) w := by
 obtain ⟨i, hi, hz, _⟩ := hz
 subst hp
 have hpl' : (fs.mapM fun f => (do pure (f.offset, ← sizeOf f.type) : Sem (Nat × Nat))).run P w = .ok pl.toArray w := by
  rw [Array.mapM_eq_mapM_toList]
  simp only [Sem.run_map, hpl w, Result.andThen_ok]
 simp only [execOp, ho, Instr.build, zeroValue, typeInfo, bind_assoc, pure_bind, bind_pure_comp, Sem.run_map, Sem.run_bind, run_program, Result.andThen_ok, hi, hz, Sem.run_pure, run_underlying ht]
 simp only [bind_pure_comp] at hpl'
 rw [hpl']
 simp only [Result.andThen_ok, List.map_toArray, List.getElem?_toArray]
 rw [hf]
 simp
def Born (arr : Array MapEntry) (c : Nat) : Prop := (∀ x ∈ arr.toList, x.born < c) ∧ (arr.toList.map (·.born)).Nodup
theorem born_push {arr : Array MapEntry} {c : Nat} {k v : Value} (h : Born arr c) : Born (arr.push { key := k, val := v, born := c }) (c + 1) := by
 refine ⟨fun x hx => ?_, ?_⟩
 ·simp only [Array.toList_push, List.mem_append, List.mem_singleton] at hx
  rcases hx with hx | rfl
  ·have := h.1 x hx; omega
  ·exact Nat.lt_succ_self _
 ·simp only [Array.toList_push, List.map_append, List.map_cons, List.map_nil, List.nodup_append]
  refine ⟨h.2, by simp, fun a ha b hb => ?_⟩
  obtain ⟨x, hx, rfl⟩ := List.mem_map.1 ha
  have := h.1 x hx
  rw [List.mem_singleton.1 hb]; omega
theorem born_same {arr arr' : Array MapEntry} {c : Nat} (h : Born arr c) (e : arr'.toList.map (·.born) = arr.toList.map (·.born)) : Born arr' c := by
 refine ⟨fun x hx => ?_, by rw [e]; exact h.2⟩
 have : x.born ∈ arr'.toList.map (·.born) := List.mem_map.2 ⟨x, hx, rfl⟩
 rw [e] at this
 obtain ⟨y, hy, he⟩ := List.mem_map.1 this
 rw [← he]; exact h.1 y hy
theorem born_sub {arr arr' : Array MapEntry} {c : Nat} (h : Born arr c) (e : arr'.toList.Sublist arr.toList) : Born arr' c :=
 ⟨fun x hx => h.1 x (e.subset hx), h.2.sublist (e.map _)⟩
def MapAt {α : Type} (T : Ty α) (k : IntKind) (w : World) (r : Nat) (es : List (Int × α)) : Prop :=
 ∃ arr c, w.heap[r]? = some (.map arr c) ∧ arr.toList.map (fun e => (e.key, e.val)) = (es.map fun p => (.int k p.1, T.enc p.2)) ∧ Born arr c
def MapGet {α : Type} (T : Ty α) (k : IntKind) (m : Option Nat) (key : Int) (w : World) (u : Option α) : Prop := match m with
 | none => u = none
 | some r => ∃ es, MapAt T k w r es ∧ u = es.lookup key
def MapLen (m : Option Nat) (w : World) (l : Nat) : Prop := match m with
 | none => l = 0
 | some r => ∃ arr c, w.heap[r]? = some (.map arr c) ∧ l = arr.size
def ups {α : Type} (key : Int) (v : α) : List (Int × α) → List (Int × α)
 | [] => [(key, v)]
 | (a, b) :: t => if key == a then (key, v) :: t else (a, b) :: ups key v t
def del {α : Type} (key : Int) : List (Int × α) → List (Int × α)
 | [] => []
 | (a, b) :: t => if key == a then t else (a, b) :: del key t
def setMap (w : World) (r : Nat) (arr : Array MapEntry) (c : Nat) : World := { w with heap := w.heap.setIfInBounds r (.map arr c) }
def Reps {α : Type} (T : Ty α) (k : IntKind) (arr : Array MapEntry) (es : List (Int × α)) : Prop := arr.toList.map (fun e => (e.key, e.val)) = es.map fun p => (.int k p.1, T.enc p.2)
def nwMap (w : World) (k : Nat → World → Prop) : Prop := k w.heap.size (w.alloc (.map #[] 0))
def mput {α : Type} (T : Ty α) (k : IntKind) (m : Option Nat) (key : Int) (v : α) (w : World) (K : World → Prop) : Prop :=
 ∃ r es, m = some r ∧ MapAt T k w r es ∧ ∀ arr c, Reps T k arr (ups key v es) → Born arr c → K (setMap w r arr c)
def mdel {α : Type} (T : Ty α) (k : IntKind) (m : Option Nat) (key : Int) (w : World) (K : World → Prop) : Prop := match m with
 | none => K w
 | some r => ∃ es, MapAt T k w r es ∧ ∀ arr c, Reps T k arr (del key es) → Born arr c → K (setMap w r arr c)
theorem findNow_reps {α : Type} {T : Ty α} {k : IntKind} (key : Int) : ∀ (arr : List MapEntry) (es : List (Int × α)) (i : Nat), arr.map (fun e => (e.key, e.val)) = es.map (fun p => (.int k p.1, T.enc p.2)) →
  (es.lookup key = none ∧ Instr.findNow (.int k) (.int k key) arr i = some none) ∨
  (∃ j v, es.lookup key = some v ∧ Instr.findNow (.int k) (.int k key) arr i = some (some (i + j, T.enc v)) ∧ es[j]? = some (key, v) ∧ (∀ l, l < j → (es[l]?.map (·.1)) ≠ some key))
 | [], [], i, _ => .inl ⟨rfl, rfl⟩
 | [], _ :: _, i, h => by simp at h
 | _ :: _, [], i, h => by simp at h
 | e :: arr, (a, b) :: es, i, h => by
  simp only [List.map_cons, List.cons.injEq, Prod.mk.injEq] at h
  obtain ⟨⟨hk, hv⟩, ht⟩ := h
  by_cases e0 : key = a
  ·subst e0
   right
   refine ⟨0, b, by simp, ?_, rfl, fun l hl => absurd hl (Nat.not_lt_zero _)⟩
   simp [Instr.findNow, hk, hv, Instr.sameNow]
  ·have hne : (key == a) = false := by simpa using e0
   rcases findNow_reps key arr es (i + 1) ht with ⟨h1, h2⟩ | ⟨j, v, h1, h2, h3, h4⟩
   ·left
    exact ⟨by simp [List.lookup, hne, h1], by simp only [Instr.findNow, hk, Instr.sameNow, if_true, hne, h2]⟩
   ·right
    refine ⟨j + 1, v, by simp [List.lookup, hne, h1], by simp only [Instr.findNow, hk, Instr.sameNow, if_true, hne, h2]; rw [show i + 1 + j = i + (j + 1) from by omega], by simpa using h3, ?_⟩
    intro l hl
    cases l with
    | zero => simpa using fun h => e0 h.symm
    | succ l => simpa using h4 l (by omega)
theorem run_checkKey {t : TypeId} {k : IntKind} (ht : P.underlying t = some (.int k)) (e : Bool) (m : Nat) (a : Int) : (Instr.checkKey e (m + 1) t (.int k a)).run P w = .ok () w := by
 simp [Instr.checkKey, run_underlying ht]
theorem run_getObj {r : Nat} {arr : Array MapEntry} {c : Nat} (h : w.heap[r]? = some (.map arr c)) : (getObj r).run P w = .ok (.map arr c) w := by
 simp [getObj, Sem.run, h]
theorem run_setObj {r : Nat} {arr arr' : Array MapEntry} {c c' : Nat} (h : w.heap[r]? = some (.map arr c)) : (setObj r (.map arr' c')).run P w = .ok () (setMap w r arr' c') := by
 simp [setObj, Sem.run, h, setMap]
theorem findKey_reps {α : Type} {T : Ty α} {k : IntKind} {kt : TypeId} {arr : Array MapEntry} {es : List (Int × α)} (hk : P.underlying kt = some (.int k)) (key : Int) (h : Reps T k arr es) :
  (es.lookup key = none ∧ (Instr.findKey kt (.int k key) arr.toList).run P w = .ok none w) ∨
  (∃ j v, es.lookup key = some v ∧ (Instr.findKey kt (.int k key) arr.toList).run P w = .ok (some (j, T.enc v)) w ∧ es[j]? = some (key, v) ∧ (∀ l, l < j → (es[l]?.map (·.1)) ≠ some key)) := by
 rcases findNow_reps key arr.toList es 0 h with ⟨h1, h2⟩ | ⟨j, v, h1, h2, h3, h4⟩
 ·exact .inl ⟨h1, by simp only [Instr.findKey, Sem.run_bind, run_underlying hk, Result.andThen_ok, h2, Sem.run_pure]⟩
 ·exact .inr ⟨j, v, h1, by simp only [Instr.findKey, Sem.run_bind, run_underlying hk, Result.andThen_ok, h2, Sem.run_pure, Nat.zero_add], h3, h4⟩
theorem q_lookup2 {α : Type} {T : Ty α} {m by_ : Nat} {t kt et : TypeId} {k : IntKind} {r : Option Nat} {key : Int} {u : Option α} {z : α} (ho : o.op = .lookup t x y true) (ht : P.underlying t = some (.map kt et)) (hk : P.underlying kt = some (.int k))
  (hz : ∃ i, P.info? et = some i ∧ i.zero = some (T.enc z) ∧ i.size = m ∧ i.bytes = by_) (hx : evl n f x = .map r) (hy : evl n f y = .int k key) (hr : MapGet T k r key w u) :
  (execOp (evl n f) o).run P w = .ok (.value (.tuple #[T.enc (u.getD z), .bool u.isSome])) w := by
 obtain ⟨i, hi, hzz, _⟩ := hz
 cases r with
 | none =>
  simp only [MapGet] at hr
  subst hr
  simp [execOp, ho, hx, hy, Instr.lookup, run_underlying ht, run_checkKey hk, Instr.findKey, run_underlying hk, Instr.findNow, zeroValue, typeInfo, hi, hzz]
 | some r =>
  obtain ⟨es, ⟨arr, c, hb, hrep, hborn⟩, rfl⟩ := hr
  rcases findKey_reps (P := P) (w := w) hk key hrep with ⟨h1, h2⟩ | ⟨j, v, h1, h2, _⟩
  ·simp [execOp, ho, hx, hy, Instr.lookup, run_underlying ht, run_getObj hb, run_checkKey hk, h1, h2, zeroValue, typeInfo, hi, hzz]
  ·simp [execOp, ho, hx, hy, Instr.lookup, run_underlying ht, run_getObj hb, run_checkKey hk, h1, h2]
theorem q_lookup {α : Type} {T : Ty α} {m by_ : Nat} {t kt et : TypeId} {k : IntKind} {r : Option Nat} {key : Int} {u : Option α} {z : α} (ho : o.op = .lookup t x y false) (ht : P.underlying t = some (.map kt et)) (hk : P.underlying kt = some (.int k))
  (hz : ∃ i, P.info? et = some i ∧ i.zero = some (T.enc z) ∧ i.size = m ∧ i.bytes = by_) (hx : evl n f x = .map r) (hy : evl n f y = .int k key) (hr : MapGet T k r key w u) :
  (execOp (evl n f) o).run P w = .ok (.value (T.enc (u.getD z))) w := by
 obtain ⟨i, hi, hzz, _⟩ := hz
 cases r with
 | none =>
  simp only [MapGet] at hr
  subst hr
  simp [execOp, ho, hx, hy, Instr.lookup, run_underlying ht, run_checkKey hk, Instr.findKey, run_underlying hk, Instr.findNow, zeroValue, typeInfo, hi, hzz]
 | some r =>
  obtain ⟨es, ⟨arr, c, hb, hrep, hborn⟩, rfl⟩ := hr
  rcases findKey_reps (P := P) (w := w) hk key hrep with ⟨h1, h2⟩ | ⟨j, v, h1, h2, _⟩
  ·simp [execOp, ho, hx, hy, Instr.lookup, run_underlying ht, run_getObj hb, run_checkKey hk, h1, h2, zeroValue, typeInfo, hi, hzz]
  ·simp [execOp, ho, hx, hy, Instr.lookup, run_underlying ht, run_getObj hb, run_checkKey hk, h1, h2]
theorem q_lenM {t kt et : TypeId} {r : Option Nat} {l : Nat} (ho : o.op = .call { callee := .builtin .len, args := #[x], argTypes := #[t] }) (ht : P.underlying t = some (.map kt et)) (hx : evl n f x = .map r) (hr : MapLen r w l) :
  (execOp (evl n f) o).run P w = .ok (.value (.int .i64 l)) w := by
 cases r with
 | none => simp only [MapLen] at hr; subst hr; simp [execOp, ho, hx, resolve, invoke, builtin, Builtin.len_, run_underlying ht, goInt]
 | some r =>
  obtain ⟨arr, c, hb, rfl⟩ := hr
  simp [execOp, ho, hx, resolve, invoke, builtin, Builtin.len_, run_underlying ht, goInt, run_getObj hb]
theorem nwMap_open {w : World} {k : Nat → World → Prop} (h : nwMap w k) : ∃ r w', r = w.heap.size ∧ w' = w.alloc (.map #[] 0) ∧ k r w' := ⟨_, _, rfl, rfl, h⟩
theorem q_makeMap {t : TypeId} {r : Nat} (ho : o.op = .makeMap t none) (hr : r = w.heap.size) (hw : w' = w.alloc (.map #[] 0)) : (execOp (evl n f) o).run P w = .ok (.value (.map (some r))) w' := by
 subst hr; subst hw; simp [execOp, ho, Instr.makeMap]
theorem ups_set {α : Type} (key : Int) (v : α) : ∀ (es : List (Int × α)) (j : Nat) (u : α), es[j]? = some (key, u) → (∀ l, l < j → (es[l]?.map (·.1)) ≠ some key) → ups key v es = es.set j (key, v)
 | [], j, u, h, _ => by simp at h
 | (a, b) :: es, 0, u, h, _ => by simp at h; simp [ups, h.1]
 | (a, b) :: es, j + 1, u, h, hl => by
  have h0 := hl 0 (by omega)
  have hne : (key == a) = false := by simp at h0; simpa using fun e => h0 e.symm
  simp only [ups, hne, Bool.false_eq_true, if_false, List.set_cons_succ]
  rw [ups_set key v es j u (by simpa using h) fun l hl' => by simpa using hl (l + 1) (by omega)]
theorem ups_new {α : Type} (key : Int) (v : α) : ∀ (es : List (Int × α)), es.lookup key = none → ups key v es = es ++ [(key, v)]
 | [], _ => rfl
 | (a, b) :: es, h => by
  by_cases e : (key == a) = true
  ·simp [List.lookup, e] at h
  ·simp only [List.lookup, e] at h
   simp [ups, e, ups_new key v es h]
theorem del_at {α : Type} (key : Int) : ∀ (es : List (Int × α)) (j : Nat) (u : α), es[j]? = some (key, u) → (∀ l, l < j → (es[l]?.map (·.1)) ≠ some key) → del key es = es.eraseIdx j
 | [], j, u, h, _ => by simp at h
 | (a, b) :: es, 0, u, h, _ => by simp at h; simp [del, h.1]
 | (a, b) :: es, j + 1, u, h, hl => by
  have h0 := hl 0 (by omega)
  have hne : (key == a) = false := by simp at h0; simpa using fun e => h0 e.symm
  simp only [del, hne, Bool.false_eq_true, if_false, List.eraseIdx_cons_succ]
  rw [del_at key es j u (by simpa using h) fun l hl' => by simpa using hl (l + 1) (by omega)]
theorem del_none {α : Type} (key : Int) : ∀ (es : List (Int × α)), es.lookup key = none → del key es = es
 | [], _ => rfl
 | (a, b) :: es, h => by
  by_cases e : (key == a) = true
  ·simp [List.lookup, e] at h
  ·simp only [List.lookup, e] at h
   simp [del, e, del_none key es h]
theorem wp_mput {α : Type} {T : Ty α} {t kt et : TypeId} {k : IntKind} {r : Option Nat} {key : Int} {v : α} {next : Act → World → Prop} {K : World → Prop} {d : Option Nat} (hd : o.dst = d) (ho : o.op = .mapUpdate t x y z ∨ o.op = .insert t x y z) (ht : P.underlying t = some (.map kt et))
  (hk : P.underlying kt = some (.int k)) (hx : evl n f x = .map r) (hy : evl n f y = .int k key) (hz : evl n f z = T.enc v) (h : mput T k r key v w K) (hK : ∀ w', K w' → next (act n (updo f d undef) ds) w') :
  Ow P o (act n f ds) w next Q := by
 rw [Ow_eq]
 subst hd
 obtain ⟨b, es, rfl, ⟨arr, c, hb, hrep, hborn⟩, h⟩ := h
 have hop : ∀ w', (Instr.mapUpdate t (.map (some b)) (.int k key) (T.enc v)).run P w = .ok () w' → (execOp (evl n f) o).run P w = .ok .skip w' := by
  intro w' hw
  rcases ho with ho | ho <;> simp only [execOp, ho, hx, hy, hz, Sem.run_bind, hw, Result.andThen_ok, Sem.run_pure]
 rcases findKey_reps (P := P) (w := w) hk key hrep with ⟨h1, h2⟩ | ⟨j, u, h1, h2, h3, h4⟩
 ·have hrun : (Instr.mapUpdate t (.map (some b)) (.int k key) (T.enc v)).run P w = .ok () (setMap w b (arr.push { key := .int k key, val := T.enc v, born := c }) (c + 1)) := by
   simp only [Instr.mapUpdate, Sem.run_bind, run_underlying ht, Result.andThen_ok, run_getObj hb, run_checkKey hk, h2, run_setObj hb]
  simp only [Oper.wp, act_eval, hop _ hrun, Oper.upon_skip, act_put]
  refine hK _ (h _ _ ?_ (born_push hborn))
  simp only [Reps] at hrep ⊢
  rw [ups_new key v es h1]
  simp [hrep]
 ·have hke : ∃ e, arr[j]? = some e ∧ e.key = .int k key := by
   have := congrArg (·[j]?) hrep
   simp only [List.getElem?_map, h3, Option.map_some] at this
   cases ha : arr[j]? with
   | none => simp [ha] at this
   | some e => simp [ha] at this; exact ⟨e, rfl, this.1⟩
  obtain ⟨e, he, hek⟩ := hke
  have hstay : (Instr.keyThatStays (((arr[j]?).map (·.key)).getD (.int k key)) (.int k key)).run P w = .ok (.int k key) w := by
   simp [he, hek, Instr.keyThatStays, Instr.sameBits]
  have hrun : (Instr.mapUpdate t (.map (some b)) (.int k key) (T.enc v)).run P w = .ok () (setMap w b (arr.modify j fun e => { e with key := .int k key, val := T.enc v }) c) := by
   simp only [Instr.mapUpdate, Sem.run_bind, run_underlying ht, Result.andThen_ok, run_getObj hb, run_checkKey hk, h2, hstay, run_setObj hb]
  simp only [Oper.wp, act_eval, hop _ hrun, Oper.upon_skip, act_put]
  have hbm : (arr.modify j fun e => { e with key := .int k key, val := T.enc v }).toList.map (·.born) = arr.toList.map (·.born) := by
   apply List.ext_getElem?
   intro l
   simp only [List.getElem?_map, Array.getElem?_toList, Array.getElem?_modify]
   by_cases e1 : j = l
   ·subst e1; cases arr[j]? <;> simp
   ·simp [e1]
  refine hK _ (h _ _ ?_ (born_same hborn hbm))
  simp only [Reps] at hrep ⊢
  rw [ups_set key v es j u h3 h4]
  apply List.ext_getElem?
  intro l
  have hl := congrArg (·[l]?) hrep
  simp only [List.getElem?_map, Array.getElem?_toList] at hl
  simp only [List.getElem?_map, Array.getElem?_toList, Array.getElem?_modify, List.getElem?_set]
  by_cases e1 : j = l
  ·subst e1
   have hlt : j < es.length := (List.getElem?_eq_some_iff.1 h3).1
   simp [he, hlt]
  ·simp [e1, hl]
theorem map_eraseIdx {α β : Type} (g : α → β) : ∀ (l : List α) (i : Nat), (l.eraseIdx i).map g = (l.map g).eraseIdx i
 | [], _ => rfl
 | _ :: _, 0 => rfl
 | a :: l, i + 1 => by simp [map_eraseIdx g l i]
theorem wp_mdel {α : Type} {T : Ty α} {t kt et ty : TypeId} {k : IntKind} {r : Option Nat} {key : Int} {next : Act → World → Prop} {K : World → Prop} {d : Option Nat} (hd : o.dst = d) (ho : o.op = .call { callee := .builtin .delete, args := #[x, y], argTypes := #[t, ty] }) (ht : P.underlying t = some (.map kt et))
  (hk : P.underlying kt = some (.int k)) (hx : evl n f x = .map r) (hy : evl n f y = .int k key) (h : mdel T k r key w K) (hK : ∀ w', K w' → next (act n (updo f d (.tuple #[])) ds) w') :
  Ow P o (act n f ds) w next Q := by
 rw [Ow_eq]
 subst hd
 have hop : ∀ w', (Builtin.delete_ #[t, ty] o.type #[.map r, .int k key]).run P w = .ok (.tuple #[]) w' → (execOp (evl n f) o).run P w = .ok (.value (.tuple #[])) w' := by
  intro w' hw
  simp only [execOp, ho, resolve, invoke, builtin, List.map_toArray, List.map_cons, List.map_nil, hx, hy, pure_bind, Sem.run_bind, hw, Result.andThen_ok, Sem.run_pure]
 cases r with
 | none =>
  have hrun : (Builtin.delete_ #[t, ty] o.type #[.map none, .int k key]).run P w = .ok (.tuple #[]) w := by
   simp [Builtin.delete_, run_underlying ht, run_checkKey hk]
  simp only [Oper.wp, act_eval, hop _ hrun, Oper.upon_value, act_put]
  exact hK _ h
 | some b =>
  obtain ⟨es, ⟨arr, c, hb, hrep, hborn⟩, h⟩ := h
  rcases findKey_reps (P := P) (w := w) hk key hrep with ⟨h1, h2⟩ | ⟨j, u, h1, h2, h3, h4⟩
  ·have hrun : (Builtin.delete_ #[t, ty] o.type #[.map (some b), .int k key]).run P w = .ok (.tuple #[]) (setMap w b arr c) := by
    simp [Builtin.delete_, run_underlying ht, run_getObj hb, run_checkKey hk, h2, run_setObj hb]
   simp only [Oper.wp, act_eval, hop _ hrun, Oper.upon_value, act_put]
   refine hK _ (h _ _ ?_ hborn)
   rw [del_none key es h1]; exact hrep
  ·have hrun : (Builtin.delete_ #[t, ty] o.type #[.map (some b), .int k key]).run P w = .ok (.tuple #[]) (setMap w b (arr.eraseIdxIfInBounds j) c) := by
    simp [Builtin.delete_, run_underlying ht, run_getObj hb, run_checkKey hk, h2, run_setObj hb]
   simp only [Oper.wp, act_eval, hop _ hrun, Oper.upon_value, act_put]
   have hsub : (arr.eraseIdxIfInBounds j).toList.Sublist arr.toList := by
    unfold Array.eraseIdxIfInBounds
    split
    ·rw [Array.toList_eraseIdx]; exact List.eraseIdx_sublist _ _
    ·exact List.Sublist.refl _
   refine hK _ (h _ _ ?_ (born_sub hborn hsub))
   rw [del_at key es j u h3 h4]
   simp only [Reps] at hrep ⊢
   have hj : j < arr.size := by
    have hlt : j < es.length := (List.getElem?_eq_some_iff.1 h3).1
    have := congrArg List.length hrep
    simp at this; omega
   simp only [Array.eraseIdxIfInBounds, hj, dif_pos, Array.toList_eraseIdx]
   rw [map_eraseIdx, hrep, map_eraseIdx]
theorem replicate_len {α : Type} {T : Ty α} {sz : Nat} {z : α} (hl : (T.cells z).length = sz) (m : Nat) : ((List.replicate m z).flatMap T.cells).length = m * sz := by
 induction m with
 | zero => simp
 | succ m ih => rw [List.replicate_succ, List.flatMap_cons, List.length_append, ih, hl, Nat.add_mul]; omega
theorem zeroCells_flat {α : Type} {T : Ty α} {sz : Nat} {z : α} (hf : (T.enc z).cells = (T.cells z).toArray) (hl : (T.cells z).length = sz) : ∀ m : Nat, (Builtin.zeroCells (T.enc z).cells m).toList = (List.replicate m z).flatMap T.cells := by
 intro m
 rw [hf]
 apply List.ext_getElem?
 intro j
 simp only [Builtin.zeroCells, List.size_toArray, hl, Array.toList_map, Array.toList_range, List.getElem?_map]
 by_cases hj : j < m * sz
 ·have hsz : 0 < sz := by
   rcases Nat.eq_zero_or_pos sz with h | h
   ·rw [h] at hj; omega
   ·exact h
  have hmod : j % sz < sz := Nat.mod_lt _ hsz
  rw [List.getElem?_range (by simpa using hj)]
  simp only [Option.map_some]
  have : ∀ (m j : Nat), j < m * sz → ((List.replicate m z).flatMap T.cells)[j]? = (T.cells z)[j % sz]? := by
   intro m
   induction m with
   | zero => intro j hj; simp at hj
   | succ m ih =>
    intro j hj
    rw [List.replicate_succ, List.flatMap_cons]
    by_cases hlt : j < sz
    ·rw [List.getElem?_append_left (by omega), Nat.mod_eq_of_lt hlt]
    ·rw [List.getElem?_append_right (by omega), hl, ih (j - sz) (by rw [Nat.add_mul] at hj; omega)]
     congr 1
     exact (Nat.mod_eq_sub_mod (by omega)).symm
  rw [this m j hj]
  rw [List.getElem?_eq_getElem (by omega)]
  simp only [Option.some.injEq]
  have hlt : j % sz < (T.cells z).toArray.size := by simp; omega
  rw [getElem!_pos (T.cells z).toArray (j % sz) hlt]; simp
 ·rw [List.getElem?_eq_none (by simpa using hj), List.getElem?_eq_none (by rw [replicate_len hl]; omega)]
  rfl
theorem block_alloc {w : World} {o u : Obj} {r : Nat} (h : w.heap[r]? = some u) : (w.alloc o).heap[r]? = some u := by
 have hlt : r < w.heap.size := (Array.getElem?_eq_some_iff.1 h).1
 simp only [World.alloc, Array.getElem?_push]
 rw [if_neg (by omega)]; exact h
theorem keep_MapGet {α : Type} {T : Ty α} {k : IntKind} {m : Option Nat} {key : Int} {u : Option α} {w w' : World} {o : Obj} (hw : w' = w.alloc o) (h : MapGet T k m key w u) : MapGet T k m key w' u := by
 subst hw
 cases m with
 | none => exact h
 | some r => obtain ⟨es, ⟨arr, c, hb, hr⟩, hu⟩ := h; exact ⟨es, ⟨arr, c, block_alloc hb, hr⟩, hu⟩
end
end Go.Proofs.YtehclfjjjiiieaaGreat.Cf
namespace Go.Proofs.YtehclfjjjiiieaaGreat.Cf
set_option linter.unusedSimpArgs false
set_option linter.unusedVariables false
open Go Go.ChangeMaps
section
variable {P : Program} {Q : Exit → Act → World → Prop} {n : Nat} {f : Nat → Value} {ds : List Deferred} {w w' : World} {ops : Array Oper} {i : Nat} {rest : List Nat} {o : Oper} {x y z : Operand}
def rng (m : Option Nat) (w : World) (k : Addr → World → Prop) : Prop := match m with
 | none => k ⟨w.heap.size, 0, none⟩ (w.alloc (.mapIter none 0 #[] 0))
 | some b => ∃ arr c, w.heap[b]? = some (.map arr c) ∧ k ⟨w.heap.size, 0, none⟩ (w.alloc (.mapIter (some b) c #[] c))
theorem wp_rng {t kt et : TypeId} {r : Option Nat} {next : Act → World → Prop} {K : Addr → World → Prop} {d : Option Nat} (hd : o.dst = d) (ho : o.op = .range t x) (ht : P.underlying t = some (.map kt et)) (hx : evl n f x = .map r)
  (h : rng r w K) (hK : ∀ a w', K a w' → next (act n (updo f d (.pointer (some a))) ds) w') : Ow P o (act n f ds) w next Q := by
 rw [Ow_eq]
 subst hd
 cases r with
 | none =>
  have hrun := run_range_nilMap (P := P) w t kt et ht
  have hop : (execOp (evl n f) o).run P w = .ok (.value (.pointer (some ⟨w.heap.size, 0, none⟩))) (w.alloc (.mapIter none 0 #[] 0)) := by simp [execOp, ho, hx, hrun]
  simp only [Oper.wp, act_eval, hop, Oper.upon_value, act_put]
  exact hK _ _ h
 | some b =>
  obtain ⟨arr, c, hb, h⟩ := h
  have hrun := run_range_map (P := P) w t kt et b arr c ht hb
  have hop : (execOp (evl n f) o).run P w = .ok (.value (.pointer (some ⟨w.heap.size, 0, none⟩))) (w.alloc (.mapIter (some b) c #[] c)) := by simp [execOp, ho, hx, hrun]
  simp only [Oper.wp, act_eval, hop, Oper.upon_value, act_put]
  exact hK _ _ h
def nxtV : Option (Value × Value) → Value
 | none => .tuple #[.bool false]
 | some p => .tuple #[.bool true, p.1, p.2]
def nxt (a : Addr) (w : World) (k : Option (Value × Value) → World → Prop) : Prop :=
 ∃ r bm since seen c0 es clock, a = ⟨r, 0, none⟩ ∧ w.heap[r]? = some (.mapIter (some bm) since seen c0) ∧ w.heap[bm]? = some (.map es clock) ∧ (∀ e ∈ es.toList, e.born < since) ∧ since ≤ c0 ∧
  ((leftOf es seen).size = 0 → k none w) ∧ ∀ e ∈ (leftOf es seen).toList, ∀ w1, w1 = w ∨ w1 = w.drew → k (some (e.key, e.val)) (setBlock w1 r (.mapIter (some bm) since (seen.push e.born) clock))
theorem wp_nxt {a : Addr} {next : Act → World → Prop} {K : Option (Value × Value) → World → Prop} {d : Option Nat} (hd : o.dst = d) (ho : o.op = .next x false) (hx : evl n f x = .pointer (some a))
  (h : nxt a w K) (hK : ∀ q w', K q w' → next (act n (updo f d (nxtV q)) ds) w') : Ow P o (act n f ds) w next Q := by
 rw [Ow_eq]
 subst hd
 obtain ⟨r, bm, since, seen, c0, es, clock, rfl, hr, hb, hold, hsc, h0, h1⟩ := h
 rcases run_next_at (P := P) w o.type r bm since c0 seen es clock hr hb hold hsc with ⟨hz, hrun⟩ | ⟨e, he, w1, hw1, hrun⟩
 ·have hop : (execOp (evl n f) o).run P w = .ok (.value (.tuple #[.bool false])) w := by simp [execOp, ho, hx, hrun]
  simp only [Oper.wp, act_eval, hop, Oper.upon_value, act_put]
  exact hK none _ (h0 hz)
 ·have hop : (execOp (evl n f) o).run P w = .ok (.value (.tuple #[.bool true, e.key, e.val])) (setBlock w1 r (.mapIter (some bm) since (seen.push e.born) clock)) := by simp [execOp, ho, hx, hrun]
  simp only [Oper.wp, act_eval, hop, Oper.upon_value, act_put]
  exact hK (some (e.key, e.val)) _ (h1 e he w1 hw1)
theorem q_extractN {q : Option (Value × Value)} (ho : o.op = .extract x 0) (hx : evl n f x = nxtV q) : (execOp (evl n f) o).run P w = .ok (.value (.bool q.isSome)) w := by
 cases q <;> simp [execOp, ho, hx, Instr.extract, nxtV]
def Ent {α : Type} (T : Ty α) (k : IntKind) (a : Addr) (w : World) (p : Int × α) : Prop :=
 ∃ r bm since seen es clock e, a = ⟨r, 0, none⟩ ∧ w.heap[r]? = some (.mapIter (some bm) since (Array.push seen (MapEntry.born e)) clock) ∧ w.heap[bm]? = some (.map es clock) ∧ e ∈ es.toList ∧ (es.toList.map (·.born)).Nodup ∧ e.key = .int k p.1 ∧ e.val = T.enc p.2
theorem q_entry {α : Type} {T : Ty α} {k : IntKind} {a : Addr} {p : Int × α} (ho : o.op = .entry x) (hx : evl n f x = .pointer (some a)) (h : Ent T k a w p) : (execOp (evl n f) o).run P w = .ok (.value (.tuple #[.int k p.1, T.enc p.2])) w := by
 obtain ⟨r, bm, since, seen, es, clock, e, rfl, hr, hb, he, hn, h1, h2⟩ := h
 have hrun := run_entry_at (P := P) w r bm since seen es clock e hr hb he hn
 simp [execOp, ho, hx, hrun, h1, h2]
end
end Go.Proofs.YtehclfjjjiiieaaGreat.Cf
namespace Go.Proofs.YtehclfjjjiiieaaGreat.Cf
set_option linter.unusedSimpArgs false
set_option linter.unusedVariables false
open Go Go.ChangeMaps
section
variable {P : Program} {Q : Exit → Act → World → Prop} {n : Nat} {f : Nat → Value} {ds : List Deferred} {w w' : World} {ops : Array Oper} {i : Nat} {rest : List Nat} {o : Oper} {x y z : Operand}
theorem q_max {a b : Int} {k : IntKind} {ats : Array TypeId} (ho : o.op = .call { callee := .builtin .max, args := #[x, y], argTypes := ats }) (hx : evl n f x = .int k a) (hy : evl n f y = .int k b) :
  (execOp (evl n f) o).run P w = .ok (.value (.int k (max a b))) w := by
 have h := run_max_int2 (P := P) (w := w) ats o.type k k a b
 have e : (if b > a then b else a) = max a b := by omega
 rw [e] at h
 simp only [execOp, ho, resolve, invoke, builtin, List.map_toArray, List.map_cons, List.map_nil, hx, hy, pure_bind, Sem.run_bind, h, Result.andThen_ok, Sem.run_pure]
theorem q_min {a b : Int} {k : IntKind} {ats : Array TypeId} (ho : o.op = .call { callee := .builtin .min, args := #[x, y], argTypes := ats }) (hx : evl n f x = .int k a) (hy : evl n f y = .int k b) :
  (execOp (evl n f) o).run P w = .ok (.value (.int k (min a b))) w := by
 have h := run_min_int2 (P := P) (w := w) ats o.type k k a b
 have e : (if b < a then b else a) = min a b := by omega
 rw [e] at h
 simp only [execOp, ho, resolve, invoke, builtin, List.map_toArray, List.map_cons, List.map_nil, hx, hy, pure_bind, Sem.run_bind, h, Result.andThen_ok, Sem.run_pure]
def mkS {α : Type} (t : TypeId) (T : Ty α) (by_ : Nat) (z : α) (l c : Int) (w : World) (K : Slc → World → Prop) : Prop :=
 0 ≤ l ∧ l ≤ c ∧ (by_ : Int) * c ≤ 281474976710656 ∧ c ≤ 9223372036854775807 ∧ K ⟨some ⟨w.heap.size, 0, none⟩, l.toNat, c.toNat⟩ (w.alloc (.cells ((List.replicate c.toNat z).flatMap T.cells).toArray t))
theorem wp_mkS {α : Type} {T : Ty α} {sz by_ : Nat} {t e : TypeId} {z : α} {l c : Int} {next : Act → World → Prop} {K : Slc → World → Prop} {d : Option Nat} (hd : o.dst = d) (ho : o.op = .makeSlice t x y) (ht : P.underlying t = some (.slice e)) (ok : TyOk P e T sz)
  (hz : ∃ i, P.info? e = some i ∧ i.zero = some (T.enc z) ∧ i.size = sz ∧ i.bytes = by_) (hx : evl n f x = .int .i64 l) (hy : evl n f y = .int .i64 c) (h : mkS e T by_ z l c w K) (hK : ∀ r w', K r w' → next (act n (updo f d (tSlc.enc r)) ds) w') : Ow P o (act n f ds) w next Q := by
 rw [Ow_eq]
 subst hd
 obtain ⟨i, hi, hzz, hs, rfl⟩ := hz
 obtain ⟨h0, h1, h2, h3, h⟩ := h
 have hrun := run_make (P := P) w t e i (T.enc z) ht hi hzz .i64 .i64 l c h0 h1 h2 h3
 have hcells : madeCells (T.enc z).cells (c.toNat * i.size) = ((List.replicate c.toNat z).flatMap T.cells).toArray := by
  have hzc := zeroCells_flat (T := T) (ok.flat z) (ok.len z) c.toNat
  have e1 : (T.enc z).cells.size = i.size := by rw [ok.flat z, hs]; simpa using ok.len z
  have e2 : madeCells (T.enc z).cells (c.toNat * i.size) = Builtin.zeroCells (T.enc z).cells c.toNat := by
   unfold madeCells Builtin.zeroCells; rw [e1]
  rw [e2, ← hzc]
 rw [hcells] at hrun
 have hop : (execOp (evl n f) o).run P w = .ok (.value (tSlc.enc ⟨some ⟨w.heap.size, 0, none⟩, l.toNat, c.toNat⟩)) (w.alloc (.cells ((List.replicate c.toNat z).flatMap T.cells).toArray e)) := by
  simp [execOp, ho, hx, hy, hrun]
 simp only [Oper.wp, act_eval, hop, Oper.upon_value, act_put]
 exact hK _ _ h
def cpy {α : Type} (T : Ty α) (sz : Nat) (s b : Slc) (w : World) (K : Nat → World → Prop) : Prop :=
 ∃ new : List α, new.length = min b.len s.len ∧ RdS T w ⟨b.a, new.length, b.cap⟩ new ∧ match s.a with
  | none => K new.length w
  | some a => Wr w a (new.length * sz) ∧ K new.length (putc w a 0 (new.flatMap T.cells))
theorem wp_cpy {α : Type} {T : Ty α} {sz : Nat} {t u e : TypeId} {s b : Slc} {next : Act → World → Prop} {K : Nat → World → Prop} {d : Option Nat} (hd : o.dst = d) (ho : o.op = .call { callee := .builtin .copy, args := #[x, y], argTypes := #[t, u] }) (ht : P.underlying t = some (.slice e)) (ok : TyOk P e T sz)
  (hx : evl n f x = tSlc.enc s) (hy : evl n f y = tSlc.enc b) (h : cpy T sz s b w K) (hK : ∀ r w', K r w' → next (act n (updo f d (.int .i64 r)) ds) w') : Ow P o (act n f ds) w next Q := by
 rw [Ow_eq]
 subst hd
 obtain ⟨new, hn, hrd, h⟩ := h
 obtain ⟨i, hi, hsz⟩ := ok.size
 have hfc := run_firstCells (P := P) ok.len hrd
 have hfc : Sem.run P (Builtin.firstCells sz new.length (Value.slice b.a b.len b.cap)) w = .ok (new.flatMap T.cells).toArray w := by
  cases hb : b.a with
  | none => rw [hb] at hfc; simpa [Builtin.firstCells] using hfc
  | some a => rw [hb] at hfc; exact hfc
 have hmin : Nat.min b.len s.len = new.length := hn.symm
 have hop : ∀ (v : Value) (w' : World), (Builtin.copy_ #[t, u] o.type #[tSlc.enc s, tSlc.enc b]).run P w = .ok v w' → (execOp (evl n f) o).run P w = .ok (.value v) w' := by
  intro v w' hv
  simp only [execOp, ho, resolve, invoke, builtin]
  simp only [List.map_toArray, List.map_cons, List.map_nil, hx, hy, pure_bind, Sem.run_bind, hv, Result.andThen_ok, Sem.run_pure]
 cases ha : s.a with
 | none =>
  rw [ha] at h
  have hrun : (Builtin.copy_ #[t, u] o.type #[tSlc.enc s, tSlc.enc b]).run P w = .ok (.int .i64 new.length) w := by
   show (Builtin.copy_ #[t, u] o.type #[.slice s.a s.len s.cap, .slice b.a b.len b.cap]).run P w = _
   simp [Builtin.copy_, run_underlying ht, Builtin.lenOf, run_sizeOf hi, hsz, hmin, hfc, ha, goInt]
  simp only [Oper.wp, act_eval, hop _ _ hrun, Oper.upon_value, act_put]
  exact hK _ _ h
 | some a =>
  rw [ha] at h
  have hone : ∀ v ∈ new.flatMap T.cells, v.oneCell' = true := fun v hv => by
   obtain ⟨q, _, hq⟩ := List.mem_flatMap.1 hv; exact ok.one q v hq
  have hst := run_storeCells (P := P) a (new.flatMap T.cells) 0 w (by
   intro j hj
   rw [Nat.zero_add]
   refine h.1 j ?_
   rwa [flat_len ok.len] at hj) hone
  have hrun : (Builtin.copy_ #[t, u] o.type #[tSlc.enc s, tSlc.enc b]).run P w = .ok (.int .i64 new.length) (putc w a 0 (new.flatMap T.cells)) := by
   show (Builtin.copy_ #[t, u] o.type #[.slice s.a s.len s.cap, .slice b.a b.len b.cap]).run P w = _
   simp [Builtin.copy_, run_underlying ht, Builtin.lenOf, run_sizeOf hi, hsz, hmin, hfc, ha, hst, goInt]
  simp only [Oper.wp, act_eval, hop _ _ hrun, Oper.upon_value, act_put]
  exact hK _ _ h.2
end
end Go.Proofs.YtehclfjjjiiieaaGreat.Cf
namespace Go.Proofs.YtehclfjjjiiieaaGreat.Cf
set_option linter.unusedSimpArgs false
set_option linter.unusedVariables false
open Go
section
variable {P : Program} {Q : Exit → Act → World → Prop} {n : Nat} {f : Nat → Value} {ds : List Deferred} {w w' : World} {o : Oper} {x y : Operand}
def B (l : List UInt8) : List Int := l.map fun b => (b.toNat : Int)
theorem B_len (l : List UInt8) : (B l).length = l.length := by simp [B]
theorem B_app (l m : List UInt8) : B (l ++ m) = B l ++ B m := by simp [B]
def B2S (s : Slc) (w : World) (r : List UInt8) : Prop := RdS (tInt .u8) w s (B r)
theorem flat_int (k : IntKind) : ∀ l : List Int, l.flatMap (tInt k).cells = l.map (Value.int k)
 | [] => rfl
 | a :: l => by simp [flat_int k l]
theorem q_b2s {s t e : TypeId} {b : Slc} {r : List UInt8} (ho : o.op = .convert s t x) (hs : P.underlying s = some (.slice e)) (he : P.underlying e = some (.int .u8)) (ht : P.underlying t = some .string) (hx : evl n f x = tSlc.enc b) (h : B2S b w r) :
  (execOp (evl n f) o).run P w = .ok (.value (.string ⟨r.toArray⟩)) w := by
 obtain ⟨hl, hr⟩ := h
 rw [B_len] at hl
 obtain ⟨a, len, cap⟩ := b
 simp only at hl hr
 subst hl
 have h1 : (convert s t (.slice a r.length cap)).run P w = .ok (.string ⟨r.toArray⟩) w := by
  cases a with
  | none =>
   have h0 : B r = [] := hr
   have : r = [] := by simpa [B] using h0
   subst this
   rw [run_convert_bytes_string w s t e none _ cap hs he ht]
   rfl
  | some a =>
   refine run_convert_bytes_back w s t e a cap r hs he ht fun j hj => ?_
   refine (hr : Rd w a _) j _ ?_
   rw [flat_int]
   simp [B, List.getElem?_eq_getElem hj]
 simp only [execOp, ho, hx, Sem.run_bind, h1, Result.andThen_ok, Sem.run_pure]
theorem run_firstCells_string' {P : Program} (w : World) (m : Nat) (r : List UInt8) : (Builtin.firstCells m r.length (.string ⟨r.toArray⟩)).run P w = .ok ((B r).flatMap (tInt .u8).cells).toArray w := by
 rw [flat_int]
 have hsz : (⟨r.toArray⟩ : ByteArray).size = r.length := rfl
 simp only [Builtin.firstCells, Sem.run_pure]
 congr 1
 apply Array.ext'
 have he : (⟨r.toArray⟩ : ByteArray).extract 0 r.length = ⟨r.toArray⟩ := by rw [← hsz]; exact ByteArray.extract_zero_size
 rw [he]
 simp [B]
theorem run_firstB (m : Nat) (r : List UInt8) : (Builtin.firstCells m r.length (.string ⟨r.toArray⟩)).run P w = .ok ((B r).flatMap (tInt .u8).cells).toArray w := by
 have h := run_firstCells_string' (P := P) w m r
 exact h
def apS (e : TypeId) (s : Slc) (r : List UInt8) (w : World) (k : Slc → World → Prop) : Prop := app e (tInt .u8) 1 1 s (B r) w k
theorem run_apS_in {t u ty e : TypeId} {s : Slc} {r : List UInt8} (ht : P.underlying t = some (.slice e)) (hu : P.underlying u = some .string) (ok : TyOk P e (tInt .u8) 1) (hc : s.len + r.length ≤ s.cap) {a : Addr} (ha : s.a = some a) (hw : Wr w (a.add (s.len * 1)) (r.length * 1)) :
  (Builtin.append_ #[t, u] ty #[tSlc.enc s, .string ⟨r.toArray⟩]).run P w = .ok (tSlc.enc ⟨some a, s.len + r.length, s.cap⟩) (putc w (a.add (s.len * 1)) 0 ((B r).flatMap (tInt .u8).cells)) := by
 obtain ⟨fo, hi, hfs⟩ := ok.size
 have h2 := run_storeCells (P := P) (a.add (s.len * 1)) ((B r).flatMap (tInt .u8).cells) 0 w (by
  intro j hj
  rw [Nat.zero_add]
  rw [flat_len ok.len, B_len] at hj
  exact hw j hj) (fun v hv => by obtain ⟨x, _, hx⟩ := List.mem_flatMap.1 hv; exact ok.one x v hx)
 have hsz : (⟨r.toArray⟩ : ByteArray).size = r.length := rfl
 simp only [Builtin.append_]
 have h1 := run_firstB (P := P) (w := w) 1 r
 simp [run_underlying ht, run_underlying hu, run_sizeOf hi, Builtin.lenOf, hc, hfs, ha, hsz, h1]
 simp only [Nat.mul_one] at h2
 rw [show storeCells (a.add s.len) ((B r).flatMap (tInt .u8).cells).toArray.toList = storeCells (a.add s.len) ((B r).flatMap (tInt .u8).cells) 0 from rfl, h2]
 simp
theorem run_apS_in0 {t u ty e : TypeId} {s : Slc} {r : List UInt8} (ht : P.underlying t = some (.slice e)) (hu : P.underlying u = some .string) (ok : TyOk P e (tInt .u8) 1) (hc : s.len + r.length ≤ s.cap) (ha : s.a = none) :
  (Builtin.append_ #[t, u] ty #[tSlc.enc s, .string ⟨r.toArray⟩]).run P w = .ok (tSlc.enc ⟨none, s.len + r.length, s.cap⟩) w := by
 obtain ⟨fo, hi, hfs⟩ := ok.size
 have hsz : (⟨r.toArray⟩ : ByteArray).size = r.length := rfl
 have h1 := run_firstB (P := P) (w := w) 1 r
 simp only [Builtin.append_]
 simp [run_underlying ht, run_underlying hu, run_sizeOf hi, Builtin.lenOf, hc, hfs, ha, hsz, h1]
theorem run_apS_grown {t u ty e : TypeId} {fo : TypeInfo} {s : Slc} {r : List UInt8} {old : List Int} (ht : P.underlying t = some (.slice e)) (hu : P.underlying u = some .string)
  (ok : TyOk P e (tInt .u8) 1) (hi : P.info? e = some fo) (hz : fo.zero = some (.int .u8 0)) (hby : fo.bytes = 1) (hc : s.cap < s.len + r.length) (hfit : (s.len + r.length) * 1 ≤ 140737488355328) (hold : RdS (tInt .u8) w s old) :
  ∃ (c : Nat) (rest : List Value), s.len + r.length ≤ c ∧ rest.length = (c - (s.len + r.length)) * 1 ∧
   (Builtin.append_ #[t, u] ty #[tSlc.enc s, .string ⟨r.toArray⟩]).run P w = .ok (tSlc.enc ⟨some ⟨w.heap.size, 0, none⟩, s.len + r.length, c⟩) (w.drew.alloc (.cells ((old ++ B r).flatMap (tInt .u8).cells ++ rest).toArray e)) := by
 obtain ⟨fo', hi', hfs⟩ := ok.size
 rw [hi] at hi'; injection hi' with hi'; subst hi'
 have hsz : (⟨r.toArray⟩ : ByteArray).size = r.length := rfl
 have hol : old.length = s.len := hold.1
 have hc' : ¬ (s.len + r.length ≤ s.cap) := by omega
 have hg := growslice_fits (need := s.len + r.length) (old := s.cap) (bytes := fo.bytes) (by omega) (by rw [hby]; exact hfit)
 have hg' : ¬ (281474976710656 < Builtin.nextslicecap (s.len + r.length) s.cap * fo.bytes) := by omega
 have hb0 : fo.bytes ≠ 0 := by omega
 refine ⟨(Question.appendCap (s.len + r.length) s.cap e).cut (w.tape w.drawn (.appendCap (s.len + r.length) s.cap e)), (Builtin.zeroCells (Value.int .u8 0).cells ((Question.appendCap (s.len + r.length) s.cap e).cut (w.tape w.drawn (.appendCap (s.len + r.length) s.cap e)) - (s.len + r.length))).toList, ?_, ?_, ?_⟩
 ·simp only [Question.cut]; omega
 ·simp [Builtin.zeroCells, Value.cells]
 ·have h1' := run_firstB (P := P) (w := w.drew) 1 r
  have h2' : Sem.run P (Builtin.firstCells 1 s.len (Value.slice s.a s.len s.cap)) w.drew = .ok (old.flatMap (tInt .u8).cells).toArray w.drew := run_firstCells (P := P) ok.len (RdS_drew hold)
  simp only [Builtin.append_]
  simp [run_underlying ht, run_underlying hu, run_sizeOf hi, Builtin.lenOf, hc', hfs, hsz, typeInfo, hi, hb0, hg', Question.forced, h1', h2', zeroValue, hz, newRow, List.flatMap_append, World.drew_eq]
  congr 2
  apply Array.ext'
  simp
theorem wp_appendS {t u e : TypeId} {s : Slc} {r : List UInt8} {d : Option Nat} {next : Act → World → Prop} {K : Slc → World → Prop} (hd : o.dst = d)
  (ho : o.op = .call { callee := .builtin .append, args := #[x, y], argTypes := #[t, u] }) (ht : P.underlying t = some (.slice e)) (hu : P.underlying u = some .string)
  (ok : TyOk P e (tInt .u8) 1) (hinf : ∃ i, P.info? e = some i ∧ i.zero = some (.int .u8 0) ∧ i.size = 1 ∧ i.bytes = 1)
  (hx : evl n f x = tSlc.enc s) (hy : evl n f y = .string ⟨r.toArray⟩) (h : apS e s r w K) (hk : ∀ r w', K r w' → next (act n (updo f d (tSlc.enc r)) ds) w') :
  Ow P o (act n f ds) w next Q := by
 rw [Ow_eq]
 subst hd
 obtain ⟨fo, hi, hz, hfs, hby⟩ := hinf
 obtain ⟨hin, hgr⟩ := h
 have hop : ∀ (w : World) (v : Value) (w' : World), (Builtin.append_ #[t, u] o.type #[tSlc.enc s, .string ⟨r.toArray⟩]).run P w = .ok v w' → (execOp (evl n f) o).run P w = .ok (.value v) w' := by
  intro w v w' hv
  simp only [execOp, ho, resolve, invoke, builtin]
  simp only [List.map_toArray, List.map_cons, List.map_nil, hx, hy, pure_bind, Sem.run_bind, hv, Result.andThen_ok, Sem.run_pure]
 rw [B_len] at hin hgr
 by_cases hc : s.len + r.length ≤ s.cap
 ·have hin := hin hc
  cases ha : s.a with
  | none =>
   rw [ha] at hin
   simp only [Oper.wp, act_eval, hop _ _ _ (run_apS_in0 ht hu ok hc ha), Oper.upon_value, act_put]
   exact hk _ _ hin
  | some a =>
   rw [ha] at hin
   simp only [Oper.wp, act_eval, hop _ _ _ (run_apS_in ht hu ok hc ha hin.1), Oper.upon_value, act_put]
   exact hk _ _ hin.2
 ·obtain ⟨hfit, old, hold, hgr⟩ := hgr (by omega)
  obtain ⟨c, rest, h1, h2, h3⟩ := run_apS_grown (ty := o.type) ht hu ok hi hz hby (by omega) hfit hold
  simp only [Oper.wp, act_eval, hop _ _ _ h3, Oper.upon_value, act_put]
  exact hk _ _ (hgr c rest h1 h2)
def fcmp (op : BinOp) (a b : Nat) : Bool :=
 match op with
 | .eql => FloatKind.f64.format.order a b == some .eq
 | .neq => FloatKind.f64.format.order a b != some .eq
 | .lss => FloatKind.f64.format.order a b == some .lt
 | .leq => FloatKind.f64.format.order a b == some .lt || FloatKind.f64.format.order a b == some .eq
 | .gtr => FloatKind.f64.format.order a b == some .gt
 | .geq => FloatKind.f64.format.order a b == some .gt || FloatKind.f64.format.order a b == some .eq
 | _ => false
def fcmpOp : BinOp → Bool
 | .eql | .neq | .lss | .leq | .gtr | .geq => true
 | _ => false
theorem q_fcmp {op : BinOp} {a b : Nat} {t u : TypeId} (ho : o.op = .binOp op t x y u) (hop : fcmpOp op = true) (hx : evl n f x = .float .f64 a) (hy : evl n f y = .float .f64 b) :
  (execOp (evl n f) o).run P w = .ok (.value (.bool (fcmp op a b))) w := by
 cases op <;> first
  | cases hop; done
  | simp [execOp, ho, hx, hy, eqGuard_at_float, eqGuard_lss, eqGuard_leq, eqGuard_gtr, eqGuard_geq, binOp, Op.floatCmp, fcmp]
def FArith (op : BinOp) (a b : Nat) (r : Nat) : Prop := floatBits op .f64 a b = some r
def F2I (k : IntKind) (b : Nat) (m : Int) : Prop := floatToIntVal .f64 b k = some m
def farOp : BinOp → Bool
 | .add | .sub | .mul | .quo => true
 | _ => false
theorem q_farith {op : BinOp} {a b r : Nat} {t u : TypeId} (ho : o.op = .binOp op t x y u) (hop : farOp op = true) (hx : evl n f x = .float .f64 a) (hy : evl n f y = .float .f64 b) (h : FArith op a b r) :
  (execOp (evl n f) o).run P w = .ok (.value (.float .f64 r)) w := by
 have hr := run_float_arith (P := P) w op t .f64 a b r h
 cases op <;> first
  | cases hop; done
  | simp [execOp, ho, hx, hy, eqGuard_add, eqGuard_sub, eqGuard_mul, eqGuard_quo, hr]
theorem q_cvtFI {k : IntKind} {b : Nat} {m : Int} {s t : TypeId} (ho : o.op = .convert s t x) (hs : P.underlying s = some (.float .f64)) (ht : P.underlying t = some (.int k)) (hx : evl n f x = .float .f64 b) (h : F2I k b m) :
  (execOp (evl n f) o).run P w = .ok (.value (.int k m)) w := by
 have hr := run_convert_float_int (P := P) w s t .f64 k b m (by rw [hs]; rfl) ht h
 simp [execOp, ho, hx, hr]
def Ext (P : Program) (k : FuncId) (e : Array Value → Sem Value) : Prop := ∃ fn, P.funcs[k]? = some fn ∧ (fn.name == "runtime.NumGoroutine") = false ∧ fn.body.isNone = true ∧ Extern.findNext fn = none ∧ Extern.find fn = some e
theorem q_ext {k : FuncId} {e : Array Value → Sem Value} {as_ : List Operand} {ts : Array TypeId} {l : List Value} {v : Value} (ho : o.op = .call { callee := .value (.func k), args := as_.toArray, argTypes := ts }) (he : Ext P k e) (ha : as_.map (evl n f) = l) (hv : (e l.toArray).run P w = .ok v w) :
  (execOp (evl n f) o).run P w = .ok (.value v) w := by
 obtain ⟨fn, hf, h1, h2, h3, h4⟩ := he
 subst ha
 have h5 := run_callFunc_extern hf h1 h2 h3 h4 ((as_.map (evl n f)).toArray) w
 rw [hv] at h5
 simp only [Result.andThen_ok] at h5
 simpa [execOp, ho, resolve, evl, Deferred.ofValue, invoke] using h5
theorem q_f64bits {k : FuncId} {b : Nat} {ts : Array TypeId} (ho : o.op = .call { callee := .value (.func k), args := #[x], argTypes := ts }) (he : Ext P k Extern.MathFloatBits.float64bits) (hx : evl n f x = .float .f64 b) :
  (execOp (evl n f) o).run P w = .ok (.value (.int .u64 b)) w := q_ext (as_ := [x]) (l := [.float .f64 b]) ho he (by simp [hx]) rfl
theorem q_f64from {k : FuncId} {b : Int} {ts : Array TypeId} (ho : o.op = .call { callee := .value (.func k), args := #[x], argTypes := ts }) (he : Ext P k Extern.MathFloatBits.float64frombits) (hx : evl n f x = .int .u64 b) :
  (execOp (evl n f) o).run P w = .ok (.value (.float .f64 b.toNat)) w := q_ext (as_ := [x]) (l := [.int .u64 b]) ho he (by simp [hx]) rfl
def ifaD : TypeDesc → Bool
 | .interface _ => true
 | _ => false
theorem q_mkI {t : TypeId} {d : TypeDesc} {v : Value} (ho : o.op = .makeInterface t x) (ht : P.underlying t = some d) (hd : ifaD d = false) (hx : evl n f x = v) : (execOp (evl n f) o).run P w = .ok (.value (Iv.mk t v).enc) w := by
 subst hx
 cases d <;> first
  | simp [execOp, ho, Instr.makeInterface, run_underlying ht, Iv.enc]; done
  | cases hd
theorem q_notU {t : TypeId} {a : Int} {k : IntKind} (ho : o.op = .unOp .xor t x) (hk : k.signed = false) (hx : evl n f x = .int k a) : (execOp (evl n f) o).run P w = .ok (.value (.int k (bits .xor k k.max a))) w := by
 simp [execOp, ho, hx, Op.unary, hk, intBits_xor]
theorem q_negF {t : TypeId} {a : Nat} (ho : o.op = .unOp .neg t x) (hx : evl n f x = .float .f64 a) : (execOp (evl n f) o).run P w = .ok (.value (.float .f64 (Op.negFloat .f64 a))) w := by
 simp [execOp, ho, hx, Op.unary]
end
end Go.Proofs.YtehclfjjjiiieaaGreat.Cf
namespace Go.Proofs.YtehclfjjjiiieaaGreat.Cf
set_option linter.unusedSimpArgs false
set_option linter.unusedVariables false
open Go
section
variable {P : Program} {Q : Exit → Act → World → Prop} {n : Nat} {f : Nat → Value} {ds : List Deferred} {w w' : World} {o : Oper} {x : Operand}
def pnc (v : Iv) : List PanicEntry := [{ v := v.enc, recovered := false }]
def RetP {α : Type} (T : Ty α) (R : α → World → Prop) (Pn : Iv → World → Prop) : Ending → World → Prop
 | .returned v, w => ∃ x, v = T.enc x ∧ R x w
 | .panicked chain, w => ∃ v, chain = pnc v ∧ Pn v w
 | .outgrown, _ => False
def clp {α : Type} (P : Program) (f : FuncId) (args : List Value) (T : Ty α) (w : World) (Pn : Iv → World → Prop) (k : α → World → Prop) : Prop := Calls P f args.toArray w (RetP T k Pn)
theorem pan_ok {α : Type} {T : Ty α} {fn : Func} {R : α → World → Prop} {Pn : Iv → World → Prop} {v : Iv} (h : Pn v w) : bodyPost P fn (RetP T R Pn) (.panic (pnc v)) (act n f []) w := ⟨rfl, v, rfl, h⟩
theorem wp_clp {α : Type} {T : Ty α} {k : FuncId} {args : List Value} {d : Option Nat} {next : Act → World → Prop} {K : α → World → Prop} {Pn : Iv → World → Prop} (hd : o.dst = d)
  (hv : (execOp (evl n f) o).run P w = .ok (.enter k args.toArray) w) (h : clp P k args T w Pn K) (hp : ∀ v w', Pn v w' → Q (.panic (pnc v)) (act n f ds) w') (hk : ∀ r w', K r w' → next (act n (updo f d (T.enc r)) ds) w') : Ow P o (act n f ds) w next Q := by
 rw [Ow_eq]
 subst hd
 refine call_wp hv (Calls.mono h fun e w' he => ?_)
 cases e with
 | returned v => obtain ⟨r, rfl, hr⟩ := he; exact hk r w' hr
 | panicked c => obtain ⟨v, rfl, hv⟩ := he; exact hp v w' hv
 | outgrown => exact he.elim
theorem wp_panic {v : Iv} {next : Act → World → Prop} (ho : o.op = .panic x) (hx : evl n f x = v.enc) (hn : ∃ t u, v = .mk t u) (h : Q (.panic (pnc v)) (act n f ds) w) : Ow P o (act n f ds) w next Q := by
 rw [Ow_eq]
 obtain ⟨t, u, rfl⟩ := hn
 have hop : (execOp (evl n f) o).run P w = .halt (.panic (.iface t u)) w := by
  simp only [execOp, ho, hx]
  rfl
 simp only [Oper.wp, act_eval, hop, Oper.upon_panic]
 exact h
def bodyPostE (P : Program) (fn : Func) (sl : List Nat) (R : Ending → World → Prop) : Exit → Act → World → Prop
 | .panic chain, a, w => ∀ tmps : Array Value, (∀ s ∈ sl, tmps.getD s undef = a.tmps.getD s undef) → Leaves P fn tmps R a.defers (.panicking chain) w
 | e, a, w => bodyPostD P fn R e a w
theorem calls_startE {f : FuncId} {fn : Func} {c : Code} {l : List Value} {R : Ending → World → Prop} {sl : List Nat} (n : Nat)
  (hf : P.funcs[f]? = some fn) (hn : fn.ntmps = n) (hb : fn.body = some c) (hl : l.length ≤ n)
  (h : c.wp P (bodyPostE P fn sl R) (act n (start l) []) w) : Calls P f l.toArray w R := by
 subst hn
 refine calls_of_wp_defers hf hb ?_
 rw [start_act l _ hl]
 refine wp_mono h fun e a w' h => ?_
 cases e with
 | panic c => exact h _ fun _ _ => rfl
 | _ => exact h
def lvd (P : Program) (k : FuncId) (args : List Value) (u : FrameMode) (w : World) (K : World → Prop) : Prop :=
 CallsD P k args.toArray u w fun e u' w' => (∃ v, e = .returned v) ∧ settle u' = .returning ∧ K w'
theorem lvd_mono {k : FuncId} {args : List Value} {u : FrameMode} {K K' : World → Prop} (h : lvd P k args u w K) (hk : ∀ w', K w' → K' w') : lvd P k args u w K' :=
 CallsD.mono h fun _ _ w' ⟨h1, h2, h3⟩ => ⟨h1, h2, hk w' h3⟩
theorem inv_enter {k : FuncId} {cs : List Value} (he : Enters P k) : (invoke (.fn (.func k) cs.toArray) #[]).run P w = .ok (.enter k cs.toArray) w := by
 obtain ⟨fn, hf, hb, hn⟩ := he
 have hb' : fn.body ≠ none := by intro h; simp [h] at hb
 simp [invoke, callFunc, hf, hb', beq_eq_false_iff_ne.1 hn]
def slotOf : ResultVar → Nat
 | .tmp t => t
 | .cell a _ => a
def resSlots (rs : List ResultVar) : List Nat := rs.map slotOf
theorem results_eq {fn : Func} {rs : List ResultVar} {t1 t2 : Array Value} (hr : fn.results = rs.toArray) (h : ∀ s ∈ resSlots rs, t1.getD s undef = t2.getD s undef) : results fn t1 = results fn t2 := by
 have e : ∀ t, results fn t = (do let us ← fn.results.mapM (resG t); pure (if h : us.size = 1 then us[0] else .tuple us)) := fun t => rfl
 have hm : ∀ l : List ResultVar, (∀ r ∈ l, resG t1 r = resG t2 r) → l.mapM (resG t1) = l.mapM (resG t2) := by
  intro l
  induction l with
  | nil => intro _; rfl
  | cons a l ih =>
   intro hl
   rw [List.mapM_cons, List.mapM_cons, hl a (by simp), ih (fun r hr => hl r (by simp [hr]))]
 rw [e, e, hr, Array.mapM_eq_mapM_toList, Array.mapM_eq_mapM_toList, hm _ ?_]
 intro r hr'
 have hs : slotOf r ∈ resSlots rs := List.mem_map_of_mem (by simpa using hr')
 cases r with
 | tmp t => simp only [resG, h t hs]
 | cell a t => simp only [resG, h a hs]
theorem leaves_one {fn : Func} {rs : List ResultVar} {k : FuncId} {cs : List Value} {u : FrameMode} {R : Ending → World → Prop} {tmps : Array Value} (hu : u ≠ .run) (hr : fn.results = rs.toArray) (he : Enters P k) (ht : ∀ s ∈ resSlots rs, tmps.getD s undef = (act n f ds).tmps.getD s undef)
  (h : lvd P k cs u w fun w' => ∃ vs, AllRes P n f w' rs vs ∧ R (.returned (resV vs)) w') : Leaves P fn tmps R [{ target := .fn (.func k) cs.toArray, args := #[] }] u w := by
 refine leaves_cons hu (inv_enter he) (CallsD.mono h fun e u' w' ⟨⟨v, h1⟩, h2, vs, h3, h4⟩ => ?_)
 subst h1
 simp only [h2, Leaves]
 refine ⟨_, ?_, h4⟩
 rw [results_eq hr ht]
 exact run_results hr h3
theorem ret_D {fn : Func} {rs : List ResultVar} {k : FuncId} {cs : List Value} {R : Ending → World → Prop} {sl : List Nat} (hr : fn.results = rs.toArray) (he : Enters P k)
  (h : lvd P k cs .returning w fun w' => ∃ vs, AllRes P n f w' rs vs ∧ R (.returned (resV vs)) w') : bodyPostE P fn sl R .ret (act n f [{ target := .fn (.func k) cs.toArray, args := #[] }]) w :=
 leaves_one (by simp) hr he (fun _ _ => rfl) h
theorem pan_D {fn : Func} {rs : List ResultVar} {k : FuncId} {cs : List Value} {R : Ending → World → Prop} {v : Iv} (hr : fn.results = rs.toArray) (he : Enters P k)
  (h : lvd P k cs (.panicking (pnc v)) w fun w' => ∃ vs, AllRes P n f w' rs vs ∧ R (.returned (resV vs)) w') : bodyPostE P fn (resSlots rs) R (.panic (pnc v)) (act n f [{ target := .fn (.func k) cs.toArray, args := #[] }]) w :=
 fun tmps ht => leaves_one (ds := [{ target := .fn (.func k) cs.toArray, args := #[] }]) (by simp) hr he ht h
theorem panE_put {fn : Func} {sl : List Nat} {R : Ending → World → Prop} {c : List PanicEntry} {a : Act} {d : Option Nat} {v : Value} (hd : ∀ s ∈ sl, d ≠ some s) (h : bodyPostE P fn sl R (.panic c) (a.put d v) w) : bodyPostE P fn sl R (.panic c) a w := by
 cases d with
 | none => exact h
 | some d =>
  intro tmps ht
  refine h tmps fun s hs => ?_
  rw [ht s hs]
  have : d ≠ s := fun e => hd s hs (by rw [e])
  simp [Act.put, Array.getD_eq_getD_getElem?, Array.getElem?_setIfInBounds, this]
theorem dst_ok {ops : Array Oper} {sl : List Nat} {d : Option Nat} (h : (ops.toList.all fun o => sl.all fun s => o.dst != some s) = true) (hd : ∃ o ∈ ops.toList, o.dst = d) : ∀ s ∈ sl, d ≠ some s := by
 obtain ⟨o, ho, rfl⟩ := hd
 intro s hs
 have := List.all_eq_true.1 (List.all_eq_true.1 h o ho) s hs
 simpa using this
theorem wp_defer {k : FuncId} {cs : List Value} {next : Act → World → Prop} {d : Option Nat} {ts : Array TypeId} (hd : o.dst = d) (ho : o.op = .defer { callee := .value x, args := #[], argTypes := ts }) (hx : evl n f x = .func (.func k) #[] cs.toArray)
  (h : next (act n (updo f d undef) ({ target := .fn (.func k) cs.toArray, args := #[] } :: ds)) w) : Ow P o (act n f ds) w next Q := by
 rw [Ow_eq]
 subst hd
 have hop : (execOp (evl n f) o).run P w = .ok (.defer { target := .fn (.func k) cs.toArray, args := #[] }) w := by
  simp [execOp, ho, hx, resolve, Deferred.ofValue]
 simp only [Oper.wp, act_eval, hop, Oper.upon]
 have e : (({ (act n f ds) with defers := { target := .fn (.func k) cs.toArray, args := #[] } :: ds } : Act).put o.dst undef) = act n (updo f o.dst undef) ({ target := .fn (.func k) cs.toArray, args := #[] } :: ds) := act_put n f _ o.dst undef
 first
  | exact e ▸ h
  | (rw [← e] at h; exact h)
def Recov (u : FrameMode) (v : Iv) (u' : FrameMode) : Prop :=
 (∃ older, u = .panicking ({ v := v.enc, recovered := false } :: older) ∧ u' = .panicking ({ v := v.enc, recovered := true } :: older)) ∨ (u = .returning ∧ v = .nil ∧ u' = .returning)
theorem recov_pnc (v : Iv) : Recov (.panicking (pnc v)) v (.panicking [{ v := v.enc, recovered := true }]) := .inl ⟨[], rfl, rfl⟩
theorem recov_ret : Recov .returning .nil .returning := .inr ⟨rfl, rfl, rfl⟩
section
variable {QS : Exit → Act → List Frame → World → Prop} {cs cs' : List Frame} {ops : Array Oper} {i : Nat} {rest : List Nat} {d : Option Nat}
theorem callsD_start {f : FuncId} {fn : Func} {c : Code} {l : List Value} {u : FrameMode} {R : Ending → FrameMode → World → Prop} (n : Nat) (hf : P.funcs[f]? = some fn) (hn : fn.ntmps = n) (hb : fn.body = some c) (hl : l.length ≤ n)
  (h : ∀ (c₀ : Frame) (cs : List Frame), c₀.mode = u → c.wpS P (bodyPostS P fn c₀ cs R) (act n (start l) []) (c₀ :: cs) w) : CallsD P f l.toArray u w R := by
 subst hn
 refine callsD_of_wpS hf hb fun c₀ cs hu => ?_
 rw [start_act l _ hl]
 exact h c₀ cs hu
theorem ros_rec {v : Iv} {u u' : FrameMode} {c₀ : Frame} (hi : ops.toList[i]? = some o) (hg : o.guard = none) (hd : o.dst = d) (ho : o.op = .call { callee := .builtin .recover, args := #[], argTypes := #[] }) (hu : c₀.mode = u) (hr : Recov u v u')
  (h : wpOpsS P ops QS rest (act n (updo f d v.enc) ds) ({ c₀ with mode := u' } :: cs) w) : wpOpsS P ops QS (i :: rest) (act n f ds) (c₀ :: cs) w := by
 subst hd
 have hop : (execOp (act n f ds).eval o).run P w = .ok .recover w := by
  simp [execOp, ho, resolve, invoke, builtin]
 simp only [wpOpsS, ofList hi]
 rw [if_pos (by simp [Region.wanted, hg])]
 rw [hop]
 simp only
 rcases hr with ⟨older, rfl, rfl⟩ | ⟨rfl, rfl, rfl⟩
 ·have e : recoverD (c₀ :: cs) = some (v.enc, { c₀ with mode := .panicking ({ v := v.enc, recovered := true } :: older) } :: cs) := by
   simp only [recoverD, hu]
  rw [e]
  simp only [act_put]
  exact h
 ·have e : recoverD (c₀ :: cs) = none := by
   simp only [recoverD, hu]
  rw [e]
  simp only [act_put]
  have e2 : ({ c₀ with mode := .returning } : Frame) = c₀ := by cases c₀; simp_all
  rw [e2] at h
  exact h
theorem ros_val {v : Value} (hi : ops.toList[i]? = some o) (hg : o.guard = none) (hd : o.dst = d) (hv : (execOp (evl n f) o).run P w = .ok (.value v) w')
  (h : wpOpsS P ops QS rest (act n (updo f d v) ds) cs w') : wpOpsS P ops QS (i :: rest) (act n f ds) cs w := by
 subst hd
 simp only [wpOpsS, ofList hi]
 rw [if_pos (by simp [Region.wanted, hg]), act_eval, hv]
 simp only [Oper.upon_value, act_put]
 exact h
theorem ros_nil (h : QS .normal (act n f ds) cs w) : wpOpsS P ops QS [] (act n f ds) cs w := h
theorem wpS_text {id : Nat} (l : List Nat) (hl : List.range ops.size = l) (h : wpOpsS P ops QS l (act n f ds) cs w) : (Code.region id ops false).wpS P QS (act n f ds) cs w := by
 subst hl; exact wpS_region h
theorem endS_ok {fn : Func} {c₀ : Frame} {u' : FrameMode} {R : World → Prop} (hr : fn.results = #[]) (h : R w) :
  bodyPostS P fn c₀ cs (fun e u2 w' => (∃ v, e = .returned v) ∧ u2 = u' ∧ R w') .normal (act n f []) ({ c₀ with mode := u' } :: cs) w := by
 refine ⟨rfl, u', rfl, .tuple #[], ?_, ⟨_, rfl⟩, rfl, h⟩
 have := run_results (P := P) (w := w) (n := n) (f := f) (ds := []) (fn := fn) (rs := []) (vs := []) hr .nil
 exact this
end
theorem lvd_of {k : FuncId} {args : List Value} {u u' : FrameMode} {K : World → Prop} (h : CallsD P k args.toArray u w fun e u2 w' => (∃ v, e = .returned v) ∧ u2 = u' ∧ K w') (hs : settle u' = .returning) : lvd P k args u w K :=
 CallsD.mono h fun _ _ w' ⟨h1, h2, h3⟩ => ⟨h1, by rw [h2]; exact hs, h3⟩
def Asrt {α : Type} (t : TypeId) (T : Ty α) (z : α) (x : Iv) (p : α × Bool) : Prop := (∃ y, x = .mk t (T.enc y) ∧ p = (y, true)) ∨ ((∀ v, x ≠ .mk t v) ∧ p = (z, false))
theorem q_assert2 {α : Type} {T : Ty α} {xt t : TypeId} {z : α} {v : Iv} {p : α × Bool} {m b : Nat} {y : Operand} (ho : o.op = .typeAssert y xt t true) (ht : ∃ d, P.underlying t = some d ∧ ifaD d = false) (hz : ∃ i, P.info? t = some i ∧ i.zero = some (T.enc z) ∧ i.size = m ∧ i.bytes = b) (hx : evl n f y = v.enc) (h : Asrt t T z v p) :
  (execOp (evl n f) o).run P w = .ok (.value (.tuple #[T.enc p.1, .bool p.2])) w := by
 obtain ⟨d, ht, hd⟩ := ht
 obtain ⟨i, hi, hzz, _⟩ := hz
 have hne : ∀ m, d ≠ .interface m := by intro m e; subst e; cases hd
 rcases h with ⟨u, rfl, rfl⟩ | ⟨hv, rfl⟩
 ·cases d <;> first
   | cases hd; done
   | simp [execOp, ho, hx, Iv.enc, Instr.typeAssert, run_underlying ht]; done
 ·cases v with
  | nil =>
   cases d <;> first
    | cases hd; done
    | simp [execOp, ho, hx, Iv.enc, Instr.typeAssert, run_underlying ht, zeroValue, typeInfo, hi, hzz]; done
  | mk t' u =>
   have htt : ¬ t' = t := fun e => hv u (by rw [e])
   cases d <;> first
    | cases hd; done
    | simp [execOp, ho, hx, Iv.enc, Instr.typeAssert, run_underlying ht, htt, zeroValue, typeInfo, hi, hzz]; done
def Iv.isNil : Iv → Bool
 | .nil => true
 | .mk _ _ => false
theorem run_isNil {t : TypeId} {v : Iv} {ms : Array (String × TypeId)} (ht : P.underlying t = some (.interface ms)) : (Op.equal t v.enc .nilIface).run P w = .ok v.isNil w := by
 show (Op.equalIn (9999 + 1) t v.enc .nilIface).run P w = _
 rw [Op.equalIn]
 simp only [Sem.run_bind, run_underlying ht, Result.andThen_ok]
 cases v <;> simp [Iv.enc, Iv.isNil]
theorem q_neI0 {t u : TypeId} {v : Iv} {y : Operand} {ms : Array (String × TypeId)} (ho : o.op = .binOp .neq t y (.const .nilIface) u) (ht : P.underlying t = some (.interface ms)) (hx : evl n f y = v.enc) : (execOp (evl n f) o).run P w = .ok (.value (.bool (!v.isNil))) w := by
 have hc : evl n f (.const .nilIface) = .nilIface := rfl
 have hg : eqGuard .neq t y (.const .nilIface) v.enc .nilIface = pure () := by cases v <;> cases y <;> rfl
 have hb : binOp .neq t v.enc .nilIface = (do pure (.bool (!(← Op.equal t v.enc .nilIface)))) := by cases v <;> rfl
 have h1 := run_isNil (P := P) (w := w) (v := v) ht
 simp only [execOp, ho, hx, hc, hg, hb, Sem.run_bind, Sem.run_pure, Result.andThen_ok, h1]
section
variable {ops : Array Oper} {i : Nat} {rest : List Nat} {listed : Array Bool} {G : List (Nat × (World → Prop))} {m : Nat}
theorem rv (k : Nat) {v : Value} (hi : ops.toList[i]? = some o) (hg : o.guard = none) (hd : o.dst = some k) (hv : (execOp (evl n f) o).run P w = .ok (.value v) w')
  (h : Wo P ops Q rest (act n (upd f k v) ds) w') : Wo P ops Q (i :: rest) (act n f ds) w := ro_val (d := some k) hi (.free hg) hd hv h
theorem rp (i k : Nat) {v : Value} (hD : DrOk ops Q) (hi : ops.toList[i]? = some o) (hg : o.guard = none) (hd : o.dst = some k) (hv : ∀ w, (execOp (evl n f) o).run P w = .ok (.value v) w)
  (h : Wg P ops Q G m (listed.setIfInBounds i true) (act n (upd f k v) ds) w) (hf : Region.free .any ops listed i = true := by kernel_rfl) (hr : (Region.ready .any ops listed).contains i = true := by kernel_rfl) : Wg P ops Q G (m + 1) listed (act n f ds) w :=
 rd_pure (i := i) (d := some k) hD hf hr hi (.free hg) hd hv h
end
end
def clw {α : Type} (P : Program) (fv : Fv) (args : List Value) (T : Ty α) (w : World) (k : α → World → Prop) : Prop :=
 ∃ (f : FuncId) (a c : List Value), fv = .mk (.func f) a.toArray c.toArray ∧ Enters P f ∧ cl P f (a ++ args ++ c) T w k
theorem clw_mono {α : Type} {P : Program} {T : Ty α} {fv : Fv} {args : List Value} {w : World} {K K' : α → World → Prop} (h : clw P fv args T w K) (hk : ∀ r w', K r w' → K' r w') : clw P fv args T w K' := by
 obtain ⟨f, a, c, h1, h2, h3⟩ := h
 exact ⟨f, a, c, h1, h2, h3.mono fun e w' he => by
  cases e with
  | returned v => obtain ⟨x, hx, hy⟩ := he; exact ⟨x, hx, hk _ _ hy⟩
  | _ => exact he.elim⟩
section
variable {P : Program} {Q : Exit → Act → World → Prop} {n : Nat} {f : Nat → Value} {ds : List Deferred} {w : World} {o : Oper} {x : Operand}
theorem q_callW {k : FuncId} {as_ : List Operand} {ts : Array TypeId} {l a c : List Value} {fv : Fv} (ho : o.op = .call { callee := .value x, args := as_.toArray, argTypes := ts }) (hx : evl n f x = fv.enc) (hfv : fv = .mk (.func k) a.toArray c.toArray)
  (he : Enters P k) (ha : as_.map (evl n f) = l) : (execOp (evl n f) o).run P w = .ok (.enter k (a ++ l ++ c).toArray) w := by
 obtain ⟨fn, hf, hb, hn⟩ := he
 have hb' : fn.body ≠ none := by intro h; simp [h] at hb
 subst hfv; subst ha
 simp [execOp, ho, resolve, hx, Fv.enc, Deferred.ofValue, invoke, callFunc, hf, hb', beq_eq_false_iff_ne.1 hn]
theorem wp_clw {α : Type} {T : Ty α} {as_ : List Operand} {ts : Array TypeId} {l : List Value} {fv : Fv} {d : Option Nat} {next : Act → World → Prop} {K : α → World → Prop} (hd : o.dst = d) (ho : o.op = .call { callee := .value x, args := as_.toArray, argTypes := ts })
  (hx : evl n f x = fv.enc) (ha : as_.map (evl n f) = l) (h : clw P fv l T w K) (hk : ∀ r w', K r w' → next (act n (updo f d (T.enc r)) ds) w') : Ow P o (act n f ds) w next Q := by
 obtain ⟨k, a, c, hfv, he, h⟩ := h
 exact wp_cl hd (q_callW ho hx hfv he ha) h hk
end
end Go.Proofs.YtehclfjjjiiieaaGreat.Cf
namespace Go.Proofs.YtehclfjjjiiieaaGreat.Cf
set_option linter.unusedSimpArgs false
set_option linter.unusedVariables false
open Go
section
variable {P : Program} {Q : Exit → Act → World → Prop} {n : Nat} {f : Nat → Value} {ds : List Deferred} {w w' : World} {ops : Array Oper} {i : Nat} {rest : List Nat} {x y : Operand} {listed : Array Bool} {G : List (Nat × (World → Prop))} {m : Nat}
def pk (ops : Array Oper) (i : Nat) : Option (Op × Option (Nat × Bool) × Option Nat) := (ops.toList[i]?).map fun o => (o.op, o.guard, o.dst)
theorem pk_at {p : Op} {g : Option (Nat × Bool)} {d : Option Nat} (h : pk ops i = some (p, g, d)) : ∃ o : Oper, ops.toList[i]? = some o ∧ o.op = p ∧ o.guard = g ∧ o.dst = d := by
 unfold pk at h
 obtain ⟨o, ho, he⟩ := Option.map_eq_some_iff.1 h
 cases he
 exact ⟨o, ho, rfl, rfl, rfl⟩
theorem zm (k : Nat) (v : Value) (h1 : pk ops i = some (.move x, none, some k)) (h2 : evl n f x = v) (h : Wo P ops Q rest (act n (upd f k v) ds) w) : Wo P ops Q (i :: rest) (act n f ds) w := by
 obtain ⟨o, ho, hp, hg, hd⟩ := pk_at h1
 exact rv k ho hg hd (q_move hp h2) h
theorem za (k : Nat) (v : Value) (h1 : pk ops i = some (.assign x, none, some k)) (h2 : evl n f x = v) (h : Wo P ops Q rest (act n (upd f k v) ds) w) : Wo P ops Q (i :: rest) (act n f ds) w := by
 obtain ⟨o, ho, hp, hg, hd⟩ := pk_at h1
 exact rv k ho hg hd (q_assign hp h2) h
theorem zf {t : TypeId} {fs : Array Field} {j ty : Nat} {α : Type} {T : Ty α} (k : Nat) (a : Addr) (off : Nat) (ht : P.underlying t = some (.struct fs)) (ok : TyOk P ty T (m + 1)) (h1 : pk ops i = some (.fieldAddr t x j, none, some k))
  (hf : (fs[j]?).map (fun g => (g.offset, g.type)) = some (off, ty)) (hx : evl n f x = .pointer (some a)) (h : Wo P ops Q rest (act n (upd f k (.pointer (some (a.add off)))) ds) w) : Wo P ops Q (i :: rest) (act n f ds) w := by
 obtain ⟨o, ho, hp, hg, hd⟩ := pk_at h1
 obtain ⟨g, hfg, he⟩ := Option.map_eq_some_iff.1 hf
 cases he
 exact rv k ho hg hd (q_fieldAddr hp ht hfg rfl ok (by omega) hx) h
theorem zl {t : TypeId} {α : Type} {T : Ty α} {a : Addr} {u : α} (k : Nat) (hr : RdAt T a w u) (ok : TyOk P t T m) (h1 : pk ops i = some (.load t x, none, some k)) (hx : evl n f x = .pointer (some a)) (h : Wo P ops Q rest (act n (upd f k (T.enc u)) ds) w) : Wo P ops Q (i :: rest) (act n f ds) w := by
 obtain ⟨o, ho, hp, hg, hd⟩ := pk_at h1
 exact rv k ho hg hd (q_load hp ok hx hr) h
theorem zn {p : Option Addr} {a : Addr} (k : Nat) (ha : NC p a) (h1 : pk ops i = some (.nilCheck x, none, some k)) (hx : evl n f x = .pointer p) (h : Wo P ops Q rest (act n (upd f k (.pointer (some a))) ds) w) : Wo P ops Q (i :: rest) (act n f ds) w := by
 obtain ⟨o, ho, hp, hg, hd⟩ := pk_at h1
 exact rv k ho hg hd (q_nilCheck hp (hx.trans (congrArg Value.pointer ha))) h
theorem ze {vs : Array Value} {j : Nat} (k : Nat) (v : Value) (h1 : pk ops i = some (.extract x j, none, some k)) (hx : evl n f x = .tuple vs) (hv : vs[j]? = some v) (h : Wo P ops Q rest (act n (upd f k v) ds) w) : Wo P ops Q (i :: rest) (act n f ds) w := by
 obtain ⟨o, ho, hp, hg, hd⟩ := pk_at h1
 exact rv k ho hg hd (q_extract hp hx hv) h
theorem zc {α : Type} {T : Ty α} {k : FuncId} {as_ : List Operand} {ts : Array TypeId} {l : List Value} {d : Option Nat} {K : α → World → Prop} (he : Enters P k) (h1 : pk ops i = some (.call { callee := .value (.func k), args := as_.toArray, argTypes := ts }, none, d))
  (ha : as_.map (evl n f) = l) (h : cl P k l T w K) (hk : ∀ r w', K r w' → Wo P ops Q rest (act n (updo f d (T.enc r)) ds) w') : Wo P ops Q (i :: rest) (act n f ds) w := by
 obtain ⟨o, ho, hp, hg, hd⟩ := pk_at h1
 exact ro_wp ho (.free hg) (wp_cl hd (q_call hp he ha) h hk)
theorem zi {c : Operand} {p q : Code} {b : Bool} {X Y : Prop} (h : if b = true then X else Y) (hc : evl n f c = .bool b) (hx : b = true → X → p.wp P Q (act n f ds) w) (hy : b = false → Y → q.wp P Q (act n f ds) w) : (Code.cond c p q).wp P Q (act n f ds) w := wp_if hc h hx hy
theorem zr1 {α : Type} {T : Ty α} {K : α → World → Prop} {r : α} {fn : Func} {t : Nat} (h : K r w) (hr : fn.results = [ResultVar.tmp t].toArray) (he : evl n f (.tmp t) = T.enc r) : bodyPost P fn (Ret T K) .ret (act n f []) w :=
 ret_ok hr (.cons (.tmp rfl) .nil) ⟨r, he, h⟩
theorem zr2 {α : Type} {T : Ty α} {K : α → World → Prop} {r : α} {fn : Func} {t u : Nat} (h : K r w) (hr : fn.results = [ResultVar.tmp t, .tmp u].toArray) (he : Value.tuple #[evl n f (.tmp t), evl n f (.tmp u)] = T.enc r) : bodyPost P fn (Ret T K) .ret (act n f []) w :=
 ret_ok hr (.cons (.tmp rfl) (.cons (.tmp rfl) .nil)) ⟨r, he, h⟩
theorem zr3 {α : Type} {T : Ty α} {K : α → World → Prop} {r : α} {fn : Func} {t u v : Nat} (h : K r w) (hr : fn.results = [ResultVar.tmp t, .tmp u, .tmp v].toArray) (he : Value.tuple #[evl n f (.tmp t), evl n f (.tmp u), evl n f (.tmp v)] = T.enc r) : bodyPost P fn (Ret T K) .ret (act n f []) w :=
 ret_ok hr (.cons (.tmp rfl) (.cons (.tmp rfl) (.cons (.tmp rfl) .nil))) ⟨r, he, h⟩
theorem ym (i k : Nat) (v : Value) (hD : DrOk ops Q) (h1 : pk ops i = some (.move x, none, some k)) (h2 : evl n f x = v) (h : Wg P ops Q G m (listed.setIfInBounds i true) (act n (upd f k v) ds) w)
  (hf : Region.free .any ops listed i = true := by kernel_rfl) (hr : (Region.ready .any ops listed).contains i = true := by kernel_rfl) : Wg P ops Q G (m + 1) listed (act n f ds) w := by
 obtain ⟨o, ho, hp, hg, hd⟩ := pk_at h1
 exact rp i k hD ho hg hd (fun _ => q_move hp h2) h hf hr
theorem ya (i k : Nat) (v : Value) (hD : DrOk ops Q) (h1 : pk ops i = some (.assign x, none, some k)) (h2 : evl n f x = v) (h : Wg P ops Q G m (listed.setIfInBounds i true) (act n (upd f k v) ds) w)
  (hf : Region.free .any ops listed i = true := by kernel_rfl) (hr : (Region.ready .any ops listed).contains i = true := by kernel_rfl) : Wg P ops Q G (m + 1) listed (act n f ds) w := by
 obtain ⟨o, ho, hp, hg, hd⟩ := pk_at h1
 exact rp i k hD ho hg hd (fun _ => q_assign hp h2) h hf hr
theorem yf {t : TypeId} {fs : Array Field} {j ty m' : Nat} {α : Type} {T : Ty α} (i k : Nat) (a : Addr) (off : Nat) (ht : P.underlying t = some (.struct fs)) (ok : TyOk P ty T (m' + 1)) (hD : DrOk ops Q) (h1 : pk ops i = some (.fieldAddr t x j, none, some k))
  (hf1 : (fs[j]?).map (fun g => (g.offset, g.type)) = some (off, ty)) (hx : evl n f x = .pointer (some a)) (h : Wg P ops Q G m (listed.setIfInBounds i true) (act n (upd f k (.pointer (some (a.add off)))) ds) w)
  (hf : Region.free .any ops listed i = true := by kernel_rfl) (hr : (Region.ready .any ops listed).contains i = true := by kernel_rfl) : Wg P ops Q G (m + 1) listed (act n f ds) w := by
 obtain ⟨o, ho, hp, hg, hd⟩ := pk_at h1
 obtain ⟨g, hfg, he⟩ := Option.map_eq_some_iff.1 hf1
 cases he
 exact rp i k hD ho hg hd (fun _ => q_fieldAddr hp ht hfg rfl ok (by omega) hx) h hf hr
theorem yn {p : Option Addr} {a : Addr} (i k : Nat) (ha : NC p a) (hD : DrOk ops Q) (h1 : pk ops i = some (.nilCheck x, none, some k)) (hx : evl n f x = .pointer p) (h : Wg P ops Q G m (listed.setIfInBounds i true) (act n (upd f k (.pointer (some a))) ds) w)
  (hf : Region.free .any ops listed i = true := by kernel_rfl) (hr : (Region.ready .any ops listed).contains i = true := by kernel_rfl) : Wg P ops Q G (m + 1) listed (act n f ds) w := by
 obtain ⟨o, ho, hp, hg, hd⟩ := pk_at h1
 exact rp i k hD ho hg hd (fun _ => q_nilCheck hp (hx.trans (congrArg Value.pointer ha))) h hf hr
theorem yr {t : TypeId} {α : Type} {T : Ty α} {a : Addr} {u : α} {m' : Nat} (i k : Nat) (hS : RdAt T a w u) (ok : TyOk P t T m') (hD : DrOk ops Q) (h1 : pk ops i = some (.load t x, none, some k)) (hx : evl n f x = .pointer (some a))
  (h : Wg P ops Q ((i, fun W => RdAt T a W u) :: G) m (listed.setIfInBounds i true) (act n (upd f k (T.enc u)) ds) w)
  (hf : Region.free .any ops listed i = true := by kernel_rfl) (hr : (Region.ready .any ops listed).contains i = true := by kernel_rfl) : Wg P ops Q G (m + 1) listed (act n f ds) w := by
 obtain ⟨o, ho, hp, hg, hd⟩ := pk_at h1
 exact rd_read (i := i) (d := some k) (fun W => RdAt T a W u) hD hf hr ho (.free hg) hd (fun W hr => q_load hp ok hx hr) hS h
theorem yb {o : Oper} (i k : Nat) (hD : DrOk ops Q) (hi : ops.toList[i]? = some o) (hg : Bars n ops f o) (hd : o.dst = some k) (h : Wg P ops Q G m (listed.setIfInBounds i true) (act n (upd f k undef) ds) w)
  (hf : Region.free .any ops listed i = true := by kernel_rfl) (hr : (Region.ready .any ops listed).contains i = true := by kernel_rfl) : Wg P ops Q G (m + 1) listed (act n f ds) w :=
 rd_bar (i := i) (d := some k) hD hf hr hi hg hd h
end
end Go.Proofs.YtehclfjjjiiieaaGreat.Cf
namespace Go.Proofs.YtehclfjjjiiieaaGreat.Cf
open Go
set_option maxRecDepth 100000
set_option maxHeartbeats 2000000
set_option linter.unusedVariables false
set_option linter.unusedSimpArgs false
structure S22 where
 Kind : Int
 T_ : Int
 ID : Int
 Account : Int
 N : Int
 Pays : Bool
def S22.cells (x : S22) : List Value := [.int .i64 (x.Kind), .int .i64 (x.T_), .int .i64 (x.ID), .int .i64 (x.Account), .int .i64 (x.N), .bool (x.Pays)]
@[reducible] def T22 : Ty S22 := tAgg S22.cells
@[reducible] def Z22 : S22 := ⟨(0 : Int), (0 : Int), (0 : Int), (0 : Int), (0 : Int), false⟩
structure S45 where
 Wal : (Option Addr)
 v : (Option Addr)
def S45.cells (x : S45) : List Value := [.pointer (x.Wal), .pointer (x.v)]
@[reducible] def T45 : Ty S45 := tAgg S45.cells
@[reducible] def Z45 : S45 := ⟨(none : Option Addr), (none : Option Addr)⟩
structure S54 where
 At : Int
 Keep : Int
def S54.cells (x : S54) : List Value := [.int .u8 (x.At), .int .i64 (x.Keep)]
structure S63 where
 Kind : Int
 U : Int
 I : Int
 F : Nat
 S : (List UInt8)
def S63.cells (x : S63) : List Value := [.int .i64 (x.Kind), .int .u64 (x.U), .int .i64 (x.I), .float .f64 (x.F), .string ⟨(x.S).toArray⟩]
@[reducible] def T63 : Ty S63 := tAgg S63.cells
@[reducible] def Z63 : S63 := ⟨(0 : Int), (0 : Int), (0 : Int), (0 : Nat), ([] : List UInt8)⟩
structure S76 where
 logs : Slc
 acts : Int
 down : Bool
 armed : Int
 keep : Slc
def S76.cells (x : S76) : List Value := [tSlc.enc (x.logs), .int .i64 (x.acts), .bool (x.down), .int .i64 (x.armed), tSlc.enc (x.keep)]
@[reducible] def T76 : Ty S76 := tAgg S76.cells
@[reducible] def Z76 : S76 := ⟨(⟨none, 0, 0⟩ : Slc), (0 : Int), false, (0 : Int), (⟨none, 0, 0⟩ : Slc)⟩
structure S85 where
 all : Int
 sure : Int
def S85.cells (x : S85) : List Value := [.int .i64 (x.all), .int .i64 (x.sure)]
@[reducible] def T85 : Ty S85 := tAgg S85.cells
@[reducible] def Z85 : S85 := ⟨(0 : Int), (0 : Int)⟩
structure S87 where
 counts : S85
 d : (Option Addr)
 log : Int
 dead : Bool
def S87.cells (x : S87) : List Value := S85.cells (x.counts) ++ ([.pointer (x.d), .int .i64 (x.log), .bool (x.dead)])
@[reducible] def T87 : Ty S87 := tAgg S87.cells
@[reducible] def Z87 : S87 := ⟨Z85, (none : Option Addr), (0 : Int), false⟩
structure S92 where
 b_ : Slc
 sure : Int
def S92.cells (x : S92) : List Value := [tSlc.enc (x.b_), .int .i64 (x.sure)]
@[reducible] def T92 : Ty S92 := tAgg S92.cells
@[reducible] def Z92 : S92 := ⟨(⟨none, 0, 0⟩ : Slc), (0 : Int)⟩
structure S95 where
 s_ : (Option Addr)
def S95.cells (x : S95) : List Value := [.pointer (x.s_)]
@[reducible] def T95 : Ty S95 := tAgg S95.cells
@[reducible] def Z95 : S95 := ⟨(none : Option Addr)⟩
structure S100 where
 past : S95
 rate : Nat
 top : Int
 held : (Option Nat)
 busy : (Option Nat)
 fates : (Option Nat)
def S100.cells (x : S100) : List Value := S95.cells (x.past) ++ ([.float .f64 (x.rate), .int .i64 (x.top), .map (x.held), .map (x.busy), .map (x.fates)])
@[reducible] def T100 : Ty S100 := tAgg S100.cells
@[reducible] def Z100 : S100 := ⟨Z95, (0 : Nat), (0 : Int), (none : Option Nat), (none : Option Nat), (none : Option Nat)⟩
structure S113 where
 ID : Int
 Account : Int
 N : Int
 Pays : Bool
def S113.cells (x : S113) : List Value := [.int .i64 (x.ID), .int .i64 (x.Account), .int .i64 (x.N), .bool (x.Pays)]
@[reducible] def T113 : Ty S113 := tAgg S113.cells
@[reducible] def Z113 : S113 := ⟨(0 : Int), (0 : Int), (0 : Int), false⟩
structure S117 where
 T_ : Int
 V : Int
def S117.cells (x : S117) : List Value := [.int .i64 (x.T_), .int .i64 (x.V)]
@[reducible] def T117 : Ty S117 := tAgg S117.cells
@[reducible] def Z117 : S117 := ⟨(0 : Int), (0 : Int)⟩
structure S122 where
 Key : Int
 V : Int
def S122.cells (x : S122) : List Value := [.int .i64 (x.Key), .int .i64 (x.V)]
@[reducible] def T122 : Ty S122 := tAgg S122.cells
@[reducible] def Z122 : S122 := ⟨(0 : Int), (0 : Int)⟩
structure S128 where
 b_ : Slc
 at_ : Int
def S128.cells (x : S128) : List Value := [tSlc.enc (x.b_), .int .i64 (x.at_)]
@[reducible] def T128 : Ty S128 := tAgg S128.cells
@[reducible] def Z128 : S128 := ⟨(⟨none, 0, 0⟩ : Slc), (0 : Int)⟩
structure S130 where
 e_ : Int
def S130.cells (x : S130) : List Value := [.int .i64 (x.e_)]
@[reducible] def T130 : Ty S130 := tAgg S130.cells
@[reducible] def Z130 : S130 := ⟨(0 : Int)⟩
structure S150 where
 Part : S113
 T_ : Int
 Fee : Int
def S150.cells (x : S150) : List Value := S113.cells (x.Part) ++ ([.int .i64 (x.T_), .int .i64 (x.Fee)])
@[reducible] def T150 : Ty S150 := tAgg S150.cells
@[reducible] def Z150 : S150 := ⟨Z113, (0 : Int), (0 : Int)⟩
structure S156 where
 what : Int
 t_ : Int
def S156.cells (x : S156) : List Value := [.int .i64 (x.what), .int .i64 (x.t_)]
@[reducible] def T156 : Ty S156 := tAgg S156.cells
@[reducible] def Z156 : S156 := ⟨(0 : Int), (0 : Int)⟩
structure S168 where
 chains : (Option Nat)
 closed : Int
 mark : Int
def S168.cells (x : S168) : List Value := [.map (x.chains), .int .i64 (x.closed), .int .i64 (x.mark)]
@[reducible] def T168 : Ty S168 := tAgg S168.cells
@[reducible] def Z168 : S168 := ⟨(none : Option Nat), (0 : Int), (0 : Int)⟩
structure S198 where
 l : Slc
 mark : Int
def S198.cells (x : S198) : List Value := [tSlc.enc (x.l), .int .i64 (x.mark)]
@[reducible] def T198 : Ty S198 := tAgg S198.cells
@[reducible] def Z198 : S198 := ⟨(⟨none, 0, 0⟩ : Slc), (0 : Int)⟩
structure S201 where
def S201.cells (x : S201) : List Value := []
@[reducible] def T201 : Ty S201 := tAgg S201.cells
@[reducible] def Z201 : S201 := ⟨⟩
theorem inf2 : ∃ i, Tryz.prog.info? 2 = some i ∧ i.zero = some (.int .i64 ((0 : Int))) ∧ i.size = 1 ∧ i.bytes = 8 := info_four (by kernel_rfl)
theorem ok2 : TyOk Tryz.prog 2 (tInt .i64) 1 := ⟨(inf2).imp fun _ h => ⟨h.1, h.2.2.1⟩, fun _ => rfl, .inr ⟨_, Tryz.underlying2, rfl, rfl, fun _ => rfl⟩, fun x => rfl, fun x v hv => by obtain rfl := List.mem_singleton.1 hv; exact rfl⟩
theorem inf3 : ∃ i, Tryz.prog.info? 3 = some i ∧ i.zero = some (.int .i64 ((0 : Int))) ∧ i.size = 1 ∧ i.bytes = 8 := info_four (by kernel_rfl)
theorem ok3 : TyOk Tryz.prog 3 (tInt .i64) 1 := ⟨(inf3).imp fun _ h => ⟨h.1, h.2.2.1⟩, fun _ => rfl, .inr ⟨_, Tryz.underlying3, rfl, rfl, fun _ => rfl⟩, fun x => rfl, fun x v hv => by obtain rfl := List.mem_singleton.1 hv; exact rfl⟩
theorem inf4 : ∃ i, Tryz.prog.info? 4 = some i ∧ i.zero = some (.bool (false)) ∧ i.size = 1 ∧ i.bytes = 1 := info_four (by kernel_rfl)
theorem ok4 : TyOk Tryz.prog 4 tBool 1 := ⟨(inf4).imp fun _ h => ⟨h.1, h.2.2.1⟩, fun _ => rfl, .inr ⟨_, Tryz.underlying4, rfl, rfl, fun _ => rfl⟩, fun x => rfl, fun x v hv => by obtain rfl := List.mem_singleton.1 hv; exact rfl⟩
theorem inf5 : ∃ i, Tryz.prog.info? 5 = some i ∧ i.zero = some (.int .u8 ((0 : Int))) ∧ i.size = 1 ∧ i.bytes = 1 := info_four (by kernel_rfl)
theorem ok5 : TyOk Tryz.prog 5 (tInt .u8) 1 := ⟨(inf5).imp fun _ h => ⟨h.1, h.2.2.1⟩, fun _ => rfl, .inr ⟨_, Tryz.underlying5, rfl, rfl, fun _ => rfl⟩, fun x => rfl, fun x v hv => by obtain rfl := List.mem_singleton.1 hv; exact rfl⟩
theorem inf9 : ∃ i, Tryz.prog.info? 9 = some i ∧ i.zero = some (.string ⟨(([] : List UInt8)).toArray⟩) ∧ i.size = 1 ∧ i.bytes = 16 := info_four (by kernel_rfl)
theorem ok9 : TyOk Tryz.prog 9 tStr 1 := ⟨(inf9).imp fun _ h => ⟨h.1, h.2.2.1⟩, fun _ => rfl, .inr ⟨_, Tryz.underlying9, rfl, rfl, fun _ => rfl⟩, fun x => rfl, fun x v hv => by obtain rfl := List.mem_singleton.1 hv; exact rfl⟩
theorem inf23 : ∃ i, Tryz.prog.info? 23 = some i ∧ i.zero = some (T22.enc (Z22)) ∧ i.size = 6 ∧ i.bytes = 48 := info_four (by kernel_rfl)
theorem len23 (x : S22) : (T22.cells x).length = 6 := by rfl
theorem one23 (x : S22) : ∀ v ∈ T22.cells x, v.oneCell' = true := by
 show ∀ v ∈ S22.cells x, v.oneCell' = true
 simp only [S22.cells, List.forall_mem_append, List.forall_mem_cons, List.forall_mem_nil]
 exact ⟨rfl, rfl, rfl, rfl, rfl, rfl, fun _ h => absurd h (List.not_mem_nil)⟩
theorem ok23 : TyOk Tryz.prog 23 T22 6 := ⟨(inf23).imp fun _ h => ⟨h.1, h.2.2.1⟩, len23, .inl ⟨_, Tryz.underlying23, rfl, fun _ => rfl⟩, fun _ => rfl, one23⟩
theorem inf25 : ∃ i, Tryz.prog.info? 25 = some i ∧ i.zero = some (tSlc.enc ((⟨none, 0, 0⟩ : Slc))) ∧ i.size = 1 ∧ i.bytes = 24 := info_four (by kernel_rfl)
theorem ok25 : TyOk Tryz.prog 25 tSlc 1 := ⟨(inf25).imp fun _ h => ⟨h.1, h.2.2.1⟩, fun _ => rfl, .inr ⟨_, Tryz.underlying25, rfl, rfl, fun _ => rfl⟩, fun x => rfl, fun x v hv => by obtain rfl := List.mem_singleton.1 hv; exact rfl⟩
theorem inf33 : ∃ i, Tryz.prog.info? 33 = some i ∧ i.zero = some (.pointer ((none : Option Addr))) ∧ i.size = 1 ∧ i.bytes = 8 := info_four (by kernel_rfl)
theorem ok33 : TyOk Tryz.prog 33 tPtr 1 := ⟨(inf33).imp fun _ h => ⟨h.1, h.2.2.1⟩, fun _ => rfl, .inr ⟨_, Tryz.underlying33, rfl, rfl, fun _ => rfl⟩, fun x => rfl, fun x v hv => by obtain rfl := List.mem_singleton.1 hv; exact rfl⟩
theorem inf34 : ∃ i, Tryz.prog.info? 34 = some i ∧ i.zero = some (.int .i64 ((0 : Int))) ∧ i.size = 1 ∧ i.bytes = 8 := info_four (by kernel_rfl)
theorem ok34 : TyOk Tryz.prog 34 (tInt .i64) 1 := ⟨(inf34).imp fun _ h => ⟨h.1, h.2.2.1⟩, fun _ => rfl, .inr ⟨_, Tryz.underlying34, rfl, rfl, fun _ => rfl⟩, fun x => rfl, fun x v hv => by obtain rfl := List.mem_singleton.1 hv; exact rfl⟩
theorem inf40 : ∃ i, Tryz.prog.info? 40 = some i ∧ i.zero = some (.float .f64 ((0 : Nat))) ∧ i.size = 1 ∧ i.bytes = 8 := info_four (by kernel_rfl)
theorem ok40 : TyOk Tryz.prog 40 tFlt 1 := ⟨(inf40).imp fun _ h => ⟨h.1, h.2.2.1⟩, fun _ => rfl, .inr ⟨_, Tryz.underlying40, rfl, rfl, fun _ => rfl⟩, fun x => rfl, fun x v hv => by obtain rfl := List.mem_singleton.1 hv; exact rfl⟩
theorem inf43 : ∃ i, Tryz.prog.info? 43 = some i ∧ i.zero = some (.pointer ((none : Option Addr))) ∧ i.size = 1 ∧ i.bytes = 8 := info_four (by kernel_rfl)
theorem ok43 : TyOk Tryz.prog 43 tPtr 1 := ⟨(inf43).imp fun _ h => ⟨h.1, h.2.2.1⟩, fun _ => rfl, .inr ⟨_, Tryz.underlying43, rfl, rfl, fun _ => rfl⟩, fun x => rfl, fun x v hv => by obtain rfl := List.mem_singleton.1 hv; exact rfl⟩
theorem inf44 : ∃ i, Tryz.prog.info? 44 = some i ∧ i.zero = some (.pointer ((none : Option Addr))) ∧ i.size = 1 ∧ i.bytes = 8 := info_four (by kernel_rfl)
theorem ok44 : TyOk Tryz.prog 44 tPtr 1 := ⟨(inf44).imp fun _ h => ⟨h.1, h.2.2.1⟩, fun _ => rfl, .inr ⟨_, Tryz.underlying44, rfl, rfl, fun _ => rfl⟩, fun x => rfl, fun x v hv => by obtain rfl := List.mem_singleton.1 hv; exact rfl⟩
theorem inf46 : ∃ i, Tryz.prog.info? 46 = some i ∧ i.zero = some (T45.enc (Z45)) ∧ i.size = 2 ∧ i.bytes = 16 := info_four (by kernel_rfl)
theorem len46 (x : S45) : (T45.cells x).length = 2 := by rfl
theorem one46 (x : S45) : ∀ v ∈ T45.cells x, v.oneCell' = true := by
 show ∀ v ∈ S45.cells x, v.oneCell' = true
 simp only [S45.cells, List.forall_mem_append, List.forall_mem_cons, List.forall_mem_nil]
 exact ⟨rfl, rfl, fun _ h => absurd h (List.not_mem_nil)⟩
theorem ok46 : TyOk Tryz.prog 46 T45 2 := ⟨(inf46).imp fun _ h => ⟨h.1, h.2.2.1⟩, len46, .inl ⟨_, Tryz.underlying46, rfl, fun _ => rfl⟩, fun _ => rfl, one46⟩
theorem inf57 : ∃ i, Tryz.prog.info? 57 = some i ∧ i.zero = some (tSlc.enc ((⟨none, 0, 0⟩ : Slc))) ∧ i.size = 1 ∧ i.bytes = 24 := info_four (by kernel_rfl)
theorem ok57 : TyOk Tryz.prog 57 tSlc 1 := ⟨(inf57).imp fun _ h => ⟨h.1, h.2.2.1⟩, fun _ => rfl, .inr ⟨_, Tryz.underlying57, rfl, rfl, fun _ => rfl⟩, fun x => rfl, fun x v hv => by obtain rfl := List.mem_singleton.1 hv; exact rfl⟩
theorem inf61 : ∃ i, Tryz.prog.info? 61 = some i ∧ i.zero = some (.int .u64 ((0 : Int))) ∧ i.size = 1 ∧ i.bytes = 8 := info_four (by kernel_rfl)
theorem ok61 : TyOk Tryz.prog 61 (tInt .u64) 1 := ⟨(inf61).imp fun _ h => ⟨h.1, h.2.2.1⟩, fun _ => rfl, .inr ⟨_, Tryz.underlying61, rfl, rfl, fun _ => rfl⟩, fun x => rfl, fun x v hv => by obtain rfl := List.mem_singleton.1 hv; exact rfl⟩
theorem inf62 : ∃ i, Tryz.prog.info? 62 = some i ∧ i.zero = some (.int .i64 ((0 : Int))) ∧ i.size = 1 ∧ i.bytes = 8 := info_four (by kernel_rfl)
theorem ok62 : TyOk Tryz.prog 62 (tInt .i64) 1 := ⟨(inf62).imp fun _ h => ⟨h.1, h.2.2.1⟩, fun _ => rfl, .inr ⟨_, Tryz.underlying62, rfl, rfl, fun _ => rfl⟩, fun x => rfl, fun x v hv => by obtain rfl := List.mem_singleton.1 hv; exact rfl⟩
theorem inf64 : ∃ i, Tryz.prog.info? 64 = some i ∧ i.zero = some (T63.enc (Z63)) ∧ i.size = 5 ∧ i.bytes = 48 := info_four (by kernel_rfl)
theorem len64 (x : S63) : (T63.cells x).length = 5 := by rfl
theorem one64 (x : S63) : ∀ v ∈ T63.cells x, v.oneCell' = true := by
 show ∀ v ∈ S63.cells x, v.oneCell' = true
 simp only [S63.cells, List.forall_mem_append, List.forall_mem_cons, List.forall_mem_nil]
 exact ⟨rfl, rfl, rfl, rfl, rfl, fun _ h => absurd h (List.not_mem_nil)⟩
theorem ok64 : TyOk Tryz.prog 64 T63 5 := ⟨(inf64).imp fun _ h => ⟨h.1, h.2.2.1⟩, len64, .inl ⟨_, Tryz.underlying64, rfl, fun _ => rfl⟩, fun _ => rfl, one64⟩
theorem inf65 : ∃ i, Tryz.prog.info? 65 = some i ∧ i.zero = some (tSlc.enc ((⟨none, 0, 0⟩ : Slc))) ∧ i.size = 1 ∧ i.bytes = 24 := info_four (by kernel_rfl)
theorem ok65 : TyOk Tryz.prog 65 tSlc 1 := ⟨(inf65).imp fun _ h => ⟨h.1, h.2.2.1⟩, fun _ => rfl, .inr ⟨_, Tryz.underlying65, rfl, rfl, fun _ => rfl⟩, fun x => rfl, fun x v hv => by obtain rfl := List.mem_singleton.1 hv; exact rfl⟩
theorem inf75 : ∃ i, Tryz.prog.info? 75 = some i ∧ i.zero = some (tSlc.enc ((⟨none, 0, 0⟩ : Slc))) ∧ i.size = 1 ∧ i.bytes = 24 := info_four (by kernel_rfl)
theorem ok75 : TyOk Tryz.prog 75 tSlc 1 := ⟨(inf75).imp fun _ h => ⟨h.1, h.2.2.1⟩, fun _ => rfl, .inr ⟨_, Tryz.underlying75, rfl, rfl, fun _ => rfl⟩, fun x => rfl, fun x v hv => by obtain rfl := List.mem_singleton.1 hv; exact rfl⟩
theorem inf77 : ∃ i, Tryz.prog.info? 77 = some i ∧ i.zero = some (T76.enc (Z76)) ∧ i.size = 5 ∧ i.bytes = 72 := info_four (by kernel_rfl)
theorem len77 (x : S76) : (T76.cells x).length = 5 := by rfl
theorem one77 (x : S76) : ∀ v ∈ T76.cells x, v.oneCell' = true := by
 show ∀ v ∈ S76.cells x, v.oneCell' = true
 simp only [S76.cells, List.forall_mem_append, List.forall_mem_cons, List.forall_mem_nil]
 exact ⟨rfl, rfl, rfl, rfl, rfl, fun _ h => absurd h (List.not_mem_nil)⟩
theorem ok77 : TyOk Tryz.prog 77 T76 5 := ⟨(inf77).imp fun _ h => ⟨h.1, h.2.2.1⟩, len77, .inl ⟨_, Tryz.underlying77, rfl, fun _ => rfl⟩, fun _ => rfl, one77⟩
theorem inf86 : ∃ i, Tryz.prog.info? 86 = some i ∧ i.zero = some (T85.enc (Z85)) ∧ i.size = 2 ∧ i.bytes = 16 := info_four (by kernel_rfl)
theorem len86 (x : S85) : (T85.cells x).length = 2 := by rfl
theorem one86 (x : S85) : ∀ v ∈ T85.cells x, v.oneCell' = true := by
 show ∀ v ∈ S85.cells x, v.oneCell' = true
 simp only [S85.cells, List.forall_mem_append, List.forall_mem_cons, List.forall_mem_nil]
 exact ⟨rfl, rfl, fun _ h => absurd h (List.not_mem_nil)⟩
theorem ok86 : TyOk Tryz.prog 86 T85 2 := ⟨(inf86).imp fun _ h => ⟨h.1, h.2.2.1⟩, len86, .inl ⟨_, Tryz.underlying86, rfl, fun _ => rfl⟩, fun _ => rfl, one86⟩
theorem inf88 : ∃ i, Tryz.prog.info? 88 = some i ∧ i.zero = some (T87.enc (Z87)) ∧ i.size = 5 ∧ i.bytes = 40 := info_four (by kernel_rfl)
theorem len88 (x : S87) : (T87.cells x).length = 5 := by rfl
theorem one88 (x : S87) : ∀ v ∈ T87.cells x, v.oneCell' = true := by
 show ∀ v ∈ S87.cells x, v.oneCell' = true
 simp only [S87.cells, List.forall_mem_append, List.forall_mem_cons, List.forall_mem_nil]
 exact ⟨one86 _, ⟨rfl, rfl, rfl, fun _ h => absurd h (List.not_mem_nil)⟩⟩
theorem ok88 : TyOk Tryz.prog 88 T87 5 := ⟨(inf88).imp fun _ h => ⟨h.1, h.2.2.1⟩, len88, .inl ⟨_, Tryz.underlying88, rfl, fun _ => rfl⟩, fun _ => rfl, one88⟩
theorem inf90 : ∃ i, Tryz.prog.info? 90 = some i ∧ i.zero = some ((Fv.nil).enc) ∧ i.size = 1 ∧ i.bytes = 8 := info_four (by kernel_rfl)
theorem ok90 : TyOk Tryz.prog 90 tFun 1 := ⟨(inf90).imp fun _ h => ⟨h.1, h.2.2.1⟩, fun _ => rfl, .inr ⟨_, Tryz.underlying90, rfl, rfl, fun _ => rfl⟩, fun x => Fv.flat _, fun x v hv => by obtain rfl := List.mem_singleton.1 hv; exact Fv.one _⟩
theorem inf93 : ∃ i, Tryz.prog.info? 93 = some i ∧ i.zero = some (T92.enc (Z92)) ∧ i.size = 2 ∧ i.bytes = 32 := info_four (by kernel_rfl)
theorem len93 (x : S92) : (T92.cells x).length = 2 := by rfl
theorem one93 (x : S92) : ∀ v ∈ T92.cells x, v.oneCell' = true := by
 show ∀ v ∈ S92.cells x, v.oneCell' = true
 simp only [S92.cells, List.forall_mem_append, List.forall_mem_cons, List.forall_mem_nil]
 exact ⟨rfl, rfl, fun _ h => absurd h (List.not_mem_nil)⟩
theorem ok93 : TyOk Tryz.prog 93 T92 2 := ⟨(inf93).imp fun _ h => ⟨h.1, h.2.2.1⟩, len93, .inl ⟨_, Tryz.underlying93, rfl, fun _ => rfl⟩, fun _ => rfl, one93⟩
theorem inf94 : ∃ i, Tryz.prog.info? 94 = some i ∧ i.zero = some (.pointer ((none : Option Addr))) ∧ i.size = 1 ∧ i.bytes = 8 := info_four (by kernel_rfl)
theorem ok94 : TyOk Tryz.prog 94 tPtr 1 := ⟨(inf94).imp fun _ h => ⟨h.1, h.2.2.1⟩, fun _ => rfl, .inr ⟨_, Tryz.underlying94, rfl, rfl, fun _ => rfl⟩, fun x => rfl, fun x v hv => by obtain rfl := List.mem_singleton.1 hv; exact rfl⟩
theorem inf96 : ∃ i, Tryz.prog.info? 96 = some i ∧ i.zero = some (T95.enc (Z95)) ∧ i.size = 1 ∧ i.bytes = 8 := info_four (by kernel_rfl)
theorem len96 (x : S95) : (T95.cells x).length = 1 := by rfl
theorem one96 (x : S95) : ∀ v ∈ T95.cells x, v.oneCell' = true := by
 show ∀ v ∈ S95.cells x, v.oneCell' = true
 simp only [S95.cells, List.forall_mem_append, List.forall_mem_cons, List.forall_mem_nil]
 exact ⟨rfl, fun _ h => absurd h (List.not_mem_nil)⟩
theorem ok96 : TyOk Tryz.prog 96 T95 1 := ⟨(inf96).imp fun _ h => ⟨h.1, h.2.2.1⟩, len96, .inl ⟨_, Tryz.underlying96, rfl, fun _ => rfl⟩, fun _ => rfl, one96⟩
theorem inf97 : ∃ i, Tryz.prog.info? 97 = some i ∧ i.zero = some (.map ((none : Option Nat))) ∧ i.size = 1 ∧ i.bytes = 8 := info_four (by kernel_rfl)
theorem ok97 : TyOk Tryz.prog 97 tMap 1 := ⟨(inf97).imp fun _ h => ⟨h.1, h.2.2.1⟩, fun _ => rfl, .inr ⟨_, Tryz.underlying97, rfl, rfl, fun _ => rfl⟩, fun x => rfl, fun x v hv => by obtain rfl := List.mem_singleton.1 hv; exact rfl⟩
theorem inf98 : ∃ i, Tryz.prog.info? 98 = some i ∧ i.zero = some (.map ((none : Option Nat))) ∧ i.size = 1 ∧ i.bytes = 8 := info_four (by kernel_rfl)
theorem ok98 : TyOk Tryz.prog 98 tMap 1 := ⟨(inf98).imp fun _ h => ⟨h.1, h.2.2.1⟩, fun _ => rfl, .inr ⟨_, Tryz.underlying98, rfl, rfl, fun _ => rfl⟩, fun x => rfl, fun x v hv => by obtain rfl := List.mem_singleton.1 hv; exact rfl⟩
theorem inf99 : ∃ i, Tryz.prog.info? 99 = some i ∧ i.zero = some (.map ((none : Option Nat))) ∧ i.size = 1 ∧ i.bytes = 8 := info_four (by kernel_rfl)
theorem ok99 : TyOk Tryz.prog 99 tMap 1 := ⟨(inf99).imp fun _ h => ⟨h.1, h.2.2.1⟩, fun _ => rfl, .inr ⟨_, Tryz.underlying99, rfl, rfl, fun _ => rfl⟩, fun x => rfl, fun x v hv => by obtain rfl := List.mem_singleton.1 hv; exact rfl⟩
theorem inf101 : ∃ i, Tryz.prog.info? 101 = some i ∧ i.zero = some (T100.enc (Z100)) ∧ i.size = 6 ∧ i.bytes = 48 := info_four (by kernel_rfl)
theorem len101 (x : S100) : (T100.cells x).length = 6 := by rfl
theorem one101 (x : S100) : ∀ v ∈ T100.cells x, v.oneCell' = true := by
 show ∀ v ∈ S100.cells x, v.oneCell' = true
 simp only [S100.cells, List.forall_mem_append, List.forall_mem_cons, List.forall_mem_nil]
 exact ⟨one96 _, ⟨rfl, rfl, rfl, rfl, rfl, fun _ h => absurd h (List.not_mem_nil)⟩⟩
theorem ok101 : TyOk Tryz.prog 101 T100 6 := ⟨(inf101).imp fun _ h => ⟨h.1, h.2.2.1⟩, len101, .inl ⟨_, Tryz.underlying101, rfl, fun _ => rfl⟩, fun _ => rfl, one101⟩
theorem inf105 : ∃ i, Tryz.prog.info? 105 = some i ∧ i.zero = some (.int .i64 ((0 : Int))) ∧ i.size = 1 ∧ i.bytes = 8 := info_four (by kernel_rfl)
theorem ok105 : TyOk Tryz.prog 105 (tInt .i64) 1 := ⟨(inf105).imp fun _ h => ⟨h.1, h.2.2.1⟩, fun _ => rfl, .inr ⟨_, Tryz.underlying105, rfl, rfl, fun _ => rfl⟩, fun x => rfl, fun x v hv => by obtain rfl := List.mem_singleton.1 hv; exact rfl⟩
theorem inf114 : ∃ i, Tryz.prog.info? 114 = some i ∧ i.zero = some (T113.enc (Z113)) ∧ i.size = 4 ∧ i.bytes = 32 := info_four (by kernel_rfl)
theorem len114 (x : S113) : (T113.cells x).length = 4 := by rfl
theorem one114 (x : S113) : ∀ v ∈ T113.cells x, v.oneCell' = true := by
 show ∀ v ∈ S113.cells x, v.oneCell' = true
 simp only [S113.cells, List.forall_mem_append, List.forall_mem_cons, List.forall_mem_nil]
 exact ⟨rfl, rfl, rfl, rfl, fun _ h => absurd h (List.not_mem_nil)⟩
theorem ok114 : TyOk Tryz.prog 114 T113 4 := ⟨(inf114).imp fun _ h => ⟨h.1, h.2.2.1⟩, len114, .inl ⟨_, Tryz.underlying114, rfl, fun _ => rfl⟩, fun _ => rfl, one114⟩
theorem inf116 : ∃ i, Tryz.prog.info? 116 = some i ∧ i.zero = some ((Fv.nil).enc) ∧ i.size = 1 ∧ i.bytes = 8 := info_four (by kernel_rfl)
theorem ok116 : TyOk Tryz.prog 116 tFun 1 := ⟨(inf116).imp fun _ h => ⟨h.1, h.2.2.1⟩, fun _ => rfl, .inr ⟨_, Tryz.underlying116, rfl, rfl, fun _ => rfl⟩, fun x => Fv.flat _, fun x v hv => by obtain rfl := List.mem_singleton.1 hv; exact Fv.one _⟩
theorem inf118 : ∃ i, Tryz.prog.info? 118 = some i ∧ i.zero = some (T117.enc (Z117)) ∧ i.size = 2 ∧ i.bytes = 16 := info_four (by kernel_rfl)
theorem len118 (x : S117) : (T117.cells x).length = 2 := by rfl
theorem one118 (x : S117) : ∀ v ∈ T117.cells x, v.oneCell' = true := by
 show ∀ v ∈ S117.cells x, v.oneCell' = true
 simp only [S117.cells, List.forall_mem_append, List.forall_mem_cons, List.forall_mem_nil]
 exact ⟨rfl, rfl, fun _ h => absurd h (List.not_mem_nil)⟩
theorem ok118 : TyOk Tryz.prog 118 T117 2 := ⟨(inf118).imp fun _ h => ⟨h.1, h.2.2.1⟩, len118, .inl ⟨_, Tryz.underlying118, rfl, fun _ => rfl⟩, fun _ => rfl, one118⟩
theorem inf123 : ∃ i, Tryz.prog.info? 123 = some i ∧ i.zero = some (T122.enc (Z122)) ∧ i.size = 2 ∧ i.bytes = 16 := info_four (by kernel_rfl)
theorem len123 (x : S122) : (T122.cells x).length = 2 := by rfl
theorem one123 (x : S122) : ∀ v ∈ T122.cells x, v.oneCell' = true := by
 show ∀ v ∈ S122.cells x, v.oneCell' = true
 simp only [S122.cells, List.forall_mem_append, List.forall_mem_cons, List.forall_mem_nil]
 exact ⟨rfl, rfl, fun _ h => absurd h (List.not_mem_nil)⟩
theorem ok123 : TyOk Tryz.prog 123 T122 2 := ⟨(inf123).imp fun _ h => ⟨h.1, h.2.2.1⟩, len123, .inl ⟨_, Tryz.underlying123, rfl, fun _ => rfl⟩, fun _ => rfl, one123⟩
theorem inf129 : ∃ i, Tryz.prog.info? 129 = some i ∧ i.zero = some (T128.enc (Z128)) ∧ i.size = 2 ∧ i.bytes = 32 := info_four (by kernel_rfl)
theorem len129 (x : S128) : (T128.cells x).length = 2 := by rfl
theorem one129 (x : S128) : ∀ v ∈ T128.cells x, v.oneCell' = true := by
 show ∀ v ∈ S128.cells x, v.oneCell' = true
 simp only [S128.cells, List.forall_mem_append, List.forall_mem_cons, List.forall_mem_nil]
 exact ⟨rfl, rfl, fun _ h => absurd h (List.not_mem_nil)⟩
theorem ok129 : TyOk Tryz.prog 129 T128 2 := ⟨(inf129).imp fun _ h => ⟨h.1, h.2.2.1⟩, len129, .inl ⟨_, Tryz.underlying129, rfl, fun _ => rfl⟩, fun _ => rfl, one129⟩
theorem inf131 : ∃ i, Tryz.prog.info? 131 = some i ∧ i.zero = some (T130.enc (Z130)) ∧ i.size = 1 ∧ i.bytes = 8 := info_four (by kernel_rfl)
theorem len131 (x : S130) : (T130.cells x).length = 1 := by rfl
theorem one131 (x : S130) : ∀ v ∈ T130.cells x, v.oneCell' = true := by
 show ∀ v ∈ S130.cells x, v.oneCell' = true
 simp only [S130.cells, List.forall_mem_append, List.forall_mem_cons, List.forall_mem_nil]
 exact ⟨rfl, fun _ h => absurd h (List.not_mem_nil)⟩
theorem ok131 : TyOk Tryz.prog 131 T130 1 := ⟨(inf131).imp fun _ h => ⟨h.1, h.2.2.1⟩, len131, .inl ⟨_, Tryz.underlying131, rfl, fun _ => rfl⟩, fun _ => rfl, one131⟩
theorem inf151 : ∃ i, Tryz.prog.info? 151 = some i ∧ i.zero = some (T150.enc (Z150)) ∧ i.size = 6 ∧ i.bytes = 48 := info_four (by kernel_rfl)
theorem len151 (x : S150) : (T150.cells x).length = 6 := by rfl
theorem one151 (x : S150) : ∀ v ∈ T150.cells x, v.oneCell' = true := by
 show ∀ v ∈ S150.cells x, v.oneCell' = true
 simp only [S150.cells, List.forall_mem_append, List.forall_mem_cons, List.forall_mem_nil]
 exact ⟨one114 _, ⟨rfl, rfl, fun _ h => absurd h (List.not_mem_nil)⟩⟩
theorem ok151 : TyOk Tryz.prog 151 T150 6 := ⟨(inf151).imp fun _ h => ⟨h.1, h.2.2.1⟩, len151, .inl ⟨_, Tryz.underlying151, rfl, fun _ => rfl⟩, fun _ => rfl, one151⟩
theorem inf157 : ∃ i, Tryz.prog.info? 157 = some i ∧ i.zero = some (T156.enc (Z156)) ∧ i.size = 2 ∧ i.bytes = 16 := info_four (by kernel_rfl)
theorem len157 (x : S156) : (T156.cells x).length = 2 := by rfl
theorem one157 (x : S156) : ∀ v ∈ T156.cells x, v.oneCell' = true := by
 show ∀ v ∈ S156.cells x, v.oneCell' = true
 simp only [S156.cells, List.forall_mem_append, List.forall_mem_cons, List.forall_mem_nil]
 exact ⟨rfl, rfl, fun _ h => absurd h (List.not_mem_nil)⟩
theorem ok157 : TyOk Tryz.prog 157 T156 2 := ⟨(inf157).imp fun _ h => ⟨h.1, h.2.2.1⟩, len157, .inl ⟨_, Tryz.underlying157, rfl, fun _ => rfl⟩, fun _ => rfl, one157⟩
theorem inf165 : ∃ i, Tryz.prog.info? 165 = some i ∧ i.zero = some (.pointer ((none : Option Addr))) ∧ i.size = 1 ∧ i.bytes = 8 := info_four (by kernel_rfl)
theorem ok165 : TyOk Tryz.prog 165 tPtr 1 := ⟨(inf165).imp fun _ h => ⟨h.1, h.2.2.1⟩, fun _ => rfl, .inr ⟨_, Tryz.underlying165, rfl, rfl, fun _ => rfl⟩, fun x => rfl, fun x v hv => by obtain rfl := List.mem_singleton.1 hv; exact rfl⟩
theorem inf167 : ∃ i, Tryz.prog.info? 167 = some i ∧ i.zero = some (.map ((none : Option Nat))) ∧ i.size = 1 ∧ i.bytes = 8 := info_four (by kernel_rfl)
theorem ok167 : TyOk Tryz.prog 167 tMap 1 := ⟨(inf167).imp fun _ h => ⟨h.1, h.2.2.1⟩, fun _ => rfl, .inr ⟨_, Tryz.underlying167, rfl, rfl, fun _ => rfl⟩, fun x => rfl, fun x v hv => by obtain rfl := List.mem_singleton.1 hv; exact rfl⟩
theorem inf169 : ∃ i, Tryz.prog.info? 169 = some i ∧ i.zero = some (T168.enc (Z168)) ∧ i.size = 3 ∧ i.bytes = 24 := info_four (by kernel_rfl)
theorem len169 (x : S168) : (T168.cells x).length = 3 := by rfl
theorem one169 (x : S168) : ∀ v ∈ T168.cells x, v.oneCell' = true := by
 show ∀ v ∈ S168.cells x, v.oneCell' = true
 simp only [S168.cells, List.forall_mem_append, List.forall_mem_cons, List.forall_mem_nil]
 exact ⟨rfl, rfl, rfl, fun _ h => absurd h (List.not_mem_nil)⟩
theorem ok169 : TyOk Tryz.prog 169 T168 3 := ⟨(inf169).imp fun _ h => ⟨h.1, h.2.2.1⟩, len169, .inl ⟨_, Tryz.underlying169, rfl, fun _ => rfl⟩, fun _ => rfl, one169⟩
theorem inf197 : ∃ i, Tryz.prog.info? 197 = some i ∧ i.zero = some (tSlc.enc ((⟨none, 0, 0⟩ : Slc))) ∧ i.size = 1 ∧ i.bytes = 24 := info_four (by kernel_rfl)
theorem ok197 : TyOk Tryz.prog 197 tSlc 1 := ⟨(inf197).imp fun _ h => ⟨h.1, h.2.2.1⟩, fun _ => rfl, .inr ⟨_, Tryz.underlying197, rfl, rfl, fun _ => rfl⟩, fun x => rfl, fun x v hv => by obtain rfl := List.mem_singleton.1 hv; exact rfl⟩
theorem inf199 : ∃ i, Tryz.prog.info? 199 = some i ∧ i.zero = some (T198.enc (Z198)) ∧ i.size = 2 ∧ i.bytes = 32 := info_four (by kernel_rfl)
theorem len199 (x : S198) : (T198.cells x).length = 2 := by rfl
theorem one199 (x : S198) : ∀ v ∈ T198.cells x, v.oneCell' = true := by
 show ∀ v ∈ S198.cells x, v.oneCell' = true
 simp only [S198.cells, List.forall_mem_append, List.forall_mem_cons, List.forall_mem_nil]
 exact ⟨rfl, rfl, fun _ h => absurd h (List.not_mem_nil)⟩
theorem ok199 : TyOk Tryz.prog 199 T198 2 := ⟨(inf199).imp fun _ h => ⟨h.1, h.2.2.1⟩, len199, .inl ⟨_, Tryz.underlying199, rfl, fun _ => rfl⟩, fun _ => rfl, one199⟩
theorem inf201 : ∃ i, Tryz.prog.info? 201 = some i ∧ i.zero = some (T201.enc (Z201)) ∧ i.size = 0 ∧ i.bytes = 0 := info_four (by kernel_rfl)
theorem len201 (x : S201) : (T201.cells x).length = 0 := by rfl
theorem one201 (x : S201) : ∀ v ∈ T201.cells x, v.oneCell' = true := by
 show ∀ v ∈ S201.cells x, v.oneCell' = true
 simp only [S201.cells, List.forall_mem_append, List.forall_mem_cons, List.forall_mem_nil]
 exact fun _ h => absurd h (List.not_mem_nil)
theorem ok201 : TyOk Tryz.prog 201 T201 0 := ⟨(inf201).imp fun _ h => ⟨h.1, h.2.2.1⟩, len201, .inl ⟨_, Tryz.underlying201, rfl, fun _ => rfl⟩, fun _ => rfl, one201⟩
theorem ent7 : Enters Tryz.prog 7 := ⟨_, Tryz.func7, rfl, by decide⟩
theorem ent8 : Enters Tryz.prog 8 := ⟨_, Tryz.func8, rfl, by decide⟩
theorem ent9 : Enters Tryz.prog 9 := ⟨_, Tryz.func9, rfl, by decide⟩
theorem ent12 : Enters Tryz.prog 12 := ⟨_, Tryz.func12, rfl, by decide⟩
theorem ent13 : Enters Tryz.prog 13 := ⟨_, Tryz.func13, rfl, by decide⟩
theorem ent14 : Enters Tryz.prog 14 := ⟨_, Tryz.func14, rfl, by decide⟩
theorem ent15 : Enters Tryz.prog 15 := ⟨_, Tryz.func15, rfl, by decide⟩
theorem ent16 : Enters Tryz.prog 16 := ⟨_, Tryz.func16, rfl, by decide⟩
theorem ent17 : Enters Tryz.prog 17 := ⟨_, Tryz.func17, rfl, by decide⟩
theorem ent18 : Enters Tryz.prog 18 := ⟨_, Tryz.func18, rfl, by decide⟩
theorem ent19 : Enters Tryz.prog 19 := ⟨_, Tryz.func19, rfl, by decide⟩
theorem ent20 : Enters Tryz.prog 20 := ⟨_, Tryz.func20, rfl, by decide⟩
theorem ent21 : Enters Tryz.prog 21 := ⟨_, Tryz.func21, rfl, by decide⟩
theorem ent23 : Enters Tryz.prog 23 := ⟨_, Tryz.func23, rfl, by decide⟩
theorem ent25 : Enters Tryz.prog 25 := ⟨_, Tryz.func25, rfl, by decide⟩
theorem ent26 : Enters Tryz.prog 26 := ⟨_, Tryz.func26, rfl, by decide⟩
theorem ent27 : Enters Tryz.prog 27 := ⟨_, Tryz.func27, rfl, by decide⟩
theorem ent28 : Enters Tryz.prog 28 := ⟨_, Tryz.func28, rfl, by decide⟩
theorem ent29 : Enters Tryz.prog 29 := ⟨_, Tryz.func29, rfl, by decide⟩
theorem ent32 : Enters Tryz.prog 32 := ⟨_, Tryz.func32, rfl, by decide⟩
theorem ent33 : Enters Tryz.prog 33 := ⟨_, Tryz.func33, rfl, by decide⟩
theorem ent34 : Enters Tryz.prog 34 := ⟨_, Tryz.func34, rfl, by decide⟩
theorem ent35 : Enters Tryz.prog 35 := ⟨_, Tryz.func35, rfl, by decide⟩
theorem ent36 : Enters Tryz.prog 36 := ⟨_, Tryz.func36, rfl, by decide⟩
theorem ent37 : Enters Tryz.prog 37 := ⟨_, Tryz.func37, rfl, by decide⟩
theorem ent38 : Enters Tryz.prog 38 := ⟨_, Tryz.func38, rfl, by decide⟩
theorem ent39 : Enters Tryz.prog 39 := ⟨_, Tryz.func39, rfl, by decide⟩
theorem ent40 : Enters Tryz.prog 40 := ⟨_, Tryz.func40, rfl, by decide⟩
theorem ent41 : Enters Tryz.prog 41 := ⟨_, Tryz.func41, rfl, by decide⟩
theorem ent42 : Enters Tryz.prog 42 := ⟨_, Tryz.func42, rfl, by decide⟩
theorem ent43 : Enters Tryz.prog 43 := ⟨_, Tryz.func43, rfl, by decide⟩
theorem ent44 : Enters Tryz.prog 44 := ⟨_, Tryz.func44, rfl, by decide⟩
theorem ent45 : Enters Tryz.prog 45 := ⟨_, Tryz.func45, rfl, by decide⟩
theorem ent46 : Enters Tryz.prog 46 := ⟨_, Tryz.func46, rfl, by decide⟩
theorem ent47 : Enters Tryz.prog 47 := ⟨_, Tryz.func47, rfl, by decide⟩
theorem ent48 : Enters Tryz.prog 48 := ⟨_, Tryz.func48, rfl, by decide⟩
theorem ent49 : Enters Tryz.prog 49 := ⟨_, Tryz.func49, rfl, by decide⟩
theorem ent50 : Enters Tryz.prog 50 := ⟨_, Tryz.func50, rfl, by decide⟩
theorem ent51 : Enters Tryz.prog 51 := ⟨_, Tryz.func51, rfl, by decide⟩
theorem ent52 : Enters Tryz.prog 52 := ⟨_, Tryz.func52, rfl, by decide⟩
theorem ent53 : Enters Tryz.prog 53 := ⟨_, Tryz.func53, rfl, by decide⟩
theorem ent54 : Enters Tryz.prog 54 := ⟨_, Tryz.func54, rfl, by decide⟩
theorem ent55 : Enters Tryz.prog 55 := ⟨_, Tryz.func55, rfl, by decide⟩
theorem ent56 : Enters Tryz.prog 56 := ⟨_, Tryz.func56, rfl, by decide⟩
theorem ent57 : Enters Tryz.prog 57 := ⟨_, Tryz.func57, rfl, by decide⟩
theorem ent58 : Enters Tryz.prog 58 := ⟨_, Tryz.func58, rfl, by decide⟩
theorem ent59 : Enters Tryz.prog 59 := ⟨_, Tryz.func59, rfl, by decide⟩
theorem ent60 : Enters Tryz.prog 60 := ⟨_, Tryz.func60, rfl, by decide⟩
theorem ent64 : Enters Tryz.prog 64 := ⟨_, Tryz.func64, rfl, by decide⟩
theorem ent65 : Enters Tryz.prog 65 := ⟨_, Tryz.func65, rfl, by decide⟩
theorem ent66 : Enters Tryz.prog 66 := ⟨_, Tryz.func66, rfl, by decide⟩
theorem ent67 : Enters Tryz.prog 67 := ⟨_, Tryz.func67, rfl, by decide⟩
theorem ent68 : Enters Tryz.prog 68 := ⟨_, Tryz.func68, rfl, by decide⟩
theorem ent69 : Enters Tryz.prog 69 := ⟨_, Tryz.func69, rfl, by decide⟩
theorem ent70 : Enters Tryz.prog 70 := ⟨_, Tryz.func70, rfl, by decide⟩
theorem ent71 : Enters Tryz.prog 71 := ⟨_, Tryz.func71, rfl, by decide⟩
theorem ent72 : Enters Tryz.prog 72 := ⟨_, Tryz.func72, rfl, by decide⟩
theorem ent73 : Enters Tryz.prog 73 := ⟨_, Tryz.func73, rfl, by decide⟩
theorem ent74 : Enters Tryz.prog 74 := ⟨_, Tryz.func74, rfl, by decide⟩
theorem ent75 : Enters Tryz.prog 75 := ⟨_, Tryz.func75, rfl, by decide⟩
theorem ent76 : Enters Tryz.prog 76 := ⟨_, Tryz.func76, rfl, by decide⟩
theorem ent77 : Enters Tryz.prog 77 := ⟨_, Tryz.func77, rfl, by decide⟩
theorem ent78 : Enters Tryz.prog 78 := ⟨_, Tryz.func78, rfl, by decide⟩
theorem ent79 : Enters Tryz.prog 79 := ⟨_, Tryz.func79, rfl, by decide⟩
theorem ent80 : Enters Tryz.prog 80 := ⟨_, Tryz.func80, rfl, by decide⟩
theorem ent81 : Enters Tryz.prog 81 := ⟨_, Tryz.func81, rfl, by decide⟩
theorem ent82 : Enters Tryz.prog 82 := ⟨_, Tryz.func82, rfl, by decide⟩
theorem ent83 : Enters Tryz.prog 83 := ⟨_, Tryz.func83, rfl, by decide⟩
theorem ent84 : Enters Tryz.prog 84 := ⟨_, Tryz.func84, rfl, by decide⟩
theorem ent85 : Enters Tryz.prog 85 := ⟨_, Tryz.func85, rfl, by decide⟩
theorem ent86 : Enters Tryz.prog 86 := ⟨_, Tryz.func86, rfl, by decide⟩
theorem ent87 : Enters Tryz.prog 87 := ⟨_, Tryz.func87, rfl, by decide⟩
theorem ent88 : Enters Tryz.prog 88 := ⟨_, Tryz.func88, rfl, by decide⟩
theorem ent89 : Enters Tryz.prog 89 := ⟨_, Tryz.func89, rfl, by decide⟩
theorem ent90 : Enters Tryz.prog 90 := ⟨_, Tryz.func90, rfl, by decide⟩
theorem ent91 : Enters Tryz.prog 91 := ⟨_, Tryz.func91, rfl, by decide⟩
theorem ent92 : Enters Tryz.prog 92 := ⟨_, Tryz.func92, rfl, by decide⟩
theorem ent93 : Enters Tryz.prog 93 := ⟨_, Tryz.func93, rfl, by decide⟩
theorem ent94 : Enters Tryz.prog 94 := ⟨_, Tryz.func94, rfl, by decide⟩
theorem ent95 : Enters Tryz.prog 95 := ⟨_, Tryz.func95, rfl, by decide⟩
theorem ent96 : Enters Tryz.prog 96 := ⟨_, Tryz.func96, rfl, by decide⟩
theorem ent97 : Enters Tryz.prog 97 := ⟨_, Tryz.func97, rfl, by decide⟩
theorem ent98 : Enters Tryz.prog 98 := ⟨_, Tryz.func98, rfl, by decide⟩
theorem ent105 : Enters Tryz.prog 105 := ⟨_, Tryz.func105, rfl, by decide⟩
theorem ent106 : Enters Tryz.prog 106 := ⟨_, Tryz.func106, rfl, by decide⟩
theorem ent107 : Enters Tryz.prog 107 := ⟨_, Tryz.func107, rfl, by decide⟩
theorem ent108 : Enters Tryz.prog 108 := ⟨_, Tryz.func108, rfl, by decide⟩
theorem ent109 : Enters Tryz.prog 109 := ⟨_, Tryz.func109, rfl, by decide⟩
theorem ent110 : Enters Tryz.prog 110 := ⟨_, Tryz.func110, rfl, by decide⟩
theorem ent111 : Enters Tryz.prog 111 := ⟨_, Tryz.func111, rfl, by decide⟩
theorem ent112 : Enters Tryz.prog 112 := ⟨_, Tryz.func112, rfl, by decide⟩
theorem ent113 : Enters Tryz.prog 113 := ⟨_, Tryz.func113, rfl, by decide⟩
theorem ent114 : Enters Tryz.prog 114 := ⟨_, Tryz.func114, rfl, by decide⟩
theorem ent115 : Enters Tryz.prog 115 := ⟨_, Tryz.func115, rfl, by decide⟩
theorem ent119 : Enters Tryz.prog 119 := ⟨_, Tryz.func119, rfl, by decide⟩
theorem ent120 : Enters Tryz.prog 120 := ⟨_, Tryz.func120, rfl, by decide⟩
theorem ent121 : Enters Tryz.prog 121 := ⟨_, Tryz.func121, rfl, by decide⟩
theorem ent122 : Enters Tryz.prog 122 := ⟨_, Tryz.func122, rfl, by decide⟩
theorem ent123 : Enters Tryz.prog 123 := ⟨_, Tryz.func123, rfl, by decide⟩
theorem ent124 : Enters Tryz.prog 124 := ⟨_, Tryz.func124, rfl, by decide⟩
theorem ent125 : Enters Tryz.prog 125 := ⟨_, Tryz.func125, rfl, by decide⟩
theorem ent126 : Enters Tryz.prog 126 := ⟨_, Tryz.func126, rfl, by decide⟩
theorem ent127 : Enters Tryz.prog 127 := ⟨_, Tryz.func127, rfl, by decide⟩
theorem ent128 : Enters Tryz.prog 128 := ⟨_, Tryz.func128, rfl, by decide⟩
theorem ent130 : Enters Tryz.prog 130 := ⟨_, Tryz.func130, rfl, by decide⟩
theorem ent131 : Enters Tryz.prog 131 := ⟨_, Tryz.func131, rfl, by decide⟩
theorem ent132 : Enters Tryz.prog 132 := ⟨_, Tryz.func132, rfl, by decide⟩
theorem ent137 : Enters Tryz.prog 137 := ⟨_, Tryz.func137, rfl, by decide⟩
theorem ent138 : Enters Tryz.prog 138 := ⟨_, Tryz.func138, rfl, by decide⟩
theorem ent139 : Enters Tryz.prog 139 := ⟨_, Tryz.func139, rfl, by decide⟩
theorem ent140 : Enters Tryz.prog 140 := ⟨_, Tryz.func140, rfl, by decide⟩
theorem ent151 : Enters Tryz.prog 151 := ⟨_, Tryz.func151, rfl, by decide⟩
theorem ent152 : Enters Tryz.prog 152 := ⟨_, Tryz.func152, rfl, by decide⟩
theorem ent153 : Enters Tryz.prog 153 := ⟨_, Tryz.func153, rfl, by decide⟩
theorem ent154 : Enters Tryz.prog 154 := ⟨_, Tryz.func154, rfl, by decide⟩
theorem ent155 : Enters Tryz.prog 155 := ⟨_, Tryz.func155, rfl, by decide⟩
theorem ent156 : Enters Tryz.prog 156 := ⟨_, Tryz.func156, rfl, by decide⟩
theorem ent157 : Enters Tryz.prog 157 := ⟨_, Tryz.func157, rfl, by decide⟩
theorem ent158 : Enters Tryz.prog 158 := ⟨_, Tryz.func158, rfl, by decide⟩
theorem ent159 : Enters Tryz.prog 159 := ⟨_, Tryz.func159, rfl, by decide⟩
theorem ent167 : Enters Tryz.prog 167 := ⟨_, Tryz.func167, rfl, by decide⟩
theorem ent169 : Enters Tryz.prog 169 := ⟨_, Tryz.func169, rfl, by decide⟩
theorem ent171 : Enters Tryz.prog 171 := ⟨_, Tryz.func171, rfl, by decide⟩
theorem ent172 : Enters Tryz.prog 172 := ⟨_, Tryz.func172, rfl, by decide⟩
theorem ent173 : Enters Tryz.prog 173 := ⟨_, Tryz.func173, rfl, by decide⟩
theorem ent174 : Enters Tryz.prog 174 := ⟨_, Tryz.func174, rfl, by decide⟩
theorem mixed : Tryz.prog.follows .mixedOrders = true := by kernel_rfl
theorem pl23 (w : World) : (((Tryz.prog.fieldsOf 23).toList).mapM fun f => (do pure (f.offset, ← sizeOf f.type) : Sem (Nat × Nat))).run Tryz.prog w = .ok [(0, 1), (1, 1), (2, 1), (3, 1), (4, 1), (5, 1)] w := by
 simp only [Program.fieldsOf, Tryz.underlying23]
 refine run_places _ _ rfl ?_
 intro j fd p hf hp
 rcases j with _ | j; · obtain rfl := Option.some.inj hf; obtain rfl := Option.some.inj hp; exact ⟨rfl, ok3.size⟩
 rcases j with _ | j; · obtain rfl := Option.some.inj hf; obtain rfl := Option.some.inj hp; exact ⟨rfl, ok2.size⟩
 rcases j with _ | j; · obtain rfl := Option.some.inj hf; obtain rfl := Option.some.inj hp; exact ⟨rfl, ok3.size⟩
 rcases j with _ | j; · obtain rfl := Option.some.inj hf; obtain rfl := Option.some.inj hp; exact ⟨rfl, ok3.size⟩
 rcases j with _ | j; · obtain rfl := Option.some.inj hf; obtain rfl := Option.some.inj hp; exact ⟨rfl, ok2.size⟩
 rcases j with _ | j; · obtain rfl := Option.some.inj hf; obtain rfl := Option.some.inj hp; exact ⟨rfl, ok4.size⟩
 cases hp
theorem pl46 (w : World) : (((Tryz.prog.fieldsOf 46).toList).mapM fun f => (do pure (f.offset, ← sizeOf f.type) : Sem (Nat × Nat))).run Tryz.prog w = .ok [(0, 1), (1, 1)] w := by
 simp only [Program.fieldsOf, Tryz.underlying46]
 refine run_places _ _ rfl ?_
 intro j fd p hf hp
 rcases j with _ | j; · obtain rfl := Option.some.inj hf; obtain rfl := Option.some.inj hp; exact ⟨rfl, ok43.size⟩
 rcases j with _ | j; · obtain rfl := Option.some.inj hf; obtain rfl := Option.some.inj hp; exact ⟨rfl, ok44.size⟩
 cases hp
theorem pl64 (w : World) : (((Tryz.prog.fieldsOf 64).toList).mapM fun f => (do pure (f.offset, ← sizeOf f.type) : Sem (Nat × Nat))).run Tryz.prog w = .ok [(0, 1), (1, 1), (2, 1), (3, 1), (4, 1)] w := by
 simp only [Program.fieldsOf, Tryz.underlying64]
 refine run_places _ _ rfl ?_
 intro j fd p hf hp
 rcases j with _ | j; · obtain rfl := Option.some.inj hf; obtain rfl := Option.some.inj hp; exact ⟨rfl, ok62.size⟩
 rcases j with _ | j; · obtain rfl := Option.some.inj hf; obtain rfl := Option.some.inj hp; exact ⟨rfl, ok61.size⟩
 rcases j with _ | j; · obtain rfl := Option.some.inj hf; obtain rfl := Option.some.inj hp; exact ⟨rfl, ok2.size⟩
 rcases j with _ | j; · obtain rfl := Option.some.inj hf; obtain rfl := Option.some.inj hp; exact ⟨rfl, ok40.size⟩
 rcases j with _ | j; · obtain rfl := Option.some.inj hf; obtain rfl := Option.some.inj hp; exact ⟨rfl, ok9.size⟩
 cases hp
theorem pl77 (w : World) : (((Tryz.prog.fieldsOf 77).toList).mapM fun f => (do pure (f.offset, ← sizeOf f.type) : Sem (Nat × Nat))).run Tryz.prog w = .ok [(0, 1), (1, 1), (2, 1), (3, 1), (4, 1)] w := by
 simp only [Program.fieldsOf, Tryz.underlying77]
 refine run_places _ _ rfl ?_
 intro j fd p hf hp
 rcases j with _ | j; · obtain rfl := Option.some.inj hf; obtain rfl := Option.some.inj hp; exact ⟨rfl, ok75.size⟩
 rcases j with _ | j; · obtain rfl := Option.some.inj hf; obtain rfl := Option.some.inj hp; exact ⟨rfl, ok3.size⟩
 rcases j with _ | j; · obtain rfl := Option.some.inj hf; obtain rfl := Option.some.inj hp; exact ⟨rfl, ok4.size⟩
 rcases j with _ | j; · obtain rfl := Option.some.inj hf; obtain rfl := Option.some.inj hp; exact ⟨rfl, ok3.size⟩
 rcases j with _ | j; · obtain rfl := Option.some.inj hf; obtain rfl := Option.some.inj hp; exact ⟨rfl, ok57.size⟩
 cases hp
theorem pl86 (w : World) : (((Tryz.prog.fieldsOf 86).toList).mapM fun f => (do pure (f.offset, ← sizeOf f.type) : Sem (Nat × Nat))).run Tryz.prog w = .ok [(0, 1), (1, 1)] w := by
 simp only [Program.fieldsOf, Tryz.underlying86]
 refine run_places _ _ rfl ?_
 intro j fd p hf hp
 rcases j with _ | j; · obtain rfl := Option.some.inj hf; obtain rfl := Option.some.inj hp; exact ⟨rfl, ok3.size⟩
 rcases j with _ | j; · obtain rfl := Option.some.inj hf; obtain rfl := Option.some.inj hp; exact ⟨rfl, ok3.size⟩
 cases hp
theorem pl88 (w : World) : (((Tryz.prog.fieldsOf 88).toList).mapM fun f => (do pure (f.offset, ← sizeOf f.type) : Sem (Nat × Nat))).run Tryz.prog w = .ok [(0, 2), (2, 1), (3, 1), (4, 1)] w := by
 simp only [Program.fieldsOf, Tryz.underlying88]
 refine run_places _ _ rfl ?_
 intro j fd p hf hp
 rcases j with _ | j; · obtain rfl := Option.some.inj hf; obtain rfl := Option.some.inj hp; exact ⟨rfl, ok86.size⟩
 rcases j with _ | j; · obtain rfl := Option.some.inj hf; obtain rfl := Option.some.inj hp; exact ⟨rfl, ok33.size⟩
 rcases j with _ | j; · obtain rfl := Option.some.inj hf; obtain rfl := Option.some.inj hp; exact ⟨rfl, ok3.size⟩
 rcases j with _ | j; · obtain rfl := Option.some.inj hf; obtain rfl := Option.some.inj hp; exact ⟨rfl, ok4.size⟩
 cases hp
theorem pl96 (w : World) : (((Tryz.prog.fieldsOf 96).toList).mapM fun f => (do pure (f.offset, ← sizeOf f.type) : Sem (Nat × Nat))).run Tryz.prog w = .ok [(0, 1)] w := by
 simp only [Program.fieldsOf, Tryz.underlying96]
 refine run_places _ _ rfl ?_
 intro j fd p hf hp
 rcases j with _ | j; · obtain rfl := Option.some.inj hf; obtain rfl := Option.some.inj hp; exact ⟨rfl, ok94.size⟩
 cases hp
theorem pl101 (w : World) : (((Tryz.prog.fieldsOf 101).toList).mapM fun f => (do pure (f.offset, ← sizeOf f.type) : Sem (Nat × Nat))).run Tryz.prog w = .ok [(0, 1), (1, 1), (2, 1), (3, 1), (4, 1), (5, 1)] w := by
 simp only [Program.fieldsOf, Tryz.underlying101]
 refine run_places _ _ rfl ?_
 intro j fd p hf hp
 rcases j with _ | j; · obtain rfl := Option.some.inj hf; obtain rfl := Option.some.inj hp; exact ⟨rfl, ok96.size⟩
 rcases j with _ | j; · obtain rfl := Option.some.inj hf; obtain rfl := Option.some.inj hp; exact ⟨rfl, ok40.size⟩
 rcases j with _ | j; · obtain rfl := Option.some.inj hf; obtain rfl := Option.some.inj hp; exact ⟨rfl, ok2.size⟩
 rcases j with _ | j; · obtain rfl := Option.some.inj hf; obtain rfl := Option.some.inj hp; exact ⟨rfl, ok97.size⟩
 rcases j with _ | j; · obtain rfl := Option.some.inj hf; obtain rfl := Option.some.inj hp; exact ⟨rfl, ok98.size⟩
 rcases j with _ | j; · obtain rfl := Option.some.inj hf; obtain rfl := Option.some.inj hp; exact ⟨rfl, ok99.size⟩
 cases hp
theorem pl114 (w : World) : (((Tryz.prog.fieldsOf 114).toList).mapM fun f => (do pure (f.offset, ← sizeOf f.type) : Sem (Nat × Nat))).run Tryz.prog w = .ok [(0, 1), (1, 1), (2, 1), (3, 1)] w := by
 simp only [Program.fieldsOf, Tryz.underlying114]
 refine run_places _ _ rfl ?_
 intro j fd p hf hp
 rcases j with _ | j; · obtain rfl := Option.some.inj hf; obtain rfl := Option.some.inj hp; exact ⟨rfl, ok3.size⟩
 rcases j with _ | j; · obtain rfl := Option.some.inj hf; obtain rfl := Option.some.inj hp; exact ⟨rfl, ok3.size⟩
 rcases j with _ | j; · obtain rfl := Option.some.inj hf; obtain rfl := Option.some.inj hp; exact ⟨rfl, ok2.size⟩
 rcases j with _ | j; · obtain rfl := Option.some.inj hf; obtain rfl := Option.some.inj hp; exact ⟨rfl, ok4.size⟩
 cases hp
theorem pl118 (w : World) : (((Tryz.prog.fieldsOf 118).toList).mapM fun f => (do pure (f.offset, ← sizeOf f.type) : Sem (Nat × Nat))).run Tryz.prog w = .ok [(0, 1), (1, 1)] w := by
 simp only [Program.fieldsOf, Tryz.underlying118]
 refine run_places _ _ rfl ?_
 intro j fd p hf hp
 rcases j with _ | j; · obtain rfl := Option.some.inj hf; obtain rfl := Option.some.inj hp; exact ⟨rfl, ok2.size⟩
 rcases j with _ | j; · obtain rfl := Option.some.inj hf; obtain rfl := Option.some.inj hp; exact ⟨rfl, ok2.size⟩
 cases hp
theorem pl123 (w : World) : (((Tryz.prog.fieldsOf 123).toList).mapM fun f => (do pure (f.offset, ← sizeOf f.type) : Sem (Nat × Nat))).run Tryz.prog w = .ok [(0, 1), (1, 1)] w := by
 simp only [Program.fieldsOf, Tryz.underlying123]
 refine run_places _ _ rfl ?_
 intro j fd p hf hp
 rcases j with _ | j; · obtain rfl := Option.some.inj hf; obtain rfl := Option.some.inj hp; exact ⟨rfl, ok3.size⟩
 rcases j with _ | j; · obtain rfl := Option.some.inj hf; obtain rfl := Option.some.inj hp; exact ⟨rfl, ok2.size⟩
 cases hp
theorem pl129 (w : World) : (((Tryz.prog.fieldsOf 129).toList).mapM fun f => (do pure (f.offset, ← sizeOf f.type) : Sem (Nat × Nat))).run Tryz.prog w = .ok [(0, 1), (1, 1)] w := by
 simp only [Program.fieldsOf, Tryz.underlying129]
 refine run_places _ _ rfl ?_
 intro j fd p hf hp
 rcases j with _ | j; · obtain rfl := Option.some.inj hf; obtain rfl := Option.some.inj hp; exact ⟨rfl, ok25.size⟩
 rcases j with _ | j; · obtain rfl := Option.some.inj hf; obtain rfl := Option.some.inj hp; exact ⟨rfl, ok3.size⟩
 cases hp
theorem pl131 (w : World) : (((Tryz.prog.fieldsOf 131).toList).mapM fun f => (do pure (f.offset, ← sizeOf f.type) : Sem (Nat × Nat))).run Tryz.prog w = .ok [(0, 1)] w := by
 simp only [Program.fieldsOf, Tryz.underlying131]
 refine run_places _ _ rfl ?_
 intro j fd p hf hp
 rcases j with _ | j; · obtain rfl := Option.some.inj hf; obtain rfl := Option.some.inj hp; exact ⟨rfl, ok34.size⟩
 cases hp
theorem pl151 (w : World) : (((Tryz.prog.fieldsOf 151).toList).mapM fun f => (do pure (f.offset, ← sizeOf f.type) : Sem (Nat × Nat))).run Tryz.prog w = .ok [(0, 4), (4, 1), (5, 1)] w := by
 simp only [Program.fieldsOf, Tryz.underlying151]
 refine run_places _ _ rfl ?_
 intro j fd p hf hp
 rcases j with _ | j; · obtain rfl := Option.some.inj hf; obtain rfl := Option.some.inj hp; exact ⟨rfl, ok114.size⟩
 rcases j with _ | j; · obtain rfl := Option.some.inj hf; obtain rfl := Option.some.inj hp; exact ⟨rfl, ok2.size⟩
 rcases j with _ | j; · obtain rfl := Option.some.inj hf; obtain rfl := Option.some.inj hp; exact ⟨rfl, ok2.size⟩
 cases hp
theorem pl157 (w : World) : (((Tryz.prog.fieldsOf 157).toList).mapM fun f => (do pure (f.offset, ← sizeOf f.type) : Sem (Nat × Nat))).run Tryz.prog w = .ok [(0, 1), (1, 1)] w := by
 simp only [Program.fieldsOf, Tryz.underlying157]
 refine run_places _ _ rfl ?_
 intro j fd p hf hp
 rcases j with _ | j; · obtain rfl := Option.some.inj hf; obtain rfl := Option.some.inj hp; exact ⟨rfl, ok105.size⟩
 rcases j with _ | j; · obtain rfl := Option.some.inj hf; obtain rfl := Option.some.inj hp; exact ⟨rfl, ok2.size⟩
 cases hp
theorem pl169 (w : World) : (((Tryz.prog.fieldsOf 169).toList).mapM fun f => (do pure (f.offset, ← sizeOf f.type) : Sem (Nat × Nat))).run Tryz.prog w = .ok [(0, 1), (1, 1), (2, 1)] w := by
 simp only [Program.fieldsOf, Tryz.underlying169]
 refine run_places _ _ rfl ?_
 intro j fd p hf hp
 rcases j with _ | j; · obtain rfl := Option.some.inj hf; obtain rfl := Option.some.inj hp; exact ⟨rfl, ok167.size⟩
 rcases j with _ | j; · obtain rfl := Option.some.inj hf; obtain rfl := Option.some.inj hp; exact ⟨rfl, ok2.size⟩
 rcases j with _ | j; · obtain rfl := Option.some.inj hf; obtain rfl := Option.some.inj hp; exact ⟨rfl, ok2.size⟩
 cases hp
theorem pl199 (w : World) : (((Tryz.prog.fieldsOf 199).toList).mapM fun f => (do pure (f.offset, ← sizeOf f.type) : Sem (Nat × Nat))).run Tryz.prog w = .ok [(0, 1), (1, 1)] w := by
 simp only [Program.fieldsOf, Tryz.underlying199]
 refine run_places _ _ rfl ?_
 intro j fd p hf hp
 rcases j with _ | j; · obtain rfl := Option.some.inj hf; obtain rfl := Option.some.inj hp; exact ⟨rfl, ok197.size⟩
 rcases j with _ | j; · obtain rfl := Option.some.inj hf; obtain rfl := Option.some.inj hp; exact ⟨rfl, ok2.size⟩
 cases hp
theorem pl201 (w : World) : (((Tryz.prog.fieldsOf 201).toList).mapM fun f => (do pure (f.offset, ← sizeOf f.type) : Sem (Nat × Nat))).run Tryz.prog w = .ok [] w := by
 simp only [Program.fieldsOf, Tryz.underlying201]
 refine run_places _ _ rfl ?_
 intro j fd p hf hp
 cases hp
theorem q_build23_ {n : Nat} {f : Nat → Value} {w : World} {o : Oper} (ho : o.op = .build 23 #[]) : (execOp (evl n f) o).run Tryz.prog w = .ok (.value (T22.enc ⟨(0 : Int), (0 : Int), (0 : Int), (0 : Int), (0 : Int), false⟩)) w :=
 q_build (ps := []) (pv := []) (cs := S22.cells ⟨(0 : Int), (0 : Int), (0 : Int), (0 : Int), (0 : Int), false⟩) ho Tryz.underlying23 inf23 (by have := pl23; simp only [Program.fieldsOf, Tryz.underlying23] at this; exact this) (by simp only [List.map_cons, List.map_nil]) (by rfl)
theorem q_build23_0_1 {n : Nat} {f : Nat → Value} {w : World} {o : Oper} {x0 : Operand} {x1 : Operand} {v0 : Int} {v1 : Int} (ho : o.op = .build 23 #[(0, x0), (1, x1)]) (h0 : evl n f x0 = .int .i64 (v0)) (h1 : evl n f x1 = .int .i64 (v1)) : (execOp (evl n f) o).run Tryz.prog w = .ok (.value (T22.enc ⟨v0, v1, (0 : Int), (0 : Int), (0 : Int), false⟩)) w :=
 q_build (ps := [(0, x0), (1, x1)]) (pv := [(0, .int .i64 (v0)), (1, .int .i64 (v1))]) (cs := S22.cells ⟨v0, v1, (0 : Int), (0 : Int), (0 : Int), false⟩) ho Tryz.underlying23 inf23 (by have := pl23; simp only [Program.fieldsOf, Tryz.underlying23] at this; exact this) (by simp only [List.map_cons, List.map_nil, h0, h1]) (by rfl)
theorem q_build23_0_1_2_3_4_5 {n : Nat} {f : Nat → Value} {w : World} {o : Oper} {x0 : Operand} {x1 : Operand} {x2 : Operand} {x3 : Operand} {x4 : Operand} {x5 : Operand} {v0 : Int} {v1 : Int} {v2 : Int} {v3 : Int} {v4 : Int} {v5 : Bool} (ho : o.op = .build 23 #[(0, x0), (1, x1), (2, x2), (3, x3), (4, x4), (5, x5)]) (h0 : evl n f x0 = .int .i64 (v0)) (h1 : evl n f x1 = .int .i64 (v1)) (h2 : evl n f x2 = .int .i64 (v2)) (h3 : evl n f x3 = .int .i64 (v3)) (h4 : evl n f x4 = .int .i64 (v4)) (h5 : evl n f x5 = .bool (v5)) : (execOp (evl n f) o).run Tryz.prog w = .ok (.value (T22.enc ⟨v0, v1, v2, v3, v4, v5⟩)) w :=
 q_build (ps := [(0, x0), (1, x1), (2, x2), (3, x3), (4, x4), (5, x5)]) (pv := [(0, .int .i64 (v0)), (1, .int .i64 (v1)), (2, .int .i64 (v2)), (3, .int .i64 (v3)), (4, .int .i64 (v4)), (5, .bool (v5))]) (cs := S22.cells ⟨v0, v1, v2, v3, v4, v5⟩) ho Tryz.underlying23 inf23 (by have := pl23; simp only [Program.fieldsOf, Tryz.underlying23] at this; exact this) (by simp only [List.map_cons, List.map_nil, h0, h1, h2, h3, h4, h5]) (by rfl)
theorem q_build23_0_1_3_4 {n : Nat} {f : Nat → Value} {w : World} {o : Oper} {x0 : Operand} {x1 : Operand} {x3 : Operand} {x4 : Operand} {v0 : Int} {v1 : Int} {v3 : Int} {v4 : Int} (ho : o.op = .build 23 #[(0, x0), (1, x1), (3, x3), (4, x4)]) (h0 : evl n f x0 = .int .i64 (v0)) (h1 : evl n f x1 = .int .i64 (v1)) (h3 : evl n f x3 = .int .i64 (v3)) (h4 : evl n f x4 = .int .i64 (v4)) : (execOp (evl n f) o).run Tryz.prog w = .ok (.value (T22.enc ⟨v0, v1, (0 : Int), v3, v4, false⟩)) w :=
 q_build (ps := [(0, x0), (1, x1), (3, x3), (4, x4)]) (pv := [(0, .int .i64 (v0)), (1, .int .i64 (v1)), (3, .int .i64 (v3)), (4, .int .i64 (v4))]) (cs := S22.cells ⟨v0, v1, (0 : Int), v3, v4, false⟩) ho Tryz.underlying23 inf23 (by have := pl23; simp only [Program.fieldsOf, Tryz.underlying23] at this; exact this) (by simp only [List.map_cons, List.map_nil, h0, h1, h3, h4]) (by rfl)
theorem q_build46_0_1 {n : Nat} {f : Nat → Value} {w : World} {o : Oper} {x0 : Operand} {x1 : Operand} {v0 : (Option Addr)} {v1 : (Option Addr)} (ho : o.op = .build 46 #[(0, x0), (1, x1)]) (h0 : evl n f x0 = .pointer (v0)) (h1 : evl n f x1 = .pointer (v1)) : (execOp (evl n f) o).run Tryz.prog w = .ok (.value (T45.enc ⟨v0, v1⟩)) w :=
 q_build (ps := [(0, x0), (1, x1)]) (pv := [(0, .pointer (v0)), (1, .pointer (v1))]) (cs := S45.cells ⟨v0, v1⟩) ho Tryz.underlying46 inf46 (by have := pl46; simp only [Program.fieldsOf, Tryz.underlying46] at this; exact this) (by simp only [List.map_cons, List.map_nil, h0, h1]) (by rfl)
theorem q_build64_0 {n : Nat} {f : Nat → Value} {w : World} {o : Oper} {x0 : Operand} {v0 : Int} (ho : o.op = .build 64 #[(0, x0)]) (h0 : evl n f x0 = .int .i64 (v0)) : (execOp (evl n f) o).run Tryz.prog w = .ok (.value (T63.enc ⟨v0, (0 : Int), (0 : Int), (0 : Nat), ([] : List UInt8)⟩)) w :=
 q_build (ps := [(0, x0)]) (pv := [(0, .int .i64 (v0))]) (cs := S63.cells ⟨v0, (0 : Int), (0 : Int), (0 : Nat), ([] : List UInt8)⟩) ho Tryz.underlying64 inf64 (by have := pl64; simp only [Program.fieldsOf, Tryz.underlying64] at this; exact this) (by simp only [List.map_cons, List.map_nil, h0]) (by rfl)
theorem q_build64_0_1 {n : Nat} {f : Nat → Value} {w : World} {o : Oper} {x0 : Operand} {x1 : Operand} {v0 : Int} {v1 : Int} (ho : o.op = .build 64 #[(0, x0), (1, x1)]) (h0 : evl n f x0 = .int .i64 (v0)) (h1 : evl n f x1 = .int .u64 (v1)) : (execOp (evl n f) o).run Tryz.prog w = .ok (.value (T63.enc ⟨v0, v1, (0 : Int), (0 : Nat), ([] : List UInt8)⟩)) w :=
 q_build (ps := [(0, x0), (1, x1)]) (pv := [(0, .int .i64 (v0)), (1, .int .u64 (v1))]) (cs := S63.cells ⟨v0, v1, (0 : Int), (0 : Nat), ([] : List UInt8)⟩) ho Tryz.underlying64 inf64 (by have := pl64; simp only [Program.fieldsOf, Tryz.underlying64] at this; exact this) (by simp only [List.map_cons, List.map_nil, h0, h1]) (by rfl)
theorem q_build64_0_2 {n : Nat} {f : Nat → Value} {w : World} {o : Oper} {x0 : Operand} {x2 : Operand} {v0 : Int} {v2 : Int} (ho : o.op = .build 64 #[(0, x0), (2, x2)]) (h0 : evl n f x0 = .int .i64 (v0)) (h2 : evl n f x2 = .int .i64 (v2)) : (execOp (evl n f) o).run Tryz.prog w = .ok (.value (T63.enc ⟨v0, (0 : Int), v2, (0 : Nat), ([] : List UInt8)⟩)) w :=
 q_build (ps := [(0, x0), (2, x2)]) (pv := [(0, .int .i64 (v0)), (2, .int .i64 (v2))]) (cs := S63.cells ⟨v0, (0 : Int), v2, (0 : Nat), ([] : List UInt8)⟩) ho Tryz.underlying64 inf64 (by have := pl64; simp only [Program.fieldsOf, Tryz.underlying64] at this; exact this) (by simp only [List.map_cons, List.map_nil, h0, h2]) (by rfl)
theorem q_build77_0 {n : Nat} {f : Nat → Value} {w : World} {o : Oper} {x0 : Operand} {v0 : Slc} (ho : o.op = .build 77 #[(0, x0)]) (h0 : evl n f x0 = tSlc.enc (v0)) : (execOp (evl n f) o).run Tryz.prog w = .ok (.value (T76.enc ⟨v0, (0 : Int), false, (0 : Int), (⟨none, 0, 0⟩ : Slc)⟩)) w :=
 q_build (ps := [(0, x0)]) (pv := [(0, tSlc.enc (v0))]) (cs := S76.cells ⟨v0, (0 : Int), false, (0 : Int), (⟨none, 0, 0⟩ : Slc)⟩) ho Tryz.underlying77 inf77 (by have := pl77; simp only [Program.fieldsOf, Tryz.underlying77] at this; exact this) (by simp only [List.map_cons, List.map_nil, h0]) (by rfl)
theorem q_build86_0_1 {n : Nat} {f : Nat → Value} {w : World} {o : Oper} {x0 : Operand} {x1 : Operand} {v0 : Int} {v1 : Int} (ho : o.op = .build 86 #[(0, x0), (1, x1)]) (h0 : evl n f x0 = .int .i64 (v0)) (h1 : evl n f x1 = .int .i64 (v1)) : (execOp (evl n f) o).run Tryz.prog w = .ok (.value (T85.enc ⟨v0, v1⟩)) w :=
 q_build (ps := [(0, x0), (1, x1)]) (pv := [(0, .int .i64 (v0)), (1, .int .i64 (v1))]) (cs := S85.cells ⟨v0, v1⟩) ho Tryz.underlying86 inf86 (by have := pl86; simp only [Program.fieldsOf, Tryz.underlying86] at this; exact this) (by simp only [List.map_cons, List.map_nil, h0, h1]) (by rfl)
theorem q_build88_0_1_2 {n : Nat} {f : Nat → Value} {w : World} {o : Oper} {x0 : Operand} {x1 : Operand} {x2 : Operand} {v0 : S85} {v1 : (Option Addr)} {v2 : Int} (ho : o.op = .build 88 #[(0, x0), (1, x1), (2, x2)]) (h0 : evl n f x0 = T85.enc (v0)) (h1 : evl n f x1 = .pointer (v1)) (h2 : evl n f x2 = .int .i64 (v2)) : (execOp (evl n f) o).run Tryz.prog w = .ok (.value (T87.enc ⟨v0, v1, v2, false⟩)) w :=
 q_build (ps := [(0, x0), (1, x1), (2, x2)]) (pv := [(0, T85.enc (v0)), (1, .pointer (v1)), (2, .int .i64 (v2))]) (cs := S87.cells ⟨v0, v1, v2, false⟩) ho Tryz.underlying88 inf88 (by have := pl88; simp only [Program.fieldsOf, Tryz.underlying88] at this; exact this) (by simp only [List.map_cons, List.map_nil, h0, h1, h2]) (by rfl)
theorem q_build96_0 {n : Nat} {f : Nat → Value} {w : World} {o : Oper} {x0 : Operand} {v0 : (Option Addr)} (ho : o.op = .build 96 #[(0, x0)]) (h0 : evl n f x0 = .pointer (v0)) : (execOp (evl n f) o).run Tryz.prog w = .ok (.value (T95.enc ⟨v0⟩)) w :=
 q_build (ps := [(0, x0)]) (pv := [(0, .pointer (v0))]) (cs := S95.cells ⟨v0⟩) ho Tryz.underlying96 inf96 (by have := pl96; simp only [Program.fieldsOf, Tryz.underlying96] at this; exact this) (by simp only [List.map_cons, List.map_nil, h0]) (by rfl)
theorem q_build101_0_1_3_4_5 {n : Nat} {f : Nat → Value} {w : World} {o : Oper} {x0 : Operand} {x1 : Operand} {x3 : Operand} {x4 : Operand} {x5 : Operand} {v0 : S95} {v1 : Nat} {v3 : (Option Nat)} {v4 : (Option Nat)} {v5 : (Option Nat)} (ho : o.op = .build 101 #[(0, x0), (1, x1), (3, x3), (4, x4), (5, x5)]) (h0 : evl n f x0 = T95.enc (v0)) (h1 : evl n f x1 = .float .f64 (v1)) (h3 : evl n f x3 = .map (v3)) (h4 : evl n f x4 = .map (v4)) (h5 : evl n f x5 = .map (v5)) : (execOp (evl n f) o).run Tryz.prog w = .ok (.value (T100.enc ⟨v0, v1, (0 : Int), v3, v4, v5⟩)) w :=
 q_build (ps := [(0, x0), (1, x1), (3, x3), (4, x4), (5, x5)]) (pv := [(0, T95.enc (v0)), (1, .float .f64 (v1)), (3, .map (v3)), (4, .map (v4)), (5, .map (v5))]) (cs := S100.cells ⟨v0, v1, (0 : Int), v3, v4, v5⟩) ho Tryz.underlying101 inf101 (by have := pl101; simp only [Program.fieldsOf, Tryz.underlying101] at this; exact this) (by simp only [List.map_cons, List.map_nil, h0, h1, h3, h4, h5]) (by rfl)
theorem q_build114_0_1_2_3 {n : Nat} {f : Nat → Value} {w : World} {o : Oper} {x0 : Operand} {x1 : Operand} {x2 : Operand} {x3 : Operand} {v0 : Int} {v1 : Int} {v2 : Int} {v3 : Bool} (ho : o.op = .build 114 #[(0, x0), (1, x1), (2, x2), (3, x3)]) (h0 : evl n f x0 = .int .i64 (v0)) (h1 : evl n f x1 = .int .i64 (v1)) (h2 : evl n f x2 = .int .i64 (v2)) (h3 : evl n f x3 = .bool (v3)) : (execOp (evl n f) o).run Tryz.prog w = .ok (.value (T113.enc ⟨v0, v1, v2, v3⟩)) w :=
 q_build (ps := [(0, x0), (1, x1), (2, x2), (3, x3)]) (pv := [(0, .int .i64 (v0)), (1, .int .i64 (v1)), (2, .int .i64 (v2)), (3, .bool (v3))]) (cs := S113.cells ⟨v0, v1, v2, v3⟩) ho Tryz.underlying114 inf114 (by have := pl114; simp only [Program.fieldsOf, Tryz.underlying114] at this; exact this) (by simp only [List.map_cons, List.map_nil, h0, h1, h2, h3]) (by rfl)
theorem q_build118_ {n : Nat} {f : Nat → Value} {w : World} {o : Oper} (ho : o.op = .build 118 #[]) : (execOp (evl n f) o).run Tryz.prog w = .ok (.value (T117.enc ⟨(0 : Int), (0 : Int)⟩)) w :=
 q_build (ps := []) (pv := []) (cs := S117.cells ⟨(0 : Int), (0 : Int)⟩) ho Tryz.underlying118 inf118 (by have := pl118; simp only [Program.fieldsOf, Tryz.underlying118] at this; exact this) (by simp only [List.map_cons, List.map_nil]) (by rfl)
theorem q_build118_0_1 {n : Nat} {f : Nat → Value} {w : World} {o : Oper} {x0 : Operand} {x1 : Operand} {v0 : Int} {v1 : Int} (ho : o.op = .build 118 #[(0, x0), (1, x1)]) (h0 : evl n f x0 = .int .i64 (v0)) (h1 : evl n f x1 = .int .i64 (v1)) : (execOp (evl n f) o).run Tryz.prog w = .ok (.value (T117.enc ⟨v0, v1⟩)) w :=
 q_build (ps := [(0, x0), (1, x1)]) (pv := [(0, .int .i64 (v0)), (1, .int .i64 (v1))]) (cs := S117.cells ⟨v0, v1⟩) ho Tryz.underlying118 inf118 (by have := pl118; simp only [Program.fieldsOf, Tryz.underlying118] at this; exact this) (by simp only [List.map_cons, List.map_nil, h0, h1]) (by rfl)
theorem q_build123_0_1 {n : Nat} {f : Nat → Value} {w : World} {o : Oper} {x0 : Operand} {x1 : Operand} {v0 : Int} {v1 : Int} (ho : o.op = .build 123 #[(0, x0), (1, x1)]) (h0 : evl n f x0 = .int .i64 (v0)) (h1 : evl n f x1 = .int .i64 (v1)) : (execOp (evl n f) o).run Tryz.prog w = .ok (.value (T122.enc ⟨v0, v1⟩)) w :=
 q_build (ps := [(0, x0), (1, x1)]) (pv := [(0, .int .i64 (v0)), (1, .int .i64 (v1))]) (cs := S122.cells ⟨v0, v1⟩) ho Tryz.underlying123 inf123 (by have := pl123; simp only [Program.fieldsOf, Tryz.underlying123] at this; exact this) (by simp only [List.map_cons, List.map_nil, h0, h1]) (by rfl)
theorem q_build129_0 {n : Nat} {f : Nat → Value} {w : World} {o : Oper} {x0 : Operand} {v0 : Slc} (ho : o.op = .build 129 #[(0, x0)]) (h0 : evl n f x0 = tSlc.enc (v0)) : (execOp (evl n f) o).run Tryz.prog w = .ok (.value (T128.enc ⟨v0, (0 : Int)⟩)) w :=
 q_build (ps := [(0, x0)]) (pv := [(0, tSlc.enc (v0))]) (cs := S128.cells ⟨v0, (0 : Int)⟩) ho Tryz.underlying129 inf129 (by have := pl129; simp only [Program.fieldsOf, Tryz.underlying129] at this; exact this) (by simp only [List.map_cons, List.map_nil, h0]) (by rfl)
theorem q_build131_0 {n : Nat} {f : Nat → Value} {w : World} {o : Oper} {x0 : Operand} {v0 : Int} (ho : o.op = .build 131 #[(0, x0)]) (h0 : evl n f x0 = .int .i64 (v0)) : (execOp (evl n f) o).run Tryz.prog w = .ok (.value (T130.enc ⟨v0⟩)) w :=
 q_build (ps := [(0, x0)]) (pv := [(0, .int .i64 (v0))]) (cs := S130.cells ⟨v0⟩) ho Tryz.underlying131 inf131 (by have := pl131; simp only [Program.fieldsOf, Tryz.underlying131] at this; exact this) (by simp only [List.map_cons, List.map_nil, h0]) (by rfl)
theorem q_build151_0_1_2 {n : Nat} {f : Nat → Value} {w : World} {o : Oper} {x0 : Operand} {x1 : Operand} {x2 : Operand} {v0 : S113} {v1 : Int} {v2 : Int} (ho : o.op = .build 151 #[(0, x0), (1, x1), (2, x2)]) (h0 : evl n f x0 = T113.enc (v0)) (h1 : evl n f x1 = .int .i64 (v1)) (h2 : evl n f x2 = .int .i64 (v2)) : (execOp (evl n f) o).run Tryz.prog w = .ok (.value (T150.enc ⟨v0, v1, v2⟩)) w :=
 q_build (ps := [(0, x0), (1, x1), (2, x2)]) (pv := [(0, T113.enc (v0)), (1, .int .i64 (v1)), (2, .int .i64 (v2))]) (cs := S150.cells ⟨v0, v1, v2⟩) ho Tryz.underlying151 inf151 (by have := pl151; simp only [Program.fieldsOf, Tryz.underlying151] at this; exact this) (by simp only [List.map_cons, List.map_nil, h0, h1, h2]) (by rfl)
theorem q_build157_0 {n : Nat} {f : Nat → Value} {w : World} {o : Oper} {x0 : Operand} {v0 : Int} (ho : o.op = .build 157 #[(0, x0)]) (h0 : evl n f x0 = .int .i64 (v0)) : (execOp (evl n f) o).run Tryz.prog w = .ok (.value (T156.enc ⟨v0, (0 : Int)⟩)) w :=
 q_build (ps := [(0, x0)]) (pv := [(0, .int .i64 (v0))]) (cs := S156.cells ⟨v0, (0 : Int)⟩) ho Tryz.underlying157 inf157 (by have := pl157; simp only [Program.fieldsOf, Tryz.underlying157] at this; exact this) (by simp only [List.map_cons, List.map_nil, h0]) (by rfl)
theorem q_build157_0_1 {n : Nat} {f : Nat → Value} {w : World} {o : Oper} {x0 : Operand} {x1 : Operand} {v0 : Int} {v1 : Int} (ho : o.op = .build 157 #[(0, x0), (1, x1)]) (h0 : evl n f x0 = .int .i64 (v0)) (h1 : evl n f x1 = .int .i64 (v1)) : (execOp (evl n f) o).run Tryz.prog w = .ok (.value (T156.enc ⟨v0, v1⟩)) w :=
 q_build (ps := [(0, x0), (1, x1)]) (pv := [(0, .int .i64 (v0)), (1, .int .i64 (v1))]) (cs := S156.cells ⟨v0, v1⟩) ho Tryz.underlying157 inf157 (by have := pl157; simp only [Program.fieldsOf, Tryz.underlying157] at this; exact this) (by simp only [List.map_cons, List.map_nil, h0, h1]) (by rfl)
theorem q_build169_0 {n : Nat} {f : Nat → Value} {w : World} {o : Oper} {x0 : Operand} {v0 : (Option Nat)} (ho : o.op = .build 169 #[(0, x0)]) (h0 : evl n f x0 = .map (v0)) : (execOp (evl n f) o).run Tryz.prog w = .ok (.value (T168.enc ⟨v0, (0 : Int), (0 : Int)⟩)) w :=
 q_build (ps := [(0, x0)]) (pv := [(0, .map (v0))]) (cs := S168.cells ⟨v0, (0 : Int), (0 : Int)⟩) ho Tryz.underlying169 inf169 (by have := pl169; simp only [Program.fieldsOf, Tryz.underlying169] at this; exact this) (by simp only [List.map_cons, List.map_nil, h0]) (by rfl)
theorem q_build199_ {n : Nat} {f : Nat → Value} {w : World} {o : Oper} (ho : o.op = .build 199 #[]) : (execOp (evl n f) o).run Tryz.prog w = .ok (.value (T198.enc ⟨(⟨none, 0, 0⟩ : Slc), (0 : Int)⟩)) w :=
 q_build (ps := []) (pv := []) (cs := S198.cells ⟨(⟨none, 0, 0⟩ : Slc), (0 : Int)⟩) ho Tryz.underlying199 inf199 (by have := pl199; simp only [Program.fieldsOf, Tryz.underlying199] at this; exact this) (by simp only [List.map_cons, List.map_nil]) (by rfl)
theorem q_build201_ {n : Nat} {f : Nat → Value} {w : World} {o : Oper} (ho : o.op = .build 201 #[]) : (execOp (evl n f) o).run Tryz.prog w = .ok (.value (T201.enc ⟨⟩)) w :=
 q_build (ps := []) (pv := []) (cs := S201.cells ⟨⟩) ho Tryz.underlying201 inf201 (by have := pl201; simp only [Program.fieldsOf, Tryz.underlying201] at this; exact this) (by simp only [List.map_cons, List.map_nil]) (by rfl)
def S22.eqb (x y : S22) : Bool := ((x.Kind == y.Kind) && ((x.T_ == y.T_) && ((x.ID == y.ID) && ((x.Account == y.Account) && ((x.N == y.N) && ((x.Pays == y.Pays) && true))))))
def S113.eqb (x y : S113) : Bool := ((x.ID == y.ID) && ((x.Account == y.Account) && ((x.N == y.N) && ((x.Pays == y.Pays) && true))))
theorem eqIn114 {d : Nat} {w : World} (x y : S113) : (Op.equalIn (d + 2) 114 (.agg (S113.cells x).toArray) (.agg (S113.cells y).toArray)).run Tryz.prog w = .ok (S113.eqb x y) w :=
 eqI_struct Tryz.underlying114 (by kernel_rfl) (eqF_cons (by decide) (run_part1 Tryz.underlying3 rfl rfl) (run_part1 Tryz.underlying3 rfl rfl) (eqI_int Tryz.underlying3) (eqF_cons (by decide) (run_part1 Tryz.underlying3 rfl rfl) (run_part1 Tryz.underlying3 rfl rfl) (eqI_int Tryz.underlying3) (eqF_cons (by decide) (run_part1 Tryz.underlying2 rfl rfl) (run_part1 Tryz.underlying2 rfl rfl) (eqI_int Tryz.underlying2) (eqF_cons (by decide) (run_part1 Tryz.underlying4 rfl rfl) (run_part1 Tryz.underlying4 rfl rfl) (eqI_bool Tryz.underlying4) eqF_nil))))
theorem eq114 (x y : S113) : Tryz.prog.eqGuardType Tryz.prog.depth 114 = false ∧ ∀ w, (Op.equalIn 10000 114 (.agg (S113.cells x).toArray) (.agg (S113.cells y).toArray)).run Tryz.prog w = .ok (S113.eqb x y) w :=
 ⟨by kernel_rfl, fun _ => eqIn114 (d := 9998) x y⟩
theorem ext99 : Ext Tryz.prog 99 Extern.MathFloatBits.float64frombits := ⟨_, Tryz.func99, rfl, rfl, by kernel_rfl, by kernel_rfl⟩
theorem ext102 : Ext Tryz.prog 102 Extern.MathFloatBits.float64bits := ⟨_, Tryz.func102, rfl, rfl, by kernel_rfl, by kernel_rfl⟩
end Go.Proofs.YtehclfjjjiiieaaGreat.Cf
namespace Go.Proofs.YtehclfjjjiiieaaGreat.Cf
open Go
set_option maxRecDepth 100000
set_option maxHeartbeats 1000000
set_option linter.unusedVariables false
set_option linter.unusedSimpArgs false
def F7_j5 (t_53 : Bool) (w54 : World) (R : Bool → World → Prop) : Prop :=
 R t_53 w54
def F7_j4 (r46 : ((Option Addr) × Int)) (t_51 : Bool) (w52 : World) (R : Bool → World → Prop) : Prop :=
 if t_51 = true then (
  cl Tryz.prog 19 [.pointer (r46.1)] tPtr w52 fun r57 w56 =>
  cl Tryz.prog 26 [.pointer (r57), .int .i64 ((2 : Int)), .int .i64 ((7 : Int)), .int .i64 ((1 : Int))] (tInt .i64) w56 fun r59 w58 =>
  F7_j5 (r59 == (154 : Int)) w58 R
 ) else (
  F7_j5 false w52 R
 )
def F7_j3 (r46 : ((Option Addr) × Int)) (t_49 : Bool) (w50 : World) (R : Bool → World → Prop) : Prop :=
 if t_49 = true then (
  cl Tryz.prog 19 [.pointer (r46.1)] tPtr w50 fun r62 w61 =>
  cl Tryz.prog 25 [.pointer (r62)] (tInt .i64) w61 fun r64 w63 =>
  F7_j4 r46 (r64 == (1 : Int)) w63 R
 ) else (
  F7_j4 r46 false w50 R
 )
def F7_j2 (r16 : Int) (r20 : Int) (r24 : Int) (r28 : Int) (r36 : Int) (r39 : Int) (r46 : ((Option Addr) × Int)) (t_47 : Bool) (w48 : World) (R : Bool → World → Prop) : Prop :=
 if t_47 = true then (
  R false w48
 ) else (
  if ((((((r16 == (0 : Int)) && (r20 == (152 : Int))) && (r24 == (0 : Int))) && (r28 == (0 : Int))) && (r36 == (3 : Int))) && (r39 == (2 : Int))) = true then (
   ex (NC r46.1) fun a66 =>
   ex (RdAt tPtr (a66.add 0) w48) fun x67 =>
   cl Tryz.prog 21 [.pointer (x67)] (tInt .i64) w48 fun r69 w68 =>
   F7_j3 r46 (r69 == (2 : Int)) w68 R
  ) else (
   F7_j3 r46 false w48 R
  )
 )
def F7_j1 (r2 : ((Option Addr) × Int)) (r4 : ((Option Addr) × Int)) (t_5 : Bool) (w6 : World) (R : Bool → World → Prop) : Prop :=
 if t_5 = true then (
  R false w6
 ) else (
  nw 23 T22 Z22 w6 fun a7 w8 =>
  st T22 a7 (⟨(1 : Int), (1 : Int), (0 : Int), (7 : Int), (1000 : Int), false⟩ : S22) w8 fun w9 =>
  dr w9 fun w10 =>
  ex (NC r4.1) fun a11 =>
  ex (RdAt T22 a7 w10) fun x12 =>
  ex (RdAt T22 a7 w10) fun x13 =>
  ex (RdAt tPtr (a11.add 0) w10) fun x14 =>
  cl Tryz.prog 14 [.pointer (r4.1), T22.enc (x12)] (tInt .i64) w10 fun r16 w15 =>
  kp ((RdAt T22 a7 w15) x13) <|
  kp ((RdAt tPtr (a11.add 0) w15) x14) <|
  cl Tryz.prog 14 [.pointer (r4.1), T22.enc (x13)] (tInt .i64) w15 fun r20 w19 =>
  kp ((RdAt T22 a7 w19) x12) <|
  kp ((RdAt tPtr (a11.add 0) w19) x14) <|
  cl Tryz.prog 15 [.pointer (x14)] (tInt .i64) w19 fun r24 w23 =>
  kp ((RdAt T22 a7 w23) x12) <|
  kp ((RdAt T22 a7 w23) x13) <|
  cl Tryz.prog 14 [.pointer (r4.1), T22.enc ((⟨(5 : Int), (5 : Int), (0 : Int), (0 : Int), (0 : Int), false⟩ : S22))] (tInt .i64) w23 fun r28 w27 =>
  kp ((RdAt T22 a7 w27) x12) <|
  kp ((RdAt T22 a7 w27) x13) <|
  kp ((RdAt tPtr (a11.add 0) w27) x14) <|
  dr w27 fun w32 =>
  ex (RdAt tPtr (a11.add 0) w32) fun x33 =>
  ex (RdAt tPtr (a11.add 0) w32) fun x34 =>
  cl Tryz.prog 21 [.pointer (x33)] (tInt .i64) w32 fun r36 w35 =>
  kp ((RdAt tPtr (a11.add 0) w35) x34) <|
  cl Tryz.prog 23 [.pointer (x34)] (tInt .i64) w35 fun r39 w38 =>
  kp ((RdAt tPtr (a11.add 0) w38) x33) <|
  cl Tryz.prog 16 [.pointer (r2.1), tSlc.enc ((⟨none, 0, 0⟩ : Slc))] tUnit w38 fun r42 w41 =>
  cl Tryz.prog 17 [.pointer (r2.1)] tUnit w41 fun r44 w43 =>
  cl Tryz.prog 13 [.pointer (r2.1), .int .i64 ((0 : Int)), .float .f64 ((0 : Nat))] (tTup2 tPtr (tInt .i64)) w43 fun r46 w45 =>
  if ((r46.2 != (0 : Int)) || r46.1.isNone) = true then (
   F7_j2 r16 r20 r24 r28 r36 r39 r46 true w45 R
  ) else (
   cl Tryz.prog 19 [.pointer (r46.1)] tPtr w45 fun r73 w72 =>
   F7_j2 r16 r20 r24 r28 r36 r39 r46 r73.isNone w72 R
  )
 )
def F7 (w : World) (R : Bool → World → Prop) : Prop :=
 cl Tryz.prog 12 [.int .i64 ((1 : Int))] (tTup2 tPtr (tInt .i64)) w fun r2 w1 =>
 cl Tryz.prog 13 [.pointer (r2.1), .int .i64 ((0 : Int)), .float .f64 ((0 : Nat))] (tTup2 tPtr (tInt .i64)) w1 fun r4 w3 =>
 if (((r2.2 != (0 : Int)) || (r4.2 != (0 : Int))) || r4.1.isNone) = true then (
  F7_j1 r2 r4 true w3 R
 ) else (
  cl Tryz.prog 19 [.pointer (r4.1)] tPtr w3 fun r77 w76 =>
  F7_j1 r2 r4 r77.isNone w76 R
 )
theorem F7_ok {w : World} {R : Bool → World → Prop} (h : F7 w R) : cl Tryz.prog 7 [] tBool w R := by
 unfold F7 at h
 refine calls_start 125 Tryz.func7 rfl rfl (Nat.le_of_ble_eq_true rfl) <| wp_seq <| wp_text [0] rfl <| za 0 (.bool (false)) rfl rfl <| ro_nil <| wp_seq <| wp_text [0, 1, 2, 3, 4, 5] rfl <| zc ent12 rfl rfl h fun r2 w1 h => zm 14 ((tTup2 tPtr (tInt .i64)).enc (r2)) rfl rfl <| ze 16 (.pointer (r2.1)) rfl rfl rfl <| ze 17 (.int .i64 (r2.2)) rfl rfl rfl <| za 1 (.pointer (r2.1)) rfl rfl ?_
 refine za 2 (.int .i64 (r2.2)) rfl rfl <| ro_nil <| wp_seq <| wp_text [0, 1, 2, 3, 4, 5, 6] rfl <| zm 19 (.pointer (r2.1)) rfl rfl <| zc ent13 rfl rfl h fun r4 w3 h => zm 18 ((tTup2 tPtr (tInt .i64)).enc (r4)) rfl rfl <| ze 21 (.pointer (r4.1)) rfl rfl rfl <| ze 22 (.int .i64 (r4.2)) rfl rfl rfl <| za 3 (.pointer (r4.1)) rfl rfl <| za 4 (.int .i64 (r4.2)) rfl rfl <| ro_nil ?_
 refine wp_seq <| wp_seq <| wp_text [0, 1, 2, 3, 4, 5, 6, 7, 8, 9, 10, 11, 12, 13, 14] rfl <| zm 23 (.int .i64 (r2.2)) rfl rfl <| rv 24 rfl rfl rfl (q_neq (a := r2.2) (b := (0 : Int)) rfl rfl rfl) <| zm 25 (.bool ((r2.2 != (0 : Int)))) rfl rfl <| ro_gval (g := (!(r2.2 != (0 : Int)))) (d := (some 26)) rfl (.no 2 25 true (r2.2 != (0 : Int)) rfl rfl rfl rfl) rfl (fun hg => q_move (v := .int .i64 (r4.2)) rfl rfl) <| ro_gval (g := (!(r2.2 != (0 : Int)))) (d := (some 27)) rfl (.no 2 25 true (r2.2 != (0 : Int)) rfl rfl rfl rfl) rfl (fun hg => q_neq (k := .i64) (a := r4.2) (b := (0 : Int)) rfl (gvb_yes hg) rfl) <| rv 28 rfl rfl rfl (q_pickGF (a := (r2.2 != (0 : Int))) (c := (r4.2 != (0 : Int))) rfl rfl rfl rfl) <| zm 29 (.bool (((r2.2 != (0 : Int)) || (r4.2 != (0 : Int))))) rfl rfl <| ro_gval (g := (!((r2.2 != (0 : Int)) || (r4.2 != (0 : Int))))) (d := (some 30)) rfl (.no 6 29 true ((r2.2 != (0 : Int)) || (r4.2 != (0 : Int))) rfl rfl rfl rfl) rfl (fun hg => q_move (v := .pointer (r4.1)) rfl rfl) <| ro_gval (g := (!((r2.2 != (0 : Int)) || (r4.2 != (0 : Int))))) (d := (some 31)) rfl (.no 6 29 true ((r2.2 != (0 : Int)) || (r4.2 != (0 : Int))) rfl rfl rfl rfl) rfl (fun hg => q_eqP0 (a := r4.1) rfl Tryz.underlying37 (gvb_yes hg) rfl) ?_
 refine rv 32 rfl rfl rfl (q_pickGF (a := ((r2.2 != (0 : Int)) || (r4.2 != (0 : Int)))) (c := r4.1.isNone) rfl rfl rfl rfl) <| zm 33 (.bool ((((r2.2 != (0 : Int)) || (r4.2 != (0 : Int))) || r4.1.isNone))) rfl rfl <| ro_join (σ := Bool) (J := fun (s : Bool) w => F7_j1 r2 r4 s w R) (fr := fun g (s : Bool) => upd (upd (upd (g) 1 (.pointer (r2.1))) 3 (.pointer (r4.1))) 37 (.bool (s))) [11, 12, 13, 14] [] ?_ ?_
 ·rintro t_5 g w6 h
  unfold F7_j1 at h
  refine ro_nil <| zi h rfl (fun _ h => ?_) fun _ h => ?_
  ·refine wp_seq <| wp_text [0] rfl <| za 0 (.bool (false)) rfl rfl <| ro_nil <| wp_ret ?_
   exact zr1 h rfl rfl
  ·refine wp_skip <| wp_seq <| wp_text [0, 1, 2] rfl <| rv 38 rfl rfl rfl (q_build23_0_1_3_4 (v0 := (1 : Int)) (v1 := (1 : Int)) (v3 := (7 : Int)) (v4 := (1000 : Int)) rfl rfl rfl rfl rfl) ?_
   obtain ⟨a7, w8, ha7, hw8, h⟩ := nw_open h
   refine rv 5 rfl rfl rfl (q_alloc (u := Z22) rfl ok23 inf23 ha7 hw8) ?_
   obtain ⟨w9, hw9, hrw9, h⟩ := st_open h
   refine ro_skip (d := none) rfl (.free rfl) rfl (q_store (T := T22) (u := (⟨(1 : Int), (1 : Int), (0 : Int), (7 : Int), (1000 : Int), false⟩ : S22)) (a := a7) rfl ok23 rfl rfl hrw9 hw9) <| ro_nil <| wp_seq ?_
   obtain ⟨w10, hw10, h⟩ := dr_open h
   refine wp_drawn 18 mixed rfl (by kernel_rfl) (by intro c a d v w h; cases d <;> exact h) hw10 (fun hD => ?_)
   refine ym 0 39 (.pointer (r4.1)) hD rfl rfl <| ym 3 42 (.pointer (r4.1)) hD rfl rfl <| ym 6 45 (.pointer (r4.1)) hD rfl rfl ?_
   obtain ⟨a11, ha11, h⟩ := h
   refine yn 7 46 ha11 hD rfl rfl <| yf 8 47 a11 0 Tryz.underlying46 ok43 hD rfl rfl rfl <| ym 11 50 (.pointer (r4.1)) hD rfl rfl <| rp 12 51 hD rfl rfl rfl (fun _ => q_build23_0_1 (v0 := (5 : Int)) (v1 := (5 : Int)) rfl rfl rfl) ?_
   obtain ⟨x12, hx12, h⟩ := h
   refine yr 1 40 hx12 ok23 hD rfl rfl ?_
   obtain ⟨x13, hx13, h⟩ := h
   refine yr 4 43 hx13 ok23 hD rfl rfl ?_
   obtain ⟨x14, hx14, h⟩ := h
   refine yr 9 48 hx14 ok43 hD rfl rfl <| rd_one (i := 2) (by kernel_rfl) <| po_wp rfl (.free rfl) (wp_cl (d := (some 41)) rfl (q_call (k := 14) (l := [.pointer (r4.1), T22.enc (x12)]) rfl ent14 rfl) h ?_)
   intro r16 w15 h
   obtain ⟨hk17, h⟩ := h
   obtain ⟨hk18, h⟩ := h
   refine ⟨(hk_keep (fun _ => hk18) (hk_keep (fun _ => hk17) (hk_wait (by kernel_rfl) hk_nil))), ?_⟩
   refine rd_one (i := 5) (by kernel_rfl) <| po_wp rfl (.free rfl) (wp_cl (d := (some 44)) rfl (q_call (k := 14) (l := [.pointer (r4.1), T22.enc (x13)]) rfl ent14 rfl) h ?_)
   intro r20 w19 h
   obtain ⟨hk21, h⟩ := h
   obtain ⟨hk22, h⟩ := h
   refine ⟨(hk_keep (fun _ => hk22) (hk_wait (by kernel_rfl) (hk_keep (fun _ => hk21) hk_nil))), ?_⟩
   refine rd_one (i := 10) (by kernel_rfl) <| po_wp rfl (.free rfl) (wp_cl (d := (some 49)) rfl (q_call (k := 15) (l := [.pointer (x14)]) rfl ent15 rfl) h ?_)
   intro r24 w23 h
   obtain ⟨hk25, h⟩ := h
   obtain ⟨hk26, h⟩ := h
   refine ⟨(hk_wait (by kernel_rfl) (hk_keep (fun _ => hk26) (hk_keep (fun _ => hk25) hk_nil))), ?_⟩
   refine rd_one (i := 13) (by kernel_rfl) <| po_wp rfl (.free rfl) (wp_cl (d := (some 52)) rfl (q_call (k := 14) (l := [.pointer (r4.1), T22.enc ((⟨(5 : Int), (5 : Int), (0 : Int), (0 : Int), (0 : Int), false⟩ : S22))]) rfl ent14 rfl) h ?_)
   intro r28 w27 h
   obtain ⟨hk29, h⟩ := h
   obtain ⟨hk30, h⟩ := h
   obtain ⟨hk31, h⟩ := h
   refine ⟨(hk_keep (fun _ => hk31) (hk_keep (fun _ => hk30) (hk_keep (fun _ => hk29) hk_nil))), ?_⟩
   refine ya 14 6 (.int .i64 (r16)) hD rfl rfl <| ya 15 7 (.int .i64 (r20)) hD rfl rfl <| ya 16 8 (.int .i64 (r24)) hD rfl rfl <| ya 17 9 (.int .i64 (r28)) hD rfl rfl <| rd_nil (by kernel_rfl) <| wp_seq ?_
   obtain ⟨w32, hw32, h⟩ := dr_open h
   refine wp_drawn 12 mixed rfl (by kernel_rfl) (by intro c a d v w h; cases d <;> exact h) hw32 (fun hD => ?_)
   refine ym 0 53 (.pointer (r4.1)) hD rfl rfl <| yn 1 54 ha11 hD rfl rfl <| yf 2 55 a11 0 Tryz.underlying46 ok43 hD rfl rfl rfl <| ym 5 58 (.pointer (r4.1)) hD rfl rfl <| yn 6 59 ha11 hD rfl rfl <| yf 7 60 a11 0 Tryz.underlying46 ok43 hD rfl rfl rfl ?_
   obtain ⟨x33, hx33, h⟩ := h
   refine yr 3 56 hx33 ok43 hD rfl rfl ?_
   obtain ⟨x34, hx34, h⟩ := h
   refine yr 8 61 hx34 ok43 hD rfl rfl <| rd_one (i := 4) (by kernel_rfl) <| po_wp rfl (.free rfl) (wp_cl (d := (some 57)) rfl (q_call (k := 21) (l := [.pointer (x33)]) rfl ent21 rfl) h ?_)
   intro r36 w35 h
   obtain ⟨hk37, h⟩ := h
   refine ⟨(hk_keep (fun _ => hk37) (hk_wait (by kernel_rfl) hk_nil)), ?_⟩
   refine rd_one (i := 9) (by kernel_rfl) <| po_wp rfl (.free rfl) (wp_cl (d := (some 62)) rfl (q_call (k := 23) (l := [.pointer (x34)]) rfl ent23 rfl) h ?_)
   intro r39 w38 h
   obtain ⟨hk40, h⟩ := h
   refine ⟨(hk_wait (by kernel_rfl) (hk_keep (fun _ => hk40) hk_nil)), ?_⟩
   refine ya 10 10 (.int .i64 (r36)) hD rfl rfl <| ya 11 11 (.int .i64 (r39)) hD rfl rfl <| rd_nil (by kernel_rfl) <| wp_seq <| wp_text [0, 1] rfl <| zm 63 (.pointer (r2.1)) rfl rfl <| zc ent16 rfl rfl h fun r42 w41 h => ro_nil <| wp_seq <| wp_text [0, 1] rfl <| zm 65 (.pointer (r2.1)) rfl rfl <| zc ent17 rfl rfl h fun r44 w43 h => ?_
   refine ro_nil <| wp_seq <| wp_text [0, 1, 2, 3, 4, 5, 6] rfl <| zm 68 (.pointer (r2.1)) rfl rfl <| zc ent13 rfl rfl h fun r46 w45 h => zm 67 ((tTup2 tPtr (tInt .i64)).enc (r46)) rfl rfl <| ze 70 (.pointer (r46.1)) rfl rfl rfl <| ze 71 (.int .i64 (r46.2)) rfl rfl rfl <| za 12 (.pointer (r46.1)) rfl rfl <| za 13 (.int .i64 (r46.2)) rfl rfl <| ro_nil <| wp_seq ?_
   refine wp_seq <| wp_text [0, 1, 2, 3, 4, 5, 6, 7, 8, 9, 10] rfl <| zm 72 (.int .i64 (r46.2)) rfl rfl <| rv 73 rfl rfl rfl (q_neq (a := r46.2) (b := (0 : Int)) rfl rfl rfl) <| zm 74 (.bool ((r46.2 != (0 : Int)))) rfl rfl <| ro_gval (g := (!(r46.2 != (0 : Int)))) (d := (some 75)) rfl (.no 2 74 true (r46.2 != (0 : Int)) rfl rfl rfl rfl) rfl (fun hg => q_move (v := .pointer (r46.1)) rfl rfl) <| ro_gval (g := (!(r46.2 != (0 : Int)))) (d := (some 76)) rfl (.no 2 74 true (r46.2 != (0 : Int)) rfl rfl rfl rfl) rfl (fun hg => q_eqP0 (a := r46.1) rfl Tryz.underlying37 (gvb_yes hg) rfl) <| rv 77 rfl rfl rfl (q_pickGF (a := (r46.2 != (0 : Int))) (c := r46.1.isNone) rfl rfl rfl rfl) <| zm 78 (.bool (((r46.2 != (0 : Int)) || r46.1.isNone))) rfl rfl <| ro_join (σ := Bool) (J := fun (s : Bool) w => F7_j2 r16 r20 r24 r28 r36 r39 r46 s w R) (fr := fun g (s : Bool) => upd (upd (upd (upd (upd (upd (upd (upd (g) 6 (.int .i64 (r16))) 7 (.int .i64 (r20))) 8 (.int .i64 (r24))) 9 (.int .i64 (r28))) 10 (.int .i64 (r36))) 11 (.int .i64 (r39))) 12 (.pointer (r46.1))) 82 (.bool (s))) [7, 8, 9, 10] [] ?_ ?_
   ·rintro t_47 g w48 h
    unfold F7_j2 at h
    refine ro_nil <| zi h rfl (fun _ h => ?_) fun _ h => ?_
    ·refine wp_seq <| wp_text [0] rfl <| za 0 (.bool (false)) rfl rfl <| ro_nil <| wp_ret ?_
     exact zr1 h rfl rfl
    ·refine wp_skip <| wp_seq <| wp_text [0, 1, 2, 3, 4, 5, 6, 7, 8, 9, 10, 11, 12, 13, 14, 15, 16, 17, 18, 19, 20, 21, 22, 23, 24, 25, 26, 27, 28, 29, 30, 31, 32, 33, 34, 35, 36, 37, 38, 39, 40, 41, 42] rfl <| zm 83 (.int .i64 (r16)) rfl rfl <| rv 84 rfl rfl rfl (q_eql (a := r16) (b := (0 : Int)) rfl rfl rfl) <| zm 85 (.bool ((r16 == (0 : Int)))) rfl rfl <| ro_gval (g := (r16 == (0 : Int))) (d := (some 86)) rfl (.yes 2 85 true (r16 == (0 : Int)) rfl rfl rfl rfl) rfl (fun hg => q_move (v := .int .i64 (r20)) rfl rfl) <| ro_gval (g := (r16 == (0 : Int))) (d := (some 87)) rfl (.yes 2 85 true (r16 == (0 : Int)) rfl rfl rfl rfl) rfl (fun hg => q_eql (k := .i64) (a := r20) (b := (152 : Int)) rfl (gvb_yes hg) rfl) <| rv 88 rfl rfl rfl (q_pickGT (a := (r16 == (0 : Int))) (b := (r20 == (152 : Int))) rfl rfl rfl rfl) <| zm 89 (.bool (((r16 == (0 : Int)) && (r20 == (152 : Int))))) rfl rfl <| ro_gval (g := ((r16 == (0 : Int)) && (r20 == (152 : Int)))) (d := (some 90)) rfl (.yes 6 89 true ((r16 == (0 : Int)) && (r20 == (152 : Int))) rfl rfl rfl rfl) rfl (fun hg => q_move (v := .int .i64 (r24)) rfl rfl) <| ro_gval (g := ((r16 == (0 : Int)) && (r20 == (152 : Int)))) (d := (some 91)) rfl (.yes 6 89 true ((r16 == (0 : Int)) && (r20 == (152 : Int))) rfl rfl rfl rfl) rfl (fun hg => q_eql (k := .i64) (a := r24) (b := (0 : Int)) rfl (gvb_yes hg) rfl) ?_
     refine rv 92 rfl rfl rfl (q_pickGT (a := ((r16 == (0 : Int)) && (r20 == (152 : Int)))) (b := (r24 == (0 : Int))) rfl rfl rfl rfl) <| zm 93 (.bool ((((r16 == (0 : Int)) && (r20 == (152 : Int))) && (r24 == (0 : Int))))) rfl rfl <| ro_gval (g := (((r16 == (0 : Int)) && (r20 == (152 : Int))) && (r24 == (0 : Int)))) (d := (some 94)) rfl (.yes 10 93 true (((r16 == (0 : Int)) && (r20 == (152 : Int))) && (r24 == (0 : Int))) rfl rfl rfl rfl) rfl (fun hg => q_move (v := .int .i64 (r28)) rfl rfl) <| ro_gval (g := (((r16 == (0 : Int)) && (r20 == (152 : Int))) && (r24 == (0 : Int)))) (d := (some 95)) rfl (.yes 10 93 true (((r16 == (0 : Int)) && (r20 == (152 : Int))) && (r24 == (0 : Int))) rfl rfl rfl rfl) rfl (fun hg => q_eql (k := .i64) (a := r28) (b := (0 : Int)) rfl (gvb_yes hg) rfl) <| rv 96 rfl rfl rfl (q_pickGT (a := (((r16 == (0 : Int)) && (r20 == (152 : Int))) && (r24 == (0 : Int)))) (b := (r28 == (0 : Int))) rfl rfl rfl rfl) <| zm 97 (.bool (((((r16 == (0 : Int)) && (r20 == (152 : Int))) && (r24 == (0 : Int))) && (r28 == (0 : Int))))) rfl rfl <| ro_gval (g := ((((r16 == (0 : Int)) && (r20 == (152 : Int))) && (r24 == (0 : Int))) && (r28 == (0 : Int)))) (d := (some 98)) rfl (.yes 14 97 true ((((r16 == (0 : Int)) && (r20 == (152 : Int))) && (r24 == (0 : Int))) && (r28 == (0 : Int))) rfl rfl rfl rfl) rfl (fun hg => q_move (v := .int .i64 (r36)) rfl rfl) <| ro_gval (g := ((((r16 == (0 : Int)) && (r20 == (152 : Int))) && (r24 == (0 : Int))) && (r28 == (0 : Int)))) (d := (some 99)) rfl (.yes 14 97 true ((((r16 == (0 : Int)) && (r20 == (152 : Int))) && (r24 == (0 : Int))) && (r28 == (0 : Int))) rfl rfl rfl rfl) rfl (fun hg => q_eql (k := .i64) (a := r36) (b := (3 : Int)) rfl (gvb_yes hg) rfl) <| rv 100 rfl rfl rfl (q_pickGT (a := ((((r16 == (0 : Int)) && (r20 == (152 : Int))) && (r24 == (0 : Int))) && (r28 == (0 : Int)))) (b := (r36 == (3 : Int))) rfl rfl rfl rfl) <| zm 101 (.bool ((((((r16 == (0 : Int)) && (r20 == (152 : Int))) && (r24 == (0 : Int))) && (r28 == (0 : Int))) && (r36 == (3 : Int))))) rfl rfl <| ro_gval (g := (((((r16 == (0 : Int)) && (r20 == (152 : Int))) && (r24 == (0 : Int))) && (r28 == (0 : Int))) && (r36 == (3 : Int)))) (d := (some 102)) rfl (.yes 18 101 true (((((r16 == (0 : Int)) && (r20 == (152 : Int))) && (r24 == (0 : Int))) && (r28 == (0 : Int))) && (r36 == (3 : Int))) rfl rfl rfl rfl) rfl (fun hg => q_move (v := .int .i64 (r39)) rfl rfl) <| ro_gval (g := (((((r16 == (0 : Int)) && (r20 == (152 : Int))) && (r24 == (0 : Int))) && (r28 == (0 : Int))) && (r36 == (3 : Int)))) (d := (some 103)) rfl (.yes 18 101 true (((((r16 == (0 : Int)) && (r20 == (152 : Int))) && (r24 == (0 : Int))) && (r28 == (0 : Int))) && (r36 == (3 : Int))) rfl rfl rfl rfl) rfl (fun hg => q_eql (k := .i64) (a := r39) (b := (2 : Int)) rfl (gvb_yes hg) rfl) ?_
     refine rv 104 rfl rfl rfl (q_pickGT (a := (((((r16 == (0 : Int)) && (r20 == (152 : Int))) && (r24 == (0 : Int))) && (r28 == (0 : Int))) && (r36 == (3 : Int)))) (b := (r39 == (2 : Int))) rfl rfl rfl rfl) <| zm 105 (.bool (((((((r16 == (0 : Int)) && (r20 == (152 : Int))) && (r24 == (0 : Int))) && (r28 == (0 : Int))) && (r36 == (3 : Int))) && (r39 == (2 : Int))))) rfl rfl <| ro_join (σ := Bool) (J := fun (s : Bool) w => F7_j3 r46 s w R) (fr := fun g (s : Bool) => upd (upd (g) 12 (.pointer (r46.1))) 112 (.bool (s))) [23, 24, 25, 26, 27, 28, 29] [30, 31, 32, 33, 34, 35, 36, 37, 38, 39, 40, 41, 42] ?_ ?_
     ·rintro t_49 g w50 h
      unfold F7_j3 at h
      refine zm 113 (.bool (t_49)) rfl rfl <| ro_join (σ := Bool) (J := fun (s : Bool) w => F7_j4 r46 s w R) (fr := fun g (s : Bool) => upd (upd (g) 12 (.pointer (r46.1))) 118 (.bool (s))) [31, 32, 33, 34, 35] [36, 37, 38, 39, 40, 41, 42] ?_ ?_
      ·rintro t_51 g w52 h
       unfold F7_j4 at h
       refine zm 119 (.bool (t_51)) rfl rfl <| ro_join (σ := Bool) (J := fun (s : Bool) w => F7_j5 s w R) (fr := fun g (s : Bool) => upd (g) 124 (.bool (s))) [37, 38, 39, 40, 41] [42] ?_ ?_
       ·rintro t_53 g w54 h
        unfold F7_j5 at h
        refine za 0 (.bool (t_53)) rfl rfl <| ro_nil <| wp_ret ?_
        exact zr1 h rfl rfl
       ·refine ro_if (b := t_51) h (fun hb55 h => ?_) (fun hb55 h => ?_)
        ·refine ro_val (d := (some 120)) rfl (.by_ 36 true 119 t_51 rfl rfl rfl hb55) rfl (q_move (v := .pointer (r46.1)) rfl rfl) <| ro_wp rfl (.by_ 36 true 119 t_51 rfl rfl rfl hb55) (wp_cl (d := (some 121)) rfl (q_call (k := 19) (l := [.pointer (r46.1)]) rfl ent19 rfl) h ?_)
         intro r57 w56 h
         refine ro_wp rfl (.by_ 36 true 119 t_51 rfl rfl rfl hb55) (wp_cl (d := (some 122)) rfl (q_call (k := 26) (l := [.pointer (r57), .int .i64 ((2 : Int)), .int .i64 ((7 : Int)), .int .i64 ((1 : Int))]) rfl ent26 rfl) h ?_)
         intro r59 w58 h
         refine ro_val (d := (some 123)) rfl (.by_ 36 true 119 t_51 rfl rfl rfl hb55) rfl (q_eql (a := r59) (b := (154 : Int)) rfl rfl rfl) <| rv 124 rfl rfl rfl (q_pickT (v := .bool ((r59 == (154 : Int)))) (b := t_51) rfl rfl hb55 rfl) <| ro_nil ?_
         exact ⟨((r59 == (154 : Int))), _, arr (upd_step rfl rfl), h⟩
        ·refine ro_bar (d := (some 120)) rfl (.by_ 36 true 119 t_51 rfl rfl rfl hb55) rfl <| ro_bar (d := (some 121)) rfl (.by_ 36 true 119 t_51 rfl rfl rfl hb55) rfl <| ro_bar (d := (some 122)) rfl (.by_ 36 true 119 t_51 rfl rfl rfl hb55) rfl <| ro_bar (d := (some 123)) rfl (.by_ 36 true 119 t_51 rfl rfl rfl hb55) rfl <| rv 124 rfl rfl rfl (q_pickF (v := .bool (false)) (b := t_51) rfl rfl hb55 rfl) <| ro_nil ?_
         exact ⟨(false), _, arr (upd_step rfl rfl), h⟩
      ·refine ro_if (b := t_49) h (fun hb60 h => ?_) (fun hb60 h => ?_)
       ·refine ro_val (d := (some 114)) rfl (.by_ 30 true 113 t_49 rfl rfl rfl hb60) rfl (q_move (v := .pointer (r46.1)) rfl rfl) <| ro_wp rfl (.by_ 30 true 113 t_49 rfl rfl rfl hb60) (wp_cl (d := (some 115)) rfl (q_call (k := 19) (l := [.pointer (r46.1)]) rfl ent19 rfl) h ?_)
        intro r62 w61 h
        refine ro_wp rfl (.by_ 30 true 113 t_49 rfl rfl rfl hb60) (wp_cl (d := (some 116)) rfl (q_call (k := 25) (l := [.pointer (r62)]) rfl ent25 rfl) h ?_)
        intro r64 w63 h
        refine ro_val (d := (some 117)) rfl (.by_ 30 true 113 t_49 rfl rfl rfl hb60) rfl (q_eql (a := r64) (b := (1 : Int)) rfl rfl rfl) <| rv 118 rfl rfl rfl (q_pickT (v := .bool ((r64 == (1 : Int)))) (b := t_49) rfl rfl hb60 rfl) <| ro_nil ?_
        exact ⟨((r64 == (1 : Int))), _, arr (upd_step (upd_step rfl rfl) rfl), h⟩
       ·refine ro_bar (d := (some 114)) rfl (.by_ 30 true 113 t_49 rfl rfl rfl hb60) rfl <| ro_bar (d := (some 115)) rfl (.by_ 30 true 113 t_49 rfl rfl rfl hb60) rfl <| ro_bar (d := (some 116)) rfl (.by_ 30 true 113 t_49 rfl rfl rfl hb60) rfl <| ro_bar (d := (some 117)) rfl (.by_ 30 true 113 t_49 rfl rfl rfl hb60) rfl <| rv 118 rfl rfl rfl (q_pickF (v := .bool (false)) (b := t_49) rfl rfl hb60 rfl) <| ro_nil ?_
        exact ⟨(false), _, arr (upd_step (upd_step rfl rfl) rfl), h⟩
     ·refine ro_if (b := ((((((r16 == (0 : Int)) && (r20 == (152 : Int))) && (r24 == (0 : Int))) && (r28 == (0 : Int))) && (r36 == (3 : Int))) && (r39 == (2 : Int)))) h (fun hb65 h => ?_) (fun hb65 h => ?_)
      ·refine ro_val (d := (some 106)) rfl (.by_ 22 true 105 ((((((r16 == (0 : Int)) && (r20 == (152 : Int))) && (r24 == (0 : Int))) && (r28 == (0 : Int))) && (r36 == (3 : Int))) && (r39 == (2 : Int))) rfl rfl rfl hb65) rfl (q_move (v := .pointer (r46.1)) rfl rfl) ?_
       obtain ⟨a66, ha66, h⟩ := h
       refine ro_val (d := (some 107)) rfl (.by_ 22 true 105 ((((((r16 == (0 : Int)) && (r20 == (152 : Int))) && (r24 == (0 : Int))) && (r28 == (0 : Int))) && (r36 == (3 : Int))) && (r39 == (2 : Int))) rfl rfl rfl hb65) rfl (q_nilCheck (a := a66) rfl (congrArg Value.pointer ha66)) <| ro_val (d := (some 108)) rfl (.by_ 22 true 105 ((((((r16 == (0 : Int)) && (r20 == (152 : Int))) && (r24 == (0 : Int))) && (r28 == (0 : Int))) && (r36 == (3 : Int))) && (r39 == (2 : Int))) rfl rfl rfl hb65) rfl (q_fieldAddr (a := a66) (off := 0) rfl Tryz.underlying46 rfl rfl ok43 (by decide) rfl) ?_
       obtain ⟨x67, hx67, h⟩ := h
       refine ro_val (d := (some 109)) rfl (.by_ 22 true 105 ((((((r16 == (0 : Int)) && (r20 == (152 : Int))) && (r24 == (0 : Int))) && (r28 == (0 : Int))) && (r36 == (3 : Int))) && (r39 == (2 : Int))) rfl rfl rfl hb65) rfl (q_load (T := tPtr) (u := x67) (a := (a66.add 0)) rfl ok43 rfl hx67) <| ro_wp rfl (.by_ 22 true 105 ((((((r16 == (0 : Int)) && (r20 == (152 : Int))) && (r24 == (0 : Int))) && (r28 == (0 : Int))) && (r36 == (3 : Int))) && (r39 == (2 : Int))) rfl rfl rfl hb65) (wp_cl (d := (some 110)) rfl (q_call (k := 21) (l := [.pointer (x67)]) rfl ent21 rfl) h ?_)
       intro r69 w68 h
       refine ro_val (d := (some 111)) rfl (.by_ 22 true 105 ((((((r16 == (0 : Int)) && (r20 == (152 : Int))) && (r24 == (0 : Int))) && (r28 == (0 : Int))) && (r36 == (3 : Int))) && (r39 == (2 : Int))) rfl rfl rfl hb65) rfl (q_eql (a := r69) (b := (2 : Int)) rfl rfl rfl) <| rv 112 rfl rfl rfl (q_pickT (v := .bool ((r69 == (2 : Int)))) (b := ((((((r16 == (0 : Int)) && (r20 == (152 : Int))) && (r24 == (0 : Int))) && (r28 == (0 : Int))) && (r36 == (3 : Int))) && (r39 == (2 : Int)))) rfl rfl hb65 rfl) <| ro_nil ?_
       exact ⟨((r69 == (2 : Int))), _, arr (upd_step (upd_step rfl rfl) rfl), h⟩
      ·refine ro_bar (d := (some 106)) rfl (.by_ 22 true 105 ((((((r16 == (0 : Int)) && (r20 == (152 : Int))) && (r24 == (0 : Int))) && (r28 == (0 : Int))) && (r36 == (3 : Int))) && (r39 == (2 : Int))) rfl rfl rfl hb65) rfl <| ro_bar (d := (some 107)) rfl (.by_ 22 true 105 ((((((r16 == (0 : Int)) && (r20 == (152 : Int))) && (r24 == (0 : Int))) && (r28 == (0 : Int))) && (r36 == (3 : Int))) && (r39 == (2 : Int))) rfl rfl rfl hb65) rfl <| ro_bar (d := (some 108)) rfl (.by_ 22 true 105 ((((((r16 == (0 : Int)) && (r20 == (152 : Int))) && (r24 == (0 : Int))) && (r28 == (0 : Int))) && (r36 == (3 : Int))) && (r39 == (2 : Int))) rfl rfl rfl hb65) rfl <| ro_bar (d := (some 109)) rfl (.by_ 22 true 105 ((((((r16 == (0 : Int)) && (r20 == (152 : Int))) && (r24 == (0 : Int))) && (r28 == (0 : Int))) && (r36 == (3 : Int))) && (r39 == (2 : Int))) rfl rfl rfl hb65) rfl <| ro_bar (d := (some 110)) rfl (.by_ 22 true 105 ((((((r16 == (0 : Int)) && (r20 == (152 : Int))) && (r24 == (0 : Int))) && (r28 == (0 : Int))) && (r36 == (3 : Int))) && (r39 == (2 : Int))) rfl rfl rfl hb65) rfl <| ro_bar (d := (some 111)) rfl (.by_ 22 true 105 ((((((r16 == (0 : Int)) && (r20 == (152 : Int))) && (r24 == (0 : Int))) && (r28 == (0 : Int))) && (r36 == (3 : Int))) && (r39 == (2 : Int))) rfl rfl rfl hb65) rfl <| rv 112 rfl rfl rfl (q_pickF (v := .bool (false)) (b := ((((((r16 == (0 : Int)) && (r20 == (152 : Int))) && (r24 == (0 : Int))) && (r28 == (0 : Int))) && (r36 == (3 : Int))) && (r39 == (2 : Int)))) rfl rfl hb65 rfl) <| ro_nil ?_
       exact ⟨(false), _, arr (upd_step (upd_step rfl rfl) rfl), h⟩
   ·refine ro_if (b := ((r46.2 != (0 : Int)) || r46.1.isNone)) h (fun hb71 h => ?_) (fun hb71 h => ?_)
    ·refine ro_bar (d := (some 79)) rfl (.by_ 6 false 78 ((r46.2 != (0 : Int)) || r46.1.isNone) rfl rfl rfl hb71) rfl <| ro_bar (d := (some 80)) rfl (.by_ 6 false 78 ((r46.2 != (0 : Int)) || r46.1.isNone) rfl rfl rfl hb71) rfl <| ro_bar (d := (some 81)) rfl (.by_ 6 false 78 ((r46.2 != (0 : Int)) || r46.1.isNone) rfl rfl rfl hb71) rfl <| rv 82 rfl rfl rfl (q_pickT (v := .bool (true)) (b := ((r46.2 != (0 : Int)) || r46.1.isNone)) rfl rfl hb71 rfl) <| ro_nil ?_
     exact ⟨(true), _, arr (upd_step (upd_step (upd_step (upd_step (upd_step (upd_step (upd_step (upd_step rfl rfl) rfl) rfl) rfl) rfl) rfl) rfl) rfl), h⟩
    ·refine ro_val (d := (some 79)) rfl (.by_ 6 false 78 ((r46.2 != (0 : Int)) || r46.1.isNone) rfl rfl rfl hb71) rfl (q_move (v := .pointer (r46.1)) rfl rfl) <| ro_wp rfl (.by_ 6 false 78 ((r46.2 != (0 : Int)) || r46.1.isNone) rfl rfl rfl hb71) (wp_cl (d := (some 80)) rfl (q_call (k := 19) (l := [.pointer (r46.1)]) rfl ent19 rfl) h ?_)
     intro r73 w72 h
     refine ro_val (d := (some 81)) rfl (.by_ 6 false 78 ((r46.2 != (0 : Int)) || r46.1.isNone) rfl rfl rfl hb71) rfl (q_eqP0 (a := r73) rfl Tryz.underlying44 rfl rfl) <| rv 82 rfl rfl rfl (q_pickF (v := .bool (r73.isNone)) (b := ((r46.2 != (0 : Int)) || r46.1.isNone)) rfl rfl hb71 rfl) <| ro_nil ?_
     exact ⟨(r73.isNone), _, arr (upd_step (upd_step (upd_step (upd_step (upd_step (upd_step (upd_step (upd_step rfl rfl) rfl) rfl) rfl) rfl) rfl) rfl) rfl), h⟩
 ·refine ro_if (b := (((r2.2 != (0 : Int)) || (r4.2 != (0 : Int))) || r4.1.isNone)) h (fun hb75 h => ?_) (fun hb75 h => ?_)
  ·refine ro_bar (d := (some 34)) rfl (.by_ 10 false 33 (((r2.2 != (0 : Int)) || (r4.2 != (0 : Int))) || r4.1.isNone) rfl rfl rfl hb75) rfl <| ro_bar (d := (some 35)) rfl (.by_ 10 false 33 (((r2.2 != (0 : Int)) || (r4.2 != (0 : Int))) || r4.1.isNone) rfl rfl rfl hb75) rfl <| ro_bar (d := (some 36)) rfl (.by_ 10 false 33 (((r2.2 != (0 : Int)) || (r4.2 != (0 : Int))) || r4.1.isNone) rfl rfl rfl hb75) rfl <| rv 37 rfl rfl rfl (q_pickT (v := .bool (true)) (b := (((r2.2 != (0 : Int)) || (r4.2 != (0 : Int))) || r4.1.isNone)) rfl rfl hb75 rfl) <| ro_nil ?_
   exact ⟨(true), _, arr (upd_step (upd_step (upd_step rfl rfl) rfl) rfl), h⟩
  ·refine ro_val (d := (some 34)) rfl (.by_ 10 false 33 (((r2.2 != (0 : Int)) || (r4.2 != (0 : Int))) || r4.1.isNone) rfl rfl rfl hb75) rfl (q_move (v := .pointer (r4.1)) rfl rfl) <| ro_wp rfl (.by_ 10 false 33 (((r2.2 != (0 : Int)) || (r4.2 != (0 : Int))) || r4.1.isNone) rfl rfl rfl hb75) (wp_cl (d := (some 35)) rfl (q_call (k := 19) (l := [.pointer (r4.1)]) rfl ent19 rfl) h ?_)
   intro r77 w76 h
   refine ro_val (d := (some 36)) rfl (.by_ 10 false 33 (((r2.2 != (0 : Int)) || (r4.2 != (0 : Int))) || r4.1.isNone) rfl rfl rfl hb75) rfl (q_eqP0 (a := r77) rfl Tryz.underlying44 rfl rfl) <| rv 37 rfl rfl rfl (q_pickF (v := .bool (r77.isNone)) (b := (((r2.2 != (0 : Int)) || (r4.2 != (0 : Int))) || r4.1.isNone)) rfl rfl hb75 rfl) <| ro_nil ?_
   exact ⟨(r77.isNone), _, arr (upd_step (upd_step (upd_step rfl rfl) rfl) rfl), h⟩
def F8_l2 (pays_4 : Int) (a13 : Addr) (l_15 : Slc) (t_16 : Int) (w17 : World) (K18 : Slc × Int → World → Prop) (R : Slc → World → Prop) : Prop :=
 if (decide (t_16 < ((⟨some a13, 4, 4⟩ : Slc).len : Int))) = true then (
  ex (IxA (⟨some a13, 4, 4⟩ : Slc) 1 t_16) fun a19 =>
  ex (RdAt (tInt .i64) a19 w17) fun x20 =>
  apl 64 T63 5 48 l_15 [(⟨(2 : Int), (0 : Int), x20, (0 : Nat), ([] : List UInt8)⟩ : S63)] w17 fun r24 w23 =>
  K18 (r24, (IntKind.i64.wrap (t_16 + (1 : Int)))) w23
 ) else (
  apl 64 T63 5 48 l_15 [(⟨(1 : Int), pays_4, (0 : Int), (0 : Nat), ([] : List UInt8)⟩ : S63)] w17 fun r28 w27 =>
  cl Tryz.prog 27 [tSlc.enc (r28)] (tTup2 tSlc (tInt .i64)) w27 fun r30 w29 =>
  R r30.1 w29
 )
def F8_j1 (a2 : Addr) (pays_4 : Int) (w5 : World) (R : Slc → World → Prop) : Prop :=
 ex (RdAt (tInt .i64) (a2.add 0) w5) fun x6 =>
 nwS 64 T63 [(⟨(1 : Int), (IntKind.u64.wrap x6), (0 : Int), (0 : Nat), ([] : List UInt8)⟩ : S63)] w5 fun a7 w8 =>
 ex (RdAt (tInt .i64) (a2.add 1) w8) fun x9 =>
 ex (RdAt (tInt .i64) (a2.add 2) w8) fun x10 =>
 ex (RdAt (tInt .i64) (a2.add 3) w8) fun x11 =>
 ex (RdAt (tInt .i64) (a2.add 4) w8) fun x12 =>
 nwS 2 (tInt .i64) [x9, x10, x11, x12] w8 fun a13 w14 =>
 lp (fun (s : Slc × Int) w K => F8_l2 pays_4 a13 s.1 s.2 w K R) ((⟨some a7, 1, 1⟩ : Slc), (0 : Int)) w14
def F8 (x_1 : S22) (w : World) (R : Slc → World → Prop) : Prop :=
 nw 23 T22 x_1 w fun a2 w3 =>
 ex (RdAt tBool (a2.add 5) w3) fun x32 =>
 if x32 = true then (
  F8_j1 a2 (1 : Int) w3 R
 ) else (
  F8_j1 a2 (0 : Int) w3 R
 )
theorem F8_ok {x_1 : S22} {w : World} {R : Slc → World → Prop} (h : F8 x_1 w R) : cl Tryz.prog 8 [T22.enc (x_1)] tSlc w R := by
 unfold F8 at h
 refine calls_start 46 Tryz.func8 rfl rfl (Nat.le_of_ble_eq_true rfl) <| wp_seq <| wp_text [0, 1] rfl ?_
 obtain ⟨a2, w3, ha2, hw3, h⟩ := nw_open h
 refine rv 1 rfl rfl rfl (q_box (u := x_1) rfl ok23 rfl ha2 hw3) <| za 2 (tSlc.enc ((⟨none, 0, 0⟩ : Slc))) rfl rfl <| ro_nil <| wp_seq <| wp_text [0] rfl <| za 3 (.int .u64 ((0 : Int))) rfl rfl <| ro_nil <| seq_join (σ := Int) (J := fun (s : Int) w => F8_j1 a2 s w R) (fr := fun g (s : Int) => upd (upd (g) 1 (.pointer (some a2))) 3 (.int .u64 (s))) ?_ ?_
 ·rintro pays_4 g w5 h
  unfold F8_j1 at h
  refine wp_seq <| wp_text [0, 1, 2, 3, 4, 5] rfl <| zf 11 a2 0 Tryz.underlying23 ok3 rfl rfl rfl ?_
  obtain ⟨x6, hx6, h⟩ := h
  refine zl 12 hx6 ok3 rfl rfl <| rv 13 rfl rfl rfl (q_cvtI (a := x6) rfl Tryz.underlying3 Tryz.underlying61 rfl) <| rv 14 rfl rfl rfl (q_build64_0_1 (v0 := (1 : Int)) (v1 := (IntKind.u64.wrap x6)) rfl rfl rfl) ?_
  obtain ⟨a7, w8, ha7, hw8, h⟩ := nwS_open h
  refine rv 15 rfl rfl rfl (q_rowOf (T := T63) (xs := [(⟨(1 : Int), (IntKind.u64.wrap x6), (0 : Int), (0 : Nat), ([] : List UInt8)⟩ : S63)]) rfl Tryz.underlying65 ok64 inf64 rfl (by decide) (by decide) rfl ha7 hw8) <| za 4 (tSlc.enc ((⟨some a7, 1, 1⟩ : Slc))) rfl rfl <| ro_nil <| wp_seq <| wp_seq <| wp_text [0, 1, 2, 3, 4, 5, 6, 7, 8, 9, 10] rfl <| zf 16 a2 1 Tryz.underlying23 ok2 rfl rfl rfl ?_
  obtain ⟨x9, hx9, h⟩ := h
  refine zl 17 hx9 ok2 rfl rfl <| zf 18 a2 2 Tryz.underlying23 ok3 rfl rfl rfl ?_
  obtain ⟨x10, hx10, h⟩ := h
  refine zl 19 hx10 ok3 rfl rfl <| zf 20 a2 3 Tryz.underlying23 ok3 rfl rfl rfl ?_
  obtain ⟨x11, hx11, h⟩ := h
  refine zl 21 hx11 ok3 rfl rfl <| zf 22 a2 4 Tryz.underlying23 ok2 rfl rfl rfl ?_
  obtain ⟨x12, hx12, h⟩ := h
  refine zl 23 hx12 ok2 rfl rfl ?_
  obtain ⟨a13, w14, ha13, hw14, h⟩ := nwS_open h
  refine rv 24 rfl rfl rfl (q_rowOf (T := (tInt .i64)) (xs := [x9, x10, x11, x12]) rfl Tryz.underlying66 ok2 inf2 rfl (by decide) (by decide) rfl ha13 hw14) <| rv 25 rfl rfl rfl (q_len (s := (⟨some a13, 4, 4⟩ : Slc)) rfl Tryz.underlying66 rfl) <| zm 26 (.int .i64 ((0 : Int))) rfl rfl <| ro_nil <| wp_block <| loop_at (σ := Slc × Int) (fr := fun g (s : Slc × Int) => upd (upd (upd (upd (upd (g) 3 (.int .u64 (pays_4))) 24 (tSlc.enc ((⟨some a13, 4, 4⟩ : Slc)))) 25 (.int .i64 (((⟨some a13, 4, 4⟩ : Slc).len : Int)))) 4 (tSlc.enc (s.1))) 26 (.int .i64 (s.2))) (s0 := ((⟨some a7, 1, 1⟩ : Slc), (0 : Int))) (upd_step (upd_step (upd_step (upd_step (upd_step rfl rfl) rfl) rfl) rfl) rfl) h ?_
  rintro ⟨l_15, t_16⟩ g w17 K18 h
  unfold F8_l2 at h
  refine wp_seq <| wp_text [0] rfl <| rv 27 rfl rfl rfl (q_lss (a := t_16) (b := ((⟨some a13, 4, 4⟩ : Slc).len : Int)) rfl rfl rfl) <| ro_nil <| wp_seq <| zi h rfl (fun _ h => ?_) fun _ h => ?_
  ·refine wp_skip <| wp_seq <| wp_block <| wp_seq <| wp_text [0, 1, 2] rfl ?_
   obtain ⟨a19, ha19, h⟩ := h
   refine rv 28 rfl rfl rfl (q_indexAddr (s := (⟨some a13, 4, 4⟩ : Slc)) (k := .i64) (i := t_16) rfl Tryz.underlying66 ok2 rfl rfl ha19) ?_
   obtain ⟨x20, hx20, h⟩ := h
   refine zl 29 hx20 ok2 rfl rfl <| za 6 (.int .i64 (x20)) rfl rfl <| ro_nil <| wp_text [0, 1, 2, 3, 4, 5] rfl <| zm 30 (tSlc.enc (l_15)) rfl rfl <| zm 31 (.int .i64 (x20)) rfl rfl <| rv 32 rfl rfl rfl (q_build64_0_2 (v0 := (2 : Int)) (v2 := x20) rfl rfl rfl) ?_
   obtain ⟨a21, w22, ha21, hw22, h⟩ := apl_open h
   refine rv 33 rfl rfl rfl (q_rowOf (T := T63) (xs := [(⟨(2 : Int), (0 : Int), x20, (0 : Nat), ([] : List UInt8)⟩ : S63)]) rfl Tryz.underlying65 ok64 inf64 rfl (by decide) (by decide) rfl ha21 hw22) <| ro_wp rfl (.free rfl) (wp_append (d := (some 34)) (T := T63) rfl rfl Tryz.underlying65 ⟨_, Tryz.underlying65⟩ ok64 inf64 rfl rfl (Nat.lt_of_lt_of_le Nat.zero_lt_one (Nat.le_of_ble_eq_true rfl)) rfl rfl h ?_)
   intro r24 w23 h
   refine za 4 (tSlc.enc (r24)) rfl rfl <| ro_nil <| wp_text [0, 1] rfl <| rv 35 rfl rfl rfl (q_add (a := t_16) (b := (1 : Int)) rfl rfl rfl) <| zm 26 (.int .i64 ((IntKind.i64.wrap (t_16 + (1 : Int))))) rfl rfl <| ro_nil ?_
   exact ⟨(r24, (IntKind.i64.wrap (t_16 + (1 : Int)))), _, arr (upd_step (upd_step (upd_step (upd_step (upd_step rfl rfl) rfl) rfl) rfl) rfl), h⟩
  ·refine wp_exit <| wp_seq <| wp_text [0, 1, 2, 3, 4, 5, 6, 7, 8, 9, 10] rfl <| zm 37 (tSlc.enc (l_15)) rfl rfl <| zm 38 (.int .u64 (pays_4)) rfl rfl <| rv 39 rfl rfl rfl (q_build64_0_1 (v0 := (1 : Int)) (v1 := pays_4) rfl rfl rfl) ?_
   obtain ⟨a25, w26, ha25, hw26, h⟩ := apl_open h
   refine rv 40 rfl rfl rfl (q_rowOf (T := T63) (xs := [(⟨(1 : Int), pays_4, (0 : Int), (0 : Nat), ([] : List UInt8)⟩ : S63)]) rfl Tryz.underlying65 ok64 inf64 rfl (by decide) (by decide) rfl ha25 hw26) <| ro_wp rfl (.free rfl) (wp_append (d := (some 41)) (T := T63) rfl rfl Tryz.underlying65 ⟨_, Tryz.underlying65⟩ ok64 inf64 rfl rfl (Nat.lt_of_lt_of_le Nat.zero_lt_one (Nat.le_of_ble_eq_true rfl)) rfl rfl h ?_)
   intro r28 w27 h
   refine zc ent27 rfl rfl h fun r30 w29 h => zm 36 ((tTup2 tSlc (tInt .i64)).enc (r30)) rfl rfl <| ze 43 (tSlc.enc (r30.1)) rfl rfl rfl <| ze 44 (.int .i64 (r30.2)) rfl rfl rfl <| za 7 (tSlc.enc (r30.1)) rfl rfl <| za 8 (.int .i64 (r30.2)) rfl rfl <| ro_nil <| wp_seq <| wp_text [0, 1] rfl <| zm 45 (tSlc.enc (r30.1)) rfl rfl <| za 2 (tSlc.enc (r30.1)) rfl rfl <| ro_nil ?_
   refine wp_ret ?_
   exact zr1 h rfl rfl
 ·refine wp_seq <| wp_text [0, 1] rfl <| zf 9 a2 5 Tryz.underlying23 ok4 rfl rfl rfl ?_
  obtain ⟨x32, hx32, h⟩ := h
  refine zl 10 hx32 ok4 rfl rfl <| ro_nil <| zi h rfl (fun _ h => ?_) fun _ h => ?_
  ·refine wp_text [0] rfl <| za 3 (.int .u64 ((1 : Int))) rfl rfl <| ro_nil ?_
   exact ⟨((1 : Int)), _, arr (upd_step (upd_step rfl rfl) rfl), h⟩
  ·refine wp_skip ?_
   exact ⟨((0 : Int)), _, arr (upd_step (upd_step rfl rfl) rfl), h⟩
end Go.Proofs.YtehclfjjjiiieaaGreat.Cf
