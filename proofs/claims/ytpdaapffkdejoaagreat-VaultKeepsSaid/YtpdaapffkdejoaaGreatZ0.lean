/- Own texts of this claim, part 0: short, merged. -/
import Derived.OrdersHeld
import Derived.Calls
import Derived.Laws.World
import Derived.KernelRfl
import Derived.WalkKit
import Derived.WalkLawsBesides
import Derived.Lib.SliceRun
import Derived.Laws.Cover3
import Derived.Laws.Pointers
import Derived.Lib.Strings
import Derived.Laws.Append
import Derived.Maps.OwnOps
import Derived.Laws.StructEq
import Derived.Below
import Derived.ProofKit
import Derived.Deep.Slices
import Derived.Laws.AppendOwn
import Derived.Maps.RangeRun
import Derived.Laws.MakeOwn
import Derived.Laws.Small
import Derived.Laws.Externs
import Derived.Laws.BytesString
import Derived.Laws.IdiomStrings
import Derived.Laws.FloatArith
import Derived.Recover
import Derived.Test.YtpdaapffkdejoaaGreatProg
namespace Go.Proofs.YtpdaapffkdejoaaGreat.Cf
set_option linter.unusedSimpArgs false
set_option linter.unusedVariables false
open Go
def upd (f : Nat → Value) (d : Nat) (v : Value) : Nat → Value := fun t => bif Nat.beq t d then v else f t
def updo (f : Nat → Value) : Option Nat → Value → (Nat → Value)
  | some d, v => upd f d v
  | none, _ => f
def act (n : Nat) (f : Nat → Value) (ds : List Deferred) : Act := { tmps := Array.ofFn (n := n) fun i => f i.1, defers := ds }
def evl (n : Nat) (f : Nat → Value) : Operand → Value
  | .tmp t => bif Nat.blt t n then f t else undef
  | .const v => v
  | .global g => .pointer (some ⟨g, 0, none⟩)
  | .func f => .func (.func f) #[] #[]
theorem upd_eq {f : Nat → Value} {d : Nat} {v : Value} (h : f d = v) : upd f d v = f := by
  funext t
  simp only [upd]
  cases hb : Nat.beq t d with
  | false => rfl
  | true => rw [Nat.eq_of_beq_eq_true hb, h]; rfl
theorem upd_step {g f : Nat → Value} {d : Nat} {v : Value} (h : g = f) (hv : f d = v) : upd g d v = f := by
  subst h; exact upd_eq hv
theorem act_eval (n : Nat) (f : Nat → Value) (ds : List Deferred) : (act n f ds).eval = evl n f := by
  funext x
  cases x with
  | tmp t =>
    simp only [Act.eval, act, evl]
    by_cases h : t < n
    · have hb : Nat.blt t n = true := by simpa using h
      simp [h, hb]
    · have hb : Nat.blt t n = false := by cases hb : Nat.blt t n with | false => rfl | true => exact absurd (by simpa using hb) h
      simp [h, hb]
  | const v => rfl
  | global g => rfl
  | func g => rfl
theorem act_put (n : Nat) (f : Nat → Value) (ds : List Deferred) (d : Option Nat) (v : Value) : (act n f ds).put d v = act n (updo f d v) ds := by
  cases d with
  | none => rfl
  | some d =>
    simp only [Act.put, act, updo]
    congr 1
    apply Array.ext
    · simp
    · intro i h1 h2
      simp only [Array.size_setIfInBounds, Array.size_ofFn] at h1
      simp only [Array.getElem_setIfInBounds, Array.size_ofFn, h1, Array.getElem_ofFn, upd]
      by_cases e : d = i
      · subst e; simp
      · have hb : Nat.beq i d = false := by
          cases hb : Nat.beq i d with
          | false => rfl
          | true => exact absurd (Nat.eq_of_beq_eq_true hb).symm e
        simp [e, hb]
def start (l : List Value) : Nat → Value := fun t => l.getD t undef
theorem start_act (l : List Value) (n : Nat) (h : l.length ≤ n) :
    ({ tmps := l.toArray ++ Array.replicate (n - l.toArray.size) undef, defers := [] } : Act) = act n (start l) [] := by
  simp only [act]
  congr 1
  apply Array.ext
  · simp; omega
  · intro i h1 h2
    simp only [Array.size_ofFn] at h2
    simp only [Array.getElem_ofFn, start, Array.getElem_append, List.size_toArray]
    by_cases hl : i < l.length
    · simp [hl]
    · simp [hl]
theorem calls_start {P : Program} {f : FuncId} {fn : Func} {c : Code} {l : List Value} {w : World} {R : Ending → World → Prop} (n : Nat)
    (hf : P.funcs[f]? = some fn) (hn : fn.ntmps = n) (hb : fn.body = some c) (hl : l.length ≤ n)
    (h : c.wp P (bodyPost P fn R) (act n (start l) []) w) : Calls P f l.toArray w R := by
  subst hn
  exact calls_of_wp hf hb (by rw [start_act l _ hl]; exact h)
def yieldedF (n : Nat) (ops : Array Oper) (f : Nat → Value) (j : Nat) : Option Bool :=
  match (ops[j]?).bind (·.dst) with
  | some d => (match evl n f (.tmp d) with | .bool b => some b | _ => none)
  | none => none
theorem yielded_act (n : Nat) (ops : Array Oper) (f : Nat → Value) (ds : List Deferred) (j : Nat) :
    yielded ops (act n f ds).tmps j = yieldedF n ops f j := by
  unfold yielded yieldedF
  cases h : (ops[j]?).bind (·.dst) with
  | none => rfl
  | some d =>
    simp only [Option.bind_some, act, evl]
    by_cases hd : d < n
    · have hb : Nat.blt d n = true := by simpa using hd
      simp [hd, hb]
      cases f d <;> rfl
    · have hb : Nat.blt d n = false := by cases hb : Nat.blt d n with | false => rfl | true => exact absurd (by simpa using hb) hd
      simp [hd, hb, undef]
inductive Lets (n : Nat) (ops : Array Oper) (f : Nat → Value) (o : Oper) : Prop
  | free (h : o.guard = none)
  | by_ (j : Nat) (b : Bool) (d : Nat) (c : Bool) (hg : o.guard = some (j, b)) (hj : (ops[j]?).bind (·.dst) = some d) (hv : evl n f (.tmp d) = .bool c) (hc : c = b)
theorem Lets.wanted {n : Nat} {ops : Array Oper} {f : Nat → Value} {o : Oper} {ds : List Deferred} (h : Lets n ops f o) :
    Region.wanted o (yielded ops (act n f ds).tmps) = true := by
  cases h with
  | free h => simp [Region.wanted, h]
  | by_ j b d c hg hj hv hc =>
    simp only [Region.wanted, hg, yielded_act, yieldedF, hj, hv, hc]
    simp
inductive Bars (n : Nat) (ops : Array Oper) (f : Nat → Value) (o : Oper) : Prop
  | by_ (j : Nat) (b : Bool) (d : Nat) (c : Bool) (hg : o.guard = some (j, b)) (hj : (ops[j]?).bind (·.dst) = some d) (hv : evl n f (.tmp d) = .bool c) (hc : c = !b)
  | undef (j : Nat) (b : Bool) (d : Nat) (hg : o.guard = some (j, b)) (hj : (ops[j]?).bind (·.dst) = some d) (hv : evl n f (.tmp d) = undef)
theorem Bars.wanted {n : Nat} {ops : Array Oper} {f : Nat → Value} {o : Oper} {ds : List Deferred} (h : Bars n ops f o) :
    Region.wanted o (yielded ops (act n f ds).tmps) = false := by
  cases h with
  | by_ j b d c hg hj hv hc =>
    simp only [Region.wanted, hg, yielded_act, yieldedF, hj, hv, hc]
    cases b <;> simp
  | undef j b d hg hj hv =>
    simp only [Region.wanted, hg, yielded_act, yieldedF, hj, hv, undef]
    rfl
@[irreducible] def Wo (P : Program) (ops : Array Oper) (Q : Exit → Act → World → Prop) (l : List Nat) (a : Act) (w : World) : Prop := wpOps P ops Q l a w
@[irreducible] def Ow (P : Program) (o : Oper) (a : Act) (w : World) (next : Act → World → Prop) (Q : Exit → Act → World → Prop) : Prop := o.wp P a w next Q
theorem Ow_eq {P : Program} {o : Oper} {a : Act} {w : World} {next : Act → World → Prop} {Q : Exit → Act → World → Prop} : Ow P o a w next Q = o.wp P a w next Q := by unfold Ow; rfl
theorem Wo_eq : Wo = wpOps := by funext P ops Q l a w; unfold Wo; rfl
section
variable {P : Program} {Q : Exit → Act → World → Prop} {n : Nat} {f : Nat → Value} {ds : List Deferred} {w w' : World} {ops : Array Oper} {i : Nat} {rest : List Nat} {o : Oper} {d : Option Nat}
theorem ofList (h : ops.toList[i]? = some o) : ops[i]? = some o := by simpa using h
theorem ro_val {v : Value} (hi : ops.toList[i]? = some o) (hg : Lets n ops f o) (hd : o.dst = d) (hv : (execOp (evl n f) o).run P w = .ok (.value v) w')
    (h : Wo P ops Q rest (act n (updo f d v) ds) w') : Wo P ops Q (i :: rest) (act n f ds) w := by
  subst hd
  rw [Wo_eq] at *
  rw [wpOps_cons]
  simp only [wpOp, ofList hi, hg.wanted, if_true]
  left
  simp only [Oper.wp, act_eval, hv, Oper.upon_value, act_put]
  exact h
theorem ro_skip (hi : ops.toList[i]? = some o) (hg : Lets n ops f o) (hd : o.dst = d) (hv : (execOp (evl n f) o).run P w = .ok .skip w')
    (h : Wo P ops Q rest (act n (updo f d undef) ds) w') : Wo P ops Q (i :: rest) (act n f ds) w := by
  subst hd
  rw [Wo_eq] at *
  rw [wpOps_cons]
  simp only [wpOp, ofList hi, hg.wanted, if_true]
  left
  simp only [Oper.wp, act_eval, hv, Oper.upon_skip, act_put]
  exact h
theorem ro_bar (hi : ops.toList[i]? = some o) (hg : Bars n ops f o) (hd : o.dst = d)
    (h : Wo P ops Q rest (act n (updo f d undef) ds) w) : Wo P ops Q (i :: rest) (act n f ds) w := by
  subst hd
  rw [Wo_eq] at *
  rw [wpOps_cons]
  simp only [wpOp, ofList hi, hg.wanted, Bool.false_eq_true, if_false, act_put]
  exact h
theorem ro_wp (hi : ops.toList[i]? = some o) (hg : Lets n ops f o)
    (h : Ow P o (act n f ds) w (Wo P ops Q rest) Q) : Wo P ops Q (i :: rest) (act n f ds) w := by
  rw [Ow_eq] at h
  rw [Wo_eq] at *
  rw [wpOps_cons]
  simp only [wpOp, ofList hi, hg.wanted, if_true]
  exact .inl h
theorem ro_nil (h : Q .normal (act n f ds) w) : Wo P ops Q [] (act n f ds) w := by rw [Wo_eq]; exact h
theorem wp_text {id : Nat} (l : List Nat) (hl : List.range ops.size = l) (h : Wo P ops Q l (act n f ds) w) : (Code.region id ops false).wp P Q (act n f ds) w := by
  subst hl; rw [Wo_eq] at h; exact wp_region h
theorem call_wp {k : FuncId} {args : Array Value} {next : Act → World → Prop}
    (hv : (execOp (evl n f) o).run P w = .ok (.enter k args) w')
    (h : Calls P k args w' fun
      | .returned v, w'' => next (act n (updo f o.dst v) ds) w''
      | .panicked chain, w'' => Q (.panic chain) (act n f ds) w''
      | .outgrown, _ => LetsOut Q) : o.wp P (act n f ds) w next Q := by
  simp only [Oper.wp, act_eval, hv, Oper.upon_enter, act_put]
  exact h
end
section
variable {P : Program} {Q : Exit → Act → World → Prop} {ops : Array Oper}
def waits (ops : Array Oper) (j i : Nat) : Bool :=
  match ops[j]? with
  | some o => o.after.any fun e => Region.binds .any e && e.on == i
  | none => false
def wpAnyG (P : Program) (ops : Array Oper) (Q : Exit → Act → World → Prop) : List (Nat × (World → Prop)) → Nat → Array Bool → Act → World → Prop
  | _, 0, listed, a, w => Region.ready .any ops listed = [] ∧ Q .normal a w
  | G, fuel + 1, listed, a, w =>
    (Region.ready .any ops listed = [] → Q .normal a w) ∧
    ∀ i ∈ Region.ready .any ops listed, wpOp P ops Q i (fun a' w' => (∀ x ∈ G, waits ops i x.1 = false → x.2 w → x.2 w') ∧ wpAnyG P ops Q G fuel (listed.setIfInBounds i true) a' w') a w
@[irreducible] def Wg (P : Program) (ops : Array Oper) (Q : Exit → Act → World → Prop) (G : List (Nat × (World → Prop))) (k : Nat) (l : Array Bool) (a : Act) (w : World) : Prop := wpAnyG P ops Q G k l a w
theorem Wg_eq : Wg = wpAnyG := by funext P ops Q G k l a w; unfold Wg; rfl
@[irreducible] def Po (P : Program) (ops : Array Oper) (Q : Exit → Act → World → Prop) (i : Nat) (K : Act → World → Prop) (a : Act) (w : World) : Prop := wpOp P ops Q i K a w
theorem Po_eq : Po = wpOp := by funext P ops Q i K a w; unfold Po; rfl
theorem wpAny_of_G (G : List (Nat × (World → Prop))) : ∀ (fuel : Nat) (listed : Array Bool) (a : Act) (w : World), wpAnyG P ops Q G fuel listed a w → wpAny P .any ops Q fuel listed a w
  | 0, _, _, _, h => h
  | fuel + 1, _, _, _, h => ⟨h.1, fun i hi => wpOp_mono (fun a' w' h' => wpAny_of_G G fuel _ a' w' h'.2) (h.2 i hi)⟩
theorem wpAnyG_weak {x : Nat × (World → Prop)} {G : List (Nat × (World → Prop))} : ∀ (g : Nat) (l : Array Bool) (a : Act) (w : World), wpAnyG P ops Q (x :: G) g l a w → wpAnyG P ops Q G g l a w
  | 0, _, _, _, h => h
  | g + 1, _, _, _, h => ⟨h.1, fun k hk => wpOp_mono (fun a' w' h' => ⟨fun y hy hw => h'.1 y (List.mem_cons_of_mem _ hy) hw, wpAnyG_weak g _ a' w' h'.2⟩) (h.2 k hk)⟩
theorem wpAnyG_first {i : Nat} {oi : Oper} {v : Value} {S : World → Prop} (hi : ops[i]? = some oi) (hsel : ∀ (j : Nat) (o : Oper) cs b, ops[j]? = some o → o.op ≠ .select cs b)
    (hQ : ∀ c a w, Q (.panic c) (a.put oi.dst v) w → Q (.panic c) a w) (G : List (Nat × (World → Prop))) :
    ∀ (fuel : Nat) (listed : Array Bool) (a : Act) (w : World),
      (∀ j oj, ops[j]? = some oj → j ≠ i → listed.getD j true = false → (∀ e ∈ oj.after, Region.binds .any e = true → e.on ≠ i) → oi.apart ops oj = true) →
      i ∈ Region.ready .any ops listed → YieldsIf P ops S oi v a → S w →
      wpAnyG P ops Q ((i, S) :: G) fuel (listed.setIfInBounds i true) (a.put oi.dst v) w → wpAnyG P ops Q G (fuel + 1) listed a w := by
  intro fuel
  induction fuel with
  | zero =>
    intro listed a w _ hr hy hS H
    refine ⟨fun h => (by rw [h] at hr; cases hr), fun j hj => ?_⟩
    by_cases hji : j = i
    · subst hji
      exact hy.wpOp hi hS ⟨fun x hx _ h => h, H⟩
    · have := ready_mono hj hji
      rw [H.1] at this
      cases this
  | succ fuel ih =>
    intro listed a w hfree hr hy hS H
    refine ⟨fun h => (by rw [h] at hr; cases hr), fun j hj => ?_⟩
    by_cases hji : j = i
    · subst hji
      exact hy.wpOp hi hS ⟨fun x hx _ h => h, wpAnyG_weak _ _ _ _ H⟩
    · have h1 := H.2 j (ready_mono hj hji)
      obtain ⟨hjun, oj, hoj, hall⟩ := mem_ready.1 hj
      have hnot : ∀ e ∈ oj.after, Region.binds .any e = true → e.on ≠ i := fun e he hb heq => by
        have h1 := hall e he hb
        have h0 := (mem_ready.1 hr).1
        rw [heq] at h1
        rcases Nat.lt_or_ge i listed.size with h' | h'
        · simp [h'] at h0 h1; rw [h0] at h1; cases h1
        · simp [Array.getElem?_eq_none h'] at h1
      have hwait : waits ops j i = false := by
        simp only [waits, hoj]
        rw [Array.any_eq_false']
        intro e he
        have := hnot e he
        cases hb : Region.binds .any e <;> simp_all
      have h2 := wpOp_putIf hoj (hfree j oj hoj hji hjun hnot) (fun cs b => hsel i oi cs b hi) (fun cs b => hsel j oj cs b hoj) hQ hy h1
      have hfree' : ∀ k ok, ops[k]? = some ok → k ≠ i → (listed.setIfInBounds j true).getD k true = false →
          (∀ e ∈ ok.after, Region.binds .any e = true → e.on ≠ i) → oi.apart ops ok = true := fun k ok hk hki hun hno => by
        refine hfree k ok hk hki ?_ hno
        by_cases hjk : j = k
        · subst hjk; exact hjun
        · rw [getD_set_ne true hjk] at hun; exact hun
      refine wpOp_mono (fun a' w' h3 => ?_) h2
      obtain ⟨hy', hG', h4⟩ := h3
      have hS' : S w' := hG' (i, S) (List.mem_cons_self ..) hwait hS
      refine ⟨fun x hx hw => hG' x (List.mem_cons_of_mem _ hx) hw, ?_⟩
      refine ih (listed.setIfInBounds j true) a' w' hfree' (ready_mono hr (Ne.symm hji)) hy' hS' ?_
      rw [Array.setIfInBounds_comm _ _ hji]
      exact h4
theorem wpAnyG_idle {x : Nat × (World → Prop)} (hx : ∀ w, x.2 w) {G : List (Nat × (World → Prop))} : ∀ (g : Nat) (l : Array Bool) (a : Act) (w : World), wpAnyG P ops Q G g l a w → wpAnyG P ops Q (x :: G) g l a w
  | 0, _, _, _, h => h
  | g + 1, _, _, _, h => ⟨h.1, fun k hk => wpOp_mono (fun a' w' h' => ⟨fun y hy hw h0 => (List.mem_cons.1 hy).elim (fun e => e ▸ hx w') (fun hy => h'.1 y hy hw h0), wpAnyG_idle hx g _ a' w' h'.2⟩) (h.2 k hk)⟩
structure DrOk (ops : Array Oper) (Q : Exit → Act → World → Prop) : Prop where
  sel : Region.noSelect ops = true
  pan : ∀ c a d v w, (∃ o ∈ ops.toList, o.dst = d) → Q (.panic c) (Act.put a d v) w → Q (.panic c) a w
theorem wp_drawn {id : Nat} {n : Nat} {f : Nat → Value} {ds : List Deferred} {w w1 : World} (m : Nat) (hm : P.follows .mixedOrders = true) (hl : ops.size = m) (hs : Region.noSelect ops = true)
    (hQ : ∀ c a d v w, Q (.panic c) (Act.put a d v) w → Q (.panic c) a w) (hw : w1 = w.drew)
    (h : DrOk ops Q → Wg P ops Q [] m (Array.replicate m false) (act n f ds) w1) : (Code.region id ops true).wp P Q (act n f ds) w := by
  subst hl; subst hw
  rw [Wg_eq] at h
  exact wp_region_any hm (wpAny_of_G [] _ _ _ _ (h ⟨hs, fun c a d v w _ => hQ c a d v w⟩))
section
variable {n k : Nat} {f : Nat → Value} {ds : List Deferred} {w w' : World} {i : Nat} {listed : Array Bool} {G : List (Nat × (World → Prop))} {o : Oper} {d : Option Nat}
theorem take_ahead {v : Value} {S : World → Prop} (hD : DrOk ops Q) (hf : Region.free .any ops listed i = true) (hr : (Region.ready .any ops listed).contains i = true) (hi : ops.toList[i]? = some o)
    (hd : o.dst = d)
    (hy : YieldsIf P ops S o v (act n f ds)) (hS : S w) (h : Wg P ops Q ((i, S) :: G) k (listed.setIfInBounds i true) (act n (updo f d v) ds) w) : Wg P ops Q G (k + 1) listed (act n f ds) w := by
  rw [Wg_eq] at *
  exact wpAnyG_first (ofList hi) (Region.noSelect_spec hD.sel) (fun c a w => hD.pan c a _ _ w ⟨o, List.mem_of_getElem? hi, rfl⟩) G k listed _ w (Region.free_spec (ofList hi) hf) (by simpa using hr) hy hS (by rw [act_put, hd]; exact h)
theorem rd_pure {v : Value} (hD : DrOk ops Q) (hf : Region.free .any ops listed i = true) (hr : (Region.ready .any ops listed).contains i = true) (hi : ops.toList[i]? = some o) (hg : Lets n ops f o) (hd : o.dst = d)
    (hv : ∀ w, (execOp (evl n f) o).run P w = .ok (.value v) w)
    (h : Wg P ops Q G k (listed.setIfInBounds i true) (act n (updo f d v) ds) w) : Wg P ops Q G (k + 1) listed (act n f ds) w :=
  take_ahead (S := fun _ => True) hD hf hr hi hd (.inl ⟨hg.wanted, fun w _ => by rw [act_eval]; exact hv w⟩) trivial (by rw [Wg_eq] at *; exact wpAnyG_idle (fun _ => trivial) _ _ _ _ h)
theorem rd_read {v : Value} (S : World → Prop) (hD : DrOk ops Q) (hf : Region.free .any ops listed i = true) (hr : (Region.ready .any ops listed).contains i = true) (hi : ops.toList[i]? = some o) (hg : Lets n ops f o) (hd : o.dst = d)
    (hv : ∀ w, S w → (execOp (evl n f) o).run P w = .ok (.value v) w) (hS : S w)
    (h : Wg P ops Q ((i, S) :: G) k (listed.setIfInBounds i true) (act n (updo f d v) ds) w) : Wg P ops Q G (k + 1) listed (act n f ds) w :=
  take_ahead hD hf hr hi hd (.inl ⟨hg.wanted, fun w hw => by rw [act_eval]; exact hv w hw⟩) hS h
theorem rd_all {rs : List Nat} {a : Act} (hr : Region.ready .any ops listed = rs) (hne : rs ≠ [])
    (h : ∀ i ∈ rs, Po P ops Q i (fun a' w' => (∀ x ∈ G, waits ops i x.1 = false → x.2 w → x.2 w') ∧ Wg P ops Q G k (listed.setIfInBounds i true) a' w') a w) : Wg P ops Q G (k + 1) listed a w := by
  rw [Wg_eq, Po_eq] at *
  exact ⟨fun h0 => absurd (hr ▸ h0) hne, hr ▸ h⟩
theorem rd_one {a : Act} (hr : Region.ready .any ops listed = [i])
    (h : Po P ops Q i (fun a' w' => (∀ x ∈ G, waits ops i x.1 = false → x.2 w → x.2 w') ∧ Wg P ops Q G k (listed.setIfInBounds i true) a' w') a w) : Wg P ops Q G (k + 1) listed a w :=
  rd_all hr (by simp) fun j hj => by
    obtain rfl : j = i := by simpa using hj
    exact h
theorem rd_two {j : Nat} {a : Act} (hr : Region.ready .any ops listed = [i, j])
    (h : Po P ops Q i (fun a' w' => (∀ x ∈ G, waits ops i x.1 = false → x.2 w → x.2 w') ∧ Wg P ops Q G k (listed.setIfInBounds i true) a' w') a w)
    (h' : Po P ops Q j (fun a' w' => (∀ x ∈ G, waits ops j x.1 = false → x.2 w → x.2 w') ∧ Wg P ops Q G k (listed.setIfInBounds j true) a' w') a w) : Wg P ops Q G (k + 1) listed a w :=
  rd_all hr (by simp) fun l hl => by
    rcases List.mem_cons.1 hl with rfl | hl
    · exact h
    · obtain rfl : l = j := by simpa using hl
      exact h'
section
variable {K : Act → World → Prop}
theorem po_wp (hi : ops.toList[i]? = some o) (hg : Lets n ops f o) (h : Ow P o (act n f ds) w K Q) : Po P ops Q i K (act n f ds) w := by
  rw [Ow_eq] at h
  rw [Po_eq]
  simp only [wpOp, ofList hi, hg.wanted, if_true]
  exact .inl h
theorem po_val {v : Value} (hi : ops.toList[i]? = some o) (hg : Lets n ops f o) (hd : o.dst = d) (hv : (execOp (evl n f) o).run P w = .ok (.value v) w') (h : K (act n (updo f d v) ds) w') : Po P ops Q i K (act n f ds) w := by
  subst hd
  refine po_wp hi hg ?_
  rw [Ow_eq]
  simp only [Oper.wp, act_eval, hv, Oper.upon_value, act_put]
  exact h
theorem po_skip (hi : ops.toList[i]? = some o) (hg : Lets n ops f o) (hd : o.dst = d) (hv : (execOp (evl n f) o).run P w = .ok .skip w') (h : K (act n (updo f d undef) ds) w') : Po P ops Q i K (act n f ds) w := by
  subst hd
  refine po_wp hi hg ?_
  rw [Ow_eq]
  simp only [Oper.wp, act_eval, hv, Oper.upon_skip, act_put]
  exact h
end
theorem rd_nil {m : Nat} {a : Act} (hr : Region.ready .any ops listed = []) (h : Q .normal a w) : Wg P ops Q G m listed a w := by
  rw [Wg_eq]
  cases m with
  | zero => exact ⟨hr, h⟩
  | succ m => exact ⟨fun _ => h, by rw [hr]; simp⟩
theorem hk_nil {j : Nat} : ∀ x ∈ ([] : List (Nat × (World → Prop))), waits ops j x.1 = false → x.2 w → x.2 w' := fun x hx => absurd hx (List.not_mem_nil)
theorem hk_wait {j i : Nat} {S : World → Prop} (h : waits ops j i = true) (t : ∀ x ∈ G, waits ops j x.1 = false → x.2 w → x.2 w') : ∀ x ∈ (i, S) :: G, waits ops j x.1 = false → x.2 w → x.2 w' := by
  intro x hx hf
  rcases List.mem_cons.1 hx with rfl | hx
  · rw [h] at hf; cases hf
  · exact t x hx hf
theorem hk_keep {j i : Nat} {S : World → Prop} (h : S w → S w') (t : ∀ x ∈ G, waits ops j x.1 = false → x.2 w → x.2 w') : ∀ x ∈ (i, S) :: G, waits ops j x.1 = false → x.2 w → x.2 w' := by
  intro x hx hf
  rcases List.mem_cons.1 hx with rfl | hx
  · exact h
  · exact t x hx hf
end
end
end Go.Proofs.YtpdaapffkdejoaaGreat.Cf
namespace Go.Proofs.YtpdaapffkdejoaaGreat.Cf
set_option linter.unusedSimpArgs false
set_option linter.unusedVariables false
open Go
structure Ty (α : Type) where
  enc : α → Value
  cells : α → List Value
structure Slc where
  a : Option Addr
  len : Nat
  cap : Nat
inductive Fv where
  | nil
  | mk (fn : Fn) (first captured : Array Value)
def Fv.enc : Fv → Value
  | .nil => .nilFunc
  | .mk f a c => .func f a c
inductive Iv where
  | nil
  | mk (t : TypeId) (v : Value)
def Iv.enc : Iv → Value
  | .nil => .nilIface
  | .mk t v => .iface t v
theorem Fv.one (x : Fv) : x.enc.oneCell' = true := by cases x <;> rfl
theorem Fv.flat (x : Fv) : x.enc.cells = #[x.enc] := by cases x <;> rfl
theorem Iv.one (x : Iv) : x.enc.oneCell' = true := by cases x <;> rfl
theorem Iv.flat (x : Iv) : x.enc.cells = #[x.enc] := by cases x <;> rfl
@[reducible] def tInt (k : IntKind) : Ty Int := ⟨fun n => .int k n, fun n => [.int k n]⟩
@[reducible] def tBool : Ty Bool := ⟨fun b => .bool b, fun b => [.bool b]⟩
@[reducible] def tFlt : Ty Nat := ⟨fun b => .float .f64 b, fun b => [.float .f64 b]⟩
@[reducible] def tPtr : Ty (Option Addr) := ⟨fun a => .pointer a, fun a => [.pointer a]⟩
@[reducible] def tSlc : Ty Slc := ⟨fun s => .slice s.a s.len s.cap, fun s => [.slice s.a s.len s.cap]⟩
@[reducible] def tMap : Ty (Option Nat) := ⟨fun r => .map r, fun r => [.map r]⟩
@[reducible] def tFun : Ty Fv := ⟨fun x => x.enc, fun x => [x.enc]⟩
@[reducible] def tAgg {α : Type} (c : α → List Value) : Ty α := ⟨fun x => .agg (c x).toArray, c⟩
@[reducible] def tTup2 {α β : Type} (A : Ty α) (B : Ty β) : Ty (α × β) := ⟨fun x => .tuple #[A.enc x.1, B.enc x.2], fun _ => []⟩
@[reducible] def tTup3 {α β γ : Type} (A : Ty α) (B : Ty β) (C : Ty γ) : Ty (α × β × γ) := ⟨fun x => .tuple #[A.enc x.1, B.enc x.2.1, C.enc x.2.2], fun _ => []⟩
@[reducible] def tUnit : Ty Unit := ⟨fun _ => .tuple #[], fun _ => []⟩
def aggD : TypeDesc → Bool
  | .struct _ | .array _ _ => true
  | _ => false
structure TyOk (P : Program) (t : TypeId) {α : Type} (T : Ty α) (n : Nat) : Prop where
  size : ∃ i, P.info? t = some i ∧ i.size = n
  len : ∀ x, (T.cells x).length = n
  shape : (∃ d, P.underlying t = some d ∧ aggD d = true ∧ ∀ x, T.enc x = .agg (T.cells x).toArray) ∨
    (∃ d, P.underlying t = some d ∧ aggD d = false ∧ n = 1 ∧ ∀ x, T.cells x = [T.enc x])
  flat : ∀ x, (T.enc x).cells = (T.cells x).toArray
  one : ∀ x, ∀ v ∈ T.cells x, v.oneCell' = true
def Rd (w : World) (a : Addr) (cs : List Value) : Prop := ∀ j v, cs[j]? = some v → w.cell? (a.add j) = some v
def Wr (w : World) (a : Addr) (n : Nat) : Prop := ∀ j, j < n → (w.cell? (a.add j)).isSome = true ∧ w.frozen? (a.add j) = false
def putc : World → Addr → Nat → List Value → World
  | w, _, _, [] => w
  | w, a, i, v :: l => putc (w.setCell (a.add i) v) a (i + 1) l
theorem run_loadCellsFrom (P : Program) (w : World) (a : Addr) : ∀ (cs : List Value) (i : Nat) (acc : Array Value),
    (∀ j v, cs[j]? = some v → w.cell? (a.add (i + j)) = some v) → (loadCellsFrom a i cs.length acc).run P w = .ok (acc ++ cs.toArray) w
  | [], i, acc, _ => by simp [loadCellsFrom]
  | v :: cs, i, acc, h => by
    have h0 := h 0 v rfl
    simp only [Nat.add_zero] at h0
    simp only [List.length_cons, loadCellsFrom, Sem.run_bind, run_load, h0, Result.andThen_ok]
    rw [run_loadCellsFrom P w a cs (i + 1) (acc.push v)]
    · simp
    · intro j u hu
      have := h (j + 1) u (by simpa using hu)
      rwa [show i + 1 + j = i + (j + 1) from by omega]
theorem run_isAgg {P : Program} {t : TypeId} {d : TypeDesc} (h : P.underlying t = some d) (w : World) :
    (isAgg t).run P w = .ok (aggD d) w := by
  simp only [isAgg, Sem.run_bind, run_underlying h, Result.andThen_ok]
  cases d <;> rfl
theorem run_sizeOf {P : Program} {t : TypeId} {i : TypeInfo} (h : P.info? t = some i) (w : World) : (sizeOf t).run P w = .ok i.size w := by
  simp [sizeOf, typeInfo, h]
theorem run_loadVar {P : Program} {t : TypeId} {α : Type} {T : Ty α} {n : Nat} (ok : TyOk P t T n) {w : World} {a : Addr} {x : α} (h : Rd w a (T.cells x)) :
    (loadVar t a).run P w = .ok (T.enc x) w := by
  obtain ⟨i, hi, hn⟩ := ok.size
  have hl := ok.len x
  rcases ok.shape with ⟨d, hd, hs, he⟩ | ⟨d, hd, hs, h1, he⟩
  · simp only [loadVar, Sem.run_bind, run_isAgg hd, hs, Result.andThen_ok, if_true, run_sizeOf hi, loadCells]
    rw [show i.size = (T.cells x).length from by omega, run_loadCellsFrom P w a (T.cells x) 0 #[] (by intro j v hv; rw [Nat.zero_add]; exact h j v hv)]
    simp [he x]
  · simp only [loadVar, Sem.run_bind, run_isAgg hd, hs, Result.andThen_ok, Bool.false_eq_true, if_false, run_load]
    have := h 0 (T.enc x) (by simp [he x])
    rw [show a.add 0 = a from by simp [Addr.add]] at this
    simp [this]
theorem run_storeCells {P : Program} (a : Addr) : ∀ (cs : List Value) (i : Nat) (w : World),
    (∀ j, j < cs.length → (w.cell? (a.add (i + j))).isSome = true ∧ w.frozen? (a.add (i + j)) = false) → (∀ v ∈ cs, v.oneCell' = true) →
      (storeCells a cs i).run P w = .ok () (putc w a i cs)
  | [], i, w, _, _ => by simp [storeCells, putc]
  | v :: cs, i, w, h, h1 => by
    obtain ⟨h0, hf⟩ := h 0 (by simp)
    rw [Nat.add_zero] at h0 hf
    obtain ⟨u, hu⟩ := Option.isSome_iff_exists.1 h0
    simp only [storeCells, Sem.run_bind, run_store P w (a.add i) v .plain (h1 v (by simp)), hu, hf, Bool.false_eq_true, if_false, Result.andThen_ok, putc]
    refine run_storeCells a cs (i + 1) _ ?_ (fun v hv => h1 v (by simp [hv]))
    intro j hj
    obtain ⟨g0, gf⟩ := h (j + 1) (by simpa using hj)
    rw [show i + (j + 1) = i + 1 + j from by omega] at g0 gf
    refine ⟨?_, by simpa using gf⟩
    by_cases e : a.add i = a.add (i + 1 + j)
    · rw [← e]; simp [World.cell?_setCell_same _ _ v hu]
    · rw [World.cell?_setCell_other _ _ _ v e]; exact g0
theorem run_storeVar {P : Program} {t : TypeId} {α : Type} {T : Ty α} {n : Nat} (ok : TyOk P t T n) {w : World} {a : Addr} {x : α} (h : Wr w a n) :
    (storeVar t a (T.enc x)).run P w = .ok () (putc w a 0 (T.cells x)) := by
  obtain ⟨i, hi, hn⟩ := ok.size
  have hl := ok.len x
  simp only [storeVar, Sem.run_bind, run_sizeOf hi, Result.andThen_ok, ok.flat x]
  rw [if_neg (by simp [hl, hn])]
  refine run_storeCells a _ 0 w ?_ (ok.one x)
  intro j hj
  rw [Nat.zero_add]
  exact h j (by simpa [hl] using hj)
theorem run_newVar {P : Program} {t : TypeId} {α : Type} {T : Ty α} {n : Nat} (ok : TyOk P t T n) {w : World} (x : α) :
    (newVar t (T.enc x)).run P w = .ok ⟨w.heap.size, 0, none⟩ (w.alloc (.cells (T.cells x).toArray t)) := by
  simp only [newVar, newRow, Sem.run_bind, run_newObj, Result.andThen_ok, Sem.run_pure, ok.flat x, World.alloc_eq]
def ex {α : Type} (C : α → Prop) (k : α → Prop) : Prop := ∃ x, C x ∧ k x
def kp (A B : Prop) : Prop := A ∧ B
def RdAt {α : Type} (T : Ty α) (a : Addr) (w : World) (x : α) : Prop := Rd w a (T.cells x)
def NC (p : Option Addr) (a : Addr) : Prop := p = some a
def st {α : Type} (T : Ty α) (a : Addr) (x : α) (w : World) (k : World → Prop) : Prop := Wr w a (T.cells x).length ∧ k (putc w a 0 (T.cells x))
def nw {α : Type} (t : TypeId) (T : Ty α) (x : α) (w : World) (k : Addr → World → Prop) : Prop := k ⟨w.heap.size, 0, none⟩ (w.alloc (.cells (T.cells x).toArray t))
def nwS {α : Type} (t : TypeId) (T : Ty α) (xs : List α) (w : World) (k : Addr → World → Prop) : Prop := k ⟨w.heap.size, 0, none⟩ (w.alloc (.cells (xs.flatMap T.cells).toArray t))
def IxA (s : Slc) (sz : Nat) (i : Int) (a : Addr) : Prop := ∃ b, s.a = some b ∧ 0 ≤ i ∧ i < s.len ∧ a = b.add (i.toNat * sz)
def Sub (s : Slc) (sz : Nat) (l h m : Int) (r : Slc) : Prop :=
  0 ≤ l ∧ l ≤ h ∧ h ≤ m ∧ m ≤ s.cap ∧ r = ⟨if m.toNat = l.toNat then s.a else s.a.map (·.add (l.toNat * sz)), h.toNat - l.toNat, m.toNat - l.toNat⟩
def Ret {α : Type} (T : Ty α) (R : α → World → Prop) : Ending → World → Prop
  | .returned v, w => ∃ x, v = T.enc x ∧ R x w
  | _, _ => False
def cl {α : Type} (P : Program) (f : FuncId) (args : List Value) (T : Ty α) (w : World) (k : α → World → Prop) : Prop := Calls P f args.toArray w (Ret T k)
def lp {σ : Type} (body : σ → World → (σ → World → Prop) → Prop) (s : σ) (w : World) : Prop :=
  ∃ (I : σ → World → Prop) (μ : σ → World → Nat), I s w ∧ ∀ s w, I s w → body s w fun s' w' => I s' w' ∧ μ s' w' < μ s w
theorem info_four {P : Program} {t : TypeId} {z : Value} {n b : Nat} (h : (P.info? t).map (fun i => (i.zero, i.size, i.bytes)) = some (some z, n, b)) :
    ∃ i, P.info? t = some i ∧ i.zero = some z ∧ i.size = n ∧ i.bytes = b := by
  cases hi : P.info? t with
  | none => rw [hi] at h; cases h
  | some i =>
    rw [hi] at h
    simp only [Option.map_some, Option.some.injEq, Prod.mk.injEq] at h
    exact ⟨i, rfl, h.1, h.2.1, h.2.2⟩
end Go.Proofs.YtpdaapffkdejoaaGreat.Cf
namespace Go.Proofs.YtpdaapffkdejoaaGreat.Cf
set_option linter.unusedSimpArgs false
set_option linter.unusedVariables false
open Go
section
variable {P : Program} {n : Nat} {f : Nat → Value} {w : World} {o : Oper} {x y z : Operand}
theorem q_move {v : Value} (ho : o.op = .move x) (hx : evl n f x = v) : (execOp (evl n f) o).run P w = .ok (.value v) w := by
  simp [execOp, ho, hx]
theorem q_assign {v : Value} (ho : o.op = .assign x) (hx : evl n f x = v) : (execOp (evl n f) o).run P w = .ok (.value v) w := by
  simp [execOp, ho, hx]
theorem q_pickT {v : Value} {b : Bool} (ho : o.op = .pick x y z) (hx : evl n f x = .bool b) (hb : b = true) (hy : evl n f y = v) : (execOp (evl n f) o).run P w = .ok (.value v) w := by
  subst hb; simp [execOp, ho, hx, hy, asBool]
theorem q_pickF {v : Value} {b : Bool} (ho : o.op = .pick x y z) (hx : evl n f x = .bool b) (hb : b = false) (hz : evl n f z = v) : (execOp (evl n f) o).run P w = .ok (.value v) w := by
  subst hb; simp [execOp, ho, hx, hz, asBool]
theorem q_alloc {α : Type} {T : Ty α} {m : Nat} {t : TypeId} {u : α} {a : Addr} {w' : World} (ho : o.op = .alloc t) (ok : TyOk P t T m) {by_ : Nat} (hinf : ∃ i, P.info? t = some i ∧ i.zero = some (T.enc u) ∧ i.size = m ∧ i.bytes = by_)
    (ha : a = ⟨w.heap.size, 0, none⟩) (hw : w' = w.alloc (.cells (T.cells u).toArray t)) : (execOp (evl n f) o).run P w = .ok (.value (.pointer (some a))) w' := by
  obtain ⟨i, hi, hz, _⟩ := hinf
  subst ha; subst hw; simp [execOp, ho, Instr.alloc, zeroValue, typeInfo, hi, hz, run_newVar ok]
theorem q_box {α : Type} {T : Ty α} {m : Nat} {t : TypeId} {u : α} {a : Addr} {w' : World} (ho : o.op = .box t x) (ok : TyOk P t T m) (hx : evl n f x = T.enc u)
    (ha : a = ⟨w.heap.size, 0, none⟩) (hw : w' = w.alloc (.cells (T.cells u).toArray t)) : (execOp (evl n f) o).run P w = .ok (.value (.pointer (some a))) w' := by
  subst ha; subst hw; simp [execOp, ho, hx, Instr.box, run_newVar ok]
theorem q_load {α : Type} {T : Ty α} {m : Nat} {t : TypeId} {u : α} {a : Addr} (ho : o.op = .load t x) (ok : TyOk P t T m) (hx : evl n f x = .pointer (some a)) (hr : Rd w a (T.cells u)) :
    (execOp (evl n f) o).run P w = .ok (.value (T.enc u)) w := by
  simp [execOp, ho, hx, Instr.loadAt, Instr.sureAddr, run_loadVar ok hr]
theorem q_store {α : Type} {T : Ty α} {m : Nat} {t : TypeId} {u : α} {a : Addr} {w' : World} (ho : o.op = .store t x y) (ok : TyOk P t T m) (hx : evl n f x = .pointer (some a)) (hy : evl n f y = T.enc u)
    (hr : Wr w a (T.cells u).length) (hw : w' = putc w a 0 (T.cells u)) : (execOp (evl n f) o).run P w = .ok .skip w' := by
  subst hw; simp [execOp, ho, hx, hy, Instr.storeAt, Instr.sureAddr, run_storeVar ok (by rw [ok.len] at hr; exact hr)]
theorem q_nilCheck {a : Addr} (ho : o.op = .nilCheck x) (hx : evl n f x = .pointer (some a)) : (execOp (evl n f) o).run P w = .ok (.value (.pointer (some a))) w := by
  simp [execOp, ho, hx]
theorem q_add {k : IntKind} {a b : Int} {t u : TypeId} (ho : o.op = .binOp .add t x y u) (hx : evl n f x = .int k a) (hy : evl n f y = .int k b) :
    (execOp (evl n f) o).run P w = .ok (.value (.int k (k.wrap (a + b)))) w := by simp [execOp, ho, hx, hy, eqGuard_add, binOp_add, Op.intArith]
theorem q_sub {k : IntKind} {a b : Int} {t u : TypeId} (ho : o.op = .binOp .sub t x y u) (hx : evl n f x = .int k a) (hy : evl n f y = .int k b) :
    (execOp (evl n f) o).run P w = .ok (.value (.int k (k.wrap (a - b)))) w := by simp [execOp, ho, hx, hy, eqGuard_sub, binOp_sub, Op.intArith]
theorem q_mul {k : IntKind} {a b : Int} {t u : TypeId} (ho : o.op = .binOp .mul t x y u) (hx : evl n f x = .int k a) (hy : evl n f y = .int k b) :
    (execOp (evl n f) o).run P w = .ok (.value (.int k (k.wrap (a * b)))) w := by simp [execOp, ho, hx, hy, eqGuard_mul, binOp_mul, Op.intArith]
theorem q_and {k : IntKind} {a b : Int} {t u : TypeId} (ho : o.op = .binOp .and t x y u) (hx : evl n f x = .int k a) (hy : evl n f y = .int k b) :
    (execOp (evl n f) o).run P w = .ok (.value (.int k (bits .and k a b))) w := by simp [execOp, ho, hx, hy, eqGuard_and, binOp_and, intBits_and]
theorem q_or {k : IntKind} {a b : Int} {t u : TypeId} (ho : o.op = .binOp .or t x y u) (hx : evl n f x = .int k a) (hy : evl n f y = .int k b) :
    (execOp (evl n f) o).run P w = .ok (.value (.int k (bits .or k a b))) w := by simp [execOp, ho, hx, hy, eqGuard_or, binOp_or, intBits_or]
theorem q_andNot {k : IntKind} {a b : Int} {t u : TypeId} (ho : o.op = .binOp .andNot t x y u) (hx : evl n f x = .int k a) (hy : evl n f y = .int k b) :
    (execOp (evl n f) o).run P w = .ok (.value (.int k (bits .andNot k a b))) w := by simp [execOp, ho, hx, hy, eqGuard_andNot, binOp_andNot, intBits_andNot]
def Shift (b r0 r : Int) : Prop := 0 ≤ b ∧ r = r0
theorem q_shl {k yk : IntKind} {a b r : Int} {t u : TypeId} (ho : o.op = .binOp .shl t x y u) (hx : evl n f x = .int k a) (hy : evl n f y = .int yk b) (h : Shift b (k.wrap (a * 2 ^ (min b.toNat k.bits))) r) :
    (execOp (evl n f) o).run P w = .ok (.value (.int k r)) w := by
  obtain ⟨h, rfl⟩ := h
  simp [execOp, ho, hx, hy, eqGuard_shl, binOp_shl, Op.shift, Int.not_lt.2 h]
theorem q_shr {k yk : IntKind} {a b r : Int} {t u : TypeId} (ho : o.op = .binOp .shr t x y u) (hx : evl n f x = .int k a) (hy : evl n f y = .int yk b) (h : Shift b (a.fdiv (2 ^ (min b.toNat k.bits))) r) :
    (execOp (evl n f) o).run P w = .ok (.value (.int k r)) w := by
  obtain ⟨h, rfl⟩ := h
  simp [execOp, ho, hx, hy, eqGuard_shr, binOp_shr, Op.shift, Int.not_lt.2 h]
theorem q_eql {k : IntKind} {a b : Int} {t u : TypeId} (ho : o.op = .binOp .eql t x y u) (hx : evl n f x = .int k a) (hy : evl n f y = .int k b) :
    (execOp (evl n f) o).run P w = .ok (.value (.bool (a == b))) w := by simp [execOp, ho, hx, hy, eqGuard_at_int, binOp_eql]
theorem q_neq {k : IntKind} {a b : Int} {t u : TypeId} (ho : o.op = .binOp .neq t x y u) (hx : evl n f x = .int k a) (hy : evl n f y = .int k b) :
    (execOp (evl n f) o).run P w = .ok (.value (.bool (a != b))) w := by simp [execOp, ho, hx, hy, eqGuard_at_int, binOp_neq]
theorem q_lss {k : IntKind} {a b : Int} {t u : TypeId} (ho : o.op = .binOp .lss t x y u) (hx : evl n f x = .int k a) (hy : evl n f y = .int k b) :
    (execOp (evl n f) o).run P w = .ok (.value (.bool (decide (a < b)))) w := by simp [execOp, ho, hx, hy, eqGuard_lss, binOp_lss]
theorem q_leq {k : IntKind} {a b : Int} {t u : TypeId} (ho : o.op = .binOp .leq t x y u) (hx : evl n f x = .int k a) (hy : evl n f y = .int k b) :
    (execOp (evl n f) o).run P w = .ok (.value (.bool (decide (a ≤ b)))) w := by simp [execOp, ho, hx, hy, eqGuard_leq, binOp_leq]
theorem q_gtr {k : IntKind} {a b : Int} {t u : TypeId} (ho : o.op = .binOp .gtr t x y u) (hx : evl n f x = .int k a) (hy : evl n f y = .int k b) :
    (execOp (evl n f) o).run P w = .ok (.value (.bool (decide (a > b)))) w := by simp [execOp, ho, hx, hy, eqGuard_gtr, binOp_gtr]
theorem q_geq {k : IntKind} {a b : Int} {t u : TypeId} (ho : o.op = .binOp .geq t x y u) (hx : evl n f x = .int k a) (hy : evl n f y = .int k b) :
    (execOp (evl n f) o).run P w = .ok (.value (.bool (decide (a ≥ b)))) w := by simp [execOp, ho, hx, hy, eqGuard_geq, binOp_geq]
theorem q_neB {a b : Bool} {t u : TypeId} (ho : o.op = .binOp .neq t x y u) (ht : P.underlying t = some .bool) (hx : evl n f x = .bool a) (hy : evl n f y = .bool b) :
    (execOp (evl n f) o).run P w = .ok (.value (.bool (!(a == b)))) w := by simp [execOp, ho, hx, hy, eqGuard_at_bool, run_neq_bool _ _ _ _ ht]
theorem q_eqP0 {a : Option Addr} {t u e : TypeId} (ho : o.op = .binOp .eql t x y u) (ht : P.underlying t = some (.pointer e)) (hx : evl n f x = .pointer a) (hy : evl n f y = .pointer none) :
    (execOp (evl n f) o).run P w = .ok (.value (.bool a.isNone)) w := by
  have hp : P.underlying t = some (.pointer (P.pointee t)) := by simp [Program.pointee, ht]
  simp only [execOp, ho, hx, hy, eqGuard_at_pointer, bind_pure_comp, Sem.run_map, pure_bind, run_eql_pointer_nil w t a hp, Result.andThen_ok]
theorem q_not {b : Bool} {t : TypeId} (ho : o.op = .unOp .not t x) (hx : evl n f x = .bool b) :
    (execOp (evl n f) o).run P w = .ok (.value (.bool (!b))) w := by simp [execOp, ho, hx, Op.unary]
theorem q_neg {k : IntKind} {a : Int} {t : TypeId} (ho : o.op = .unOp .neg t x) (hx : evl n f x = .int k a) :
    (execOp (evl n f) o).run P w = .ok (.value (.int k (k.wrap (0 - a)))) w := by simp [execOp, ho, hx, Op.unary, Op.intArith]
theorem q_cvtI {k j : IntKind} {a : Int} {s t : TypeId} (ho : o.op = .convert s t x) (hs : P.underlying s = some (.int j)) (ht : P.underlying t = some (.int k)) (hx : evl n f x = .int j a) :
    (execOp (evl n f) o).run P w = .ok (.value (.int k (k.wrap a))) w := by
  simp [execOp, ho, hx, convert, run_underlying hs, run_underlying ht, Conv.intToInt]
theorem q_fieldAddr {t : TypeId} {fs : Array Field} {fd : Field} {a : Addr} {k off m : Nat} {α : Type} {T : Ty α} (ho : o.op = .fieldAddr t x k) (ht : P.underlying t = some (.struct fs)) (hf : fs[k]? = some fd)
    (hoff : fd.offset = off) (ok : TyOk P fd.type T m) (hm : m ≠ 0) (hx : evl n f x = .pointer (some a)) :
    (execOp (evl n f) o).run P w = .ok (.value (.pointer (some (a.add off)))) w := by
  obtain ⟨i, hi, hs⟩ := ok.size
  subst hoff
  have hs' : i.size ≠ 0 := by omega
  simp [execOp, ho, hx, Instr.fieldAt, run_underlying ht, hf, Instr.sureAddr, fieldPlace, run_sizeOf hi, hs']
theorem q_indexAddr {t e : TypeId} {a : Addr} {s : Slc} {k : IntKind} {i : Int} {m : Nat} {α : Type} {T : Ty α} (ho : o.op = .indexAddr t x y) (ht : P.underlying t = some (.slice e)) (ok : TyOk P e T m)
    (hx : evl n f x = tSlc.enc s) (hy : evl n f y = .int k i) (ha : IxA s m i a) :
    (execOp (evl n f) o).run P w = .ok (.value (.pointer (some a))) w := by
  obtain ⟨fo, hi, hs⟩ := ok.size
  obtain ⟨b, hb, h0, h1, rfl⟩ := ha
  simp [execOp, ho, hx, hy, Instr.indexAt, asIntOf, run_underlying ht, hb, h0, h1, run_sizeOf hi, hs]
theorem q_len {s : Slc} {t e : TypeId} (ho : o.op = .call { callee := .builtin .len, args := #[x], argTypes := #[t] }) (ht : P.underlying t = some (.slice e)) (hx : evl n f x = tSlc.enc s) :
    (execOp (evl n f) o).run P w = .ok (.value (.int .i64 s.len)) w := by
  simp [execOp, ho, hx, resolve, invoke, builtin, Builtin.len_, run_underlying ht, goInt]
theorem q_extract {vs : Array Value} {v : Value} {i : Nat} (ho : o.op = .extract x i) (hx : evl n f x = .tuple vs) (hv : vs[i]? = some v) : (execOp (evl n f) o).run P w = .ok (.value v) w := by
  simp [execOp, ho, hx, Instr.extract, hv]
theorem q_makeFunc {fn : Fn} {a c : List Operand} {va vc : List Value} (ho : o.op = .makeFunc fn a.toArray c.toArray) (ha : a.map (evl n f) = va) (hc : c.map (evl n f) = vc) :
    (execOp (evl n f) o).run P w = .ok (.value (.func fn va.toArray vc.toArray)) w := by
  subst ha; subst hc; simp [execOp, ho, Instr.makeFunc]
def Enters (P : Program) (k : FuncId) : Prop := ∃ fn, P.funcs[k]? = some fn ∧ fn.body.isSome = true ∧ (fn.name == "runtime.NumGoroutine") = false
theorem q_call {k : FuncId} {as_ : List Operand} {ts : Array TypeId} {l : List Value} (ho : o.op = .call { callee := .value (.func k), args := as_.toArray, argTypes := ts }) (he : Enters P k) (ha : as_.map (evl n f) = l) :
    (execOp (evl n f) o).run P w = .ok (.enter k l.toArray) w := by
  obtain ⟨fn, hf, hb, hn⟩ := he
  have hb' : fn.body ≠ none := by intro h; simp [h] at hb
  subst ha
  simp [execOp, ho, resolve, evl, Deferred.ofValue, invoke, callFunc, hf, hb', beq_eq_false_iff_ne.1 hn]
theorem q_callV {k : FuncId} {as_ : List Operand} {ts : Array TypeId} {l : List Value} {c : List Value} {fv : Fv} (ho : o.op = .call { callee := .value x, args := as_.toArray, argTypes := ts }) (hx : evl n f x = fv.enc) (hfv : fv = .mk (.func k) #[] c.toArray)
    (he : Enters P k) (ha : as_.map (evl n f) = l) : (execOp (evl n f) o).run P w = .ok (.enter k (l ++ c).toArray) w := by
  obtain ⟨fn, hf, hb, hn⟩ := he
  have hb' : fn.body ≠ none := by intro h; simp [h] at hb
  subst hfv; subst ha
  simp [execOp, ho, resolve, hx, Fv.enc, Deferred.ofValue, invoke, callFunc, hf, hb', beq_eq_false_iff_ne.1 hn]
end
theorem nw_open {α : Type} {t : TypeId} {T : Ty α} {x : α} {w : World} {k : Addr → World → Prop} (h : nw t T x w k) : ∃ a w', a = ⟨w.heap.size, 0, none⟩ ∧ w' = w.alloc (.cells (T.cells x).toArray t) ∧ k a w' := ⟨_, _, rfl, rfl, h⟩
theorem st_open {α : Type} {T : Ty α} {a : Addr} {x : α} {w : World} {k : World → Prop} (h : st T a x w k) : ∃ w', w' = putc w a 0 (T.cells x) ∧ Wr w a (T.cells x).length ∧ k w' := ⟨_, rfl, h.1, h.2⟩
end Go.Proofs.YtpdaapffkdejoaaGreat.Cf
namespace Go.Proofs.YtpdaapffkdejoaaGreat.Cf
set_option linter.unusedSimpArgs false
set_option linter.unusedVariables false
open Go
section
variable {P : Program} {Q : Exit → Act → World → Prop} {n : Nat} {f : Nat → Value} {ds : List Deferred} {w w' : World} {ops : Array Oper} {i : Nat} {rest : List Nat} {o : Oper} {x y : Operand}
inductive ResIs (P : Program) (n : Nat) (f : Nat → Value) (w : World) : ResultVar → Value → Prop
  | tmp {t : Nat} {v : Value} (h : evl n f (.tmp t) = v) : ResIs P n f w (.tmp t) v
  | cell {α : Type} {T : Ty α} {m : Nat} {t : Nat} {ty : TypeId} {a : Addr} {u : α} (ok : TyOk P ty T m) (h : evl n f (.tmp t) = .pointer (some a)) (hr : Rd w a (T.cells u)) : ResIs P n f w (.cell t ty) (T.enc u)
inductive AllRes (P : Program) (n : Nat) (f : Nat → Value) (w : World) : List ResultVar → List Value → Prop
  | nil : AllRes P n f w [] []
  | cons {r : ResultVar} {v : Value} {rs : List ResultVar} {vs : List Value} (h : ResIs P n f w r v) (t : AllRes P n f w rs vs) : AllRes P n f w (r :: rs) (v :: vs)
theorem act_getD (t : Nat) : (act n f ds).tmps.getD t undef = evl n f (.tmp t) := by
  have := congrFun (act_eval n f ds) (.tmp t)
  exact this
def resG (tmps : Array Value) : ResultVar → Sem Value
  | .tmp t => pure (tmps.getD t undef)
  | .cell a t => do loadVar t (← asAddr (tmps.getD a undef))
theorem run_resIs {r : ResultVar} {v : Value} (h : ResIs P n f w r v) : (resG (act n f ds).tmps r).run P w = .ok v w := by
  cases h with
  | tmp h => simp only [resG, act_getD, h]; exact Sem.run_pure ..
  | cell ok h hr => simp only [resG, act_getD, h, asAddr, pure_bind, run_loadVar ok hr]
theorem run_mapM_res (g : ResultVar → Sem Value) : ∀ (rs : List ResultVar) (vs : List Value), (∀ (j : Nat) (r : ResultVar) (v : Value), rs[j]? = some r → vs[j]? = some v → (g r).run P w = .ok v w) → rs.length = vs.length →
    (rs.mapM g).run P w = .ok vs w
  | [], [], _, _ => by simp
  | r :: rs, v :: vs, h, hl => by
    have h0 := h 0 r v rfl rfl
    have ht := run_mapM_res g rs vs (fun j r v hr hv => h (j + 1) r v (by simpa using hr) (by simpa using hv)) (by simpa using hl)
    simp only [List.mapM_cons, Sem.run_bind, h0, Result.andThen_ok, ht, Sem.run_pure]
  | [], _ :: _, _, hl => by simp at hl
  | _ :: _, [], _, hl => by simp at hl
theorem AllRes.length {rs : List ResultVar} {vs : List Value} (h : AllRes P n f w rs vs) : rs.length = vs.length := by
  induction h with
  | nil => rfl
  | cons _ _ ih => simp [ih]
theorem AllRes.get {rs : List ResultVar} {vs : List Value} (h : AllRes P n f w rs vs) : ∀ (j : Nat) (r : ResultVar) (v : Value), rs[j]? = some r → vs[j]? = some v → ResIs P n f w r v := by
  induction h with
  | nil => intro j r v hr; simp at hr
  | cons h t ih =>
    intro j r v hr hv
    cases j with
    | zero => simp at hr hv; subst hr; subst hv; exact h
    | succ j => exact ih j r v (by simpa using hr) (by simpa using hv)
def resV : List Value → Value
  | [v] => v
  | vs => .tuple vs.toArray
theorem run_results {fn : Func} {rs : List ResultVar} {vs : List Value} (hr : fn.results = rs.toArray) (h : AllRes P n f w rs vs) :
    (results fn (act n f ds).tmps).run P w = .ok (resV vs) w := by
  have key := run_mapM_res (P := P) (w := w) (resG (act n f ds).tmps) rs vs (fun j r v hr hv => run_resIs (h.get j r v hr hv)) h.length
  have e : results fn (act n f ds).tmps = (do let us ← fn.results.mapM (resG (act n f ds).tmps); pure (if h : us.size = 1 then us[0] else .tuple us)) := rfl
  rw [e, hr, Array.mapM_eq_mapM_toList]
  simp only [bind_map_left, Sem.run_bind, key, Result.andThen_ok, Sem.run_pure]
  congr 1
  cases vs with
  | nil => rfl
  | cons v vs => cases vs with
    | nil => rfl
    | cons u vs => simp [resV]
theorem ret_ok {fn : Func} {rs : List ResultVar} {vs : List Value} {R : Ending → World → Prop} (hr : fn.results = rs.toArray) (h : AllRes P n f w rs vs) (hR : R (.returned (resV vs)) w) :
    bodyPost P fn R .ret (act n f []) w := ⟨rfl, _, run_results hr h, hR⟩
theorem end_ok {fn : Func} {rs : List ResultVar} {vs : List Value} {R : Ending → World → Prop} (hr : fn.results = rs.toArray) (h : AllRes P n f w rs vs) (hR : R (.returned (resV vs)) w) :
    bodyPost P fn R .normal (act n f []) w := ⟨rfl, _, run_results hr h, hR⟩
theorem seq_join {c d : Code} {σ : Type} {J : σ → World → Prop} {fr : (Nat → Value) → σ → (Nat → Value)}
    (hj : ∀ s g w, J s w → d.wp P Q (act n (fr g s) ds) w) (hx : c.wp P (Exit.then (fun a w => ∃ s g, a = act n (fr g s) ds ∧ J s w) Q) (act n f ds) w) : (Code.seq c d).wp P Q (act n f ds) w :=
  wp_seq_k fun K hK => wp_mono hx fun e a w h => by
    cases e <;> first
      | exact h
      | (obtain ⟨s, g, rfl, hJ⟩ := h; exact hK _ _ (hj s g w hJ))
theorem wp_if {c : Operand} {p q : Code} {b : Bool} {X Y : Prop} (hc : evl n f c = .bool b) (h : if b = true then X else Y) (hx : b = true → X → p.wp P Q (act n f ds) w) (hy : b = false → Y → q.wp P Q (act n f ds) w) :
    (Code.cond c p q).wp P Q (act n f ds) w := by
  refine wp_cond_split (t := b) (by rw [act_eval]; exact hc) (fun hb => hx hb (by simpa [hb] using h)) (fun hb => hy hb (by simpa [hb] using h))
theorem wp_no {c : Operand} {p q : Code} (hc : evl n f c = .bool false) (hy : q.wp P Q (act n f ds) w) : (Code.cond c p q).wp P Q (act n f ds) w :=
  wp_if (b := false) (X := False) (Y := True) hc (by simp) (fun h => by cases h) fun _ _ => hy
theorem ro_if {b : Bool} {X Y G : Prop} (h : if b = true then X else Y) (hx : b = true → X → G) (hy : b = false → Y → G) : G := by
  cases b
  · exact hy rfl (by simpa using h)
  · exact hx rfl (by simpa using h)
theorem least {p : Nat → Prop} (h : ∃ n, p n) : ∃ m, p m ∧ ∀ k, p k → m ≤ k := by
  obtain ⟨n, hn⟩ := h
  induction n using Nat.strongRecOn with
  | _ n ih =>
    by_cases hs : ∃ k, k < n ∧ p k
    · obtain ⟨k, hk, hp⟩ := hs; exact ih k hk hp
    · exact ⟨n, hn, fun k hk => Nat.le_of_not_lt fun hl => hs ⟨k, hl, hk⟩⟩
theorem loop_walk {c : Code} {σ : Type} {fr : (Nat → Value) → σ → (Nat → Value)} {body : σ → World → (σ → World → Prop) → Prop} {s0 : σ} {g0 : Nat → Value} (h : lp body s0 w)
    (hb : ∀ (s : σ) (g : Nat → Value) (w : World) (K : σ → World → Prop), body s w K → c.wp P (Exit.then (fun a' w' => ∃ s' g', a' = act n (fr g' s') ds ∧ K s' w') Q) (act n (fr g s) ds) w) :
    (Code.loop c).wp P Q (act n (fr g0 s0) ds) w := by
  obtain ⟨I, μ, h0, hr⟩ := h
  classical
  let J : Nat → Act → World → Prop := fun m a w => ∃ s g, a = act n (fr g s) ds ∧ I s w ∧ μ s w = m
  let ν : Act → World → Nat := fun a w => if h : ∃ m, J m a w then (least h).choose else 0
  refine wp_loop (fun a w => ∃ m, J m a w) ν ⟨_, s0, g0, rfl, h0, rfl⟩ ?_
  intro a w hI
  have hν : ν a w = (least hI).choose := by simp only [ν, dif_pos hI]
  obtain ⟨⟨s, g, rfl, hs, hm⟩, hmin⟩ := (least hI).choose_spec
  have := hb s g w _ (hr s w hs)
  refine wp_mono this fun e a' w' he => ?_
  cases e <;> first
    | exact he
    | (obtain ⟨s', g', rfl, hI', hlt⟩ := he
       have hex : ∃ m, J m (act n (fr g' s') ds) w' := ⟨_, s', g', rfl, hI', rfl⟩
       refine ⟨hex, ?_⟩
       have h1 : ν (act n (fr g' s') ds) w' = (least hex).choose := by simp only [ν, dif_pos hex]
       have h2 : (least hex).choose ≤ μ s' w' := (least hex).choose_spec.2 _ ⟨s', g', rfl, hI', rfl⟩
       rw [hν, h1, ← hm]
       omega)
theorem wp_cl {α : Type} {T : Ty α} {k : FuncId} {args : List Value} {d : Option Nat} {next : Act → World → Prop} {K : α → World → Prop} (hd : o.dst = d)
    (hv : (execOp (evl n f) o).run P w = .ok (.enter k args.toArray) w) (h : cl P k args T w K) (hk : ∀ r w', K r w' → next (act n (updo f d (T.enc r)) ds) w') : Ow P o (act n f ds) w next Q := by
  rw [Ow_eq]
  subst hd
  refine call_wp hv (Calls.mono h fun e w' he => ?_)
  cases e with
  | returned v => obtain ⟨r, rfl, hr⟩ := he; exact hk r w' hr
  | panicked c => exact he.elim
  | outgrown => exact he.elim
theorem cl_mono {α : Type} {T : Ty α} {k : FuncId} {args : List Value} {K K' : α → World → Prop} (h : cl P k args T w K) (hk : ∀ r w', K r w' → K' r w') : cl P k args T w K' :=
  Calls.mono h fun e w' he => by
    cases e with
    | returned v => obtain ⟨r, hr, hK⟩ := he; exact ⟨r, hr, hk r w' hK⟩
    | panicked c => exact he
    | outgrown => exact he
def gvb (g : Bool) (v : Value) : Value := bif g then v else undef
theorem gvb_yes {g : Bool} {v : Value} (h : g = true) : gvb g v = v := by subst h; rfl
inductive Guard (n : Nat) (ops : Array Oper) (f : Nat → Value) (o : Oper) (g : Bool) : Prop
  | yes (j : Nat) (d : Nat) (g0 c : Bool) (hg : o.guard = some (j, true)) (hj : (ops[j]?).bind (·.dst) = some d) (hv : evl n f (.tmp d) = gvb g0 (.bool c)) (he : g = (g0 && c))
  | no (j : Nat) (d : Nat) (g0 c : Bool) (hg : o.guard = some (j, false)) (hj : (ops[j]?).bind (·.dst) = some d) (hv : evl n f (.tmp d) = gvb g0 (.bool c)) (he : g = (g0 && !c))
theorem Guard.wanted {g : Bool} (h : Guard n ops f o g) : Region.wanted o (yielded ops (act n f ds).tmps) = g := by
  cases h with
  | yes j d g0 c hg hj hv he =>
    subst he
    simp only [Region.wanted, hg, yielded_act, yieldedF, hj, hv]
    cases g0 <;> cases c <;> rfl
  | no j d g0 c hg hj hv he =>
    subst he
    simp only [Region.wanted, hg, yielded_act, yieldedF, hj, hv]
    cases g0 <;> cases c <;> rfl
theorem ro_gval {g : Bool} {v : Value} {d : Option Nat} (hi : ops.toList[i]? = some o) (hg : Guard n ops f o g) (hd : o.dst = d) (hv : g = true → (execOp (evl n f) o).run P w = .ok (.value v) w)
    (h : Wo P ops Q rest (act n (updo f d (gvb g v)) ds) w) : Wo P ops Q (i :: rest) (act n f ds) w := by
  subst hd
  rw [Wo_eq] at *
  rw [wpOps_cons]
  simp only [wpOp, ofList hi, hg.wanted]
  cases g with
  | true =>
    left
    simp only [Oper.wp, act_eval, hv rfl, Oper.upon_value, act_put]
    exact h
  | false => simp only [Bool.false_eq_true, if_false, act_put]; exact h
theorem rd_gpure {g : Bool} {v : Value} {k : Nat} {d : Option Nat} {listed : Array Bool} {G : List (Nat × (World → Prop))} (hD : DrOk ops Q) (hf : Region.free .any ops listed i = true) (hr : (Region.ready .any ops listed).contains i = true) (hi : ops.toList[i]? = some o)
    (hg : Guard n ops f o g) (hd : o.dst = d) (hv : g = true → ∀ w, (execOp (evl n f) o).run P w = .ok (.value v) w)
    (h : Wg P ops Q G k (listed.setIfInBounds i true) (act n (updo f d (gvb g v)) ds) w) : Wg P ops Q G (k + 1) listed (act n f ds) w := by
  refine take_ahead (S := fun _ => True) (v := gvb g v) hD hf hr hi hd ?_ trivial (by rw [Wg_eq] at *; exact wpAnyG_idle (fun _ => trivial) _ _ _ _ h)
  cases g with
  | true => exact .inl ⟨hg.wanted, fun w _ => by rw [act_eval]; exact hv rfl w⟩
  | false => exact .inr ⟨hg.wanted, rfl⟩
theorem rd_gread {g : Bool} {v : Value} {k : Nat} {d : Option Nat} {listed : Array Bool} {G : List (Nat × (World → Prop))} (S : World → Prop) (hD : DrOk ops Q) (hf : Region.free .any ops listed i = true) (hr : (Region.ready .any ops listed).contains i = true) (hi : ops.toList[i]? = some o)
    (hg : Guard n ops f o g) (hd : o.dst = d) (hv : g = true → ∀ w, S w → (execOp (evl n f) o).run P w = .ok (.value v) w) (hS : g = true → S w)
    (h : Wg P ops Q ((i, fun w => g = true → S w) :: G) k (listed.setIfInBounds i true) (act n (updo f d (gvb g v)) ds) w) : Wg P ops Q G (k + 1) listed (act n f ds) w := by
  refine take_ahead (S := fun w => g = true → S w) (v := gvb g v) hD hf hr hi hd ?_ hS h
  cases g with
  | true => exact .inl ⟨hg.wanted, fun w hw => by rw [act_eval]; exact hv rfl w (hw rfl)⟩
  | false => exact .inr ⟨hg.wanted, rfl⟩
theorem q_pickGF {z : Operand} {a c : Bool} (ho : o.op = .pick x y z) (hx : evl n f x = .bool a) (hy : evl n f y = .bool true) (hz : evl n f z = gvb (!a) (.bool c)) :
    (execOp (evl n f) o).run P w = .ok (.value (.bool (a || c))) w := by
  cases a <;> simp [execOp, ho, hx, hy, hz, asBool, gvb]
theorem q_pickGT {z : Operand} {a b : Bool} (ho : o.op = .pick x y z) (hx : evl n f x = .bool a) (hy : evl n f y = gvb a (.bool b)) (hz : evl n f z = .bool false) :
    (execOp (evl n f) o).run P w = .ok (.value (.bool (a && b))) w := by
  cases a <;> simp [execOp, ho, hx, hy, hz, asBool, gvb]
theorem q_pickNT {z : Operand} {g0 a b : Bool} (hg : g0 = true) (ho : o.op = .pick x y z) (hx : evl n f x = gvb g0 (.bool a)) (hy : evl n f y = gvb (g0 && a) (.bool b)) (hz : evl n f z = .bool false) :
    (execOp (evl n f) o).run P w = .ok (.value (.bool (a && b))) w := by
  subst hg; cases a <;> simp [execOp, ho, hx, hy, hz, asBool, gvb]
theorem arr {g f : Nat → Value} (h : g = f) : act n f ds = act n g ds := by rw [h]
theorem wpOps_append (l2 : List Nat) : ∀ (l1 : List Nat) (a : Act) (w : World), wpOps P ops (Exit.then (fun a w => wpOps P ops Q l2 a w) Q) l1 a w → wpOps P ops Q (l1 ++ l2) a w := by
  intro l1
  induction l1 with
  | nil => intro a w h; exact h
  | cons i l1 ih =>
    intro a w h
    rw [List.cons_append, wpOps_cons]
    rw [wpOps_cons] at h
    unfold wpOp at *
    cases ho : ops[i]? with
    | none => simp only [ho] at h ⊢; exact ih _ _ h
    | some o =>
      simp only [ho] at h ⊢
      by_cases hw : Region.wanted o (yielded ops a.tmps) = true
      · rw [if_pos hw] at h ⊢
        rcases h with h | ⟨h1, a0, w0, h2⟩
        · left
          have h' := Oper.wp_mono (K' := wpOps P ops Q (l1 ++ l2)) (fun a w h => ih a w h) h
          unfold Oper.wp at h' ⊢
          revert h'
          generalize (execOp a.eval o).run P w = r
          cases r with
          | ok nx w' => cases nx <;> exact fun h => h
          | halt x w' => cases x <;> exact fun h => h
        · exact .inr ⟨h1, a0, w0, h2⟩
      · rw [if_neg hw] at h ⊢
        exact ih _ _ h
theorem ro_join {σ : Type} {J : σ → World → Prop} {fr : (Nat → Value) → σ → (Nat → Value)} (l1 l2 : List Nat)
    (hj : ∀ s g w, J s w → Wo P ops Q l2 (act n (fr g s) ds) w) (hx : Wo P ops (Exit.then (fun a w => ∃ s g, a = act n (fr g s) ds ∧ J s w) Q) l1 (act n f ds) w) : Wo P ops Q (l1 ++ l2) (act n f ds) w := by
  rw [Wo_eq] at *
  refine wpOps_append l2 l1 _ _ ?_
  have : ∀ (l : List Nat) (a : Act) (w : World), wpOps P ops (Exit.then (fun a w => ∃ s g, a = act n (fr g s) ds ∧ J s w) Q) l a w → wpOps P ops (Exit.then (fun a w => wpOps P ops Q l2 a w) Q) l a w := by
    intro l
    induction l with
    | nil => rintro a w ⟨s, g, rfl, hJ⟩; exact hj s g w hJ
    | cons i l ih =>
      intro a w h
      rw [wpOps_cons] at h ⊢
      unfold wpOp at *
      cases ho : ops[i]? with
      | none => simp only [ho] at h ⊢; exact ih _ _ h
      | some o =>
        simp only [ho] at h ⊢
        by_cases hw : Region.wanted o (yielded ops a.tmps) = true
        · rw [if_pos hw] at h ⊢
          rcases h with h | ⟨h1, a0, w0, h2⟩
          · left
            have h' := Oper.wp_mono (K' := wpOps P ops (Exit.then (fun a w => wpOps P ops Q l2 a w) Q) l) (fun a w h => ih a w h) h
            unfold Oper.wp at h' ⊢
            revert h'
            generalize (execOp a.eval o).run P w = r
            cases r with
            | ok nx w' => cases nx <;> exact fun h => h
            | halt x w' => cases x <;> exact fun h => h
          · exact .inr ⟨h1, a0, w0, h2⟩
        · rw [if_neg hw] at h ⊢
          exact ih _ _ h
  exact this l1 _ _ hx
theorem loop_at {c : Code} {σ : Type} {fr : (Nat → Value) → σ → (Nat → Value)} {body : σ → World → (σ → World → Prop) → Prop} {s0 : σ} (hf : fr f s0 = f) (h : lp body s0 w)
    (hb : ∀ (s : σ) (g : Nat → Value) (w : World) (K : σ → World → Prop), body s w K → c.wp P (Exit.then (fun a' w' => ∃ s' g', a' = act n (fr g' s') ds ∧ K s' w') Q) (act n (fr g s) ds) w) :
    (Code.loop c).wp P Q (act n f ds) w := by
  rw [← hf]
  exact loop_walk (fr := fr) h hb
def clv {α : Type} (P : Program) (fv : Fv) (args : List Value) (T : Ty α) (w : World) (k : α → World → Prop) : Prop :=
  ∃ (f : FuncId) (c : List Value), fv = .mk (.func f) #[] c.toArray ∧ Enters P f ∧ cl P f (args ++ c) T w k
theorem wp_clv {α : Type} {T : Ty α} {as_ : List Operand} {ts : Array TypeId} {l : List Value} {fv : Fv} {d : Option Nat} {next : Act → World → Prop} {K : α → World → Prop} (hd : o.dst = d) (ho : o.op = .call { callee := .value x, args := as_.toArray, argTypes := ts })
    (hx : evl n f x = fv.enc) (ha : as_.map (evl n f) = l) (h : clv P fv l T w K) (hk : ∀ r w', K r w' → next (act n (updo f d (T.enc r)) ds) w') : Ow P o (act n f ds) w next Q := by
  obtain ⟨k, c, hfv, he, h⟩ := h
  exact wp_cl hd (q_callV ho hx hfv he ha) h hk
def dr (w : World) (k : World → Prop) : Prop := k w.drew
theorem dr_open {w : World} {k : World → Prop} (h : dr w k) : ∃ w', w' = w.drew ∧ k w' := ⟨_, rfl, h⟩
def bth (A B : Prop) : Prop := A ∧ B
end
theorem Rd_alloc {w : World} {o : Obj} {a : Addr} {cs : List Value} (h : Rd w a cs) : Rd (w.alloc o) a cs := by
  intro j v hv
  have h0 := h j v hv
  rw [World.cell?_alloc_lt _ _ _ (World.block_lt_of_cell? _ _ h0)]
  exact h0
theorem keep_RdAt {α : Type} {T : Ty α} {a : Addr} {x : α} {w w' : World} {o : Obj} (hw : w' = w.alloc o) (h : RdAt T a w x) : RdAt T a w' x := hw ▸ Rd_alloc h
end Go.Proofs.YtpdaapffkdejoaaGreat.Cf
namespace Go.Proofs.YtpdaapffkdejoaaGreat.Cf
set_option linter.unusedSimpArgs false
set_option linter.unusedVariables false
open Go
def RdO {α : Type} (T : Ty α) (w : World) (a : Option Addr) (xs : List α) : Prop := match a with
  | some a => Rd w a (xs.flatMap T.cells)
  | none => xs = []
def RdS {α : Type} (T : Ty α) (w : World) (s : Slc) (xs : List α) : Prop := xs.length = s.len ∧ RdO T w s.a xs
def app {α : Type} (t : TypeId) (T : Ty α) (sz by_ : Nat) (s : Slc) (new : List α) (w : World) (k : Slc → World → Prop) : Prop :=
  (s.len + new.length ≤ s.cap → match s.a with
    | some a => Wr w (a.add (s.len * sz)) (new.length * sz) ∧ k ⟨some a, s.len + new.length, s.cap⟩ (putc w (a.add (s.len * sz)) 0 (new.flatMap T.cells))
    | none => k ⟨none, s.len + new.length, s.cap⟩ w) ∧
  (s.cap < s.len + new.length → (s.len + new.length) * by_ ≤ 140737488355328 ∧ ∃ old : List α, RdS T w s old ∧
    ∀ (c : Nat) (rest : List Value), s.len + new.length ≤ c → rest.length = (c - (s.len + new.length)) * sz →
      k ⟨some ⟨w.heap.size, 0, none⟩, s.len + new.length, c⟩ (w.drew.alloc (.cells ((old ++ new).flatMap T.cells ++ rest).toArray t)))
def apd {α : Type} (t : TypeId) (T : Ty α) (sz by_ : Nat) (s b : Slc) (w : World) (k : Slc → World → Prop) : Prop :=
  ∃ new : List α, RdS T w b new ∧ app t T sz by_ s new w k
def apl {α : Type} (t : TypeId) (T : Ty α) (sz by_ : Nat) (s : Slc) (new : List α) (w : World) (k : Slc → World → Prop) : Prop :=
  app t T sz by_ s new (w.alloc (.cells (new.flatMap T.cells).toArray t)) k
section
variable {P : Program} {Q : Exit → Act → World → Prop} {n : Nat} {f : Nat → Value} {ds : List Deferred} {w w' : World} {ops : Array Oper} {i : Nat} {rest : List Nat} {o : Oper} {x y z : Operand}
theorem flat_len {α : Type} {T : Ty α} {m : Nat} (h : ∀ x, (T.cells x).length = m) (xs : List α) : (xs.flatMap T.cells).length = xs.length * m := by
  induction xs with
  | nil => simp
  | cons x xs ih => simp [ih, h x, Nat.add_mul, Nat.add_comm]
theorem run_firstCells {α : Type} {T : Ty α} {m : Nat} (hl : ∀ x, (T.cells x).length = m) {s : Slc} {xs : List α} (h : RdS T w s xs) :
    (Builtin.firstCells m s.len (tSlc.enc s)).run P w = .ok (xs.flatMap T.cells).toArray w := by
  obtain ⟨hlen, hr⟩ := h
  obtain ⟨a, l, c⟩ := s
  cases a with
  | none =>
    simp only [RdO] at hr
    subst hr
    simp [Builtin.firstCells]
  | some a =>
    simp only [RdO] at hr
    simp only at hlen
    have := run_loadCellsFrom P w a (xs.flatMap T.cells) 0 #[] (by intro j v hv; rw [Nat.zero_add]; exact hr j v hv)
    rw [flat_len hl, hlen] at this
    simp only [Builtin.firstCells, loadCells]
    rw [this]; simp
theorem RdS_drew {α : Type} {T : Ty α} {s : Slc} {xs : List α} (h : RdS T w s xs) : RdS T w.drew s xs := by
  obtain ⟨a, l, c⟩ := s
  cases a <;> exact h
theorem run_append_in {α : Type} {T : Ty α} {sz : Nat} {t u ty e : TypeId} {s b : Slc} {new : List α} (ht : P.underlying t = some (.slice e)) (hu : ∃ e', P.underlying u = some (.slice e'))
    (ok : TyOk P e T sz) (hnew : RdS T w b new) (hc : s.len + new.length ≤ s.cap) {a : Addr} (ha : s.a = some a) (hw : Wr w (a.add (s.len * sz)) (new.length * sz)) :
    (Builtin.append_ #[t, u] ty #[tSlc.enc s, tSlc.enc b]).run P w = .ok (tSlc.enc ⟨some a, s.len + new.length, s.cap⟩) (putc w (a.add (s.len * sz)) 0 (new.flatMap T.cells)) := by
  obtain ⟨fo, hi, hfs⟩ := ok.size
  obtain ⟨e', hu⟩ := hu
  have hnl : new.length = b.len := hnew.1
  have hc' : s.len + b.len ≤ s.cap := by omega
  have h1 := run_firstCells (P := P) ok.len hnew
  have h2 := run_storeCells (P := P) (a.add (s.len * sz)) (new.flatMap T.cells) 0 w (by
    intro j hj
    rw [Nat.zero_add]
    rw [flat_len ok.len] at hj
    exact hw j hj) (fun v hv => by obtain ⟨x, _, hx⟩ := List.mem_flatMap.1 hv; exact ok.one x v hx)
  simp only [Builtin.append_]
  simp [run_underlying ht, run_underlying hu, run_sizeOf hi, Builtin.lenOf, hc', hfs, ha, hnl]
  have h1' : Sem.run P (Builtin.firstCells sz b.len (Value.slice b.a b.len b.cap)) w = .ok (new.flatMap T.cells).toArray w := h1
  rw [h1']
  simp only [Result.andThen_ok]
  rw [show storeCells (a.add (s.len * sz)) (new.flatMap T.cells).toArray.toList = storeCells (a.add (s.len * sz)) (new.flatMap T.cells) 0 from rfl, h2]
  simp
theorem run_append_in0 {α : Type} {T : Ty α} {sz : Nat} {t u ty e : TypeId} {s b : Slc} {new : List α} (ht : P.underlying t = some (.slice e)) (hu : ∃ e', P.underlying u = some (.slice e'))
    (ok : TyOk P e T sz) (hnew : RdS T w b new) (hc : s.len + new.length ≤ s.cap) (ha : s.a = none) :
    (Builtin.append_ #[t, u] ty #[tSlc.enc s, tSlc.enc b]).run P w = .ok (tSlc.enc ⟨none, s.len + new.length, s.cap⟩) w := by
  obtain ⟨fo, hi, hfs⟩ := ok.size
  obtain ⟨e', hu⟩ := hu
  have hnl : new.length = b.len := hnew.1
  have hc' : s.len + b.len ≤ s.cap := by omega
  have h1 : Sem.run P (Builtin.firstCells sz b.len (Value.slice b.a b.len b.cap)) w = .ok (new.flatMap T.cells).toArray w := run_firstCells (P := P) ok.len hnew
  simp only [Builtin.append_]
  simp [run_underlying ht, run_underlying hu, run_sizeOf hi, Builtin.lenOf, hc', hfs, ha, hnl, h1]
theorem run_append_grown {α : Type} {T : Ty α} {sz : Nat} {t u ty e : TypeId} {fo : TypeInfo} {zv : Value} {zc : List Value} {s b : Slc} {new old : List α} (ht : P.underlying t = some (.slice e)) (hu : ∃ e', P.underlying u = some (.slice e'))
    (ok : TyOk P e T sz) (hi : P.info? e = some fo) (hz : fo.zero = some zv) (hzc : zv.cells = zc.toArray) (hzl : zc.length = sz) (hby : 0 < fo.bytes)
    (hnew : RdS T w b new) (hc : s.cap < s.len + new.length) (hfit : (s.len + new.length) * fo.bytes ≤ 140737488355328) (hold : RdS T w s old) :
    ∃ (c : Nat) (rest : List Value), s.len + new.length ≤ c ∧ rest.length = (c - (s.len + new.length)) * sz ∧
      (Builtin.append_ #[t, u] ty #[tSlc.enc s, tSlc.enc b]).run P w = .ok (tSlc.enc ⟨some ⟨w.heap.size, 0, none⟩, s.len + new.length, c⟩) (w.drew.alloc (.cells ((old ++ new).flatMap T.cells ++ rest).toArray e)) := by
  obtain ⟨fo', hi', hfs⟩ := ok.size
  rw [hi] at hi'; injection hi' with hi'; subst hi'
  obtain ⟨e', hu⟩ := hu
  have hnl : new.length = b.len := hnew.1
  have hol : old.length = s.len := hold.1
  have hc' : ¬ (s.len + b.len ≤ s.cap) := by omega
  have hg := growslice_fits (need := s.len + b.len) (old := s.cap) (bytes := fo.bytes) (by omega) (by rw [← hnl]; exact hfit)
  have hg' : ¬ (281474976710656 < Builtin.nextslicecap (s.len + b.len) s.cap * fo.bytes) := by omega
  have hb0 : fo.bytes ≠ 0 := by omega
  have h1 := run_firstCells (P := P) ok.len hnew
  have h2 := run_firstCells (P := P) ok.len hold
  refine ⟨(Question.appendCap (s.len + b.len) s.cap e).cut (w.tape w.drawn (.appendCap (s.len + b.len) s.cap e)), (Builtin.zeroCells zv.cells ((Question.appendCap (s.len + b.len) s.cap e).cut (w.tape w.drawn (.appendCap (s.len + b.len) s.cap e)) - (s.len + b.len))).toList, ?_, ?_, ?_⟩
  · simp only [Question.cut]; omega
  · simp [Builtin.zeroCells, hzc, hzl, hnl]
  · have h1' : Sem.run P (Builtin.firstCells sz b.len (Value.slice b.a b.len b.cap)) w.drew = .ok (new.flatMap T.cells).toArray w.drew := run_firstCells (P := P) ok.len (RdS_drew hnew)
    have h2' : Sem.run P (Builtin.firstCells sz s.len (Value.slice s.a s.len s.cap)) w.drew = .ok (old.flatMap T.cells).toArray w.drew := run_firstCells (P := P) ok.len (RdS_drew hold)
    simp only [Builtin.append_]
    simp [run_underlying ht, run_underlying hu, run_sizeOf hi, Builtin.lenOf, hc', hfs, hnl, typeInfo, hi, hb0, hg', Question.forced, h1', h2', zeroValue, hz, newRow, List.flatMap_append, World.drew_eq]
    congr 2
    apply Array.ext'
    simp
theorem wp_append {α : Type} {T : Ty α} {sz by_ : Nat} {t u e : TypeId} {zv : Value} {zc : List Value} {s b : Slc} {d : Option Nat} {next : Act → World → Prop} {K : Slc → World → Prop} (hd : o.dst = d)
    (ho : o.op = .call { callee := .builtin .append, args := #[x, y], argTypes := #[t, u] }) (ht : P.underlying t = some (.slice e)) (hu : ∃ e', P.underlying u = some (.slice e'))
    (ok : TyOk P e T sz) (hinf : ∃ i, P.info? e = some i ∧ i.zero = some zv ∧ i.size = sz ∧ i.bytes = by_) (hzc : zv.cells = zc.toArray) (hzl : zc.length = sz) (hby : 0 < by_)
    (hx : evl n f x = tSlc.enc s) (hy : evl n f y = tSlc.enc b) (h : apd e T sz by_ s b w K) (hk : ∀ r w', K r w' → next (act n (updo f d (tSlc.enc r)) ds) w') :
    Ow P o (act n f ds) w next Q := by
  rw [Ow_eq]
  subst hd
  obtain ⟨fo, hi, hz, hfs, rfl⟩ := hinf
  obtain ⟨new, hnew, hin, hgr⟩ := h
  have hop : ∀ (w : World) (v : Value) (w' : World), (Builtin.append_ #[t, u] o.type #[tSlc.enc s, tSlc.enc b]).run P w = .ok v w' → (execOp (evl n f) o).run P w = .ok (.value v) w' := by
    intro w v w' hv
    simp only [execOp, ho, resolve, invoke, builtin]
    simp only [List.map_toArray, List.map_cons, List.map_nil, hx, hy, pure_bind, Sem.run_bind, hv, Result.andThen_ok, Sem.run_pure]
  by_cases hc : s.len + new.length ≤ s.cap
  · have hin := hin hc
    cases ha : s.a with
    | none =>
      rw [ha] at hin
      simp only [Oper.wp, act_eval, hop _ _ _ (run_append_in0 ht hu ok hnew hc ha), Oper.upon_value, act_put]
      exact hk _ _ hin
    | some a =>
      rw [ha] at hin
      simp only [Oper.wp, act_eval, hop _ _ _ (run_append_in ht hu ok hnew hc ha hin.1), Oper.upon_value, act_put]
      exact hk _ _ hin.2
  · obtain ⟨hfit, old, hold, hgr⟩ := hgr (by omega)
    obtain ⟨c, rest, h1, h2, h3⟩ := run_append_grown (ty := o.type) ht hu ok hi hz hzc hzl hby hnew (by omega) hfit hold
    simp only [Oper.wp, act_eval, hop _ _ _ h3, Oper.upon_value, act_put]
    exact hk _ _ (hgr c rest h1 h2)
theorem Rd_new (w : World) (cs : List Value) (t : TypeId) : Rd (w.alloc (.cells cs.toArray t)) ⟨w.heap.size, 0, none⟩ cs := by
  intro j v hv
  have : (⟨w.heap.size, 0, none⟩ : Addr).add j = ⟨w.heap.size, j, none⟩ := by
    cases j <;> simp [Addr.add]
  rw [this, World.cell?_alloc_new]
  simpa using hv
theorem apd_of_apl {α : Type} {t : TypeId} {T : Ty α} {sz by_ : Nat} {s : Slc} {new : List α} {K : Slc → World → Prop} (h : apl t T sz by_ s new w K) :
    apd t T sz by_ s ⟨some ⟨w.heap.size, 0, none⟩, new.length, new.length⟩ (w.alloc (.cells (new.flatMap T.cells).toArray t)) K :=
  ⟨new, ⟨rfl, Rd_new w _ t⟩, h⟩
theorem fill_all {α : Type} {T : Ty α} {sz : Nat} (hl : ∀ x, (T.cells x).length = sz) (hf : ∀ x, (T.enc x).cells = (T.cells x).toArray) :
    ∀ (xs : List α) (i : Nat) (pre suf : List Value), pre.length = i * sz → suf.length = xs.length * sz →
      Instr.fill (fun i => some (i * sz, sz)) (pre ++ suf).toArray ((xs.zipIdx i).map fun p => (p.2, T.enc p.1)) = some (pre ++ xs.flatMap T.cells).toArray := by
  have splice : ∀ (vs : List Value) (o : Nat) (pre suf : List Value), pre.length = o → vs.length ≤ suf.length →
      ((vs.toArray.zipIdx).foldl (fun cs (x : Value × Nat) => cs.setIfInBounds (o + x.2) x.1) (pre ++ suf).toArray) = (pre ++ vs ++ suf.drop vs.length).toArray := by
    intro vs
    have gen : ∀ (vs : List Value) (k o : Nat) (pre suf : List Value), pre.length = o + k → vs.length ≤ suf.length →
        ((vs.zipIdx k).foldl (fun (cs : Array Value) (x : Value × Nat) => cs.setIfInBounds (o + x.2) x.1) (pre ++ suf).toArray) = (pre ++ vs ++ suf.drop vs.length).toArray := by
      intro vs
      induction vs with
      | nil => intro k o pre suf _ _; simp
      | cons v vs ih =>
        intro k o pre suf hp hs
        cases suf with
        | nil => simp at hs
        | cons s suf =>
          have h1 : ((pre ++ s :: suf).toArray.setIfInBounds (o + k) v) = ((pre ++ [v]) ++ suf).toArray := by
            rw [← hp]
            simp
          simp only [List.zipIdx_cons, List.foldl_cons, h1]
          rw [ih (k + 1) o (pre ++ [v]) suf (by simp; omega) (by simpa using hs)]
          simp
    intro o pre suf hp hs
    rw [← Array.foldl_toList]
    have : (vs.toArray.zipIdx).toList = vs.zipIdx 0 := by simp
    rw [this]
    exact gen vs 0 o pre suf (by omega) hs
  intro xs
  induction xs with
  | nil =>
    intro i pre suf hp hs
    have : suf = [] := by simpa using hs
    subst this
    simp [Instr.fill]
  | cons x xs ih =>
    intro i pre suf hp hs
    simp only [List.zipIdx_cons, List.map_cons, Instr.fill, hf x]
    have hs' : suf.length = xs.length * sz + sz := by rw [hs]; simp [Nat.add_mul]
    have hc : ((T.cells x).toArray.size ≠ sz || i * sz + (T.cells x).toArray.size > (pre ++ suf).toArray.size) = false := by
      simp [hl x, hp, hs']
    rw [hc]
    simp only [Bool.false_eq_true, if_false]
    have h2 := splice (T.cells x) (i * sz) pre suf hp (by rw [hl x, hs']; omega)
    rw [h2]
    rw [ih (i + 1) (pre ++ T.cells x) (suf.drop (T.cells x).length) (by simp [hp, hl x, Nat.add_mul]) (by simp [hl x, hs'])]
    simp
theorem q_rowOf {α : Type} {T : Ty α} {sz : Nat} {t e : TypeId} {zv : Value} {m : Nat} {ps : List (Nat × Operand)} {xs : List α} {a : Addr} {w' : World} (ho : o.op = .buildSlice t m ps.toArray) (ht : P.underlying t = some (.slice e))
    (ok : TyOk P e T sz) {by_ : Nat} (hinf : ∃ i, P.info? e = some i ∧ i.zero = some zv ∧ i.size = sz ∧ i.bytes = by_) (hm : xs.length = m) (hb : m * sz ≤ 2 ^ 24) (h0 : m * sz ≠ 0)
    (hp : ps.map (fun p => (p.1, evl n f p.2)) = (xs.zipIdx 0).map fun p => (p.2, T.enc p.1))
    (ha : a = ⟨w.heap.size, 0, none⟩) (hw : w' = w.alloc (.cells (xs.flatMap T.cells).toArray e)) :
    (execOp (evl n f) o).run P w = .ok (.value (tSlc.enc ⟨some a, m, m⟩)) w' := by
  subst ha; subst hw
  obtain ⟨fo, hi, hz, hfs, _⟩ := hinf
  have hfill := fill_all (T := T) ok.len ok.flat xs 0 [] ((Array.range (m * fo.size)).map (zv.cells[· % zv.cells.size]!)).toList (by simp) (by simp [hm, hfs])
  simp only [List.nil_append, Array.toArray_toList] at hfill
  have hm' : ¬ (m * fo.size > 2 ^ 24) := by rw [hfs]; omega
  have h0' : m * fo.size ≠ 0 := by rw [hfs]; exact h0
  simp only [execOp, ho, Instr.buildSlice]
  simp only [List.map_toArray, hp]
  simp only [bind_pure_comp, Sem.run_map, Sem.run_bind, run_underlying ht, Result.andThen_ok, run_sizeOf hi]
  rw [if_neg hm', if_neg h0']
  simp [zeroValue, typeInfo, hi, hz, hfs, newRow] at hfill ⊢
  simp [hfill]
theorem nwS_open {α : Type} {t : TypeId} {T : Ty α} {xs : List α} {w : World} {k : Addr → World → Prop} (h : nwS t T xs w k) :
    ∃ a w', a = ⟨w.heap.size, 0, none⟩ ∧ w' = w.alloc (.cells (xs.flatMap T.cells).toArray t) ∧ k a w' := ⟨_, _, rfl, rfl, h⟩
theorem q_sliceL {t e : TypeId} {s r : Slc} {l : Int} {kl : IntKind} {sz : Nat} {α : Type} {T : Ty α} (ho : o.op = .slice t x (some y) none none) (ht : P.underlying t = some (.slice e)) (ok : TyOk P e T sz) (hx : evl n f x = tSlc.enc s) (hy : evl n f y = .int kl l)
    (hr : Sub s sz l (s.len : Int) (s.cap : Int) r) : (execOp (evl n f) o).run P w = .ok (.value (tSlc.enc r)) w := by
  obtain ⟨fo, hfi, hfs⟩ := ok.size
  obtain ⟨a, len, cap⟩ := s
  try simp only at hr
  obtain ⟨h0, h1, h2, h3, rfl⟩ := hr
  have e1 : ((((len : Int) : Int).toNat : Nat) : Int) = (len : Int) := Int.toNat_of_nonneg (by omega)
  have e2 : ((((cap : Int) : Int).toNat : Nat) : Int) = (cap : Int) := Int.toNat_of_nonneg (by omega)
  have hb : ∀ (k : IntKind) (i : Int) (y : Nat) (c : BoundsCode), 0 ≤ i → i ≤ y → (Instr.sliceBound (.int k i) y c).run P w = .ok i.toNat w := fun k i y c hi0 hi1 => by
    simp [Instr.sliceBound, asIntOf, hi0, hi1]
  simp only [execOp, ho, hx, Option.map_some, Option.map_none, hy]
  simp only [Instr.sliceAt, Instr.slice, Sem.run_bind, run_underlying ht, Result.andThen_ok, Instr.sliceBounds, bind_pure_comp, Sem.run_map, Sem.run_pure, hb kl l len _ (by omega) (by omega)]
  simp [run_sizeOf hfi, hfs]
theorem q_sliceHM {t e : TypeId} {s r : Slc} {h m : Int} {kh km : IntKind} {v : Operand} {sz : Nat} {α : Type} {T : Ty α} (ho : o.op = .slice t x none (some z) (some v)) (ht : P.underlying t = some (.slice e)) (ok : TyOk P e T sz) (hx : evl n f x = tSlc.enc s) (hz : evl n f z = .int kh h) (hv : evl n f v = .int km m)
    (hr : Sub s sz 0 h m r) : (execOp (evl n f) o).run P w = .ok (.value (tSlc.enc r)) w := by
  obtain ⟨fo, hfi, hfs⟩ := ok.size
  obtain ⟨a, len, cap⟩ := s
  try simp only at hr
  obtain ⟨h0, h1, h2, h3, rfl⟩ := hr
  have e1 : (((h : Int).toNat : Nat) : Int) = h := Int.toNat_of_nonneg (by omega)
  have e2 : (((m : Int).toNat : Nat) : Int) = m := Int.toNat_of_nonneg (by omega)
  have hb : ∀ (k : IntKind) (i : Int) (y : Nat) (c : BoundsCode), 0 ≤ i → i ≤ y → (Instr.sliceBound (.int k i) y c).run P w = .ok i.toNat w := fun k i y c hi0 hi1 => by
    simp [Instr.sliceBound, asIntOf, hi0, hi1]
  simp only [execOp, ho, hx, Option.map_some, Option.map_none, hz, hv]
  simp only [Instr.sliceAt, Instr.slice, Sem.run_bind, run_underlying ht, Result.andThen_ok, Instr.sliceBounds, bind_pure_comp, Sem.run_map, Sem.run_pure, hb km m cap _ (by omega) (by omega), hb kh h m.toNat _ (by omega) (by omega)]
  simp [run_sizeOf hfi, hfs]
theorem apl_open {α : Type} {t : TypeId} {T : Ty α} {sz by_ : Nat} {s : Slc} {new : List α} {w : World} {K : Slc → World → Prop} (h : apl t T sz by_ s new w K) :
    ∃ a w', a = ⟨w.heap.size, 0, none⟩ ∧ w' = w.alloc (.cells (new.flatMap T.cells).toArray t) ∧ apd t T sz by_ s ⟨some a, new.length, new.length⟩ w' K := ⟨_, _, rfl, rfl, apd_of_apl h⟩
end
end Go.Proofs.YtpdaapffkdejoaaGreat.Cf
namespace Go.Proofs.YtpdaapffkdejoaaGreat.Cf
set_option linter.unusedSimpArgs false
set_option linter.unusedVariables false
open Go
section
variable {P : Program} {Q : Exit → Act → World → Prop} {n : Nat} {f : Nat → Value} {ds : List Deferred} {w w' : World} {ops : Array Oper} {i : Nat} {rest : List Nat} {o : Oper} {x y z : Operand}
theorem run_places : ∀ (fs : List Field) (pl : List (Nat × Nat)), fs.length = pl.length → (∀ (j : Nat) fd p, fs[j]? = some fd → pl[j]? = some p → p.1 = fd.offset ∧ ∃ i, P.info? fd.type = some i ∧ i.size = p.2) →
    (fs.mapM fun f => (do pure (f.offset, ← sizeOf f.type) : Sem (Nat × Nat))).run P w = .ok pl w
  | [], [], _, _ => by simp
  | [], _ :: _, h, _ => by simp at h
  | _ :: _, [], h, _ => by simp at h
  | fd :: fs, p :: pl, hl, h => by
    obtain ⟨h1, i, hi, h2⟩ := h 0 fd p rfl rfl
    have ht := run_places fs pl (by simpa using hl) fun j fd p hf hp => h (j + 1) fd p (by simpa using hf) (by simpa using hp)
    simp only [List.mapM_cons, Sem.run_bind, run_sizeOf hi, Result.andThen_ok, Sem.run_pure, bind_pure_comp, Sem.run_map] at ht ⊢
    rw [ht]
    obtain ⟨p1, p2⟩ := p
    simp only at h1 h2
    simp [h1, h2]
theorem q_build {t : TypeId} {fs : Array Field} {pl : List (Nat × Nat)} {zv : Value} {m by_ : Nat} {ps : List (Nat × Operand)} {pv : List (Nat × Value)} {cs : List Value} (ho : o.op = .build t ps.toArray) (ht : P.underlying t = some (.struct fs))
    (hz : ∃ i, P.info? t = some i ∧ i.zero = some zv ∧ i.size = m ∧ i.bytes = by_) (hpl : ∀ w, (fs.toList.mapM fun f => (do pure (f.offset, ← sizeOf f.type) : Sem (Nat × Nat))).run P w = .ok pl w)
    (hp : ps.map (fun p => (p.1, evl n f p.2)) = pv) (hf : Instr.fill (fun j => pl[j]?) zv.cells pv = some cs.toArray) : (execOp (evl n f) o).run P w = .ok (.value (.agg cs.toArray)) w := by
  obtain ⟨i, hi, hz, _⟩ := hz
  subst hp
  have hpl' : (fs.mapM fun f => (do pure (f.offset, ← sizeOf f.type) : Sem (Nat × Nat))).run P w = .ok pl.toArray w := by
    rw [Array.mapM_eq_mapM_toList]
    simp only [Sem.run_map, hpl w, Result.andThen_ok]
  simp only [execOp, ho, Instr.build, zeroValue, typeInfo, bind_assoc, pure_bind, bind_pure_comp, Sem.run_map, Sem.run_bind, run_program, Result.andThen_ok, hi, hz, Sem.run_pure, run_underlying ht]
  simp only [bind_pure_comp] at hpl'
  rw [hpl']
  simp only [Result.andThen_ok, List.map_toArray, List.getElem?_toArray]
  rw [hf]
  simp
def Born (arr : Array MapEntry) (c : Nat) : Prop := (∀ x ∈ arr.toList, x.born < c) ∧ (arr.toList.map (·.born)).Nodup
theorem born_push {arr : Array MapEntry} {c : Nat} {k v : Value} (h : Born arr c) : Born (arr.push { key := k, val := v, born := c }) (c + 1) := by
  refine ⟨fun x hx => ?_, ?_⟩
  · simp only [Array.toList_push, List.mem_append, List.mem_singleton] at hx
    rcases hx with hx | rfl
    · have := h.1 x hx; omega
    · exact Nat.lt_succ_self _
  · simp only [Array.toList_push, List.map_append, List.map_cons, List.map_nil, List.nodup_append]
    refine ⟨h.2, by simp, fun a ha b hb => ?_⟩
    obtain ⟨x, hx, rfl⟩ := List.mem_map.1 ha
    have := h.1 x hx
    rw [List.mem_singleton.1 hb]; omega
theorem born_same {arr arr' : Array MapEntry} {c : Nat} (h : Born arr c) (e : arr'.toList.map (·.born) = arr.toList.map (·.born)) : Born arr' c := by
  refine ⟨fun x hx => ?_, by rw [e]; exact h.2⟩
  have : x.born ∈ arr'.toList.map (·.born) := List.mem_map.2 ⟨x, hx, rfl⟩
  rw [e] at this
  obtain ⟨y, hy, he⟩ := List.mem_map.1 this
  rw [← he]; exact h.1 y hy
theorem born_sub {arr arr' : Array MapEntry} {c : Nat} (h : Born arr c) (e : arr'.toList.Sublist arr.toList) : Born arr' c :=
  ⟨fun x hx => h.1 x (e.subset hx), h.2.sublist (e.map _)⟩
def MapAt {α : Type} (T : Ty α) (k : IntKind) (w : World) (r : Nat) (es : List (Int × α)) : Prop :=
  ∃ arr c, w.heap[r]? = some (.map arr c) ∧ arr.toList.map (fun e => (e.key, e.val)) = (es.map fun p => (.int k p.1, T.enc p.2)) ∧ Born arr c
def MapGet {α : Type} (T : Ty α) (k : IntKind) (m : Option Nat) (key : Int) (w : World) (u : Option α) : Prop := match m with
  | none => u = none
  | some r => ∃ es, MapAt T k w r es ∧ u = es.lookup key
def MapLen (m : Option Nat) (w : World) (l : Nat) : Prop := match m with
  | none => l = 0
  | some r => ∃ arr c, w.heap[r]? = some (.map arr c) ∧ l = arr.size
def ups {α : Type} (key : Int) (v : α) : List (Int × α) → List (Int × α)
  | [] => [(key, v)]
  | (a, b) :: t => if key == a then (key, v) :: t else (a, b) :: ups key v t
def del {α : Type} (key : Int) : List (Int × α) → List (Int × α)
  | [] => []
  | (a, b) :: t => if key == a then t else (a, b) :: del key t
def setMap (w : World) (r : Nat) (arr : Array MapEntry) (c : Nat) : World := { w with heap := w.heap.setIfInBounds r (.map arr c) }
def Reps {α : Type} (T : Ty α) (k : IntKind) (arr : Array MapEntry) (es : List (Int × α)) : Prop := arr.toList.map (fun e => (e.key, e.val)) = es.map fun p => (.int k p.1, T.enc p.2)
def nwMap (w : World) (k : Nat → World → Prop) : Prop := k w.heap.size (w.alloc (.map #[] 0))
def mput {α : Type} (T : Ty α) (k : IntKind) (m : Option Nat) (key : Int) (v : α) (w : World) (K : World → Prop) : Prop :=
  ∃ r es, m = some r ∧ MapAt T k w r es ∧ ∀ arr c, Reps T k arr (ups key v es) → Born arr c → K (setMap w r arr c)
def mdel {α : Type} (T : Ty α) (k : IntKind) (m : Option Nat) (key : Int) (w : World) (K : World → Prop) : Prop := match m with
  | none => K w
  | some r => ∃ es, MapAt T k w r es ∧ ∀ arr c, Reps T k arr (del key es) → Born arr c → K (setMap w r arr c)
theorem findNow_reps {α : Type} {T : Ty α} {k : IntKind} (key : Int) : ∀ (arr : List MapEntry) (es : List (Int × α)) (i : Nat), arr.map (fun e => (e.key, e.val)) = es.map (fun p => (.int k p.1, T.enc p.2)) →
    (es.lookup key = none ∧ Instr.findNow (.int k) (.int k key) arr i = some none) ∨
    (∃ j v, es.lookup key = some v ∧ Instr.findNow (.int k) (.int k key) arr i = some (some (i + j, T.enc v)) ∧ es[j]? = some (key, v) ∧ (∀ l, l < j → (es[l]?.map (·.1)) ≠ some key))
  | [], [], i, _ => .inl ⟨rfl, rfl⟩
  | [], _ :: _, i, h => by simp at h
  | _ :: _, [], i, h => by simp at h
  | e :: arr, (a, b) :: es, i, h => by
    simp only [List.map_cons, List.cons.injEq, Prod.mk.injEq] at h
    obtain ⟨⟨hk, hv⟩, ht⟩ := h
    by_cases e0 : key = a
    · subst e0
      right
      refine ⟨0, b, by simp, ?_, rfl, fun l hl => absurd hl (Nat.not_lt_zero _)⟩
      simp [Instr.findNow, hk, hv, Instr.sameNow]
    · have hne : (key == a) = false := by simpa using e0
      rcases findNow_reps key arr es (i + 1) ht with ⟨h1, h2⟩ | ⟨j, v, h1, h2, h3, h4⟩
      · left
        exact ⟨by simp [List.lookup, hne, h1], by simp only [Instr.findNow, hk, Instr.sameNow, if_true, hne, h2]⟩
      · right
        refine ⟨j + 1, v, by simp [List.lookup, hne, h1], by simp only [Instr.findNow, hk, Instr.sameNow, if_true, hne, h2]; rw [show i + 1 + j = i + (j + 1) from by omega], by simpa using h3, ?_⟩
        intro l hl
        cases l with
        | zero => simpa using fun h => e0 h.symm
        | succ l => simpa using h4 l (by omega)
theorem run_checkKey {t : TypeId} {k : IntKind} (ht : P.underlying t = some (.int k)) (e : Bool) (m : Nat) (a : Int) : (Instr.checkKey e (m + 1) t (.int k a)).run P w = .ok () w := by
  simp [Instr.checkKey, run_underlying ht]
theorem run_getObj {r : Nat} {arr : Array MapEntry} {c : Nat} (h : w.heap[r]? = some (.map arr c)) : (getObj r).run P w = .ok (.map arr c) w := by
  simp [getObj, Sem.run, h]
theorem run_setObj {r : Nat} {arr arr' : Array MapEntry} {c c' : Nat} (h : w.heap[r]? = some (.map arr c)) : (setObj r (.map arr' c')).run P w = .ok () (setMap w r arr' c') := by
  simp [setObj, Sem.run, h, setMap]
theorem findKey_reps {α : Type} {T : Ty α} {k : IntKind} {kt : TypeId} {arr : Array MapEntry} {es : List (Int × α)} (hk : P.underlying kt = some (.int k)) (key : Int) (h : Reps T k arr es) :
    (es.lookup key = none ∧ (Instr.findKey kt (.int k key) arr.toList).run P w = .ok none w) ∨
    (∃ j v, es.lookup key = some v ∧ (Instr.findKey kt (.int k key) arr.toList).run P w = .ok (some (j, T.enc v)) w ∧ es[j]? = some (key, v) ∧ (∀ l, l < j → (es[l]?.map (·.1)) ≠ some key)) := by
  rcases findNow_reps key arr.toList es 0 h with ⟨h1, h2⟩ | ⟨j, v, h1, h2, h3, h4⟩
  · exact .inl ⟨h1, by simp only [Instr.findKey, Sem.run_bind, run_underlying hk, Result.andThen_ok, h2, Sem.run_pure]⟩
  · exact .inr ⟨j, v, h1, by simp only [Instr.findKey, Sem.run_bind, run_underlying hk, Result.andThen_ok, h2, Sem.run_pure, Nat.zero_add], h3, h4⟩
theorem q_lookup2 {α : Type} {T : Ty α} {m by_ : Nat} {t kt et : TypeId} {k : IntKind} {r : Option Nat} {key : Int} {u : Option α} {z : α} (ho : o.op = .lookup t x y true) (ht : P.underlying t = some (.map kt et)) (hk : P.underlying kt = some (.int k))
    (hz : ∃ i, P.info? et = some i ∧ i.zero = some (T.enc z) ∧ i.size = m ∧ i.bytes = by_) (hx : evl n f x = .map r) (hy : evl n f y = .int k key) (hr : MapGet T k r key w u) :
    (execOp (evl n f) o).run P w = .ok (.value (.tuple #[T.enc (u.getD z), .bool u.isSome])) w := by
  obtain ⟨i, hi, hzz, _⟩ := hz
  cases r with
  | none =>
    simp only [MapGet] at hr
    subst hr
    simp [execOp, ho, hx, hy, Instr.lookup, run_underlying ht, run_checkKey hk, Instr.findKey, run_underlying hk, Instr.findNow, zeroValue, typeInfo, hi, hzz]
  | some r =>
    obtain ⟨es, ⟨arr, c, hb, hrep, hborn⟩, rfl⟩ := hr
    rcases findKey_reps (P := P) (w := w) hk key hrep with ⟨h1, h2⟩ | ⟨j, v, h1, h2, _⟩
    · simp [execOp, ho, hx, hy, Instr.lookup, run_underlying ht, run_getObj hb, run_checkKey hk, h1, h2, zeroValue, typeInfo, hi, hzz]
    · simp [execOp, ho, hx, hy, Instr.lookup, run_underlying ht, run_getObj hb, run_checkKey hk, h1, h2]
theorem q_lookup {α : Type} {T : Ty α} {m by_ : Nat} {t kt et : TypeId} {k : IntKind} {r : Option Nat} {key : Int} {u : Option α} {z : α} (ho : o.op = .lookup t x y false) (ht : P.underlying t = some (.map kt et)) (hk : P.underlying kt = some (.int k))
    (hz : ∃ i, P.info? et = some i ∧ i.zero = some (T.enc z) ∧ i.size = m ∧ i.bytes = by_) (hx : evl n f x = .map r) (hy : evl n f y = .int k key) (hr : MapGet T k r key w u) :
    (execOp (evl n f) o).run P w = .ok (.value (T.enc (u.getD z))) w := by
  obtain ⟨i, hi, hzz, _⟩ := hz
  cases r with
  | none =>
    simp only [MapGet] at hr
    subst hr
    simp [execOp, ho, hx, hy, Instr.lookup, run_underlying ht, run_checkKey hk, Instr.findKey, run_underlying hk, Instr.findNow, zeroValue, typeInfo, hi, hzz]
  | some r =>
    obtain ⟨es, ⟨arr, c, hb, hrep, hborn⟩, rfl⟩ := hr
    rcases findKey_reps (P := P) (w := w) hk key hrep with ⟨h1, h2⟩ | ⟨j, v, h1, h2, _⟩
    · simp [execOp, ho, hx, hy, Instr.lookup, run_underlying ht, run_getObj hb, run_checkKey hk, h1, h2, zeroValue, typeInfo, hi, hzz]
    · simp [execOp, ho, hx, hy, Instr.lookup, run_underlying ht, run_getObj hb, run_checkKey hk, h1, h2]
theorem q_lenM {t kt et : TypeId} {r : Option Nat} {l : Nat} (ho : o.op = .call { callee := .builtin .len, args := #[x], argTypes := #[t] }) (ht : P.underlying t = some (.map kt et)) (hx : evl n f x = .map r) (hr : MapLen r w l) :
    (execOp (evl n f) o).run P w = .ok (.value (.int .i64 l)) w := by
  cases r with
  | none => simp only [MapLen] at hr; subst hr; simp [execOp, ho, hx, resolve, invoke, builtin, Builtin.len_, run_underlying ht, goInt]
  | some r =>
    obtain ⟨arr, c, hb, rfl⟩ := hr
    simp [execOp, ho, hx, resolve, invoke, builtin, Builtin.len_, run_underlying ht, goInt, run_getObj hb]
theorem nwMap_open {w : World} {k : Nat → World → Prop} (h : nwMap w k) : ∃ r w', r = w.heap.size ∧ w' = w.alloc (.map #[] 0) ∧ k r w' := ⟨_, _, rfl, rfl, h⟩
theorem q_makeMap {t : TypeId} {r : Nat} (ho : o.op = .makeMap t none) (hr : r = w.heap.size) (hw : w' = w.alloc (.map #[] 0)) : (execOp (evl n f) o).run P w = .ok (.value (.map (some r))) w' := by
  subst hr; subst hw; simp [execOp, ho, Instr.makeMap]
theorem ups_set {α : Type} (key : Int) (v : α) : ∀ (es : List (Int × α)) (j : Nat) (u : α), es[j]? = some (key, u) → (∀ l, l < j → (es[l]?.map (·.1)) ≠ some key) → ups key v es = es.set j (key, v)
  | [], j, u, h, _ => by simp at h
  | (a, b) :: es, 0, u, h, _ => by simp at h; simp [ups, h.1]
  | (a, b) :: es, j + 1, u, h, hl => by
    have h0 := hl 0 (by omega)
    have hne : (key == a) = false := by simp at h0; simpa using fun e => h0 e.symm
    simp only [ups, hne, Bool.false_eq_true, if_false, List.set_cons_succ]
    rw [ups_set key v es j u (by simpa using h) fun l hl' => by simpa using hl (l + 1) (by omega)]
theorem ups_new {α : Type} (key : Int) (v : α) : ∀ (es : List (Int × α)), es.lookup key = none → ups key v es = es ++ [(key, v)]
  | [], _ => rfl
  | (a, b) :: es, h => by
    by_cases e : (key == a) = true
    · simp [List.lookup, e] at h
    · simp only [List.lookup, e] at h
      simp [ups, e, ups_new key v es h]
theorem del_at {α : Type} (key : Int) : ∀ (es : List (Int × α)) (j : Nat) (u : α), es[j]? = some (key, u) → (∀ l, l < j → (es[l]?.map (·.1)) ≠ some key) → del key es = es.eraseIdx j
  | [], j, u, h, _ => by simp at h
  | (a, b) :: es, 0, u, h, _ => by simp at h; simp [del, h.1]
  | (a, b) :: es, j + 1, u, h, hl => by
    have h0 := hl 0 (by omega)
    have hne : (key == a) = false := by simp at h0; simpa using fun e => h0 e.symm
    simp only [del, hne, Bool.false_eq_true, if_false, List.eraseIdx_cons_succ]
    rw [del_at key es j u (by simpa using h) fun l hl' => by simpa using hl (l + 1) (by omega)]
theorem del_none {α : Type} (key : Int) : ∀ (es : List (Int × α)), es.lookup key = none → del key es = es
  | [], _ => rfl
  | (a, b) :: es, h => by
    by_cases e : (key == a) = true
    · simp [List.lookup, e] at h
    · simp only [List.lookup, e] at h
      simp [del, e, del_none key es h]
theorem wp_mput {α : Type} {T : Ty α} {t kt et : TypeId} {k : IntKind} {r : Option Nat} {key : Int} {v : α} {next : Act → World → Prop} {K : World → Prop} {d : Option Nat} (hd : o.dst = d) (ho : o.op = .mapUpdate t x y z ∨ o.op = .insert t x y z) (ht : P.underlying t = some (.map kt et))
    (hk : P.underlying kt = some (.int k)) (hx : evl n f x = .map r) (hy : evl n f y = .int k key) (hz : evl n f z = T.enc v) (h : mput T k r key v w K) (hK : ∀ w', K w' → next (act n (updo f d undef) ds) w') :
    Ow P o (act n f ds) w next Q := by
  rw [Ow_eq]
  subst hd
  obtain ⟨b, es, rfl, ⟨arr, c, hb, hrep, hborn⟩, h⟩ := h
  have hop : ∀ w', (Instr.mapUpdate t (.map (some b)) (.int k key) (T.enc v)).run P w = .ok () w' → (execOp (evl n f) o).run P w = .ok .skip w' := by
    intro w' hw
    rcases ho with ho | ho <;> simp only [execOp, ho, hx, hy, hz, Sem.run_bind, hw, Result.andThen_ok, Sem.run_pure]
  rcases findKey_reps (P := P) (w := w) hk key hrep with ⟨h1, h2⟩ | ⟨j, u, h1, h2, h3, h4⟩
  · have hrun : (Instr.mapUpdate t (.map (some b)) (.int k key) (T.enc v)).run P w = .ok () (setMap w b (arr.push { key := .int k key, val := T.enc v, born := c }) (c + 1)) := by
      simp only [Instr.mapUpdate, Sem.run_bind, run_underlying ht, Result.andThen_ok, run_getObj hb, run_checkKey hk, h2, run_setObj hb]
    simp only [Oper.wp, act_eval, hop _ hrun, Oper.upon_skip, act_put]
    refine hK _ (h _ _ ?_ (born_push hborn))
    simp only [Reps] at hrep ⊢
    rw [ups_new key v es h1]
    simp [hrep]
  · have hke : ∃ e, arr[j]? = some e ∧ e.key = .int k key := by
      have := congrArg (·[j]?) hrep
      simp only [List.getElem?_map, h3, Option.map_some] at this
      cases ha : arr[j]? with
      | none => simp [ha] at this
      | some e => simp [ha] at this; exact ⟨e, rfl, this.1⟩
    obtain ⟨e, he, hek⟩ := hke
    have hstay : (Instr.keyThatStays (((arr[j]?).map (·.key)).getD (.int k key)) (.int k key)).run P w = .ok (.int k key) w := by
      simp [he, hek, Instr.keyThatStays, Instr.sameBits]
    have hrun : (Instr.mapUpdate t (.map (some b)) (.int k key) (T.enc v)).run P w = .ok () (setMap w b (arr.modify j fun e => { e with key := .int k key, val := T.enc v }) c) := by
      simp only [Instr.mapUpdate, Sem.run_bind, run_underlying ht, Result.andThen_ok, run_getObj hb, run_checkKey hk, h2, hstay, run_setObj hb]
    simp only [Oper.wp, act_eval, hop _ hrun, Oper.upon_skip, act_put]
    have hbm : (arr.modify j fun e => { e with key := .int k key, val := T.enc v }).toList.map (·.born) = arr.toList.map (·.born) := by
      apply List.ext_getElem?
      intro l
      simp only [List.getElem?_map, Array.getElem?_toList, Array.getElem?_modify]
      by_cases e1 : j = l
      · subst e1; cases arr[j]? <;> simp
      · simp [e1]
    refine hK _ (h _ _ ?_ (born_same hborn hbm))
    simp only [Reps] at hrep ⊢
    rw [ups_set key v es j u h3 h4]
    apply List.ext_getElem?
    intro l
    have hl := congrArg (·[l]?) hrep
    simp only [List.getElem?_map, Array.getElem?_toList] at hl
    simp only [List.getElem?_map, Array.getElem?_toList, Array.getElem?_modify, List.getElem?_set]
    by_cases e1 : j = l
    · subst e1
      have hlt : j < es.length := (List.getElem?_eq_some_iff.1 h3).1
      simp [he, hlt]
    · simp [e1, hl]
theorem map_eraseIdx {α β : Type} (g : α → β) : ∀ (l : List α) (i : Nat), (l.eraseIdx i).map g = (l.map g).eraseIdx i
  | [], _ => rfl
  | _ :: _, 0 => rfl
  | a :: l, i + 1 => by simp [map_eraseIdx g l i]
theorem wp_mdel {α : Type} {T : Ty α} {t kt et ty : TypeId} {k : IntKind} {r : Option Nat} {key : Int} {next : Act → World → Prop} {K : World → Prop} {d : Option Nat} (hd : o.dst = d) (ho : o.op = .call { callee := .builtin .delete, args := #[x, y], argTypes := #[t, ty] }) (ht : P.underlying t = some (.map kt et))
    (hk : P.underlying kt = some (.int k)) (hx : evl n f x = .map r) (hy : evl n f y = .int k key) (h : mdel T k r key w K) (hK : ∀ w', K w' → next (act n (updo f d (.tuple #[])) ds) w') :
    Ow P o (act n f ds) w next Q := by
  rw [Ow_eq]
  subst hd
  have hop : ∀ w', (Builtin.delete_ #[t, ty] o.type #[.map r, .int k key]).run P w = .ok (.tuple #[]) w' → (execOp (evl n f) o).run P w = .ok (.value (.tuple #[])) w' := by
    intro w' hw
    simp only [execOp, ho, resolve, invoke, builtin, List.map_toArray, List.map_cons, List.map_nil, hx, hy, pure_bind, Sem.run_bind, hw, Result.andThen_ok, Sem.run_pure]
  cases r with
  | none =>
    have hrun : (Builtin.delete_ #[t, ty] o.type #[.map none, .int k key]).run P w = .ok (.tuple #[]) w := by
      simp [Builtin.delete_, run_underlying ht, run_checkKey hk]
    simp only [Oper.wp, act_eval, hop _ hrun, Oper.upon_value, act_put]
    exact hK _ h
  | some b =>
    obtain ⟨es, ⟨arr, c, hb, hrep, hborn⟩, h⟩ := h
    rcases findKey_reps (P := P) (w := w) hk key hrep with ⟨h1, h2⟩ | ⟨j, u, h1, h2, h3, h4⟩
    · have hrun : (Builtin.delete_ #[t, ty] o.type #[.map (some b), .int k key]).run P w = .ok (.tuple #[]) (setMap w b arr c) := by
        simp [Builtin.delete_, run_underlying ht, run_getObj hb, run_checkKey hk, h2, run_setObj hb]
      simp only [Oper.wp, act_eval, hop _ hrun, Oper.upon_value, act_put]
      refine hK _ (h _ _ ?_ hborn)
      rw [del_none key es h1]; exact hrep
    · have hrun : (Builtin.delete_ #[t, ty] o.type #[.map (some b), .int k key]).run P w = .ok (.tuple #[]) (setMap w b (arr.eraseIdxIfInBounds j) c) := by
        simp [Builtin.delete_, run_underlying ht, run_getObj hb, run_checkKey hk, h2, run_setObj hb]
      simp only [Oper.wp, act_eval, hop _ hrun, Oper.upon_value, act_put]
      have hsub : (arr.eraseIdxIfInBounds j).toList.Sublist arr.toList := by
        unfold Array.eraseIdxIfInBounds
        split
        · rw [Array.toList_eraseIdx]; exact List.eraseIdx_sublist _ _
        · exact List.Sublist.refl _
      refine hK _ (h _ _ ?_ (born_sub hborn hsub))
      rw [del_at key es j u h3 h4]
      simp only [Reps] at hrep ⊢
      have hj : j < arr.size := by
        have hlt : j < es.length := (List.getElem?_eq_some_iff.1 h3).1
        have := congrArg List.length hrep
        simp at this; omega
      simp only [Array.eraseIdxIfInBounds, hj, dif_pos, Array.toList_eraseIdx]
      rw [map_eraseIdx, hrep, map_eraseIdx]
theorem replicate_len {α : Type} {T : Ty α} {sz : Nat} {z : α} (hl : (T.cells z).length = sz) (m : Nat) : ((List.replicate m z).flatMap T.cells).length = m * sz := by
  induction m with
  | zero => simp
  | succ m ih => rw [List.replicate_succ, List.flatMap_cons, List.length_append, ih, hl, Nat.add_mul]; omega
theorem zeroCells_flat {α : Type} {T : Ty α} {sz : Nat} {z : α} (hf : (T.enc z).cells = (T.cells z).toArray) (hl : (T.cells z).length = sz) : ∀ m : Nat, (Builtin.zeroCells (T.enc z).cells m).toList = (List.replicate m z).flatMap T.cells := by
  intro m
  rw [hf]
  apply List.ext_getElem?
  intro j
  simp only [Builtin.zeroCells, List.size_toArray, hl, Array.toList_map, Array.toList_range, List.getElem?_map]
  by_cases hj : j < m * sz
  · have hsz : 0 < sz := by
      rcases Nat.eq_zero_or_pos sz with h | h
      · rw [h] at hj; omega
      · exact h
    have hmod : j % sz < sz := Nat.mod_lt _ hsz
    rw [List.getElem?_range (by simpa using hj)]
    simp only [Option.map_some]
    have : ∀ (m j : Nat), j < m * sz → ((List.replicate m z).flatMap T.cells)[j]? = (T.cells z)[j % sz]? := by
      intro m
      induction m with
      | zero => intro j hj; simp at hj
      | succ m ih =>
        intro j hj
        rw [List.replicate_succ, List.flatMap_cons]
        by_cases hlt : j < sz
        · rw [List.getElem?_append_left (by omega), Nat.mod_eq_of_lt hlt]
        · rw [List.getElem?_append_right (by omega), hl, ih (j - sz) (by rw [Nat.add_mul] at hj; omega)]
          congr 1
          exact (Nat.mod_eq_sub_mod (by omega)).symm
    rw [this m j hj]
    rw [List.getElem?_eq_getElem (by omega)]
    simp only [Option.some.injEq]
    have hlt : j % sz < (T.cells z).toArray.size := by simp; omega
    rw [getElem!_pos (T.cells z).toArray (j % sz) hlt]; simp
  · rw [List.getElem?_eq_none (by simpa using hj), List.getElem?_eq_none (by rw [replicate_len hl]; omega)]
    rfl
theorem block_alloc {w : World} {o u : Obj} {r : Nat} (h : w.heap[r]? = some u) : (w.alloc o).heap[r]? = some u := by
  have hlt : r < w.heap.size := (Array.getElem?_eq_some_iff.1 h).1
  simp only [World.alloc, Array.getElem?_push]
  rw [if_neg (by omega)]; exact h
theorem keep_MapGet {α : Type} {T : Ty α} {k : IntKind} {m : Option Nat} {key : Int} {u : Option α} {w w' : World} {o : Obj} (hw : w' = w.alloc o) (h : MapGet T k m key w u) : MapGet T k m key w' u := by
  subst hw
  cases m with
  | none => exact h
  | some r => obtain ⟨es, ⟨arr, c, hb, hr⟩, hu⟩ := h; exact ⟨es, ⟨arr, c, block_alloc hb, hr⟩, hu⟩
end
end Go.Proofs.YtpdaapffkdejoaaGreat.Cf
namespace Go.Proofs.YtpdaapffkdejoaaGreat.Cf
set_option linter.unusedSimpArgs false
set_option linter.unusedVariables false
open Go
abbrev PMap := Nat → Option Obj
def PMap.le (a b : PMap) : Prop := ∀ k o, a k = some o → b k = some o
def PMap.off (a b : PMap) : Prop := ∀ k, a k = none ∨ b k = none
structure Assn where
  p : PMap → PMap → Prop
  mono : ∀ {I I' h h' : PMap}, PMap.le I I' → PMap.le h h' → p I h → p I' h'
theorem PMap.le_refl (a : PMap) : PMap.le a a := fun _ _ h => h
theorem PMap.le_trans {a b c : PMap} (h : PMap.le a b) (k : PMap.le b c) : PMap.le a c := fun x o hx => k x o (h x o hx)
theorem PMap.off_le {a b c : PMap} (h : PMap.off a b) (k : PMap.le c b) : PMap.off a c := fun x => by
  cases hc : c x with
  | none => exact .inr rfl
  | some o => exact .inl ((h x).resolve_right (by rw [k x o hc]; simp))
theorem PMap.off_symm {a b : PMap} (h : PMap.off a b) : PMap.off b a := fun x => (h x).symm
def Seps : List Assn → PMap → PMap → Prop
  | [], _, _ => True
  | A :: l, I, h => ∃ h1 h2, PMap.off h1 h2 ∧ PMap.le h1 h ∧ PMap.le h2 h ∧ A.p I h1 ∧ Seps l I h2
theorem Seps.mono : ∀ {l : List Assn} {I I' h h' : PMap}, PMap.le I I' → PMap.le h h' → Seps l I h → Seps l I' h'
  | [], _, _, _, _, _, _, _ => trivial
  | _ :: _, _, _, _, _, hI, hh, ⟨h1, h2, ho, l1, l2, ha, hl⟩ => ⟨h1, h2, ho, (PMap.le_trans l1 hh), (PMap.le_trans l2 hh), Assn.mono _ hI (PMap.le_refl _) ha, Seps.mono hI (PMap.le_refl _) hl⟩
def sepA (l : List Assn) : Assn := ⟨Seps l, Seps.mono⟩
def exA {α : Type} (f : α → Assn) : Assn := ⟨fun I h => ∃ x, (f x).p I h, fun hI hh ⟨x, hx⟩ => ⟨x, (f x).mono hI hh hx⟩⟩
def puA (φ : Prop) : Assn := ⟨fun _ _ => φ, fun _ _ h => h⟩
def blk (b : Nat) (o : Obj) : Assn := ⟨fun _ h => h b = some o, fun _ hh h => hh b o h⟩
def cel (b : Nat) (cs : List Value) (t : TypeId) : Assn := blk b (.cells cs.toArray t)
def ever (φ : PMap → Prop) (m : ∀ {I I' : PMap}, PMap.le I I' → φ I → φ I') : Assn := ⟨fun I _ => φ I, fun hI _ h => m hI h⟩
structure St (W : World) (l : List Assn) (w : World) : Prop where
  os : w.os = W.os
  tape : w.tape = W.tape
  output : w.output = W.output
  size : W.heap.size ≤ w.heap.size
  mem : ∃ I h : PMap, PMap.off I h ∧ (∀ b o, I b = some o → w.heap[b]? = some o) ∧ (∀ b o, h b = some o → w.heap[b]? = some o) ∧ Seps l I h
section
variable {W w w' : World} {l l' : List Assn} {A B : Assn}
theorem St.same (H : St W l w) (ho : w'.os = w.os) (ht : w'.tape = w.tape) (hu : w'.output = w.output) (hh : w'.heap = w.heap) : St W l w' :=
  ⟨ho.trans H.os, ht.trans H.tape, hu.trans H.output, hh ▸ H.size, by rw [hh]; exact H.mem⟩
theorem St.drew (H : St W l w) : St W l w.drew := H.same rfl rfl rfl rfl
theorem St.imp (H : St W l w) (h : ∀ I h, Seps l I h → Seps l' I h) : St W l' w :=
  ⟨H.os, H.tape, H.output, H.size, let ⟨I, k, a, b, c, d⟩ := H.mem; ⟨I, k, a, b, c, h I k d⟩⟩
theorem Seps.swap {I h : PMap} (H : Seps (A :: B :: l) I h) : Seps (B :: A :: l) I h := by
  obtain ⟨h1, h2, ho, l1, l2, ha, h3, h4, ho', l3, l4, hb, hl⟩ := H
  refine ⟨h3, fun x => if (h3 x).isSome then none else h x, ?_, (PMap.le_trans l3 l2), ?_, hb, h1, h4, ?_, ?_, ?_, ha, hl⟩
  · intro x
    cases h : h3 x <;> simp [h]
  · intro x o hx
    by_cases e : (h3 x).isSome <;> simp [e] at hx; exact hx
  · exact PMap.off_le ho l4
  · intro x o hx
    have : h3 x = none := by
      rcases ho x with h | h
      · rw [h] at hx; cases hx
      · cases h3x : h3 x with
        | none => rfl
        | some u => rw [l3 x u h3x] at h; cases h
    simp [this, l1 x o hx]
  · intro x o hx
    have : h3 x = none := (ho' x).resolve_right (by rw [hx]; simp)
    simp [this, l2 x o (l4 x o hx)]
theorem Seps.tail {I h : PMap} (g : ∀ I h, Seps l I h → Seps l' I h) (H : Seps (A :: l) I h) : Seps (A :: l') I h := by
  obtain ⟨h1, h2, ho, l1, l2, ha, hl⟩ := H
  exact ⟨h1, h2, ho, l1, l2, ha, g _ _ hl⟩
theorem Seps.perm (hp : l.Perm l') : ∀ {I h : PMap}, Seps l I h → Seps l' I h := by
  induction hp with
  | nil => exact fun h => h
  | cons x _ ih => exact fun h => Seps.tail (fun _ _ h => ih h) h
  | swap x y _ => exact fun h => Seps.swap h
  | trans _ _ i1 i2 => exact fun h => i2 (i1 h)
theorem St.perm (H : St W l w) (hp : l.Perm l') : St W l' w := H.imp fun _ _ h => h.perm hp
def front (i : Nat) (l : List Assn) : List Assn := match l, i with
  | [], _ => []
  | A :: l, 0 => A :: l
  | A :: l, i + 1 => match front i l with
    | [] => [A]
    | B :: r => B :: A :: r
theorem front_perm : ∀ (i : Nat) (l : List Assn), l.Perm (front i l)
  | _, [] => by simp [front]
  | 0, _ :: _ => .refl _
  | i + 1, A :: l => by
    have ih := front_perm i l
    simp only [front]
    cases hf : front i l with
    | nil => rw [hf] at ih; rw [List.Perm.eq_nil ih]
    | cons B r => rw [hf] at ih; exact (ih.cons A).trans (.swap B A r)
theorem St.front (i : Nat) (H : St W l w) : St W (front i l) w := H.perm (front_perm i l)
def ord : List Nat → List Assn → List Assn
  | [], l => l
  | i :: is, l => _root_.Go.Proofs.YtpdaapffkdejoaaGreat.Cf.front (i + (is.filter fun j => Nat.blt i j).length) (ord is l)
theorem St.ord : ∀ (is : List Nat), St W l w → St W (Cf.ord is l) w
  | [], H => H
  | i :: is, H => (St.ord is H).front _
theorem St.drop (H : St W (A :: l) w) : St W l w := H.imp fun _ _ ⟨_, _, _, _, l2, _, hl⟩ => Seps.mono (PMap.le_refl _) l2 hl
theorem St.ex {α : Type} {f : α → Assn} (H : St W (exA f :: l) w) : ∃ x, St W (f x :: l) w := by
  obtain ⟨I, h, a, b, c, h1, h2, ho, l1, l2, ⟨x, hx⟩, hl⟩ := H.mem
  exact ⟨x, H.os, H.tape, H.output, H.size, I, h, a, b, c, h1, h2, ho, l1, l2, hx, hl⟩
theorem St.toEx {α : Type} {f : α → Assn} (x : α) (H : St W (f x :: l) w) : St W (exA f :: l) w :=
  H.imp fun _ _ ⟨h1, h2, ho, l1, l2, ha, hl⟩ => ⟨h1, h2, ho, l1, l2, ⟨x, ha⟩, hl⟩
theorem St.pu {φ : Prop} (H : St W (puA φ :: l) w) : φ ∧ St W l w := by
  refine ⟨?_, H.drop⟩
  obtain ⟨I, h, a, b, c, h1, h2, ho, l1, l2, hx, hl⟩ := H.mem
  exact hx
theorem St.toPu {φ : Prop} (hφ : φ) (H : St W l w) : St W (puA φ :: l) w :=
  H.imp fun _ h hl => ⟨fun _ => none, h, fun _ => .inl rfl, fun _ _ h => (by cases h), PMap.le_refl _, hφ, hl⟩
theorem Seps.append {l' : List Assn} {I h : PMap} : ∀ {l : List Assn}, Seps (l ++ l') I h ↔ Seps (sepA l :: l') I h
  | [] => ⟨fun H => ⟨fun _ => none, h, fun _ => .inl rfl, fun _ _ h => (by cases h), PMap.le_refl _, trivial, H⟩, fun ⟨_, _, _, _, l2, _, hl⟩ => Seps.mono (PMap.le_refl _) l2 hl⟩
  | A :: l => by
    constructor
    · rintro ⟨h1, h2, ho, l1, l2, ha, hl⟩
      obtain ⟨h3, h4, ho', l3, l4, hs, hl'⟩ := Seps.append.1 hl
      refine ⟨fun x => (h1 x).or (h3 x), h4, ?_, ?_, (PMap.le_trans l4 l2), ⟨h1, h3, PMap.off_le ho l3, ?_, ?_, ha, hs⟩, hl'⟩
      · intro x
        rcases ho' x with h | h
        · rcases PMap.off_le ho l4 x with k | k
          · left; simp [h, k]
          · exact .inr k
        · exact .inr h
      · intro x o hx
        cases e : h1 x with
        | some u => simp [e] at hx; subst hx; exact l1 x u e
        | none => simp [e] at hx; exact l2 x o (l3 x o hx)
      · intro x o hx; simp [hx]
      · intro x o hx
        have : h1 x = none := (PMap.off_le ho l3 x).resolve_right (by rw [hx]; simp)
        simp [this, hx]
    · rintro ⟨h12, h4, ho, l12, l4, ⟨h1, h3, ho', l1, l3, ha, hs⟩, hl'⟩
      refine ⟨h1, fun x => if (h1 x).isSome then none else h x, ?_, (PMap.le_trans l1 l12), ?_, ha, ?_⟩
      · intro x; cases e : h1 x <;> simp [e]
      · intro x o hx
        by_cases e : (h1 x).isSome <;> simp [e] at hx; exact hx
      · refine Seps.append.2 ⟨h3, h4, PMap.off_le (PMap.off_symm (PMap.off_le (PMap.off_symm ho) l3)) (PMap.le_refl _), ?_, ?_, hs, hl'⟩
        · intro x o hx
          have : h1 x = none := (ho' x).resolve_right (by rw [hx]; simp)
          simp [this, l12 x o (l3 x o hx)]
        · intro x o hx
          have : h1 x = none := by
            rcases ho x with k | k
            · cases e : h1 x with
              | none => rfl
              | some u => rw [l1 x u e] at k; cases k
            · rw [k] at hx; cases hx
          simp [this, l4 x o hx]
theorem St.open_ {l' : List Assn} (H : St W (sepA l' :: l) w) : St W (l' ++ l) w := H.imp fun _ _ h => Seps.append.2 h
theorem St.shut {l' : List Assn} (H : St W (l' ++ l) w) : St W (sepA l' :: l) w := H.imp fun _ _ h => Seps.append.1 h
theorem St.dup {φ : PMap → Prop} {m : ∀ {I I' : PMap}, PMap.le I I' → φ I → φ I'} (H : St W (ever φ m :: l) w) : St W (ever φ m :: ever φ m :: l) w :=
  H.imp fun _ h ⟨h1, h2, ho, l1, l2, ha, hl⟩ => ⟨fun _ => none, h, fun _ => .inl rfl, fun _ _ h => (by cases h), PMap.le_refl _, ha, h1, h2, ho, l1, l2, ha, hl⟩
theorem St.everI {φ : PMap → Prop} {m : ∀ {I I' : PMap}, PMap.le I I' → φ I → φ I'} (H : St W (ever φ m :: l) w) : ∃ I : PMap, (∀ b o, I b = some o → w.heap[b]? = some o) ∧ φ I := by
  obtain ⟨I, h, a, b, c, h1, h2, ho, l1, l2, hx, hl⟩ := H.mem
  exact ⟨I, b, hx⟩
theorem St.impEver {φ ψ : PMap → Prop} {m : ∀ {I I' : PMap}, PMap.le I I' → φ I → φ I'} {m' : ∀ {I I' : PMap}, PMap.le I I' → ψ I → ψ I'} (h : ∀ I, φ I → ψ I) (H : St W (ever φ m :: l) w) : St W (ever ψ m' :: l) w :=
  H.imp fun I _ ⟨h1, h2, ho, l1, l2, ha, hl⟩ => ⟨h1, h2, ho, l1, l2, h I ha, hl⟩
theorem St.get {b : Nat} {o : Obj} (H : St W (blk b o :: l) w) : w.heap[b]? = some o := by
  obtain ⟨I, h, a, bb, c, h1, h2, ho, l1, l2, hx, hl⟩ := H.mem
  exact c b o (l1 b o hx)
theorem St.put {b : Nat} {o u : Obj} (H : St W (blk b o :: l) w) (h1 : w'.os = w.os) (h2 : w'.tape = w.tape) (h3 : w'.output = w.output) (h4 : w'.heap = w.heap.setIfInBounds b u) : St W (blk b u :: l) w' := by
  obtain ⟨I, h, a, bb, c, k1, k2, ho, l1, l2, hx, hl⟩ := H.mem
  have hb := c b o (l1 b o hx)
  have hlt : b < w.heap.size := (Array.getElem?_eq_some_iff.1 hb).1
  refine ⟨h1.trans H.os, h2.trans H.tape, h3.trans H.output, by rw [h4]; simpa using H.size, I, fun x => if x = b then some u else k2 x, ?_, ?_, ?_, fun x => if x = b then some u else none, k2, ?_, ?_, ?_, ?_, hl⟩
  · intro x
    by_cases e : x = b
    · subst e; exact .inl ((a x).resolve_right (by rw [l1 x o hx]; simp))
    · simp only [e, if_false]
      exact PMap.off_le a l2 x
  · intro x v hv
    rw [h4, Array.getElem?_setIfInBounds]
    have hne : b ≠ x := by
      intro e; subst e
      have := (a b).resolve_right (by rw [l1 b o hx]; simp)
      rw [this] at hv; cases hv
    rw [if_neg hne]; exact bb x v hv
  · intro x v hv
    rw [h4, Array.getElem?_setIfInBounds]
    by_cases e : x = b
    · subst e; simp at hv; simp [hlt, hv]
    · simp only [e, if_false] at hv
      rw [if_neg (fun h => e h.symm)]
      exact c x v (l2 x v hv)
  · intro x
    by_cases e : x = b
    · subst e; right; exact (ho x).resolve_left (by rw [hx]; simp)
    · left; simp [e]
  · intro x v hv
    by_cases e : x = b <;> simp [e] at hv ⊢; exact hv
  · intro x v hv
    have : x ≠ b := by
      intro e; subst e
      have := (ho x).resolve_left (by rw [hx]; simp)
      rw [this] at hv; cases hv
    simp [this, hv]
  · show (fun x => if x = b then some u else none) b = some u
    simp
theorem St.alloc (o : Obj) (H : St W l w) : St W (blk w.heap.size o :: l) (w.alloc o) := by
  obtain ⟨I, h, a, bb, c, hl⟩ := H.mem
  have hI : I w.heap.size = none := by
    cases e : I w.heap.size with
    | none => rfl
    | some u => have := bb _ _ e; simp at this
  have hh : h w.heap.size = none := by
    cases e : h w.heap.size with
    | none => rfl
    | some u => have := c _ _ e; simp at this
  refine ⟨H.os, H.tape, H.output, by have := H.size; simp; omega, I, fun x => if x = w.heap.size then some o else h x, ?_, ?_, ?_, fun x => if x = w.heap.size then some o else none, h, ?_, ?_, ?_, ?_, hl⟩
  · intro x
    by_cases e : x = w.heap.size
    · subst e; exact .inl hI
    · simp only [e, if_false]; exact a x
  · intro x v hv
    have hlt : x < w.heap.size := (Array.getElem?_eq_some_iff.1 (bb x v hv)).1
    simp only [World.alloc, Array.getElem?_push]
    rw [if_neg (by omega)]; exact bb x v hv
  · intro x v hv
    simp only [World.alloc, Array.getElem?_push]
    by_cases e : x = w.heap.size
    · simp [e] at hv ⊢; exact hv
    · simp only [e, if_false] at hv ⊢; exact c x v hv
  · intro x
    by_cases e : x = w.heap.size
    · right; rw [e]; exact hh
    · left; simp [e]
  · intro x v hv
    by_cases e : x = w.heap.size <;> simp [e] at hv ⊢; exact hv
  · intro x v hv
    have : x ≠ w.heap.size := by intro e; rw [e, hh] at hv; cases hv
    simp [this, hv]
  · show (fun x => if x = w.heap.size then some o else none) w.heap.size = some o
    simp
end
end Go.Proofs.YtpdaapffkdejoaaGreat.Cf
namespace Go.Proofs.YtpdaapffkdejoaaGreat.Cf
set_option linter.unusedSimpArgs false
set_option linter.unusedVariables false
open Go
section
variable {W w w' : World} {l l' : List Assn} {A B : Assn} {α : Type} {T : Ty α} {t : TypeId}
theorem add_at (b o n : Nat) : (⟨b, o, none⟩ : Addr).add n = ⟨b, o + n, none⟩ := by
  unfold Addr.add
  by_cases h : n = 0
  · subst h; rfl
  · rw [if_neg h]
theorem cell_of_blk {b : Nat} {cs : Array Value} {fz : Nat × Nat} (h : w.heap[b]? = some (.cells cs t fz)) (j : Nat) : w.cell? ⟨b, j, none⟩ = cs[j]? := by
  simp [World.cell?, h]
theorem frozen_of_blk {b : Nat} {cs : Array Value} (h : w.heap[b]? = some (.cells cs t)) (j : Nat) : w.frozen? ⟨b, j, none⟩ = false := by
  simp [World.frozen?, h]
def at_ (cs : List Value) (o n : Nat) : List Value := (cs.drop o).take n
theorem rd_cel {b o : Nat} {cs xs : List Value} (H : St W (cel b cs t :: l) w) (h : at_ cs o xs.length = xs) : Rd w ⟨b, o, none⟩ xs := by
  intro j v hv
  have hb := H.get
  rw [add_at, cell_of_blk hb]
  have hlt := (List.getElem?_eq_some_iff.1 hv).1
  rw [← h] at hv
  simp only [at_, List.getElem?_take, List.getElem?_drop] at hv
  rw [if_pos hlt] at hv
  simpa using hv
theorem wr_cel {b o n : Nat} {cs : List Value} (H : St W (cel b cs t :: l) w) (h : o + n ≤ cs.length) : Wr w ⟨b, o, none⟩ n := by
  intro j hj
  have hb := H.get
  rw [add_at]
  refine ⟨?_, frozen_of_blk hb _⟩
  rw [cell_of_blk hb]
  have : o + j < cs.toArray.size := by simp; omega
  rw [Array.getElem?_eq_getElem this]; rfl
theorem rdat_cel {α : Type} (T : Ty α) {b o : Nat} {cs : List Value} {x : α} {a : Addr} (H : St W (cel b cs t :: l) w) (ha : a = ⟨b, o, none⟩) (h : at_ cs o (T.cells x).length = T.cells x) : RdAt T a w x := by subst ha; exact rd_cel H h
def splice (cs : List Value) (o : Nat) (xs : List Value) : List Value := cs.take o ++ xs ++ cs.drop (o + xs.length)
theorem splice_cons (cs : List Value) (o : Nat) (v : Value) (xs : List Value) (h : o < cs.length) : splice (cs.set o v) (o + 1) xs = splice cs o (v :: xs) := by
  simp only [splice, List.length_cons]
  rw [List.drop_set_of_lt (by omega), List.take_set, List.take_add_one]
  have h1 : cs[o]?.toList = [cs[o]] := by rw [List.getElem?_eq_getElem h]; rfl
  rw [h1]
  have h2 : (cs.take o ++ [cs[o]]).set o v = cs.take o ++ [v] := by
    rw [List.set_append_right _ _ (by simp; omega)]
    have : o - (cs.take o).length = 0 := by simp; omega
    rw [this]; rfl
  rw [h2, show o + 1 + xs.length = o + (xs.length + 1) from by omega]
  simp
theorem splice_nil (cs : List Value) (o : Nat) : splice cs o [] = cs := by simp [splice]
theorem setCell_heap {b o : Nat} {cs : Array Value} {fz : Nat × Nat} {v : Value} (h : w.heap[b]? = some (.cells cs t fz)) : (w.setCell ⟨b, o, none⟩ v).heap = w.heap.setIfInBounds b (.cells (cs.setIfInBounds o v) t fz) := by
  have hlt : b < w.heap.size := (Array.getElem?_eq_some_iff.1 h).1
  simp only [World.setCell]
  apply Array.ext_getElem?
  intro i
  rw [Array.getElem?_modify, Array.getElem?_setIfInBounds]
  by_cases e : b = i
  · subst e
    have hb : w.heap[b] = .cells cs t fz := by rw [Array.getElem?_eq_getElem hlt] at h; exact Option.some.inj h
    simp [hlt, hb]
  · simp [e]
theorem putc_cel {b : Nat} : ∀ (xs : List Value) (o i : Nat) (cs : List Value) (w : World), St W (cel b cs t :: l) w → o + i + xs.length ≤ cs.length →
    St W (cel b (splice cs (o + i) xs) t :: l) (putc w ⟨b, o, none⟩ i xs)
  | [], o, i, cs, w, H, _ => by rw [splice_nil]; exact H
  | v :: xs, o, i, cs, w, H, hl => by
    have hb := H.get
    have hlt : o + i < cs.length := by simp at hl; omega
    have H1 : St W (cel b (cs.set (o + i) v) t :: l) (w.setCell ⟨b, o + i, none⟩ v) := H.put rfl rfl rfl (by rw [setCell_heap hb]; simp)
    have := putc_cel xs o (i + 1) (cs.set (o + i) v) _ H1 (by simp at hl ⊢; omega)
    rw [show o + (i + 1) = o + i + 1 from by omega, splice_cons _ _ _ _ hlt] at this
    simpa only [putc, add_at] using this
theorem nw_st {x : α} {k : Addr → World → Prop} (H : St W l w) (hk : ∀ b w', St W (cel b (T.cells x) t :: l) w' → k ⟨b, 0, none⟩ w') : nw t T x w k := hk _ _ (H.alloc _)
theorem nwS_st {xs : List α} {k : Addr → World → Prop} (H : St W l w) (hk : ∀ b w', St W (cel b (xs.flatMap T.cells) t :: l) w' → k ⟨b, 0, none⟩ w') : nwS t T xs w k := hk _ _ (H.alloc _)
theorem nwMap_st {k : Nat → World → Prop} (H : St W l w) (hk : ∀ b w', St W (blk b (.map #[] 0) :: l) w' → k b w') : nwMap w k := hk _ _ (H.alloc _)
theorem dr_st {k : World → Prop} (H : St W l w) (hk : ∀ w', St W l w' → k w') : dr w k := hk _ H.drew
theorem ld_st {b o : Nat} {cs : List Value} {x : α} {a : Addr} {k : α → Prop} (i : Nat) (H : St W l w) (hi : front i l = cel b cs t :: l') (ha : a = ⟨b, o, none⟩) (hx : at_ cs o (T.cells x).length = T.cells x) (hk : k x) : ex (RdAt T a w) k :=
  ⟨x, by subst ha; exact rd_cel (hi ▸ H.front i) hx, hk⟩
theorem st_st {b o : Nat} {cs : List Value} {x : α} {a : Addr} {k : World → Prop} (i : Nat) (H : St W l w) (hi : front i l = cel b cs t :: l') (ha : a = ⟨b, o, none⟩) (hl : o + (T.cells x).length ≤ cs.length)
    (hk : ∀ w', St W (cel b (splice cs o (T.cells x)) t :: l') w' → k w') : st T a x w k := by
  subst ha
  exact ⟨wr_cel (hi ▸ H.front i) hl, hk _ (putc_cel (T.cells x) o 0 cs w (hi ▸ H.front i) (by simpa using hl))⟩
theorem ex_i {α : Type} {C k : α → Prop} (x : α) (h : C x) (hk : k x) : ex C k := ⟨x, h, hk⟩
theorem nc_st {p : Option Addr} {a : Addr} {k : Addr → Prop} (h : p = some a) (hk : k a) : ex (NC p) k := ⟨a, h, hk⟩
def orA (A B : Assn) : Assn := ⟨fun I h => A.p I h ∨ B.p I h, fun hI hh h => h.imp (A.mono hI hh) (B.mono hI hh)⟩
theorem St.or (H : St W (orA A B :: l) w) : St W (A :: l) w ∨ St W (B :: l) w := by
  obtain ⟨I, h, a, b, c, h1, h2, ho, l1, l2, hx, hl⟩ := H.mem
  rcases hx with hx | hx
  · exact .inl ⟨H.os, H.tape, H.output, H.size, I, h, a, b, c, h1, h2, ho, l1, l2, hx, hl⟩
  · exact .inr ⟨H.os, H.tape, H.output, H.size, I, h, a, b, c, h1, h2, ho, l1, l2, hx, hl⟩
theorem St.inl (H : St W (A :: l) w) : St W (orA A B :: l) w := H.imp fun _ _ ⟨h1, h2, ho, l1, l2, ha, hl⟩ => ⟨h1, h2, ho, l1, l2, .inl ha, hl⟩
theorem St.inr (H : St W (B :: l) w) : St W (orA A B :: l) w := H.imp fun _ _ ⟨h1, h2, ho, l1, l2, ha, hl⟩ => ⟨h1, h2, ho, l1, l2, .inr ha, hl⟩
def nilS : Slc := ⟨none, 0, 0⟩
def row (T : Ty α) (t : TypeId) (sz : Nat) (s : Slc) (xs : List α) : Assn :=
  orA (puA (s = nilS ∧ xs = [])) (exA fun b => exA fun rest => sepA [puA (s.a = some ⟨b, 0, none⟩ ∧ s.len = xs.length ∧ s.len ≤ s.cap ∧ (s.cap - s.len) * sz ≤ rest.length), cel b (xs.flatMap T.cells ++ rest) t])
def RoP (T : Ty α) (s : Slc) (xs : List α) (I : PMap) : Prop :=
  xs.length = s.len ∧ (xs = [] ∨ ∃ b o arr t fz, s.a = some ⟨b, o, none⟩ ∧ I b = some (.cells arr t fz) ∧ ∀ j v, (xs.flatMap T.cells)[j]? = some v → arr[o + j]? = some v)
theorem RoP.mono {s : Slc} {xs : List α} {I I' : PMap} (h : PMap.le I I') : RoP T s xs I → RoP T s xs I' := fun ⟨h1, h2⟩ =>
  ⟨h1, h2.imp id fun ⟨b, o, arr, t, fz, h3, h4, h5⟩ => ⟨b, o, arr, t, fz, h3, h _ _ h4, h5⟩⟩
def ro (T : Ty α) (s : Slc) (xs : List α) : Assn := ever (RoP T s xs) RoP.mono
theorem row_nil (T : Ty α) (t : TypeId) (sz : Nat) (H : St W l w) : St W (row T t sz nilS [] :: l) w := St.inl (St.toPu ⟨rfl, rfl⟩ H)
theorem row_open {sz : Nat} {s : Slc} {xs : List α} (H : St W (row T t sz s xs :: l) w) :
    (s = nilS ∧ xs = [] ∧ St W l w) ∨ ∃ b rest, s.a = some ⟨b, 0, none⟩ ∧ s.len = xs.length ∧ s.len ≤ s.cap ∧ (s.cap - s.len) * sz ≤ rest.length ∧ St W (cel b (xs.flatMap T.cells ++ rest) t :: l) w := by
  rcases H.or with H | H
  · obtain ⟨⟨h1, h2⟩, H⟩ := H.pu
    exact .inl ⟨h1, h2, H⟩
  · obtain ⟨b, H⟩ := H.ex
    obtain ⟨rest, H⟩ := H.ex
    have H := H.open_
    obtain ⟨⟨h1, h2, h3, h4⟩, H⟩ := St.pu (φ := s.a = some ⟨b, 0, none⟩ ∧ s.len = xs.length ∧ s.len ≤ s.cap ∧ (s.cap - s.len) * sz ≤ rest.length) H
    exact .inr ⟨b, rest, h1, h2, h3, h4, H⟩
theorem row_shut {sz b : Nat} {rest : List Value} {s : Slc} {xs : List α} (h1 : s.a = some ⟨b, 0, none⟩) (h2 : s.len = xs.length) (h3 : s.len ≤ s.cap) (h4 : (s.cap - s.len) * sz ≤ rest.length) (H : St W (cel b (xs.flatMap T.cells ++ rest) t :: l) w) :
    St W (row T t sz s xs :: l) w := St.inr (St.toEx b (St.toEx rest (St.shut (l' := [puA _, cel b (xs.flatMap T.cells ++ rest) t]) (St.toPu ⟨h1, h2, h3, h4⟩ H))))
theorem row_new {sz b : Nat} {xs : List α} {m : Nat} (hm : m = xs.length) (H : St W (cel b (xs.flatMap T.cells) t :: l) w) : St W (row T t sz ⟨some ⟨b, 0, none⟩, m, m⟩ xs :: l) w :=
  row_shut (rest := []) rfl hm (Nat.le_refl _) (by simp) (by rw [List.append_nil]; exact H)
theorem row_len {sz : Nat} {s : Slc} {xs : List α} (H : St W (row T t sz s xs :: l) w) : s.len = xs.length := by
  rcases row_open H with ⟨rfl, rfl, _⟩ | ⟨b, rest, _, h, _⟩
  · rfl
  · exact h
theorem ro_len {s : Slc} {xs : List α} (H : St W (ro T s xs :: l) w) : s.len = xs.length := by
  obtain ⟨I, _, h⟩ := H.everI; exact h.1.symm
theorem flat_at {sz : Nat} (hl : ∀ x, (T.cells x).length = sz) : ∀ (xs : List α) (i : Nat) (x : α), xs[i]? = some x → ∀ j v, (T.cells x)[j]? = some v → (xs.flatMap T.cells)[i * sz + j]? = some v
  | [], i, x, h, _, _, _ => by simp at h
  | y :: xs, 0, x, h, j, v, hv => by
    simp at h; subst h
    have hlt := (List.getElem?_eq_some_iff.1 hv).1
    rw [List.flatMap_cons, Nat.zero_mul, Nat.zero_add, List.getElem?_append_left hlt]; exact hv
  | y :: xs, i + 1, x, h, j, v, hv => by
    have ih := flat_at hl xs i x (by simpa using h) j v hv
    rw [List.flatMap_cons, List.getElem?_append_right (by rw [hl, Nat.add_mul]; omega), hl]
    rw [show (i + 1) * sz + j - sz = i * sz + j from by rw [Nat.add_mul]; omega]; exact ih
theorem rd_row {sz : Nat} {s : Slc} {xs : List α} {i : Int} {a : Addr} {x : α} (hl : ∀ x, (T.cells x).length = sz) (ha : IxA s sz i a) (hx : xs[i.toNat]? = some x) (H : St W (row T t sz s xs :: l) w) : Rd w a (T.cells x) := by
  obtain ⟨c, hc, h0, h1, rfl⟩ := ha
  rcases row_open H with ⟨rfl, rfl, H⟩ | ⟨b, rest, h2, h3, h4, h5, H⟩
  · cases hc
  · rw [h2] at hc; injection hc with hc; subst hc
    have hb := H.get
    intro j v hv
    rw [add_at, add_at, cell_of_blk hb, Nat.zero_add]
    have := flat_at hl xs i.toNat x hx j v hv
    have hlt := (List.getElem?_eq_some_iff.1 this).1
    simp only [List.getElem?_toArray]
    rw [List.getElem?_append_left hlt]; exact this
theorem rd_ro {sz : Nat} {s : Slc} {xs : List α} {i : Int} {a : Addr} {x : α} (hl : ∀ x, (T.cells x).length = sz) (ha : IxA s sz i a) (hx : xs[i.toNat]? = some x) (H : St W (ro T s xs :: l) w) : Rd w a (T.cells x) := by
  obtain ⟨c, hc, h0, h1, rfl⟩ := ha
  obtain ⟨I, hI, h2, h3 | ⟨b, o, arr, t', fz, h4, h5, h6⟩⟩ := H.everI
  · rw [h3] at hx; simp at hx
  · rw [h4] at hc; injection hc with hc; subst hc
    intro j v hv
    rw [add_at, add_at, cell_of_blk (hI _ _ h5)]
    rw [show o + i.toNat * sz + j = o + (i.toNat * sz + j) from by omega]
    exact h6 _ _ (flat_at hl xs i.toNat x hx j v hv)
theorem ixa_row {sz : Nat} {s : Slc} {xs : List α} {i : Int} {k : Addr → Prop} (H : St W (row T t sz s xs :: l) w) (h0 : 0 ≤ i) (h1 : i < xs.length) (hk : ∀ a, IxA s sz i a → k a) : ex (IxA s sz i) k := by
  rcases row_open H with ⟨rfl, rfl, H⟩ | ⟨b, rest, h2, h3, _⟩
  · simp at h1; omega
  · exact ⟨_, ⟨_, h2, h0, by omega, rfl⟩, hk _ ⟨_, h2, h0, by omega, rfl⟩⟩
theorem ixa_ro {sz : Nat} {s : Slc} {xs : List α} {i : Int} {k : Addr → Prop} (H : St W (ro T s xs :: l) w) (h0 : 0 ≤ i) (h1 : i < xs.length) (hk : ∀ a, IxA s sz i a → k a) : ex (IxA s sz i) k := by
  obtain ⟨I, hI, h2, h3 | ⟨b, o, arr, t', fz, h4, h5, h6⟩⟩ := H.everI
  · rw [h3] at h1; simp at h1; omega
  · exact ⟨_, ⟨_, h4, h0, by omega, rfl⟩, hk _ ⟨_, h4, h0, by omega, rfl⟩⟩
theorem Rd_sub {a : Addr} {cs ys : List Value} {o : Nat} (h : Rd w a cs) (ha : a.spot = none) (hs : at_ cs o ys.length = ys) : Rd w (a.add o) ys := by
  intro j v hv
  have hlt := (List.getElem?_eq_some_iff.1 hv).1
  rw [← hs] at hv
  simp only [at_, List.getElem?_take, List.getElem?_drop] at hv
  rw [if_pos hlt] at hv
  have := h (o + j) v hv
  obtain ⟨b, p, q⟩ := a
  simp only at ha; subst ha
  rw [add_at, add_at] at *
  rw [show p + o + j = p + (o + j) from by omega]; exact this
theorem RdO_row {sz : Nat} {s : Slc} {xs : List α} (H : St W (row T t sz s xs :: l) w) : RdS T w s xs := by
  rcases row_open H with ⟨rfl, rfl, H⟩ | ⟨b, rest, h2, h3, h4, h5, H⟩
  · exact ⟨rfl, rfl⟩
  · refine ⟨h3.symm, ?_⟩
    rw [h2]
    have hb := H.get
    intro j v hv
    have hlt := (List.getElem?_eq_some_iff.1 hv).1
    rw [add_at, cell_of_blk hb, Nat.zero_add]
    simp only [List.getElem?_toArray]
    rw [List.getElem?_append_left hlt]; exact hv
theorem RdO_ro {s : Slc} {xs : List α} (H : St W (ro T s xs :: l) w) : RdS T w s xs := by
  obtain ⟨I, hI, h2, h3 | ⟨b, o, arr, t', fz, h4, h5, h6⟩⟩ := H.everI
  · refine ⟨h2, ?_⟩
    subst h3
    generalize s.a = q
    cases q with
    | none => rfl
    | some a => intro j v hv; simp at hv
  · refine ⟨h2, ?_⟩
    rw [h4]
    intro j v hv
    rw [add_at, cell_of_blk (hI _ _ h5)]
    exact h6 _ _ hv
theorem app_row {sz by_ : Nat} {s : Slc} {xs new : List α} {k : Slc → World → Prop} (hl : ∀ x, (T.cells x).length = sz) (H : St W (row T t sz s xs :: l) w) (hb : (xs.length + new.length) * by_ ≤ 140737488355328)
    (hk : ∀ r w', St W (row T t sz r (xs ++ new) :: l) w' → k r w') : app t T sz by_ s new w k := by
  have hn := row_len H
  have hrd := RdO_row H
  refine ⟨fun hc => ?_, fun hc => ⟨by rw [hn]; exact hb, xs, hrd, fun c rest h1 h2 => ?_⟩⟩
  · rcases row_open H with ⟨rfl, rfl, H0⟩ | ⟨b, rest, h2, h3, h4, h5, H⟩
    · have h0 : new = [] := by
        cases new with
        | nil => rfl
        | cons => simp [nilS] at hc
      subst h0
      exact hk _ _ (row_nil T t sz H0)
    · rw [h2]
      simp only [add_at, Nat.zero_add]
      have hfl : (xs.flatMap T.cells).length = s.len * sz := by rw [flat_len hl, h3]
      have hnl : (new.flatMap T.cells).length = new.length * sz := flat_len hl _
      have hrl : new.length * sz ≤ rest.length := Nat.le_trans (Nat.mul_le_mul_right sz (by omega)) h5
      refine ⟨wr_cel H (by simp [hfl]; omega), hk _ _ ?_⟩
      have := putc_cel (new.flatMap T.cells) (s.len * sz) 0 _ _ H (by simp [hfl, hnl]; omega)
      refine row_shut (rest := rest.drop (new.length * sz)) rfl (by simp; omega) (by simpa using hc) (by
        rw [List.length_drop]
        have e : (s.cap - (s.len + new.length)) * sz = (s.cap - s.len) * sz - new.length * sz := by rw [← Nat.sub_mul]; congr 1; omega
        simp only
        rw [e]; omega) ?_
      have e : splice (xs.flatMap T.cells ++ rest) (s.len * sz + 0) (new.flatMap T.cells) = (xs ++ new).flatMap T.cells ++ rest.drop (new.length * sz) := by
        simp only [splice, Nat.add_zero, hnl]
        rw [← hfl, List.take_left, List.drop_append]
        simp
      rw [e] at this
      exact this
  · have H1 : St W l w.drew := (H.drop).drew
    refine hk _ _ (row_shut rfl (by simp; omega) h1 (by simpa using Nat.le_of_eq h2.symm) (H1.alloc _))
theorem apl_row {sz by_ : Nat} {s : Slc} {xs new : List α} {k : Slc → World → Prop} (hl : ∀ x, (T.cells x).length = sz) (i : Nat) (H : St W l w) (hi : front i l = row T t sz s xs :: l') (hb : (xs.length + new.length) * by_ ≤ 140737488355328)
    (hk : ∀ r w', St W (row T t sz r (xs ++ new) :: l') w' → k r w') : apl t T sz by_ s new w k := by
  have H1 : St W (row T t sz s xs :: l') w := hi ▸ H.front i
  have H2 := H1.alloc (.cells (new.flatMap T.cells).toArray t)
  exact app_row hl H2.drop hb hk
end
end Go.Proofs.YtpdaapffkdejoaaGreat.Cf
namespace Go.Proofs.YtpdaapffkdejoaaGreat.Cf
set_option linter.unusedSimpArgs false
set_option linter.unusedVariables false
open Go
section
variable {W w w' : World} {l l' : List Assn} {A B : Assn} {α : Type} {T : Ty α} {t : TypeId} {k : IntKind}
theorem lookup_ups (key : Int) (v : α) (x : Int) : ∀ es : List (Int × α), (ups key v es).lookup x = if x == key then some v else es.lookup x
  | [] => by
    by_cases h : (x == key) = true
    · simp [ups, List.lookup, h]
    · simp only [Bool.not_eq_true] at h; simp [ups, List.lookup, h]
  | (a, b) :: es => by
    have ih := lookup_ups key v x es
    simp only [ups]
    by_cases h : (key == a) = true
    · have e : key = a := by simpa using h
      subst e
      by_cases g : (x == key) = true
      · simp [List.lookup, g]
      · simp only [Bool.not_eq_true] at g; simp [List.lookup, g]
    · simp only [Bool.not_eq_true] at h
      simp only [h, Bool.false_eq_true, if_false, List.lookup, ih]
      by_cases g : (x == a) = true
      · have e : x = a := by simpa using g
        subst e
        have : (x == key) = false := by simpa using fun e => by simp [e] at h
        simp [this]
      · simp only [Bool.not_eq_true] at g; simp [g]
theorem keys_ups (key : Int) (v : α) : ∀ es : List (Int × α), (ups key v es).map (·.1) = if (es.lookup key).isSome then es.map (·.1) else es.map (·.1) ++ [key]
  | [] => rfl
  | (a, b) :: es => by
    have ih := keys_ups key v es
    simp only [ups]
    by_cases h : (key == a) = true
    · have e : key = a := by simpa using h
      subst e; simp [List.lookup]
    · simp only [Bool.not_eq_true] at h
      simp only [h, Bool.false_eq_true, if_false, List.lookup, List.map_cons, ih]
      split <;> simp
theorem lookup_none {key : Int} : ∀ {es : List (Int × α)}, es.lookup key = none ↔ key ∉ es.map (·.1)
  | [] => by simp
  | (a, b) :: es => by
    by_cases h : (key == a) = true
    · have e : key = a := by simpa using h
      subst e; simp [List.lookup]
    · simp only [Bool.not_eq_true] at h
      have e : key ≠ a := by simpa using h
      simp only [List.lookup, h, List.map_cons, List.mem_cons, e, false_or]
      exact lookup_none
theorem nodup_ups {key : Int} {v : α} {es : List (Int × α)} (h : (es.map (·.1)).Nodup) : ((ups key v es).map (·.1)).Nodup := by
  rw [keys_ups]
  split
  · exact h
  · rename_i hn
    have : es.lookup key = none := by cases e : es.lookup key with | none => rfl | some u => rw [e] at hn; simp at hn
    rw [List.nodup_append]
    refine ⟨h, by simp, ?_⟩
    intro a ha b hb e
    simp at hb; subst hb; subst e
    exact lookup_none.1 this ha
theorem keys_del {key : Int} : ∀ {es : List (Int × α)}, ((del key es).map (·.1)).Sublist (es.map (·.1))
  | [] => .slnil
  | (a, b) :: es => by
    simp only [del]
    split
    · exact (List.sublist_cons_self _ _)
    · exact (keys_del (es := es)).cons_cons a
theorem nodup_del {key : Int} {es : List (Int × α)} (h : (es.map (·.1)).Nodup) : ((del key es).map (·.1)).Nodup := h.sublist keys_del
theorem lookup_del (key x : Int) : ∀ es : List (Int × α), (es.map (·.1)).Nodup → (del key es).lookup x = if x == key then none else es.lookup x
  | [], _ => by simp [del]
  | (a, b) :: es, h => by
    have hn : a ∉ es.map (·.1) := (List.nodup_cons.1 h).1
    have ih := lookup_del key x es (List.nodup_cons.1 h).2
    simp only [del]
    by_cases g : (key == a) = true
    · have e : key = a := by simpa using g
      subst e
      simp only [g, if_true, List.lookup]
      by_cases q : (x == key) = true
      · have e : x = key := by simpa using q
        subst e; simp [lookup_none.2 hn]
      · simp only [Bool.not_eq_true] at q; simp [q]
    · simp only [Bool.not_eq_true] at g
      simp only [g, Bool.false_eq_true, if_false, List.lookup, ih]
      by_cases q : (x == a) = true
      · have e : x = a := by simpa using q
        subst e
        have : (x == key) = false := by simpa using fun e => by simp [e] at g
        simp [this]
      · simp only [Bool.not_eq_true] at q; simp [q]
def mapE (T : Ty α) (k : IntKind) (r : Nat) (es : List (Int × α)) : Assn := exA fun arr => exA fun c => sepA [puA (Reps T k arr es ∧ Born arr c ∧ (es.map (·.1)).Nodup), blk r (.map arr c)]
theorem mapE_open {r : Nat} {es : List (Int × α)} (H : St W (mapE T k r es :: l) w) : ∃ arr c, Reps T k arr es ∧ Born arr c ∧ (es.map (·.1)).Nodup ∧ St W (blk r (.map arr c) :: l) w := by
  obtain ⟨arr, H⟩ := H.ex
  obtain ⟨c, H⟩ := H.ex
  have H := H.open_
  obtain ⟨⟨h1, hb, h2⟩, H⟩ := St.pu (φ := Reps T k arr es ∧ Born arr c ∧ (es.map (·.1)).Nodup) H
  exact ⟨arr, c, h1, hb, h2, H⟩
theorem mapE_shut {r : Nat} {es : List (Int × α)} {arr : Array MapEntry} {c : Nat} (h1 : Reps T k arr es) (hb : Born arr c) (h2 : (es.map (·.1)).Nodup) (H : St W (blk r (.map arr c) :: l) w) : St W (mapE T k r es :: l) w :=
  St.toEx arr (St.toEx c (St.shut (l' := [puA _, blk r (.map arr c)]) (St.toPu ⟨h1, hb, h2⟩ H)))
theorem mapE_nodup {r : Nat} {es : List (Int × α)} (H : St W (mapE T k r es :: l) w) : (es.map (·.1)).Nodup := by
  obtain ⟨_, _, _, _, h, _⟩ := mapE_open H; exact h
theorem mapE_new {r : Nat} (T : Ty α) (k : IntKind) (H : St W (blk r (.map #[] 0) :: l) w) : St W (mapE T k r [] :: l) w := mapE_shut (by simp [Reps]) ⟨by simp, by simp⟩ (by simp) H
theorem mget_st {r : Nat} {es : List (Int × α)} {key : Int} {K : Option α → Prop} {m : Option Nat} (i : Nat) (H : St W l w) (hi : front i l = mapE T k r es :: l') (hm : m = some r) (hk : K (es.lookup key)) : ex (MapGet T k m key w) K := by
  obtain ⟨arr, c, h1, hbo, h2, H⟩ := mapE_open (hi ▸ H.front i)
  subst hm
  exact ⟨_, ⟨es, ⟨arr, c, H.get, h1, hbo⟩, rfl⟩, hk⟩
theorem mlen_st {r : Nat} {es : List (Int × α)} {K : Nat → Prop} {m : Option Nat} (i : Nat) (H : St W l w) (hi : front i l = mapE T k r es :: l') (hm : m = some r) (hk : K es.length) : ex (MapLen m w) K := by
  obtain ⟨arr, c, h1, hbo, h2, H⟩ := mapE_open (hi ▸ H.front i)
  subst hm
  have hl : es.length = arr.size := by have := congrArg List.length h1; simpa using this.symm
  exact ⟨_, ⟨arr, c, H.get, hl⟩, hk⟩
theorem setMap_put {r : Nat} {o : Obj} {arr : Array MapEntry} {c : Nat} (H : St W (blk r o :: l) w) : St W (blk r (.map arr c) :: l) (setMap w r arr c) := H.put rfl rfl rfl rfl
theorem mput_st {r : Nat} {es : List (Int × α)} {key : Int} {v : α} {K : World → Prop} {m : Option Nat} (i : Nat) (H : St W l w) (hi : front i l = mapE T k r es :: l') (hm : m = some r)
    (hk : ∀ w', St W (mapE T k r (ups key v es) :: l') w' → K w') : mput T k m key v w K := by
  obtain ⟨arr, c, h1, hbo, h2, H⟩ := mapE_open (hi ▸ H.front i)
  exact ⟨r, es, hm, ⟨arr, c, H.get, h1, hbo⟩, fun arr' c' h' hb' => hk _ (mapE_shut h' hb' (nodup_ups h2) (setMap_put H))⟩
theorem mdel_st {r : Nat} {es : List (Int × α)} {key : Int} {K : World → Prop} {m : Option Nat} (i : Nat) (H : St W l w) (hi : front i l = mapE T k r es :: l') (hm : m = some r)
    (hk : ∀ w', St W (mapE T k r (del key es) :: l') w' → K w') : mdel T k m key w K := by
  obtain ⟨arr, c, h1, hbo, h2, H⟩ := mapE_open (hi ▸ H.front i)
  subst hm
  exact ⟨es, ⟨arr, c, H.get, h1, hbo⟩, fun arr' c' h' hb' => hk _ (mapE_shut h' hb' (nodup_del h2) (setMap_put H))⟩
theorem wrap_i64 {x : Int} (h0 : -9223372036854775808 ≤ x) (h1 : x ≤ 9223372036854775807) : IntKind.i64.wrap x = x := by
  rw [IntKind.wrap_i64]; omega
theorem sub_at {s r : Slc} {sz : Nat} {i h m : Int} (H : Sub s sz i h m r) : r.len = (h - i).toNat ∧ r.cap = (m - i).toNat ∧ (∀ b o, s.a = some ⟨b, o, none⟩ → m ≠ i → r.a = some ⟨b, o + i.toNat * sz, none⟩) := by
  obtain ⟨h0, h1, h2, h3, rfl⟩ := H
  refine ⟨by simp; omega, by simp; omega, fun b o hb hm => ?_⟩
  have : m.toNat ≠ i.toNat := by omega
  simp only [this, if_false, hb, Option.map_some, add_at]
theorem sub_st {s : Slc} {sz : Nat} {i h m : Int} {K : Slc → Prop} (h0 : 0 ≤ i) (h1 : i ≤ h) (h2 : h ≤ m) (h3 : m ≤ s.cap) (hk : ∀ r, Sub s sz i h m r → K r) : ex (Sub s sz i h m) K := ⟨_, ⟨h0, h1, h2, h3, rfl⟩, hk _ ⟨h0, h1, h2, h3, rfl⟩⟩
theorem rdS_sub {sz : Nat} {s r : Slc} {xs : List α} {i : Int} (hl : ∀ x, (T.cells x).length = sz) (hs : Sub s sz i s.len s.cap r) (H : St W (row T t sz s xs :: l) w) : RdS T w r (xs.drop i.toNat) := by
  obtain ⟨g1, g2, g3⟩ := sub_at hs
  obtain ⟨h0, h1, h2, h3, hr⟩ := hs
  have hn := row_len H
  refine ⟨by rw [g1, List.length_drop]; omega, ?_⟩
  rcases row_open H with ⟨rfl, rfl, H⟩ | ⟨b, rest, k1, k2, k3, k4, H⟩
  · have ha : r.a = none := by
      rw [hr]
      show (if (nilS.cap : Int).toNat = i.toNat then nilS.a else nilS.a.map (·.add (i.toNat * sz))) = none
      split <;> rfl
    rw [ha]; simp [RdO]
  · by_cases e : (s.cap : Int) = i
    · have : xs.drop i.toNat = [] := List.drop_eq_nil_of_le (by omega)
      rw [this]
      cases hra : r.a with
      | none => rfl
      | some a => intro j v hv; simp at hv
    · rw [g3 b 0 k1 e]
      intro j v hv
      have hb := H.get
      rw [add_at, cell_of_blk hb, Nat.zero_add]
      simp only [List.getElem?_toArray]
      have hd : (xs.drop i.toNat).flatMap T.cells = (xs.flatMap T.cells).drop (i.toNat * sz) := by
        have : xs.flatMap T.cells = (xs.take i.toNat).flatMap T.cells ++ (xs.drop i.toNat).flatMap T.cells := by rw [← List.flatMap_append, List.take_append_drop]
        have hl2 : ((xs.take i.toNat).flatMap T.cells).length = i.toNat * sz := by rw [flat_len hl, List.length_take]; congr 1; omega
        rw [this, ← hl2, List.drop_left]
      rw [hd, List.getElem?_drop] at hv
      have hlt := (List.getElem?_eq_some_iff.1 hv).1
      rw [List.getElem?_append_left hlt]; exact hv
end
end Go.Proofs.YtpdaapffkdejoaaGreat.Cf
namespace Go.Proofs.YtpdaapffkdejoaaGreat.Cf
set_option linter.unusedSimpArgs false
set_option linter.unusedVariables false
open Go Go.RowKit
section
variable {W w w' : World} {l l' : List Assn} {A B : Assn} {α β : Type} {T : Ty α} {U : Ty β} {t : TypeId}
theorem lp_i {σ : Type} {body : σ → World → (σ → World → Prop) → Prop} {s : σ} {w : World} (I : σ → World → Prop) (μ : σ → Nat) (h0 : I s w)
    (h : ∀ s w, I s w → body s w fun s' w' => I s' w' ∧ μ s' < μ s) : lp body s w := ⟨I, fun s _ => μ s, h0, h⟩
theorem row_ix {sz : Nat} {s : Slc} {xs : List α} {i : Int} (H : St W (row T t sz s xs :: l) w) (h0 : 0 ≤ i) (h1 : i < xs.length) : ∃ a, IxA s sz i a := by
  obtain ⟨a, h, _⟩ := ixa_row (k := fun _ => True) H h0 h1 fun _ _ => trivial
  exact ⟨a, h⟩
theorem ro_ix {sz : Nat} {s : Slc} {xs : List α} {i : Int} (H : St W (ro T s xs :: l) w) (h0 : 0 ≤ i) (h1 : i < xs.length) : ∃ a, IxA s sz i a := by
  obtain ⟨a, h, _⟩ := ixa_ro (k := fun _ => True) H h0 h1 fun _ _ => trivial
  exact ⟨a, h⟩
theorem row_spot {sz : Nat} {s : Slc} {xs : List α} {i : Int} {a : Addr} (ha : IxA s sz i a) (H : St W (row T t sz s xs :: l) w) : a.spot = none := by
  obtain ⟨c, hc, h0, h1, rfl⟩ := ha
  rcases row_open H with ⟨rfl, rfl, H⟩ | ⟨b, rest, h2, h3, h4, h5, H⟩
  · cases hc
  · rw [h2] at hc; injection hc with hc; subst hc; rw [add_at]
theorem ro_spot {sz : Nat} {s : Slc} {xs : List α} {i : Int} {a : Addr} (ha : IxA s sz i a) (H : St W (ro T s xs :: l) w) : a.spot = none := by
  obtain ⟨c, hc, h0, h1, rfl⟩ := ha
  obtain ⟨I, hI, h2, h3 | ⟨b, o, arr, t', fz, h4, h5, h6⟩⟩ := H.everI
  · rw [h3] at h2; simp at h2; omega
  · rw [h4] at hc; injection hc with hc; subst hc; rw [add_at]
theorem fld_row {sz o : Nat} {s : Slc} {xs : List α} {i : Int} {a : Addr} {x : α} {y : β} (hl : ∀ x, (T.cells x).length = sz) (ha : IxA s sz i a) (hx : xs[i.toNat]? = some x) (hs : at_ (T.cells x) o (U.cells y).length = U.cells y)
    (H : St W (row T t sz s xs :: l) w) : RdAt U (a.add o) w y := Rd_sub (rd_row hl ha hx H) (row_spot ha H) hs
def old (W : World) : Assn := ever (fun I => PMap.le (fun b => W.heap[b]?) I) (fun h k => PMap.le_trans k h)
theorem St.start (W : World) : St W [old W] W :=
  ⟨rfl, rfl, rfl, Nat.le_refl _, fun b => W.heap[b]?, fun _ => none, fun _ => .inr rfl, fun _ _ h => h, fun _ _ h => (by cases h),
    fun _ => none, fun _ => none, fun _ => .inl rfl, fun _ _ h => (by cases h), fun _ _ h => (by cases h), PMap.le_refl _, trivial⟩
theorem ro_old {s : Slc} {xs : List α} (h : RoP T s xs fun b => W.heap[b]?) (H : St W (old W :: l) w) : St W (ro T s xs :: old W :: l) w :=
  St.impEver (m := fun h k => PMap.le_trans k h) (fun I hI => RoP.mono hI h) (St.dup (m := fun h k => PMap.le_trans k h) H)
theorem St.below (H : St W (old W :: l) w) : Below W.heap.size W w :=
  ⟨H.os, H.tape, H.output, H.size, fun k hk => by
    obtain ⟨I, hI, hle⟩ := St.everI (m := fun h k => PMap.le_trans k h) H
    have e : W.heap[k]? = some (W.heap[k]'hk) := Array.getElem?_eq_getElem hk
    rw [e]
    exact hI _ _ (hle _ _ e)⟩
theorem at_all (cs : List Value) : at_ cs 0 cs.length = cs := by simp [at_]
theorem splice_all {cs xs : List Value} (h : cs.length = xs.length) : splice cs 0 xs = xs := by simp [splice, ← h]
theorem vld_st {b : Nat} {x : α} {k : α → Prop} (i : Nat) (H : St W l w) (hi : front i l = cel b (T.cells x) t :: l') (hk : k x) : ex (RdAt T ⟨b, 0, none⟩ w) k := ld_st i H hi rfl (at_all _) hk
theorem vst_st {b n : Nat} {x y : α} {k : World → Prop} (hl : ∀ x, (T.cells x).length = n) (i : Nat) (H : St W l w) (hi : front i l = cel b (T.cells x) t :: l') (hk : ∀ w', St W (cel b (T.cells y) t :: l') w' → k w') : st T ⟨b, 0, none⟩ y w k :=
  st_st i H hi rfl (by rw [hl, hl]; omega) fun w' H => hk w' (by rw [splice_all (by rw [hl, hl])] at H; exact H)
end
end Go.Proofs.YtpdaapffkdejoaaGreat.Cf
namespace Go.Proofs.YtpdaapffkdejoaaGreat.Cf
set_option linter.unusedSimpArgs false
set_option linter.unusedVariables false
open Go Go.RowKit Go.ChangeShapes Go.WideShapes Go.Deep
section
variable {H : Type} {enc : TypeId × Value → H} {P : Program} {W : World} {base : Nat} {spare : Nat → Bool} {held : Bool} {α : Type}
def Opn (enc : TypeId × Value → H) (P : Program) (W : World) (base : Nat) (spare : Nat → Bool) (held : Bool) (t : TypeId) (T : Ty α) (G : α → Prop) : Prop :=
  ∀ fuel cs x, DataW.trod enc P W base spare held fuel t cs = some x → ∃ y : α, cs = T.cells y ∧ G y
theorem opn_int {t : TypeId} {k : IntKind} (ht : P.underlying t = some (.int k)) : Opn enc P W base spare held t (tInt k) fun n => k.min ≤ n ∧ n ≤ k.max := by
  intro fuel cs x h
  obtain ⟨n, rfl, _, hw⟩ := DataW.trod_int ht h
  refine ⟨n, rfl, ?_⟩
  simpa [Lit.wf] using hw
theorem opn_bool {t : TypeId} (ht : P.underlying t = some .bool) : Opn enc P W base spare held t tBool fun _ => True := by
  intro fuel cs x h
  obtain ⟨n, rfl, _⟩ := DataW.trod_bool ht h
  exact ⟨n, rfl, trivial⟩
theorem opn_flt {t : TypeId} (ht : P.underlying t = some (.float .f64)) : Opn enc P W base spare held t tFlt fun b => b < 18446744073709551616 := by
  intro fuel cs x h
  cases fuel with
  | zero => simp [DataW.trod] at h
  | succ n =>
    unfold DataW.trod at h
    rw [ht] at h
    split at h <;> try (simp_all; done)
    have hk : some (TypeDesc.float FloatKind.f64) = some (TypeDesc.float _) := ‹_›
    cases hk
    split at h
    · rename_i hc
      obtain ⟨rfl, hw⟩ := hc
      exact ⟨_, rfl, by simpa [Lit.wf] using hw⟩
    · cases h
theorem flat_split {T : Ty α} {sz : Nat} (hl : ∀ x, (T.cells x).length = sz) : ∀ (xs : List α) (j : Nat) (v : Value), (xs.flatMap T.cells)[j]? = some v → ∃ i k x, j = i * sz + k ∧ k < sz ∧ xs[i]? = some x ∧ (T.cells x)[k]? = some v := by
  intro xs
  induction xs with
  | nil => intro j v h; simp at h
  | cons x xs ih =>
    intro j v h
    rw [List.flatMap_cons] at h
    by_cases hj : j < sz
    · rw [List.getElem?_append_left (by rw [hl]; exact hj)] at h
      exact ⟨0, j, x, by omega, hj, rfl, h⟩
    · rw [List.getElem?_append_right (by rw [hl]; omega), hl] at h
      obtain ⟨i, k, y, e, hk, hy, hv⟩ := ih _ _ h
      refine ⟨i + 1, k, y, ?_, hk, hy, hv⟩
      rw [Nat.add_mul, Nat.one_mul]; omega
theorem many {n : Nat} {p : Nat → α → Prop} (h : ∀ i, i < n → ∃ x, p i x) : ∃ xs : List α, xs.length = n ∧ ∀ i x, xs[i]? = some x → p i x := by
  induction n with
  | zero => exact ⟨[], rfl, fun i x h => (by simp at h)⟩
  | succ n ih =>
    obtain ⟨xs, h1, h2⟩ := ih fun i hi => h i (by omega)
    obtain ⟨x, hx⟩ := h n (by omega)
    refine ⟨xs ++ [x], by simp [h1], fun i y hy => ?_⟩
    by_cases hi : i < n
    · rw [List.getElem?_append_left (by omega)] at hy; exact h2 i y hy
    · rw [List.getElem?_append_right (by omega)] at hy
      have : i = n := by
        rcases Nat.lt_or_ge (i - xs.length) 1 with h | h
        · omega
        · rw [List.getElem?_eq_none (by simpa using h)] at hy; cases hy
      subst this
      simp [h1] at hy; subst hy; exact hx
theorem cell_heap {w : World} {b o : Nat} {v : Value} (h : w.cell? ⟨b, o, none⟩ = some v) : ∃ arr t fz, w.heap[b]? = some (.cells arr t fz) ∧ arr[o]? = some v := by
  unfold World.cell? at h
  split at h
  · rename_i arr t fz hb; exact ⟨arr, t, fz, hb, by simpa using h⟩
  · simp at h
theorem opn_slice {t e : TypeId} {T : Ty α} {G : α → Prop} {sz : Nat} (ht : P.underlying t = some (.slice e)) (hc : P.cellsOf e = sz) (hz : 0 < sz) (hl : ∀ x, (T.cells x).length = sz) (hE : Opn enc P W base spare held e T G) :
    Opn enc P W base spare held t tSlc fun s => (s.len ≤ s.cap ∧ s.cap ≤ 9223372036854775807) ∧ ∃ xs, (∀ x ∈ xs, G x) ∧ RoP T s xs fun b => W.heap[b]? := by
  intro fuel cs x h
  rcases open_slice ht h with ⟨rfl, _⟩ | ⟨a, len, cap, m, n, D, Pl, rfl, hb, h1, h2, hm, _, hx⟩
  · exact ⟨⟨none, 0, 0⟩, rfl, ⟨Nat.le_refl _, Nat.zero_le _⟩, [], (fun _ h => by cases h), rfl, .inl rfl⟩
  · refine ⟨⟨some a, len, cap⟩, rfl, ⟨h1, Nat.le_trans h2 (Nat.le_of_ble_eq_true rfl)⟩, ?_⟩
    have hlm : len ≤ m := by rw [hm]; split <;> omega
    have each : ∀ i, i < len → ∃ y : α, G y ∧ ∀ k v, (T.cells y)[k]? = some v → W.cell? (a.add (i * sz + k)) = some v := by
      intro i hi
      obtain ⟨cs', g1, g2⟩ := hx i (by omega)
      obtain ⟨y, rfl, hy⟩ := hE _ _ _ g2
      rw [hc] at g1
      obtain ⟨_, _, g3⟩ := World.cells?_some g1
      refine ⟨y, hy, fun k v hv => ?_⟩
      have hk := (List.getElem?_eq_some_iff.1 hv).1
      rw [hl] at hk
      have := g3 k hk
      rw [hv] at this
      rw [add_add] at this
      exact this
    obtain ⟨xs, hlen, hxs⟩ := many each
    refine ⟨xs, ?_, hlen, ?_⟩
    · intro x hx
      obtain ⟨i, hi, e⟩ := List.getElem_of_mem hx
      exact (hxs i x (by rw [List.getElem?_eq_getElem hi, e])).1
    · cases xs with
      | nil => exact .inl rfl
      | cons x0 xs0 =>
        right
        obtain ⟨_, g⟩ := hxs 0 x0 rfl
        obtain ⟨b, o, sp⟩ := a
        have hlt : 0 < (T.cells x0).length := by rw [hl]; exact hz
        have g0 := g 0 _ (List.getElem?_eq_getElem hlt)
        have hsp : sp = none := by simpa [Addr.add] using World.cell?_spot g0
        subst hsp
        rw [add_at] at g0
        obtain ⟨arr, t', fz, hb, _⟩ := cell_heap g0
        refine ⟨b, o, arr, t', fz, rfl, hb, fun j v hj => ?_⟩
        obtain ⟨i, k, y, rfl, hk, hy, hv⟩ := flat_split hl _ _ _ hj
        have := (hxs i y hy).2 k v hv
        rw [add_at] at this
        rw [cell_of_blk hb] at this
        exact this
theorem opn_agg {t : TypeId} {fs : Array Field} {n : Nat} {C : α → List Value} {G : α → Prop} (ht : P.underlying t = some (.struct fs)) (hc : P.cellsOf t = n)
    (h : ∀ cs : List Value, cs.length = n → (∀ (i off ty sz : Nat), (∃ f, fs[i]? = some f ∧ f.offset = off ∧ f.type = ty) → P.cellsOf ty = sz → ∃ m x, DataW.trod enc P W base spare held m ty ((cs.drop off).take sz) = some x) → ∃ y, cs = C y ∧ G y) :
    Opn enc P W base spare held t (tAgg C) G := by
  intro fuel cs x hx
  obtain ⟨xs, m, _, _, hl, hxl, hf⟩ := DataW.trod_struct ht hx
  refine h cs (hl.trans hc) ?_
  rintro i off ty sz ⟨f, hf1, rfl, rfl⟩ rfl
  have := hf i f hf1
  have hi : i < fs.size := (Array.getElem?_eq_some_iff.1 hf1).1
  exact ⟨m, xs[i]'(by omega), by rw [this]; exact List.getElem?_eq_getElem _⟩
theorem dj {cs a b : List Value} {o k : Nat} (h : (cs.drop o).take k = a) (h2 : cs.drop (o + k) = b) : cs.drop o = a ++ b := by
  rw [← h, ← h2, ← List.drop_drop]; exact (List.take_append_drop _ _).symm
theorem dend {cs : List Value} {n : Nat} (h : cs.length = n) : cs.drop n = [] := List.drop_eq_nil_of_le (by omega)
theorem calls_of_cl {α : Type} {T : Ty α} {f : FuncId} {args : List Value} {w : World} {k : α → World → Prop} (h : cl P f args T w k) : Calls P f args.toArray w fun e w' => ∃ x, e = .returned (T.enc x) ∧ k x w' :=
  h.mono fun e w' h => by
    cases e with
    | returned v => obtain ⟨x, rfl, h⟩ := h; exact ⟨x, rfl, h⟩
    | _ => exact h.elim
theorem arg_one {t : TypeId} {T : Ty α} {G : α → Prop} {v : Value} {d : DataW H} {ps : List MemPlace} (hO : Opn enc P W base spare held t T G) (h : DataW.Trod enc P W base spare held t v d ps) : ∃ y, v.cells.toList = T.cells y ∧ G y := by
  obtain ⟨m, hm⟩ := h
  exact hO _ _ _ hm
theorem one_of {v : Value} {T : Ty α} {y : α} (h : v.cells.toList = T.cells y) (h1 : v.cells = #[v]) (h2 : T.cells y = [T.enc y]) : v = T.enc y := by
  rw [h1, h2] at h; simpa using h
end
end Go.Proofs.YtpdaapffkdejoaaGreat.Cf
namespace Go.Proofs.YtpdaapffkdejoaaGreat.Cf
set_option linter.unusedSimpArgs false
set_option linter.unusedVariables false
open Go Go.RowKit
section
variable {W w w' : World} {l : List Assn}
theorem St.grown (H : St W l w) (hb : Below w.heap.size w w') : St W l w' := by
  obtain ⟨I, h, a, c1, c2, hl⟩ := H.mem
  have old : ∀ b o, w.heap[b]? = some o → w'.heap[b]? = some o := fun b o e => by
    rw [hb.block b (Array.getElem?_eq_some_iff.1 e).1]; exact e
  exact ⟨hb.os.trans H.os, hb.tape.trans H.tape, hb.output.trans H.output, Nat.le_trans H.size hb.size, I, h, a, fun b o e => old b o (c1 b o e), fun b o e => old b o (c2 b o e), hl⟩
theorem St.made {g : Nat} {o : Obj} (H : St W l w) (hb : Below w.heap.size w w') (hg : w.heap.size ≤ g) (ho : w'.heap[g]? = some o) : St W (blk g o :: l) w' := by
  have H' := H.grown hb
  obtain ⟨I, h, a, c1, c2, hl⟩ := H.mem
  have hI : I g = none := by
    cases e : I g with
    | none => rfl
    | some u => have := (Array.getElem?_eq_some_iff.1 (c1 _ _ e)).1; omega
  have hh : h g = none := by
    cases e : h g with
    | none => rfl
    | some u => have := (Array.getElem?_eq_some_iff.1 (c2 _ _ e)).1; omega
  have old : ∀ b o, w.heap[b]? = some o → w'.heap[b]? = some o := fun b o e => by
    rw [hb.block b (Array.getElem?_eq_some_iff.1 e).1]; exact e
  refine ⟨H'.os, H'.tape, H'.output, H'.size, I, fun x => if x = g then some o else h x, ?_, fun b o e => old b o (c1 b o e), ?_, fun x => if x = g then some o else none, h, ?_, ?_, ?_, ?_, hl⟩
  · intro x
    by_cases e : x = g
    · subst e; exact .inl hI
    · simp only [e, if_false]; exact a x
  · intro x v hv
    by_cases e : x = g
    · subst e; simp at hv; subst hv; exact ho
    · simp only [e, if_false] at hv; exact old _ _ (c2 x v hv)
  · intro x
    by_cases e : x = g
    · right; rw [e]; exact hh
    · left; simp [e]
  · intro x v hv
    by_cases e : x = g <;> simp [e] at hv ⊢; exact hv
  · intro x v hv
    have : x ≠ g := by intro e; rw [e, hh] at hv; cases hv
    simp [this, hv]
  · show (fun x => if x = g then some o else none) g = some o
    simp
theorem St.ownsRow {α : Type} {T : Ty α} {e : TypeId} {sz n : Nat} {v : Value} {xs : List α} (hl : ∀ x, (T.cells x).length = sz) (hn : n = xs.length) (H : St W l w) (hb : Below w.heap.size w w')
    (ho : w'.ownsRow w.heap.size e sz v n (xs.flatMap T.cells)) : ∃ s : Slc, v = tSlc.enc s ∧ St W (row T e sz s xs :: l) w' := by
  obtain ⟨hlen, ⟨rfl, h0⟩ | ⟨g, cap, cur, rfl, hg, hh, h1, h2, h3, h4⟩⟩ := ho
  · have : xs = [] := List.eq_nil_of_length_eq_zero (by omega)
    subst this
    exact ⟨nilS, rfl, row_nil T e sz (H.grown hb)⟩
  · refine ⟨⟨some ⟨g, 0, none⟩, n, cap⟩, rfl, ?_⟩
    refine row_shut (rest := cur.toList.drop (n * sz)) rfl hn h1 ?_ ?_
    · simp only [List.length_drop, Array.length_toList, h3, Nat.sub_mul]
      exact Nat.le_refl _
    · have := H.made hb hg hh
      have e1 : xs.flatMap T.cells ++ cur.toList.drop (n * sz) = cur.toList := by rw [← h4, List.take_append_drop]
      rw [e1]
      simpa [cel] using this
end
end Go.Proofs.YtpdaapffkdejoaaGreat.Cf
namespace Go.Proofs.YtpdaapffkdejoaaGreat.Cf
set_option linter.unusedSimpArgs false
set_option linter.unusedVariables false
open Go Go.RowKit
section
variable {W w w' : World} {l l' : List Assn} {A B : Assn} {α β : Type} {T : Ty α} {U : Ty β} {φ ψ : PMap → Prop}
def Know (l : List Assn) (φ : PMap → Prop) : Prop := ∀ I h, Seps l I h → φ I
theorem Know.here {m : ∀ {I I' : PMap}, PMap.le I I' → φ I → φ I'} : Know (ever φ m :: l) φ := fun _ _ ⟨_, _, _, _, _, ha, _⟩ => ha
theorem Know.tail (k : Know l φ) : Know (A :: l) φ := fun I _ ⟨_, h2, _, _, _, _, hl⟩ => k I h2 hl
theorem Know.imp (k : Know l φ) (h : ∀ I, φ I → ψ I) : Know l ψ := fun I q hl => h I (k I q hl)
theorem Know.app (k : Know l φ) : ∀ l' : List Assn, Know (l' ++ l) φ
  | [] => k
  | _ :: l' => (Know.app k l').tail
theorem Know.and (k : Know l φ) (k' : Know l ψ) : Know l fun I => φ I ∧ ψ I := fun I q hl => ⟨k I q hl, k' I q hl⟩
theorem St.know {m : ∀ {I I' : PMap}, PMap.le I I' → φ I → φ I'} (k : Know l φ) (H : St W l w) : St W (ever φ m :: l) w :=
  H.imp fun I h hl => ⟨fun _ => none, h, fun _ => .inl rfl, fun _ _ h => (by cases h), PMap.le_refl _, k I h hl, hl⟩
theorem Know.everI (k : Know l φ) (H : St W l w) : ∃ I : PMap, (∀ b o, I b = some o → w.heap[b]? = some o) ∧ φ I := by
  obtain ⟨I, h, a, b, c, hl⟩ := H.mem
  exact ⟨I, b, k I h hl⟩
theorem St.ro {s : Slc} {xs : List α} (k : Know l (RoP T s xs)) (H : St W l w) : St W (ro T s xs :: l) w := H.know (m := RoP.mono) k
theorem Know.len {s : Slc} {xs : List α} (k : Know l (RoP T s xs)) (H : St W l w) : s.len = xs.length := ro_len (H.ro k)
theorem Know.ix {sz : Nat} {s : Slc} {xs : List α} {i : Int} (k : Know l (RoP T s xs)) (H : St W l w) (h0 : 0 ≤ i) (h1 : i < xs.length) : ∃ a, IxA s sz i a := ro_ix (H.ro k) h0 h1
theorem Know.rd {sz : Nat} {s : Slc} {xs : List α} {i : Int} {a : Addr} {x : α} (k : Know l (RoP T s xs)) (hl : ∀ x, (T.cells x).length = sz) (ha : IxA s sz i a) (hx : xs[i.toNat]? = some x) (H : St W l w) : Rd w a (T.cells x) := rd_ro hl ha hx (H.ro k)
theorem RoP.nil : RoP T nilS [] = fun _ => True := by funext I; simp [RoP, nilS]
theorem Know.nil : Know l (RoP T nilS []) := fun _ _ _ => ⟨rfl, .inl rfl⟩
theorem Know.below (k : Know l fun I => PMap.le (fun b => W.heap[b]?) I) (H : St W l w) : Below W.heap.size W w := St.below (H.know (m := fun h k => PMap.le_trans k h) k)
theorem Know.old {s : Slc} {xs : List α} (k : Know l fun I => PMap.le (fun b => W.heap[b]?) I) (h : RoP T s xs fun b => W.heap[b]?) : Know l (RoP T s xs) := k.imp fun _ hI => RoP.mono hI h
end
end Go.Proofs.YtpdaapffkdejoaaGreat.Cf
namespace Go.Proofs.YtpdaapffkdejoaaGreat.Cf
set_option linter.unusedSimpArgs false
set_option linter.unusedVariables false
open Go Go.RowKit
section
variable {W w w' : World} {l l' : List Assn} {A B : Assn} {α β : Type} {T : Ty α} {U : Ty β} {t : TypeId} {φ ψ : PMap → Prop}
theorem row_cap {sz : Nat} {s : Slc} {xs : List α} (H : St W (row T t sz s xs :: l) w) : s.len ≤ s.cap := by
  rcases row_open H with ⟨rfl, rfl, _⟩ | ⟨b, rest, _, _, h, _⟩
  · exact Nat.le_refl _
  · exact h
theorem RoP.sub {sz : Nat} {s r : Slc} {xs : List α} {i h m : Int} {I : PMap} (hl : ∀ x, (T.cells x).length = sz) (hs : Sub s sz i h m r) (hh : h ≤ xs.length) (k : RoP T s xs I) : RoP T r ((xs.take h.toNat).drop i.toNat) I := by
  obtain ⟨g1, g2, g3⟩ := sub_at hs
  obtain ⟨h0, h1, h2, h3, _⟩ := hs
  have hlen : ((xs.take h.toNat).drop i.toNat).length = (h - i).toNat := by rw [List.length_drop, List.length_take]; omega
  refine ⟨by rw [hlen, g1], ?_⟩
  by_cases e : m = i
  · left
    exact List.eq_nil_of_length_eq_zero (by rw [hlen]; omega)
  · rcases k.2 with rfl | ⟨b, o, arr, t', fz, k1, k2, k3⟩
    · left; simp
    · right
      refine ⟨b, o + i.toNat * sz, arr, t', fz, g3 b o k1 e, k2, fun j v hv => ?_⟩
      have e2 : xs.flatMap T.cells = (xs.take i.toNat).flatMap T.cells ++ (((xs.take h.toNat).drop i.toNat).flatMap T.cells ++ (xs.drop h.toNat).flatMap T.cells) := by
        have e3 : xs.take i.toNat = (xs.take h.toNat).take i.toNat := by rw [List.take_take, Nat.min_eq_left (by omega)]
        rw [e3, ← List.append_assoc, ← List.flatMap_append, List.take_append_drop, ← List.flatMap_append, List.take_append_drop]
      have e4 : ((xs.take i.toNat).flatMap T.cells).length = i.toNat * sz := by rw [flat_len hl, List.length_take]; congr 1; omega
      rw [Nat.add_assoc]
      refine k3 (i.toNat * sz + j) v ?_
      rw [e2, ← e4, List.getElem?_append_right (by omega), Nat.add_sub_cancel_left]
      rw [List.getElem?_append_left (List.getElem?_eq_some_iff.1 hv).1]; exact hv
theorem Know.sub {sz : Nat} {s r : Slc} {xs : List α} {i h m : Int} (k : Know l (RoP T s xs)) (hl : ∀ x, (T.cells x).length = sz) (hs : Sub s sz i h m r) (hh : h ≤ xs.length) : Know l (RoP T r ((xs.take h.toNat).drop i.toNat)) := k.imp fun _ => RoP.sub hl hs hh
end
end Go.Proofs.YtpdaapffkdejoaaGreat.Cf
namespace Go.Proofs.YtpdaapffkdejoaaGreat.Cf
set_option linter.unusedSimpArgs false
set_option linter.unusedVariables false
open Go Go.ChangeMaps
section
variable {P : Program} {Q : Exit → Act → World → Prop} {n : Nat} {f : Nat → Value} {ds : List Deferred} {w w' : World} {ops : Array Oper} {i : Nat} {rest : List Nat} {o : Oper} {x y z : Operand}
def rng (m : Option Nat) (w : World) (k : Addr → World → Prop) : Prop := match m with
  | none => k ⟨w.heap.size, 0, none⟩ (w.alloc (.mapIter none 0 #[] 0))
  | some b => ∃ arr c, w.heap[b]? = some (.map arr c) ∧ k ⟨w.heap.size, 0, none⟩ (w.alloc (.mapIter (some b) c #[] c))
theorem wp_rng {t kt et : TypeId} {r : Option Nat} {next : Act → World → Prop} {K : Addr → World → Prop} {d : Option Nat} (hd : o.dst = d) (ho : o.op = .range t x) (ht : P.underlying t = some (.map kt et)) (hx : evl n f x = .map r)
    (h : rng r w K) (hK : ∀ a w', K a w' → next (act n (updo f d (.pointer (some a))) ds) w') : Ow P o (act n f ds) w next Q := by
  rw [Ow_eq]
  subst hd
  cases r with
  | none =>
    have hrun := run_range_nilMap (P := P) w t kt et ht
    have hop : (execOp (evl n f) o).run P w = .ok (.value (.pointer (some ⟨w.heap.size, 0, none⟩))) (w.alloc (.mapIter none 0 #[] 0)) := by simp [execOp, ho, hx, hrun]
    simp only [Oper.wp, act_eval, hop, Oper.upon_value, act_put]
    exact hK _ _ h
  | some b =>
    obtain ⟨arr, c, hb, h⟩ := h
    have hrun := run_range_map (P := P) w t kt et b arr c ht hb
    have hop : (execOp (evl n f) o).run P w = .ok (.value (.pointer (some ⟨w.heap.size, 0, none⟩))) (w.alloc (.mapIter (some b) c #[] c)) := by simp [execOp, ho, hx, hrun]
    simp only [Oper.wp, act_eval, hop, Oper.upon_value, act_put]
    exact hK _ _ h
def nxtV : Option (Value × Value) → Value
  | none => .tuple #[.bool false]
  | some p => .tuple #[.bool true, p.1, p.2]
def nxt (a : Addr) (w : World) (k : Option (Value × Value) → World → Prop) : Prop :=
  ∃ r bm since seen c0 es clock, a = ⟨r, 0, none⟩ ∧ w.heap[r]? = some (.mapIter (some bm) since seen c0) ∧ w.heap[bm]? = some (.map es clock) ∧ (∀ e ∈ es.toList, e.born < since) ∧ since ≤ c0 ∧
    ((leftOf es seen).size = 0 → k none w) ∧ ∀ e ∈ (leftOf es seen).toList, ∀ w1, w1 = w ∨ w1 = w.drew → k (some (e.key, e.val)) (setBlock w1 r (.mapIter (some bm) since (seen.push e.born) clock))
theorem wp_nxt {a : Addr} {next : Act → World → Prop} {K : Option (Value × Value) → World → Prop} {d : Option Nat} (hd : o.dst = d) (ho : o.op = .next x false) (hx : evl n f x = .pointer (some a))
    (h : nxt a w K) (hK : ∀ q w', K q w' → next (act n (updo f d (nxtV q)) ds) w') : Ow P o (act n f ds) w next Q := by
  rw [Ow_eq]
  subst hd
  obtain ⟨r, bm, since, seen, c0, es, clock, rfl, hr, hb, hold, hsc, h0, h1⟩ := h
  rcases run_next_at (P := P) w o.type r bm since c0 seen es clock hr hb hold hsc with ⟨hz, hrun⟩ | ⟨e, he, w1, hw1, hrun⟩
  · have hop : (execOp (evl n f) o).run P w = .ok (.value (.tuple #[.bool false])) w := by simp [execOp, ho, hx, hrun]
    simp only [Oper.wp, act_eval, hop, Oper.upon_value, act_put]
    exact hK none _ (h0 hz)
  · have hop : (execOp (evl n f) o).run P w = .ok (.value (.tuple #[.bool true, e.key, e.val])) (setBlock w1 r (.mapIter (some bm) since (seen.push e.born) clock)) := by simp [execOp, ho, hx, hrun]
    simp only [Oper.wp, act_eval, hop, Oper.upon_value, act_put]
    exact hK (some (e.key, e.val)) _ (h1 e he w1 hw1)
theorem q_extractN {q : Option (Value × Value)} (ho : o.op = .extract x 0) (hx : evl n f x = nxtV q) : (execOp (evl n f) o).run P w = .ok (.value (.bool q.isSome)) w := by
  cases q <;> simp [execOp, ho, hx, Instr.extract, nxtV]
def Ent {α : Type} (T : Ty α) (k : IntKind) (a : Addr) (w : World) (p : Int × α) : Prop :=
  ∃ r bm since seen es clock e, a = ⟨r, 0, none⟩ ∧ w.heap[r]? = some (.mapIter (some bm) since (Array.push seen (MapEntry.born e)) clock) ∧ w.heap[bm]? = some (.map es clock) ∧ e ∈ es.toList ∧ (es.toList.map (·.born)).Nodup ∧ e.key = .int k p.1 ∧ e.val = T.enc p.2
theorem q_entry {α : Type} {T : Ty α} {k : IntKind} {a : Addr} {p : Int × α} (ho : o.op = .entry x) (hx : evl n f x = .pointer (some a)) (h : Ent T k a w p) : (execOp (evl n f) o).run P w = .ok (.value (.tuple #[.int k p.1, T.enc p.2])) w := by
  obtain ⟨r, bm, since, seen, es, clock, e, rfl, hr, hb, he, hn, h1, h2⟩ := h
  have hrun := run_entry_at (P := P) w r bm since seen es clock e hr hb he hn
  simp [execOp, ho, hx, hrun, h1, h2]
end
end Go.Proofs.YtpdaapffkdejoaaGreat.Cf
namespace Go.Proofs.YtpdaapffkdejoaaGreat.Cf
set_option linter.unusedSimpArgs false
set_option linter.unusedVariables false
open Go Go.RowKit Go.ChangeMaps
section
variable {W w w' : World} {l l' : List Assn} {A B : Assn} {α β : Type} {T : Ty α} {U : Ty β} {t : TypeId} {φ ψ : PMap → Prop} {k : IntKind}
theorem leastN {p : Nat → Prop} : ∀ n, p n → ∃ m, m ≤ n ∧ p m ∧ ∀ j, p j → m ≤ j := by
  intro n
  induction n using Nat.strongRecOn with
  | _ n ih =>
    intro h
    by_cases c : ∃ j, j < n ∧ p j
    · obtain ⟨j, h1, h2⟩ := c
      obtain ⟨m, h3, h4, h5⟩ := ih j h1 h2
      exact ⟨m, by omega, h4, h5⟩
    · exact ⟨n, Nat.le_refl n, h, fun j hj => Nat.le_of_not_lt fun hlt => c ⟨j, hlt, hj⟩⟩
theorem lp_n {σ : Type} {body : σ → World → (σ → World → Prop) → Prop} {s : σ} {w : World} (I : Nat → σ → World → Prop) (n : Nat) (h0 : I n s w)
    (h : ∀ n s w, I n s w → ∀ K, (∀ m s' w', m < n → I m s' w' → K s' w') → body s w K) : lp body s w := by
  classical
  have pick : ∀ s w, ∃ m, (∃ n, I n s w) → I m s w ∧ ∀ j, I j s w → m ≤ j := by
    intro s w
    by_cases c : ∃ n, I n s w
    · obtain ⟨n, hn⟩ := c
      obtain ⟨m, _, h1, h2⟩ := leastN (p := fun n => I n s w) n hn
      exact ⟨m, fun _ => ⟨h1, h2⟩⟩
    · exact ⟨0, fun hc => absurd hc c⟩
  refine ⟨fun s w => ∃ n, I n s w, fun s w => (pick s w).choose, ⟨n, h0⟩, fun s w hI => ?_⟩
  obtain ⟨h1, h2⟩ := (pick s w).choose_spec hI
  refine h _ s w h1 _ fun m s' w' hm hI' => ⟨⟨m, hI'⟩, ?_⟩
  exact Nat.lt_of_le_of_lt (((pick s' w').choose_spec ⟨m, hI'⟩).2 m hI') hm
structure Way {α : Type} (T : Ty α) (k : IntKind) (arr : Array MapEntry) (c : Nat) (es : List (Int × α)) (left : List (Int × α)) (cur : Option (Int × α)) (since : Nat) (seen : Array Nat) (c0 : Nat) : Prop where
  reps : Reps T k arr es
  born : Born arr c
  dup : (es.map (·.1)).Nodup
  hsince : ∀ x ∈ arr.toList, x.born < since
  le : since ≤ c0
  le2 : since ≤ c
  hleft : (leftOf arr seen).toList.map (fun e => (e.key, e.val)) = left.map fun p => (.int k p.1, T.enc p.2)
  ldup : (left.map (·.1)).Nodup
  sub : ∀ p ∈ left, p ∈ es
  hcur : ∀ p, cur = some p → c0 = c ∧ ∃ e ∈ arr.toList, ∃ s, seen = Array.push s (MapEntry.born e) ∧ e.key = .int k p.1 ∧ e.val = T.enc p.2
def ranging (T : Ty α) (k : IntKind) (r it : Nat) (es left : List (Int × α)) (cur : Option (Int × α)) : Assn :=
  exA fun arr => exA fun c => exA fun since => exA fun seen => exA fun c0 => sepA [puA (Way T k arr c es left cur since seen c0), blk r (.map arr c), blk it (.mapIter (some r) since seen c0)]
theorem ranging_open {r it : Nat} {es left : List (Int × α)} {cur : Option (Int × α)} (H : St W (ranging T k r it es left cur :: l) w) : ∃ arr c since seen c0, Way T k arr c es left cur since seen c0 ∧ St W (blk r (.map arr c) :: blk it (.mapIter (some r) since seen c0) :: l) w := by
  obtain ⟨arr, H⟩ := H.ex
  obtain ⟨c, H⟩ := H.ex
  obtain ⟨since, H⟩ := H.ex
  obtain ⟨seen, H⟩ := H.ex
  obtain ⟨c0, H⟩ := H.ex
  have H := H.open_
  obtain ⟨h, H⟩ := St.pu (φ := Way T k arr c es left cur since seen c0) H
  exact ⟨arr, c, since, seen, c0, h, H⟩
theorem ranging_shut {r it : Nat} {es left : List (Int × α)} {cur : Option (Int × α)} {arr : Array MapEntry} {c since c0 : Nat} {seen : Array Nat} (h : Way T k arr c es left cur since seen c0) (H : St W (blk r (.map arr c) :: blk it (.mapIter (some r) since seen c0) :: l) w) : St W (ranging T k r it es left cur :: l) w :=
  St.toEx arr (St.toEx c (St.toEx since (St.toEx seen (St.toEx c0 (St.shut (l' := [puA _, blk r (.map arr c), blk it (.mapIter (some r) since seen c0)]) (St.toPu h H))))))
theorem ranging_done {r it : Nat} {es left : List (Int × α)} {cur : Option (Int × α)} (H : St W (ranging T k r it es left cur :: l) w) : St W (mapE T k r es :: l) w := by
  obtain ⟨arr, c, since, seen, c0, h, H⟩ := ranging_open H
  exact mapE_shut h.reps h.born h.dup ((H.front 1).drop)
theorem leftOf_nil (arr : Array MapEntry) : leftOf arr #[] = arr := by
  unfold leftOf
  exact Array.filter_eq_self.2 fun x hx => by simp
theorem rng_st {r : Nat} {es : List (Int × α)} {K : Addr → World → Prop} {m : Option Nat} (i : Nat) (H : St W l w) (hi : front i l = mapE T k r es :: l') (hm : m = some r)
    (hk : ∀ it w', St W (ranging T k r it es es none :: l') w' → K ⟨it, 0, none⟩ w') : rng m w K := by
  obtain ⟨arr, c, h1, hbo, h2, H⟩ := mapE_open (hi ▸ H.front i)
  subst hm
  refine ⟨arr, c, H.get, hk _ _ (ranging_shut ⟨h1, hbo, h2, hbo.1, Nat.le_refl c, Nat.le_refl c, by rw [leftOf_nil]; exact h1, h2, fun p hp => hp, fun p hp => by cases hp⟩ ?_)⟩
  exact (H.alloc _).front 1
theorem setBlock_put {r : Nat} {o u : Obj} (H : St W (blk r o :: l) w) : St W (blk r u :: l) (setBlock w r u) := H.put rfl rfl rfl rfl
theorem leftOf_push (arr : Array MapEntry) (seen : Array Nat) (b : Nat) : (leftOf arr (seen.push b)).toList = (leftOf arr seen).toList.filter fun x => x.born != b := by
  unfold leftOf
  simp only [Array.toList_filter, List.filter_filter]
  refine List.filter_congr fun x _ => ?_
  simp only [Array.contains_push, Bool.not_or]
  rw [Bool.and_comm]; rfl
theorem nodup_inj {γ δ : Type} {g : γ → δ} : ∀ {L : List γ}, (L.map g).Nodup → ∀ x ∈ L, ∀ y ∈ L, g x = g y → x = y
  | [], _, x, hx, _, _, _ => by cases hx
  | z :: L, h, x, hx, y, hy, e => by
    have h' := List.nodup_cons.1 h
    rcases List.mem_cons.1 hx with hx' | hx'
    · rcases List.mem_cons.1 hy with hy' | hy'
      · rw [hx', hy']
      · exact absurd (List.mem_map.2 ⟨y, hy', by rw [← e, hx']⟩) h'.1
    · rcases List.mem_cons.1 hy with hy' | hy'
      · exact absurd (List.mem_map.2 ⟨x, hx', by rw [e, hy']⟩) h'.1
      · exact nodup_inj h'.2 x hx' y hy' e
theorem left_step {arr : Array MapEntry} {seen : Array Nat} {left : List (Int × α)} {e : MapEntry} {p : Int × α} (hb : (arr.toList.map (·.born)).Nodup) (hd : (left.map (·.1)).Nodup) (hl : (leftOf arr seen).toList.map (fun e => (e.key, e.val)) = left.map fun p => (.int k p.1, T.enc p.2))
    (he : e ∈ (leftOf arr seen).toList) (e1 : e.key = .int k p.1) :
    (leftOf arr (seen.push e.born)).toList.map (fun e => (e.key, e.val)) = (left.filter fun q => q.1 != p.1).map fun p => (.int k p.1, T.enc p.2) := by
  rw [leftOf_push]
  have hsub : (leftOf arr seen).toList.Sublist arr.toList := by unfold leftOf; rw [Array.toList_filter]; exact List.filter_sublist
  have hbn : ((leftOf arr seen).toList.map (·.born)).Nodup := hb.sublist (hsub.map _)
  generalize (leftOf arr seen).toList = A at hl he hbn
  have hkeys : A.map (·.key) = left.map fun p => Value.int k p.1 := by
    have := congrArg (List.map Prod.fst) hl
    simpa [List.map_map, Function.comp_def] using this
  have hkn : (A.map (·.key)).Nodup := by
    rw [hkeys]
    have e : (left.map fun p => Value.int k p.1) = (left.map (·.1)).map (Value.int k) := by simp
    rw [e]
    exact List.Pairwise.map _ (fun a b h e => h (by injection e)) hd
  have h1 : (A.filter fun x => x.born != e.born) = A.filter ((fun kv : Value × Value => RowKit.intOf kv.1 != p.1) ∘ fun x => (x.key, x.val)) := by
    refine List.filter_congr fun x hx => ?_
    have : x.key ∈ A.map (·.key) := List.mem_map.2 ⟨x, hx, rfl⟩
    rw [hkeys] at this
    obtain ⟨q, hq, eq⟩ := List.mem_map.1 this
    have e2 : RowKit.intOf x.key = q.1 := by rw [← eq]; rfl
    show (x.born != e.born) = (RowKit.intOf x.key != p.1)
    rw [e2, Bool.eq_iff_iff, bne_iff_ne, bne_iff_ne]
    constructor
    · intro h hqp
      have : x = e := nodup_inj hkn x hx e he (by rw [← eq, e1, hqp])
      exact h (by rw [this])
    · intro h hbb
      have : x = e := nodup_inj hbn x hx e he hbb
      rw [this, e1] at eq
      injection eq with _ eq
      exact h eq
  rw [h1, ← List.filter_map, hl, List.filter_map]
  rfl
theorem nxt_st {r it : Nat} {es left : List (Int × α)} {cur : Option (Int × α)} {K : Option (Value × Value) → World → Prop} {a : Addr} (i : Nat) (H : St W l w) (hi : front i l = ranging T k r it es left cur :: l') (ha : a = ⟨it, 0, none⟩)
    (h0 : left = [] → St W (ranging T k r it es left cur :: l') w → K none w)
    (h1 : ∀ p ∈ left, ∀ w', St W (ranging T k r it es (left.filter fun q => q.1 != p.1) (some p) :: l') w' → K (some (.int k p.1, T.enc p.2)) w') : nxt a w K := by
  have H0 : St W (ranging T k r it es left cur :: l') w := hi ▸ H.front i
  obtain ⟨arr, c, since, seen, c0, h, H1⟩ := ranging_open H0
  have hb := H1.get
  have hr := (H1.front 1).get
  refine ⟨it, r, since, seen, c0, arr, c, ha, hr, hb, h.hsince, h.le, fun hz => h0 ?_ H0, fun e he w1 hw1 => ?_⟩
  · have hn : (leftOf arr seen).toList = [] := by
      apply List.eq_nil_of_length_eq_zero
      simpa using hz
    have hl := h.hleft
    rw [hn] at hl
    cases hleft : left with
    | nil => rfl
    | cons p q => rw [hleft] at hl; cases hl
  · have hem : e ∈ arr.toList := by
      unfold leftOf at he
      simp at he ⊢
      exact he.1
    have hmem : (e.key, e.val) ∈ (leftOf arr seen).toList.map fun e => (e.key, e.val) := List.mem_map.2 ⟨e, he, rfl⟩
    rw [h.hleft] at hmem
    obtain ⟨p, hp, ep⟩ := List.mem_map.1 hmem
    have e1 : e.key = .int k p.1 := (Prod.mk.inj ep).1.symm
    have e2 : e.val = T.enc p.2 := (Prod.mk.inj ep).2.symm
    rw [e1, e2]
    have H2 : St W (blk r (.map arr c) :: blk it (.mapIter (some r) since seen c0) :: l') w1 := by
      rcases hw1 with rfl | rfl
      · exact H1
      · exact H1.drew
    refine h1 p hp _ (ranging_shut (arr := arr) (c := c) (since := since) (seen := seen.push e.born) (c0 := c) ⟨h.reps, h.born, h.dup, h.hsince, h.le2, h.le2, ?_, ?_, fun q hq => h.sub q (List.mem_filter.1 hq).1, fun q hq => ?_⟩ ((setBlock_put (H2.front 1)).front 1))
    · exact left_step h.born.2 h.ldup h.hleft he e1
    · exact h.ldup.sublist (List.filter_sublist.map _)
    · cases hq
      exact ⟨rfl, e, hem, seen, rfl, e1, e2⟩
theorem ent_st {r it : Nat} {es left : List (Int × α)} {p : Int × α} {K : Int × α → Prop} {a : Addr} (i : Nat) (H : St W l w) (hi : front i l = ranging T k r it es left (some p) :: l') (ha : a = ⟨it, 0, none⟩) (hk : K p) : ex (Ent T k a w) K := by
  have H0 : St W (ranging T k r it es left (some p) :: l') w := hi ▸ H.front i
  obtain ⟨arr, c, since, seen, c0, h, H1⟩ := ranging_open H0
  have hb := H1.get
  have hr := (H1.front 1).get
  obtain ⟨rfl, e, he, s, rfl, e1, e2⟩ := h.hcur p rfl
  exact ⟨p, ⟨it, r, since, s, arr, c0, e, ha, hr, hb, he, h.born.2, e1, e2⟩, hk⟩
theorem big_out {f : β → Assn} {l1 l2 : List β} {e : β} (H : St W (sepA ((l1 ++ e :: l2).map f) :: l) w) : St W (f e :: sepA ((l1 ++ l2).map f) :: l) w := by
  have H := H.open_
  have hp : ((l1 ++ e :: l2).map f ++ l).Perm ((l1 ++ l2).map f ++ (f e :: l)) := by
    simp only [List.map_append, List.map_cons, List.append_assoc, List.cons_append]
    refine List.Perm.append_left _ ?_
    exact (List.perm_middle (l₁ := l2.map f) (a := f e) (l₂ := l)).symm
  exact (St.shut (H.perm hp)).front 1
theorem big_in {f : β → Assn} {l1 l2 : List β} {e : β} (H : St W (f e :: sepA ((l1 ++ l2).map f) :: l) w) : St W (sepA ((l1 ++ e :: l2).map f) :: l) w := by
  have H := (H.front 1).open_
  have hp : ((l1 ++ l2).map f ++ (f e :: l)).Perm ((l1 ++ e :: l2).map f ++ l) := by
    simp only [List.map_append, List.map_cons, List.append_assoc, List.cons_append]
    refine List.Perm.append_left _ ?_
    exact List.perm_middle
  exact St.shut (H.perm hp)
end
end Go.Proofs.YtpdaapffkdejoaaGreat.Cf
namespace Go.Proofs.YtpdaapffkdejoaaGreat.Cf
set_option linter.unusedSimpArgs false
set_option linter.unusedVariables false
open Go Go.ChangeMaps
section
variable {P : Program} {Q : Exit → Act → World → Prop} {n : Nat} {f : Nat → Value} {ds : List Deferred} {w w' : World} {ops : Array Oper} {i : Nat} {rest : List Nat} {o : Oper} {x y z : Operand}
theorem q_max {a b : Int} {k : IntKind} {ats : Array TypeId} (ho : o.op = .call { callee := .builtin .max, args := #[x, y], argTypes := ats }) (hx : evl n f x = .int k a) (hy : evl n f y = .int k b) :
    (execOp (evl n f) o).run P w = .ok (.value (.int k (max a b))) w := by
  have h := run_max_int2 (P := P) (w := w) ats o.type k k a b
  have e : (if b > a then b else a) = max a b := by omega
  rw [e] at h
  simp only [execOp, ho, resolve, invoke, builtin, List.map_toArray, List.map_cons, List.map_nil, hx, hy, pure_bind, Sem.run_bind, h, Result.andThen_ok, Sem.run_pure]
def mkS {α : Type} (t : TypeId) (T : Ty α) (by_ : Nat) (z : α) (l c : Int) (w : World) (K : Slc → World → Prop) : Prop :=
  0 ≤ l ∧ l ≤ c ∧ (by_ : Int) * c ≤ 281474976710656 ∧ c ≤ 9223372036854775807 ∧ K ⟨some ⟨w.heap.size, 0, none⟩, l.toNat, c.toNat⟩ (w.alloc (.cells ((List.replicate c.toNat z).flatMap T.cells).toArray t))
theorem wp_mkS {α : Type} {T : Ty α} {sz by_ : Nat} {t e : TypeId} {z : α} {l c : Int} {next : Act → World → Prop} {K : Slc → World → Prop} {d : Option Nat} (hd : o.dst = d) (ho : o.op = .makeSlice t x y) (ht : P.underlying t = some (.slice e)) (ok : TyOk P e T sz)
    (hz : ∃ i, P.info? e = some i ∧ i.zero = some (T.enc z) ∧ i.size = sz ∧ i.bytes = by_) (hx : evl n f x = .int .i64 l) (hy : evl n f y = .int .i64 c) (h : mkS e T by_ z l c w K) (hK : ∀ r w', K r w' → next (act n (updo f d (tSlc.enc r)) ds) w') : Ow P o (act n f ds) w next Q := by
  rw [Ow_eq]
  subst hd
  obtain ⟨i, hi, hzz, hs, rfl⟩ := hz
  obtain ⟨h0, h1, h2, h3, h⟩ := h
  have hrun := run_make (P := P) w t e i (T.enc z) ht hi hzz .i64 .i64 l c h0 h1 h2 h3
  have hcells : madeCells (T.enc z).cells (c.toNat * i.size) = ((List.replicate c.toNat z).flatMap T.cells).toArray := by
    have hzc := zeroCells_flat (T := T) (ok.flat z) (ok.len z) c.toNat
    have e1 : (T.enc z).cells.size = i.size := by rw [ok.flat z, hs]; simpa using ok.len z
    have e2 : madeCells (T.enc z).cells (c.toNat * i.size) = Builtin.zeroCells (T.enc z).cells c.toNat := by
      unfold madeCells Builtin.zeroCells; rw [e1]
    rw [e2, ← hzc]
  rw [hcells] at hrun
  have hop : (execOp (evl n f) o).run P w = .ok (.value (tSlc.enc ⟨some ⟨w.heap.size, 0, none⟩, l.toNat, c.toNat⟩)) (w.alloc (.cells ((List.replicate c.toNat z).flatMap T.cells).toArray e)) := by
    simp [execOp, ho, hx, hy, hrun]
  simp only [Oper.wp, act_eval, hop, Oper.upon_value, act_put]
  exact hK _ _ h
def cpy {α : Type} (T : Ty α) (sz : Nat) (s b : Slc) (w : World) (K : Nat → World → Prop) : Prop :=
  ∃ new : List α, new.length = min b.len s.len ∧ RdS T w ⟨b.a, new.length, b.cap⟩ new ∧ match s.a with
    | none => K new.length w
    | some a => Wr w a (new.length * sz) ∧ K new.length (putc w a 0 (new.flatMap T.cells))
theorem wp_cpy {α : Type} {T : Ty α} {sz : Nat} {t u e : TypeId} {s b : Slc} {next : Act → World → Prop} {K : Nat → World → Prop} {d : Option Nat} (hd : o.dst = d) (ho : o.op = .call { callee := .builtin .copy, args := #[x, y], argTypes := #[t, u] }) (ht : P.underlying t = some (.slice e)) (ok : TyOk P e T sz)
    (hx : evl n f x = tSlc.enc s) (hy : evl n f y = tSlc.enc b) (h : cpy T sz s b w K) (hK : ∀ r w', K r w' → next (act n (updo f d (.int .i64 r)) ds) w') : Ow P o (act n f ds) w next Q := by
  rw [Ow_eq]
  subst hd
  obtain ⟨new, hn, hrd, h⟩ := h
  obtain ⟨i, hi, hsz⟩ := ok.size
  have hfc := run_firstCells (P := P) ok.len hrd
  have hfc : Sem.run P (Builtin.firstCells sz new.length (Value.slice b.a b.len b.cap)) w = .ok (new.flatMap T.cells).toArray w := by
    cases hb : b.a with
    | none => rw [hb] at hfc; simpa [Builtin.firstCells] using hfc
    | some a => rw [hb] at hfc; exact hfc
  have hmin : Nat.min b.len s.len = new.length := hn.symm
  have hop : ∀ (v : Value) (w' : World), (Builtin.copy_ #[t, u] o.type #[tSlc.enc s, tSlc.enc b]).run P w = .ok v w' → (execOp (evl n f) o).run P w = .ok (.value v) w' := by
    intro v w' hv
    simp only [execOp, ho, resolve, invoke, builtin]
    simp only [List.map_toArray, List.map_cons, List.map_nil, hx, hy, pure_bind, Sem.run_bind, hv, Result.andThen_ok, Sem.run_pure]
  cases ha : s.a with
  | none =>
    rw [ha] at h
    have hrun : (Builtin.copy_ #[t, u] o.type #[tSlc.enc s, tSlc.enc b]).run P w = .ok (.int .i64 new.length) w := by
      show (Builtin.copy_ #[t, u] o.type #[.slice s.a s.len s.cap, .slice b.a b.len b.cap]).run P w = _
      simp [Builtin.copy_, run_underlying ht, Builtin.lenOf, run_sizeOf hi, hsz, hmin, hfc, ha, goInt]
    simp only [Oper.wp, act_eval, hop _ _ hrun, Oper.upon_value, act_put]
    exact hK _ _ h
  | some a =>
    rw [ha] at h
    have hone : ∀ v ∈ new.flatMap T.cells, v.oneCell' = true := fun v hv => by
      obtain ⟨q, _, hq⟩ := List.mem_flatMap.1 hv; exact ok.one q v hq
    have hst := run_storeCells (P := P) a (new.flatMap T.cells) 0 w (by
      intro j hj
      rw [Nat.zero_add]
      refine h.1 j ?_
      rwa [flat_len ok.len] at hj) hone
    have hrun : (Builtin.copy_ #[t, u] o.type #[tSlc.enc s, tSlc.enc b]).run P w = .ok (.int .i64 new.length) (putc w a 0 (new.flatMap T.cells)) := by
      show (Builtin.copy_ #[t, u] o.type #[.slice s.a s.len s.cap, .slice b.a b.len b.cap]).run P w = _
      simp [Builtin.copy_, run_underlying ht, Builtin.lenOf, run_sizeOf hi, hsz, hmin, hfc, ha, hst, goInt]
    simp only [Oper.wp, act_eval, hop _ _ hrun, Oper.upon_value, act_put]
    exact hK _ _ h.2
end
end Go.Proofs.YtpdaapffkdejoaaGreat.Cf
namespace Go.Proofs.YtpdaapffkdejoaaGreat.Cf
set_option linter.unusedSimpArgs false
set_option linter.unusedVariables false
open Go
section
variable {P : Program} {Q : Exit → Act → World → Prop} {n : Nat} {f : Nat → Value} {ds : List Deferred} {w w' : World} {o : Oper} {x y : Operand}
def B (l : List UInt8) : List Int := l.map fun b => (b.toNat : Int)
def fcmp (op : BinOp) (a b : Nat) : Bool :=
  match op with
  | .eql => FloatKind.f64.format.order a b == some .eq
  | .neq => FloatKind.f64.format.order a b != some .eq
  | .lss => FloatKind.f64.format.order a b == some .lt
  | .leq => FloatKind.f64.format.order a b == some .lt || FloatKind.f64.format.order a b == some .eq
  | .gtr => FloatKind.f64.format.order a b == some .gt
  | .geq => FloatKind.f64.format.order a b == some .gt || FloatKind.f64.format.order a b == some .eq
  | _ => false
def fcmpOp : BinOp → Bool
  | .eql | .neq | .lss | .leq | .gtr | .geq => true
  | _ => false
theorem q_fcmp {op : BinOp} {a b : Nat} {t u : TypeId} (ho : o.op = .binOp op t x y u) (hop : fcmpOp op = true) (hx : evl n f x = .float .f64 a) (hy : evl n f y = .float .f64 b) :
    (execOp (evl n f) o).run P w = .ok (.value (.bool (fcmp op a b))) w := by
  cases op <;> first
    | cases hop; done
    | simp [execOp, ho, hx, hy, eqGuard_at_float, eqGuard_lss, eqGuard_leq, eqGuard_gtr, eqGuard_geq, binOp, Op.floatCmp, fcmp]
def FArith (op : BinOp) (a b : Nat) (r : Nat) : Prop := floatBits op .f64 a b = some r
def F2I (k : IntKind) (b : Nat) (m : Int) : Prop := floatToIntVal .f64 b k = some m
def farOp : BinOp → Bool
  | .add | .sub | .mul | .quo => true
  | _ => false
theorem q_farith {op : BinOp} {a b r : Nat} {t u : TypeId} (ho : o.op = .binOp op t x y u) (hop : farOp op = true) (hx : evl n f x = .float .f64 a) (hy : evl n f y = .float .f64 b) (h : FArith op a b r) :
    (execOp (evl n f) o).run P w = .ok (.value (.float .f64 r)) w := by
  have hr := run_float_arith (P := P) w op t .f64 a b r h
  cases op <;> first
    | cases hop; done
    | simp [execOp, ho, hx, hy, eqGuard_add, eqGuard_sub, eqGuard_mul, eqGuard_quo, hr]
theorem q_cvtFI {k : IntKind} {b : Nat} {m : Int} {s t : TypeId} (ho : o.op = .convert s t x) (hs : P.underlying s = some (.float .f64)) (ht : P.underlying t = some (.int k)) (hx : evl n f x = .float .f64 b) (h : F2I k b m) :
    (execOp (evl n f) o).run P w = .ok (.value (.int k m)) w := by
  have hr := run_convert_float_int (P := P) w s t .f64 k b m (by rw [hs]; rfl) ht h
  simp [execOp, ho, hx, hr]
def Ext (P : Program) (k : FuncId) (e : Array Value → Sem Value) : Prop := ∃ fn, P.funcs[k]? = some fn ∧ (fn.name == "runtime.NumGoroutine") = false ∧ fn.body.isNone = true ∧ Extern.findNext fn = none ∧ Extern.find fn = some e
theorem q_ext {k : FuncId} {e : Array Value → Sem Value} {as_ : List Operand} {ts : Array TypeId} {l : List Value} {v : Value} (ho : o.op = .call { callee := .value (.func k), args := as_.toArray, argTypes := ts }) (he : Ext P k e) (ha : as_.map (evl n f) = l) (hv : (e l.toArray).run P w = .ok v w) :
    (execOp (evl n f) o).run P w = .ok (.value v) w := by
  obtain ⟨fn, hf, h1, h2, h3, h4⟩ := he
  subst ha
  have h5 := run_callFunc_extern hf h1 h2 h3 h4 ((as_.map (evl n f)).toArray) w
  rw [hv] at h5
  simp only [Result.andThen_ok] at h5
  simpa [execOp, ho, resolve, evl, Deferred.ofValue, invoke] using h5
theorem q_f64bits {k : FuncId} {b : Nat} {ts : Array TypeId} (ho : o.op = .call { callee := .value (.func k), args := #[x], argTypes := ts }) (he : Ext P k Extern.MathFloatBits.float64bits) (hx : evl n f x = .float .f64 b) :
    (execOp (evl n f) o).run P w = .ok (.value (.int .u64 b)) w := q_ext (as_ := [x]) (l := [.float .f64 b]) ho he (by simp [hx]) rfl
theorem q_f64from {k : FuncId} {b : Int} {ts : Array TypeId} (ho : o.op = .call { callee := .value (.func k), args := #[x], argTypes := ts }) (he : Ext P k Extern.MathFloatBits.float64frombits) (hx : evl n f x = .int .u64 b) :
    (execOp (evl n f) o).run P w = .ok (.value (.float .f64 b.toNat)) w := q_ext (as_ := [x]) (l := [.int .u64 b]) ho he (by simp [hx]) rfl
theorem q_notU {t : TypeId} {a : Int} {k : IntKind} (ho : o.op = .unOp .xor t x) (hk : k.signed = false) (hx : evl n f x = .int k a) : (execOp (evl n f) o).run P w = .ok (.value (.int k (bits .xor k k.max a))) w := by
  simp [execOp, ho, hx, Op.unary, hk, intBits_xor]
theorem q_negF {t : TypeId} {a : Nat} (ho : o.op = .unOp .neg t x) (hx : evl n f x = .float .f64 a) : (execOp (evl n f) o).run P w = .ok (.value (.float .f64 (Op.negFloat .f64 a))) w := by
  simp [execOp, ho, hx, Op.unary]
end
end Go.Proofs.YtpdaapffkdejoaaGreat.Cf
namespace Go.Proofs.YtpdaapffkdejoaaGreat.Cf
set_option linter.unusedSimpArgs false
set_option linter.unusedVariables false
open Go
section
variable {P : Program} {Q : Exit → Act → World → Prop} {n : Nat} {f : Nat → Value} {ds : List Deferred} {w w' : World} {o : Oper} {x : Operand}
section
variable {ops : Array Oper} {i : Nat} {rest : List Nat} {listed : Array Bool} {G : List (Nat × (World → Prop))} {m : Nat}
theorem rv (k : Nat) {v : Value} (hi : ops.toList[i]? = some o) (hg : o.guard = none) (hd : o.dst = some k) (hv : (execOp (evl n f) o).run P w = .ok (.value v) w')
    (h : Wo P ops Q rest (act n (upd f k v) ds) w') : Wo P ops Q (i :: rest) (act n f ds) w := ro_val (d := some k) hi (.free hg) hd hv h
theorem rp (i k : Nat) {v : Value} (hD : DrOk ops Q) (hi : ops.toList[i]? = some o) (hg : o.guard = none) (hd : o.dst = some k) (hv : ∀ w, (execOp (evl n f) o).run P w = .ok (.value v) w)
    (h : Wg P ops Q G m (listed.setIfInBounds i true) (act n (upd f k v) ds) w) (hf : Region.free .any ops listed i = true := by kernel_rfl) (hr : (Region.ready .any ops listed).contains i = true := by kernel_rfl) : Wg P ops Q G (m + 1) listed (act n f ds) w :=
  rd_pure (i := i) (d := some k) hD hf hr hi (.free hg) hd hv h
end
end
end Go.Proofs.YtpdaapffkdejoaaGreat.Cf
namespace Go.Proofs.YtpdaapffkdejoaaGreat.Cf
open Go
set_option maxRecDepth 100000
set_option linter.unusedVariables false
set_option linter.unusedSimpArgs false
structure S29 where
  s_ : (Option Addr)
def S29.cells (x : S29) : List Value := [.pointer (x.s_)]
@[reducible] def T29 : Ty S29 := tAgg S29.cells
@[reducible] def Z29 : S29 := ⟨(none : Option Addr)⟩
structure S34 where
  past : S29
  rate : Nat
  top : Int
  held : (Option Nat)
  busy : (Option Nat)
  fates : (Option Nat)
def S34.cells (x : S34) : List Value := S29.cells (x.past) ++ ([.float .f64 (x.rate), .int .i64 (x.top), .map (x.held), .map (x.busy), .map (x.fates)])
@[reducible] def T34 : Ty S34 := tAgg S34.cells
@[reducible] def Z34 : S34 := ⟨Z29, (0 : Nat), (0 : Int), (none : Option Nat), (none : Option Nat), (none : Option Nat)⟩
structure S41 where
  Kind : Int
  ID : Int
  Account : Int
  T_ : Int
  N : Int
  Pays : Bool
def S41.cells (x : S41) : List Value := [.int .i64 (x.Kind), .int .i64 (x.ID), .int .i64 (x.Account), .int .i64 (x.T_), .int .i64 (x.N), .bool (x.Pays)]
@[reducible] def T41 : Ty S41 := tAgg S41.cells
@[reducible] def Z41 : S41 := ⟨(0 : Int), (0 : Int), (0 : Int), (0 : Int), (0 : Int), false⟩
structure S52 where
  ID : Int
  Account : Int
  N : Int
  Pays : Bool
def S52.cells (x : S52) : List Value := [.int .i64 (x.ID), .int .i64 (x.Account), .int .i64 (x.N), .bool (x.Pays)]
@[reducible] def T52 : Ty S52 := tAgg S52.cells
@[reducible] def Z52 : S52 := ⟨(0 : Int), (0 : Int), (0 : Int), false⟩
structure S54 where
  Part : S52
  T_ : Int
  Fee : Int
def S54.cells (x : S54) : List Value := S52.cells (x.Part) ++ ([.int .i64 (x.T_), .int .i64 (x.Fee)])
@[reducible] def T54 : Ty S54 := tAgg S54.cells
@[reducible] def Z54 : S54 := ⟨Z52, (0 : Int), (0 : Int)⟩
structure S62 where
  Key : Int
  V : Int
def S62.cells (x : S62) : List Value := [.int .i64 (x.Key), .int .i64 (x.V)]
@[reducible] def T62 : Ty S62 := tAgg S62.cells
@[reducible] def Z62 : S62 := ⟨(0 : Int), (0 : Int)⟩
structure S69 where
  what : Int
  t_ : Int
def S69.cells (x : S69) : List Value := [.int .i64 (x.what), .int .i64 (x.t_)]
@[reducible] def T69 : Ty S69 := tAgg S69.cells
@[reducible] def Z69 : S69 := ⟨(0 : Int), (0 : Int)⟩
structure S86 where
  T_ : Int
  V : Int
def S86.cells (x : S86) : List Value := [.int .i64 (x.T_), .int .i64 (x.V)]
@[reducible] def T86 : Ty S86 := tAgg S86.cells
@[reducible] def Z86 : S86 := ⟨(0 : Int), (0 : Int)⟩
structure S94 where
  chains : (Option Nat)
  closed : Int
  mark : Int
def S94.cells (x : S94) : List Value := [.map (x.chains), .int .i64 (x.closed), .int .i64 (x.mark)]
@[reducible] def T94 : Ty S94 := tAgg S94.cells
@[reducible] def Z94 : S94 := ⟨(none : Option Nat), (0 : Int), (0 : Int)⟩
structure S111 where
  l : Slc
  mark : Int
def S111.cells (x : S111) : List Value := [tSlc.enc (x.l), .int .i64 (x.mark)]
@[reducible] def T111 : Ty S111 := tAgg S111.cells
@[reducible] def Z111 : S111 := ⟨(⟨none, 0, 0⟩ : Slc), (0 : Int)⟩
structure S115 where
def S115.cells (x : S115) : List Value := []
@[reducible] def T115 : Ty S115 := tAgg S115.cells
@[reducible] def Z115 : S115 := ⟨⟩
theorem inf2 : ∃ i, Tryz.prog.info? 2 = some i ∧ i.zero = some (.int .i64 ((0 : Int))) ∧ i.size = 1 ∧ i.bytes = 8 := info_four (by kernel_rfl)
theorem ok2 : TyOk Tryz.prog 2 (tInt .i64) 1 := ⟨(inf2).imp fun _ h => ⟨h.1, h.2.2.1⟩, fun _ => rfl, .inr ⟨_, Tryz.underlying2, rfl, rfl, fun _ => rfl⟩, fun x => rfl, fun x v hv => by obtain rfl := List.mem_singleton.1 hv; exact rfl⟩
theorem inf3 : ∃ i, Tryz.prog.info? 3 = some i ∧ i.zero = some (.int .i64 ((0 : Int))) ∧ i.size = 1 ∧ i.bytes = 8 := info_four (by kernel_rfl)
theorem ok3 : TyOk Tryz.prog 3 (tInt .i64) 1 := ⟨(inf3).imp fun _ h => ⟨h.1, h.2.2.1⟩, fun _ => rfl, .inr ⟨_, Tryz.underlying3, rfl, rfl, fun _ => rfl⟩, fun x => rfl, fun x v hv => by obtain rfl := List.mem_singleton.1 hv; exact rfl⟩
theorem inf4 : ∃ i, Tryz.prog.info? 4 = some i ∧ i.zero = some (.bool (false)) ∧ i.size = 1 ∧ i.bytes = 1 := info_four (by kernel_rfl)
theorem ok4 : TyOk Tryz.prog 4 tBool 1 := ⟨(inf4).imp fun _ h => ⟨h.1, h.2.2.1⟩, fun _ => rfl, .inr ⟨_, Tryz.underlying4, rfl, rfl, fun _ => rfl⟩, fun x => rfl, fun x v hv => by obtain rfl := List.mem_singleton.1 hv; exact rfl⟩
theorem inf22 : ∃ i, Tryz.prog.info? 22 = some i ∧ i.zero = some (.float .f64 ((0 : Nat))) ∧ i.size = 1 ∧ i.bytes = 8 := info_four (by kernel_rfl)
theorem ok22 : TyOk Tryz.prog 22 tFlt 1 := ⟨(inf22).imp fun _ h => ⟨h.1, h.2.2.1⟩, fun _ => rfl, .inr ⟨_, Tryz.underlying22, rfl, rfl, fun _ => rfl⟩, fun x => rfl, fun x v hv => by obtain rfl := List.mem_singleton.1 hv; exact rfl⟩
theorem inf28 : ∃ i, Tryz.prog.info? 28 = some i ∧ i.zero = some (.pointer ((none : Option Addr))) ∧ i.size = 1 ∧ i.bytes = 8 := info_four (by kernel_rfl)
theorem ok28 : TyOk Tryz.prog 28 tPtr 1 := ⟨(inf28).imp fun _ h => ⟨h.1, h.2.2.1⟩, fun _ => rfl, .inr ⟨_, Tryz.underlying28, rfl, rfl, fun _ => rfl⟩, fun x => rfl, fun x v hv => by obtain rfl := List.mem_singleton.1 hv; exact rfl⟩
theorem inf30 : ∃ i, Tryz.prog.info? 30 = some i ∧ i.zero = some (T29.enc (Z29)) ∧ i.size = 1 ∧ i.bytes = 8 := info_four (by kernel_rfl)
theorem len30 (x : S29) : (T29.cells x).length = 1 := by rfl
theorem one30 (x : S29) : ∀ v ∈ T29.cells x, v.oneCell' = true := by
  show ∀ v ∈ S29.cells x, v.oneCell' = true
  simp only [S29.cells, List.forall_mem_append, List.forall_mem_cons, List.forall_mem_nil]
  exact ⟨rfl, fun _ h => absurd h (List.not_mem_nil)⟩
theorem ok30 : TyOk Tryz.prog 30 T29 1 := ⟨(inf30).imp fun _ h => ⟨h.1, h.2.2.1⟩, len30, .inl ⟨_, Tryz.underlying30, rfl, fun _ => rfl⟩, fun _ => rfl, one30⟩
theorem inf31 : ∃ i, Tryz.prog.info? 31 = some i ∧ i.zero = some (.map ((none : Option Nat))) ∧ i.size = 1 ∧ i.bytes = 8 := info_four (by kernel_rfl)
theorem ok31 : TyOk Tryz.prog 31 tMap 1 := ⟨(inf31).imp fun _ h => ⟨h.1, h.2.2.1⟩, fun _ => rfl, .inr ⟨_, Tryz.underlying31, rfl, rfl, fun _ => rfl⟩, fun x => rfl, fun x v hv => by obtain rfl := List.mem_singleton.1 hv; exact rfl⟩
theorem inf32 : ∃ i, Tryz.prog.info? 32 = some i ∧ i.zero = some (.map ((none : Option Nat))) ∧ i.size = 1 ∧ i.bytes = 8 := info_four (by kernel_rfl)
theorem ok32 : TyOk Tryz.prog 32 tMap 1 := ⟨(inf32).imp fun _ h => ⟨h.1, h.2.2.1⟩, fun _ => rfl, .inr ⟨_, Tryz.underlying32, rfl, rfl, fun _ => rfl⟩, fun x => rfl, fun x v hv => by obtain rfl := List.mem_singleton.1 hv; exact rfl⟩
theorem inf33 : ∃ i, Tryz.prog.info? 33 = some i ∧ i.zero = some (.map ((none : Option Nat))) ∧ i.size = 1 ∧ i.bytes = 8 := info_four (by kernel_rfl)
theorem ok33 : TyOk Tryz.prog 33 tMap 1 := ⟨(inf33).imp fun _ h => ⟨h.1, h.2.2.1⟩, fun _ => rfl, .inr ⟨_, Tryz.underlying33, rfl, rfl, fun _ => rfl⟩, fun x => rfl, fun x v hv => by obtain rfl := List.mem_singleton.1 hv; exact rfl⟩
theorem inf35 : ∃ i, Tryz.prog.info? 35 = some i ∧ i.zero = some (T34.enc (Z34)) ∧ i.size = 6 ∧ i.bytes = 48 := info_four (by kernel_rfl)
theorem len35 (x : S34) : (T34.cells x).length = 6 := by rfl
theorem one35 (x : S34) : ∀ v ∈ T34.cells x, v.oneCell' = true := by
  show ∀ v ∈ S34.cells x, v.oneCell' = true
  simp only [S34.cells, List.forall_mem_append, List.forall_mem_cons, List.forall_mem_nil]
  exact ⟨one30 _, ⟨rfl, rfl, rfl, rfl, rfl, fun _ h => absurd h (List.not_mem_nil)⟩⟩
theorem ok35 : TyOk Tryz.prog 35 T34 6 := ⟨(inf35).imp fun _ h => ⟨h.1, h.2.2.1⟩, len35, .inl ⟨_, Tryz.underlying35, rfl, fun _ => rfl⟩, fun _ => rfl, one35⟩
theorem inf42 : ∃ i, Tryz.prog.info? 42 = some i ∧ i.zero = some (T41.enc (Z41)) ∧ i.size = 6 ∧ i.bytes = 48 := info_four (by kernel_rfl)
theorem len42 (x : S41) : (T41.cells x).length = 6 := by rfl
theorem one42 (x : S41) : ∀ v ∈ T41.cells x, v.oneCell' = true := by
  show ∀ v ∈ S41.cells x, v.oneCell' = true
  simp only [S41.cells, List.forall_mem_append, List.forall_mem_cons, List.forall_mem_nil]
  exact ⟨rfl, rfl, rfl, rfl, rfl, rfl, fun _ h => absurd h (List.not_mem_nil)⟩
theorem ok42 : TyOk Tryz.prog 42 T41 6 := ⟨(inf42).imp fun _ h => ⟨h.1, h.2.2.1⟩, len42, .inl ⟨_, Tryz.underlying42, rfl, fun _ => rfl⟩, fun _ => rfl, one42⟩
theorem inf45 : ∃ i, Tryz.prog.info? 45 = some i ∧ i.zero = some (.int .i64 ((0 : Int))) ∧ i.size = 1 ∧ i.bytes = 8 := info_four (by kernel_rfl)
theorem ok45 : TyOk Tryz.prog 45 (tInt .i64) 1 := ⟨(inf45).imp fun _ h => ⟨h.1, h.2.2.1⟩, fun _ => rfl, .inr ⟨_, Tryz.underlying45, rfl, rfl, fun _ => rfl⟩, fun x => rfl, fun x v hv => by obtain rfl := List.mem_singleton.1 hv; exact rfl⟩
theorem inf53 : ∃ i, Tryz.prog.info? 53 = some i ∧ i.zero = some (T52.enc (Z52)) ∧ i.size = 4 ∧ i.bytes = 32 := info_four (by kernel_rfl)
theorem len53 (x : S52) : (T52.cells x).length = 4 := by rfl
theorem one53 (x : S52) : ∀ v ∈ T52.cells x, v.oneCell' = true := by
  show ∀ v ∈ S52.cells x, v.oneCell' = true
  simp only [S52.cells, List.forall_mem_append, List.forall_mem_cons, List.forall_mem_nil]
  exact ⟨rfl, rfl, rfl, rfl, fun _ h => absurd h (List.not_mem_nil)⟩
theorem ok53 : TyOk Tryz.prog 53 T52 4 := ⟨(inf53).imp fun _ h => ⟨h.1, h.2.2.1⟩, len53, .inl ⟨_, Tryz.underlying53, rfl, fun _ => rfl⟩, fun _ => rfl, one53⟩
theorem inf55 : ∃ i, Tryz.prog.info? 55 = some i ∧ i.zero = some (T54.enc (Z54)) ∧ i.size = 6 ∧ i.bytes = 48 := info_four (by kernel_rfl)
theorem len55 (x : S54) : (T54.cells x).length = 6 := by rfl
theorem one55 (x : S54) : ∀ v ∈ T54.cells x, v.oneCell' = true := by
  show ∀ v ∈ S54.cells x, v.oneCell' = true
  simp only [S54.cells, List.forall_mem_append, List.forall_mem_cons, List.forall_mem_nil]
  exact ⟨one53 _, ⟨rfl, rfl, fun _ h => absurd h (List.not_mem_nil)⟩⟩
theorem ok55 : TyOk Tryz.prog 55 T54 6 := ⟨(inf55).imp fun _ h => ⟨h.1, h.2.2.1⟩, len55, .inl ⟨_, Tryz.underlying55, rfl, fun _ => rfl⟩, fun _ => rfl, one55⟩
theorem inf63 : ∃ i, Tryz.prog.info? 63 = some i ∧ i.zero = some (T62.enc (Z62)) ∧ i.size = 2 ∧ i.bytes = 16 := info_four (by kernel_rfl)
theorem len63 (x : S62) : (T62.cells x).length = 2 := by rfl
theorem one63 (x : S62) : ∀ v ∈ T62.cells x, v.oneCell' = true := by
  show ∀ v ∈ S62.cells x, v.oneCell' = true
  simp only [S62.cells, List.forall_mem_append, List.forall_mem_cons, List.forall_mem_nil]
  exact ⟨rfl, rfl, fun _ h => absurd h (List.not_mem_nil)⟩
theorem ok63 : TyOk Tryz.prog 63 T62 2 := ⟨(inf63).imp fun _ h => ⟨h.1, h.2.2.1⟩, len63, .inl ⟨_, Tryz.underlying63, rfl, fun _ => rfl⟩, fun _ => rfl, one63⟩
theorem inf70 : ∃ i, Tryz.prog.info? 70 = some i ∧ i.zero = some (T69.enc (Z69)) ∧ i.size = 2 ∧ i.bytes = 16 := info_four (by kernel_rfl)
theorem len70 (x : S69) : (T69.cells x).length = 2 := by rfl
theorem one70 (x : S69) : ∀ v ∈ T69.cells x, v.oneCell' = true := by
  show ∀ v ∈ S69.cells x, v.oneCell' = true
  simp only [S69.cells, List.forall_mem_append, List.forall_mem_cons, List.forall_mem_nil]
  exact ⟨rfl, rfl, fun _ h => absurd h (List.not_mem_nil)⟩
theorem ok70 : TyOk Tryz.prog 70 T69 2 := ⟨(inf70).imp fun _ h => ⟨h.1, h.2.2.1⟩, len70, .inl ⟨_, Tryz.underlying70, rfl, fun _ => rfl⟩, fun _ => rfl, one70⟩
theorem inf87 : ∃ i, Tryz.prog.info? 87 = some i ∧ i.zero = some (T86.enc (Z86)) ∧ i.size = 2 ∧ i.bytes = 16 := info_four (by kernel_rfl)
theorem len87 (x : S86) : (T86.cells x).length = 2 := by rfl
theorem one87 (x : S86) : ∀ v ∈ T86.cells x, v.oneCell' = true := by
  show ∀ v ∈ S86.cells x, v.oneCell' = true
  simp only [S86.cells, List.forall_mem_append, List.forall_mem_cons, List.forall_mem_nil]
  exact ⟨rfl, rfl, fun _ h => absurd h (List.not_mem_nil)⟩
theorem ok87 : TyOk Tryz.prog 87 T86 2 := ⟨(inf87).imp fun _ h => ⟨h.1, h.2.2.1⟩, len87, .inl ⟨_, Tryz.underlying87, rfl, fun _ => rfl⟩, fun _ => rfl, one87⟩
theorem inf93 : ∃ i, Tryz.prog.info? 93 = some i ∧ i.zero = some (.map ((none : Option Nat))) ∧ i.size = 1 ∧ i.bytes = 8 := info_four (by kernel_rfl)
theorem ok93 : TyOk Tryz.prog 93 tMap 1 := ⟨(inf93).imp fun _ h => ⟨h.1, h.2.2.1⟩, fun _ => rfl, .inr ⟨_, Tryz.underlying93, rfl, rfl, fun _ => rfl⟩, fun x => rfl, fun x v hv => by obtain rfl := List.mem_singleton.1 hv; exact rfl⟩
theorem inf95 : ∃ i, Tryz.prog.info? 95 = some i ∧ i.zero = some (T94.enc (Z94)) ∧ i.size = 3 ∧ i.bytes = 24 := info_four (by kernel_rfl)
theorem len95 (x : S94) : (T94.cells x).length = 3 := by rfl
theorem one95 (x : S94) : ∀ v ∈ T94.cells x, v.oneCell' = true := by
  show ∀ v ∈ S94.cells x, v.oneCell' = true
  simp only [S94.cells, List.forall_mem_append, List.forall_mem_cons, List.forall_mem_nil]
  exact ⟨rfl, rfl, rfl, fun _ h => absurd h (List.not_mem_nil)⟩
theorem ok95 : TyOk Tryz.prog 95 T94 3 := ⟨(inf95).imp fun _ h => ⟨h.1, h.2.2.1⟩, len95, .inl ⟨_, Tryz.underlying95, rfl, fun _ => rfl⟩, fun _ => rfl, one95⟩
theorem inf97 : ∃ i, Tryz.prog.info? 97 = some i ∧ i.zero = some (.pointer ((none : Option Addr))) ∧ i.size = 1 ∧ i.bytes = 8 := info_four (by kernel_rfl)
theorem ok97 : TyOk Tryz.prog 97 tPtr 1 := ⟨(inf97).imp fun _ h => ⟨h.1, h.2.2.1⟩, fun _ => rfl, .inr ⟨_, Tryz.underlying97, rfl, rfl, fun _ => rfl⟩, fun x => rfl, fun x v hv => by obtain rfl := List.mem_singleton.1 hv; exact rfl⟩
theorem inf110 : ∃ i, Tryz.prog.info? 110 = some i ∧ i.zero = some (tSlc.enc ((⟨none, 0, 0⟩ : Slc))) ∧ i.size = 1 ∧ i.bytes = 24 := info_four (by kernel_rfl)
theorem ok110 : TyOk Tryz.prog 110 tSlc 1 := ⟨(inf110).imp fun _ h => ⟨h.1, h.2.2.1⟩, fun _ => rfl, .inr ⟨_, Tryz.underlying110, rfl, rfl, fun _ => rfl⟩, fun x => rfl, fun x v hv => by obtain rfl := List.mem_singleton.1 hv; exact rfl⟩
theorem inf112 : ∃ i, Tryz.prog.info? 112 = some i ∧ i.zero = some (T111.enc (Z111)) ∧ i.size = 2 ∧ i.bytes = 32 := info_four (by kernel_rfl)
theorem len112 (x : S111) : (T111.cells x).length = 2 := by rfl
theorem one112 (x : S111) : ∀ v ∈ T111.cells x, v.oneCell' = true := by
  show ∀ v ∈ S111.cells x, v.oneCell' = true
  simp only [S111.cells, List.forall_mem_append, List.forall_mem_cons, List.forall_mem_nil]
  exact ⟨rfl, rfl, fun _ h => absurd h (List.not_mem_nil)⟩
theorem ok112 : TyOk Tryz.prog 112 T111 2 := ⟨(inf112).imp fun _ h => ⟨h.1, h.2.2.1⟩, len112, .inl ⟨_, Tryz.underlying112, rfl, fun _ => rfl⟩, fun _ => rfl, one112⟩
theorem inf115 : ∃ i, Tryz.prog.info? 115 = some i ∧ i.zero = some (T115.enc (Z115)) ∧ i.size = 0 ∧ i.bytes = 0 := info_four (by kernel_rfl)
theorem len115 (x : S115) : (T115.cells x).length = 0 := by rfl
theorem one115 (x : S115) : ∀ v ∈ T115.cells x, v.oneCell' = true := by
  show ∀ v ∈ S115.cells x, v.oneCell' = true
  simp only [S115.cells, List.forall_mem_append, List.forall_mem_cons, List.forall_mem_nil]
  exact fun _ h => absurd h (List.not_mem_nil)
theorem ok115 : TyOk Tryz.prog 115 T115 0 := ⟨(inf115).imp fun _ h => ⟨h.1, h.2.2.1⟩, len115, .inl ⟨_, Tryz.underlying115, rfl, fun _ => rfl⟩, fun _ => rfl, one115⟩
theorem ent8 : Enters Tryz.prog 8 := ⟨_, Tryz.func8, rfl, by decide⟩
theorem ent9 : Enters Tryz.prog 9 := ⟨_, Tryz.func9, rfl, by decide⟩
theorem ent10 : Enters Tryz.prog 10 := ⟨_, Tryz.func10, rfl, by decide⟩
theorem ent11 : Enters Tryz.prog 11 := ⟨_, Tryz.func11, rfl, by decide⟩
theorem ent13 : Enters Tryz.prog 13 := ⟨_, Tryz.func13, rfl, by decide⟩
theorem ent14 : Enters Tryz.prog 14 := ⟨_, Tryz.func14, rfl, by decide⟩
theorem ent15 : Enters Tryz.prog 15 := ⟨_, Tryz.func15, rfl, by decide⟩
theorem ent16 : Enters Tryz.prog 16 := ⟨_, Tryz.func16, rfl, by decide⟩
theorem ent17 : Enters Tryz.prog 17 := ⟨_, Tryz.func17, rfl, by decide⟩
theorem ent18 : Enters Tryz.prog 18 := ⟨_, Tryz.func18, rfl, by decide⟩
theorem ent19 : Enters Tryz.prog 19 := ⟨_, Tryz.func19, rfl, by decide⟩
theorem ent20 : Enters Tryz.prog 20 := ⟨_, Tryz.func20, rfl, by decide⟩
theorem ent21 : Enters Tryz.prog 21 := ⟨_, Tryz.func21, rfl, by decide⟩
theorem ent22 : Enters Tryz.prog 22 := ⟨_, Tryz.func22, rfl, by decide⟩
theorem ent23 : Enters Tryz.prog 23 := ⟨_, Tryz.func23, rfl, by decide⟩
theorem ent24 : Enters Tryz.prog 24 := ⟨_, Tryz.func24, rfl, by decide⟩
theorem ent25 : Enters Tryz.prog 25 := ⟨_, Tryz.func25, rfl, by decide⟩
theorem ent26 : Enters Tryz.prog 26 := ⟨_, Tryz.func26, rfl, by decide⟩
theorem ent27 : Enters Tryz.prog 27 := ⟨_, Tryz.func27, rfl, by decide⟩
theorem ent28 : Enters Tryz.prog 28 := ⟨_, Tryz.func28, rfl, by decide⟩
theorem ent29 : Enters Tryz.prog 29 := ⟨_, Tryz.func29, rfl, by decide⟩
theorem ent30 : Enters Tryz.prog 30 := ⟨_, Tryz.func30, rfl, by decide⟩
theorem ent31 : Enters Tryz.prog 31 := ⟨_, Tryz.func31, rfl, by decide⟩
theorem ent32 : Enters Tryz.prog 32 := ⟨_, Tryz.func32, rfl, by decide⟩
theorem ent33 : Enters Tryz.prog 33 := ⟨_, Tryz.func33, rfl, by decide⟩
theorem ent34 : Enters Tryz.prog 34 := ⟨_, Tryz.func34, rfl, by decide⟩
theorem ent35 : Enters Tryz.prog 35 := ⟨_, Tryz.func35, rfl, by decide⟩
theorem ent36 : Enters Tryz.prog 36 := ⟨_, Tryz.func36, rfl, by decide⟩
theorem ent37 : Enters Tryz.prog 37 := ⟨_, Tryz.func37, rfl, by decide⟩
theorem ent38 : Enters Tryz.prog 38 := ⟨_, Tryz.func38, rfl, by decide⟩
theorem ent39 : Enters Tryz.prog 39 := ⟨_, Tryz.func39, rfl, by decide⟩
theorem ent40 : Enters Tryz.prog 40 := ⟨_, Tryz.func40, rfl, by decide⟩
theorem ent41 : Enters Tryz.prog 41 := ⟨_, Tryz.func41, rfl, by decide⟩
theorem ent42 : Enters Tryz.prog 42 := ⟨_, Tryz.func42, rfl, by decide⟩
theorem ent43 : Enters Tryz.prog 43 := ⟨_, Tryz.func43, rfl, by decide⟩
theorem ent44 : Enters Tryz.prog 44 := ⟨_, Tryz.func44, rfl, by decide⟩
theorem ent45 : Enters Tryz.prog 45 := ⟨_, Tryz.func45, rfl, by decide⟩
theorem ent46 : Enters Tryz.prog 46 := ⟨_, Tryz.func46, rfl, by decide⟩
theorem ent47 : Enters Tryz.prog 47 := ⟨_, Tryz.func47, rfl, by decide⟩
theorem ent48 : Enters Tryz.prog 48 := ⟨_, Tryz.func48, rfl, by decide⟩
theorem ent49 : Enters Tryz.prog 49 := ⟨_, Tryz.func49, rfl, by decide⟩
theorem ent50 : Enters Tryz.prog 50 := ⟨_, Tryz.func50, rfl, by decide⟩
theorem ent51 : Enters Tryz.prog 51 := ⟨_, Tryz.func51, rfl, by decide⟩
theorem ent52 : Enters Tryz.prog 52 := ⟨_, Tryz.func52, rfl, by decide⟩
theorem ent56 : Enters Tryz.prog 56 := ⟨_, Tryz.func56, rfl, by decide⟩
theorem ent57 : Enters Tryz.prog 57 := ⟨_, Tryz.func57, rfl, by decide⟩
theorem ent58 : Enters Tryz.prog 58 := ⟨_, Tryz.func58, rfl, by decide⟩
theorem ent59 : Enters Tryz.prog 59 := ⟨_, Tryz.func59, rfl, by decide⟩
theorem ent60 : Enters Tryz.prog 60 := ⟨_, Tryz.func60, rfl, by decide⟩
theorem ent61 : Enters Tryz.prog 61 := ⟨_, Tryz.func61, rfl, by decide⟩
theorem ent62 : Enters Tryz.prog 62 := ⟨_, Tryz.func62, rfl, by decide⟩
theorem ent63 : Enters Tryz.prog 63 := ⟨_, Tryz.func63, rfl, by decide⟩
theorem ent65 : Enters Tryz.prog 65 := ⟨_, Tryz.func65, rfl, by decide⟩
theorem ent66 : Enters Tryz.prog 66 := ⟨_, Tryz.func66, rfl, by decide⟩
theorem ent70 : Enters Tryz.prog 70 := ⟨_, Tryz.func70, rfl, by decide⟩
theorem ent71 : Enters Tryz.prog 71 := ⟨_, Tryz.func71, rfl, by decide⟩
theorem ent73 : Enters Tryz.prog 73 := ⟨_, Tryz.func73, rfl, by decide⟩
theorem ent74 : Enters Tryz.prog 74 := ⟨_, Tryz.func74, rfl, by decide⟩
theorem ent75 : Enters Tryz.prog 75 := ⟨_, Tryz.func75, rfl, by decide⟩
theorem ent76 : Enters Tryz.prog 76 := ⟨_, Tryz.func76, rfl, by decide⟩
theorem ent77 : Enters Tryz.prog 77 := ⟨_, Tryz.func77, rfl, by decide⟩
theorem ent88 : Enters Tryz.prog 88 := ⟨_, Tryz.func88, rfl, by decide⟩
theorem ent89 : Enters Tryz.prog 89 := ⟨_, Tryz.func89, rfl, by decide⟩
theorem ent90 : Enters Tryz.prog 90 := ⟨_, Tryz.func90, rfl, by decide⟩
theorem ent91 : Enters Tryz.prog 91 := ⟨_, Tryz.func91, rfl, by decide⟩
theorem ent92 : Enters Tryz.prog 92 := ⟨_, Tryz.func92, rfl, by decide⟩
theorem ent93 : Enters Tryz.prog 93 := ⟨_, Tryz.func93, rfl, by decide⟩
theorem ent94 : Enters Tryz.prog 94 := ⟨_, Tryz.func94, rfl, by decide⟩
theorem ent95 : Enters Tryz.prog 95 := ⟨_, Tryz.func95, rfl, by decide⟩
theorem ent103 : Enters Tryz.prog 103 := ⟨_, Tryz.func103, rfl, by decide⟩
theorem ent105 : Enters Tryz.prog 105 := ⟨_, Tryz.func105, rfl, by decide⟩
theorem ent108 : Enters Tryz.prog 108 := ⟨_, Tryz.func108, rfl, by decide⟩
theorem ent109 : Enters Tryz.prog 109 := ⟨_, Tryz.func109, rfl, by decide⟩
theorem ent110 : Enters Tryz.prog 110 := ⟨_, Tryz.func110, rfl, by decide⟩
theorem ent111 : Enters Tryz.prog 111 := ⟨_, Tryz.func111, rfl, by decide⟩
theorem mixed : Tryz.prog.follows .mixedOrders = true := by kernel_rfl
theorem pl30 (w : World) : (((Tryz.prog.fieldsOf 30).toList).mapM fun f => (do pure (f.offset, ← sizeOf f.type) : Sem (Nat × Nat))).run Tryz.prog w = .ok [(0, 1)] w := by
  simp only [Program.fieldsOf, Tryz.underlying30]
  refine run_places _ _ rfl ?_
  intro j fd p hf hp
  rcases j with _ | j; · obtain rfl := Option.some.inj hf; obtain rfl := Option.some.inj hp; exact ⟨rfl, ok28.size⟩
  cases hp
theorem pl35 (w : World) : (((Tryz.prog.fieldsOf 35).toList).mapM fun f => (do pure (f.offset, ← sizeOf f.type) : Sem (Nat × Nat))).run Tryz.prog w = .ok [(0, 1), (1, 1), (2, 1), (3, 1), (4, 1), (5, 1)] w := by
  simp only [Program.fieldsOf, Tryz.underlying35]
  refine run_places _ _ rfl ?_
  intro j fd p hf hp
  rcases j with _ | j; · obtain rfl := Option.some.inj hf; obtain rfl := Option.some.inj hp; exact ⟨rfl, ok30.size⟩
  rcases j with _ | j; · obtain rfl := Option.some.inj hf; obtain rfl := Option.some.inj hp; exact ⟨rfl, ok22.size⟩
  rcases j with _ | j; · obtain rfl := Option.some.inj hf; obtain rfl := Option.some.inj hp; exact ⟨rfl, ok2.size⟩
  rcases j with _ | j; · obtain rfl := Option.some.inj hf; obtain rfl := Option.some.inj hp; exact ⟨rfl, ok31.size⟩
  rcases j with _ | j; · obtain rfl := Option.some.inj hf; obtain rfl := Option.some.inj hp; exact ⟨rfl, ok32.size⟩
  rcases j with _ | j; · obtain rfl := Option.some.inj hf; obtain rfl := Option.some.inj hp; exact ⟨rfl, ok33.size⟩
  cases hp
theorem pl53 (w : World) : (((Tryz.prog.fieldsOf 53).toList).mapM fun f => (do pure (f.offset, ← sizeOf f.type) : Sem (Nat × Nat))).run Tryz.prog w = .ok [(0, 1), (1, 1), (2, 1), (3, 1)] w := by
  simp only [Program.fieldsOf, Tryz.underlying53]
  refine run_places _ _ rfl ?_
  intro j fd p hf hp
  rcases j with _ | j; · obtain rfl := Option.some.inj hf; obtain rfl := Option.some.inj hp; exact ⟨rfl, ok3.size⟩
  rcases j with _ | j; · obtain rfl := Option.some.inj hf; obtain rfl := Option.some.inj hp; exact ⟨rfl, ok3.size⟩
  rcases j with _ | j; · obtain rfl := Option.some.inj hf; obtain rfl := Option.some.inj hp; exact ⟨rfl, ok2.size⟩
  rcases j with _ | j; · obtain rfl := Option.some.inj hf; obtain rfl := Option.some.inj hp; exact ⟨rfl, ok4.size⟩
  cases hp
theorem pl55 (w : World) : (((Tryz.prog.fieldsOf 55).toList).mapM fun f => (do pure (f.offset, ← sizeOf f.type) : Sem (Nat × Nat))).run Tryz.prog w = .ok [(0, 4), (4, 1), (5, 1)] w := by
  simp only [Program.fieldsOf, Tryz.underlying55]
  refine run_places _ _ rfl ?_
  intro j fd p hf hp
  rcases j with _ | j; · obtain rfl := Option.some.inj hf; obtain rfl := Option.some.inj hp; exact ⟨rfl, ok53.size⟩
  rcases j with _ | j; · obtain rfl := Option.some.inj hf; obtain rfl := Option.some.inj hp; exact ⟨rfl, ok2.size⟩
  rcases j with _ | j; · obtain rfl := Option.some.inj hf; obtain rfl := Option.some.inj hp; exact ⟨rfl, ok2.size⟩
  cases hp
theorem pl63 (w : World) : (((Tryz.prog.fieldsOf 63).toList).mapM fun f => (do pure (f.offset, ← sizeOf f.type) : Sem (Nat × Nat))).run Tryz.prog w = .ok [(0, 1), (1, 1)] w := by
  simp only [Program.fieldsOf, Tryz.underlying63]
  refine run_places _ _ rfl ?_
  intro j fd p hf hp
  rcases j with _ | j; · obtain rfl := Option.some.inj hf; obtain rfl := Option.some.inj hp; exact ⟨rfl, ok3.size⟩
  rcases j with _ | j; · obtain rfl := Option.some.inj hf; obtain rfl := Option.some.inj hp; exact ⟨rfl, ok2.size⟩
  cases hp
theorem pl70 (w : World) : (((Tryz.prog.fieldsOf 70).toList).mapM fun f => (do pure (f.offset, ← sizeOf f.type) : Sem (Nat × Nat))).run Tryz.prog w = .ok [(0, 1), (1, 1)] w := by
  simp only [Program.fieldsOf, Tryz.underlying70]
  refine run_places _ _ rfl ?_
  intro j fd p hf hp
  rcases j with _ | j; · obtain rfl := Option.some.inj hf; obtain rfl := Option.some.inj hp; exact ⟨rfl, ok45.size⟩
  rcases j with _ | j; · obtain rfl := Option.some.inj hf; obtain rfl := Option.some.inj hp; exact ⟨rfl, ok2.size⟩
  cases hp
theorem pl87 (w : World) : (((Tryz.prog.fieldsOf 87).toList).mapM fun f => (do pure (f.offset, ← sizeOf f.type) : Sem (Nat × Nat))).run Tryz.prog w = .ok [(0, 1), (1, 1)] w := by
  simp only [Program.fieldsOf, Tryz.underlying87]
  refine run_places _ _ rfl ?_
  intro j fd p hf hp
  rcases j with _ | j; · obtain rfl := Option.some.inj hf; obtain rfl := Option.some.inj hp; exact ⟨rfl, ok2.size⟩
  rcases j with _ | j; · obtain rfl := Option.some.inj hf; obtain rfl := Option.some.inj hp; exact ⟨rfl, ok2.size⟩
  cases hp
theorem pl95 (w : World) : (((Tryz.prog.fieldsOf 95).toList).mapM fun f => (do pure (f.offset, ← sizeOf f.type) : Sem (Nat × Nat))).run Tryz.prog w = .ok [(0, 1), (1, 1), (2, 1)] w := by
  simp only [Program.fieldsOf, Tryz.underlying95]
  refine run_places _ _ rfl ?_
  intro j fd p hf hp
  rcases j with _ | j; · obtain rfl := Option.some.inj hf; obtain rfl := Option.some.inj hp; exact ⟨rfl, ok93.size⟩
  rcases j with _ | j; · obtain rfl := Option.some.inj hf; obtain rfl := Option.some.inj hp; exact ⟨rfl, ok2.size⟩
  rcases j with _ | j; · obtain rfl := Option.some.inj hf; obtain rfl := Option.some.inj hp; exact ⟨rfl, ok2.size⟩
  cases hp
theorem pl112 (w : World) : (((Tryz.prog.fieldsOf 112).toList).mapM fun f => (do pure (f.offset, ← sizeOf f.type) : Sem (Nat × Nat))).run Tryz.prog w = .ok [(0, 1), (1, 1)] w := by
  simp only [Program.fieldsOf, Tryz.underlying112]
  refine run_places _ _ rfl ?_
  intro j fd p hf hp
  rcases j with _ | j; · obtain rfl := Option.some.inj hf; obtain rfl := Option.some.inj hp; exact ⟨rfl, ok110.size⟩
  rcases j with _ | j; · obtain rfl := Option.some.inj hf; obtain rfl := Option.some.inj hp; exact ⟨rfl, ok2.size⟩
  cases hp
theorem pl115 (w : World) : (((Tryz.prog.fieldsOf 115).toList).mapM fun f => (do pure (f.offset, ← sizeOf f.type) : Sem (Nat × Nat))).run Tryz.prog w = .ok [] w := by
  simp only [Program.fieldsOf, Tryz.underlying115]
  refine run_places _ _ rfl ?_
  intro j fd p hf hp
  cases hp
theorem q_build30_0 {n : Nat} {f : Nat → Value} {w : World} {o : Oper} {x0 : Operand} {v0 : (Option Addr)} (ho : o.op = .build 30 #[(0, x0)]) (h0 : evl n f x0 = .pointer (v0)) : (execOp (evl n f) o).run Tryz.prog w = .ok (.value (T29.enc ⟨v0⟩)) w :=
  q_build (ps := [(0, x0)]) (pv := [(0, .pointer (v0))]) (cs := S29.cells ⟨v0⟩) ho Tryz.underlying30 inf30 (by have := pl30; simp only [Program.fieldsOf, Tryz.underlying30] at this; exact this) (by simp only [List.map_cons, List.map_nil, h0]) (by rfl)
theorem q_build35_0_1_3_4_5 {n : Nat} {f : Nat → Value} {w : World} {o : Oper} {x0 : Operand} {x1 : Operand} {x3 : Operand} {x4 : Operand} {x5 : Operand} {v0 : S29} {v1 : Nat} {v3 : (Option Nat)} {v4 : (Option Nat)} {v5 : (Option Nat)} (ho : o.op = .build 35 #[(0, x0), (1, x1), (3, x3), (4, x4), (5, x5)]) (h0 : evl n f x0 = T29.enc (v0)) (h1 : evl n f x1 = .float .f64 (v1)) (h3 : evl n f x3 = .map (v3)) (h4 : evl n f x4 = .map (v4)) (h5 : evl n f x5 = .map (v5)) : (execOp (evl n f) o).run Tryz.prog w = .ok (.value (T34.enc ⟨v0, v1, (0 : Int), v3, v4, v5⟩)) w :=
  q_build (ps := [(0, x0), (1, x1), (3, x3), (4, x4), (5, x5)]) (pv := [(0, T29.enc (v0)), (1, .float .f64 (v1)), (3, .map (v3)), (4, .map (v4)), (5, .map (v5))]) (cs := S34.cells ⟨v0, v1, (0 : Int), v3, v4, v5⟩) ho Tryz.underlying35 inf35 (by have := pl35; simp only [Program.fieldsOf, Tryz.underlying35] at this; exact this) (by simp only [List.map_cons, List.map_nil, h0, h1, h3, h4, h5]) (by rfl)
theorem q_build53_0_1_2 {n : Nat} {f : Nat → Value} {w : World} {o : Oper} {x0 : Operand} {x1 : Operand} {x2 : Operand} {v0 : Int} {v1 : Int} {v2 : Int} (ho : o.op = .build 53 #[(0, x0), (1, x1), (2, x2)]) (h0 : evl n f x0 = .int .i64 (v0)) (h1 : evl n f x1 = .int .i64 (v1)) (h2 : evl n f x2 = .int .i64 (v2)) : (execOp (evl n f) o).run Tryz.prog w = .ok (.value (T52.enc ⟨v0, v1, v2, false⟩)) w :=
  q_build (ps := [(0, x0), (1, x1), (2, x2)]) (pv := [(0, .int .i64 (v0)), (1, .int .i64 (v1)), (2, .int .i64 (v2))]) (cs := S52.cells ⟨v0, v1, v2, false⟩) ho Tryz.underlying53 inf53 (by have := pl53; simp only [Program.fieldsOf, Tryz.underlying53] at this; exact this) (by simp only [List.map_cons, List.map_nil, h0, h1, h2]) (by rfl)
theorem q_build53_0_1_2_3 {n : Nat} {f : Nat → Value} {w : World} {o : Oper} {x0 : Operand} {x1 : Operand} {x2 : Operand} {x3 : Operand} {v0 : Int} {v1 : Int} {v2 : Int} {v3 : Bool} (ho : o.op = .build 53 #[(0, x0), (1, x1), (2, x2), (3, x3)]) (h0 : evl n f x0 = .int .i64 (v0)) (h1 : evl n f x1 = .int .i64 (v1)) (h2 : evl n f x2 = .int .i64 (v2)) (h3 : evl n f x3 = .bool (v3)) : (execOp (evl n f) o).run Tryz.prog w = .ok (.value (T52.enc ⟨v0, v1, v2, v3⟩)) w :=
  q_build (ps := [(0, x0), (1, x1), (2, x2), (3, x3)]) (pv := [(0, .int .i64 (v0)), (1, .int .i64 (v1)), (2, .int .i64 (v2)), (3, .bool (v3))]) (cs := S52.cells ⟨v0, v1, v2, v3⟩) ho Tryz.underlying53 inf53 (by have := pl53; simp only [Program.fieldsOf, Tryz.underlying53] at this; exact this) (by simp only [List.map_cons, List.map_nil, h0, h1, h2, h3]) (by rfl)
theorem q_build55_0_1_2 {n : Nat} {f : Nat → Value} {w : World} {o : Oper} {x0 : Operand} {x1 : Operand} {x2 : Operand} {v0 : S52} {v1 : Int} {v2 : Int} (ho : o.op = .build 55 #[(0, x0), (1, x1), (2, x2)]) (h0 : evl n f x0 = T52.enc (v0)) (h1 : evl n f x1 = .int .i64 (v1)) (h2 : evl n f x2 = .int .i64 (v2)) : (execOp (evl n f) o).run Tryz.prog w = .ok (.value (T54.enc ⟨v0, v1, v2⟩)) w :=
  q_build (ps := [(0, x0), (1, x1), (2, x2)]) (pv := [(0, T52.enc (v0)), (1, .int .i64 (v1)), (2, .int .i64 (v2))]) (cs := S54.cells ⟨v0, v1, v2⟩) ho Tryz.underlying55 inf55 (by have := pl55; simp only [Program.fieldsOf, Tryz.underlying55] at this; exact this) (by simp only [List.map_cons, List.map_nil, h0, h1, h2]) (by rfl)
theorem q_build63_0_1 {n : Nat} {f : Nat → Value} {w : World} {o : Oper} {x0 : Operand} {x1 : Operand} {v0 : Int} {v1 : Int} (ho : o.op = .build 63 #[(0, x0), (1, x1)]) (h0 : evl n f x0 = .int .i64 (v0)) (h1 : evl n f x1 = .int .i64 (v1)) : (execOp (evl n f) o).run Tryz.prog w = .ok (.value (T62.enc ⟨v0, v1⟩)) w :=
  q_build (ps := [(0, x0), (1, x1)]) (pv := [(0, .int .i64 (v0)), (1, .int .i64 (v1))]) (cs := S62.cells ⟨v0, v1⟩) ho Tryz.underlying63 inf63 (by have := pl63; simp only [Program.fieldsOf, Tryz.underlying63] at this; exact this) (by simp only [List.map_cons, List.map_nil, h0, h1]) (by rfl)
theorem q_build70_0 {n : Nat} {f : Nat → Value} {w : World} {o : Oper} {x0 : Operand} {v0 : Int} (ho : o.op = .build 70 #[(0, x0)]) (h0 : evl n f x0 = .int .i64 (v0)) : (execOp (evl n f) o).run Tryz.prog w = .ok (.value (T69.enc ⟨v0, (0 : Int)⟩)) w :=
  q_build (ps := [(0, x0)]) (pv := [(0, .int .i64 (v0))]) (cs := S69.cells ⟨v0, (0 : Int)⟩) ho Tryz.underlying70 inf70 (by have := pl70; simp only [Program.fieldsOf, Tryz.underlying70] at this; exact this) (by simp only [List.map_cons, List.map_nil, h0]) (by rfl)
theorem q_build70_0_1 {n : Nat} {f : Nat → Value} {w : World} {o : Oper} {x0 : Operand} {x1 : Operand} {v0 : Int} {v1 : Int} (ho : o.op = .build 70 #[(0, x0), (1, x1)]) (h0 : evl n f x0 = .int .i64 (v0)) (h1 : evl n f x1 = .int .i64 (v1)) : (execOp (evl n f) o).run Tryz.prog w = .ok (.value (T69.enc ⟨v0, v1⟩)) w :=
  q_build (ps := [(0, x0), (1, x1)]) (pv := [(0, .int .i64 (v0)), (1, .int .i64 (v1))]) (cs := S69.cells ⟨v0, v1⟩) ho Tryz.underlying70 inf70 (by have := pl70; simp only [Program.fieldsOf, Tryz.underlying70] at this; exact this) (by simp only [List.map_cons, List.map_nil, h0, h1]) (by rfl)
theorem q_build87_ {n : Nat} {f : Nat → Value} {w : World} {o : Oper} (ho : o.op = .build 87 #[]) : (execOp (evl n f) o).run Tryz.prog w = .ok (.value (T86.enc ⟨(0 : Int), (0 : Int)⟩)) w :=
  q_build (ps := []) (pv := []) (cs := S86.cells ⟨(0 : Int), (0 : Int)⟩) ho Tryz.underlying87 inf87 (by have := pl87; simp only [Program.fieldsOf, Tryz.underlying87] at this; exact this) (by simp only [List.map_cons, List.map_nil]) (by rfl)
theorem q_build87_0_1 {n : Nat} {f : Nat → Value} {w : World} {o : Oper} {x0 : Operand} {x1 : Operand} {v0 : Int} {v1 : Int} (ho : o.op = .build 87 #[(0, x0), (1, x1)]) (h0 : evl n f x0 = .int .i64 (v0)) (h1 : evl n f x1 = .int .i64 (v1)) : (execOp (evl n f) o).run Tryz.prog w = .ok (.value (T86.enc ⟨v0, v1⟩)) w :=
  q_build (ps := [(0, x0), (1, x1)]) (pv := [(0, .int .i64 (v0)), (1, .int .i64 (v1))]) (cs := S86.cells ⟨v0, v1⟩) ho Tryz.underlying87 inf87 (by have := pl87; simp only [Program.fieldsOf, Tryz.underlying87] at this; exact this) (by simp only [List.map_cons, List.map_nil, h0, h1]) (by rfl)
theorem q_build95_0 {n : Nat} {f : Nat → Value} {w : World} {o : Oper} {x0 : Operand} {v0 : (Option Nat)} (ho : o.op = .build 95 #[(0, x0)]) (h0 : evl n f x0 = .map (v0)) : (execOp (evl n f) o).run Tryz.prog w = .ok (.value (T94.enc ⟨v0, (0 : Int), (0 : Int)⟩)) w :=
  q_build (ps := [(0, x0)]) (pv := [(0, .map (v0))]) (cs := S94.cells ⟨v0, (0 : Int), (0 : Int)⟩) ho Tryz.underlying95 inf95 (by have := pl95; simp only [Program.fieldsOf, Tryz.underlying95] at this; exact this) (by simp only [List.map_cons, List.map_nil, h0]) (by rfl)
theorem q_build112_ {n : Nat} {f : Nat → Value} {w : World} {o : Oper} (ho : o.op = .build 112 #[]) : (execOp (evl n f) o).run Tryz.prog w = .ok (.value (T111.enc ⟨(⟨none, 0, 0⟩ : Slc), (0 : Int)⟩)) w :=
  q_build (ps := []) (pv := []) (cs := S111.cells ⟨(⟨none, 0, 0⟩ : Slc), (0 : Int)⟩) ho Tryz.underlying112 inf112 (by have := pl112; simp only [Program.fieldsOf, Tryz.underlying112] at this; exact this) (by simp only [List.map_cons, List.map_nil]) (by rfl)
theorem q_build115_ {n : Nat} {f : Nat → Value} {w : World} {o : Oper} (ho : o.op = .build 115 #[]) : (execOp (evl n f) o).run Tryz.prog w = .ok (.value (T115.enc ⟨⟩)) w :=
  q_build (ps := []) (pv := []) (cs := S115.cells ⟨⟩) ho Tryz.underlying115 inf115 (by have := pl115; simp only [Program.fieldsOf, Tryz.underlying115] at this; exact this) (by simp only [List.map_cons, List.map_nil]) (by rfl)
theorem ext72 : Ext Tryz.prog 72 Extern.MathFloatBits.float64bits := ⟨_, Tryz.func72, rfl, rfl, by kernel_rfl, by kernel_rfl⟩
theorem ext106 : Ext Tryz.prog 106 Extern.MathFloatBits.float64frombits := ⟨_, Tryz.func106, rfl, rfl, by kernel_rfl, by kernel_rfl⟩
end Go.Proofs.YtpdaapffkdejoaaGreat.Cf
