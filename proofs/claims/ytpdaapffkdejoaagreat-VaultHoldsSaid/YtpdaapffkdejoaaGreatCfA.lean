/- Frames as functions, the walk of regions, orders that are drawn: own base of this claim's walks (it states nothing of the program). -/
import Derived.OrdersHeld
import Derived.Calls
import Derived.Laws.World
import Derived.KernelRfl
namespace Go.Proofs.YtpdaapffkdejoaaGreat.Cf
set_option linter.unusedSimpArgs false
set_option linter.unusedVariables false
open Go

def upd (f : Nat → Value) (d : Nat) (v : Value) : Nat → Value := fun t => bif Nat.beq t d then v else f t
def updo (f : Nat → Value) : Option Nat → Value → (Nat → Value)
  | some d, v => upd f d v
  | none, _ => f
def act (n : Nat) (f : Nat → Value) (ds : List Deferred) : Act := { tmps := Array.ofFn (n := n) fun i => f i.1, defers := ds }
def evl (n : Nat) (f : Nat → Value) : Operand → Value
  | .tmp t => bif Nat.blt t n then f t else undef
  | .const v => v
  | .global g => .pointer (some ⟨g, 0, none⟩)
  | .func f => .func (.func f) #[] #[]

theorem upd_same (f : Nat → Value) (d : Nat) (v : Value) : upd f d v d = v := by simp [upd]
theorem upd_eq {f : Nat → Value} {d : Nat} {v : Value} (h : f d = v) : upd f d v = f := by
  funext t
  simp only [upd]
  cases hb : Nat.beq t d with
  | false => rfl
  | true => rw [Nat.eq_of_beq_eq_true hb, h]; rfl
theorem upd_step {g f : Nat → Value} {d : Nat} {v : Value} (h : g = f) (hv : f d = v) : upd g d v = f := by
  subst h; exact upd_eq hv

theorem act_eval (n : Nat) (f : Nat → Value) (ds : List Deferred) : (act n f ds).eval = evl n f := by
  funext x
  cases x with
  | tmp t =>
    simp only [Act.eval, act, evl]
    by_cases h : t < n
    · have hb : Nat.blt t n = true := by simpa using h
      simp [h, hb]
    · have hb : Nat.blt t n = false := by cases hb : Nat.blt t n with | false => rfl | true => exact absurd (by simpa using hb) h
      simp [h, hb]
  | const v => rfl
  | global g => rfl
  | func g => rfl

theorem act_put (n : Nat) (f : Nat → Value) (ds : List Deferred) (d : Option Nat) (v : Value) : (act n f ds).put d v = act n (updo f d v) ds := by
  cases d with
  | none => rfl
  | some d =>
    simp only [Act.put, act, updo]
    congr 1
    apply Array.ext
    · simp
    · intro i h1 h2
      simp only [Array.size_setIfInBounds, Array.size_ofFn] at h1
      simp only [Array.getElem_setIfInBounds, Array.size_ofFn, h1, Array.getElem_ofFn, upd]
      by_cases e : d = i
      · subst e; simp
      · have hb : Nat.beq i d = false := by
          cases hb : Nat.beq i d with
          | false => rfl
          | true => exact absurd (Nat.eq_of_beq_eq_true hb).symm e
        simp [e, hb]

/-- The frame at a call's beginning. -/
def start (l : List Value) : Nat → Value := fun t => l.getD t undef
theorem start_act (l : List Value) (n : Nat) (h : l.length ≤ n) :
    ({ tmps := l.toArray ++ Array.replicate (n - l.toArray.size) undef, defers := [] } : Act) = act n (start l) [] := by
  simp only [act]
  congr 1
  apply Array.ext
  · simp; omega
  · intro i h1 h2
    simp only [Array.size_ofFn] at h2
    simp only [Array.getElem_ofFn, start, Array.getElem_append, List.size_toArray]
    by_cases hl : i < l.length
    · simp [hl]
    · simp [hl]

theorem calls_start {P : Program} {f : FuncId} {fn : Func} {c : Code} {l : List Value} {w : World} {R : Ending → World → Prop} (n : Nat)
    (hf : P.funcs[f]? = some fn) (hn : fn.ntmps = n) (hb : fn.body = some c) (hl : l.length ≤ n)
    (h : c.wp P (bodyPost P fn R) (act n (start l) []) w) : Calls P f l.toArray w R := by
  subst hn
  exact calls_of_wp hf hb (by rw [start_act l _ hl]; exact h)

/-! ### guards -/
def yieldedF (n : Nat) (ops : Array Oper) (f : Nat → Value) (j : Nat) : Option Bool :=
  match (ops[j]?).bind (·.dst) with
  | some d => (match evl n f (.tmp d) with | .bool b => some b | _ => none)
  | none => none
theorem yielded_act (n : Nat) (ops : Array Oper) (f : Nat → Value) (ds : List Deferred) (j : Nat) :
    yielded ops (act n f ds).tmps j = yieldedF n ops f j := by
  unfold yielded yieldedF
  cases h : (ops[j]?).bind (·.dst) with
  | none => rfl
  | some d =>
    simp only [Option.bind_some, act, evl]
    by_cases hd : d < n
    · have hb : Nat.blt d n = true := by simpa using hd
      simp [hd, hb]
      cases f d <;> rfl
    · have hb : Nat.blt d n = false := by cases hb : Nat.blt d n with | false => rfl | true => exact absurd (by simpa using hb) hd
      simp [hd, hb, undef]

/-- No guard, or a guard that lets the operation by. -/
inductive Lets (n : Nat) (ops : Array Oper) (f : Nat → Value) (o : Oper) : Prop
  | free (h : o.guard = none)
  | by_ (j : Nat) (b : Bool) (d : Nat) (c : Bool) (hg : o.guard = some (j, b)) (hj : (ops[j]?).bind (·.dst) = some d) (hv : evl n f (.tmp d) = .bool c) (hc : c = b)
theorem Lets.wanted {n : Nat} {ops : Array Oper} {f : Nat → Value} {o : Oper} {ds : List Deferred} (h : Lets n ops f o) :
    Region.wanted o (yielded ops (act n f ds).tmps) = true := by
  cases h with
  | free h => simp [Region.wanted, h]
  | by_ j b d c hg hj hv hc =>
    simp only [Region.wanted, hg, yielded_act, yieldedF, hj, hv, hc]
    simp
inductive Bars (n : Nat) (ops : Array Oper) (f : Nat → Value) (o : Oper) : Prop
  | by_ (j : Nat) (b : Bool) (d : Nat) (c : Bool) (hg : o.guard = some (j, b)) (hj : (ops[j]?).bind (·.dst) = some d) (hv : evl n f (.tmp d) = .bool c) (hc : c = !b)
  | undef (j : Nat) (b : Bool) (d : Nat) (hg : o.guard = some (j, b)) (hj : (ops[j]?).bind (·.dst) = some d) (hv : evl n f (.tmp d) = undef)
theorem Bars.wanted {n : Nat} {ops : Array Oper} {f : Nat → Value} {o : Oper} {ds : List Deferred} (h : Bars n ops f o) :
    Region.wanted o (yielded ops (act n f ds).tmps) = false := by
  cases h with
  | by_ j b d c hg hj hv hc =>
    simp only [Region.wanted, hg, yielded_act, yieldedF, hj, hv, hc]
    cases b <;> simp
  | undef j b d hg hj hv =>
    simp only [Region.wanted, hg, yielded_act, yieldedF, hj, hv, undef]
    rfl

/-! ### a region in the order of its text -/
/-- 'wpOps', closed to the elaborator's eye. -/
@[irreducible] def Wo (P : Program) (ops : Array Oper) (Q : Exit → Act → World → Prop) (l : List Nat) (a : Act) (w : World) : Prop := wpOps P ops Q l a w
/-- 'Oper.wp', closed likewise. -/
@[irreducible] def Ow (P : Program) (o : Oper) (a : Act) (w : World) (next : Act → World → Prop) (Q : Exit → Act → World → Prop) : Prop := o.wp P a w next Q
theorem Ow_eq {P : Program} {o : Oper} {a : Act} {w : World} {next : Act → World → Prop} {Q : Exit → Act → World → Prop} : Ow P o a w next Q = o.wp P a w next Q := by unfold Ow; rfl
theorem Wo_eq : Wo = wpOps := by funext P ops Q l a w; unfold Wo; rfl
section
variable {P : Program} {Q : Exit → Act → World → Prop} {n : Nat} {f : Nat → Value} {ds : List Deferred} {w w' : World} {ops : Array Oper} {i : Nat} {rest : List Nat} {o : Oper} {d : Option Nat}

theorem ofList (h : ops.toList[i]? = some o) : ops[i]? = some o := by simpa using h
theorem ro_val {v : Value} (hi : ops.toList[i]? = some o) (hg : Lets n ops f o) (hd : o.dst = d) (hv : (execOp (evl n f) o).run P w = .ok (.value v) w')
    (h : Wo P ops Q rest (act n (updo f d v) ds) w') : Wo P ops Q (i :: rest) (act n f ds) w := by
  subst hd
  rw [Wo_eq] at *
  rw [wpOps_cons]
  simp only [wpOp, ofList hi, hg.wanted, if_true]
  left
  simp only [Oper.wp, act_eval, hv, Oper.upon_value, act_put]
  exact h
theorem ro_skip (hi : ops.toList[i]? = some o) (hg : Lets n ops f o) (hd : o.dst = d) (hv : (execOp (evl n f) o).run P w = .ok .skip w')
    (h : Wo P ops Q rest (act n (updo f d undef) ds) w') : Wo P ops Q (i :: rest) (act n f ds) w := by
  subst hd
  rw [Wo_eq] at *
  rw [wpOps_cons]
  simp only [wpOp, ofList hi, hg.wanted, if_true]
  left
  simp only [Oper.wp, act_eval, hv, Oper.upon_skip, act_put]
  exact h
theorem ro_bar (hi : ops.toList[i]? = some o) (hg : Bars n ops f o) (hd : o.dst = d)
    (h : Wo P ops Q rest (act n (updo f d undef) ds) w) : Wo P ops Q (i :: rest) (act n f ds) w := by
  subst hd
  rw [Wo_eq] at *
  rw [wpOps_cons]
  simp only [wpOp, ofList hi, hg.wanted, Bool.false_eq_true, if_false, act_put]
  exact h
/-- Any operation by its own law. -/
theorem ro_wp (hi : ops.toList[i]? = some o) (hg : Lets n ops f o)
    (h : Ow P o (act n f ds) w (Wo P ops Q rest) Q) : Wo P ops Q (i :: rest) (act n f ds) w := by
  rw [Ow_eq] at h
  rw [Wo_eq] at *
  rw [wpOps_cons]
  simp only [wpOp, ofList hi, hg.wanted, if_true]
  exact .inl h
theorem ro_nil (h : Q .normal (act n f ds) w) : Wo P ops Q [] (act n f ds) w := by rw [Wo_eq]; exact h
theorem wp_text {id : Nat} (l : List Nat) (hl : List.range ops.size = l) (h : Wo P ops Q l (act n f ds) w) : (Code.region id ops false).wp P Q (act n f ds) w := by
  subst hl; rw [Wo_eq] at h; exact wp_region h

/-- A call that returns, or panics. -/
theorem call_wp {k : FuncId} {args : Array Value} {next : Act → World → Prop}
    (hv : (execOp (evl n f) o).run P w = .ok (.enter k args) w')
    (h : Calls P k args w' fun
      | .returned v, w'' => next (act n (updo f o.dst v) ds) w''
      | .panicked chain, w'' => Q (.panic chain) (act n f ds) w''
      | .outgrown, _ => LetsOut Q) : o.wp P (act n f ds) w next Q := by
  simp only [Oper.wp, act_eval, hv, Oper.upon_enter, act_put]
  exact h
end

/-! ### a region that draws its order: what was read is held up to where it may be read -/
section
variable {P : Program} {Q : Exit → Act → World → Prop} {ops : Array Oper}

/-- Operation j waits for operation i, by an edge of its own. -/
def waits (ops : Array Oper) (j i : Nat) : Bool :=
  match ops[j]? with
  | some o => o.after.any fun e => Region.binds .any e && e.on == i
  | none => false

/-- Whatever order is picked from here on; behind each operation that need not wait for what was read before, that reads as it did. -/
def wpAnyG (P : Program) (ops : Array Oper) (Q : Exit → Act → World → Prop) : List (Nat × (World → Prop)) → Nat → Array Bool → Act → World → Prop
  | _, 0, listed, a, w => Region.ready .any ops listed = [] ∧ Q .normal a w
  | G, fuel + 1, listed, a, w =>
    (Region.ready .any ops listed = [] → Q .normal a w) ∧
    ∀ i ∈ Region.ready .any ops listed, wpOp P ops Q i (fun a' w' => (∀ x ∈ G, waits ops i x.1 = false → x.2 w → x.2 w') ∧ wpAnyG P ops Q G fuel (listed.setIfInBounds i true) a' w') a w

@[irreducible] def Wg (P : Program) (ops : Array Oper) (Q : Exit → Act → World → Prop) (G : List (Nat × (World → Prop))) (k : Nat) (l : Array Bool) (a : Act) (w : World) : Prop := wpAnyG P ops Q G k l a w
theorem Wg_eq : Wg = wpAnyG := by funext P ops Q G k l a w; unfold Wg; rfl
@[irreducible] def Po (P : Program) (ops : Array Oper) (Q : Exit → Act → World → Prop) (i : Nat) (K : Act → World → Prop) (a : Act) (w : World) : Prop := wpOp P ops Q i K a w
theorem Po_eq : Po = wpOp := by funext P ops Q i K a w; unfold Po; rfl
theorem wpAny_of_G (G : List (Nat × (World → Prop))) : ∀ (fuel : Nat) (listed : Array Bool) (a : Act) (w : World), wpAnyG P ops Q G fuel listed a w → wpAny P .any ops Q fuel listed a w
  | 0, _, _, _, h => h
  | fuel + 1, _, _, _, h => ⟨h.1, fun i hi => wpOp_mono (fun a' w' h' => wpAny_of_G G fuel _ a' w' h'.2) (h.2 i hi)⟩

theorem wpAnyG_weak {x : Nat × (World → Prop)} {G : List (Nat × (World → Prop))} : ∀ (g : Nat) (l : Array Bool) (a : Act) (w : World), wpAnyG P ops Q (x :: G) g l a w → wpAnyG P ops Q G g l a w
  | 0, _, _, _, h => h
  | g + 1, _, _, _, h => ⟨h.1, fun k hk => wpOp_mono (fun a' w' h' => ⟨fun y hy hw => h'.1 y (List.mem_cons_of_mem _ hy) hw, wpAnyG_weak g _ a' w' h'.2⟩) (h.2 k hk)⟩

/-- What was read, or reckoned, may be taken first. -/
theorem wpAnyG_first {i : Nat} {oi : Oper} {v : Value} {S : World → Prop} (hi : ops[i]? = some oi) (hsel : ∀ (j : Nat) (o : Oper) cs b, ops[j]? = some o → o.op ≠ .select cs b)
    (hQ : ∀ c a w, Q (.panic c) (a.put oi.dst v) w → Q (.panic c) a w) (G : List (Nat × (World → Prop))) :
    ∀ (fuel : Nat) (listed : Array Bool) (a : Act) (w : World),
      (∀ j oj, ops[j]? = some oj → j ≠ i → listed.getD j true = false → (∀ e ∈ oj.after, Region.binds .any e = true → e.on ≠ i) → oi.apart ops oj = true) →
      i ∈ Region.ready .any ops listed → YieldsIf P ops S oi v a → S w →
      wpAnyG P ops Q ((i, S) :: G) fuel (listed.setIfInBounds i true) (a.put oi.dst v) w → wpAnyG P ops Q G (fuel + 1) listed a w := by
  intro fuel
  induction fuel with
  | zero =>
    intro listed a w _ hr hy hS H
    refine ⟨fun h => (by rw [h] at hr; cases hr), fun j hj => ?_⟩
    by_cases hji : j = i
    · subst hji
      exact hy.wpOp hi hS ⟨fun x hx _ h => h, H⟩
    · have := ready_mono hj hji
      rw [H.1] at this
      cases this
  | succ fuel ih =>
    intro listed a w hfree hr hy hS H
    refine ⟨fun h => (by rw [h] at hr; cases hr), fun j hj => ?_⟩
    by_cases hji : j = i
    · subst hji
      exact hy.wpOp hi hS ⟨fun x hx _ h => h, wpAnyG_weak _ _ _ _ H⟩
    · have h1 := H.2 j (ready_mono hj hji)
      obtain ⟨hjun, oj, hoj, hall⟩ := mem_ready.1 hj
      have hnot : ∀ e ∈ oj.after, Region.binds .any e = true → e.on ≠ i := fun e he hb heq => by
        have h1 := hall e he hb
        have h0 := (mem_ready.1 hr).1
        rw [heq] at h1
        rcases Nat.lt_or_ge i listed.size with h' | h'
        · simp [h'] at h0 h1; rw [h0] at h1; cases h1
        · simp [Array.getElem?_eq_none h'] at h1
      have hwait : waits ops j i = false := by
        simp only [waits, hoj]
        rw [Array.any_eq_false']
        intro e he
        have := hnot e he
        cases hb : Region.binds .any e <;> simp_all
      have h2 := wpOp_putIf hoj (hfree j oj hoj hji hjun hnot) (fun cs b => hsel i oi cs b hi) (fun cs b => hsel j oj cs b hoj) hQ hy h1
      have hfree' : ∀ k ok, ops[k]? = some ok → k ≠ i → (listed.setIfInBounds j true).getD k true = false →
          (∀ e ∈ ok.after, Region.binds .any e = true → e.on ≠ i) → oi.apart ops ok = true := fun k ok hk hki hun hno => by
        refine hfree k ok hk hki ?_ hno
        by_cases hjk : j = k
        · subst hjk; exact hjun
        · rw [getD_set_ne true hjk] at hun; exact hun
      refine wpOp_mono (fun a' w' h3 => ?_) h2
      obtain ⟨hy', hG', h4⟩ := h3
      have hS' : S w' := hG' (i, S) (List.mem_cons_self ..) hwait hS
      refine ⟨fun x hx hw => hG' x (List.mem_cons_of_mem _ hx) hw, ?_⟩
      refine ih (listed.setIfInBounds j true) a' w' hfree' (ready_mono hr (Ne.symm hji)) hy' hS' ?_
      rw [Array.setIfInBounds_comm _ _ hji]
      exact h4

theorem wpAnyG_idle {x : Nat × (World → Prop)} (hx : ∀ w, x.2 w) {G : List (Nat × (World → Prop))} : ∀ (g : Nat) (l : Array Bool) (a : Act) (w : World), wpAnyG P ops Q G g l a w → wpAnyG P ops Q (x :: G) g l a w
  | 0, _, _, _, h => h
  | g + 1, _, _, _, h => ⟨h.1, fun k hk => wpOp_mono (fun a' w' h' => ⟨fun y hy hw h0 => (List.mem_cons.1 hy).elim (fun e => e ▸ hx w') (fun hy => h'.1 y hy hw h0), wpAnyG_idle hx g _ a' w' h'.2⟩) (h.2 k hk)⟩

/-- What a walk of a drawn region leans on throughout. -/
structure DrOk (ops : Array Oper) (Q : Exit → Act → World → Prop) : Prop where
  sel : Region.noSelect ops = true
  pan : ∀ c a d v w, (∃ o ∈ ops.toList, o.dst = d) → Q (.panic c) (Act.put a d v) w → Q (.panic c) a w

theorem wp_drawn {id : Nat} {n : Nat} {f : Nat → Value} {ds : List Deferred} {w w1 : World} (m : Nat) (hm : P.follows .mixedOrders = true) (hl : ops.size = m) (hs : Region.noSelect ops = true)
    (hQ : ∀ c a d v w, Q (.panic c) (Act.put a d v) w → Q (.panic c) a w) (hw : w1 = w.drew)
    (h : DrOk ops Q → Wg P ops Q [] m (Array.replicate m false) (act n f ds) w1) : (Code.region id ops true).wp P Q (act n f ds) w := by
  subst hl; subst hw
  rw [Wg_eq] at h
  exact wp_region_any hm (wpAny_of_G [] _ _ _ _ (h ⟨hs, fun c a d v w _ => hQ c a d v w⟩))
theorem wp_drawnE {id : Nat} {n : Nat} {f : Nat → Value} {ds : List Deferred} {w w1 : World} (m : Nat) (hm : P.follows .mixedOrders = true) (hl : ops.size = m) (hs : Region.noSelect ops = true)
    (hQ : ∀ c a d v w, (∃ o ∈ ops.toList, o.dst = d) → Q (.panic c) (Act.put a d v) w → Q (.panic c) a w) (hw : w1 = w.drew)
    (h : DrOk ops Q → Wg P ops Q [] m (Array.replicate m false) (act n f ds) w1) : (Code.region id ops true).wp P Q (act n f ds) w := by
  subst hl; subst hw
  rw [Wg_eq] at h
  exact wp_region_any hm (wpAny_of_G [] _ _ _ _ (h ⟨hs, hQ⟩))

section
variable {n k : Nat} {f : Nat → Value} {ds : List Deferred} {w w' : World} {i : Nat} {listed : Array Bool} {G : List (Nat × (World → Prop))} {o : Oper} {d : Option Nat}
theorem take_ahead {v : Value} {S : World → Prop} (hD : DrOk ops Q) (hf : Region.free .any ops listed i = true) (hr : (Region.ready .any ops listed).contains i = true) (hi : ops.toList[i]? = some o)
    (hd : o.dst = d)
    (hy : YieldsIf P ops S o v (act n f ds)) (hS : S w) (h : Wg P ops Q ((i, S) :: G) k (listed.setIfInBounds i true) (act n (updo f d v) ds) w) : Wg P ops Q G (k + 1) listed (act n f ds) w := by
  rw [Wg_eq] at *
  exact wpAnyG_first (ofList hi) (Region.noSelect_spec hD.sel) (fun c a w => hD.pan c a _ _ w ⟨o, List.mem_of_getElem? hi, rfl⟩) G k listed _ w (Region.free_spec (ofList hi) hf) (by simpa using hr) hy hS (by rw [act_put, hd]; exact h)
/-- It only reckons. -/
theorem rd_pure {v : Value} (hD : DrOk ops Q) (hf : Region.free .any ops listed i = true) (hr : (Region.ready .any ops listed).contains i = true) (hi : ops.toList[i]? = some o) (hg : Lets n ops f o) (hd : o.dst = d)
    (hv : ∀ w, (execOp (evl n f) o).run P w = .ok (.value v) w)
    (h : Wg P ops Q G k (listed.setIfInBounds i true) (act n (updo f d v) ds) w) : Wg P ops Q G (k + 1) listed (act n f ds) w :=
  take_ahead (S := fun _ => True) hD hf hr hi hd (.inl ⟨hg.wanted, fun w _ => by rw [act_eval]; exact hv w⟩) trivial (by rw [Wg_eq] at *; exact wpAnyG_idle (fun _ => trivial) _ _ _ _ h)
/-- It reads; 'S' says what it reads. -/
theorem rd_read {v : Value} (S : World → Prop) (hD : DrOk ops Q) (hf : Region.free .any ops listed i = true) (hr : (Region.ready .any ops listed).contains i = true) (hi : ops.toList[i]? = some o) (hg : Lets n ops f o) (hd : o.dst = d)
    (hv : ∀ w, S w → (execOp (evl n f) o).run P w = .ok (.value v) w) (hS : S w)
    (h : Wg P ops Q ((i, S) :: G) k (listed.setIfInBounds i true) (act n (updo f d v) ds) w) : Wg P ops Q G (k + 1) listed (act n f ds) w :=
  take_ahead hD hf hr hi hd (.inl ⟨hg.wanted, fun w hw => by rw [act_eval]; exact hv w hw⟩) hS h
theorem rd_bar (hD : DrOk ops Q) (hf : Region.free .any ops listed i = true) (hr : (Region.ready .any ops listed).contains i = true) (hi : ops.toList[i]? = some o) (hg : Bars n ops f o) (hd : o.dst = d)
    (h : Wg P ops Q G k (listed.setIfInBounds i true) (act n (updo f d undef) ds) w) : Wg P ops Q G (k + 1) listed (act n f ds) w :=
  take_ahead (S := fun _ => True) hD hf hr hi hd (.inr ⟨hg.wanted, rfl⟩) trivial (by rw [Wg_eq] at *; exact wpAnyG_idle (fun _ => trivial) _ _ _ _ h)
/-- Those that may come up. -/
theorem rd_all {rs : List Nat} {a : Act} (hr : Region.ready .any ops listed = rs) (hne : rs ≠ [])
    (h : ∀ i ∈ rs, Po P ops Q i (fun a' w' => (∀ x ∈ G, waits ops i x.1 = false → x.2 w → x.2 w') ∧ Wg P ops Q G k (listed.setIfInBounds i true) a' w') a w) : Wg P ops Q G (k + 1) listed a w := by
  rw [Wg_eq, Po_eq] at *
  exact ⟨fun h0 => absurd (hr ▸ h0) hne, hr ▸ h⟩
theorem rd_one {a : Act} (hr : Region.ready .any ops listed = [i])
    (h : Po P ops Q i (fun a' w' => (∀ x ∈ G, waits ops i x.1 = false → x.2 w → x.2 w') ∧ Wg P ops Q G k (listed.setIfInBounds i true) a' w') a w) : Wg P ops Q G (k + 1) listed a w :=
  rd_all hr (by simp) fun j hj => by
    obtain rfl : j = i := by simpa using hj
    exact h
theorem rd_two {j : Nat} {a : Act} (hr : Region.ready .any ops listed = [i, j])
    (h : Po P ops Q i (fun a' w' => (∀ x ∈ G, waits ops i x.1 = false → x.2 w → x.2 w') ∧ Wg P ops Q G k (listed.setIfInBounds i true) a' w') a w)
    (h' : Po P ops Q j (fun a' w' => (∀ x ∈ G, waits ops j x.1 = false → x.2 w → x.2 w') ∧ Wg P ops Q G k (listed.setIfInBounds j true) a' w') a w) : Wg P ops Q G (k + 1) listed a w :=
  rd_all hr (by simp) fun l hl => by
    rcases List.mem_cons.1 hl with rfl | hl
    · exact h
    · obtain rfl : l = j := by simpa using hl
      exact h'
theorem rd_three {j m : Nat} {a : Act} (hr : Region.ready .any ops listed = [i, j, m])
    (h : Po P ops Q i (fun a' w' => (∀ x ∈ G, waits ops i x.1 = false → x.2 w → x.2 w') ∧ Wg P ops Q G k (listed.setIfInBounds i true) a' w') a w)
    (h' : Po P ops Q j (fun a' w' => (∀ x ∈ G, waits ops j x.1 = false → x.2 w → x.2 w') ∧ Wg P ops Q G k (listed.setIfInBounds j true) a' w') a w)
    (h'' : Po P ops Q m (fun a' w' => (∀ x ∈ G, waits ops m x.1 = false → x.2 w → x.2 w') ∧ Wg P ops Q G k (listed.setIfInBounds m true) a' w') a w) : Wg P ops Q G (k + 1) listed a w :=
  rd_all hr (by simp) fun l hl => by
    rcases List.mem_cons.1 hl with rfl | hl
    · exact h
    · rcases List.mem_cons.1 hl with rfl | hl
      · exact h'
      · obtain rfl : l = m := by simpa using hl
        exact h''
section
variable {K : Act → World → Prop}
theorem po_wp (hi : ops.toList[i]? = some o) (hg : Lets n ops f o) (h : Ow P o (act n f ds) w K Q) : Po P ops Q i K (act n f ds) w := by
  rw [Ow_eq] at h
  rw [Po_eq]
  simp only [wpOp, ofList hi, hg.wanted, if_true]
  exact .inl h
theorem po_val {v : Value} (hi : ops.toList[i]? = some o) (hg : Lets n ops f o) (hd : o.dst = d) (hv : (execOp (evl n f) o).run P w = .ok (.value v) w') (h : K (act n (updo f d v) ds) w') : Po P ops Q i K (act n f ds) w := by
  subst hd
  refine po_wp hi hg ?_
  rw [Ow_eq]
  simp only [Oper.wp, act_eval, hv, Oper.upon_value, act_put]
  exact h
theorem po_skip (hi : ops.toList[i]? = some o) (hg : Lets n ops f o) (hd : o.dst = d) (hv : (execOp (evl n f) o).run P w = .ok .skip w') (h : K (act n (updo f d undef) ds) w') : Po P ops Q i K (act n f ds) w := by
  subst hd
  refine po_wp hi hg ?_
  rw [Ow_eq]
  simp only [Oper.wp, act_eval, hv, Oper.upon_skip, act_put]
  exact h
theorem po_bar (hi : ops.toList[i]? = some o) (hg : Bars n ops f o) (hd : o.dst = d) (h : K (act n (updo f d undef) ds) w) : Po P ops Q i K (act n f ds) w := by
  subst hd
  rw [Po_eq]
  simp only [wpOp, ofList hi, hg.wanted, Bool.false_eq_true, if_false, act_put]
  exact h
end
theorem rd_nil {m : Nat} {a : Act} (hr : Region.ready .any ops listed = []) (h : Q .normal a w) : Wg P ops Q G m listed a w := by
  rw [Wg_eq]
  cases m with
  | zero => exact ⟨hr, h⟩
  | succ m => exact ⟨fun _ => h, by rw [hr]; simp⟩
theorem hk_nil {j : Nat} : ∀ x ∈ ([] : List (Nat × (World → Prop))), waits ops j x.1 = false → x.2 w → x.2 w' := fun x hx => absurd hx (List.not_mem_nil)
theorem hk_wait {j i : Nat} {S : World → Prop} (h : waits ops j i = true) (t : ∀ x ∈ G, waits ops j x.1 = false → x.2 w → x.2 w') : ∀ x ∈ (i, S) :: G, waits ops j x.1 = false → x.2 w → x.2 w' := by
  intro x hx hf
  rcases List.mem_cons.1 hx with rfl | hx
  · rw [h] at hf; cases hf
  · exact t x hx hf
theorem hk_keep {j i : Nat} {S : World → Prop} (h : S w → S w') (t : ∀ x ∈ G, waits ops j x.1 = false → x.2 w → x.2 w') : ∀ x ∈ (i, S) :: G, waits ops j x.1 = false → x.2 w → x.2 w' := by
  intro x hx hf
  rcases List.mem_cons.1 hx with rfl | hx
  · exact h
  · exact t x hx hf
end
end
end Go.Proofs.YtpdaapffkdejoaaGreat.Cf
