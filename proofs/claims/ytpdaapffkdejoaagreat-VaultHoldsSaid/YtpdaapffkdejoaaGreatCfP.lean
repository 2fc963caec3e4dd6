/- Calls that return or panic; a function with one deferred call. -/
import Derived.Test.YtpdaapffkdejoaaGreatCfQ
import Derived.Recover
namespace Go.Proofs.YtpdaapffkdejoaaGreat.Cf
set_option linter.unusedSimpArgs false
set_option linter.unusedVariables false
open Go
section
variable {P : Program} {Q : Exit → Act → World → Prop} {n : Nat} {f : Nat → Value} {ds : List Deferred} {w w' : World} {o : Oper} {x : Operand}
def pnc (v : Iv) : List PanicEntry := [{ v := v.enc, recovered := false }]
/-- A call that returns what R says, or panics with a value of which Pn says. -/
def RetP {α : Type} (T : Ty α) (R : α → World → Prop) (Pn : Iv → World → Prop) : Ending → World → Prop
  | .returned v, w => ∃ x, v = T.enc x ∧ R x w
  | .panicked chain, w => ∃ v, chain = pnc v ∧ Pn v w
  | .outgrown, _ => False
def clp {α : Type} (P : Program) (f : FuncId) (args : List Value) (T : Ty α) (w : World) (Pn : Iv → World → Prop) (k : α → World → Prop) : Prop := Calls P f args.toArray w (RetP T k Pn)
theorem pan_ok {α : Type} {T : Ty α} {fn : Func} {R : α → World → Prop} {Pn : Iv → World → Prop} {v : Iv} (h : Pn v w) : bodyPost P fn (RetP T R Pn) (.panic (pnc v)) (act n f []) w := ⟨rfl, v, rfl, h⟩
theorem wp_clp {α : Type} {T : Ty α} {k : FuncId} {args : List Value} {d : Option Nat} {next : Act → World → Prop} {K : α → World → Prop} {Pn : Iv → World → Prop} (hd : o.dst = d)
    (hv : (execOp (evl n f) o).run P w = .ok (.enter k args.toArray) w) (h : clp P k args T w Pn K) (hp : ∀ v w', Pn v w' → Q (.panic (pnc v)) (act n f ds) w') (hk : ∀ r w', K r w' → next (act n (updo f d (T.enc r)) ds) w') : Ow P o (act n f ds) w next Q := by
  rw [Ow_eq]
  subst hd
  refine call_wp hv (Calls.mono h fun e w' he => ?_)
  cases e with
  | returned v => obtain ⟨r, rfl, hr⟩ := he; exact hk r w' hr
  | panicked c => obtain ⟨v, rfl, hv⟩ := he; exact hp v w' hv
  | outgrown => exact he.elim
theorem clp_mono {α : Type} {T : Ty α} {k : FuncId} {args : List Value} {K K' : α → World → Prop} {Pn Pn' : Iv → World → Prop} (h : clp P k args T w Pn K) (hk : ∀ r w', K r w' → K' r w') (hp : ∀ v w', Pn v w' → Pn' v w') : clp P k args T w Pn' K' :=
  Calls.mono h fun e w' he => by
    cases e with
    | returned v => obtain ⟨r, hr, hK⟩ := he; exact ⟨r, hr, hk r w' hK⟩
    | panicked c => obtain ⟨v, hv, hP⟩ := he; exact ⟨v, hv, hp v w' hP⟩
    | outgrown => exact he
/-- What panics. -/
theorem wp_panic {v : Iv} {next : Act → World → Prop} (ho : o.op = .panic x) (hx : evl n f x = v.enc) (hn : ∃ t u, v = .mk t u) (h : Q (.panic (pnc v)) (act n f ds) w) : Ow P o (act n f ds) w next Q := by
  rw [Ow_eq]
  obtain ⟨t, u, rfl⟩ := hn
  have hop : (execOp (evl n f) o).run P w = .halt (.panic (.iface t u)) w := by
    simp only [execOp, ho, hx]
    rfl
  simp only [Oper.wp, act_eval, hop, Oper.upon_panic]
  exact h

/-! ### one deferred call -/
/-- The end of a body that deferred: what panicked finds the results' slots as they are. -/
def bodyPostE (P : Program) (fn : Func) (sl : List Nat) (R : Ending → World → Prop) : Exit → Act → World → Prop
  | .panic chain, a, w => ∀ tmps : Array Value, (∀ s ∈ sl, tmps.getD s undef = a.tmps.getD s undef) → Leaves P fn tmps R a.defers (.panicking chain) w
  | e, a, w => bodyPostD P fn R e a w
theorem calls_startE {f : FuncId} {fn : Func} {c : Code} {l : List Value} {R : Ending → World → Prop} {sl : List Nat} (n : Nat)
    (hf : P.funcs[f]? = some fn) (hn : fn.ntmps = n) (hb : fn.body = some c) (hl : l.length ≤ n)
    (h : c.wp P (bodyPostE P fn sl R) (act n (start l) []) w) : Calls P f l.toArray w R := by
  subst hn
  refine calls_of_wp_defers hf hb ?_
  rw [start_act l _ hl]
  refine wp_mono h fun e a w' h => ?_
  cases e with
  | panic c => exact h _ fun _ _ => rfl
  | _ => exact h
/-- The deferred function comes back, and the frame goes on returning. -/
def lvd (P : Program) (k : FuncId) (args : List Value) (u : FrameMode) (w : World) (K : World → Prop) : Prop :=
  CallsD P k args.toArray u w fun e u' w' => (∃ v, e = .returned v) ∧ settle u' = .returning ∧ K w'
theorem lvd_mono {k : FuncId} {args : List Value} {u : FrameMode} {K K' : World → Prop} (h : lvd P k args u w K) (hk : ∀ w', K w' → K' w') : lvd P k args u w K' :=
  CallsD.mono h fun _ _ w' ⟨h1, h2, h3⟩ => ⟨h1, h2, hk w' h3⟩
theorem inv_enter {k : FuncId} {cs : List Value} (he : Enters P k) : (invoke (.fn (.func k) cs.toArray) #[]).run P w = .ok (.enter k cs.toArray) w := by
  obtain ⟨fn, hf, hb, hn⟩ := he
  have hb' : fn.body ≠ none := by intro h; simp [h] at hb
  simp [invoke, callFunc, hf, hb', beq_eq_false_iff_ne.1 hn]
def slotOf : ResultVar → Nat
  | .tmp t => t
  | .cell a _ => a
def resSlots (rs : List ResultVar) : List Nat := rs.map slotOf
theorem results_eq {fn : Func} {rs : List ResultVar} {t1 t2 : Array Value} (hr : fn.results = rs.toArray) (h : ∀ s ∈ resSlots rs, t1.getD s undef = t2.getD s undef) : results fn t1 = results fn t2 := by
  have e : ∀ t, results fn t = (do let us ← fn.results.mapM (resG t); pure (if h : us.size = 1 then us[0] else .tuple us)) := fun t => rfl
  have hm : ∀ l : List ResultVar, (∀ r ∈ l, resG t1 r = resG t2 r) → l.mapM (resG t1) = l.mapM (resG t2) := by
    intro l
    induction l with
    | nil => intro _; rfl
    | cons a l ih =>
      intro hl
      rw [List.mapM_cons, List.mapM_cons, hl a (by simp), ih (fun r hr => hl r (by simp [hr]))]
  rw [e, e, hr, Array.mapM_eq_mapM_toList, Array.mapM_eq_mapM_toList, hm _ ?_]
  intro r hr'
  have hs : slotOf r ∈ resSlots rs := List.mem_map_of_mem (by simpa using hr')
  cases r with
  | tmp t => simp only [resG, h t hs]
  | cell a t => simp only [resG, h a hs]
theorem leaves_one {fn : Func} {rs : List ResultVar} {k : FuncId} {cs : List Value} {u : FrameMode} {R : Ending → World → Prop} {tmps : Array Value} (hu : u ≠ .run) (hr : fn.results = rs.toArray) (he : Enters P k) (ht : ∀ s ∈ resSlots rs, tmps.getD s undef = (act n f ds).tmps.getD s undef)
    (h : lvd P k cs u w fun w' => ∃ vs, AllRes P n f w' rs vs ∧ R (.returned (resV vs)) w') : Leaves P fn tmps R [{ target := .fn (.func k) cs.toArray, args := #[] }] u w := by
  refine leaves_cons hu (inv_enter he) (CallsD.mono h fun e u' w' ⟨⟨v, h1⟩, h2, vs, h3, h4⟩ => ?_)
  subst h1
  simp only [h2, Leaves]
  refine ⟨_, ?_, h4⟩
  rw [results_eq hr ht]
  exact run_results hr h3
theorem ret_D {fn : Func} {rs : List ResultVar} {k : FuncId} {cs : List Value} {R : Ending → World → Prop} {sl : List Nat} (hr : fn.results = rs.toArray) (he : Enters P k)
    (h : lvd P k cs .returning w fun w' => ∃ vs, AllRes P n f w' rs vs ∧ R (.returned (resV vs)) w') : bodyPostE P fn sl R .ret (act n f [{ target := .fn (.func k) cs.toArray, args := #[] }]) w :=
  leaves_one (by simp) hr he (fun _ _ => rfl) h
theorem pan_D {fn : Func} {rs : List ResultVar} {k : FuncId} {cs : List Value} {R : Ending → World → Prop} {v : Iv} (hr : fn.results = rs.toArray) (he : Enters P k)
    (h : lvd P k cs (.panicking (pnc v)) w fun w' => ∃ vs, AllRes P n f w' rs vs ∧ R (.returned (resV vs)) w') : bodyPostE P fn (resSlots rs) R (.panic (pnc v)) (act n f [{ target := .fn (.func k) cs.toArray, args := #[] }]) w :=
  fun tmps ht => leaves_one (ds := [{ target := .fn (.func k) cs.toArray, args := #[] }]) (by simp) hr he ht h
theorem panE_put {fn : Func} {sl : List Nat} {R : Ending → World → Prop} {c : List PanicEntry} {a : Act} {d : Option Nat} {v : Value} (hd : ∀ s ∈ sl, d ≠ some s) (h : bodyPostE P fn sl R (.panic c) (a.put d v) w) : bodyPostE P fn sl R (.panic c) a w := by
  cases d with
  | none => exact h
  | some d =>
    intro tmps ht
    refine h tmps fun s hs => ?_
    rw [ht s hs]
    have : d ≠ s := fun e => hd s hs (by rw [e])
    simp [Act.put, Array.getD_eq_getD_getElem?, Array.getElem?_setIfInBounds, this]
theorem dst_ok {ops : Array Oper} {sl : List Nat} {d : Option Nat} (h : (ops.toList.all fun o => sl.all fun s => o.dst != some s) = true) (hd : ∃ o ∈ ops.toList, o.dst = d) : ∀ s ∈ sl, d ≠ some s := by
  obtain ⟨o, ho, rfl⟩ := hd
  intro s hs
  have := List.all_eq_true.1 (List.all_eq_true.1 h o ho) s hs
  simpa using this
/-- A deferred call is laid. -/
theorem wp_defer {k : FuncId} {cs : List Value} {next : Act → World → Prop} {d : Option Nat} {ts : Array TypeId} (hd : o.dst = d) (ho : o.op = .defer { callee := .value x, args := #[], argTypes := ts }) (hx : evl n f x = .func (.func k) #[] cs.toArray)
    (h : next (act n (updo f d undef) ({ target := .fn (.func k) cs.toArray, args := #[] } :: ds)) w) : Ow P o (act n f ds) w next Q := by
  rw [Ow_eq]
  subst hd
  have hop : (execOp (evl n f) o).run P w = .ok (.defer { target := .fn (.func k) cs.toArray, args := #[] }) w := by
    simp [execOp, ho, hx, resolve, Deferred.ofValue]
  simp only [Oper.wp, act_eval, hop, Oper.upon]
  have e : (({ (act n f ds) with defers := { target := .fn (.func k) cs.toArray, args := #[] } :: ds } : Act).put o.dst undef) = act n (updo f o.dst undef) ({ target := .fn (.func k) cs.toArray, args := #[] } :: ds) := act_put n f _ o.dst undef
  first
    | exact e ▸ h
    | (rw [← e] at h; exact h)
/-! ### a deferred closure that recovers -/
/-- The mode of the frame below, what recover hands back, the mode then. -/
def Recov (u : FrameMode) (v : Iv) (u' : FrameMode) : Prop :=
  (∃ older, u = .panicking ({ v := v.enc, recovered := false } :: older) ∧ u' = .panicking ({ v := v.enc, recovered := true } :: older)) ∨ (u = .returning ∧ v = .nil ∧ u' = .returning)
theorem recov_pnc (v : Iv) : Recov (.panicking (pnc v)) v (.panicking [{ v := v.enc, recovered := true }]) := .inl ⟨[], rfl, rfl⟩
theorem recov_ret : Recov .returning .nil .returning := .inr ⟨rfl, rfl, rfl⟩
section
variable {QS : Exit → Act → List Frame → World → Prop} {cs cs' : List Frame} {ops : Array Oper} {i : Nat} {rest : List Nat} {d : Option Nat}
theorem callsD_start {f : FuncId} {fn : Func} {c : Code} {l : List Value} {u : FrameMode} {R : Ending → FrameMode → World → Prop} (n : Nat) (hf : P.funcs[f]? = some fn) (hn : fn.ntmps = n) (hb : fn.body = some c) (hl : l.length ≤ n)
    (h : ∀ (c₀ : Frame) (cs : List Frame), c₀.mode = u → c.wpS P (bodyPostS P fn c₀ cs R) (act n (start l) []) (c₀ :: cs) w) : CallsD P f l.toArray u w R := by
  subst hn
  refine callsD_of_wpS hf hb fun c₀ cs hu => ?_
  rw [start_act l _ hl]
  exact h c₀ cs hu
theorem ros_rec {v : Iv} {u u' : FrameMode} {c₀ : Frame} (hi : ops.toList[i]? = some o) (hg : o.guard = none) (hd : o.dst = d) (ho : o.op = .call { callee := .builtin .recover, args := #[], argTypes := #[] }) (hu : c₀.mode = u) (hr : Recov u v u')
    (h : wpOpsS P ops QS rest (act n (updo f d v.enc) ds) ({ c₀ with mode := u' } :: cs) w) : wpOpsS P ops QS (i :: rest) (act n f ds) (c₀ :: cs) w := by
  subst hd
  have hop : (execOp (act n f ds).eval o).run P w = .ok .recover w := by
    simp [execOp, ho, resolve, invoke, builtin]
  simp only [wpOpsS, ofList hi]
  rw [if_pos (by simp [Region.wanted, hg])]
  rw [hop]
  simp only
  rcases hr with ⟨older, rfl, rfl⟩ | ⟨rfl, rfl, rfl⟩
  · have e : recoverD (c₀ :: cs) = some (v.enc, { c₀ with mode := .panicking ({ v := v.enc, recovered := true } :: older) } :: cs) := by
      simp only [recoverD, hu]
    rw [e]
    simp only [act_put]
    exact h
  · have e : recoverD (c₀ :: cs) = none := by
      simp only [recoverD, hu]
    rw [e]
    simp only [act_put]
    have e2 : ({ c₀ with mode := .returning } : Frame) = c₀ := by cases c₀; simp_all
    rw [e2] at h
    exact h
theorem ros_val {v : Value} (hi : ops.toList[i]? = some o) (hg : o.guard = none) (hd : o.dst = d) (hv : (execOp (evl n f) o).run P w = .ok (.value v) w')
    (h : wpOpsS P ops QS rest (act n (updo f d v) ds) cs w') : wpOpsS P ops QS (i :: rest) (act n f ds) cs w := by
  subst hd
  simp only [wpOpsS, ofList hi]
  rw [if_pos (by simp [Region.wanted, hg]), act_eval, hv]
  simp only [Oper.upon_value, act_put]
  exact h
theorem ros_nil (h : QS .normal (act n f ds) cs w) : wpOpsS P ops QS [] (act n f ds) cs w := h
theorem wpS_text {id : Nat} (l : List Nat) (hl : List.range ops.size = l) (h : wpOpsS P ops QS l (act n f ds) cs w) : (Code.region id ops false).wpS P QS (act n f ds) cs w := by
  subst hl; exact wpS_region h
theorem endS_ok {fn : Func} {c₀ : Frame} {u' : FrameMode} {R : World → Prop} (hr : fn.results = #[]) (h : R w) :
    bodyPostS P fn c₀ cs (fun e u2 w' => (∃ v, e = .returned v) ∧ u2 = u' ∧ R w') .normal (act n f []) ({ c₀ with mode := u' } :: cs) w := by
  refine ⟨rfl, u', rfl, .tuple #[], ?_, ⟨_, rfl⟩, rfl, h⟩
  have := run_results (P := P) (w := w) (n := n) (f := f) (ds := []) (fn := fn) (rs := []) (vs := []) hr .nil
  exact this
theorem retS_ok {fn : Func} {c₀ : Frame} {u' : FrameMode} {R : World → Prop} (hr : fn.results = #[]) (h : R w) :
    bodyPostS P fn c₀ cs (fun e u2 w' => (∃ v, e = .returned v) ∧ u2 = u' ∧ R w') .ret (act n f []) ({ c₀ with mode := u' } :: cs) w := endS_ok hr h
end
theorem lvd_of {k : FuncId} {args : List Value} {u u' : FrameMode} {K : World → Prop} (h : CallsD P k args.toArray u w fun e u2 w' => (∃ v, e = .returned v) ∧ u2 = u' ∧ K w') (hs : settle u' = .returning) : lvd P k args u w K :=
  CallsD.mono h fun _ _ w' ⟨h1, h2, h3⟩ => ⟨h1, by rw [h2]; exact hs, h3⟩
/-- x.(T), ok. -/
def Asrt {α : Type} (t : TypeId) (T : Ty α) (z : α) (x : Iv) (p : α × Bool) : Prop := (∃ y, x = .mk t (T.enc y) ∧ p = (y, true)) ∨ ((∀ v, x ≠ .mk t v) ∧ p = (z, false))
theorem q_assert2 {α : Type} {T : Ty α} {xt t : TypeId} {z : α} {v : Iv} {p : α × Bool} {m b : Nat} {y : Operand} (ho : o.op = .typeAssert y xt t true) (ht : ∃ d, P.underlying t = some d ∧ ifaD d = false) (hz : ∃ i, P.info? t = some i ∧ i.zero = some (T.enc z) ∧ i.size = m ∧ i.bytes = b) (hx : evl n f y = v.enc) (h : Asrt t T z v p) :
    (execOp (evl n f) o).run P w = .ok (.value (.tuple #[T.enc p.1, .bool p.2])) w := by
  obtain ⟨d, ht, hd⟩ := ht
  obtain ⟨i, hi, hzz, _⟩ := hz
  have hne : ∀ m, d ≠ .interface m := by intro m e; subst e; cases hd
  rcases h with ⟨u, rfl, rfl⟩ | ⟨hv, rfl⟩
  · cases d <;> first
      | cases hd; done
      | simp [execOp, ho, hx, Iv.enc, Instr.typeAssert, run_underlying ht]; done
  · cases v with
    | nil =>
      cases d <;> first
        | cases hd; done
        | simp [execOp, ho, hx, Iv.enc, Instr.typeAssert, run_underlying ht, zeroValue, typeInfo, hi, hzz]; done
    | mk t' u =>
      have htt : ¬ t' = t := fun e => hv u (by rw [e])
      cases d <;> first
        | cases hd; done
        | simp [execOp, ho, hx, Iv.enc, Instr.typeAssert, run_underlying ht, htt, zeroValue, typeInfo, hi, hzz]; done
def Iv.isNil : Iv → Bool
  | .nil => true
  | .mk _ _ => false
theorem run_isNil {t : TypeId} {v : Iv} {ms : Array (String × TypeId)} (ht : P.underlying t = some (.interface ms)) : (Op.equal t v.enc .nilIface).run P w = .ok v.isNil w := by
  show (Op.equalIn (9999 + 1) t v.enc .nilIface).run P w = _
  rw [Op.equalIn]
  simp only [Sem.run_bind, run_underlying ht, Result.andThen_ok]
  cases v <;> simp [Iv.enc, Iv.isNil]
theorem q_eqI0 {t u : TypeId} {v : Iv} {y : Operand} {ms : Array (String × TypeId)} (ho : o.op = .binOp .eql t y (.const .nilIface) u) (ht : P.underlying t = some (.interface ms)) (hx : evl n f y = v.enc) : (execOp (evl n f) o).run P w = .ok (.value (.bool v.isNil)) w := by
  have hc : evl n f (.const .nilIface) = .nilIface := rfl
  have hg : eqGuard .eql t y (.const .nilIface) v.enc .nilIface = pure () := by cases v <;> cases y <;> rfl
  have hb : binOp .eql t v.enc .nilIface = (do pure (.bool (← Op.equal t v.enc .nilIface))) := by cases v <;> rfl
  have h1 := run_isNil (P := P) (w := w) (v := v) ht
  simp only [execOp, ho, hx, hc, hg, hb, Sem.run_bind, Sem.run_pure, Result.andThen_ok, h1]
theorem q_neI0 {t u : TypeId} {v : Iv} {y : Operand} {ms : Array (String × TypeId)} (ho : o.op = .binOp .neq t y (.const .nilIface) u) (ht : P.underlying t = some (.interface ms)) (hx : evl n f y = v.enc) : (execOp (evl n f) o).run P w = .ok (.value (.bool (!v.isNil))) w := by
  have hc : evl n f (.const .nilIface) = .nilIface := rfl
  have hg : eqGuard .neq t y (.const .nilIface) v.enc .nilIface = pure () := by cases v <;> cases y <;> rfl
  have hb : binOp .neq t v.enc .nilIface = (do pure (.bool (!(← Op.equal t v.enc .nilIface)))) := by cases v <;> rfl
  have h1 := run_isNil (P := P) (w := w) (v := v) ht
  simp only [execOp, ho, hx, hc, hg, hb, Sem.run_bind, Sem.run_pure, Result.andThen_ok, h1]
/-! ### short words -/
section
variable {ops : Array Oper} {i : Nat} {rest : List Nat} {listed : Array Bool} {G : List (Nat × (World → Prop))} {m : Nat}
theorem rv (k : Nat) {v : Value} (hi : ops.toList[i]? = some o) (hg : o.guard = none) (hd : o.dst = some k) (hv : (execOp (evl n f) o).run P w = .ok (.value v) w')
    (h : Wo P ops Q rest (act n (upd f k v) ds) w') : Wo P ops Q (i :: rest) (act n f ds) w := ro_val (d := some k) hi (.free hg) hd hv h
theorem rp (i k : Nat) {v : Value} (hD : DrOk ops Q) (hi : ops.toList[i]? = some o) (hg : o.guard = none) (hd : o.dst = some k) (hv : ∀ w, (execOp (evl n f) o).run P w = .ok (.value v) w)
    (h : Wg P ops Q G m (listed.setIfInBounds i true) (act n (upd f k v) ds) w) (hf : Region.free .any ops listed i = true := by kernel_rfl) (hr : (Region.ready .any ops listed).contains i = true := by kernel_rfl) : Wg P ops Q G (m + 1) listed (act n f ds) w :=
  rd_pure (i := i) (d := some k) hD hf hr hi (.free hg) hd hv h
end
end
end Go.Proofs.YtpdaapffkdejoaaGreat.Cf
