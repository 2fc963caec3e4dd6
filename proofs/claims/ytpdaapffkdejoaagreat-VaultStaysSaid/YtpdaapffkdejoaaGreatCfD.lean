/- The walk's rules over characteristic formulae: results, joins, loops, append, calls. -/
import Derived.Test.YtpdaapffkdejoaaGreatCfC
import Derived.Laws.Append
namespace Go.Proofs.YtpdaapffkdejoaaGreat.Cf
set_option linter.unusedSimpArgs false
set_option linter.unusedVariables false
open Go
section
variable {P : Program} {Q : Exit → Act → World → Prop} {n : Nat} {f : Nat → Value} {ds : List Deferred} {w w' : World} {ops : Array Oper} {i : Nat} {rest : List Nat} {o : Oper} {x y : Operand}

/-! ### results -/
inductive ResIs (P : Program) (n : Nat) (f : Nat → Value) (w : World) : ResultVar → Value → Prop
  | tmp {t : Nat} {v : Value} (h : evl n f (.tmp t) = v) : ResIs P n f w (.tmp t) v
  | cell {α : Type} {T : Ty α} {m : Nat} {t : Nat} {ty : TypeId} {a : Addr} {u : α} (ok : TyOk P ty T m) (h : evl n f (.tmp t) = .pointer (some a)) (hr : Rd w a (T.cells u)) : ResIs P n f w (.cell t ty) (T.enc u)
inductive AllRes (P : Program) (n : Nat) (f : Nat → Value) (w : World) : List ResultVar → List Value → Prop
  | nil : AllRes P n f w [] []
  | cons {r : ResultVar} {v : Value} {rs : List ResultVar} {vs : List Value} (h : ResIs P n f w r v) (t : AllRes P n f w rs vs) : AllRes P n f w (r :: rs) (v :: vs)

theorem act_getD (t : Nat) : (act n f ds).tmps.getD t undef = evl n f (.tmp t) := by
  have := congrFun (act_eval n f ds) (.tmp t)
  exact this

def resG (tmps : Array Value) : ResultVar → Sem Value
  | .tmp t => pure (tmps.getD t undef)
  | .cell a t => do loadVar t (← asAddr (tmps.getD a undef))
theorem run_resIs {r : ResultVar} {v : Value} (h : ResIs P n f w r v) : (resG (act n f ds).tmps r).run P w = .ok v w := by
  cases h with
  | tmp h => simp only [resG, act_getD, h]; exact Sem.run_pure ..
  | cell ok h hr => simp only [resG, act_getD, h, asAddr, pure_bind, run_loadVar ok hr]

theorem run_mapM_res (g : ResultVar → Sem Value) : ∀ (rs : List ResultVar) (vs : List Value), (∀ (j : Nat) (r : ResultVar) (v : Value), rs[j]? = some r → vs[j]? = some v → (g r).run P w = .ok v w) → rs.length = vs.length →
    (rs.mapM g).run P w = .ok vs w
  | [], [], _, _ => by simp
  | r :: rs, v :: vs, h, hl => by
    have h0 := h 0 r v rfl rfl
    have ht := run_mapM_res g rs vs (fun j r v hr hv => h (j + 1) r v (by simpa using hr) (by simpa using hv)) (by simpa using hl)
    simp only [List.mapM_cons, Sem.run_bind, h0, Result.andThen_ok, ht, Sem.run_pure]
  | [], _ :: _, _, hl => by simp at hl
  | _ :: _, [], _, hl => by simp at hl

theorem AllRes.length {rs : List ResultVar} {vs : List Value} (h : AllRes P n f w rs vs) : rs.length = vs.length := by
  induction h with
  | nil => rfl
  | cons _ _ ih => simp [ih]
theorem AllRes.get {rs : List ResultVar} {vs : List Value} (h : AllRes P n f w rs vs) : ∀ (j : Nat) (r : ResultVar) (v : Value), rs[j]? = some r → vs[j]? = some v → ResIs P n f w r v := by
  induction h with
  | nil => intro j r v hr; simp at hr
  | cons h t ih =>
    intro j r v hr hv
    cases j with
    | zero => simp at hr hv; subst hr; subst hv; exact h
    | succ j => exact ih j r v (by simpa using hr) (by simpa using hv)

def resV : List Value → Value
  | [v] => v
  | vs => .tuple vs.toArray

theorem run_results {fn : Func} {rs : List ResultVar} {vs : List Value} (hr : fn.results = rs.toArray) (h : AllRes P n f w rs vs) :
    (results fn (act n f ds).tmps).run P w = .ok (resV vs) w := by
  have key := run_mapM_res (P := P) (w := w) (resG (act n f ds).tmps) rs vs (fun j r v hr hv => run_resIs (h.get j r v hr hv)) h.length
  have e : results fn (act n f ds).tmps = (do let us ← fn.results.mapM (resG (act n f ds).tmps); pure (if h : us.size = 1 then us[0] else .tuple us)) := rfl
  rw [e, hr, Array.mapM_eq_mapM_toList]
  simp only [bind_map_left, Sem.run_bind, key, Result.andThen_ok, Sem.run_pure]
  congr 1
  cases vs with
  | nil => rfl
  | cons v vs => cases vs with
    | nil => rfl
    | cons u vs => simp [resV]

theorem ret_ok {fn : Func} {rs : List ResultVar} {vs : List Value} {R : Ending → World → Prop} (hr : fn.results = rs.toArray) (h : AllRes P n f w rs vs) (hR : R (.returned (resV vs)) w) :
    bodyPost P fn R .ret (act n f []) w := ⟨rfl, _, run_results hr h, hR⟩
theorem end_ok {fn : Func} {rs : List ResultVar} {vs : List Value} {R : Ending → World → Prop} (hr : fn.results = rs.toArray) (h : AllRes P n f w rs vs) (hR : R (.returned (resV vs)) w) :
    bodyPost P fn R .normal (act n f []) w := ⟨rfl, _, run_results hr h, hR⟩

/-! ### joins, tests, loops -/
theorem seq_join {c d : Code} {σ : Type} {J : σ → World → Prop} {fr : (Nat → Value) → σ → (Nat → Value)}
    (hj : ∀ s g w, J s w → d.wp P Q (act n (fr g s) ds) w) (hx : c.wp P (Exit.then (fun a w => ∃ s g, a = act n (fr g s) ds ∧ J s w) Q) (act n f ds) w) : (Code.seq c d).wp P Q (act n f ds) w :=
  wp_seq_k fun K hK => wp_mono hx fun e a w h => by
    cases e <;> first
      | exact h
      | (obtain ⟨s, g, rfl, hJ⟩ := h; exact hK _ _ (hj s g w hJ))
theorem wp_if {c : Operand} {p q : Code} {b : Bool} {X Y : Prop} (hc : evl n f c = .bool b) (h : if b = true then X else Y) (hx : b = true → X → p.wp P Q (act n f ds) w) (hy : b = false → Y → q.wp P Q (act n f ds) w) :
    (Code.cond c p q).wp P Q (act n f ds) w := by
  refine wp_cond_split (t := b) (by rw [act_eval]; exact hc) (fun hb => hx hb (by simpa [hb] using h)) (fun hb => hy hb (by simpa [hb] using h))
theorem wp_no {c : Operand} {p q : Code} (hc : evl n f c = .bool false) (hy : q.wp P Q (act n f ds) w) : (Code.cond c p q).wp P Q (act n f ds) w :=
  wp_if (b := false) (X := False) (Y := True) hc (by simp) (fun h => by cases h) fun _ _ => hy
theorem wp_yes {c : Operand} {p q : Code} (hc : evl n f c = .bool true) (hx : p.wp P Q (act n f ds) w) : (Code.cond c p q).wp P Q (act n f ds) w :=
  wp_if (b := true) (X := True) (Y := False) hc (by simp) (fun _ _ => hx) fun h => by cases h
/-- A test inside a region: the ways part. -/
theorem ro_if {b : Bool} {X Y G : Prop} (h : if b = true then X else Y) (hx : b = true → X → G) (hy : b = false → Y → G) : G := by
  cases b
  · exact hy rfl (by simpa using h)
  · exact hx rfl (by simpa using h)
theorem least {p : Nat → Prop} (h : ∃ n, p n) : ∃ m, p m ∧ ∀ k, p k → m ≤ k := by
  obtain ⟨n, hn⟩ := h
  induction n using Nat.strongRecOn with
  | _ n ih =>
    by_cases hs : ∃ k, k < n ∧ p k
    · obtain ⟨k, hk, hp⟩ := hs; exact ih k hk hp
    · exact ⟨n, hn, fun k hk => Nat.le_of_not_lt fun hl => hs ⟨k, hl, hk⟩⟩
theorem loop_walk {c : Code} {σ : Type} {fr : (Nat → Value) → σ → (Nat → Value)} {body : σ → World → (σ → World → Prop) → Prop} {s0 : σ} {g0 : Nat → Value} (h : lp body s0 w)
    (hb : ∀ (s : σ) (g : Nat → Value) (w : World) (K : σ → World → Prop), body s w K → c.wp P (Exit.then (fun a' w' => ∃ s' g', a' = act n (fr g' s') ds ∧ K s' w') Q) (act n (fr g s) ds) w) :
    (Code.loop c).wp P Q (act n (fr g0 s0) ds) w := by
  obtain ⟨I, μ, h0, hr⟩ := h
  classical
  let J : Nat → Act → World → Prop := fun m a w => ∃ s g, a = act n (fr g s) ds ∧ I s w ∧ μ s w = m
  let ν : Act → World → Nat := fun a w => if h : ∃ m, J m a w then (least h).choose else 0
  refine wp_loop (fun a w => ∃ m, J m a w) ν ⟨_, s0, g0, rfl, h0, rfl⟩ ?_
  intro a w hI
  have hν : ν a w = (least hI).choose := by simp only [ν, dif_pos hI]
  obtain ⟨⟨s, g, rfl, hs, hm⟩, hmin⟩ := (least hI).choose_spec
  have := hb s g w _ (hr s w hs)
  refine wp_mono this fun e a' w' he => ?_
  cases e <;> first
    | exact he
    | (obtain ⟨s', g', rfl, hI', hlt⟩ := he
       have hex : ∃ m, J m (act n (fr g' s') ds) w' := ⟨_, s', g', rfl, hI', rfl⟩
       refine ⟨hex, ?_⟩
       have h1 : ν (act n (fr g' s') ds) w' = (least hex).choose := by simp only [ν, dif_pos hex]
       have h2 : (least hex).choose ≤ μ s' w' := (least hex).choose_spec.2 _ ⟨s', g', rfl, hI', rfl⟩
       rw [hν, h1, ← hm]
       omega)

/-! ### calls -/
theorem wp_cl {α : Type} {T : Ty α} {k : FuncId} {args : List Value} {d : Option Nat} {next : Act → World → Prop} {K : α → World → Prop} (hd : o.dst = d)
    (hv : (execOp (evl n f) o).run P w = .ok (.enter k args.toArray) w) (h : cl P k args T w K) (hk : ∀ r w', K r w' → next (act n (updo f d (T.enc r)) ds) w') : Ow P o (act n f ds) w next Q := by
  rw [Ow_eq]
  subst hd
  refine call_wp hv (Calls.mono h fun e w' he => ?_)
  cases e with
  | returned v => obtain ⟨r, rfl, hr⟩ := he; exact hk r w' hr
  | panicked c => exact he.elim
  | outgrown => exact he.elim
theorem cl_mono {α : Type} {T : Ty α} {k : FuncId} {args : List Value} {K K' : α → World → Prop} (h : cl P k args T w K) (hk : ∀ r w', K r w' → K' r w') : cl P k args T w K' :=
  Calls.mono h fun e w' he => by
    cases e with
    | returned v => obtain ⟨r, hr, hK⟩ := he; exact ⟨r, hr, hk r w' hK⟩
    | panicked c => exact he
    | outgrown => exact he

/-! ### guards that stay undecided: what is reckoned or read behind one -/
def gvb (g : Bool) (v : Value) : Value := bif g then v else undef
theorem gvb_yes {g : Bool} {v : Value} (h : g = true) : gvb g v = v := by subst h; rfl
theorem and_l {a b : Bool} (h : (a && b) = true) : a = true := (Bool.and_eq_true_iff.1 h).1
theorem and_r {a b : Bool} (h : (a && b) = true) : b = true := (Bool.and_eq_true_iff.1 h).2
/-- The operation is let by just where g is. -/
inductive Guard (n : Nat) (ops : Array Oper) (f : Nat → Value) (o : Oper) (g : Bool) : Prop
  | yes (j : Nat) (d : Nat) (g0 c : Bool) (hg : o.guard = some (j, true)) (hj : (ops[j]?).bind (·.dst) = some d) (hv : evl n f (.tmp d) = gvb g0 (.bool c)) (he : g = (g0 && c))
  | no (j : Nat) (d : Nat) (g0 c : Bool) (hg : o.guard = some (j, false)) (hj : (ops[j]?).bind (·.dst) = some d) (hv : evl n f (.tmp d) = gvb g0 (.bool c)) (he : g = (g0 && !c))
theorem Guard.wanted {g : Bool} (h : Guard n ops f o g) : Region.wanted o (yielded ops (act n f ds).tmps) = g := by
  cases h with
  | yes j d g0 c hg hj hv he =>
    subst he
    simp only [Region.wanted, hg, yielded_act, yieldedF, hj, hv]
    cases g0 <;> cases c <;> rfl
  | no j d g0 c hg hj hv he =>
    subst he
    simp only [Region.wanted, hg, yielded_act, yieldedF, hj, hv]
    cases g0 <;> cases c <;> rfl
theorem ro_gval {g : Bool} {v : Value} {d : Option Nat} (hi : ops.toList[i]? = some o) (hg : Guard n ops f o g) (hd : o.dst = d) (hv : g = true → (execOp (evl n f) o).run P w = .ok (.value v) w)
    (h : Wo P ops Q rest (act n (updo f d (gvb g v)) ds) w) : Wo P ops Q (i :: rest) (act n f ds) w := by
  subst hd
  rw [Wo_eq] at *
  rw [wpOps_cons]
  simp only [wpOp, ofList hi, hg.wanted]
  cases g with
  | true =>
    left
    simp only [Oper.wp, act_eval, hv rfl, Oper.upon_value, act_put]
    exact h
  | false => simp only [Bool.false_eq_true, if_false, act_put]; exact h
theorem rd_gpure {g : Bool} {v : Value} {k : Nat} {d : Option Nat} {listed : Array Bool} {G : List (Nat × (World → Prop))} (hD : DrOk ops Q) (hf : Region.free .any ops listed i = true) (hr : (Region.ready .any ops listed).contains i = true) (hi : ops.toList[i]? = some o)
    (hg : Guard n ops f o g) (hd : o.dst = d) (hv : g = true → ∀ w, (execOp (evl n f) o).run P w = .ok (.value v) w)
    (h : Wg P ops Q G k (listed.setIfInBounds i true) (act n (updo f d (gvb g v)) ds) w) : Wg P ops Q G (k + 1) listed (act n f ds) w := by
  refine take_ahead (S := fun _ => True) (v := gvb g v) hD hf hr hi hd ?_ trivial (by rw [Wg_eq] at *; exact wpAnyG_idle (fun _ => trivial) _ _ _ _ h)
  cases g with
  | true => exact .inl ⟨hg.wanted, fun w _ => by rw [act_eval]; exact hv rfl w⟩
  | false => exact .inr ⟨hg.wanted, rfl⟩
theorem rd_gread {g : Bool} {v : Value} {k : Nat} {d : Option Nat} {listed : Array Bool} {G : List (Nat × (World → Prop))} (S : World → Prop) (hD : DrOk ops Q) (hf : Region.free .any ops listed i = true) (hr : (Region.ready .any ops listed).contains i = true) (hi : ops.toList[i]? = some o)
    (hg : Guard n ops f o g) (hd : o.dst = d) (hv : g = true → ∀ w, S w → (execOp (evl n f) o).run P w = .ok (.value v) w) (hS : g = true → S w)
    (h : Wg P ops Q ((i, fun w => g = true → S w) :: G) k (listed.setIfInBounds i true) (act n (updo f d (gvb g v)) ds) w) : Wg P ops Q G (k + 1) listed (act n f ds) w := by
  refine take_ahead (S := fun w => g = true → S w) (v := gvb g v) hD hf hr hi hd ?_ hS h
  cases g with
  | true => exact .inl ⟨hg.wanted, fun w hw => by rw [act_eval]; exact hv rfl w (hw rfl)⟩
  | false => exact .inr ⟨hg.wanted, rfl⟩
theorem q_pickGF {z : Operand} {a c : Bool} (ho : o.op = .pick x y z) (hx : evl n f x = .bool a) (hy : evl n f y = .bool true) (hz : evl n f z = gvb (!a) (.bool c)) :
    (execOp (evl n f) o).run P w = .ok (.value (.bool (a || c))) w := by
  cases a <;> simp [execOp, ho, hx, hy, hz, asBool, gvb]
theorem q_pickGT {z : Operand} {a b : Bool} (ho : o.op = .pick x y z) (hx : evl n f x = .bool a) (hy : evl n f y = gvb a (.bool b)) (hz : evl n f z = .bool false) :
    (execOp (evl n f) o).run P w = .ok (.value (.bool (a && b))) w := by
  cases a <;> simp [execOp, ho, hx, hy, hz, asBool, gvb]
/-- The same, itself behind a guard g0 that holds. -/
theorem q_pickNF {z : Operand} {g0 a c : Bool} (hg : g0 = true) (ho : o.op = .pick x y z) (hx : evl n f x = gvb g0 (.bool a)) (hy : evl n f y = .bool true) (hz : evl n f z = gvb (g0 && !a) (.bool c)) :
    (execOp (evl n f) o).run P w = .ok (.value (.bool (a || c))) w := by
  subst hg; cases a <;> simp [execOp, ho, hx, hy, hz, asBool, gvb]
theorem q_pickNT {z : Operand} {g0 a b : Bool} (hg : g0 = true) (ho : o.op = .pick x y z) (hx : evl n f x = gvb g0 (.bool a)) (hy : evl n f y = gvb (g0 && a) (.bool b)) (hz : evl n f z = .bool false) :
    (execOp (evl n f) o).run P w = .ok (.value (.bool (a && b))) w := by
  subst hg; cases a <;> simp [execOp, ho, hx, hy, hz, asBool, gvb]

theorem arr {g f : Nat → Value} (h : g = f) : act n f ds = act n g ds := by rw [h]

theorem wpOps_append (l2 : List Nat) : ∀ (l1 : List Nat) (a : Act) (w : World), wpOps P ops (Exit.then (fun a w => wpOps P ops Q l2 a w) Q) l1 a w → wpOps P ops Q (l1 ++ l2) a w := by
  intro l1
  induction l1 with
  | nil => intro a w h; exact h
  | cons i l1 ih =>
    intro a w h
    rw [List.cons_append, wpOps_cons]
    rw [wpOps_cons] at h
    unfold wpOp at *
    cases ho : ops[i]? with
    | none => simp only [ho] at h ⊢; exact ih _ _ h
    | some o =>
      simp only [ho] at h ⊢
      by_cases hw : Region.wanted o (yielded ops a.tmps) = true
      · rw [if_pos hw] at h ⊢
        rcases h with h | ⟨h1, a0, w0, h2⟩
        · left
          have h' := Oper.wp_mono (K' := wpOps P ops Q (l1 ++ l2)) (fun a w h => ih a w h) h
          unfold Oper.wp at h' ⊢
          revert h'
          generalize (execOp a.eval o).run P w = r
          cases r with
          | ok nx w' => cases nx <;> exact fun h => h
          | halt x w' => cases x <;> exact fun h => h
        · exact .inr ⟨h1, a0, w0, h2⟩
      · rw [if_neg hw] at h ⊢
        exact ih _ _ h
theorem ro_join {σ : Type} {J : σ → World → Prop} {fr : (Nat → Value) → σ → (Nat → Value)} (l1 l2 : List Nat)
    (hj : ∀ s g w, J s w → Wo P ops Q l2 (act n (fr g s) ds) w) (hx : Wo P ops (Exit.then (fun a w => ∃ s g, a = act n (fr g s) ds ∧ J s w) Q) l1 (act n f ds) w) : Wo P ops Q (l1 ++ l2) (act n f ds) w := by
  rw [Wo_eq] at *
  refine wpOps_append l2 l1 _ _ ?_
  have : ∀ (l : List Nat) (a : Act) (w : World), wpOps P ops (Exit.then (fun a w => ∃ s g, a = act n (fr g s) ds ∧ J s w) Q) l a w → wpOps P ops (Exit.then (fun a w => wpOps P ops Q l2 a w) Q) l a w := by
    intro l
    induction l with
    | nil => rintro a w ⟨s, g, rfl, hJ⟩; exact hj s g w hJ
    | cons i l ih =>
      intro a w h
      rw [wpOps_cons] at h ⊢
      unfold wpOp at *
      cases ho : ops[i]? with
      | none => simp only [ho] at h ⊢; exact ih _ _ h
      | some o =>
        simp only [ho] at h ⊢
        by_cases hw : Region.wanted o (yielded ops a.tmps) = true
        · rw [if_pos hw] at h ⊢
          rcases h with h | ⟨h1, a0, w0, h2⟩
          · left
            have h' := Oper.wp_mono (K' := wpOps P ops (Exit.then (fun a w => wpOps P ops Q l2 a w) Q) l) (fun a w h => ih a w h) h
            unfold Oper.wp at h' ⊢
            revert h'
            generalize (execOp a.eval o).run P w = r
            cases r with
            | ok nx w' => cases nx <;> exact fun h => h
            | halt x w' => cases x <;> exact fun h => h
          · exact .inr ⟨h1, a0, w0, h2⟩
        · rw [if_neg hw] at h ⊢
          exact ih _ _ h
  exact this l1 _ _ hx
theorem loop_at {c : Code} {σ : Type} {fr : (Nat → Value) → σ → (Nat → Value)} {body : σ → World → (σ → World → Prop) → Prop} {s0 : σ} (hf : fr f s0 = f) (h : lp body s0 w)
    (hb : ∀ (s : σ) (g : Nat → Value) (w : World) (K : σ → World → Prop), body s w K → c.wp P (Exit.then (fun a' w' => ∃ s' g', a' = act n (fr g' s') ds ∧ K s' w') Q) (act n (fr g s) ds) w) :
    (Code.loop c).wp P Q (act n f ds) w := by
  rw [← hf]
  exact loop_walk (fr := fr) h hb
/-- A call of a function value. -/
def clv {α : Type} (P : Program) (fv : Fv) (args : List Value) (T : Ty α) (w : World) (k : α → World → Prop) : Prop :=
  ∃ (f : FuncId) (c : List Value), fv = .mk (.func f) #[] c.toArray ∧ Enters P f ∧ cl P f (args ++ c) T w k
theorem wp_clv {α : Type} {T : Ty α} {as : List Operand} {ts : Array TypeId} {l : List Value} {fv : Fv} {d : Option Nat} {next : Act → World → Prop} {K : α → World → Prop} (hd : o.dst = d) (ho : o.op = .call { callee := .value x, args := as.toArray, argTypes := ts })
    (hx : evl n f x = fv.enc) (ha : as.map (evl n f) = l) (h : clv P fv l T w K) (hk : ∀ r w', K r w' → next (act n (updo f d (T.enc r)) ds) w') : Ow P o (act n f ds) w next Q := by
  obtain ⟨k, c, hfv, he, h⟩ := h
  exact wp_cl hd (q_callV ho hx hfv he ha) h hk
def dr (w : World) (k : World → Prop) : Prop := k w.drew
theorem dr_open {w : World} {k : World → Prop} (h : dr w k) : ∃ w', w' = w.drew ∧ k w' := ⟨_, rfl, h⟩
def bth (A B : Prop) : Prop := A ∧ B
end
theorem Rd_alloc {w : World} {o : Obj} {a : Addr} {cs : List Value} (h : Rd w a cs) : Rd (w.alloc o) a cs := by
  intro j v hv
  have h0 := h j v hv
  rw [World.cell?_alloc_lt _ _ _ (World.block_lt_of_cell? _ _ h0)]
  exact h0
theorem keep_RdAt {α : Type} {T : Ty α} {a : Addr} {x : α} {w w' : World} {o : Obj} (hw : w' = w.alloc o) (h : RdAt T a w x) : RdAt T a w' x := hw ▸ Rd_alloc h
end Go.Proofs.YtpdaapffkdejoaaGreat.Cf
