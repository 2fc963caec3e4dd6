/- append, copy, make and maps: the words and what the operations answer. -/
import Derived.Test.YtpdaapffkdejoaaGreatCfD
import Derived.Maps.OwnOps
namespace Go.Proofs.YtpdaapffkdejoaaGreat.Cf
set_option linter.unusedSimpArgs false
set_option linter.unusedVariables false
open Go

/-! ### rows -/
def RdO {α : Type} (T : Ty α) (w : World) (a : Option Addr) (xs : List α) : Prop := match a with
  | some a => Rd w a (xs.flatMap T.cells)
  | none => xs = []
/-- What lies in a slice. -/
def RdS {α : Type} (T : Ty α) (w : World) (s : Slc) (xs : List α) : Prop := xs.length = s.len ∧ RdO T w s.a xs

/-- append of values: in its place, or in a new row. -/
def app {α : Type} (t : TypeId) (T : Ty α) (sz by_ : Nat) (s : Slc) (new : List α) (w : World) (k : Slc → World → Prop) : Prop :=
  (s.len + new.length ≤ s.cap → match s.a with
    | some a => Wr w (a.add (s.len * sz)) (new.length * sz) ∧ k ⟨some a, s.len + new.length, s.cap⟩ (putc w (a.add (s.len * sz)) 0 (new.flatMap T.cells))
    | none => k ⟨none, s.len + new.length, s.cap⟩ w) ∧
  (s.cap < s.len + new.length → (s.len + new.length) * by_ ≤ 140737488355328 ∧ ∃ old : List α, RdS T w s old ∧
    ∀ (c : Nat) (rest : List Value), s.len + new.length ≤ c → rest.length = (c - (s.len + new.length)) * sz →
      k ⟨some ⟨w.heap.size, 0, none⟩, s.len + new.length, c⟩ (w.drew.alloc (.cells ((old ++ new).flatMap T.cells ++ rest).toArray t)))
/-- append(s, xs...). -/
def apd {α : Type} (t : TypeId) (T : Ty α) (sz by_ : Nat) (s b : Slc) (w : World) (k : Slc → World → Prop) : Prop :=
  ∃ new : List α, RdS T w b new ∧ app t T sz by_ s new w k
/-- append(s, x, y): the row of what is appended lies at the heap's end. -/
def apl {α : Type} (t : TypeId) (T : Ty α) (sz by_ : Nat) (s : Slc) (new : List α) (w : World) (k : Slc → World → Prop) : Prop :=
  app t T sz by_ s new (w.alloc (.cells (new.flatMap T.cells).toArray t)) k

section
variable {P : Program} {Q : Exit → Act → World → Prop} {n : Nat} {f : Nat → Value} {ds : List Deferred} {w w' : World} {ops : Array Oper} {i : Nat} {rest : List Nat} {o : Oper} {x y z : Operand}

theorem flat_len {α : Type} {T : Ty α} {m : Nat} (h : ∀ x, (T.cells x).length = m) (xs : List α) : (xs.flatMap T.cells).length = xs.length * m := by
  induction xs with
  | nil => simp
  | cons x xs ih => simp [ih, h x, Nat.add_mul, Nat.add_comm]

theorem run_firstCells {α : Type} {T : Ty α} {m : Nat} (hl : ∀ x, (T.cells x).length = m) {s : Slc} {xs : List α} (h : RdS T w s xs) :
    (Builtin.firstCells m s.len (tSlc.enc s)).run P w = .ok (xs.flatMap T.cells).toArray w := by
  obtain ⟨hlen, hr⟩ := h
  obtain ⟨a, l, c⟩ := s
  cases a with
  | none =>
    simp only [RdO] at hr
    subst hr
    simp [Builtin.firstCells]
  | some a =>
    simp only [RdO] at hr
    simp only at hlen
    have := run_loadCellsFrom P w a (xs.flatMap T.cells) 0 #[] (by intro j v hv; rw [Nat.zero_add]; exact hr j v hv)
    rw [flat_len hl, hlen] at this
    simp only [Builtin.firstCells, loadCells]
    rw [this]; simp

theorem Rd_drew {a : Addr} {cs : List Value} (h : Rd w a cs) : Rd w.drew a cs := fun j v hv => h j v hv
theorem RdS_drew {α : Type} {T : Ty α} {s : Slc} {xs : List α} (h : RdS T w s xs) : RdS T w.drew s xs := by
  obtain ⟨a, l, c⟩ := s
  cases a <;> exact h

theorem run_append_in {α : Type} {T : Ty α} {sz : Nat} {t u ty e : TypeId} {s b : Slc} {new : List α} (ht : P.underlying t = some (.slice e)) (hu : ∃ e', P.underlying u = some (.slice e'))
    (ok : TyOk P e T sz) (hnew : RdS T w b new) (hc : s.len + new.length ≤ s.cap) {a : Addr} (ha : s.a = some a) (hw : Wr w (a.add (s.len * sz)) (new.length * sz)) :
    (Builtin.append_ #[t, u] ty #[tSlc.enc s, tSlc.enc b]).run P w = .ok (tSlc.enc ⟨some a, s.len + new.length, s.cap⟩) (putc w (a.add (s.len * sz)) 0 (new.flatMap T.cells)) := by
  obtain ⟨fo, hi, hfs⟩ := ok.size
  obtain ⟨e', hu⟩ := hu
  have hnl : new.length = b.len := hnew.1
  have hc' : s.len + b.len ≤ s.cap := by omega
  have h1 := run_firstCells (P := P) ok.len hnew
  have h2 := run_storeCells (P := P) (a.add (s.len * sz)) (new.flatMap T.cells) 0 w (by
    intro j hj
    rw [Nat.zero_add]
    rw [flat_len ok.len] at hj
    exact hw j hj) (fun v hv => by obtain ⟨x, _, hx⟩ := List.mem_flatMap.1 hv; exact ok.one x v hx)
  simp only [Builtin.append_]
  simp [run_underlying ht, run_underlying hu, run_sizeOf hi, Builtin.lenOf, hc', hfs, ha, hnl]
  have h1' : Sem.run P (Builtin.firstCells sz b.len (Value.slice b.a b.len b.cap)) w = .ok (new.flatMap T.cells).toArray w := h1
  rw [h1']
  simp only [Result.andThen_ok]
  rw [show storeCells (a.add (s.len * sz)) (new.flatMap T.cells).toArray.toList = storeCells (a.add (s.len * sz)) (new.flatMap T.cells) 0 from rfl, h2]
  simp

theorem run_append_in0 {α : Type} {T : Ty α} {sz : Nat} {t u ty e : TypeId} {s b : Slc} {new : List α} (ht : P.underlying t = some (.slice e)) (hu : ∃ e', P.underlying u = some (.slice e'))
    (ok : TyOk P e T sz) (hnew : RdS T w b new) (hc : s.len + new.length ≤ s.cap) (ha : s.a = none) :
    (Builtin.append_ #[t, u] ty #[tSlc.enc s, tSlc.enc b]).run P w = .ok (tSlc.enc ⟨none, s.len + new.length, s.cap⟩) w := by
  obtain ⟨fo, hi, hfs⟩ := ok.size
  obtain ⟨e', hu⟩ := hu
  have hnl : new.length = b.len := hnew.1
  have hc' : s.len + b.len ≤ s.cap := by omega
  have h1 : Sem.run P (Builtin.firstCells sz b.len (Value.slice b.a b.len b.cap)) w = .ok (new.flatMap T.cells).toArray w := run_firstCells (P := P) ok.len hnew
  simp only [Builtin.append_]
  simp [run_underlying ht, run_underlying hu, run_sizeOf hi, Builtin.lenOf, hc', hfs, ha, hnl, h1]

theorem run_append_grown {α : Type} {T : Ty α} {sz : Nat} {t u ty e : TypeId} {fo : TypeInfo} {zv : Value} {zc : List Value} {s b : Slc} {new old : List α} (ht : P.underlying t = some (.slice e)) (hu : ∃ e', P.underlying u = some (.slice e'))
    (ok : TyOk P e T sz) (hi : P.info? e = some fo) (hz : fo.zero = some zv) (hzc : zv.cells = zc.toArray) (hzl : zc.length = sz) (hby : 0 < fo.bytes)
    (hnew : RdS T w b new) (hc : s.cap < s.len + new.length) (hfit : (s.len + new.length) * fo.bytes ≤ 140737488355328) (hold : RdS T w s old) :
    ∃ (c : Nat) (rest : List Value), s.len + new.length ≤ c ∧ rest.length = (c - (s.len + new.length)) * sz ∧
      (Builtin.append_ #[t, u] ty #[tSlc.enc s, tSlc.enc b]).run P w = .ok (tSlc.enc ⟨some ⟨w.heap.size, 0, none⟩, s.len + new.length, c⟩) (w.drew.alloc (.cells ((old ++ new).flatMap T.cells ++ rest).toArray e)) := by
  obtain ⟨fo', hi', hfs⟩ := ok.size
  rw [hi] at hi'; injection hi' with hi'; subst hi'
  obtain ⟨e', hu⟩ := hu
  have hnl : new.length = b.len := hnew.1
  have hol : old.length = s.len := hold.1
  have hc' : ¬ (s.len + b.len ≤ s.cap) := by omega
  have hg := growslice_fits (need := s.len + b.len) (old := s.cap) (bytes := fo.bytes) (by omega) (by rw [← hnl]; exact hfit)
  have hg' : ¬ (281474976710656 < Builtin.nextslicecap (s.len + b.len) s.cap * fo.bytes) := by omega
  have hb0 : fo.bytes ≠ 0 := by omega
  have h1 := run_firstCells (P := P) ok.len hnew
  have h2 := run_firstCells (P := P) ok.len hold
  refine ⟨(Question.appendCap (s.len + b.len) s.cap e).cut (w.tape w.drawn (.appendCap (s.len + b.len) s.cap e)), (Builtin.zeroCells zv.cells ((Question.appendCap (s.len + b.len) s.cap e).cut (w.tape w.drawn (.appendCap (s.len + b.len) s.cap e)) - (s.len + b.len))).toList, ?_, ?_, ?_⟩
  · simp only [Question.cut]; omega
  · simp [Builtin.zeroCells, hzc, hzl, hnl]
  · have h1' : Sem.run P (Builtin.firstCells sz b.len (Value.slice b.a b.len b.cap)) w.drew = .ok (new.flatMap T.cells).toArray w.drew := run_firstCells (P := P) ok.len (RdS_drew hnew)
    have h2' : Sem.run P (Builtin.firstCells sz s.len (Value.slice s.a s.len s.cap)) w.drew = .ok (old.flatMap T.cells).toArray w.drew := run_firstCells (P := P) ok.len (RdS_drew hold)
    simp only [Builtin.append_]
    simp [run_underlying ht, run_underlying hu, run_sizeOf hi, Builtin.lenOf, hc', hfs, hnl, typeInfo, hi, hb0, hg', Question.forced, h1', h2', zeroValue, hz, newRow, List.flatMap_append, World.drew_eq]
    congr 2
    apply Array.ext'
    simp

theorem wp_append {α : Type} {T : Ty α} {sz by_ : Nat} {t u e : TypeId} {zv : Value} {zc : List Value} {s b : Slc} {d : Option Nat} {next : Act → World → Prop} {K : Slc → World → Prop} (hd : o.dst = d)
    (ho : o.op = .call { callee := .builtin .append, args := #[x, y], argTypes := #[t, u] }) (ht : P.underlying t = some (.slice e)) (hu : ∃ e', P.underlying u = some (.slice e'))
    (ok : TyOk P e T sz) (hinf : ∃ i, P.info? e = some i ∧ i.zero = some zv ∧ i.size = sz ∧ i.bytes = by_) (hzc : zv.cells = zc.toArray) (hzl : zc.length = sz) (hby : 0 < by_)
    (hx : evl n f x = tSlc.enc s) (hy : evl n f y = tSlc.enc b) (h : apd e T sz by_ s b w K) (hk : ∀ r w', K r w' → next (act n (updo f d (tSlc.enc r)) ds) w') :
    Ow P o (act n f ds) w next Q := by
  rw [Ow_eq]
  subst hd
  obtain ⟨fo, hi, hz, hfs, rfl⟩ := hinf
  obtain ⟨new, hnew, hin, hgr⟩ := h
  have hop : ∀ (w : World) (v : Value) (w' : World), (Builtin.append_ #[t, u] o.type #[tSlc.enc s, tSlc.enc b]).run P w = .ok v w' → (execOp (evl n f) o).run P w = .ok (.value v) w' := by
    intro w v w' hv
    simp only [execOp, ho, resolve, invoke, builtin]
    simp only [List.map_toArray, List.map_cons, List.map_nil, hx, hy, pure_bind, Sem.run_bind, hv, Result.andThen_ok, Sem.run_pure]
  by_cases hc : s.len + new.length ≤ s.cap
  · have hin := hin hc
    cases ha : s.a with
    | none =>
      rw [ha] at hin
      simp only [Oper.wp, act_eval, hop _ _ _ (run_append_in0 ht hu ok hnew hc ha), Oper.upon_value, act_put]
      exact hk _ _ hin
    | some a =>
      rw [ha] at hin
      simp only [Oper.wp, act_eval, hop _ _ _ (run_append_in ht hu ok hnew hc ha hin.1), Oper.upon_value, act_put]
      exact hk _ _ hin.2
  · obtain ⟨hfit, old, hold, hgr⟩ := hgr (by omega)
    obtain ⟨c, rest, h1, h2, h3⟩ := run_append_grown (ty := o.type) ht hu ok hi hz hzc hzl hby hnew (by omega) hfit hold
    simp only [Oper.wp, act_eval, hop _ _ _ h3, Oper.upon_value, act_put]
    exact hk _ _ (hgr c rest h1 h2)

/-- What was just laid in a new row reads so. -/
theorem Rd_new (w : World) (cs : List Value) (t : TypeId) : Rd (w.alloc (.cells cs.toArray t)) ⟨w.heap.size, 0, none⟩ cs := by
  intro j v hv
  have : (⟨w.heap.size, 0, none⟩ : Addr).add j = ⟨w.heap.size, j, none⟩ := by
    cases j <;> simp [Addr.add]
  rw [this, World.cell?_alloc_new]
  simpa using hv
theorem apd_of_apl {α : Type} {t : TypeId} {T : Ty α} {sz by_ : Nat} {s : Slc} {new : List α} {K : Slc → World → Prop} (h : apl t T sz by_ s new w K) :
    apd t T sz by_ s ⟨some ⟨w.heap.size, 0, none⟩, new.length, new.length⟩ (w.alloc (.cells (new.flatMap T.cells).toArray t)) K :=
  ⟨new, ⟨rfl, Rd_new w _ t⟩, h⟩
theorem fill_all {α : Type} {T : Ty α} {sz : Nat} (hl : ∀ x, (T.cells x).length = sz) (hf : ∀ x, (T.enc x).cells = (T.cells x).toArray) :
    ∀ (xs : List α) (i : Nat) (pre suf : List Value), pre.length = i * sz → suf.length = xs.length * sz →
      Instr.fill (fun i => some (i * sz, sz)) (pre ++ suf).toArray ((xs.zipIdx i).map fun p => (p.2, T.enc p.1)) = some (pre ++ xs.flatMap T.cells).toArray := by
  have splice : ∀ (vs : List Value) (o : Nat) (pre suf : List Value), pre.length = o → vs.length ≤ suf.length →
      ((vs.toArray.zipIdx).foldl (fun cs (x : Value × Nat) => cs.setIfInBounds (o + x.2) x.1) (pre ++ suf).toArray) = (pre ++ vs ++ suf.drop vs.length).toArray := by
    intro vs
    have gen : ∀ (vs : List Value) (k o : Nat) (pre suf : List Value), pre.length = o + k → vs.length ≤ suf.length →
        ((vs.zipIdx k).foldl (fun (cs : Array Value) (x : Value × Nat) => cs.setIfInBounds (o + x.2) x.1) (pre ++ suf).toArray) = (pre ++ vs ++ suf.drop vs.length).toArray := by
      intro vs
      induction vs with
      | nil => intro k o pre suf _ _; simp
      | cons v vs ih =>
        intro k o pre suf hp hs
        cases suf with
        | nil => simp at hs
        | cons s suf =>
          have h1 : ((pre ++ s :: suf).toArray.setIfInBounds (o + k) v) = ((pre ++ [v]) ++ suf).toArray := by
            rw [← hp]
            simp
          simp only [List.zipIdx_cons, List.foldl_cons, h1]
          rw [ih (k + 1) o (pre ++ [v]) suf (by simp; omega) (by simpa using hs)]
          simp
    intro o pre suf hp hs
    rw [← Array.foldl_toList]
    have : (vs.toArray.zipIdx).toList = vs.zipIdx 0 := by simp
    rw [this]
    exact gen vs 0 o pre suf (by omega) hs
  intro xs
  induction xs with
  | nil =>
    intro i pre suf hp hs
    have : suf = [] := by simpa using hs
    subst this
    simp [Instr.fill]
  | cons x xs ih =>
    intro i pre suf hp hs
    simp only [List.zipIdx_cons, List.map_cons, Instr.fill, hf x]
    have hs' : suf.length = xs.length * sz + sz := by rw [hs]; simp [Nat.add_mul]
    have hc : ((T.cells x).toArray.size ≠ sz || i * sz + (T.cells x).toArray.size > (pre ++ suf).toArray.size) = false := by
      simp [hl x, hp, hs']
    rw [hc]
    simp only [Bool.false_eq_true, if_false]
    have h2 := splice (T.cells x) (i * sz) pre suf hp (by rw [hl x, hs']; omega)
    rw [h2]
    rw [ih (i + 1) (pre ++ T.cells x) (suf.drop (T.cells x).length) (by simp [hp, hl x, Nat.add_mul]) (by simp [hl x, hs'])]
    simp

theorem q_rowOf {α : Type} {T : Ty α} {sz : Nat} {t e : TypeId} {zv : Value} {m : Nat} {ps : List (Nat × Operand)} {xs : List α} {a : Addr} {w' : World} (ho : o.op = .buildSlice t m ps.toArray) (ht : P.underlying t = some (.slice e))
    (ok : TyOk P e T sz) {by_ : Nat} (hinf : ∃ i, P.info? e = some i ∧ i.zero = some zv ∧ i.size = sz ∧ i.bytes = by_) (hm : xs.length = m) (hb : m * sz ≤ 2 ^ 24) (h0 : m * sz ≠ 0)
    (hp : ps.map (fun p => (p.1, evl n f p.2)) = (xs.zipIdx 0).map fun p => (p.2, T.enc p.1))
    (ha : a = ⟨w.heap.size, 0, none⟩) (hw : w' = w.alloc (.cells (xs.flatMap T.cells).toArray e)) :
    (execOp (evl n f) o).run P w = .ok (.value (tSlc.enc ⟨some a, m, m⟩)) w' := by
  subst ha; subst hw
  obtain ⟨fo, hi, hz, hfs, _⟩ := hinf
  have hfill := fill_all (T := T) ok.len ok.flat xs 0 [] ((Array.range (m * fo.size)).map (zv.cells[· % zv.cells.size]!)).toList (by simp) (by simp [hm, hfs])
  simp only [List.nil_append, Array.toArray_toList] at hfill
  have hm' : ¬ (m * fo.size > 2 ^ 24) := by rw [hfs]; omega
  have h0' : m * fo.size ≠ 0 := by rw [hfs]; exact h0
  simp only [execOp, ho, Instr.buildSlice]
  simp only [List.map_toArray, hp]
  simp only [bind_pure_comp, Sem.run_map, Sem.run_bind, run_underlying ht, Result.andThen_ok, run_sizeOf hi]
  rw [if_neg hm', if_neg h0']
  simp [zeroValue, typeInfo, hi, hz, hfs, newRow] at hfill ⊢
  simp [hfill]
theorem nwS_open {α : Type} {t : TypeId} {T : Ty α} {xs : List α} {w : World} {k : Addr → World → Prop} (h : nwS t T xs w k) :
    ∃ a w', a = ⟨w.heap.size, 0, none⟩ ∧ w' = w.alloc (.cells (xs.flatMap T.cells).toArray t) ∧ k a w' := ⟨_, _, rfl, rfl, h⟩
theorem q_sliceLH {t e : TypeId} {s r : Slc} {l h : Int} {kl kh : IntKind} {sz : Nat} {α : Type} {T : Ty α} (ho : o.op = .slice t x (some y) (some z) none) (ht : P.underlying t = some (.slice e)) (ok : TyOk P e T sz) (hx : evl n f x = tSlc.enc s) (hy : evl n f y = .int kl l) (hz : evl n f z = .int kh h)
    (hr : Sub s sz l h (s.cap : Int) r) : (execOp (evl n f) o).run P w = .ok (.value (tSlc.enc r)) w := by
  obtain ⟨fo, hfi, hfs⟩ := ok.size
  obtain ⟨a, len, cap⟩ := s
  try simp only at hr
  obtain ⟨h0, h1, h2, h3, rfl⟩ := hr
  have e1 : (((h : Int).toNat : Nat) : Int) = h := Int.toNat_of_nonneg (by omega)
  have e2 : ((((cap : Int) : Int).toNat : Nat) : Int) = (cap : Int) := Int.toNat_of_nonneg (by omega)
  have hb : ∀ (k : IntKind) (i : Int) (y : Nat) (c : BoundsCode), 0 ≤ i → i ≤ y → (Instr.sliceBound (.int k i) y c).run P w = .ok i.toNat w := fun k i y c hi0 hi1 => by
    simp [Instr.sliceBound, asIntOf, hi0, hi1]
  simp only [execOp, ho, hx, Option.map_some, Option.map_none, hy, hz]
  simp only [Instr.sliceAt, Instr.slice, Sem.run_bind, run_underlying ht, Result.andThen_ok, Instr.sliceBounds, bind_pure_comp, Sem.run_map, Sem.run_pure, hb kh h cap _ (by omega) (by omega), hb kl l h.toNat _ (by omega) (by omega)]
  simp [run_sizeOf hfi, hfs]
theorem q_sliceL {t e : TypeId} {s r : Slc} {l : Int} {kl : IntKind} {sz : Nat} {α : Type} {T : Ty α} (ho : o.op = .slice t x (some y) none none) (ht : P.underlying t = some (.slice e)) (ok : TyOk P e T sz) (hx : evl n f x = tSlc.enc s) (hy : evl n f y = .int kl l)
    (hr : Sub s sz l (s.len : Int) (s.cap : Int) r) : (execOp (evl n f) o).run P w = .ok (.value (tSlc.enc r)) w := by
  obtain ⟨fo, hfi, hfs⟩ := ok.size
  obtain ⟨a, len, cap⟩ := s
  try simp only at hr
  obtain ⟨h0, h1, h2, h3, rfl⟩ := hr
  have e1 : ((((len : Int) : Int).toNat : Nat) : Int) = (len : Int) := Int.toNat_of_nonneg (by omega)
  have e2 : ((((cap : Int) : Int).toNat : Nat) : Int) = (cap : Int) := Int.toNat_of_nonneg (by omega)
  have hb : ∀ (k : IntKind) (i : Int) (y : Nat) (c : BoundsCode), 0 ≤ i → i ≤ y → (Instr.sliceBound (.int k i) y c).run P w = .ok i.toNat w := fun k i y c hi0 hi1 => by
    simp [Instr.sliceBound, asIntOf, hi0, hi1]
  simp only [execOp, ho, hx, Option.map_some, Option.map_none, hy]
  simp only [Instr.sliceAt, Instr.slice, Sem.run_bind, run_underlying ht, Result.andThen_ok, Instr.sliceBounds, bind_pure_comp, Sem.run_map, Sem.run_pure, hb kl l len _ (by omega) (by omega)]
  simp [run_sizeOf hfi, hfs]
theorem q_sliceH {t e : TypeId} {s r : Slc} {h : Int} {kh : IntKind} {sz : Nat} {α : Type} {T : Ty α} (ho : o.op = .slice t x none (some z) none) (ht : P.underlying t = some (.slice e)) (ok : TyOk P e T sz) (hx : evl n f x = tSlc.enc s) (hz : evl n f z = .int kh h)
    (hr : Sub s sz 0 h (s.cap : Int) r) : (execOp (evl n f) o).run P w = .ok (.value (tSlc.enc r)) w := by
  obtain ⟨fo, hfi, hfs⟩ := ok.size
  obtain ⟨a, len, cap⟩ := s
  try simp only at hr
  obtain ⟨h0, h1, h2, h3, rfl⟩ := hr
  have e1 : (((h : Int).toNat : Nat) : Int) = h := Int.toNat_of_nonneg (by omega)
  have e2 : ((((cap : Int) : Int).toNat : Nat) : Int) = (cap : Int) := Int.toNat_of_nonneg (by omega)
  have hb : ∀ (k : IntKind) (i : Int) (y : Nat) (c : BoundsCode), 0 ≤ i → i ≤ y → (Instr.sliceBound (.int k i) y c).run P w = .ok i.toNat w := fun k i y c hi0 hi1 => by
    simp [Instr.sliceBound, asIntOf, hi0, hi1]
  simp only [execOp, ho, hx, Option.map_some, Option.map_none, hz]
  simp only [Instr.sliceAt, Instr.slice, Sem.run_bind, run_underlying ht, Result.andThen_ok, Instr.sliceBounds, bind_pure_comp, Sem.run_map, Sem.run_pure, hb kh h cap _ (by omega) (by omega)]
  simp [run_sizeOf hfi, hfs]
theorem q_slice0 {t e : TypeId} {s r : Slc}  {sz : Nat} {α : Type} {T : Ty α} (ho : o.op = .slice t x none none none) (ht : P.underlying t = some (.slice e)) (ok : TyOk P e T sz) (hx : evl n f x = tSlc.enc s) 
    (hr : Sub s sz 0 (s.len : Int) (s.cap : Int) r) : (execOp (evl n f) o).run P w = .ok (.value (tSlc.enc r)) w := by
  obtain ⟨fo, hfi, hfs⟩ := ok.size
  obtain ⟨a, len, cap⟩ := s
  try simp only at hr
  obtain ⟨h0, h1, h2, h3, rfl⟩ := hr
  have e1 : ((((len : Int) : Int).toNat : Nat) : Int) = (len : Int) := Int.toNat_of_nonneg (by omega)
  have e2 : ((((cap : Int) : Int).toNat : Nat) : Int) = (cap : Int) := Int.toNat_of_nonneg (by omega)
  have hb : ∀ (k : IntKind) (i : Int) (y : Nat) (c : BoundsCode), 0 ≤ i → i ≤ y → (Instr.sliceBound (.int k i) y c).run P w = .ok i.toNat w := fun k i y c hi0 hi1 => by
    simp [Instr.sliceBound, asIntOf, hi0, hi1]
  simp only [execOp, ho, hx, Option.map_some, Option.map_none]
  simp only [Instr.sliceAt, Instr.slice, Sem.run_bind, run_underlying ht, Result.andThen_ok, Instr.sliceBounds, bind_pure_comp, Sem.run_map, Sem.run_pure]
  simp [run_sizeOf hfi, hfs]
theorem q_sliceLHM {t e : TypeId} {s r : Slc} {l h m : Int} {kl kh km : IntKind} {v : Operand} {sz : Nat} {α : Type} {T : Ty α} (ho : o.op = .slice t x (some y) (some z) (some v)) (ht : P.underlying t = some (.slice e)) (ok : TyOk P e T sz) (hx : evl n f x = tSlc.enc s) (hy : evl n f y = .int kl l) (hz : evl n f z = .int kh h) (hv : evl n f v = .int km m)
    (hr : Sub s sz l h m r) : (execOp (evl n f) o).run P w = .ok (.value (tSlc.enc r)) w := by
  obtain ⟨fo, hfi, hfs⟩ := ok.size
  obtain ⟨a, len, cap⟩ := s
  try simp only at hr
  obtain ⟨h0, h1, h2, h3, rfl⟩ := hr
  have e1 : (((h : Int).toNat : Nat) : Int) = h := Int.toNat_of_nonneg (by omega)
  have e2 : (((m : Int).toNat : Nat) : Int) = m := Int.toNat_of_nonneg (by omega)
  have hb : ∀ (k : IntKind) (i : Int) (y : Nat) (c : BoundsCode), 0 ≤ i → i ≤ y → (Instr.sliceBound (.int k i) y c).run P w = .ok i.toNat w := fun k i y c hi0 hi1 => by
    simp [Instr.sliceBound, asIntOf, hi0, hi1]
  simp only [execOp, ho, hx, Option.map_some, Option.map_none, hy, hz, hv]
  simp only [Instr.sliceAt, Instr.slice, Sem.run_bind, run_underlying ht, Result.andThen_ok, Instr.sliceBounds, bind_pure_comp, Sem.run_map, Sem.run_pure, hb km m cap _ (by omega) (by omega), hb kh h m.toNat _ (by omega) (by omega), hb kl l h.toNat _ (by omega) (by omega)]
  simp [run_sizeOf hfi, hfs]
theorem q_sliceHM {t e : TypeId} {s r : Slc} {h m : Int} {kh km : IntKind} {v : Operand} {sz : Nat} {α : Type} {T : Ty α} (ho : o.op = .slice t x none (some z) (some v)) (ht : P.underlying t = some (.slice e)) (ok : TyOk P e T sz) (hx : evl n f x = tSlc.enc s) (hz : evl n f z = .int kh h) (hv : evl n f v = .int km m)
    (hr : Sub s sz 0 h m r) : (execOp (evl n f) o).run P w = .ok (.value (tSlc.enc r)) w := by
  obtain ⟨fo, hfi, hfs⟩ := ok.size
  obtain ⟨a, len, cap⟩ := s
  try simp only at hr
  obtain ⟨h0, h1, h2, h3, rfl⟩ := hr
  have e1 : (((h : Int).toNat : Nat) : Int) = h := Int.toNat_of_nonneg (by omega)
  have e2 : (((m : Int).toNat : Nat) : Int) = m := Int.toNat_of_nonneg (by omega)
  have hb : ∀ (k : IntKind) (i : Int) (y : Nat) (c : BoundsCode), 0 ≤ i → i ≤ y → (Instr.sliceBound (.int k i) y c).run P w = .ok i.toNat w := fun k i y c hi0 hi1 => by
    simp [Instr.sliceBound, asIntOf, hi0, hi1]
  simp only [execOp, ho, hx, Option.map_some, Option.map_none, hz, hv]
  simp only [Instr.sliceAt, Instr.slice, Sem.run_bind, run_underlying ht, Result.andThen_ok, Instr.sliceBounds, bind_pure_comp, Sem.run_map, Sem.run_pure, hb km m cap _ (by omega) (by omega), hb kh h m.toNat _ (by omega) (by omega)]
  simp [run_sizeOf hfi, hfs]
theorem apl_open {α : Type} {t : TypeId} {T : Ty α} {sz by_ : Nat} {s : Slc} {new : List α} {w : World} {K : Slc → World → Prop} (h : apl t T sz by_ s new w K) :
    ∃ a w', a = ⟨w.heap.size, 0, none⟩ ∧ w' = w.alloc (.cells (new.flatMap T.cells).toArray t) ∧ apd t T sz by_ s ⟨some a, new.length, new.length⟩ w' K := ⟨_, _, rfl, rfl, apd_of_apl h⟩
theorem q_row0 {α : Type} {T : Ty α} {sz by_ : Nat} {zv : Value} {t e : TypeId} {a : Addr} {w' : World} (ho : o.op = .buildSlice t 0 #[]) (ht : P.underlying t = some (.slice e)) (ok : TyOk P e T sz)
    (hi : ∃ i, P.info? e = some i ∧ i.zero = some zv ∧ i.size = sz ∧ i.bytes = by_) (ha : a = ⟨w.heap.size, 0, none⟩) (hw : w' = w.alloc (.cells (([] : List α).flatMap T.cells).toArray e)) :
    (execOp (evl n f) o).run P w = .ok (.value (tSlc.enc ⟨some a, 0, 0⟩)) w' := by
  subst ha; subst hw
  obtain ⟨i, hi, hz, hs, hb⟩ := hi
  simp [execOp, ho, Instr.buildSlice, run_underlying ht, run_sizeOf hi, Instr.fill, newRow]
  rw [show Array.range 0 = #[] from by simp [Array.range]]
  simp
end
end Go.Proofs.YtpdaapffkdejoaaGreat.Cf
