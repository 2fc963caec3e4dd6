/- make and copy of slices; max and min. -/
import Derived.Test.YtpdaapffkdejoaaGreatCfN
import Derived.Laws.MakeOwn
import Derived.Laws.Small
namespace Go.Proofs.YtpdaapffkdejoaaGreat.Cf
set_option linter.unusedSimpArgs false
set_option linter.unusedVariables false
open Go Go.ChangeMaps
section
variable {P : Program} {Q : Exit → Act → World → Prop} {n : Nat} {f : Nat → Value} {ds : List Deferred} {w w' : World} {ops : Array Oper} {i : Nat} {rest : List Nat} {o : Oper} {x y z : Operand}
theorem q_max {a b : Int} {k : IntKind} {ats : Array TypeId} (ho : o.op = .call { callee := .builtin .max, args := #[x, y], argTypes := ats }) (hx : evl n f x = .int k a) (hy : evl n f y = .int k b) :
    (execOp (evl n f) o).run P w = .ok (.value (.int k (max a b))) w := by
  have h := run_max_int2 (P := P) (w := w) ats o.type k k a b
  have e : (if b > a then b else a) = max a b := by omega
  rw [e] at h
  simp only [execOp, ho, resolve, invoke, builtin, List.map_toArray, List.map_cons, List.map_nil, hx, hy, pure_bind, Sem.run_bind, h, Result.andThen_ok, Sem.run_pure]
theorem q_min {a b : Int} {k : IntKind} {ats : Array TypeId} (ho : o.op = .call { callee := .builtin .min, args := #[x, y], argTypes := ats }) (hx : evl n f x = .int k a) (hy : evl n f y = .int k b) :
    (execOp (evl n f) o).run P w = .ok (.value (.int k (min a b))) w := by
  have h := run_min_int2 (P := P) (w := w) ats o.type k k a b
  have e : (if b < a then b else a) = min a b := by omega
  rw [e] at h
  simp only [execOp, ho, resolve, invoke, builtin, List.map_toArray, List.map_cons, List.map_nil, hx, hy, pure_bind, Sem.run_bind, h, Result.andThen_ok, Sem.run_pure]
theorem q_field1 {t : TypeId} {fs : Array Field} {fd : Field} {k off : Nat} {d : TypeDesc} {c : List Value} {v : Value} (ho : o.op = .field t x k) (ht : P.underlying t = some (.struct fs)) (hf : fs[k]? = some fd)
    (hoff : fd.offset = off) (hd : P.underlying fd.type = some d) (ha : aggD d = false) (hx : evl n f x = .agg c.toArray) (hv : c[off]? = some v) : (execOp (evl n f) o).run P w = .ok (.value v) w := by
  subst hoff
  have h := run_part1 (P := P) (w := w) (t := fd.type) (cs := c.toArray) (off := fd.offset) hd ha (by simpa using hv)
  simp [execOp, ho, hx, Instr.field, run_underlying ht, hf, asAgg, h]
theorem q_fieldS {t : TypeId} {fs : Array Field} {fd : Field} {k off m by_ : Nat} {d : TypeDesc} {c : List Value} {v zv : Value} (ho : o.op = .field t x k) (ht : P.underlying t = some (.struct fs)) (hf : fs[k]? = some fd)
    (hoff : fd.offset = off) (hd : P.underlying fd.type = some d) (ha : aggD d = true) (hx : evl n f x = .agg c.toArray) (hz : ∃ i, P.info? fd.type = some i ∧ i.zero = some zv ∧ i.size = m ∧ i.bytes = by_) (hv : Value.agg ((c.drop off).take m).toArray = v) : (execOp (evl n f) o).run P w = .ok (.value v) w := by
  subst hoff
  subst hv
  obtain ⟨i, hi, _, hs, _⟩ := hz
  have h := run_partS (P := P) (w := w) (t := fd.type) (cs := c.toArray) (off := fd.offset) (m := m) (ds := ((c.drop fd.offset).take m).toArray) hd ha ⟨i, hi, hs⟩ (by simp [List.extract_eq_take_drop])
  simp [execOp, ho, hx, Instr.field, run_underlying ht, hf, asAgg, h]
/-- make([]T, l, c). -/
def mkS {α : Type} (t : TypeId) (T : Ty α) (by_ : Nat) (z : α) (l c : Int) (w : World) (K : Slc → World → Prop) : Prop :=
  0 ≤ l ∧ l ≤ c ∧ (by_ : Int) * c ≤ 281474976710656 ∧ c ≤ 9223372036854775807 ∧ K ⟨some ⟨w.heap.size, 0, none⟩, l.toNat, c.toNat⟩ (w.alloc (.cells ((List.replicate c.toNat z).flatMap T.cells).toArray t))
theorem wp_mkS {α : Type} {T : Ty α} {sz by_ : Nat} {t e : TypeId} {z : α} {l c : Int} {next : Act → World → Prop} {K : Slc → World → Prop} {d : Option Nat} (hd : o.dst = d) (ho : o.op = .makeSlice t x y) (ht : P.underlying t = some (.slice e)) (ok : TyOk P e T sz)
    (hz : ∃ i, P.info? e = some i ∧ i.zero = some (T.enc z) ∧ i.size = sz ∧ i.bytes = by_) (hx : evl n f x = .int .i64 l) (hy : evl n f y = .int .i64 c) (h : mkS e T by_ z l c w K) (hK : ∀ r w', K r w' → next (act n (updo f d (tSlc.enc r)) ds) w') : Ow P o (act n f ds) w next Q := by
  rw [Ow_eq]
  subst hd
  obtain ⟨i, hi, hzz, hs, rfl⟩ := hz
  obtain ⟨h0, h1, h2, h3, h⟩ := h
  have hrun := run_make (P := P) w t e i (T.enc z) ht hi hzz .i64 .i64 l c h0 h1 h2 h3
  have hcells : madeCells (T.enc z).cells (c.toNat * i.size) = ((List.replicate c.toNat z).flatMap T.cells).toArray := by
    have hzc := zeroCells_flat (T := T) (ok.flat z) (ok.len z) c.toNat
    have e1 : (T.enc z).cells.size = i.size := by rw [ok.flat z, hs]; simpa using ok.len z
    have e2 : madeCells (T.enc z).cells (c.toNat * i.size) = Builtin.zeroCells (T.enc z).cells c.toNat := by
      unfold madeCells Builtin.zeroCells; rw [e1]
    rw [e2, ← hzc]
  rw [hcells] at hrun
  have hop : (execOp (evl n f) o).run P w = .ok (.value (tSlc.enc ⟨some ⟨w.heap.size, 0, none⟩, l.toNat, c.toNat⟩)) (w.alloc (.cells ((List.replicate c.toNat z).flatMap T.cells).toArray e)) := by
    simp [execOp, ho, hx, hy, hrun]
  simp only [Oper.wp, act_eval, hop, Oper.upon_value, act_put]
  exact hK _ _ h
/-- copy(s, b). -/
def cpy {α : Type} (T : Ty α) (sz : Nat) (s b : Slc) (w : World) (K : Nat → World → Prop) : Prop :=
  ∃ new : List α, new.length = min b.len s.len ∧ RdS T w ⟨b.a, new.length, b.cap⟩ new ∧ match s.a with
    | none => K new.length w
    | some a => Wr w a (new.length * sz) ∧ K new.length (putc w a 0 (new.flatMap T.cells))
theorem wp_cpy {α : Type} {T : Ty α} {sz : Nat} {t u e : TypeId} {s b : Slc} {next : Act → World → Prop} {K : Nat → World → Prop} {d : Option Nat} (hd : o.dst = d) (ho : o.op = .call { callee := .builtin .copy, args := #[x, y], argTypes := #[t, u] }) (ht : P.underlying t = some (.slice e)) (ok : TyOk P e T sz)
    (hx : evl n f x = tSlc.enc s) (hy : evl n f y = tSlc.enc b) (h : cpy T sz s b w K) (hK : ∀ r w', K r w' → next (act n (updo f d (.int .i64 r)) ds) w') : Ow P o (act n f ds) w next Q := by
  rw [Ow_eq]
  subst hd
  obtain ⟨new, hn, hrd, h⟩ := h
  obtain ⟨i, hi, hsz⟩ := ok.size
  have hfc := run_firstCells (P := P) ok.len hrd
  have hfc : Sem.run P (Builtin.firstCells sz new.length (Value.slice b.a b.len b.cap)) w = .ok (new.flatMap T.cells).toArray w := by
    cases hb : b.a with
    | none => rw [hb] at hfc; simpa [Builtin.firstCells] using hfc
    | some a => rw [hb] at hfc; exact hfc
  have hmin : Nat.min b.len s.len = new.length := hn.symm
  have hop : ∀ (v : Value) (w' : World), (Builtin.copy_ #[t, u] o.type #[tSlc.enc s, tSlc.enc b]).run P w = .ok v w' → (execOp (evl n f) o).run P w = .ok (.value v) w' := by
    intro v w' hv
    simp only [execOp, ho, resolve, invoke, builtin]
    simp only [List.map_toArray, List.map_cons, List.map_nil, hx, hy, pure_bind, Sem.run_bind, hv, Result.andThen_ok, Sem.run_pure]
  cases ha : s.a with
  | none =>
    rw [ha] at h
    have hrun : (Builtin.copy_ #[t, u] o.type #[tSlc.enc s, tSlc.enc b]).run P w = .ok (.int .i64 new.length) w := by
      show (Builtin.copy_ #[t, u] o.type #[.slice s.a s.len s.cap, .slice b.a b.len b.cap]).run P w = _
      simp [Builtin.copy_, run_underlying ht, Builtin.lenOf, run_sizeOf hi, hsz, hmin, hfc, ha, goInt]
    simp only [Oper.wp, act_eval, hop _ _ hrun, Oper.upon_value, act_put]
    exact hK _ _ h
  | some a =>
    rw [ha] at h
    have hone : ∀ v ∈ new.flatMap T.cells, v.oneCell' = true := fun v hv => by
      obtain ⟨q, _, hq⟩ := List.mem_flatMap.1 hv; exact ok.one q v hq
    have hst := run_storeCells (P := P) a (new.flatMap T.cells) 0 w (by
      intro j hj
      rw [Nat.zero_add]
      refine h.1 j ?_
      rwa [flat_len ok.len] at hj) hone
    have hrun : (Builtin.copy_ #[t, u] o.type #[tSlc.enc s, tSlc.enc b]).run P w = .ok (.int .i64 new.length) (putc w a 0 (new.flatMap T.cells)) := by
      show (Builtin.copy_ #[t, u] o.type #[.slice s.a s.len s.cap, .slice b.a b.len b.cap]).run P w = _
      simp [Builtin.copy_, run_underlying ht, Builtin.lenOf, run_sizeOf hi, hsz, hmin, hfc, ha, hst, goInt]
    simp only [Oper.wp, act_eval, hop _ _ hrun, Oper.upon_value, act_put]
    exact hK _ _ h.2
end
end Go.Proofs.YtpdaapffkdejoaaGreat.Cf
