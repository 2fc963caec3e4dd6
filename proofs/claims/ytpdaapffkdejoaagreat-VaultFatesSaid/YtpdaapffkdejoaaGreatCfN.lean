/- Ranges over maps: the iterator, the step, the entry. -/
import Derived.Test.YtpdaapffkdejoaaGreatCfM
import Derived.Maps.RangeRun
namespace Go.Proofs.YtpdaapffkdejoaaGreat.Cf
set_option linter.unusedSimpArgs false
set_option linter.unusedVariables false
open Go Go.ChangeMaps
section
variable {P : Program} {Q : Exit → Act → World → Prop} {n : Nat} {f : Nat → Value} {ds : List Deferred} {w w' : World} {ops : Array Oper} {i : Nat} {rest : List Nat} {o : Oper} {x y z : Operand}
/-- range m. -/
def rng (m : Option Nat) (w : World) (k : Addr → World → Prop) : Prop := match m with
  | none => k ⟨w.heap.size, 0, none⟩ (w.alloc (.mapIter none 0 #[] 0))
  | some b => ∃ arr c, w.heap[b]? = some (.map arr c) ∧ k ⟨w.heap.size, 0, none⟩ (w.alloc (.mapIter (some b) c #[] c))
theorem wp_rng {t kt et : TypeId} {r : Option Nat} {next : Act → World → Prop} {K : Addr → World → Prop} {d : Option Nat} (hd : o.dst = d) (ho : o.op = .range t x) (ht : P.underlying t = some (.map kt et)) (hx : evl n f x = .map r)
    (h : rng r w K) (hK : ∀ a w', K a w' → next (act n (updo f d (.pointer (some a))) ds) w') : Ow P o (act n f ds) w next Q := by
  rw [Ow_eq]
  subst hd
  cases r with
  | none =>
    have hrun := run_range_nilMap (P := P) w t kt et ht
    have hop : (execOp (evl n f) o).run P w = .ok (.value (.pointer (some ⟨w.heap.size, 0, none⟩))) (w.alloc (.mapIter none 0 #[] 0)) := by simp [execOp, ho, hx, hrun]
    simp only [Oper.wp, act_eval, hop, Oper.upon_value, act_put]
    exact hK _ _ h
  | some b =>
    obtain ⟨arr, c, hb, h⟩ := h
    have hrun := run_range_map (P := P) w t kt et b arr c ht hb
    have hop : (execOp (evl n f) o).run P w = .ok (.value (.pointer (some ⟨w.heap.size, 0, none⟩))) (w.alloc (.mapIter (some b) c #[] c)) := by simp [execOp, ho, hx, hrun]
    simp only [Oper.wp, act_eval, hop, Oper.upon_value, act_put]
    exact hK _ _ h
theorem wp_mclr {t kt et : TypeId} {r : Option Nat} {next : Act → World → Prop} {K : World → Prop} {d : Option Nat} (hd : o.dst = d) (ho : o.op = .call { callee := .builtin .clear, args := #[x], argTypes := #[t] }) (ht : P.underlying t = some (.map kt et)) (hx : evl n f x = .map r)
    (h : mclr r w K) (hK : ∀ w', K w' → next (act n (updo f d (.tuple #[])) ds) w') : Ow P o (act n f ds) w next Q := by
  rw [Ow_eq]
  subst hd
  have hop : ∀ w', (Builtin.clear_ #[t] o.type #[.map r]).run P w = .ok (.tuple #[]) w' → (execOp (evl n f) o).run P w = .ok (.value (.tuple #[])) w' := by
    intro w' hw
    simp only [execOp, ho, resolve, invoke, builtin, List.map_toArray, List.map_cons, List.map_nil, hx, pure_bind, Sem.run_bind, hw, Result.andThen_ok, Sem.run_pure]
  cases r with
  | none =>
    have hrun : (Builtin.clear_ #[t] o.type #[.map none]).run P w = .ok (.tuple #[]) w := by simp [Builtin.clear_, run_underlying ht]
    simp only [Oper.wp, act_eval, hop _ hrun, Oper.upon_value, act_put]
    exact hK _ h
  | some b =>
    obtain ⟨arr, c, hb, h⟩ := h
    have hrun : (Builtin.clear_ #[t] o.type #[.map (some b)]).run P w = .ok (.tuple #[]) (setMap w b #[] c) := by
      simp [Builtin.clear_, run_underlying ht, run_getObj hb, run_setObj hb]
    simp only [Oper.wp, act_eval, hop _ hrun, Oper.upon_value, act_put]
    exact hK _ h
/-- What the step hands out. -/
def nxtV : Option (Value × Value) → Value
  | none => .tuple #[.bool false]
  | some p => .tuple #[.bool true, p.1, p.2]
/-- The step. -/
def nxt (a : Addr) (w : World) (k : Option (Value × Value) → World → Prop) : Prop :=
  ∃ r bm since seen c0 es clock, a = ⟨r, 0, none⟩ ∧ w.heap[r]? = some (.mapIter (some bm) since seen c0) ∧ w.heap[bm]? = some (.map es clock) ∧ (∀ e ∈ es.toList, e.born < since) ∧ since ≤ c0 ∧
    ((leftOf es seen).size = 0 → k none w) ∧ ∀ e ∈ (leftOf es seen).toList, ∀ w1, w1 = w ∨ w1 = w.drew → k (some (e.key, e.val)) (setBlock w1 r (.mapIter (some bm) since (seen.push e.born) clock))
theorem wp_nxt {a : Addr} {next : Act → World → Prop} {K : Option (Value × Value) → World → Prop} {d : Option Nat} (hd : o.dst = d) (ho : o.op = .next x false) (hx : evl n f x = .pointer (some a))
    (h : nxt a w K) (hK : ∀ q w', K q w' → next (act n (updo f d (nxtV q)) ds) w') : Ow P o (act n f ds) w next Q := by
  rw [Ow_eq]
  subst hd
  obtain ⟨r, bm, since, seen, c0, es, clock, rfl, hr, hb, hold, hsc, h0, h1⟩ := h
  rcases run_next_at (P := P) w o.type r bm since c0 seen es clock hr hb hold hsc with ⟨hz, hrun⟩ | ⟨e, he, w1, hw1, hrun⟩
  · have hop : (execOp (evl n f) o).run P w = .ok (.value (.tuple #[.bool false])) w := by simp [execOp, ho, hx, hrun]
    simp only [Oper.wp, act_eval, hop, Oper.upon_value, act_put]
    exact hK none _ (h0 hz)
  · have hop : (execOp (evl n f) o).run P w = .ok (.value (.tuple #[.bool true, e.key, e.val])) (setBlock w1 r (.mapIter (some bm) since (seen.push e.born) clock)) := by simp [execOp, ho, hx, hrun]
    simp only [Oper.wp, act_eval, hop, Oper.upon_value, act_put]
    exact hK (some (e.key, e.val)) _ (h1 e he w1 hw1)
theorem q_extractN {q : Option (Value × Value)} (ho : o.op = .extract x 0) (hx : evl n f x = nxtV q) : (execOp (evl n f) o).run P w = .ok (.value (.bool q.isSome)) w := by
  cases q <;> simp [execOp, ho, hx, Instr.extract, nxtV]
/-- The round's entry. -/
def Ent {α : Type} (T : Ty α) (k : IntKind) (a : Addr) (w : World) (p : Int × α) : Prop :=
  ∃ r bm since seen es clock e, a = ⟨r, 0, none⟩ ∧ w.heap[r]? = some (.mapIter (some bm) since (Array.push seen (MapEntry.born e)) clock) ∧ w.heap[bm]? = some (.map es clock) ∧ e ∈ es.toList ∧ (es.toList.map (·.born)).Nodup ∧ e.key = .int k p.1 ∧ e.val = T.enc p.2
theorem q_entry {α : Type} {T : Ty α} {k : IntKind} {a : Addr} {p : Int × α} (ho : o.op = .entry x) (hx : evl n f x = .pointer (some a)) (h : Ent T k a w p) : (execOp (evl n f) o).run P w = .ok (.value (.tuple #[.int k p.1, T.enc p.2])) w := by
  obtain ⟨r, bm, since, seen, es, clock, e, rfl, hr, hb, he, hn, h1, h2⟩ := h
  have hrun := run_entry_at (P := P) w r bm since seen es clock e hr hb he hn
  simp [execOp, ho, hx, hrun, h1, h2]
theorem keep_Ent {α : Type} {T : Ty α} {k : IntKind} {a : Addr} {p : Int × α} {w w' : World} {o : Obj} (hw : w' = w.alloc o) (h : Ent T k a w p) : Ent T k a w' p := by
  subst hw
  obtain ⟨r, bm, since, seen, es, clock, e, rfl, hr, hb, h⟩ := h
  exact ⟨r, bm, since, seen, es, clock, e, rfl, block_alloc hr, block_alloc hb, h⟩
end
end Go.Proofs.YtpdaapffkdejoaaGreat.Cf
