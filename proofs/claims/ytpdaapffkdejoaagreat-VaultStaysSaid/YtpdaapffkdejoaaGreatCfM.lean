/- Parts, builds and equality of structs; strings' parts; clear, copy, make; maps with whole numbers for keys. -/
import Derived.Test.YtpdaapffkdejoaaGreatCfE
import Derived.Laws.StructEq
namespace Go.Proofs.YtpdaapffkdejoaaGreat.Cf
set_option linter.unusedSimpArgs false
set_option linter.unusedVariables false
open Go
section
variable {P : Program} {Q : Exit → Act → World → Prop} {n : Nat} {f : Nat → Value} {ds : List Deferred} {w w' : World} {ops : Array Oper} {i : Nat} {rest : List Nat} {o : Oper} {x y z : Operand}

/-! ### structs -/
theorem run_part1 {t : TypeId} {d : TypeDesc} {cs : Array Value} {off : Nat} {v : Value} (hd : P.underlying t = some d) (ha : aggD d = false) (hv : cs[off]? = some v) : (part t cs off).run P w = .ok v w := by
  simp [part, run_isAgg hd, ha, hv]
theorem run_partS {t : TypeId} {d : TypeDesc} {cs ds : Array Value} {off m : Nat} (hd : P.underlying t = some d) (ha : aggD d = true) (hs : ∃ i, P.info? t = some i ∧ i.size = m) (hv : cs.extract off (off + m) = ds) : (part t cs off).run P w = .ok (.agg ds) w := by
  obtain ⟨i, hi, rfl⟩ := hs
  simp [part, run_isAgg hd, ha, run_sizeOf hi, hv]
theorem eqF_nil {d : Nat} {xs ys : Array Value} : (Op.eqFields d xs ys []).run P w = .ok true w := by simp [Op.eqFields]
theorem eqF_cons {d : Nat} {xs ys : Array Value} {fd : Field} {fs : List Field} {a b : Value} {c r : Bool} (hn : fd.name ≠ "_") (ha : (part fd.type xs fd.offset).run P w = .ok a w) (hb : (part fd.type ys fd.offset).run P w = .ok b w)
    (he : (Op.equalIn d fd.type a b).run P w = .ok c w) (hr : (Op.eqFields d xs ys fs).run P w = .ok r w) : (Op.eqFields d xs ys (fd :: fs)).run P w = .ok (c && r) w := by
  simp only [Op.eqFields, hn, ne_eq, not_false_eq_true, if_true, Sem.run_bind, ha, hb, he, Result.andThen_ok]
  cases c <;> simp [hr]
theorem eqI_int {d : Nat} {t : TypeId} {k : IntKind} {a b : Int} (h : P.underlying t = some (.int k)) : (Op.equalIn (d + 1) t (.int k a) (.int k b)).run P w = .ok (a == b) w := run_equalIn_int w d t k k a b h
theorem eqI_bool {d : Nat} {t : TypeId} {a b : Bool} (h : P.underlying t = some .bool) : (Op.equalIn (d + 1) t (.bool a) (.bool b)).run P w = .ok (a == b) w := run_equalIn_bool' w d t a b h
theorem eqI_str {d : Nat} {t : TypeId} {a b : List UInt8} (h : P.underlying t = some .string) : (Op.equalIn (d + 1) t (.string ⟨a.toArray⟩) (.string ⟨b.toArray⟩)).run P w = .ok (a == b) w := by
  rw [run_equalIn_string w d t _ _ h, toList_toArray, toList_toArray]
theorem eqI_struct {d : Nat} {t : TypeId} {fs : Array Field} {xs ys : List Value} {r : Bool} (ht : P.underlying t = some (.struct fs)) (hp : P.stoodInHeld t = false) (hr : (Op.eqFields d xs.toArray ys.toArray fs.toList).run P w = .ok r w) :
    (Op.equalIn (d + 1) t (.agg xs.toArray) (.agg ys.toArray)).run P w = .ok r w := by
  have hf : P.fieldsOf t = fs := by simp [Program.fieldsOf, ht]
  rw [run_equalIn_struct w d t _ _ (by rw [hf]; exact ht) hp, hf]; exact hr
theorem q_eqT {xs ys : List Value} {t u : TypeId} {r : Bool} (ho : o.op = .binOp .eql t x y u) (he : P.eqGuardType P.depth t = false ∧ ∀ w, (Op.equalIn 10000 t (.agg xs.toArray) (.agg ys.toArray)).run P w = .ok r w)
    (hx : evl n f x = .agg xs.toArray) (hy : evl n f y = .agg ys.toArray) : (execOp (evl n f) o).run P w = .ok (.value (.bool r)) w := by
  simp only [execOp, ho, hx, hy, bind_pure_comp, Sem.run_map, Sem.run_bind, run_eqGuard_agg w _ _ _ _ _ _ he.1, Result.andThen_ok, run_eql_struct, he.2 w]
theorem q_neT {xs ys : List Value} {t u : TypeId} {r : Bool} (ho : o.op = .binOp .neq t x y u) (he : P.eqGuardType P.depth t = false ∧ ∀ w, (Op.equalIn 10000 t (.agg xs.toArray) (.agg ys.toArray)).run P w = .ok r w)
    (hx : evl n f x = .agg xs.toArray) (hy : evl n f y = .agg ys.toArray) : (execOp (evl n f) o).run P w = .ok (.value (.bool (!r))) w := by
  simp only [execOp, ho, hx, hy, bind_pure_comp, Sem.run_map, Sem.run_bind, run_eqGuard_agg w _ _ _ _ _ _ he.1, Result.andThen_ok, run_neq_struct, he.2 w]
theorem run_places : ∀ (fs : List Field) (pl : List (Nat × Nat)), fs.length = pl.length → (∀ (j : Nat) fd p, fs[j]? = some fd → pl[j]? = some p → p.1 = fd.offset ∧ ∃ i, P.info? fd.type = some i ∧ i.size = p.2) →
    (fs.mapM fun f => (do pure (f.offset, ← sizeOf f.type) : Sem (Nat × Nat))).run P w = .ok pl w
  | [], [], _, _ => by simp
  | [], _ :: _, h, _ => by simp at h
  | _ :: _, [], h, _ => by simp at h
  | fd :: fs, p :: pl, hl, h => by
    obtain ⟨h1, i, hi, h2⟩ := h 0 fd p rfl rfl
    have ht := run_places fs pl (by simpa using hl) fun j fd p hf hp => h (j + 1) fd p (by simpa using hf) (by simpa using hp)
    simp only [List.mapM_cons, Sem.run_bind, run_sizeOf hi, Result.andThen_ok, Sem.run_pure, bind_pure_comp, Sem.run_map] at ht ⊢
    rw [ht]
    obtain ⟨p1, p2⟩ := p
    simp only at h1 h2
    simp [h1, h2]
theorem q_buildA {t e : TypeId} {len sz : Nat} {zv : Value} {m by_ : Nat} {ps : List (Nat × Operand)} {pv : List (Nat × Value)} {cs : List Value} (ho : o.op = .build t ps.toArray) (ht : P.underlying t = some (.array len e))
    (hz : ∃ i, P.info? t = some i ∧ i.zero = some zv ∧ i.size = m ∧ i.bytes = by_) (hs : ∃ i, P.info? e = some i ∧ i.size = sz)
    (hp : ps.map (fun p => (p.1, evl n f p.2)) = pv) (hf : Instr.fill (fun j => some (j * sz, sz)) zv.cells pv = some cs.toArray) : (execOp (evl n f) o).run P w = .ok (.value (.agg cs.toArray)) w := by
  obtain ⟨i, hi, hz, _⟩ := hz
  obtain ⟨j, hj, rfl⟩ := hs
  subst hp
  simp only [execOp, ho, Instr.build, zeroValue, typeInfo, bind_assoc, pure_bind, bind_pure_comp, Sem.run_map, Sem.run_bind, run_program, Result.andThen_ok, hi, hz, Sem.run_pure, run_underlying ht, run_sizeOf hj, List.map_toArray]
  rw [hf]
  simp
theorem q_build {t : TypeId} {fs : Array Field} {pl : List (Nat × Nat)} {zv : Value} {m by_ : Nat} {ps : List (Nat × Operand)} {pv : List (Nat × Value)} {cs : List Value} (ho : o.op = .build t ps.toArray) (ht : P.underlying t = some (.struct fs))
    (hz : ∃ i, P.info? t = some i ∧ i.zero = some zv ∧ i.size = m ∧ i.bytes = by_) (hpl : ∀ w, (fs.toList.mapM fun f => (do pure (f.offset, ← sizeOf f.type) : Sem (Nat × Nat))).run P w = .ok pl w)
    (hp : ps.map (fun p => (p.1, evl n f p.2)) = pv) (hf : Instr.fill (fun j => pl[j]?) zv.cells pv = some cs.toArray) : (execOp (evl n f) o).run P w = .ok (.value (.agg cs.toArray)) w := by
  obtain ⟨i, hi, hz, _⟩ := hz
  subst hp
  have hpl' : (fs.mapM fun f => (do pure (f.offset, ← sizeOf f.type) : Sem (Nat × Nat))).run P w = .ok pl.toArray w := by
    rw [Array.mapM_eq_mapM_toList]
    simp only [Sem.run_map, hpl w, Result.andThen_ok]
  simp only [execOp, ho, Instr.build, zeroValue, typeInfo, bind_assoc, pure_bind, bind_pure_comp, Sem.run_map, Sem.run_bind, run_program, Result.andThen_ok, hi, hz, Sem.run_pure, run_underlying ht]
  simp only [bind_pure_comp] at hpl'
  rw [hpl']
  simp only [Result.andThen_ok, List.map_toArray, List.getElem?_toArray]
  rw [hf]
  simp

/-! ### parts of strings -/
theorem extract_sub {s : List UInt8} {l h : Nat} (hh : h ≤ s.length) : (⟨s.toArray⟩ : ByteArray).extract l h = ⟨((s.take h).drop l).toArray⟩ := by
  apply ByteArray.ext
  simp [List.extract_eq_take_drop, List.drop_take]
theorem run_sliceBound_ok {k : IntKind} {i : Int} {y : Nat} {c : BoundsCode} (h0 : 0 ≤ i) (h1 : i ≤ y) : (Instr.sliceBound (.int k i) y c).run P w = .ok i.toNat w := by
  simp [Instr.sliceBound, asIntOf, h0, h1]
theorem q_subLH {t : TypeId} {s r : List UInt8} {l h : Int} {kl kh : IntKind} (ho : o.op = .slice t x (some y) (some z) none) (ht : P.underlying t = some .string) (hx : evl n f x = .string ⟨s.toArray⟩) (hy : evl n f y = .int kl l) (hz : evl n f z = .int kh h)
    (hr : SubS s l h r) : (execOp (evl n f) o).run P w = .ok (.value (.string ⟨r.toArray⟩)) w := by
  obtain ⟨h0, h1, h2, rfl⟩ := hr
  have hs : (⟨s.toArray⟩ : ByteArray).size = s.length := rfl
  have e1 : ((h.toNat : Nat) : Int) = h := Int.toNat_of_nonneg (by omega)
  simp only [execOp, ho, hx, hy, hz, Option.map_some, Option.map_none]
  simp only [Instr.sliceAt, Instr.slice, Sem.run_bind, run_underlying ht, Result.andThen_ok, Instr.sliceBounds, bind_pure_comp, Sem.run_map, Sem.run_pure, hs,
    run_sliceBound_ok (P := P) (w := w) (k := kh) (i := h) (y := s.length) (by omega) (by omega), run_sliceBound_ok (P := P) (w := w) (k := kl) (i := l) (y := h.toNat) (by omega) (by omega), Option.isSome_none, Bool.false_eq_true, if_false]
  rw [extract_sub (by omega)]
theorem q_subL {t : TypeId} {s r : List UInt8} {l : Int} {kl : IntKind} (ho : o.op = .slice t x (some y) none none) (ht : P.underlying t = some .string) (hx : evl n f x = .string ⟨s.toArray⟩) (hy : evl n f y = .int kl l)
    (hr : SubS s l s.length r) : (execOp (evl n f) o).run P w = .ok (.value (.string ⟨r.toArray⟩)) w := by
  obtain ⟨h0, h1, h2, rfl⟩ := hr
  have hs : (⟨s.toArray⟩ : ByteArray).size = s.length := rfl
  simp only [execOp, ho, hx, hy, Option.map_some, Option.map_none]
  simp only [Instr.sliceAt, Instr.slice, Sem.run_bind, run_underlying ht, Result.andThen_ok, Instr.sliceBounds, bind_pure_comp, Sem.run_map, Sem.run_pure, hs,
    run_sliceBound_ok (P := P) (w := w) (k := kl) (i := l) (y := s.length) (by omega) (by omega), Option.isSome_none, Bool.false_eq_true, if_false]
  rw [extract_sub (by omega)]
  simp
theorem q_subH {t : TypeId} {s r : List UInt8} {h : Int} {kh : IntKind} (ho : o.op = .slice t x none (some z) none) (ht : P.underlying t = some .string) (hx : evl n f x = .string ⟨s.toArray⟩) (hz : evl n f z = .int kh h)
    (hr : SubS s 0 h r) : (execOp (evl n f) o).run P w = .ok (.value (.string ⟨r.toArray⟩)) w := by
  obtain ⟨h0, h1, h2, rfl⟩ := hr
  have hs : (⟨s.toArray⟩ : ByteArray).size = s.length := rfl
  simp only [execOp, ho, hx, hz, Option.map_some, Option.map_none]
  simp only [Instr.sliceAt, Instr.slice, Sem.run_bind, run_underlying ht, Result.andThen_ok, Instr.sliceBounds, bind_pure_comp, Sem.run_map, Sem.run_pure, hs,
    run_sliceBound_ok (P := P) (w := w) (k := kh) (i := h) (y := s.length) (by omega) (by omega), Option.isSome_none, Bool.false_eq_true, if_false]
  rw [extract_sub (by omega)]
  simp

/-! ### maps with whole numbers for keys -/
/-- The stamps of the entries. -/
def Born (arr : Array MapEntry) (c : Nat) : Prop := (∀ x ∈ arr.toList, x.born < c) ∧ (arr.toList.map (·.born)).Nodup
theorem born_push {arr : Array MapEntry} {c : Nat} {k v : Value} (h : Born arr c) : Born (arr.push { key := k, val := v, born := c }) (c + 1) := by
  refine ⟨fun x hx => ?_, ?_⟩
  · simp only [Array.toList_push, List.mem_append, List.mem_singleton] at hx
    rcases hx with hx | rfl
    · have := h.1 x hx; omega
    · exact Nat.lt_succ_self _
  · simp only [Array.toList_push, List.map_append, List.map_cons, List.map_nil, List.nodup_append]
    refine ⟨h.2, by simp, fun a ha b hb => ?_⟩
    obtain ⟨x, hx, rfl⟩ := List.mem_map.1 ha
    have := h.1 x hx
    rw [List.mem_singleton.1 hb]; omega
theorem born_same {arr arr' : Array MapEntry} {c : Nat} (h : Born arr c) (e : arr'.toList.map (·.born) = arr.toList.map (·.born)) : Born arr' c := by
  refine ⟨fun x hx => ?_, by rw [e]; exact h.2⟩
  have : x.born ∈ arr'.toList.map (·.born) := List.mem_map.2 ⟨x, hx, rfl⟩
  rw [e] at this
  obtain ⟨y, hy, he⟩ := List.mem_map.1 this
  rw [← he]; exact h.1 y hy
theorem born_sub {arr arr' : Array MapEntry} {c : Nat} (h : Born arr c) (e : arr'.toList.Sublist arr.toList) : Born arr' c :=
  ⟨fun x hx => h.1 x (e.subset hx), h.2.sublist (e.map _)⟩
def MapAt {α : Type} (T : Ty α) (k : IntKind) (w : World) (r : Nat) (es : List (Int × α)) : Prop :=
  ∃ arr c, w.heap[r]? = some (.map arr c) ∧ arr.toList.map (fun e => (e.key, e.val)) = (es.map fun p => (.int k p.1, T.enc p.2)) ∧ Born arr c
def MapGet {α : Type} (T : Ty α) (k : IntKind) (m : Option Nat) (key : Int) (w : World) (u : Option α) : Prop := match m with
  | none => u = none
  | some r => ∃ es, MapAt T k w r es ∧ u = es.lookup key
def MapLen (m : Option Nat) (w : World) (l : Nat) : Prop := match m with
  | none => l = 0
  | some r => ∃ arr c, w.heap[r]? = some (.map arr c) ∧ l = arr.size
def ups {α : Type} (key : Int) (v : α) : List (Int × α) → List (Int × α)
  | [] => [(key, v)]
  | (a, b) :: t => if key == a then (key, v) :: t else (a, b) :: ups key v t
def del {α : Type} (key : Int) : List (Int × α) → List (Int × α)
  | [] => []
  | (a, b) :: t => if key == a then t else (a, b) :: del key t
def setMap (w : World) (r : Nat) (arr : Array MapEntry) (c : Nat) : World := { w with heap := w.heap.setIfInBounds r (.map arr c) }
def Reps {α : Type} (T : Ty α) (k : IntKind) (arr : Array MapEntry) (es : List (Int × α)) : Prop := arr.toList.map (fun e => (e.key, e.val)) = es.map fun p => (.int k p.1, T.enc p.2)
def nwMap (w : World) (k : Nat → World → Prop) : Prop := k w.heap.size (w.alloc (.map #[] 0))
def mput {α : Type} (T : Ty α) (k : IntKind) (m : Option Nat) (key : Int) (v : α) (w : World) (K : World → Prop) : Prop :=
  ∃ r es, m = some r ∧ MapAt T k w r es ∧ ∀ arr c, Reps T k arr (ups key v es) → Born arr c → K (setMap w r arr c)
def mdel {α : Type} (T : Ty α) (k : IntKind) (m : Option Nat) (key : Int) (w : World) (K : World → Prop) : Prop := match m with
  | none => K w
  | some r => ∃ es, MapAt T k w r es ∧ ∀ arr c, Reps T k arr (del key es) → Born arr c → K (setMap w r arr c)
def mclr (m : Option Nat) (w : World) (K : World → Prop) : Prop := match m with
  | none => K w
  | some r => ∃ arr c, w.heap[r]? = some (.map arr c) ∧ K (setMap w r #[] c)

theorem findNow_reps {α : Type} {T : Ty α} {k : IntKind} (key : Int) : ∀ (arr : List MapEntry) (es : List (Int × α)) (i : Nat), arr.map (fun e => (e.key, e.val)) = es.map (fun p => (.int k p.1, T.enc p.2)) →
    (es.lookup key = none ∧ Instr.findNow (.int k) (.int k key) arr i = some none) ∨
    (∃ j v, es.lookup key = some v ∧ Instr.findNow (.int k) (.int k key) arr i = some (some (i + j, T.enc v)) ∧ es[j]? = some (key, v) ∧ (∀ l, l < j → (es[l]?.map (·.1)) ≠ some key))
  | [], [], i, _ => .inl ⟨rfl, rfl⟩
  | [], _ :: _, i, h => by simp at h
  | _ :: _, [], i, h => by simp at h
  | e :: arr, (a, b) :: es, i, h => by
    simp only [List.map_cons, List.cons.injEq, Prod.mk.injEq] at h
    obtain ⟨⟨hk, hv⟩, ht⟩ := h
    by_cases e0 : key = a
    · subst e0
      right
      refine ⟨0, b, by simp, ?_, rfl, fun l hl => absurd hl (Nat.not_lt_zero _)⟩
      simp [Instr.findNow, hk, hv, Instr.sameNow]
    · have hne : (key == a) = false := by simpa using e0
      rcases findNow_reps key arr es (i + 1) ht with ⟨h1, h2⟩ | ⟨j, v, h1, h2, h3, h4⟩
      · left
        exact ⟨by simp [List.lookup, hne, h1], by simp only [Instr.findNow, hk, Instr.sameNow, if_true, hne, h2]⟩
      · right
        refine ⟨j + 1, v, by simp [List.lookup, hne, h1], by simp only [Instr.findNow, hk, Instr.sameNow, if_true, hne, h2]; rw [show i + 1 + j = i + (j + 1) from by omega], by simpa using h3, ?_⟩
        intro l hl
        cases l with
        | zero => simpa using fun h => e0 h.symm
        | succ l => simpa using h4 l (by omega)
theorem run_checkKey {t : TypeId} {k : IntKind} (ht : P.underlying t = some (.int k)) (e : Bool) (m : Nat) (a : Int) : (Instr.checkKey e (m + 1) t (.int k a)).run P w = .ok () w := by
  simp [Instr.checkKey, run_underlying ht]
theorem run_getObj {r : Nat} {arr : Array MapEntry} {c : Nat} (h : w.heap[r]? = some (.map arr c)) : (getObj r).run P w = .ok (.map arr c) w := by
  simp [getObj, Sem.run, h]
theorem run_setObj {r : Nat} {arr arr' : Array MapEntry} {c c' : Nat} (h : w.heap[r]? = some (.map arr c)) : (setObj r (.map arr' c')).run P w = .ok () (setMap w r arr' c') := by
  simp [setObj, Sem.run, h, setMap]

theorem findKey_reps {α : Type} {T : Ty α} {k : IntKind} {kt : TypeId} {arr : Array MapEntry} {es : List (Int × α)} (hk : P.underlying kt = some (.int k)) (key : Int) (h : Reps T k arr es) :
    (es.lookup key = none ∧ (Instr.findKey kt (.int k key) arr.toList).run P w = .ok none w) ∨
    (∃ j v, es.lookup key = some v ∧ (Instr.findKey kt (.int k key) arr.toList).run P w = .ok (some (j, T.enc v)) w ∧ es[j]? = some (key, v) ∧ (∀ l, l < j → (es[l]?.map (·.1)) ≠ some key)) := by
  rcases findNow_reps key arr.toList es 0 h with ⟨h1, h2⟩ | ⟨j, v, h1, h2, h3, h4⟩
  · exact .inl ⟨h1, by simp only [Instr.findKey, Sem.run_bind, run_underlying hk, Result.andThen_ok, h2, Sem.run_pure]⟩
  · exact .inr ⟨j, v, h1, by simp only [Instr.findKey, Sem.run_bind, run_underlying hk, Result.andThen_ok, h2, Sem.run_pure, Nat.zero_add], h3, h4⟩

theorem q_lookup2 {α : Type} {T : Ty α} {m by_ : Nat} {t kt et : TypeId} {k : IntKind} {r : Option Nat} {key : Int} {u : Option α} {z : α} (ho : o.op = .lookup t x y true) (ht : P.underlying t = some (.map kt et)) (hk : P.underlying kt = some (.int k))
    (hz : ∃ i, P.info? et = some i ∧ i.zero = some (T.enc z) ∧ i.size = m ∧ i.bytes = by_) (hx : evl n f x = .map r) (hy : evl n f y = .int k key) (hr : MapGet T k r key w u) :
    (execOp (evl n f) o).run P w = .ok (.value (.tuple #[T.enc (u.getD z), .bool u.isSome])) w := by
  obtain ⟨i, hi, hzz, _⟩ := hz
  cases r with
  | none =>
    simp only [MapGet] at hr
    subst hr
    simp [execOp, ho, hx, hy, Instr.lookup, run_underlying ht, run_checkKey hk, Instr.findKey, run_underlying hk, Instr.findNow, zeroValue, typeInfo, hi, hzz]
  | some r =>
    obtain ⟨es, ⟨arr, c, hb, hrep, hborn⟩, rfl⟩ := hr
    rcases findKey_reps (P := P) (w := w) hk key hrep with ⟨h1, h2⟩ | ⟨j, v, h1, h2, _⟩
    · simp [execOp, ho, hx, hy, Instr.lookup, run_underlying ht, run_getObj hb, run_checkKey hk, h1, h2, zeroValue, typeInfo, hi, hzz]
    · simp [execOp, ho, hx, hy, Instr.lookup, run_underlying ht, run_getObj hb, run_checkKey hk, h1, h2]
theorem q_lookup {α : Type} {T : Ty α} {m by_ : Nat} {t kt et : TypeId} {k : IntKind} {r : Option Nat} {key : Int} {u : Option α} {z : α} (ho : o.op = .lookup t x y false) (ht : P.underlying t = some (.map kt et)) (hk : P.underlying kt = some (.int k))
    (hz : ∃ i, P.info? et = some i ∧ i.zero = some (T.enc z) ∧ i.size = m ∧ i.bytes = by_) (hx : evl n f x = .map r) (hy : evl n f y = .int k key) (hr : MapGet T k r key w u) :
    (execOp (evl n f) o).run P w = .ok (.value (T.enc (u.getD z))) w := by
  obtain ⟨i, hi, hzz, _⟩ := hz
  cases r with
  | none =>
    simp only [MapGet] at hr
    subst hr
    simp [execOp, ho, hx, hy, Instr.lookup, run_underlying ht, run_checkKey hk, Instr.findKey, run_underlying hk, Instr.findNow, zeroValue, typeInfo, hi, hzz]
  | some r =>
    obtain ⟨es, ⟨arr, c, hb, hrep, hborn⟩, rfl⟩ := hr
    rcases findKey_reps (P := P) (w := w) hk key hrep with ⟨h1, h2⟩ | ⟨j, v, h1, h2, _⟩
    · simp [execOp, ho, hx, hy, Instr.lookup, run_underlying ht, run_getObj hb, run_checkKey hk, h1, h2, zeroValue, typeInfo, hi, hzz]
    · simp [execOp, ho, hx, hy, Instr.lookup, run_underlying ht, run_getObj hb, run_checkKey hk, h1, h2]
theorem q_lenM {t kt et : TypeId} {r : Option Nat} {l : Nat} (ho : o.op = .call { callee := .builtin .len, args := #[x], argTypes := #[t] }) (ht : P.underlying t = some (.map kt et)) (hx : evl n f x = .map r) (hr : MapLen r w l) :
    (execOp (evl n f) o).run P w = .ok (.value (.int .i64 l)) w := by
  cases r with
  | none => simp only [MapLen] at hr; subst hr; simp [execOp, ho, hx, resolve, invoke, builtin, Builtin.len_, run_underlying ht, goInt]
  | some r =>
    obtain ⟨arr, c, hb, rfl⟩ := hr
    simp [execOp, ho, hx, resolve, invoke, builtin, Builtin.len_, run_underlying ht, goInt, run_getObj hb]
theorem nwMap_open {w : World} {k : Nat → World → Prop} (h : nwMap w k) : ∃ r w', r = w.heap.size ∧ w' = w.alloc (.map #[] 0) ∧ k r w' := ⟨_, _, rfl, rfl, h⟩
theorem q_makeMap {t : TypeId} {r : Nat} (ho : o.op = .makeMap t none) (hr : r = w.heap.size) (hw : w' = w.alloc (.map #[] 0)) : (execOp (evl n f) o).run P w = .ok (.value (.map (some r))) w' := by
  subst hr; subst hw; simp [execOp, ho, Instr.makeMap]
theorem ups_set {α : Type} (key : Int) (v : α) : ∀ (es : List (Int × α)) (j : Nat) (u : α), es[j]? = some (key, u) → (∀ l, l < j → (es[l]?.map (·.1)) ≠ some key) → ups key v es = es.set j (key, v)
  | [], j, u, h, _ => by simp at h
  | (a, b) :: es, 0, u, h, _ => by simp at h; simp [ups, h.1]
  | (a, b) :: es, j + 1, u, h, hl => by
    have h0 := hl 0 (by omega)
    have hne : (key == a) = false := by simp at h0; simpa using fun e => h0 e.symm
    simp only [ups, hne, Bool.false_eq_true, if_false, List.set_cons_succ]
    rw [ups_set key v es j u (by simpa using h) fun l hl' => by simpa using hl (l + 1) (by omega)]
theorem ups_new {α : Type} (key : Int) (v : α) : ∀ (es : List (Int × α)), es.lookup key = none → ups key v es = es ++ [(key, v)]
  | [], _ => rfl
  | (a, b) :: es, h => by
    by_cases e : (key == a) = true
    · simp [List.lookup, e] at h
    · simp only [List.lookup, e] at h
      simp [ups, e, ups_new key v es h]
theorem del_at {α : Type} (key : Int) : ∀ (es : List (Int × α)) (j : Nat) (u : α), es[j]? = some (key, u) → (∀ l, l < j → (es[l]?.map (·.1)) ≠ some key) → del key es = es.eraseIdx j
  | [], j, u, h, _ => by simp at h
  | (a, b) :: es, 0, u, h, _ => by simp at h; simp [del, h.1]
  | (a, b) :: es, j + 1, u, h, hl => by
    have h0 := hl 0 (by omega)
    have hne : (key == a) = false := by simp at h0; simpa using fun e => h0 e.symm
    simp only [del, hne, Bool.false_eq_true, if_false, List.eraseIdx_cons_succ]
    rw [del_at key es j u (by simpa using h) fun l hl' => by simpa using hl (l + 1) (by omega)]
theorem del_none {α : Type} (key : Int) : ∀ (es : List (Int × α)), es.lookup key = none → del key es = es
  | [], _ => rfl
  | (a, b) :: es, h => by
    by_cases e : (key == a) = true
    · simp [List.lookup, e] at h
    · simp only [List.lookup, e] at h
      simp [del, e, del_none key es h]
theorem wp_mput {α : Type} {T : Ty α} {t kt et : TypeId} {k : IntKind} {r : Option Nat} {key : Int} {v : α} {next : Act → World → Prop} {K : World → Prop} {d : Option Nat} (hd : o.dst = d) (ho : o.op = .mapUpdate t x y z ∨ o.op = .insert t x y z) (ht : P.underlying t = some (.map kt et))
    (hk : P.underlying kt = some (.int k)) (hx : evl n f x = .map r) (hy : evl n f y = .int k key) (hz : evl n f z = T.enc v) (h : mput T k r key v w K) (hK : ∀ w', K w' → next (act n (updo f d undef) ds) w') :
    Ow P o (act n f ds) w next Q := by
  rw [Ow_eq]
  subst hd
  obtain ⟨b, es, rfl, ⟨arr, c, hb, hrep, hborn⟩, h⟩ := h
  have hop : ∀ w', (Instr.mapUpdate t (.map (some b)) (.int k key) (T.enc v)).run P w = .ok () w' → (execOp (evl n f) o).run P w = .ok .skip w' := by
    intro w' hw
    rcases ho with ho | ho <;> simp only [execOp, ho, hx, hy, hz, Sem.run_bind, hw, Result.andThen_ok, Sem.run_pure]
  rcases findKey_reps (P := P) (w := w) hk key hrep with ⟨h1, h2⟩ | ⟨j, u, h1, h2, h3, h4⟩
  · have hrun : (Instr.mapUpdate t (.map (some b)) (.int k key) (T.enc v)).run P w = .ok () (setMap w b (arr.push { key := .int k key, val := T.enc v, born := c }) (c + 1)) := by
      simp only [Instr.mapUpdate, Sem.run_bind, run_underlying ht, Result.andThen_ok, run_getObj hb, run_checkKey hk, h2, run_setObj hb]
    simp only [Oper.wp, act_eval, hop _ hrun, Oper.upon_skip, act_put]
    refine hK _ (h _ _ ?_ (born_push hborn))
    simp only [Reps] at hrep ⊢
    rw [ups_new key v es h1]
    simp [hrep]
  · have hke : ∃ e, arr[j]? = some e ∧ e.key = .int k key := by
      have := congrArg (·[j]?) hrep
      simp only [List.getElem?_map, h3, Option.map_some] at this
      cases ha : arr[j]? with
      | none => simp [ha] at this
      | some e => simp [ha] at this; exact ⟨e, rfl, this.1⟩
    obtain ⟨e, he, hek⟩ := hke
    have hstay : (Instr.keyThatStays (((arr[j]?).map (·.key)).getD (.int k key)) (.int k key)).run P w = .ok (.int k key) w := by
      simp [he, hek, Instr.keyThatStays, Instr.sameBits]
    have hrun : (Instr.mapUpdate t (.map (some b)) (.int k key) (T.enc v)).run P w = .ok () (setMap w b (arr.modify j fun e => { e with key := .int k key, val := T.enc v }) c) := by
      simp only [Instr.mapUpdate, Sem.run_bind, run_underlying ht, Result.andThen_ok, run_getObj hb, run_checkKey hk, h2, hstay, run_setObj hb]
    simp only [Oper.wp, act_eval, hop _ hrun, Oper.upon_skip, act_put]
    have hbm : (arr.modify j fun e => { e with key := .int k key, val := T.enc v }).toList.map (·.born) = arr.toList.map (·.born) := by
      apply List.ext_getElem?
      intro l
      simp only [List.getElem?_map, Array.getElem?_toList, Array.getElem?_modify]
      by_cases e1 : j = l
      · subst e1; cases arr[j]? <;> simp
      · simp [e1]
    refine hK _ (h _ _ ?_ (born_same hborn hbm))
    simp only [Reps] at hrep ⊢
    rw [ups_set key v es j u h3 h4]
    apply List.ext_getElem?
    intro l
    have hl := congrArg (·[l]?) hrep
    simp only [List.getElem?_map, Array.getElem?_toList] at hl
    simp only [List.getElem?_map, Array.getElem?_toList, Array.getElem?_modify, List.getElem?_set]
    by_cases e1 : j = l
    · subst e1
      have hlt : j < es.length := (List.getElem?_eq_some_iff.1 h3).1
      simp [he, hlt]
    · simp [e1, hl]
theorem map_eraseIdx {α β : Type} (g : α → β) : ∀ (l : List α) (i : Nat), (l.eraseIdx i).map g = (l.map g).eraseIdx i
  | [], _ => rfl
  | _ :: _, 0 => rfl
  | a :: l, i + 1 => by simp [map_eraseIdx g l i]
theorem wp_mdel {α : Type} {T : Ty α} {t kt et ty : TypeId} {k : IntKind} {r : Option Nat} {key : Int} {next : Act → World → Prop} {K : World → Prop} {d : Option Nat} (hd : o.dst = d) (ho : o.op = .call { callee := .builtin .delete, args := #[x, y], argTypes := #[t, ty] }) (ht : P.underlying t = some (.map kt et))
    (hk : P.underlying kt = some (.int k)) (hx : evl n f x = .map r) (hy : evl n f y = .int k key) (h : mdel T k r key w K) (hK : ∀ w', K w' → next (act n (updo f d (.tuple #[])) ds) w') :
    Ow P o (act n f ds) w next Q := by
  rw [Ow_eq]
  subst hd
  have hop : ∀ w', (Builtin.delete_ #[t, ty] o.type #[.map r, .int k key]).run P w = .ok (.tuple #[]) w' → (execOp (evl n f) o).run P w = .ok (.value (.tuple #[])) w' := by
    intro w' hw
    simp only [execOp, ho, resolve, invoke, builtin, List.map_toArray, List.map_cons, List.map_nil, hx, hy, pure_bind, Sem.run_bind, hw, Result.andThen_ok, Sem.run_pure]
  cases r with
  | none =>
    have hrun : (Builtin.delete_ #[t, ty] o.type #[.map none, .int k key]).run P w = .ok (.tuple #[]) w := by
      simp [Builtin.delete_, run_underlying ht, run_checkKey hk]
    simp only [Oper.wp, act_eval, hop _ hrun, Oper.upon_value, act_put]
    exact hK _ h
  | some b =>
    obtain ⟨es, ⟨arr, c, hb, hrep, hborn⟩, h⟩ := h
    rcases findKey_reps (P := P) (w := w) hk key hrep with ⟨h1, h2⟩ | ⟨j, u, h1, h2, h3, h4⟩
    · have hrun : (Builtin.delete_ #[t, ty] o.type #[.map (some b), .int k key]).run P w = .ok (.tuple #[]) (setMap w b arr c) := by
        simp [Builtin.delete_, run_underlying ht, run_getObj hb, run_checkKey hk, h2, run_setObj hb]
      simp only [Oper.wp, act_eval, hop _ hrun, Oper.upon_value, act_put]
      refine hK _ (h _ _ ?_ hborn)
      rw [del_none key es h1]; exact hrep
    · have hrun : (Builtin.delete_ #[t, ty] o.type #[.map (some b), .int k key]).run P w = .ok (.tuple #[]) (setMap w b (arr.eraseIdxIfInBounds j) c) := by
        simp [Builtin.delete_, run_underlying ht, run_getObj hb, run_checkKey hk, h2, run_setObj hb]
      simp only [Oper.wp, act_eval, hop _ hrun, Oper.upon_value, act_put]
      have hsub : (arr.eraseIdxIfInBounds j).toList.Sublist arr.toList := by
        unfold Array.eraseIdxIfInBounds
        split
        · rw [Array.toList_eraseIdx]; exact List.eraseIdx_sublist _ _
        · exact List.Sublist.refl _
      refine hK _ (h _ _ ?_ (born_sub hborn hsub))
      rw [del_at key es j u h3 h4]
      simp only [Reps] at hrep ⊢
      have hj : j < arr.size := by
        have hlt : j < es.length := (List.getElem?_eq_some_iff.1 h3).1
        have := congrArg List.length hrep
        simp at this; omega
      simp only [Array.eraseIdxIfInBounds, hj, dif_pos, Array.toList_eraseIdx]
      rw [map_eraseIdx, hrep, map_eraseIdx]
/-- clear of a slice. -/
def clrS {α : Type} (T : Ty α) (sz : Nat) (z : α) (s : Slc) (w : World) (K : World → Prop) : Prop := match s.a with
  | none => K w
  | some a => Wr w a (s.len * sz) ∧ K (putc w a 0 ((List.replicate s.len z).flatMap T.cells))
theorem replicate_len {α : Type} {T : Ty α} {sz : Nat} {z : α} (hl : (T.cells z).length = sz) (m : Nat) : ((List.replicate m z).flatMap T.cells).length = m * sz := by
  induction m with
  | zero => simp
  | succ m ih => rw [List.replicate_succ, List.flatMap_cons, List.length_append, ih, hl, Nat.add_mul]; omega
theorem zeroCells_flat {α : Type} {T : Ty α} {sz : Nat} {z : α} (hf : (T.enc z).cells = (T.cells z).toArray) (hl : (T.cells z).length = sz) : ∀ m : Nat, (Builtin.zeroCells (T.enc z).cells m).toList = (List.replicate m z).flatMap T.cells := by
  intro m
  rw [hf]
  apply List.ext_getElem?
  intro j
  simp only [Builtin.zeroCells, List.size_toArray, hl, Array.toList_map, Array.toList_range, List.getElem?_map]
  by_cases hj : j < m * sz
  · have hsz : 0 < sz := by
      rcases Nat.eq_zero_or_pos sz with h | h
      · rw [h] at hj; omega
      · exact h
    have hmod : j % sz < sz := Nat.mod_lt _ hsz
    rw [List.getElem?_range (by simpa using hj)]
    simp only [Option.map_some]
    have : ∀ (m j : Nat), j < m * sz → ((List.replicate m z).flatMap T.cells)[j]? = (T.cells z)[j % sz]? := by
      intro m
      induction m with
      | zero => intro j hj; simp at hj
      | succ m ih =>
        intro j hj
        rw [List.replicate_succ, List.flatMap_cons]
        by_cases hlt : j < sz
        · rw [List.getElem?_append_left (by omega), Nat.mod_eq_of_lt hlt]
        · rw [List.getElem?_append_right (by omega), hl, ih (j - sz) (by rw [Nat.add_mul] at hj; omega)]
          congr 1
          exact (Nat.mod_eq_sub_mod (by omega)).symm
    rw [this m j hj]
    rw [List.getElem?_eq_getElem (by omega)]
    simp only [Option.some.injEq]
    have hlt : j % sz < (T.cells z).toArray.size := by simp; omega
    rw [getElem!_pos (T.cells z).toArray (j % sz) hlt]; simp
  · rw [List.getElem?_eq_none (by simpa using hj), List.getElem?_eq_none (by rw [replicate_len hl]; omega)]
    rfl
theorem wp_clrS {α : Type} {T : Ty α} {sz by_ : Nat} {t e : TypeId} {s : Slc} {z : α} {next : Act → World → Prop} {K : World → Prop} {d : Option Nat} (hd : o.dst = d) (ho : o.op = .call { callee := .builtin .clear, args := #[x], argTypes := #[t] }) (ht : P.underlying t = some (.slice e)) (ok : TyOk P e T sz)
    (hz : ∃ i, P.info? e = some i ∧ i.zero = some (T.enc z) ∧ i.size = sz ∧ i.bytes = by_) (hx : evl n f x = tSlc.enc s) (h : clrS T sz z s w K) (hK : ∀ w', K w' → next (act n (updo f d (.tuple #[])) ds) w') : Ow P o (act n f ds) w next Q := by
  rw [Ow_eq]
  subst hd
  obtain ⟨i, hi, hzz, hs, _⟩ := hz
  obtain ⟨a, len, cap⟩ := s
  have hop : ∀ w', (Builtin.clear_ #[t] o.type #[.slice a len cap]).run P w = .ok (.tuple #[]) w' → (execOp (evl n f) o).run P w = .ok (.value (.tuple #[])) w' := by
    intro w' hw
    simp only [execOp, ho, resolve, invoke, builtin, List.map_toArray, List.map_cons, List.map_nil, hx, pure_bind, Sem.run_bind, hw, Result.andThen_ok, Sem.run_pure]
  have hone : ∀ v ∈ (List.replicate len z).flatMap T.cells, v.oneCell' = true := fun v hv => by
    obtain ⟨y, _, hy⟩ := List.mem_flatMap.1 hv; exact ok.one y v hy
  cases a with
  | none =>
    have hrun : (Builtin.clear_ #[t] o.type #[.slice none len cap]).run P w = .ok (.tuple #[]) w := by
      simp [Builtin.clear_, run_underlying ht]
    simp only [Oper.wp, act_eval, hop _ hrun, Oper.upon_value, act_put]
    exact hK _ h
  | some a =>
    simp only [clrS] at h
    have hrun : (Builtin.clear_ #[t] o.type #[.slice (some a) len cap]).run P w = .ok (.tuple #[]) (putc w a 0 ((List.replicate len z).flatMap T.cells)) := by
      cases len with
      | zero => simp [Builtin.clear_, run_underlying ht, putc]
      | succ len =>
        have h2 := run_storeCells (P := P) a ((List.replicate (len + 1) z).flatMap T.cells) 0 w (by
          intro j hj
          rw [Nat.zero_add]
          refine h.1 j ?_
          rw [replicate_len (ok.len z)] at hj
          exact hj) hone
        have hzc := zeroCells_flat (T := T) (ok.flat z) (ok.len z) (len + 1)
        simp only [Builtin.clear_]
        simp [run_underlying ht, zeroValue, typeInfo, hi, hzz, hzc, h2]
    simp only [Oper.wp, act_eval, hop _ hrun, Oper.upon_value, act_put]
    exact hK _ h.2
theorem block_alloc {w : World} {o u : Obj} {r : Nat} (h : w.heap[r]? = some u) : (w.alloc o).heap[r]? = some u := by
  have hlt : r < w.heap.size := (Array.getElem?_eq_some_iff.1 h).1
  simp only [World.alloc, Array.getElem?_push]
  rw [if_neg (by omega)]; exact h
theorem keep_MapGet {α : Type} {T : Ty α} {k : IntKind} {m : Option Nat} {key : Int} {u : Option α} {w w' : World} {o : Obj} (hw : w' = w.alloc o) (h : MapGet T k m key w u) : MapGet T k m key w' u := by
  subst hw
  cases m with
  | none => exact h
  | some r => obtain ⟨es, ⟨arr, c, hb, hr⟩, hu⟩ := h; exact ⟨es, ⟨arr, c, block_alloc hb, hr⟩, hu⟩
theorem keep_MapLen {m : Option Nat} {l : Nat} {w w' : World} {o : Obj} (hw : w' = w.alloc o) (h : MapLen m w l) : MapLen m w' l := by
  subst hw
  cases m with
  | none => exact h
  | some r => obtain ⟨arr, c, hb, hl⟩ := h; exact ⟨arr, c, block_alloc hb, hl⟩
end
end Go.Proofs.YtpdaapffkdejoaaGreat.Cf
