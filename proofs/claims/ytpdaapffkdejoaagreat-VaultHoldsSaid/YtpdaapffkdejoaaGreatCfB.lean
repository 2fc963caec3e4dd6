/- How Go's values are written in typed terms, memory in cells, and what each operation answers on typed values: own base of this claim's walks. -/
import Derived.Test.YtpdaapffkdejoaaGreatCfA
import Derived.WalkKit
import Derived.WalkLawsBesides
namespace Go.Proofs.YtpdaapffkdejoaaGreat.Cf
set_option linter.unusedSimpArgs false
set_option linter.unusedVariables false
open Go

/-- A Go type's values: as one value, as cells. -/
structure Ty (α : Type) where
  enc : α → Value
  cells : α → List Value

structure Slc where
  a : Option Addr
  len : Nat
  cap : Nat
inductive Fv where
  | nil
  | mk (fn : Fn) (first captured : Array Value)
def Fv.enc : Fv → Value
  | .nil => .nilFunc
  | .mk f a c => .func f a c
inductive Iv where
  | nil
  | mk (t : TypeId) (v : Value)
def Iv.enc : Iv → Value
  | .nil => .nilIface
  | .mk t v => .iface t v

theorem Fv.one (x : Fv) : x.enc.oneCell' = true := by cases x <;> rfl
theorem Fv.flat (x : Fv) : x.enc.cells = #[x.enc] := by cases x <;> rfl
theorem Iv.one (x : Iv) : x.enc.oneCell' = true := by cases x <;> rfl
theorem Iv.flat (x : Iv) : x.enc.cells = #[x.enc] := by cases x <;> rfl
@[reducible] def tInt (k : IntKind) : Ty Int := ⟨fun n => .int k n, fun n => [.int k n]⟩
@[reducible] def tBool : Ty Bool := ⟨fun b => .bool b, fun b => [.bool b]⟩
@[reducible] def tFlt : Ty Nat := ⟨fun b => .float .f64 b, fun b => [.float .f64 b]⟩
@[reducible] def tStr : Ty (List UInt8) := ⟨fun s => .string ⟨s.toArray⟩, fun s => [.string ⟨s.toArray⟩]⟩
@[reducible] def tPtr : Ty (Option Addr) := ⟨fun a => .pointer a, fun a => [.pointer a]⟩
@[reducible] def tSlc : Ty Slc := ⟨fun s => .slice s.a s.len s.cap, fun s => [.slice s.a s.len s.cap]⟩
@[reducible] def tMap : Ty (Option Nat) := ⟨fun r => .map r, fun r => [.map r]⟩
@[reducible] def tFun : Ty Fv := ⟨fun x => x.enc, fun x => [x.enc]⟩
@[reducible] def tIfc : Ty Iv := ⟨fun x => x.enc, fun x => [x.enc]⟩
@[reducible] def tAgg {α : Type} (c : α → List Value) : Ty α := ⟨fun x => .agg (c x).toArray, c⟩
@[reducible] def tArr {α : Type} (T : Ty α) (n : Nat) : Ty (Vector α n) := tAgg fun v => v.toList.flatMap T.cells
@[reducible] def tTup2 {α β : Type} (A : Ty α) (B : Ty β) : Ty (α × β) := ⟨fun x => .tuple #[A.enc x.1, B.enc x.2], fun _ => []⟩
@[reducible] def tTup3 {α β γ : Type} (A : Ty α) (B : Ty β) (C : Ty γ) : Ty (α × β × γ) := ⟨fun x => .tuple #[A.enc x.1, B.enc x.2.1, C.enc x.2.2], fun _ => []⟩
@[reducible] def tUnit : Ty Unit := ⟨fun _ => .tuple #[], fun _ => []⟩

def aggD : TypeDesc → Bool
  | .struct _ | .array _ _ => true
  | _ => false
/-- What the program's tables say of a type. -/
structure TyOk (P : Program) (t : TypeId) {α : Type} (T : Ty α) (n : Nat) : Prop where
  size : ∃ i, P.info? t = some i ∧ i.size = n
  len : ∀ x, (T.cells x).length = n
  shape : (∃ d, P.underlying t = some d ∧ aggD d = true ∧ ∀ x, T.enc x = .agg (T.cells x).toArray) ∨
    (∃ d, P.underlying t = some d ∧ aggD d = false ∧ n = 1 ∧ ∀ x, T.cells x = [T.enc x])
  flat : ∀ x, (T.enc x).cells = (T.cells x).toArray
  one : ∀ x, ∀ v ∈ T.cells x, v.oneCell' = true

/-! ### memory -/
def Rd (w : World) (a : Addr) (cs : List Value) : Prop := ∀ j v, cs[j]? = some v → w.cell? (a.add j) = some v
def Wr (w : World) (a : Addr) (n : Nat) : Prop := ∀ j, j < n → (w.cell? (a.add j)).isSome = true ∧ w.frozen? (a.add j) = false
def putc : World → Addr → Nat → List Value → World
  | w, _, _, [] => w
  | w, a, i, v :: l => putc (w.setCell (a.add i) v) a (i + 1) l

theorem run_loadCellsFrom (P : Program) (w : World) (a : Addr) : ∀ (cs : List Value) (i : Nat) (acc : Array Value),
    (∀ j v, cs[j]? = some v → w.cell? (a.add (i + j)) = some v) → (loadCellsFrom a i cs.length acc).run P w = .ok (acc ++ cs.toArray) w
  | [], i, acc, _ => by simp [loadCellsFrom]
  | v :: cs, i, acc, h => by
    have h0 := h 0 v rfl
    simp only [Nat.add_zero] at h0
    simp only [List.length_cons, loadCellsFrom, Sem.run_bind, run_load, h0, Result.andThen_ok]
    rw [run_loadCellsFrom P w a cs (i + 1) (acc.push v)]
    · simp
    · intro j u hu
      have := h (j + 1) u (by simpa using hu)
      rwa [show i + 1 + j = i + (j + 1) from by omega]

theorem run_isAgg {P : Program} {t : TypeId} {d : TypeDesc} (h : P.underlying t = some d) (w : World) :
    (isAgg t).run P w = .ok (aggD d) w := by
  simp only [isAgg, Sem.run_bind, run_underlying h, Result.andThen_ok]
  cases d <;> rfl

theorem run_sizeOf {P : Program} {t : TypeId} {i : TypeInfo} (h : P.info? t = some i) (w : World) : (sizeOf t).run P w = .ok i.size w := by
  simp [sizeOf, typeInfo, h]

theorem run_loadVar {P : Program} {t : TypeId} {α : Type} {T : Ty α} {n : Nat} (ok : TyOk P t T n) {w : World} {a : Addr} {x : α} (h : Rd w a (T.cells x)) :
    (loadVar t a).run P w = .ok (T.enc x) w := by
  obtain ⟨i, hi, hn⟩ := ok.size
  have hl := ok.len x
  rcases ok.shape with ⟨d, hd, hs, he⟩ | ⟨d, hd, hs, h1, he⟩
  · simp only [loadVar, Sem.run_bind, run_isAgg hd, hs, Result.andThen_ok, if_true, run_sizeOf hi, loadCells]
    rw [show i.size = (T.cells x).length from by omega, run_loadCellsFrom P w a (T.cells x) 0 #[] (by intro j v hv; rw [Nat.zero_add]; exact h j v hv)]
    simp [he x]
  · simp only [loadVar, Sem.run_bind, run_isAgg hd, hs, Result.andThen_ok, Bool.false_eq_true, if_false, run_load]
    have := h 0 (T.enc x) (by simp [he x])
    rw [show a.add 0 = a from by simp [Addr.add]] at this
    simp [this]

theorem run_storeCells {P : Program} (a : Addr) : ∀ (cs : List Value) (i : Nat) (w : World),
    (∀ j, j < cs.length → (w.cell? (a.add (i + j))).isSome = true ∧ w.frozen? (a.add (i + j)) = false) → (∀ v ∈ cs, v.oneCell' = true) →
      (storeCells a cs i).run P w = .ok () (putc w a i cs)
  | [], i, w, _, _ => by simp [storeCells, putc]
  | v :: cs, i, w, h, h1 => by
    obtain ⟨h0, hf⟩ := h 0 (by simp)
    rw [Nat.add_zero] at h0 hf
    obtain ⟨u, hu⟩ := Option.isSome_iff_exists.1 h0
    simp only [storeCells, Sem.run_bind, run_store P w (a.add i) v .plain (h1 v (by simp)), hu, hf, Bool.false_eq_true, if_false, Result.andThen_ok, putc]
    refine run_storeCells a cs (i + 1) _ ?_ (fun v hv => h1 v (by simp [hv]))
    intro j hj
    obtain ⟨g0, gf⟩ := h (j + 1) (by simpa using hj)
    rw [show i + (j + 1) = i + 1 + j from by omega] at g0 gf
    refine ⟨?_, by simpa using gf⟩
    by_cases e : a.add i = a.add (i + 1 + j)
    · rw [← e]; simp [World.cell?_setCell_same _ _ v hu]
    · rw [World.cell?_setCell_other _ _ _ v e]; exact g0

theorem run_storeVar {P : Program} {t : TypeId} {α : Type} {T : Ty α} {n : Nat} (ok : TyOk P t T n) {w : World} {a : Addr} {x : α} (h : Wr w a n) :
    (storeVar t a (T.enc x)).run P w = .ok () (putc w a 0 (T.cells x)) := by
  obtain ⟨i, hi, hn⟩ := ok.size
  have hl := ok.len x
  simp only [storeVar, Sem.run_bind, run_sizeOf hi, Result.andThen_ok, ok.flat x]
  rw [if_neg (by simp [hl, hn])]
  refine run_storeCells a _ 0 w ?_ (ok.one x)
  intro j hj
  rw [Nat.zero_add]
  exact h j (by simpa [hl] using hj)

theorem run_newVar {P : Program} {t : TypeId} {α : Type} {T : Ty α} {n : Nat} (ok : TyOk P t T n) {w : World} (x : α) :
    (newVar t (T.enc x)).run P w = .ok ⟨w.heap.size, 0, none⟩ (w.alloc (.cells (T.cells x).toArray t)) := by
  simp only [newVar, newRow, Sem.run_bind, run_newObj, Result.andThen_ok, Sem.run_pure, ok.flat x, World.alloc_eq]

/-! ### the words of a characteristic formula -/
def ex {α : Type} (C : α → Prop) (k : α → Prop) : Prop := ∃ x, C x ∧ k x
def kp (A B : Prop) : Prop := A ∧ B
def RdAt {α : Type} (T : Ty α) (a : Addr) (w : World) (x : α) : Prop := Rd w a (T.cells x)
def NC (p : Option Addr) (a : Addr) : Prop := p = some a
def st {α : Type} (T : Ty α) (a : Addr) (x : α) (w : World) (k : World → Prop) : Prop := Wr w a (T.cells x).length ∧ k (putc w a 0 (T.cells x))
def nw {α : Type} (t : TypeId) (T : Ty α) (x : α) (w : World) (k : Addr → World → Prop) : Prop := k ⟨w.heap.size, 0, none⟩ (w.alloc (.cells (T.cells x).toArray t))
def nwS {α : Type} (t : TypeId) (T : Ty α) (xs : List α) (w : World) (k : Addr → World → Prop) : Prop := k ⟨w.heap.size, 0, none⟩ (w.alloc (.cells (xs.flatMap T.cells).toArray t))
def IxA (s : Slc) (sz : Nat) (i : Int) (a : Addr) : Prop := ∃ b, s.a = some b ∧ 0 ≤ i ∧ i < s.len ∧ a = b.add (i.toNat * sz)
def IxR (b : Addr) (m sz : Nat) (i : Int) (a : Addr) : Prop := 0 ≤ i ∧ i < m ∧ a = b.add (i.toNat * sz)
def IxS (s : List UInt8) (i : Int) (b : Int) : Prop := 0 ≤ i ∧ ∃ c, s[i.toNat]? = some c ∧ b = c.toNat
def IxV {α : Type} {n : Nat} (v : Vector α n) (i : Int) (x : α) : Prop := 0 ≤ i ∧ v.toList[i.toNat]? = some x
def Sub (s : Slc) (sz : Nat) (l h m : Int) (r : Slc) : Prop :=
  0 ≤ l ∧ l ≤ h ∧ h ≤ m ∧ m ≤ s.cap ∧ r = ⟨if m.toNat = l.toNat then s.a else s.a.map (·.add (l.toNat * sz)), h.toNat - l.toNat, m.toNat - l.toNat⟩
def SubS (s : List UInt8) (l h : Int) (r : List UInt8) : Prop := 0 ≤ l ∧ l ≤ h ∧ h ≤ s.length ∧ r = (s.take h.toNat).drop l.toNat
def CatS (a b r : List UInt8) : Prop := a.length + b.length ≤ 9223372036854775807 ∧ r = a ++ b

/-- A call that returns. -/
def Ret {α : Type} (T : Ty α) (R : α → World → Prop) : Ending → World → Prop
  | .returned v, w => ∃ x, v = T.enc x ∧ R x w
  | _, _ => False
def cl {α : Type} (P : Program) (f : FuncId) (args : List Value) (T : Ty α) (w : World) (k : α → World → Prop) : Prop := Calls P f args.toArray w (Ret T k)
/-- A loop. -/
def lp {σ : Type} (body : σ → World → (σ → World → Prop) → Prop) (s : σ) (w : World) : Prop :=
  ∃ (I : σ → World → Prop) (μ : σ → World → Nat), I s w ∧ ∀ s w, I s w → body s w fun s' w' => I s' w' ∧ μ s' w' < μ s w

theorem info_four {P : Program} {t : TypeId} {z : Value} {n b : Nat} (h : (P.info? t).map (fun i => (i.zero, i.size, i.bytes)) = some (some z, n, b)) :
    ∃ i, P.info? t = some i ∧ i.zero = some z ∧ i.size = n ∧ i.bytes = b := by
  cases hi : P.info? t with
  | none => rw [hi] at h; cases h
  | some i =>
    rw [hi] at h
    simp only [Option.map_some, Option.some.injEq, Prod.mk.injEq] at h
    exact ⟨i, rfl, h.1, h.2.1, h.2.2⟩
theorem flatMap_const_len {α : Type} {c : α → List Value} {m : Nat} (h : ∀ x, (c x).length = m) (xs : List α) : (xs.flatMap c).length = xs.length * m := by
  induction xs with
  | nil => simp
  | cons x xs ih => simp [ih, h x, Nat.add_mul, Nat.add_comm]
theorem mem_nil {v : Value} (h : v ∈ ([] : List Value)) : v.oneCell' = true := absurd h (List.not_mem_nil)
end Go.Proofs.YtpdaapffkdejoaaGreat.Cf
