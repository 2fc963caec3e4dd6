/- What each operation answers on typed values. -/
import Derived.Test.YtpdaapffkdejoaaGreatCfB
import Derived.Lib.SliceRun
import Derived.Laws.Cover3
import Derived.Laws.Pointers
import Derived.Lib.Strings
namespace Go.Proofs.YtpdaapffkdejoaaGreat.Cf
set_option linter.unusedSimpArgs false
set_option linter.unusedVariables false
open Go
section
variable {P : Program} {n : Nat} {f : Nat → Value} {w : World} {o : Oper} {x y z : Operand}

theorem q_move {v : Value} (ho : o.op = .move x) (hx : evl n f x = v) : (execOp (evl n f) o).run P w = .ok (.value v) w := by
  simp [execOp, ho, hx]
theorem q_assign {v : Value} (ho : o.op = .assign x) (hx : evl n f x = v) : (execOp (evl n f) o).run P w = .ok (.value v) w := by
  simp [execOp, ho, hx]
theorem q_pickT {v : Value} {b : Bool} (ho : o.op = .pick x y z) (hx : evl n f x = .bool b) (hb : b = true) (hy : evl n f y = v) : (execOp (evl n f) o).run P w = .ok (.value v) w := by
  subst hb; simp [execOp, ho, hx, hy, asBool]
theorem q_pickF {v : Value} {b : Bool} (ho : o.op = .pick x y z) (hx : evl n f x = .bool b) (hb : b = false) (hz : evl n f z = v) : (execOp (evl n f) o).run P w = .ok (.value v) w := by
  subst hb; simp [execOp, ho, hx, hz, asBool]
theorem q_pickB1 {a c : Bool} (ho : o.op = .pick x y z) (hx : evl n f x = .bool a) (hy : evl n f y = .bool true) (hz : evl n f z = .bool c) :
    (execOp (evl n f) o).run P w = .ok (.value (.bool (a || c))) w := by
  cases a <;> simp [execOp, ho, hx, hy, hz, asBool]
theorem q_pickB0 {a b : Bool} (ho : o.op = .pick x y z) (hx : evl n f x = .bool a) (hy : evl n f y = .bool b) (hz : evl n f z = .bool false) :
    (execOp (evl n f) o).run P w = .ok (.value (.bool (a && b))) w := by
  cases a <;> simp [execOp, ho, hx, hy, hz, asBool]
theorem q_alloc {α : Type} {T : Ty α} {m : Nat} {t : TypeId} {u : α} {a : Addr} {w' : World} (ho : o.op = .alloc t) (ok : TyOk P t T m) {by_ : Nat} (hinf : ∃ i, P.info? t = some i ∧ i.zero = some (T.enc u) ∧ i.size = m ∧ i.bytes = by_)
    (ha : a = ⟨w.heap.size, 0, none⟩) (hw : w' = w.alloc (.cells (T.cells u).toArray t)) : (execOp (evl n f) o).run P w = .ok (.value (.pointer (some a))) w' := by
  obtain ⟨i, hi, hz, _⟩ := hinf
  subst ha; subst hw; simp [execOp, ho, Instr.alloc, zeroValue, typeInfo, hi, hz, run_newVar ok]
theorem q_box {α : Type} {T : Ty α} {m : Nat} {t : TypeId} {u : α} {a : Addr} {w' : World} (ho : o.op = .box t x) (ok : TyOk P t T m) (hx : evl n f x = T.enc u)
    (ha : a = ⟨w.heap.size, 0, none⟩) (hw : w' = w.alloc (.cells (T.cells u).toArray t)) : (execOp (evl n f) o).run P w = .ok (.value (.pointer (some a))) w' := by
  subst ha; subst hw; simp [execOp, ho, hx, Instr.box, run_newVar ok]
theorem q_load {α : Type} {T : Ty α} {m : Nat} {t : TypeId} {u : α} {a : Addr} (ho : o.op = .load t x) (ok : TyOk P t T m) (hx : evl n f x = .pointer (some a)) (hr : Rd w a (T.cells u)) :
    (execOp (evl n f) o).run P w = .ok (.value (T.enc u)) w := by
  simp [execOp, ho, hx, Instr.loadAt, Instr.sureAddr, run_loadVar ok hr]
theorem q_store {α : Type} {T : Ty α} {m : Nat} {t : TypeId} {u : α} {a : Addr} {w' : World} (ho : o.op = .store t x y) (ok : TyOk P t T m) (hx : evl n f x = .pointer (some a)) (hy : evl n f y = T.enc u)
    (hr : Wr w a (T.cells u).length) (hw : w' = putc w a 0 (T.cells u)) : (execOp (evl n f) o).run P w = .ok .skip w' := by
  subst hw; simp [execOp, ho, hx, hy, Instr.storeAt, Instr.sureAddr, run_storeVar ok (by rw [ok.len] at hr; exact hr)]
theorem q_nilCheck {a : Addr} (ho : o.op = .nilCheck x) (hx : evl n f x = .pointer (some a)) : (execOp (evl n f) o).run P w = .ok (.value (.pointer (some a))) w := by
  simp [execOp, ho, hx]
theorem q_nilCheckF {fn : Fv} {k : FuncId} {c : Array Value} (ho : o.op = .nilCheck x) (hx : evl n f x = fn.enc) (hf : fn = .mk (.func k) #[] c) : (execOp (evl n f) o).run P w = .ok (.value fn.enc) w := by
  subst hf; simp [execOp, ho, hx, Fv.enc]
theorem q_add {k : IntKind} {a b : Int} {t u : TypeId} (ho : o.op = .binOp .add t x y u) (hx : evl n f x = .int k a) (hy : evl n f y = .int k b) :
    (execOp (evl n f) o).run P w = .ok (.value (.int k (k.wrap (a + b)))) w := by simp [execOp, ho, hx, hy, eqGuard_add, binOp_add, Op.intArith]
theorem q_sub {k : IntKind} {a b : Int} {t u : TypeId} (ho : o.op = .binOp .sub t x y u) (hx : evl n f x = .int k a) (hy : evl n f y = .int k b) :
    (execOp (evl n f) o).run P w = .ok (.value (.int k (k.wrap (a - b)))) w := by simp [execOp, ho, hx, hy, eqGuard_sub, binOp_sub, Op.intArith]
theorem q_mul {k : IntKind} {a b : Int} {t u : TypeId} (ho : o.op = .binOp .mul t x y u) (hx : evl n f x = .int k a) (hy : evl n f y = .int k b) :
    (execOp (evl n f) o).run P w = .ok (.value (.int k (k.wrap (a * b)))) w := by simp [execOp, ho, hx, hy, eqGuard_mul, binOp_mul, Op.intArith]
theorem q_and {k : IntKind} {a b : Int} {t u : TypeId} (ho : o.op = .binOp .and t x y u) (hx : evl n f x = .int k a) (hy : evl n f y = .int k b) :
    (execOp (evl n f) o).run P w = .ok (.value (.int k (bits .and k a b))) w := by simp [execOp, ho, hx, hy, eqGuard_and, binOp_and, intBits_and]
theorem q_or {k : IntKind} {a b : Int} {t u : TypeId} (ho : o.op = .binOp .or t x y u) (hx : evl n f x = .int k a) (hy : evl n f y = .int k b) :
    (execOp (evl n f) o).run P w = .ok (.value (.int k (bits .or k a b))) w := by simp [execOp, ho, hx, hy, eqGuard_or, binOp_or, intBits_or]
theorem q_xor {k : IntKind} {a b : Int} {t u : TypeId} (ho : o.op = .binOp .xor t x y u) (hx : evl n f x = .int k a) (hy : evl n f y = .int k b) :
    (execOp (evl n f) o).run P w = .ok (.value (.int k (bits .xor k a b))) w := by simp [execOp, ho, hx, hy, eqGuard_xor, binOp_xor, intBits_xor]
theorem q_andNot {k : IntKind} {a b : Int} {t u : TypeId} (ho : o.op = .binOp .andNot t x y u) (hx : evl n f x = .int k a) (hy : evl n f y = .int k b) :
    (execOp (evl n f) o).run P w = .ok (.value (.int k (bits .andNot k a b))) w := by simp [execOp, ho, hx, hy, eqGuard_andNot, binOp_andNot, intBits_andNot]
/-- A division by what is no nought; a shift by no less than nought. -/
def Div0 (b r0 r : Int) : Prop := b ≠ 0 ∧ r = r0
def Shift (b r0 r : Int) : Prop := 0 ≤ b ∧ r = r0
theorem q_quo0 {k : IntKind} {a b r : Int} {t u : TypeId} (ho : o.op = .binOp .quo t x y u) (hx : evl n f x = .int k a) (hy : evl n f y = .int k b) (h : Div0 b (k.wrap (a.tdiv b)) r) :
    (execOp (evl n f) o).run P w = .ok (.value (.int k r)) w := by
  obtain ⟨h, rfl⟩ := h
  simp [execOp, ho, hx, hy, eqGuard_quo, binOp_quo, Op.intDiv, h]
theorem q_rem0 {k : IntKind} {a b r : Int} {t u : TypeId} (ho : o.op = .binOp .rem t x y u) (hx : evl n f x = .int k a) (hy : evl n f y = .int k b) (h : Div0 b (a.tmod b) r) :
    (execOp (evl n f) o).run P w = .ok (.value (.int k r)) w := by
  obtain ⟨h, rfl⟩ := h
  simp [execOp, ho, hx, hy, eqGuard_rem, binOp_rem, Op.intDiv, h]
theorem q_quo {k : IntKind} {a b : Int} {t u : TypeId} (ho : o.op = .binOp .quo t x y u) (hx : evl n f x = .int k a) (hy : evl n f y = .int k b) (h : b ≠ 0) :
    (execOp (evl n f) o).run P w = .ok (.value (.int k (k.wrap (a.tdiv b)))) w := q_quo0 ho hx hy ⟨h, rfl⟩
theorem q_rem {k : IntKind} {a b : Int} {t u : TypeId} (ho : o.op = .binOp .rem t x y u) (hx : evl n f x = .int k a) (hy : evl n f y = .int k b) (h : b ≠ 0) :
    (execOp (evl n f) o).run P w = .ok (.value (.int k (a.tmod b))) w := q_rem0 ho hx hy ⟨h, rfl⟩
theorem q_shl {k yk : IntKind} {a b r : Int} {t u : TypeId} (ho : o.op = .binOp .shl t x y u) (hx : evl n f x = .int k a) (hy : evl n f y = .int yk b) (h : Shift b (k.wrap (a * 2 ^ (min b.toNat k.bits))) r) :
    (execOp (evl n f) o).run P w = .ok (.value (.int k r)) w := by
  obtain ⟨h, rfl⟩ := h
  simp [execOp, ho, hx, hy, eqGuard_shl, binOp_shl, Op.shift, Int.not_lt.2 h]
theorem q_shr {k yk : IntKind} {a b r : Int} {t u : TypeId} (ho : o.op = .binOp .shr t x y u) (hx : evl n f x = .int k a) (hy : evl n f y = .int yk b) (h : Shift b (a.fdiv (2 ^ (min b.toNat k.bits))) r) :
    (execOp (evl n f) o).run P w = .ok (.value (.int k r)) w := by
  obtain ⟨h, rfl⟩ := h
  simp [execOp, ho, hx, hy, eqGuard_shr, binOp_shr, Op.shift, Int.not_lt.2 h]
theorem q_eql {k : IntKind} {a b : Int} {t u : TypeId} (ho : o.op = .binOp .eql t x y u) (hx : evl n f x = .int k a) (hy : evl n f y = .int k b) :
    (execOp (evl n f) o).run P w = .ok (.value (.bool (a == b))) w := by simp [execOp, ho, hx, hy, eqGuard_at_int, binOp_eql]
theorem q_neq {k : IntKind} {a b : Int} {t u : TypeId} (ho : o.op = .binOp .neq t x y u) (hx : evl n f x = .int k a) (hy : evl n f y = .int k b) :
    (execOp (evl n f) o).run P w = .ok (.value (.bool (a != b))) w := by simp [execOp, ho, hx, hy, eqGuard_at_int, binOp_neq]
theorem q_lss {k : IntKind} {a b : Int} {t u : TypeId} (ho : o.op = .binOp .lss t x y u) (hx : evl n f x = .int k a) (hy : evl n f y = .int k b) :
    (execOp (evl n f) o).run P w = .ok (.value (.bool (decide (a < b)))) w := by simp [execOp, ho, hx, hy, eqGuard_lss, binOp_lss]
theorem q_leq {k : IntKind} {a b : Int} {t u : TypeId} (ho : o.op = .binOp .leq t x y u) (hx : evl n f x = .int k a) (hy : evl n f y = .int k b) :
    (execOp (evl n f) o).run P w = .ok (.value (.bool (decide (a ≤ b)))) w := by simp [execOp, ho, hx, hy, eqGuard_leq, binOp_leq]
theorem q_gtr {k : IntKind} {a b : Int} {t u : TypeId} (ho : o.op = .binOp .gtr t x y u) (hx : evl n f x = .int k a) (hy : evl n f y = .int k b) :
    (execOp (evl n f) o).run P w = .ok (.value (.bool (decide (a > b)))) w := by simp [execOp, ho, hx, hy, eqGuard_gtr, binOp_gtr]
theorem q_geq {k : IntKind} {a b : Int} {t u : TypeId} (ho : o.op = .binOp .geq t x y u) (hx : evl n f x = .int k a) (hy : evl n f y = .int k b) :
    (execOp (evl n f) o).run P w = .ok (.value (.bool (decide (a ≥ b)))) w := by simp [execOp, ho, hx, hy, eqGuard_geq, binOp_geq]
theorem q_eqB {a b : Bool} {t u : TypeId} (ho : o.op = .binOp .eql t x y u) (ht : P.underlying t = some .bool) (hx : evl n f x = .bool a) (hy : evl n f y = .bool b) :
    (execOp (evl n f) o).run P w = .ok (.value (.bool (a == b))) w := by simp [execOp, ho, hx, hy, eqGuard_at_bool, run_eql_bool _ _ _ _ ht]
theorem q_neB {a b : Bool} {t u : TypeId} (ho : o.op = .binOp .neq t x y u) (ht : P.underlying t = some .bool) (hx : evl n f x = .bool a) (hy : evl n f y = .bool b) :
    (execOp (evl n f) o).run P w = .ok (.value (.bool (!(a == b)))) w := by simp [execOp, ho, hx, hy, eqGuard_at_bool, run_neq_bool _ _ _ _ ht]
theorem toList_toArray (s : List UInt8) : (⟨s.toArray⟩ : ByteArray).toList = s := by
  rw [ByteArray.toList_eq]
theorem q_eqS {a b : List UInt8} {t u : TypeId} (ho : o.op = .binOp .eql t x y u) (hx : evl n f x = .string ⟨a.toArray⟩) (hy : evl n f y = .string ⟨b.toArray⟩) :
    (execOp (evl n f) o).run P w = .ok (.value (.bool (a == b))) w := by simp [execOp, ho, hx, hy, eqGuard_at_string, binOp, Op.stringOp, toList_toArray]
theorem q_neS {a b : List UInt8} {t u : TypeId} (ho : o.op = .binOp .neq t x y u) (hx : evl n f x = .string ⟨a.toArray⟩) (hy : evl n f y = .string ⟨b.toArray⟩) :
    (execOp (evl n f) o).run P w = .ok (.value (.bool (!(a == b)))) w := by simp [execOp, ho, hx, hy, eqGuard_at_string, binOp, Op.stringOp, toList_toArray]
theorem q_catS {a b r : List UInt8} {t u : TypeId} (ho : o.op = .binOp .add t x y u) (hx : evl n f x = .string ⟨a.toArray⟩) (hy : evl n f y = .string ⟨b.toArray⟩) (hs : CatS a b r) :
    (execOp (evl n f) o).run P w = .ok (.value (.string ⟨r.toArray⟩)) w := by
  obtain ⟨hs, rfl⟩ := hs
  have hsz : ((⟨a.toArray⟩ : ByteArray).size + (⟨b.toArray⟩ : ByteArray).size : Nat) = a.length + b.length := rfl
  have hap : (⟨a.toArray⟩ : ByteArray) ++ ⟨b.toArray⟩ = ⟨(a ++ b).toArray⟩ := by
    apply ByteArray.ext; simp
  simp only [execOp, ho, hx, hy, eqGuard_add, binOp, Op.stringOp, hap]
  rw [if_neg (by rw [hsz, IntKind.max_i64]; omega)]
  rfl
theorem q_eqP0 {a : Option Addr} {t u e : TypeId} (ho : o.op = .binOp .eql t x y u) (ht : P.underlying t = some (.pointer e)) (hx : evl n f x = .pointer a) (hy : evl n f y = .pointer none) :
    (execOp (evl n f) o).run P w = .ok (.value (.bool a.isNone)) w := by
  have hp : P.underlying t = some (.pointer (P.pointee t)) := by simp [Program.pointee, ht]
  simp only [execOp, ho, hx, hy, eqGuard_at_pointer, bind_pure_comp, Sem.run_map, pure_bind, run_eql_pointer_nil w t a hp, Result.andThen_ok]
theorem q_neP0 {a : Option Addr} {t u e : TypeId} (ho : o.op = .binOp .neq t x y u) (ht : P.underlying t = some (.pointer e)) (hx : evl n f x = .pointer a) (hy : evl n f y = .pointer none) :
    (execOp (evl n f) o).run P w = .ok (.value (.bool (!a.isNone))) w := by
  have hp : P.underlying t = some (.pointer (P.pointee t)) := by simp [Program.pointee, ht]
  simp only [execOp, ho, hx, hy, eqGuard_at_pointer, bind_pure_comp, Sem.run_map, pure_bind, run_neq_pointer_nil w t a hp, Result.andThen_ok]
theorem q_eqL0 {s : Slc} {t u e : TypeId} (ho : o.op = .binOp .eql t x y u) (ht : P.underlying t = some (.slice e)) (hx : evl n f x = tSlc.enc s) (hy : evl n f y = .slice none 0 0) :
    (execOp (evl n f) o).run P w = .ok (.value (.bool s.a.isNone)) w := by
  simp only [execOp, ho, hx, hy, eqGuard_at_slice, bind_pure_comp, Sem.run_map, pure_bind, Lib.run_eql_slice_nil w t e s.a s.len s.cap 0 0 ht, Result.andThen_ok]
theorem q_neL0 {s : Slc} {t u e : TypeId} (ho : o.op = .binOp .neq t x y u) (ht : P.underlying t = some (.slice e)) (hx : evl n f x = tSlc.enc s) (hy : evl n f y = .slice none 0 0) :
    (execOp (evl n f) o).run P w = .ok (.value (.bool (!s.a.isNone))) w := by
  simp only [execOp, ho, hx, hy, eqGuard_at_slice, bind_pure_comp, Sem.run_map, pure_bind, run_neq_slice_nil w t e s.a s.len s.cap ht, Result.andThen_ok]
theorem q_not {b : Bool} {t : TypeId} (ho : o.op = .unOp .not t x) (hx : evl n f x = .bool b) :
    (execOp (evl n f) o).run P w = .ok (.value (.bool (!b))) w := by simp [execOp, ho, hx, Op.unary]
theorem q_neg {k : IntKind} {a : Int} {t : TypeId} (ho : o.op = .unOp .neg t x) (hx : evl n f x = .int k a) :
    (execOp (evl n f) o).run P w = .ok (.value (.int k (k.wrap (0 - a)))) w := by simp [execOp, ho, hx, Op.unary, Op.intArith]
theorem q_cvtI {k j : IntKind} {a : Int} {s t : TypeId} (ho : o.op = .convert s t x) (hs : P.underlying s = some (.int j)) (ht : P.underlying t = some (.int k)) (hx : evl n f x = .int j a) :
    (execOp (evl n f) o).run P w = .ok (.value (.int k (k.wrap a))) w := by
  simp [execOp, ho, hx, convert, run_underlying hs, run_underlying ht, Conv.intToInt]
theorem q_fieldAddr {t : TypeId} {fs : Array Field} {fd : Field} {a : Addr} {k off m : Nat} {α : Type} {T : Ty α} (ho : o.op = .fieldAddr t x k) (ht : P.underlying t = some (.struct fs)) (hf : fs[k]? = some fd)
    (hoff : fd.offset = off) (ok : TyOk P fd.type T m) (hm : m ≠ 0) (hx : evl n f x = .pointer (some a)) :
    (execOp (evl n f) o).run P w = .ok (.value (.pointer (some (a.add off)))) w := by
  obtain ⟨i, hi, hs⟩ := ok.size
  subst hoff
  have hs' : i.size ≠ 0 := by omega
  simp [execOp, ho, hx, Instr.fieldAt, run_underlying ht, hf, Instr.sureAddr, fieldPlace, run_sizeOf hi, hs']
theorem q_indexAddr {t e : TypeId} {a : Addr} {s : Slc} {k : IntKind} {i : Int} {m : Nat} {α : Type} {T : Ty α} (ho : o.op = .indexAddr t x y) (ht : P.underlying t = some (.slice e)) (ok : TyOk P e T m)
    (hx : evl n f x = tSlc.enc s) (hy : evl n f y = .int k i) (ha : IxA s m i a) :
    (execOp (evl n f) o).run P w = .ok (.value (.pointer (some a))) w := by
  obtain ⟨fo, hi, hs⟩ := ok.size
  obtain ⟨b, hb, h0, h1, rfl⟩ := ha
  simp [execOp, ho, hx, hy, Instr.indexAt, asIntOf, run_underlying ht, hb, h0, h1, run_sizeOf hi, hs]
theorem q_indexAddrA {t e : TypeId} {a b : Addr} {l m : Nat} {k : IntKind} {i : Int} {α : Type} {T : Ty α} (ho : o.op = .indexAddr t x y) (ht : P.underlying t = some (.array l e)) (ok : TyOk P e T m)
    (hx : evl n f x = .pointer (some b)) (hy : evl n f y = .int k i) (ha : IxR b l m i a) :
    (execOp (evl n f) o).run P w = .ok (.value (.pointer (some a))) w := by
  obtain ⟨fo, hi, hs⟩ := ok.size
  obtain ⟨h0, h1, rfl⟩ := ha
  simp [execOp, ho, hx, hy, Instr.indexAt, Instr.sureAddr, asIntOf, run_underlying ht, h0, h1, run_sizeOf hi, hs]
theorem q_indexS {t : TypeId} {s : List UInt8} {k : IntKind} {i b : Int} (ho : o.op = .index t x y) (ht : P.underlying t = some .string) (hx : evl n f x = .string ⟨s.toArray⟩) (hy : evl n f y = .int k i) (ha : IxS s i b) :
    (execOp (evl n f) o).run P w = .ok (.value (.int .u8 b)) w := by
  obtain ⟨h0, c, hc, rfl⟩ := ha
  have hg : (⟨s.toArray⟩ : ByteArray)[i.toNat]? = some c := by
    have hl : i.toNat < s.length := (List.getElem?_eq_some_iff.1 hc).1
    have : i.toNat < (⟨s.toArray⟩ : ByteArray).size := hl
    rw [getElem?_pos (⟨s.toArray⟩ : ByteArray) i.toNat this]
    have := (List.getElem?_eq_some_iff.1 hc).2
    simpa [ByteArray.getElem_eq_getElem_data] using this
  simp [execOp, ho, hx, hy, Instr.index, asIntOf, run_underlying ht, h0, hg]
theorem q_len {s : Slc} {t e : TypeId} (ho : o.op = .call { callee := .builtin .len, args := #[x], argTypes := #[t] }) (ht : P.underlying t = some (.slice e)) (hx : evl n f x = tSlc.enc s) :
    (execOp (evl n f) o).run P w = .ok (.value (.int .i64 s.len)) w := by
  simp [execOp, ho, hx, resolve, invoke, builtin, Builtin.len_, run_underlying ht, goInt]
theorem q_cap {s : Slc} {t e : TypeId} (ho : o.op = .call { callee := .builtin .cap, args := #[x], argTypes := #[t] }) (ht : P.underlying t = some (.slice e)) (hx : evl n f x = tSlc.enc s) :
    (execOp (evl n f) o).run P w = .ok (.value (.int .i64 s.cap)) w := by
  simp [execOp, ho, hx, resolve, invoke, builtin, Builtin.cap_, run_underlying ht, goInt]
theorem q_lenS {s : List UInt8} {t : TypeId} (ho : o.op = .call { callee := .builtin .len, args := #[x], argTypes := #[t] }) (ht : P.underlying t = some .string) (hx : evl n f x = .string ⟨s.toArray⟩) :
    (execOp (evl n f) o).run P w = .ok (.value (.int .i64 s.length)) w := by
  have hs : (⟨s.toArray⟩ : ByteArray).size = s.length := rfl
  simp only [execOp, ho, hx, resolve, invoke, builtin, Builtin.len_, goInt, hs]
  simp [run_underlying ht, hx, hs]
theorem q_extract2a {u v : Value} (ho : o.op = .extract x 0) (hx : evl n f x = .tuple #[u, v]) : (execOp (evl n f) o).run P w = .ok (.value u) w := by
  simp [execOp, ho, hx, Instr.extract]
theorem q_extract {vs : Array Value} {v : Value} {i : Nat} (ho : o.op = .extract x i) (hx : evl n f x = .tuple vs) (hv : vs[i]? = some v) : (execOp (evl n f) o).run P w = .ok (.value v) w := by
  simp [execOp, ho, hx, Instr.extract, hv]
theorem q_makeFunc {fn : Fn} {a c : List Operand} {va vc : List Value} (ho : o.op = .makeFunc fn a.toArray c.toArray) (ha : a.map (evl n f) = va) (hc : c.map (evl n f) = vc) :
    (execOp (evl n f) o).run P w = .ok (.value (.func fn va.toArray vc.toArray)) w := by
  subst ha; subst hc; simp [execOp, ho, Instr.makeFunc]
/-- A function with a body in Go. -/
def Enters (P : Program) (k : FuncId) : Prop := ∃ fn, P.funcs[k]? = some fn ∧ fn.body.isSome = true ∧ (fn.name == "runtime.NumGoroutine") = false
theorem q_call {k : FuncId} {as : List Operand} {ts : Array TypeId} {l : List Value} (ho : o.op = .call { callee := .value (.func k), args := as.toArray, argTypes := ts }) (he : Enters P k) (ha : as.map (evl n f) = l) :
    (execOp (evl n f) o).run P w = .ok (.enter k l.toArray) w := by
  obtain ⟨fn, hf, hb, hn⟩ := he
  have hb' : fn.body ≠ none := by intro h; simp [h] at hb
  subst ha
  simp [execOp, ho, resolve, evl, Deferred.ofValue, invoke, callFunc, hf, hb', beq_eq_false_iff_ne.1 hn]
theorem q_callV {k : FuncId} {as : List Operand} {ts : Array TypeId} {l : List Value} {c : List Value} {fv : Fv} (ho : o.op = .call { callee := .value x, args := as.toArray, argTypes := ts }) (hx : evl n f x = fv.enc) (hfv : fv = .mk (.func k) #[] c.toArray)
    (he : Enters P k) (ha : as.map (evl n f) = l) : (execOp (evl n f) o).run P w = .ok (.enter k (l ++ c).toArray) w := by
  obtain ⟨fn, hf, hb, hn⟩ := he
  have hb' : fn.body ≠ none := by intro h; simp [h] at hb
  subst hfv; subst ha
  simp [execOp, ho, resolve, hx, Fv.enc, Deferred.ofValue, invoke, callFunc, hf, hb', beq_eq_false_iff_ne.1 hn]
end
theorem nw_open {α : Type} {t : TypeId} {T : Ty α} {x : α} {w : World} {k : Addr → World → Prop} (h : nw t T x w k) : ∃ a w', a = ⟨w.heap.size, 0, none⟩ ∧ w' = w.alloc (.cells (T.cells x).toArray t) ∧ k a w' := ⟨_, _, rfl, rfl, h⟩
theorem st_open {α : Type} {T : Ty α} {a : Addr} {x : α} {w : World} {k : World → Prop} (h : st T a x w k) : ∃ w', w' = putc w a 0 (T.cells x) ∧ Wr w a (T.cells x).length ∧ k w' := ⟨_, rfl, h.1, h.2⟩
end Go.Proofs.YtpdaapffkdejoaaGreat.Cf
