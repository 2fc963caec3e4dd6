/- Strings and bytes, functions that are not in Go, values in interfaces, floats turned round. -/
import Derived.Test.YtpdaapffkdejoaaGreatCfO
import Derived.Laws.Externs
import Derived.Laws.BytesString
import Derived.Laws.IdiomStrings
import Derived.Laws.FloatArith
namespace Go.Proofs.YtpdaapffkdejoaaGreat.Cf
set_option linter.unusedSimpArgs false
set_option linter.unusedVariables false
open Go
section
variable {P : Program} {Q : Exit → Act → World → Prop} {n : Nat} {f : Nat → Value} {ds : List Deferred} {w w' : World} {o : Oper} {x y : Operand}
/-- Bytes as Go's numbers. -/
def B (l : List UInt8) : List Int := l.map fun b => (b.toNat : Int)
theorem B_len (l : List UInt8) : (B l).length = l.length := by simp [B]
theorem B_app (l m : List UInt8) : B (l ++ m) = B l ++ B m := by simp [B]
/-- string(s). -/
def B2S (s : Slc) (w : World) (r : List UInt8) : Prop := RdS (tInt .u8) w s (B r)
theorem flat_int (k : IntKind) : ∀ l : List Int, l.flatMap (tInt k).cells = l.map (Value.int k)
  | [] => rfl
  | a :: l => by simp [flat_int k l]
theorem q_b2s {s t e : TypeId} {b : Slc} {r : List UInt8} (ho : o.op = .convert s t x) (hs : P.underlying s = some (.slice e)) (he : P.underlying e = some (.int .u8)) (ht : P.underlying t = some .string) (hx : evl n f x = tSlc.enc b) (h : B2S b w r) :
    (execOp (evl n f) o).run P w = .ok (.value (.string ⟨r.toArray⟩)) w := by
  obtain ⟨hl, hr⟩ := h
  rw [B_len] at hl
  obtain ⟨a, len, cap⟩ := b
  simp only at hl hr
  subst hl
  have h1 : (convert s t (.slice a r.length cap)).run P w = .ok (.string ⟨r.toArray⟩) w := by
    cases a with
    | none =>
      have h0 : B r = [] := hr
      have : r = [] := by simpa [B] using h0
      subst this
      rw [run_convert_bytes_string w s t e none _ cap hs he ht]
      rfl
    | some a =>
      refine run_convert_bytes_back w s t e a cap r hs he ht fun j hj => ?_
      refine (hr : Rd w a _) j _ ?_
      rw [flat_int]
      simp [B, List.getElem?_eq_getElem hj]
  simp only [execOp, ho, hx, Sem.run_bind, h1, Result.andThen_ok, Sem.run_pure]
/-- []byte(s). -/
def s2b (e : TypeId) (s : List UInt8) (w : World) (k : Slc → World → Prop) : Prop :=
  k ⟨some ⟨w.heap.size, 0, none⟩, s.length, grownCap w s.length 0 e⟩ (w.drew.alloc (.cells (bytesRow ⟨s.toArray⟩ (grownCap w s.length 0 e)) e ((bytesRow ⟨s.toArray⟩ (grownCap w s.length 0 e)).size, (bytesRow ⟨s.toArray⟩ (grownCap w s.length 0 e)).size + 1)))
theorem wp_s2b {s t e : TypeId} {b : List UInt8} {d : Option Nat} {next : Act → World → Prop} {K : Slc → World → Prop} (hd : o.dst = d) (ho : o.op = .convert s t x) (hs : P.underlying s = some .string) (ht : P.underlying t = some (.slice e)) (he : P.underlying e = some (.int .u8))
    (hx : evl n f x = .string ⟨b.toArray⟩) (h : s2b e b w K) (hK : ∀ r w', K r w' → next (act n (updo f d (tSlc.enc r)) ds) w') : Ow P o (act n f ds) w next Q := by
  rw [Ow_eq]
  subst hd
  have h1 := run_bytes_of_string (P := P) w s t e ⟨b.toArray⟩ hs ht he
  have hsz : (⟨b.toArray⟩ : ByteArray).size = b.length := rfl
  rw [hsz] at h1
  have hop : (execOp (evl n f) o).run P w = .ok (.value (tSlc.enc ⟨some ⟨w.heap.size, 0, none⟩, b.length, grownCap w b.length 0 e⟩)) (w.drew.alloc (.cells (bytesRow ⟨b.toArray⟩ (grownCap w b.length 0 e)) e ((bytesRow ⟨b.toArray⟩ (grownCap w b.length 0 e)).size, (bytesRow ⟨b.toArray⟩ (grownCap w b.length 0 e)).size + 1))) := by
    simp only [execOp, ho, hx, Sem.run_bind, h1, Result.andThen_ok, Sem.run_pure]
  simp only [Oper.wp, act_eval, hop, Oper.upon_value, act_put]
  exact hK _ _ h
theorem keep_B2S {s : Slc} {r : List UInt8} {ob : Obj} (hw : w' = w.alloc ob) (h : B2S s w r) : B2S s w' r := by
  subst hw
  obtain ⟨h1, h2⟩ := h
  refine ⟨h1, ?_⟩
  obtain ⟨a, len, cap⟩ := s
  cases a with
  | none => exact h2
  | some a => exact Rd_alloc (w := w) h2
/-- A literal's bytes: the row is marked behind its end. -/
def mkb (s : Slc) (w : World) (k : World → Prop) : Prop := ∃ a t m, s.a = some a ∧ w.shape? a.block = some (t, m) ∧ k (w.freeze ⟨a.block, m, none⟩ 1)
theorem wp_mkb {t e : TypeId} {s : Slc} {d : Option Nat} {next : Act → World → Prop} {K : World → Prop} (hd : o.dst = d) (ho : o.op = .convert t t x) (ht : P.underlying t = some (.slice e)) (he : P.underlying e = some (.int .u8))
    (hx : evl n f x = tSlc.enc s) (h : mkb s w K) (hK : ∀ w', K w' → next (act n (updo f d (tSlc.enc s)) ds) w') : Ow P o (act n f ds) w next Q := by
  rw [Ow_eq]
  subst hd
  obtain ⟨a, ty, m, ha, hsh, h⟩ := h
  have h1 : (convert t t (tSlc.enc s)).run P w = .ok (tSlc.enc s) (w.freeze ⟨a.block, m, none⟩ 1) := by
    simp [convert, run_underlying ht, run_underlying he, ha, markStringish, hsh, Result.andThen]
  have hop : (execOp (evl n f) o).run P w = .ok (.value (tSlc.enc s)) (w.freeze ⟨a.block, m, none⟩ 1) := by
    simp only [execOp, ho, hx, Sem.run_bind, h1, Result.andThen_ok, Sem.run_pure]
  simp only [Oper.wp, act_eval, hop, Oper.upon_value, act_put]
  exact hK _ h
theorem run_firstCells_string' {P : Program} (w : World) (m : Nat) (r : List UInt8) : (Builtin.firstCells m r.length (.string ⟨r.toArray⟩)).run P w = .ok ((B r).flatMap (tInt .u8).cells).toArray w := by
  rw [flat_int]
  have hsz : (⟨r.toArray⟩ : ByteArray).size = r.length := rfl
  simp only [Builtin.firstCells, Sem.run_pure]
  congr 1
  apply Array.ext'
  have he : (⟨r.toArray⟩ : ByteArray).extract 0 r.length = ⟨r.toArray⟩ := by rw [← hsz]; exact ByteArray.extract_zero_size
  rw [he]
  simp [B]
theorem run_firstB (m : Nat) (r : List UInt8) : (Builtin.firstCells m r.length (.string ⟨r.toArray⟩)).run P w = .ok ((B r).flatMap (tInt .u8).cells).toArray w := by
  have h := run_firstCells_string' (P := P) w m r
  exact h
/-- append(s, r...) of a string. -/
def apS (e : TypeId) (s : Slc) (r : List UInt8) (w : World) (k : Slc → World → Prop) : Prop := app e (tInt .u8) 1 1 s (B r) w k
theorem run_apS_in {t u ty e : TypeId} {s : Slc} {r : List UInt8} (ht : P.underlying t = some (.slice e)) (hu : P.underlying u = some .string) (ok : TyOk P e (tInt .u8) 1) (hc : s.len + r.length ≤ s.cap) {a : Addr} (ha : s.a = some a) (hw : Wr w (a.add (s.len * 1)) (r.length * 1)) :
    (Builtin.append_ #[t, u] ty #[tSlc.enc s, .string ⟨r.toArray⟩]).run P w = .ok (tSlc.enc ⟨some a, s.len + r.length, s.cap⟩) (putc w (a.add (s.len * 1)) 0 ((B r).flatMap (tInt .u8).cells)) := by
  obtain ⟨fo, hi, hfs⟩ := ok.size
  have h2 := run_storeCells (P := P) (a.add (s.len * 1)) ((B r).flatMap (tInt .u8).cells) 0 w (by
    intro j hj
    rw [Nat.zero_add]
    rw [flat_len ok.len, B_len] at hj
    exact hw j hj) (fun v hv => by obtain ⟨x, _, hx⟩ := List.mem_flatMap.1 hv; exact ok.one x v hx)
  have hsz : (⟨r.toArray⟩ : ByteArray).size = r.length := rfl
  simp only [Builtin.append_]
  have h1 := run_firstB (P := P) (w := w) 1 r
  simp [run_underlying ht, run_underlying hu, run_sizeOf hi, Builtin.lenOf, hc, hfs, ha, hsz, h1]
  simp only [Nat.mul_one] at h2
  rw [show storeCells (a.add s.len) ((B r).flatMap (tInt .u8).cells).toArray.toList = storeCells (a.add s.len) ((B r).flatMap (tInt .u8).cells) 0 from rfl, h2]
  simp
theorem run_apS_in0 {t u ty e : TypeId} {s : Slc} {r : List UInt8} (ht : P.underlying t = some (.slice e)) (hu : P.underlying u = some .string) (ok : TyOk P e (tInt .u8) 1) (hc : s.len + r.length ≤ s.cap) (ha : s.a = none) :
    (Builtin.append_ #[t, u] ty #[tSlc.enc s, .string ⟨r.toArray⟩]).run P w = .ok (tSlc.enc ⟨none, s.len + r.length, s.cap⟩) w := by
  obtain ⟨fo, hi, hfs⟩ := ok.size
  have hsz : (⟨r.toArray⟩ : ByteArray).size = r.length := rfl
  have h1 := run_firstB (P := P) (w := w) 1 r
  simp only [Builtin.append_]
  simp [run_underlying ht, run_underlying hu, run_sizeOf hi, Builtin.lenOf, hc, hfs, ha, hsz, h1]
theorem run_apS_grown {t u ty e : TypeId} {fo : TypeInfo} {s : Slc} {r : List UInt8} {old : List Int} (ht : P.underlying t = some (.slice e)) (hu : P.underlying u = some .string)
    (ok : TyOk P e (tInt .u8) 1) (hi : P.info? e = some fo) (hz : fo.zero = some (.int .u8 0)) (hby : fo.bytes = 1) (hc : s.cap < s.len + r.length) (hfit : (s.len + r.length) * 1 ≤ 140737488355328) (hold : RdS (tInt .u8) w s old) :
    ∃ (c : Nat) (rest : List Value), s.len + r.length ≤ c ∧ rest.length = (c - (s.len + r.length)) * 1 ∧
      (Builtin.append_ #[t, u] ty #[tSlc.enc s, .string ⟨r.toArray⟩]).run P w = .ok (tSlc.enc ⟨some ⟨w.heap.size, 0, none⟩, s.len + r.length, c⟩) (w.drew.alloc (.cells ((old ++ B r).flatMap (tInt .u8).cells ++ rest).toArray e)) := by
  obtain ⟨fo', hi', hfs⟩ := ok.size
  rw [hi] at hi'; injection hi' with hi'; subst hi'
  have hsz : (⟨r.toArray⟩ : ByteArray).size = r.length := rfl
  have hol : old.length = s.len := hold.1
  have hc' : ¬ (s.len + r.length ≤ s.cap) := by omega
  have hg := growslice_fits (need := s.len + r.length) (old := s.cap) (bytes := fo.bytes) (by omega) (by rw [hby]; exact hfit)
  have hg' : ¬ (281474976710656 < Builtin.nextslicecap (s.len + r.length) s.cap * fo.bytes) := by omega
  have hb0 : fo.bytes ≠ 0 := by omega
  refine ⟨(Question.appendCap (s.len + r.length) s.cap e).cut (w.tape w.drawn (.appendCap (s.len + r.length) s.cap e)), (Builtin.zeroCells (Value.int .u8 0).cells ((Question.appendCap (s.len + r.length) s.cap e).cut (w.tape w.drawn (.appendCap (s.len + r.length) s.cap e)) - (s.len + r.length))).toList, ?_, ?_, ?_⟩
  · simp only [Question.cut]; omega
  · simp [Builtin.zeroCells, Value.cells]
  · have h1' := run_firstB (P := P) (w := w.drew) 1 r
    have h2' : Sem.run P (Builtin.firstCells 1 s.len (Value.slice s.a s.len s.cap)) w.drew = .ok (old.flatMap (tInt .u8).cells).toArray w.drew := run_firstCells (P := P) ok.len (RdS_drew hold)
    simp only [Builtin.append_]
    simp [run_underlying ht, run_underlying hu, run_sizeOf hi, Builtin.lenOf, hc', hfs, hsz, typeInfo, hi, hb0, hg', Question.forced, h1', h2', zeroValue, hz, newRow, List.flatMap_append, World.drew_eq]
    congr 2
    apply Array.ext'
    simp
theorem wp_appendS {t u e : TypeId} {s : Slc} {r : List UInt8} {d : Option Nat} {next : Act → World → Prop} {K : Slc → World → Prop} (hd : o.dst = d)
    (ho : o.op = .call { callee := .builtin .append, args := #[x, y], argTypes := #[t, u] }) (ht : P.underlying t = some (.slice e)) (hu : P.underlying u = some .string)
    (ok : TyOk P e (tInt .u8) 1) (hinf : ∃ i, P.info? e = some i ∧ i.zero = some (.int .u8 0) ∧ i.size = 1 ∧ i.bytes = 1)
    (hx : evl n f x = tSlc.enc s) (hy : evl n f y = .string ⟨r.toArray⟩) (h : apS e s r w K) (hk : ∀ r w', K r w' → next (act n (updo f d (tSlc.enc r)) ds) w') :
    Ow P o (act n f ds) w next Q := by
  rw [Ow_eq]
  subst hd
  obtain ⟨fo, hi, hz, hfs, hby⟩ := hinf
  obtain ⟨hin, hgr⟩ := h
  have hop : ∀ (w : World) (v : Value) (w' : World), (Builtin.append_ #[t, u] o.type #[tSlc.enc s, .string ⟨r.toArray⟩]).run P w = .ok v w' → (execOp (evl n f) o).run P w = .ok (.value v) w' := by
    intro w v w' hv
    simp only [execOp, ho, resolve, invoke, builtin]
    simp only [List.map_toArray, List.map_cons, List.map_nil, hx, hy, pure_bind, Sem.run_bind, hv, Result.andThen_ok, Sem.run_pure]
  rw [B_len] at hin hgr
  by_cases hc : s.len + r.length ≤ s.cap
  · have hin := hin hc
    cases ha : s.a with
    | none =>
      rw [ha] at hin
      simp only [Oper.wp, act_eval, hop _ _ _ (run_apS_in0 ht hu ok hc ha), Oper.upon_value, act_put]
      exact hk _ _ hin
    | some a =>
      rw [ha] at hin
      simp only [Oper.wp, act_eval, hop _ _ _ (run_apS_in ht hu ok hc ha hin.1), Oper.upon_value, act_put]
      exact hk _ _ hin.2
  · obtain ⟨hfit, old, hold, hgr⟩ := hgr (by omega)
    obtain ⟨c, rest, h1, h2, h3⟩ := run_apS_grown (ty := o.type) ht hu ok hi hz hby (by omega) hfit hold
    simp only [Oper.wp, act_eval, hop _ _ _ h3, Oper.upon_value, act_put]
    exact hk _ _ (hgr c rest h1 h2)
/-- Floats compared. -/
def fcmp (op : BinOp) (a b : Nat) : Bool :=
  match op with
  | .eql => FloatKind.f64.format.order a b == some .eq
  | .neq => FloatKind.f64.format.order a b != some .eq
  | .lss => FloatKind.f64.format.order a b == some .lt
  | .leq => FloatKind.f64.format.order a b == some .lt || FloatKind.f64.format.order a b == some .eq
  | .gtr => FloatKind.f64.format.order a b == some .gt
  | .geq => FloatKind.f64.format.order a b == some .gt || FloatKind.f64.format.order a b == some .eq
  | _ => false
def fcmpOp : BinOp → Bool
  | .eql | .neq | .lss | .leq | .gtr | .geq => true
  | _ => false
theorem q_fcmp {op : BinOp} {a b : Nat} {t u : TypeId} (ho : o.op = .binOp op t x y u) (hop : fcmpOp op = true) (hx : evl n f x = .float .f64 a) (hy : evl n f y = .float .f64 b) :
    (execOp (evl n f) o).run P w = .ok (.value (.bool (fcmp op a b))) w := by
  cases op <;> first
    | cases hop; done
    | simp [execOp, ho, hx, hy, eqGuard_at_float, eqGuard_lss, eqGuard_leq, eqGuard_gtr, eqGuard_geq, binOp, Op.floatCmp, fcmp]
/-- A float's sum, difference, product or quotient that is no NaN; a whole number that is a float's, cut towards nought. -/
def FArith (op : BinOp) (a b : Nat) (r : Nat) : Prop := floatBits op .f64 a b = some r
def F2I (k : IntKind) (b : Nat) (m : Int) : Prop := floatToIntVal .f64 b k = some m
def farOp : BinOp → Bool
  | .add | .sub | .mul | .quo => true
  | _ => false
theorem q_farith {op : BinOp} {a b r : Nat} {t u : TypeId} (ho : o.op = .binOp op t x y u) (hop : farOp op = true) (hx : evl n f x = .float .f64 a) (hy : evl n f y = .float .f64 b) (h : FArith op a b r) :
    (execOp (evl n f) o).run P w = .ok (.value (.float .f64 r)) w := by
  have hr := run_float_arith (P := P) w op t .f64 a b r h
  cases op <;> first
    | cases hop; done
    | simp [execOp, ho, hx, hy, eqGuard_add, eqGuard_sub, eqGuard_mul, eqGuard_quo, hr]
theorem q_cvtFI {k : IntKind} {b : Nat} {m : Int} {s t : TypeId} (ho : o.op = .convert s t x) (hs : P.underlying s = some (.float .f64)) (ht : P.underlying t = some (.int k)) (hx : evl n f x = .float .f64 b) (h : F2I k b m) :
    (execOp (evl n f) o).run P w = .ok (.value (.int k m)) w := by
  have hr := run_convert_float_int (P := P) w s t .f64 k b m (by rw [hs]; rfl) ht h
  simp [execOp, ho, hx, hr]
/-- A function that the model itself answers for. -/
def Ext (P : Program) (k : FuncId) (e : Array Value → Sem Value) : Prop := ∃ fn, P.funcs[k]? = some fn ∧ (fn.name == "runtime.NumGoroutine") = false ∧ fn.body.isNone = true ∧ Extern.findNext fn = none ∧ Extern.find fn = some e
theorem q_ext {k : FuncId} {e : Array Value → Sem Value} {as : List Operand} {ts : Array TypeId} {l : List Value} {v : Value} (ho : o.op = .call { callee := .value (.func k), args := as.toArray, argTypes := ts }) (he : Ext P k e) (ha : as.map (evl n f) = l) (hv : (e l.toArray).run P w = .ok v w) :
    (execOp (evl n f) o).run P w = .ok (.value v) w := by
  obtain ⟨fn, hf, h1, h2, h3, h4⟩ := he
  subst ha
  have h5 := run_callFunc_extern hf h1 h2 h3 h4 ((as.map (evl n f)).toArray) w
  rw [hv] at h5
  simp only [Result.andThen_ok] at h5
  simpa [execOp, ho, resolve, evl, Deferred.ofValue, invoke] using h5
theorem q_f64bits {k : FuncId} {b : Nat} {ts : Array TypeId} (ho : o.op = .call { callee := .value (.func k), args := #[x], argTypes := ts }) (he : Ext P k Extern.MathFloatBits.float64bits) (hx : evl n f x = .float .f64 b) :
    (execOp (evl n f) o).run P w = .ok (.value (.int .u64 b)) w := q_ext (as := [x]) (l := [.float .f64 b]) ho he (by simp [hx]) rfl
theorem q_f64from {k : FuncId} {b : Int} {ts : Array TypeId} (ho : o.op = .call { callee := .value (.func k), args := #[x], argTypes := ts }) (he : Ext P k Extern.MathFloatBits.float64frombits) (hx : evl n f x = .int .u64 b) :
    (execOp (evl n f) o).run P w = .ok (.value (.float .f64 b.toNat)) w := q_ext (as := [x]) (l := [.int .u64 b]) ho he (by simp [hx]) rfl
def ifaD : TypeDesc → Bool
  | .interface _ => true
  | _ => false
theorem q_mkI {t : TypeId} {d : TypeDesc} {v : Value} (ho : o.op = .makeInterface t x) (ht : P.underlying t = some d) (hd : ifaD d = false) (hx : evl n f x = v) : (execOp (evl n f) o).run P w = .ok (.value (Iv.mk t v).enc) w := by
  subst hx
  cases d <;> first
    | simp [execOp, ho, Instr.makeInterface, run_underlying ht, Iv.enc]; done
    | cases hd
theorem q_notU {t : TypeId} {a : Int} {k : IntKind} (ho : o.op = .unOp .xor t x) (hk : k.signed = false) (hx : evl n f x = .int k a) : (execOp (evl n f) o).run P w = .ok (.value (.int k (bits .xor k k.max a))) w := by
  simp [execOp, ho, hx, Op.unary, hk, intBits_xor]
theorem q_notI {t : TypeId} {a : Int} {k : IntKind} (ho : o.op = .unOp .xor t x) (hk : k.signed = true) (hx : evl n f x = .int k a) : (execOp (evl n f) o).run P w = .ok (.value (.int k (bits .xor k (-1) a))) w := by
  simp [execOp, ho, hx, Op.unary, hk, intBits_xor]
theorem q_negF {t : TypeId} {a : Nat} (ho : o.op = .unOp .neg t x) (hx : evl n f x = .float .f64 a) : (execOp (evl n f) o).run P w = .ok (.value (.float .f64 (Op.negFloat .f64 a))) w := by
  simp [execOp, ho, hx, Op.unary]
end
end Go.Proofs.YtpdaapffkdejoaaGreat.Cf
