/- The types of the program, typed. Printed by gen.py (own tool). -/
import Derived.Test.YtjhenlajkhckfaaCfP
import Derived.Test.YtjhenlajkhckfaaProg
namespace Go.Proofs.Ytjhenlajkhckfaa.Cf
open Go
set_option maxRecDepth 100000
set_option linter.unusedVariables false
set_option linter.unusedSimpArgs false
-- struct { Kind api.Kind; U uint64; I int64; F float64; S string }
structure S35 where
  Kind : Int
  U : Int
  I : Int
  F : Nat
  S : (List UInt8)
def S35.cells (x : S35) : List Value := [.int .i64 (x.Kind), .int .u64 (x.U), .int .i64 (x.I), .float .f64 (x.F), .string ⟨(x.S).toArray⟩]
@[reducible] def T35 : Ty S35 := tAgg S35.cells
@[reducible] def Z35 : S35 := ⟨(0 : Int), (0 : Int), (0 : Int), (0 : Nat), ([] : List UInt8)⟩
-- struct { b []uint8; at int }
structure S49 where
  b_ : Slc
  at_ : Int
def S49.cells (x : S49) : List Value := [tSlc.enc (x.b_), .int .i64 (x.at_)]
@[reducible] def T49 : Ty S49 := tAgg S49.cells
@[reducible] def Z49 : S49 := ⟨(⟨none, 0, 0⟩ : Slc), (0 : Int)⟩
-- struct { e api.Errno }
structure S51 where
  e_ : Int
def S51.cells (x : S51) : List Value := [.int .i64 (x.e_)]
@[reducible] def T51 : Ty S51 := tAgg S51.cells
@[reducible] def Z51 : S51 := ⟨(0 : Int)⟩
theorem inf2 : ∃ i, Try.prog.info? 2 = some i ∧ i.zero = some (.int .i64 ((0 : Int))) ∧ i.size = 1 ∧ i.bytes = 8 := info_four (by kernel_rfl)
theorem ok2 : TyOk Try.prog 2 (tInt .i64) 1 := ⟨(inf2).imp fun _ h => ⟨h.1, h.2.2.1⟩, fun _ => rfl, .inr ⟨_, Try.underlying2, rfl, rfl, fun _ => rfl⟩, fun x => rfl, fun x v hv => by obtain rfl := List.mem_singleton.1 hv; exact rfl⟩
theorem inf3 : ∃ i, Try.prog.info? 3 = some i ∧ i.zero = some (.int .i64 ((0 : Int))) ∧ i.size = 1 ∧ i.bytes = 8 := info_four (by kernel_rfl)
theorem ok3 : TyOk Try.prog 3 (tInt .i64) 1 := ⟨(inf3).imp fun _ h => ⟨h.1, h.2.2.1⟩, fun _ => rfl, .inr ⟨_, Try.underlying3, rfl, rfl, fun _ => rfl⟩, fun x => rfl, fun x v hv => by obtain rfl := List.mem_singleton.1 hv; exact rfl⟩
theorem inf4 : ∃ i, Try.prog.info? 4 = some i ∧ i.zero = some (.bool (false)) ∧ i.size = 1 ∧ i.bytes = 1 := info_four (by kernel_rfl)
theorem ok4 : TyOk Try.prog 4 tBool 1 := ⟨(inf4).imp fun _ h => ⟨h.1, h.2.2.1⟩, fun _ => rfl, .inr ⟨_, Try.underlying4, rfl, rfl, fun _ => rfl⟩, fun x => rfl, fun x v hv => by obtain rfl := List.mem_singleton.1 hv; exact rfl⟩
theorem inf5 : ∃ i, Try.prog.info? 5 = some i ∧ i.zero = some (.int .u8 ((0 : Int))) ∧ i.size = 1 ∧ i.bytes = 1 := info_four (by kernel_rfl)
theorem ok5 : TyOk Try.prog 5 (tInt .u8) 1 := ⟨(inf5).imp fun _ h => ⟨h.1, h.2.2.1⟩, fun _ => rfl, .inr ⟨_, Try.underlying5, rfl, rfl, fun _ => rfl⟩, fun x => rfl, fun x v hv => by obtain rfl := List.mem_singleton.1 hv; exact rfl⟩
theorem inf9 : ∃ i, Try.prog.info? 9 = some i ∧ i.zero = some (.string ⟨(([] : List UInt8)).toArray⟩) ∧ i.size = 1 ∧ i.bytes = 16 := info_four (by kernel_rfl)
theorem ok9 : TyOk Try.prog 9 tStr 1 := ⟨(inf9).imp fun _ h => ⟨h.1, h.2.2.1⟩, fun _ => rfl, .inr ⟨_, Try.underlying9, rfl, rfl, fun _ => rfl⟩, fun x => rfl, fun x v hv => by obtain rfl := List.mem_singleton.1 hv; exact rfl⟩
theorem inf22 : ∃ i, Try.prog.info? 22 = some i ∧ i.zero = some (tSlc.enc ((⟨none, 0, 0⟩ : Slc))) ∧ i.size = 1 ∧ i.bytes = 24 := info_four (by kernel_rfl)
theorem ok22 : TyOk Try.prog 22 tSlc 1 := ⟨(inf22).imp fun _ h => ⟨h.1, h.2.2.1⟩, fun _ => rfl, .inr ⟨_, Try.underlying22, rfl, rfl, fun _ => rfl⟩, fun x => rfl, fun x v hv => by obtain rfl := List.mem_singleton.1 hv; exact rfl⟩
theorem inf25 : ∃ i, Try.prog.info? 25 = some i ∧ i.zero = some (tSlc.enc ((⟨none, 0, 0⟩ : Slc))) ∧ i.size = 1 ∧ i.bytes = 24 := info_four (by kernel_rfl)
theorem ok25 : TyOk Try.prog 25 tSlc 1 := ⟨(inf25).imp fun _ h => ⟨h.1, h.2.2.1⟩, fun _ => rfl, .inr ⟨_, Try.underlying25, rfl, rfl, fun _ => rfl⟩, fun x => rfl, fun x v hv => by obtain rfl := List.mem_singleton.1 hv; exact rfl⟩
theorem inf26 : ∃ i, Try.prog.info? 26 = some i ∧ i.zero = some (.int .i64 ((0 : Int))) ∧ i.size = 1 ∧ i.bytes = 8 := info_four (by kernel_rfl)
theorem ok26 : TyOk Try.prog 26 (tInt .i64) 1 := ⟨(inf26).imp fun _ h => ⟨h.1, h.2.2.1⟩, fun _ => rfl, .inr ⟨_, Try.underlying26, rfl, rfl, fun _ => rfl⟩, fun x => rfl, fun x v hv => by obtain rfl := List.mem_singleton.1 hv; exact rfl⟩
theorem inf32 : ∃ i, Try.prog.info? 32 = some i ∧ i.zero = some (.int .i64 ((0 : Int))) ∧ i.size = 1 ∧ i.bytes = 8 := info_four (by kernel_rfl)
theorem ok32 : TyOk Try.prog 32 (tInt .i64) 1 := ⟨(inf32).imp fun _ h => ⟨h.1, h.2.2.1⟩, fun _ => rfl, .inr ⟨_, Try.underlying32, rfl, rfl, fun _ => rfl⟩, fun x => rfl, fun x v hv => by obtain rfl := List.mem_singleton.1 hv; exact rfl⟩
theorem inf33 : ∃ i, Try.prog.info? 33 = some i ∧ i.zero = some (.int .u64 ((0 : Int))) ∧ i.size = 1 ∧ i.bytes = 8 := info_four (by kernel_rfl)
theorem ok33 : TyOk Try.prog 33 (tInt .u64) 1 := ⟨(inf33).imp fun _ h => ⟨h.1, h.2.2.1⟩, fun _ => rfl, .inr ⟨_, Try.underlying33, rfl, rfl, fun _ => rfl⟩, fun x => rfl, fun x v hv => by obtain rfl := List.mem_singleton.1 hv; exact rfl⟩
theorem inf34 : ∃ i, Try.prog.info? 34 = some i ∧ i.zero = some (.float .f64 ((0 : Nat))) ∧ i.size = 1 ∧ i.bytes = 8 := info_four (by kernel_rfl)
theorem ok34 : TyOk Try.prog 34 tFlt 1 := ⟨(inf34).imp fun _ h => ⟨h.1, h.2.2.1⟩, fun _ => rfl, .inr ⟨_, Try.underlying34, rfl, rfl, fun _ => rfl⟩, fun x => rfl, fun x v hv => by obtain rfl := List.mem_singleton.1 hv; exact rfl⟩
theorem inf36 : ∃ i, Try.prog.info? 36 = some i ∧ i.zero = some (T35.enc (Z35)) ∧ i.size = 5 ∧ i.bytes = 48 := info_four (by kernel_rfl)
theorem len36 (x : S35) : (T35.cells x).length = 5 := by rfl
theorem one36 (x : S35) : ∀ v ∈ T35.cells x, v.oneCell' = true := by
  show ∀ v ∈ S35.cells x, v.oneCell' = true
  simp only [S35.cells, List.forall_mem_append, List.forall_mem_cons, List.forall_mem_nil]
  exact ⟨rfl, rfl, rfl, rfl, rfl, fun _ h => absurd h (List.not_mem_nil)⟩
theorem ok36 : TyOk Try.prog 36 T35 5 := ⟨(inf36).imp fun _ h => ⟨h.1, h.2.2.1⟩, len36, .inl ⟨_, Try.underlying36, rfl, fun _ => rfl⟩, fun _ => rfl, one36⟩
theorem inf42 : ∃ i, Try.prog.info? 42 = some i ∧ i.zero = some (.int .u16 ((0 : Int))) ∧ i.size = 1 ∧ i.bytes = 2 := info_four (by kernel_rfl)
theorem ok42 : TyOk Try.prog 42 (tInt .u16) 1 := ⟨(inf42).imp fun _ h => ⟨h.1, h.2.2.1⟩, fun _ => rfl, .inr ⟨_, Try.underlying42, rfl, rfl, fun _ => rfl⟩, fun x => rfl, fun x v hv => by obtain rfl := List.mem_singleton.1 hv; exact rfl⟩
theorem inf48 : ∃ i, Try.prog.info? 48 = some i ∧ i.zero = some (.pointer ((none : Option Addr))) ∧ i.size = 1 ∧ i.bytes = 8 := info_four (by kernel_rfl)
theorem ok48 : TyOk Try.prog 48 tPtr 1 := ⟨(inf48).imp fun _ h => ⟨h.1, h.2.2.1⟩, fun _ => rfl, .inr ⟨_, Try.underlying48, rfl, rfl, fun _ => rfl⟩, fun x => rfl, fun x v hv => by obtain rfl := List.mem_singleton.1 hv; exact rfl⟩
theorem inf50 : ∃ i, Try.prog.info? 50 = some i ∧ i.zero = some (T49.enc (Z49)) ∧ i.size = 2 ∧ i.bytes = 32 := info_four (by kernel_rfl)
theorem len50 (x : S49) : (T49.cells x).length = 2 := by rfl
theorem one50 (x : S49) : ∀ v ∈ T49.cells x, v.oneCell' = true := by
  show ∀ v ∈ S49.cells x, v.oneCell' = true
  simp only [S49.cells, List.forall_mem_append, List.forall_mem_cons, List.forall_mem_nil]
  exact ⟨rfl, rfl, fun _ h => absurd h (List.not_mem_nil)⟩
theorem ok50 : TyOk Try.prog 50 T49 2 := ⟨(inf50).imp fun _ h => ⟨h.1, h.2.2.1⟩, len50, .inl ⟨_, Try.underlying50, rfl, fun _ => rfl⟩, fun _ => rfl, one50⟩
theorem inf52 : ∃ i, Try.prog.info? 52 = some i ∧ i.zero = some (T51.enc (Z51)) ∧ i.size = 1 ∧ i.bytes = 8 := info_four (by kernel_rfl)
theorem len52 (x : S51) : (T51.cells x).length = 1 := by rfl
theorem one52 (x : S51) : ∀ v ∈ T51.cells x, v.oneCell' = true := by
  show ∀ v ∈ S51.cells x, v.oneCell' = true
  simp only [S51.cells, List.forall_mem_append, List.forall_mem_cons, List.forall_mem_nil]
  exact ⟨rfl, fun _ h => absurd h (List.not_mem_nil)⟩
theorem ok52 : TyOk Try.prog 52 T51 1 := ⟨(inf52).imp fun _ h => ⟨h.1, h.2.2.1⟩, len52, .inl ⟨_, Try.underlying52, rfl, fun _ => rfl⟩, fun _ => rfl, one52⟩
theorem inf63 : ∃ i, Try.prog.info? 63 = some i ∧ i.zero = some (.int .i64 ((0 : Int))) ∧ i.size = 1 ∧ i.bytes = 8 := info_four (by kernel_rfl)
theorem ok63 : TyOk Try.prog 63 (tInt .i64) 1 := ⟨(inf63).imp fun _ h => ⟨h.1, h.2.2.1⟩, fun _ => rfl, .inr ⟨_, Try.underlying63, rfl, rfl, fun _ => rfl⟩, fun x => rfl, fun x v hv => by obtain rfl := List.mem_singleton.1 hv; exact rfl⟩
theorem ent3 : Enters Try.prog 3 := ⟨_, Try.func3, rfl, by decide⟩
theorem ent4 : Enters Try.prog 4 := ⟨_, Try.func4, rfl, by decide⟩
theorem ent5 : Enters Try.prog 5 := ⟨_, Try.func5, rfl, by decide⟩
theorem ent6 : Enters Try.prog 6 := ⟨_, Try.func6, rfl, by decide⟩
theorem ent7 : Enters Try.prog 7 := ⟨_, Try.func7, rfl, by decide⟩
theorem ent8 : Enters Try.prog 8 := ⟨_, Try.func8, rfl, by decide⟩
theorem ent9 : Enters Try.prog 9 := ⟨_, Try.func9, rfl, by decide⟩
theorem ent10 : Enters Try.prog 10 := ⟨_, Try.func10, rfl, by decide⟩
theorem ent11 : Enters Try.prog 11 := ⟨_, Try.func11, rfl, by decide⟩
theorem ent12 : Enters Try.prog 12 := ⟨_, Try.func12, rfl, by decide⟩
theorem ent13 : Enters Try.prog 13 := ⟨_, Try.func13, rfl, by decide⟩
theorem ent14 : Enters Try.prog 14 := ⟨_, Try.func14, rfl, by decide⟩
theorem ent15 : Enters Try.prog 15 := ⟨_, Try.func15, rfl, by decide⟩
theorem ent16 : Enters Try.prog 16 := ⟨_, Try.func16, rfl, by decide⟩
theorem ent17 : Enters Try.prog 17 := ⟨_, Try.func17, rfl, by decide⟩
theorem ent18 : Enters Try.prog 18 := ⟨_, Try.func18, rfl, by decide⟩
theorem ent19 : Enters Try.prog 19 := ⟨_, Try.func19, rfl, by decide⟩
theorem ent20 : Enters Try.prog 20 := ⟨_, Try.func20, rfl, by decide⟩
theorem ent21 : Enters Try.prog 21 := ⟨_, Try.func21, rfl, by decide⟩
theorem ent22 : Enters Try.prog 22 := ⟨_, Try.func22, rfl, by decide⟩
theorem ent24 : Enters Try.prog 24 := ⟨_, Try.func24, rfl, by decide⟩
theorem ent25 : Enters Try.prog 25 := ⟨_, Try.func25, rfl, by decide⟩
theorem ent26 : Enters Try.prog 26 := ⟨_, Try.func26, rfl, by decide⟩
theorem ent27 : Enters Try.prog 27 := ⟨_, Try.func27, rfl, by decide⟩
theorem ent28 : Enters Try.prog 28 := ⟨_, Try.func28, rfl, by decide⟩
theorem ent29 : Enters Try.prog 29 := ⟨_, Try.func29, rfl, by decide⟩
theorem ent30 : Enters Try.prog 30 := ⟨_, Try.func30, rfl, by decide⟩
theorem ent31 : Enters Try.prog 31 := ⟨_, Try.func31, rfl, by decide⟩
theorem ent32 : Enters Try.prog 32 := ⟨_, Try.func32, rfl, by decide⟩
theorem ent33 : Enters Try.prog 33 := ⟨_, Try.func33, rfl, by decide⟩
theorem ent34 : Enters Try.prog 34 := ⟨_, Try.func34, rfl, by decide⟩
theorem ent35 : Enters Try.prog 35 := ⟨_, Try.func35, rfl, by decide⟩
theorem ent36 : Enters Try.prog 36 := ⟨_, Try.func36, rfl, by decide⟩
theorem ent37 : Enters Try.prog 37 := ⟨_, Try.func37, rfl, by decide⟩
theorem ent39 : Enters Try.prog 39 := ⟨_, Try.func39, rfl, by decide⟩
theorem ent40 : Enters Try.prog 40 := ⟨_, Try.func40, rfl, by decide⟩
theorem mixed : Try.prog.follows .mixedOrders = true := by kernel_rfl
theorem pl36 (w : World) : (((Try.prog.fieldsOf 36).toList).mapM fun f => (do pure (f.offset, ← sizeOf f.type) : Sem (Nat × Nat))).run Try.prog w = .ok [(0, 1), (1, 1), (2, 1), (3, 1), (4, 1)] w := by
  simp only [Program.fieldsOf, Try.underlying36]
  refine run_places _ _ rfl ?_
  intro j fd p hf hp
  rcases j with _ | j; · obtain rfl := Option.some.inj hf; obtain rfl := Option.some.inj hp; exact ⟨rfl, ok32.size⟩
  rcases j with _ | j; · obtain rfl := Option.some.inj hf; obtain rfl := Option.some.inj hp; exact ⟨rfl, ok33.size⟩
  rcases j with _ | j; · obtain rfl := Option.some.inj hf; obtain rfl := Option.some.inj hp; exact ⟨rfl, ok2.size⟩
  rcases j with _ | j; · obtain rfl := Option.some.inj hf; obtain rfl := Option.some.inj hp; exact ⟨rfl, ok34.size⟩
  rcases j with _ | j; · obtain rfl := Option.some.inj hf; obtain rfl := Option.some.inj hp; exact ⟨rfl, ok9.size⟩
  cases hp
theorem pl50 (w : World) : (((Try.prog.fieldsOf 50).toList).mapM fun f => (do pure (f.offset, ← sizeOf f.type) : Sem (Nat × Nat))).run Try.prog w = .ok [(0, 1), (1, 1)] w := by
  simp only [Program.fieldsOf, Try.underlying50]
  refine run_places _ _ rfl ?_
  intro j fd p hf hp
  rcases j with _ | j; · obtain rfl := Option.some.inj hf; obtain rfl := Option.some.inj hp; exact ⟨rfl, ok25.size⟩
  rcases j with _ | j; · obtain rfl := Option.some.inj hf; obtain rfl := Option.some.inj hp; exact ⟨rfl, ok3.size⟩
  cases hp
theorem pl52 (w : World) : (((Try.prog.fieldsOf 52).toList).mapM fun f => (do pure (f.offset, ← sizeOf f.type) : Sem (Nat × Nat))).run Try.prog w = .ok [(0, 1)] w := by
  simp only [Program.fieldsOf, Try.underlying52]
  refine run_places _ _ rfl ?_
  intro j fd p hf hp
  rcases j with _ | j; · obtain rfl := Option.some.inj hf; obtain rfl := Option.some.inj hp; exact ⟨rfl, ok26.size⟩
  cases hp
theorem q_build36_ {n : Nat} {f : Nat → Value} {w : World} {o : Oper} (ho : o.op = .build 36 #[]) : (execOp (evl n f) o).run Try.prog w = .ok (.value (T35.enc ⟨(0 : Int), (0 : Int), (0 : Int), (0 : Nat), ([] : List UInt8)⟩)) w :=
  q_build (ps := []) (pv := []) (cs := S35.cells ⟨(0 : Int), (0 : Int), (0 : Int), (0 : Nat), ([] : List UInt8)⟩) ho Try.underlying36 inf36 (by have := pl36; simp only [Program.fieldsOf, Try.underlying36] at this; exact this) (by simp only [List.map_cons, List.map_nil]) (by rfl)
theorem q_build36_0 {n : Nat} {f : Nat → Value} {w : World} {o : Oper} {x0 : Operand} {v0 : Int} (ho : o.op = .build 36 #[(0, x0)]) (h0 : evl n f x0 = .int .i64 (v0)) : (execOp (evl n f) o).run Try.prog w = .ok (.value (T35.enc ⟨v0, (0 : Int), (0 : Int), (0 : Nat), ([] : List UInt8)⟩)) w :=
  q_build (ps := [(0, x0)]) (pv := [(0, .int .i64 (v0))]) (cs := S35.cells ⟨v0, (0 : Int), (0 : Int), (0 : Nat), ([] : List UInt8)⟩) ho Try.underlying36 inf36 (by have := pl36; simp only [Program.fieldsOf, Try.underlying36] at this; exact this) (by simp only [List.map_cons, List.map_nil, h0]) (by rfl)
theorem q_build36_0_1 {n : Nat} {f : Nat → Value} {w : World} {o : Oper} {x0 : Operand} {x1 : Operand} {v0 : Int} {v1 : Int} (ho : o.op = .build 36 #[(0, x0), (1, x1)]) (h0 : evl n f x0 = .int .i64 (v0)) (h1 : evl n f x1 = .int .u64 (v1)) : (execOp (evl n f) o).run Try.prog w = .ok (.value (T35.enc ⟨v0, v1, (0 : Int), (0 : Nat), ([] : List UInt8)⟩)) w :=
  q_build (ps := [(0, x0), (1, x1)]) (pv := [(0, .int .i64 (v0)), (1, .int .u64 (v1))]) (cs := S35.cells ⟨v0, v1, (0 : Int), (0 : Nat), ([] : List UInt8)⟩) ho Try.underlying36 inf36 (by have := pl36; simp only [Program.fieldsOf, Try.underlying36] at this; exact this) (by simp only [List.map_cons, List.map_nil, h0, h1]) (by rfl)
theorem q_build36_0_4 {n : Nat} {f : Nat → Value} {w : World} {o : Oper} {x0 : Operand} {x4 : Operand} {v0 : Int} {v4 : (List UInt8)} (ho : o.op = .build 36 #[(0, x0), (4, x4)]) (h0 : evl n f x0 = .int .i64 (v0)) (h4 : evl n f x4 = .string ⟨(v4).toArray⟩) : (execOp (evl n f) o).run Try.prog w = .ok (.value (T35.enc ⟨v0, (0 : Int), (0 : Int), (0 : Nat), v4⟩)) w :=
  q_build (ps := [(0, x0), (4, x4)]) (pv := [(0, .int .i64 (v0)), (4, .string ⟨(v4).toArray⟩)]) (cs := S35.cells ⟨v0, (0 : Int), (0 : Int), (0 : Nat), v4⟩) ho Try.underlying36 inf36 (by have := pl36; simp only [Program.fieldsOf, Try.underlying36] at this; exact this) (by simp only [List.map_cons, List.map_nil, h0, h4]) (by rfl)
theorem q_build50_0 {n : Nat} {f : Nat → Value} {w : World} {o : Oper} {x0 : Operand} {v0 : Slc} (ho : o.op = .build 50 #[(0, x0)]) (h0 : evl n f x0 = tSlc.enc (v0)) : (execOp (evl n f) o).run Try.prog w = .ok (.value (T49.enc ⟨v0, (0 : Int)⟩)) w :=
  q_build (ps := [(0, x0)]) (pv := [(0, tSlc.enc (v0))]) (cs := S49.cells ⟨v0, (0 : Int)⟩) ho Try.underlying50 inf50 (by have := pl50; simp only [Program.fieldsOf, Try.underlying50] at this; exact this) (by simp only [List.map_cons, List.map_nil, h0]) (by rfl)
theorem q_build52_0 {n : Nat} {f : Nat → Value} {w : World} {o : Oper} {x0 : Operand} {v0 : Int} (ho : o.op = .build 52 #[(0, x0)]) (h0 : evl n f x0 = .int .i64 (v0)) : (execOp (evl n f) o).run Try.prog w = .ok (.value (T51.enc ⟨v0⟩)) w :=
  q_build (ps := [(0, x0)]) (pv := [(0, .int .i64 (v0))]) (cs := S51.cells ⟨v0⟩) ho Try.underlying52 inf52 (by have := pl52; simp only [Program.fieldsOf, Try.underlying52] at this; exact this) (by simp only [List.map_cons, List.map_nil, h0]) (by rfl)
theorem ext23 : Ext Try.prog 23 Extern.MathFloatBits.float64bits := ⟨_, Try.func23, rfl, rfl, by kernel_rfl, by kernel_rfl⟩
theorem ext38 : Ext Try.prog 38 Extern.MathFloatBits.float64frombits := ⟨_, Try.func38, rfl, rfl, by kernel_rfl, by kernel_rfl⟩
end Go.Proofs.Ytjhenlajkhckfaa.Cf
