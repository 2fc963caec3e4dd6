/- The types of the program, typed. Printed by gen.py (own tool). -/
import Derived.Test.YtleehieomicicaaCfM
import Derived.Test.YtleehieomicicaaProg
namespace Go.Proofs.Ytleehieomicicaa.Cf
open Go
set_option maxRecDepth 100000
set_option linter.unusedVariables false
set_option linter.unusedSimpArgs false
-- struct { Key int; V int64 }
structure S36 where
  Key : Int
  V : Int
def S36.cells (x : S36) : List Value := [.int .i64 (x.Key), .int .i64 (x.V)]
@[reducible] def T36 : Ty S36 := tAgg S36.cells
@[reducible] def Z36 : S36 := ⟨(0 : Int), (0 : Int)⟩
-- struct { At int64; L []api.Entry }
structure S38 where
  At : Int
  L : Slc
def S38.cells (x : S38) : List Value := [.int .i64 (x.At), tSlc.enc (x.L)]
@[reducible] def T38 : Ty S38 := tAgg S38.cells
@[reducible] def Z38 : S38 := ⟨(0 : Int), (⟨none, 0, 0⟩ : Slc)⟩
theorem inf2 : ∃ i, Try.prog.info? 2 = some i ∧ i.zero = some (.int .i64 ((0 : Int))) ∧ i.size = 1 ∧ i.bytes = 8 := info_four (by kernel_rfl)
theorem ok2 : TyOk Try.prog 2 (tInt .i64) 1 := ⟨(inf2).imp fun _ h => ⟨h.1, h.2.2.1⟩, fun _ => rfl, .inr ⟨_, Try.underlying2, rfl, rfl, fun _ => rfl⟩, fun x => rfl, fun x v hv => by obtain rfl := List.mem_singleton.1 hv; exact rfl⟩
theorem inf3 : ∃ i, Try.prog.info? 3 = some i ∧ i.zero = some (.int .i64 ((0 : Int))) ∧ i.size = 1 ∧ i.bytes = 8 := info_four (by kernel_rfl)
theorem ok3 : TyOk Try.prog 3 (tInt .i64) 1 := ⟨(inf3).imp fun _ h => ⟨h.1, h.2.2.1⟩, fun _ => rfl, .inr ⟨_, Try.underlying3, rfl, rfl, fun _ => rfl⟩, fun x => rfl, fun x v hv => by obtain rfl := List.mem_singleton.1 hv; exact rfl⟩
theorem inf4 : ∃ i, Try.prog.info? 4 = some i ∧ i.zero = some (.bool (false)) ∧ i.size = 1 ∧ i.bytes = 1 := info_four (by kernel_rfl)
theorem ok4 : TyOk Try.prog 4 tBool 1 := ⟨(inf4).imp fun _ h => ⟨h.1, h.2.2.1⟩, fun _ => rfl, .inr ⟨_, Try.underlying4, rfl, rfl, fun _ => rfl⟩, fun x => rfl, fun x v hv => by obtain rfl := List.mem_singleton.1 hv; exact rfl⟩
theorem inf5 : ∃ i, Try.prog.info? 5 = some i ∧ i.zero = some (.int .u8 ((0 : Int))) ∧ i.size = 1 ∧ i.bytes = 1 := info_four (by kernel_rfl)
theorem ok5 : TyOk Try.prog 5 (tInt .u8) 1 := ⟨(inf5).imp fun _ h => ⟨h.1, h.2.2.1⟩, fun _ => rfl, .inr ⟨_, Try.underlying5, rfl, rfl, fun _ => rfl⟩, fun x => rfl, fun x v hv => by obtain rfl := List.mem_singleton.1 hv; exact rfl⟩
theorem inf22 : ∃ i, Try.prog.info? 22 = some i ∧ i.zero = some (tSlc.enc ((⟨none, 0, 0⟩ : Slc))) ∧ i.size = 1 ∧ i.bytes = 24 := info_four (by kernel_rfl)
theorem ok22 : TyOk Try.prog 22 tSlc 1 := ⟨(inf22).imp fun _ h => ⟨h.1, h.2.2.1⟩, fun _ => rfl, .inr ⟨_, Try.underlying22, rfl, rfl, fun _ => rfl⟩, fun x => rfl, fun x v hv => by obtain rfl := List.mem_singleton.1 hv; exact rfl⟩
theorem inf26 : ∃ i, Try.prog.info? 26 = some i ∧ i.zero = some (.int .i64 ((0 : Int))) ∧ i.size = 1 ∧ i.bytes = 8 := info_four (by kernel_rfl)
theorem ok26 : TyOk Try.prog 26 (tInt .i64) 1 := ⟨(inf26).imp fun _ h => ⟨h.1, h.2.2.1⟩, fun _ => rfl, .inr ⟨_, Try.underlying26, rfl, rfl, fun _ => rfl⟩, fun x => rfl, fun x v hv => by obtain rfl := List.mem_singleton.1 hv; exact rfl⟩
theorem inf31 : ∃ i, Try.prog.info? 31 = some i ∧ i.zero = some (tSlc.enc ((⟨none, 0, 0⟩ : Slc))) ∧ i.size = 1 ∧ i.bytes = 24 := info_four (by kernel_rfl)
theorem ok31 : TyOk Try.prog 31 tSlc 1 := ⟨(inf31).imp fun _ h => ⟨h.1, h.2.2.1⟩, fun _ => rfl, .inr ⟨_, Try.underlying31, rfl, rfl, fun _ => rfl⟩, fun x => rfl, fun x v hv => by obtain rfl := List.mem_singleton.1 hv; exact rfl⟩
theorem inf37 : ∃ i, Try.prog.info? 37 = some i ∧ i.zero = some (T36.enc (Z36)) ∧ i.size = 2 ∧ i.bytes = 16 := info_four (by kernel_rfl)
theorem len37 (x : S36) : (T36.cells x).length = 2 := by rfl
theorem one37 (x : S36) : ∀ v ∈ T36.cells x, v.oneCell' = true := by
  show ∀ v ∈ S36.cells x, v.oneCell' = true
  simp only [S36.cells, List.forall_mem_append, List.forall_mem_cons, List.forall_mem_nil]
  exact ⟨rfl, rfl, fun _ h => absurd h (List.not_mem_nil)⟩
theorem ok37 : TyOk Try.prog 37 T36 2 := ⟨(inf37).imp fun _ h => ⟨h.1, h.2.2.1⟩, len37, .inl ⟨_, Try.underlying37, rfl, fun _ => rfl⟩, fun _ => rfl, one37⟩
theorem inf39 : ∃ i, Try.prog.info? 39 = some i ∧ i.zero = some (T38.enc (Z38)) ∧ i.size = 2 ∧ i.bytes = 32 := info_four (by kernel_rfl)
theorem len39 (x : S38) : (T38.cells x).length = 2 := by rfl
theorem one39 (x : S38) : ∀ v ∈ T38.cells x, v.oneCell' = true := by
  show ∀ v ∈ S38.cells x, v.oneCell' = true
  simp only [S38.cells, List.forall_mem_append, List.forall_mem_cons, List.forall_mem_nil]
  exact ⟨rfl, rfl, fun _ h => absurd h (List.not_mem_nil)⟩
theorem ok39 : TyOk Try.prog 39 T38 2 := ⟨(inf39).imp fun _ h => ⟨h.1, h.2.2.1⟩, len39, .inl ⟨_, Try.underlying39, rfl, fun _ => rfl⟩, fun _ => rfl, one39⟩
theorem inf43 : ∃ i, Try.prog.info? 43 = some i ∧ i.zero = some (.map ((none : Option Nat))) ∧ i.size = 1 ∧ i.bytes = 8 := info_four (by kernel_rfl)
theorem ok43 : TyOk Try.prog 43 tMap 1 := ⟨(inf43).imp fun _ h => ⟨h.1, h.2.2.1⟩, fun _ => rfl, .inr ⟨_, Try.underlying43, rfl, rfl, fun _ => rfl⟩, fun x => rfl, fun x v hv => by obtain rfl := List.mem_singleton.1 hv; exact rfl⟩
theorem inf52 : ∃ i, Try.prog.info? 52 = some i ∧ i.zero = some ((tArr tSlc 2).enc ((Vector.replicate 2 (⟨none, 0, 0⟩ : Slc)))) ∧ i.size = 2 ∧ i.bytes = 48 := info_four (by kernel_rfl)
theorem ok52 : TyOk Try.prog 52 (tArr tSlc 2) 2 := ⟨(inf52).imp fun _ h => ⟨h.1, h.2.2.1⟩, fun x => by simp [flatMap_const_len ok31.len], .inl ⟨_, Try.underlying52, rfl, fun _ => rfl⟩, fun _ => rfl, fun x v hv => by obtain ⟨y, _, hy⟩ := List.mem_flatMap.1 hv; exact ok31.one y v hy⟩
theorem inf55 : ∃ i, Try.prog.info? 55 = some i ∧ i.zero = some ((Fv.nil).enc) ∧ i.size = 1 ∧ i.bytes = 8 := info_four (by kernel_rfl)
theorem ok55 : TyOk Try.prog 55 tFun 1 := ⟨(inf55).imp fun _ h => ⟨h.1, h.2.2.1⟩, fun _ => rfl, .inr ⟨_, Try.underlying55, rfl, rfl, fun _ => rfl⟩, fun x => Fv.flat _, fun x v hv => by obtain rfl := List.mem_singleton.1 hv; exact Fv.one _⟩
theorem inf59 : ∃ i, Try.prog.info? 59 = some i ∧ i.zero = some ((Fv.nil).enc) ∧ i.size = 1 ∧ i.bytes = 8 := info_four (by kernel_rfl)
theorem ok59 : TyOk Try.prog 59 tFun 1 := ⟨(inf59).imp fun _ h => ⟨h.1, h.2.2.1⟩, fun _ => rfl, .inr ⟨_, Try.underlying59, rfl, rfl, fun _ => rfl⟩, fun x => Fv.flat _, fun x v hv => by obtain rfl := List.mem_singleton.1 hv; exact Fv.one _⟩
theorem inf63 : ∃ i, Try.prog.info? 63 = some i ∧ i.zero = some ((Fv.nil).enc) ∧ i.size = 1 ∧ i.bytes = 8 := info_four (by kernel_rfl)
theorem ok63 : TyOk Try.prog 63 tFun 1 := ⟨(inf63).imp fun _ h => ⟨h.1, h.2.2.1⟩, fun _ => rfl, .inr ⟨_, Try.underlying63, rfl, rfl, fun _ => rfl⟩, fun x => Fv.flat _, fun x v hv => by obtain rfl := List.mem_singleton.1 hv; exact Fv.one _⟩
theorem inf66 : ∃ i, Try.prog.info? 66 = some i ∧ i.zero = some ((Fv.nil).enc) ∧ i.size = 1 ∧ i.bytes = 8 := info_four (by kernel_rfl)
theorem ok66 : TyOk Try.prog 66 tFun 1 := ⟨(inf66).imp fun _ h => ⟨h.1, h.2.2.1⟩, fun _ => rfl, .inr ⟨_, Try.underlying66, rfl, rfl, fun _ => rfl⟩, fun x => Fv.flat _, fun x v hv => by obtain rfl := List.mem_singleton.1 hv; exact Fv.one _⟩
theorem ent3 : Enters Try.prog 3 := ⟨_, Try.func3, rfl, by decide⟩
theorem ent4 : Enters Try.prog 4 := ⟨_, Try.func4, rfl, by decide⟩
theorem ent5 : Enters Try.prog 5 := ⟨_, Try.func5, rfl, by decide⟩
theorem ent6 : Enters Try.prog 6 := ⟨_, Try.func6, rfl, by decide⟩
theorem ent7 : Enters Try.prog 7 := ⟨_, Try.func7, rfl, by decide⟩
theorem ent8 : Enters Try.prog 8 := ⟨_, Try.func8, rfl, by decide⟩
theorem ent9 : Enters Try.prog 9 := ⟨_, Try.func9, rfl, by decide⟩
theorem ent10 : Enters Try.prog 10 := ⟨_, Try.func10, rfl, by decide⟩
theorem ent11 : Enters Try.prog 11 := ⟨_, Try.func11, rfl, by decide⟩
theorem ent12 : Enters Try.prog 12 := ⟨_, Try.func12, rfl, by decide⟩
theorem ent13 : Enters Try.prog 13 := ⟨_, Try.func13, rfl, by decide⟩
theorem ent14 : Enters Try.prog 14 := ⟨_, Try.func14, rfl, by decide⟩
theorem ent15 : Enters Try.prog 15 := ⟨_, Try.func15, rfl, by decide⟩
theorem ent16 : Enters Try.prog 16 := ⟨_, Try.func16, rfl, by decide⟩
theorem ent17 : Enters Try.prog 17 := ⟨_, Try.func17, rfl, by decide⟩
theorem ent18 : Enters Try.prog 18 := ⟨_, Try.func18, rfl, by decide⟩
theorem ent19 : Enters Try.prog 19 := ⟨_, Try.func19, rfl, by decide⟩
theorem ent20 : Enters Try.prog 20 := ⟨_, Try.func20, rfl, by decide⟩
theorem ent21 : Enters Try.prog 21 := ⟨_, Try.func21, rfl, by decide⟩
theorem ent22 : Enters Try.prog 22 := ⟨_, Try.func22, rfl, by decide⟩
theorem ent23 : Enters Try.prog 23 := ⟨_, Try.func23, rfl, by decide⟩
theorem ent24 : Enters Try.prog 24 := ⟨_, Try.func24, rfl, by decide⟩
theorem ent25 : Enters Try.prog 25 := ⟨_, Try.func25, rfl, by decide⟩
theorem ent26 : Enters Try.prog 26 := ⟨_, Try.func26, rfl, by decide⟩
theorem ent27 : Enters Try.prog 27 := ⟨_, Try.func27, rfl, by decide⟩
theorem ent28 : Enters Try.prog 28 := ⟨_, Try.func28, rfl, by decide⟩
theorem ent29 : Enters Try.prog 29 := ⟨_, Try.func29, rfl, by decide⟩
theorem ent30 : Enters Try.prog 30 := ⟨_, Try.func30, rfl, by decide⟩
theorem ent31 : Enters Try.prog 31 := ⟨_, Try.func31, rfl, by decide⟩
theorem ent32 : Enters Try.prog 32 := ⟨_, Try.func32, rfl, by decide⟩
theorem ent33 : Enters Try.prog 33 := ⟨_, Try.func33, rfl, by decide⟩
theorem ent34 : Enters Try.prog 34 := ⟨_, Try.func34, rfl, by decide⟩
theorem ent35 : Enters Try.prog 35 := ⟨_, Try.func35, rfl, by decide⟩
theorem ent36 : Enters Try.prog 36 := ⟨_, Try.func36, rfl, by decide⟩
theorem ent37 : Enters Try.prog 37 := ⟨_, Try.func37, rfl, by decide⟩
theorem ent38 : Enters Try.prog 38 := ⟨_, Try.func38, rfl, by decide⟩
theorem ent42 : Enters Try.prog 42 := ⟨_, Try.func42, rfl, by decide⟩
theorem mixed : Try.prog.follows .mixedOrders = true := by kernel_rfl
theorem pl37 (w : World) : (((Try.prog.fieldsOf 37).toList).mapM fun f => (do pure (f.offset, ← sizeOf f.type) : Sem (Nat × Nat))).run Try.prog w = .ok [(0, 1), (1, 1)] w := by
  simp only [Program.fieldsOf, Try.underlying37]
  refine run_places _ _ rfl ?_
  intro j fd p hf hp
  rcases j with _ | j; · obtain rfl := Option.some.inj hf; obtain rfl := Option.some.inj hp; exact ⟨rfl, ok3.size⟩
  rcases j with _ | j; · obtain rfl := Option.some.inj hf; obtain rfl := Option.some.inj hp; exact ⟨rfl, ok2.size⟩
  cases hp
theorem pl39 (w : World) : (((Try.prog.fieldsOf 39).toList).mapM fun f => (do pure (f.offset, ← sizeOf f.type) : Sem (Nat × Nat))).run Try.prog w = .ok [(0, 1), (1, 1)] w := by
  simp only [Program.fieldsOf, Try.underlying39]
  refine run_places _ _ rfl ?_
  intro j fd p hf hp
  rcases j with _ | j; · obtain rfl := Option.some.inj hf; obtain rfl := Option.some.inj hp; exact ⟨rfl, ok2.size⟩
  rcases j with _ | j; · obtain rfl := Option.some.inj hf; obtain rfl := Option.some.inj hp; exact ⟨rfl, ok31.size⟩
  cases hp
theorem q_build37_ {n : Nat} {f : Nat → Value} {w : World} {o : Oper} (ho : o.op = .build 37 #[]) : (execOp (evl n f) o).run Try.prog w = .ok (.value (T36.enc ⟨(0 : Int), (0 : Int)⟩)) w :=
  q_build (ps := []) (pv := []) (cs := S36.cells ⟨(0 : Int), (0 : Int)⟩) ho Try.underlying37 inf37 (by have := pl37; simp only [Program.fieldsOf, Try.underlying37] at this; exact this) (by simp only [List.map_cons, List.map_nil]) (by rfl)
theorem q_build37_0_1 {n : Nat} {f : Nat → Value} {w : World} {o : Oper} {x0 : Operand} {x1 : Operand} {v0 : Int} {v1 : Int} (ho : o.op = .build 37 #[(0, x0), (1, x1)]) (h0 : evl n f x0 = .int .i64 (v0)) (h1 : evl n f x1 = .int .i64 (v1)) : (execOp (evl n f) o).run Try.prog w = .ok (.value (T36.enc ⟨v0, v1⟩)) w :=
  q_build (ps := [(0, x0), (1, x1)]) (pv := [(0, .int .i64 (v0)), (1, .int .i64 (v1))]) (cs := S36.cells ⟨v0, v1⟩) ho Try.underlying37 inf37 (by have := pl37; simp only [Program.fieldsOf, Try.underlying37] at this; exact this) (by simp only [List.map_cons, List.map_nil, h0, h1]) (by rfl)
theorem q_build39_0_1 {n : Nat} {f : Nat → Value} {w : World} {o : Oper} {x0 : Operand} {x1 : Operand} {v0 : Int} {v1 : Slc} (ho : o.op = .build 39 #[(0, x0), (1, x1)]) (h0 : evl n f x0 = .int .i64 (v0)) (h1 : evl n f x1 = tSlc.enc (v1)) : (execOp (evl n f) o).run Try.prog w = .ok (.value (T38.enc ⟨v0, v1⟩)) w :=
  q_build (ps := [(0, x0), (1, x1)]) (pv := [(0, .int .i64 (v0)), (1, tSlc.enc (v1))]) (cs := S38.cells ⟨v0, v1⟩) ho Try.underlying39 inf39 (by have := pl39; simp only [Program.fieldsOf, Try.underlying39] at this; exact this) (by simp only [List.map_cons, List.map_nil, h0, h1]) (by rfl)
theorem q_build52_0_1 {n : Nat} {f : Nat → Value} {w : World} {o : Oper} {x0 : Operand} {x1 : Operand} {v0 : Slc} {v1 : Slc} (ho : o.op = .build 52 #[(0, x0), (1, x1)]) (h0 : evl n f x0 = tSlc.enc (v0)) (h1 : evl n f x1 = tSlc.enc (v1)) : (execOp (evl n f) o).run Try.prog w = .ok (.value ((tArr tSlc 2).enc (⟨#[v0, v1], rfl⟩ : (Vector Slc 2)))) w :=
  q_buildA (ps := [(0, x0), (1, x1)]) (pv := [(0, tSlc.enc (v0)), (1, tSlc.enc (v1))]) (cs := (tArr tSlc 2).cells (⟨#[v0, v1], rfl⟩ : (Vector Slc 2))) ho Try.underlying52 inf52 ok31.size (by simp only [List.map_cons, List.map_nil, h0, h1]) (by rfl)
end Go.Proofs.Ytleehieomicicaa.Cf
