/- The types of the program, typed. Printed by gen.py (own tool). -/
import Derived.Test.YtojcgejjdfcaaaaCfN
import Derived.Test.YtojcgejjdfcaaaaProg
namespace Go.Proofs.Ytojcgejjdfcaaaa.Cf
open Go
set_option maxRecDepth 100000
set_option linter.unusedVariables false
set_option linter.unusedSimpArgs false
-- struct { Holds []moietyref13.Row; Waits []moietyref13.Row; Dead []int }
structure S27 where
  Holds : Slc
  Waits : Slc
  Dead : Slc
def S27.cells (x : S27) : List Value := [tSlc.enc (x.Holds), tSlc.enc (x.Waits), tSlc.enc (x.Dead)]
@[reducible] def T27 : Ty S27 := tAgg S27.cells
@[reducible] def Z27 : S27 := ⟨(⟨none, 0, 0⟩ : Slc), (⟨none, 0, 0⟩ : Slc), (⟨none, 0, 0⟩ : Slc)⟩
-- struct { Kind int; Tx int; Key int; Write bool }
structure S30 where
  Kind : Int
  Tx : Int
  Key : Int
  Write : Bool
def S30.cells (x : S30) : List Value := [.int .i64 (x.Kind), .int .i64 (x.Tx), .int .i64 (x.Key), .bool (x.Write)]
@[reducible] def T30 : Ty S30 := tAgg S30.cells
@[reducible] def Z30 : S30 := ⟨(0 : Int), (0 : Int), (0 : Int), false⟩
-- struct { Granted bool; Wounded []int; Woken []api.Grant }
structure S33 where
  Granted : Bool
  Wounded : Slc
  Woken : Slc
def S33.cells (x : S33) : List Value := [.bool (x.Granted), tSlc.enc (x.Wounded), tSlc.enc (x.Woken)]
@[reducible] def T33 : Ty S33 := tAgg S33.cells
@[reducible] def Z33 : S33 := ⟨false, (⟨none, 0, 0⟩ : Slc), (⟨none, 0, 0⟩ : Slc)⟩
-- struct { Tx int; Write bool }
structure S53 where
  Tx : Int
  Write : Bool
def S53.cells (x : S53) : List Value := [.int .i64 (x.Tx), .bool (x.Write)]
@[reducible] def T53 : Ty S53 := tAgg S53.cells
@[reducible] def Z53 : S53 := ⟨(0 : Int), false⟩
-- struct { Tx int; Key int }
structure S55 where
  Tx : Int
  Key : Int
def S55.cells (x : S55) : List Value := [.int .i64 (x.Tx), .int .i64 (x.Key)]
@[reducible] def T55 : Ty S55 := tAgg S55.cells
@[reducible] def Z55 : S55 := ⟨(0 : Int), (0 : Int)⟩
-- struct { locks map[int]*locks.lock; waits map[int]int; dead map[int]struct {} }
structure S61 where
  locks : (Option Nat)
  waits : (Option Nat)
  dead : (Option Nat)
def S61.cells (x : S61) : List Value := [.map (x.locks), .map (x.waits), .map (x.dead)]
@[reducible] def T61 : Ty S61 := tAgg S61.cells
@[reducible] def Z61 : S61 := ⟨(none : Option Nat), (none : Option Nat), (none : Option Nat)⟩
-- struct { holds map[int]bool; waits map[int]bool }
structure S67 where
  holds : (Option Nat)
  waits : (Option Nat)
def S67.cells (x : S67) : List Value := [.map (x.holds), .map (x.waits)]
@[reducible] def T67 : Ty S67 := tAgg S67.cells
@[reducible] def Z67 : S67 := ⟨(none : Option Nat), (none : Option Nat)⟩
-- struct {}
structure S77 where
def S77.cells (x : S77) : List Value := []
@[reducible] def T77 : Ty S77 := tAgg S77.cells
@[reducible] def Z77 : S77 := ⟨⟩
-- struct { Tx int; Key int; Write bool }
structure S79 where
  Tx : Int
  Key : Int
  Write : Bool
def S79.cells (x : S79) : List Value := [.int .i64 (x.Tx), .int .i64 (x.Key), .bool (x.Write)]
@[reducible] def T79 : Ty S79 := tAgg S79.cells
@[reducible] def Z79 : S79 := ⟨(0 : Int), (0 : Int), false⟩
theorem inf3 : ∃ i, Try.prog.info? 3 = some i ∧ i.zero = some (.int .i64 ((0 : Int))) ∧ i.size = 1 ∧ i.bytes = 8 := info_four (by kernel_rfl)
theorem ok3 : TyOk Try.prog 3 (tInt .i64) 1 := ⟨(inf3).imp fun _ h => ⟨h.1, h.2.2.1⟩, fun _ => rfl, .inr ⟨_, Try.underlying3, rfl, rfl, fun _ => rfl⟩, fun x => rfl, fun x v hv => by obtain rfl := List.mem_singleton.1 hv; exact rfl⟩
theorem inf4 : ∃ i, Try.prog.info? 4 = some i ∧ i.zero = some (.bool (false)) ∧ i.size = 1 ∧ i.bytes = 1 := info_four (by kernel_rfl)
theorem ok4 : TyOk Try.prog 4 tBool 1 := ⟨(inf4).imp fun _ h => ⟨h.1, h.2.2.1⟩, fun _ => rfl, .inr ⟨_, Try.underlying4, rfl, rfl, fun _ => rfl⟩, fun x => rfl, fun x v hv => by obtain rfl := List.mem_singleton.1 hv; exact rfl⟩
theorem inf22 : ∃ i, Try.prog.info? 22 = some i ∧ i.zero = some (tSlc.enc ((⟨none, 0, 0⟩ : Slc))) ∧ i.size = 1 ∧ i.bytes = 24 := info_four (by kernel_rfl)
theorem ok22 : TyOk Try.prog 22 tSlc 1 := ⟨(inf22).imp fun _ h => ⟨h.1, h.2.2.1⟩, fun _ => rfl, .inr ⟨_, Try.underlying22, rfl, rfl, fun _ => rfl⟩, fun x => rfl, fun x v hv => by obtain rfl := List.mem_singleton.1 hv; exact rfl⟩
theorem inf23 : ∃ i, Try.prog.info? 23 = some i ∧ i.zero = some (.pointer ((none : Option Addr))) ∧ i.size = 1 ∧ i.bytes = 8 := info_four (by kernel_rfl)
theorem ok23 : TyOk Try.prog 23 tPtr 1 := ⟨(inf23).imp fun _ h => ⟨h.1, h.2.2.1⟩, fun _ => rfl, .inr ⟨_, Try.underlying23, rfl, rfl, fun _ => rfl⟩, fun x => rfl, fun x v hv => by obtain rfl := List.mem_singleton.1 hv; exact rfl⟩
theorem inf25 : ∃ i, Try.prog.info? 25 = some i ∧ i.zero = some (tSlc.enc ((⟨none, 0, 0⟩ : Slc))) ∧ i.size = 1 ∧ i.bytes = 24 := info_four (by kernel_rfl)
theorem ok25 : TyOk Try.prog 25 tSlc 1 := ⟨(inf25).imp fun _ h => ⟨h.1, h.2.2.1⟩, fun _ => rfl, .inr ⟨_, Try.underlying25, rfl, rfl, fun _ => rfl⟩, fun x => rfl, fun x v hv => by obtain rfl := List.mem_singleton.1 hv; exact rfl⟩
theorem inf26 : ∃ i, Try.prog.info? 26 = some i ∧ i.zero = some (tSlc.enc ((⟨none, 0, 0⟩ : Slc))) ∧ i.size = 1 ∧ i.bytes = 24 := info_four (by kernel_rfl)
theorem ok26 : TyOk Try.prog 26 tSlc 1 := ⟨(inf26).imp fun _ h => ⟨h.1, h.2.2.1⟩, fun _ => rfl, .inr ⟨_, Try.underlying26, rfl, rfl, fun _ => rfl⟩, fun x => rfl, fun x v hv => by obtain rfl := List.mem_singleton.1 hv; exact rfl⟩
theorem inf28 : ∃ i, Try.prog.info? 28 = some i ∧ i.zero = some (T27.enc (Z27)) ∧ i.size = 3 ∧ i.bytes = 72 := info_four (by kernel_rfl)
theorem len28 (x : S27) : (T27.cells x).length = 3 := by rfl
theorem one28 (x : S27) : ∀ v ∈ T27.cells x, v.oneCell' = true := by
  show ∀ v ∈ S27.cells x, v.oneCell' = true
  simp only [S27.cells, List.forall_mem_append, List.forall_mem_cons, List.forall_mem_nil]
  exact ⟨rfl, rfl, rfl, fun _ h => absurd h (List.not_mem_nil)⟩
theorem ok28 : TyOk Try.prog 28 T27 3 := ⟨(inf28).imp fun _ h => ⟨h.1, h.2.2.1⟩, len28, .inl ⟨_, Try.underlying28, rfl, fun _ => rfl⟩, fun _ => rfl, one28⟩
theorem inf31 : ∃ i, Try.prog.info? 31 = some i ∧ i.zero = some (T30.enc (Z30)) ∧ i.size = 4 ∧ i.bytes = 32 := info_four (by kernel_rfl)
theorem len31 (x : S30) : (T30.cells x).length = 4 := by rfl
theorem one31 (x : S30) : ∀ v ∈ T30.cells x, v.oneCell' = true := by
  show ∀ v ∈ S30.cells x, v.oneCell' = true
  simp only [S30.cells, List.forall_mem_append, List.forall_mem_cons, List.forall_mem_nil]
  exact ⟨rfl, rfl, rfl, rfl, fun _ h => absurd h (List.not_mem_nil)⟩
theorem ok31 : TyOk Try.prog 31 T30 4 := ⟨(inf31).imp fun _ h => ⟨h.1, h.2.2.1⟩, len31, .inl ⟨_, Try.underlying31, rfl, fun _ => rfl⟩, fun _ => rfl, one31⟩
theorem inf32 : ∃ i, Try.prog.info? 32 = some i ∧ i.zero = some (tSlc.enc ((⟨none, 0, 0⟩ : Slc))) ∧ i.size = 1 ∧ i.bytes = 24 := info_four (by kernel_rfl)
theorem ok32 : TyOk Try.prog 32 tSlc 1 := ⟨(inf32).imp fun _ h => ⟨h.1, h.2.2.1⟩, fun _ => rfl, .inr ⟨_, Try.underlying32, rfl, rfl, fun _ => rfl⟩, fun x => rfl, fun x v hv => by obtain rfl := List.mem_singleton.1 hv; exact rfl⟩
theorem inf34 : ∃ i, Try.prog.info? 34 = some i ∧ i.zero = some (T33.enc (Z33)) ∧ i.size = 3 ∧ i.bytes = 56 := info_four (by kernel_rfl)
theorem len34 (x : S33) : (T33.cells x).length = 3 := by rfl
theorem one34 (x : S33) : ∀ v ∈ T33.cells x, v.oneCell' = true := by
  show ∀ v ∈ S33.cells x, v.oneCell' = true
  simp only [S33.cells, List.forall_mem_append, List.forall_mem_cons, List.forall_mem_nil]
  exact ⟨rfl, rfl, rfl, fun _ h => absurd h (List.not_mem_nil)⟩
theorem ok34 : TyOk Try.prog 34 T33 3 := ⟨(inf34).imp fun _ h => ⟨h.1, h.2.2.1⟩, len34, .inl ⟨_, Try.underlying34, rfl, fun _ => rfl⟩, fun _ => rfl, one34⟩
theorem inf35 : ∃ i, Try.prog.info? 35 = some i ∧ i.zero = some (.int .i64 ((0 : Int))) ∧ i.size = 1 ∧ i.bytes = 8 := info_four (by kernel_rfl)
theorem ok35 : TyOk Try.prog 35 (tInt .i64) 1 := ⟨(inf35).imp fun _ h => ⟨h.1, h.2.2.1⟩, fun _ => rfl, .inr ⟨_, Try.underlying35, rfl, rfl, fun _ => rfl⟩, fun x => rfl, fun x v hv => by obtain rfl := List.mem_singleton.1 hv; exact rfl⟩
theorem inf51 : ∃ i, Try.prog.info? 51 = some i ∧ i.zero = some (tSlc.enc ((⟨none, 0, 0⟩ : Slc))) ∧ i.size = 1 ∧ i.bytes = 24 := info_four (by kernel_rfl)
theorem ok51 : TyOk Try.prog 51 tSlc 1 := ⟨(inf51).imp fun _ h => ⟨h.1, h.2.2.1⟩, fun _ => rfl, .inr ⟨_, Try.underlying51, rfl, rfl, fun _ => rfl⟩, fun x => rfl, fun x v hv => by obtain rfl := List.mem_singleton.1 hv; exact rfl⟩
theorem inf54 : ∃ i, Try.prog.info? 54 = some i ∧ i.zero = some (T53.enc (Z53)) ∧ i.size = 2 ∧ i.bytes = 16 := info_four (by kernel_rfl)
theorem len54 (x : S53) : (T53.cells x).length = 2 := by rfl
theorem one54 (x : S53) : ∀ v ∈ T53.cells x, v.oneCell' = true := by
  show ∀ v ∈ S53.cells x, v.oneCell' = true
  simp only [S53.cells, List.forall_mem_append, List.forall_mem_cons, List.forall_mem_nil]
  exact ⟨rfl, rfl, fun _ h => absurd h (List.not_mem_nil)⟩
theorem ok54 : TyOk Try.prog 54 T53 2 := ⟨(inf54).imp fun _ h => ⟨h.1, h.2.2.1⟩, len54, .inl ⟨_, Try.underlying54, rfl, fun _ => rfl⟩, fun _ => rfl, one54⟩
theorem inf56 : ∃ i, Try.prog.info? 56 = some i ∧ i.zero = some (T55.enc (Z55)) ∧ i.size = 2 ∧ i.bytes = 16 := info_four (by kernel_rfl)
theorem len56 (x : S55) : (T55.cells x).length = 2 := by rfl
theorem one56 (x : S55) : ∀ v ∈ T55.cells x, v.oneCell' = true := by
  show ∀ v ∈ S55.cells x, v.oneCell' = true
  simp only [S55.cells, List.forall_mem_append, List.forall_mem_cons, List.forall_mem_nil]
  exact ⟨rfl, rfl, fun _ h => absurd h (List.not_mem_nil)⟩
theorem ok56 : TyOk Try.prog 56 T55 2 := ⟨(inf56).imp fun _ h => ⟨h.1, h.2.2.1⟩, len56, .inl ⟨_, Try.underlying56, rfl, fun _ => rfl⟩, fun _ => rfl, one56⟩
theorem inf58 : ∃ i, Try.prog.info? 58 = some i ∧ i.zero = some (.map ((none : Option Nat))) ∧ i.size = 1 ∧ i.bytes = 8 := info_four (by kernel_rfl)
theorem ok58 : TyOk Try.prog 58 tMap 1 := ⟨(inf58).imp fun _ h => ⟨h.1, h.2.2.1⟩, fun _ => rfl, .inr ⟨_, Try.underlying58, rfl, rfl, fun _ => rfl⟩, fun x => rfl, fun x v hv => by obtain rfl := List.mem_singleton.1 hv; exact rfl⟩
theorem inf59 : ∃ i, Try.prog.info? 59 = some i ∧ i.zero = some (.map ((none : Option Nat))) ∧ i.size = 1 ∧ i.bytes = 8 := info_four (by kernel_rfl)
theorem ok59 : TyOk Try.prog 59 tMap 1 := ⟨(inf59).imp fun _ h => ⟨h.1, h.2.2.1⟩, fun _ => rfl, .inr ⟨_, Try.underlying59, rfl, rfl, fun _ => rfl⟩, fun x => rfl, fun x v hv => by obtain rfl := List.mem_singleton.1 hv; exact rfl⟩
theorem inf60 : ∃ i, Try.prog.info? 60 = some i ∧ i.zero = some (.map ((none : Option Nat))) ∧ i.size = 1 ∧ i.bytes = 8 := info_four (by kernel_rfl)
theorem ok60 : TyOk Try.prog 60 tMap 1 := ⟨(inf60).imp fun _ h => ⟨h.1, h.2.2.1⟩, fun _ => rfl, .inr ⟨_, Try.underlying60, rfl, rfl, fun _ => rfl⟩, fun x => rfl, fun x v hv => by obtain rfl := List.mem_singleton.1 hv; exact rfl⟩
theorem inf62 : ∃ i, Try.prog.info? 62 = some i ∧ i.zero = some (T61.enc (Z61)) ∧ i.size = 3 ∧ i.bytes = 24 := info_four (by kernel_rfl)
theorem len62 (x : S61) : (T61.cells x).length = 3 := by rfl
theorem one62 (x : S61) : ∀ v ∈ T61.cells x, v.oneCell' = true := by
  show ∀ v ∈ S61.cells x, v.oneCell' = true
  simp only [S61.cells, List.forall_mem_append, List.forall_mem_cons, List.forall_mem_nil]
  exact ⟨rfl, rfl, rfl, fun _ h => absurd h (List.not_mem_nil)⟩
theorem ok62 : TyOk Try.prog 62 T61 3 := ⟨(inf62).imp fun _ h => ⟨h.1, h.2.2.1⟩, len62, .inl ⟨_, Try.underlying62, rfl, fun _ => rfl⟩, fun _ => rfl, one62⟩
theorem inf64 : ∃ i, Try.prog.info? 64 = some i ∧ i.zero = some (.pointer ((none : Option Addr))) ∧ i.size = 1 ∧ i.bytes = 8 := info_four (by kernel_rfl)
theorem ok64 : TyOk Try.prog 64 tPtr 1 := ⟨(inf64).imp fun _ h => ⟨h.1, h.2.2.1⟩, fun _ => rfl, .inr ⟨_, Try.underlying64, rfl, rfl, fun _ => rfl⟩, fun x => rfl, fun x v hv => by obtain rfl := List.mem_singleton.1 hv; exact rfl⟩
theorem inf66 : ∃ i, Try.prog.info? 66 = some i ∧ i.zero = some (.map ((none : Option Nat))) ∧ i.size = 1 ∧ i.bytes = 8 := info_four (by kernel_rfl)
theorem ok66 : TyOk Try.prog 66 tMap 1 := ⟨(inf66).imp fun _ h => ⟨h.1, h.2.2.1⟩, fun _ => rfl, .inr ⟨_, Try.underlying66, rfl, rfl, fun _ => rfl⟩, fun x => rfl, fun x v hv => by obtain rfl := List.mem_singleton.1 hv; exact rfl⟩
theorem inf68 : ∃ i, Try.prog.info? 68 = some i ∧ i.zero = some (T67.enc (Z67)) ∧ i.size = 2 ∧ i.bytes = 16 := info_four (by kernel_rfl)
theorem len68 (x : S67) : (T67.cells x).length = 2 := by rfl
theorem one68 (x : S67) : ∀ v ∈ T67.cells x, v.oneCell' = true := by
  show ∀ v ∈ S67.cells x, v.oneCell' = true
  simp only [S67.cells, List.forall_mem_append, List.forall_mem_cons, List.forall_mem_nil]
  exact ⟨rfl, rfl, fun _ h => absurd h (List.not_mem_nil)⟩
theorem ok68 : TyOk Try.prog 68 T67 2 := ⟨(inf68).imp fun _ h => ⟨h.1, h.2.2.1⟩, len68, .inl ⟨_, Try.underlying68, rfl, fun _ => rfl⟩, fun _ => rfl, one68⟩
theorem inf70 : ∃ i, Try.prog.info? 70 = some i ∧ i.zero = some ((Fv.nil).enc) ∧ i.size = 1 ∧ i.bytes = 8 := info_four (by kernel_rfl)
theorem ok70 : TyOk Try.prog 70 tFun 1 := ⟨(inf70).imp fun _ h => ⟨h.1, h.2.2.1⟩, fun _ => rfl, .inr ⟨_, Try.underlying70, rfl, rfl, fun _ => rfl⟩, fun x => Fv.flat _, fun x v hv => by obtain rfl := List.mem_singleton.1 hv; exact Fv.one _⟩
theorem inf74 : ∃ i, Try.prog.info? 74 = some i ∧ i.zero = some ((Fv.nil).enc) ∧ i.size = 1 ∧ i.bytes = 8 := info_four (by kernel_rfl)
theorem ok74 : TyOk Try.prog 74 tFun 1 := ⟨(inf74).imp fun _ h => ⟨h.1, h.2.2.1⟩, fun _ => rfl, .inr ⟨_, Try.underlying74, rfl, rfl, fun _ => rfl⟩, fun x => Fv.flat _, fun x v hv => by obtain rfl := List.mem_singleton.1 hv; exact Fv.one _⟩
theorem inf77 : ∃ i, Try.prog.info? 77 = some i ∧ i.zero = some (T77.enc (Z77)) ∧ i.size = 0 ∧ i.bytes = 0 := info_four (by kernel_rfl)
theorem len77 (x : S77) : (T77.cells x).length = 0 := by rfl
theorem one77 (x : S77) : ∀ v ∈ T77.cells x, v.oneCell' = true := by
  show ∀ v ∈ S77.cells x, v.oneCell' = true
  simp only [S77.cells, List.forall_mem_append, List.forall_mem_cons, List.forall_mem_nil]
  exact fun _ h => absurd h (List.not_mem_nil)
theorem ok77 : TyOk Try.prog 77 T77 0 := ⟨(inf77).imp fun _ h => ⟨h.1, h.2.2.1⟩, len77, .inl ⟨_, Try.underlying77, rfl, fun _ => rfl⟩, fun _ => rfl, one77⟩
theorem inf80 : ∃ i, Try.prog.info? 80 = some i ∧ i.zero = some (T79.enc (Z79)) ∧ i.size = 3 ∧ i.bytes = 24 := info_four (by kernel_rfl)
theorem len80 (x : S79) : (T79.cells x).length = 3 := by rfl
theorem one80 (x : S79) : ∀ v ∈ T79.cells x, v.oneCell' = true := by
  show ∀ v ∈ S79.cells x, v.oneCell' = true
  simp only [S79.cells, List.forall_mem_append, List.forall_mem_cons, List.forall_mem_nil]
  exact ⟨rfl, rfl, rfl, fun _ h => absurd h (List.not_mem_nil)⟩
theorem ok80 : TyOk Try.prog 80 T79 3 := ⟨(inf80).imp fun _ h => ⟨h.1, h.2.2.1⟩, len80, .inl ⟨_, Try.underlying80, rfl, fun _ => rfl⟩, fun _ => rfl, one80⟩
theorem ent3 : Enters Try.prog 3 := ⟨_, Try.func3, rfl, by decide⟩
theorem ent4 : Enters Try.prog 4 := ⟨_, Try.func4, rfl, by decide⟩
theorem ent5 : Enters Try.prog 5 := ⟨_, Try.func5, rfl, by decide⟩
theorem ent6 : Enters Try.prog 6 := ⟨_, Try.func6, rfl, by decide⟩
theorem ent7 : Enters Try.prog 7 := ⟨_, Try.func7, rfl, by decide⟩
theorem ent8 : Enters Try.prog 8 := ⟨_, Try.func8, rfl, by decide⟩
theorem ent9 : Enters Try.prog 9 := ⟨_, Try.func9, rfl, by decide⟩
theorem ent10 : Enters Try.prog 10 := ⟨_, Try.func10, rfl, by decide⟩
theorem ent11 : Enters Try.prog 11 := ⟨_, Try.func11, rfl, by decide⟩
theorem ent12 : Enters Try.prog 12 := ⟨_, Try.func12, rfl, by decide⟩
theorem ent13 : Enters Try.prog 13 := ⟨_, Try.func13, rfl, by decide⟩
theorem ent14 : Enters Try.prog 14 := ⟨_, Try.func14, rfl, by decide⟩
theorem ent15 : Enters Try.prog 15 := ⟨_, Try.func15, rfl, by decide⟩
theorem ent16 : Enters Try.prog 16 := ⟨_, Try.func16, rfl, by decide⟩
theorem ent17 : Enters Try.prog 17 := ⟨_, Try.func17, rfl, by decide⟩
theorem ent18 : Enters Try.prog 18 := ⟨_, Try.func18, rfl, by decide⟩
theorem ent19 : Enters Try.prog 19 := ⟨_, Try.func19, rfl, by decide⟩
theorem ent20 : Enters Try.prog 20 := ⟨_, Try.func20, rfl, by decide⟩
theorem ent21 : Enters Try.prog 21 := ⟨_, Try.func21, rfl, by decide⟩
theorem ent22 : Enters Try.prog 22 := ⟨_, Try.func22, rfl, by decide⟩
theorem ent23 : Enters Try.prog 23 := ⟨_, Try.func23, rfl, by decide⟩
theorem ent24 : Enters Try.prog 24 := ⟨_, Try.func24, rfl, by decide⟩
theorem ent25 : Enters Try.prog 25 := ⟨_, Try.func25, rfl, by decide⟩
theorem ent26 : Enters Try.prog 26 := ⟨_, Try.func26, rfl, by decide⟩
theorem ent27 : Enters Try.prog 27 := ⟨_, Try.func27, rfl, by decide⟩
theorem ent28 : Enters Try.prog 28 := ⟨_, Try.func28, rfl, by decide⟩
theorem ent29 : Enters Try.prog 29 := ⟨_, Try.func29, rfl, by decide⟩
theorem ent30 : Enters Try.prog 30 := ⟨_, Try.func30, rfl, by decide⟩
theorem ent31 : Enters Try.prog 31 := ⟨_, Try.func31, rfl, by decide⟩
theorem ent32 : Enters Try.prog 32 := ⟨_, Try.func32, rfl, by decide⟩
theorem ent33 : Enters Try.prog 33 := ⟨_, Try.func33, rfl, by decide⟩
theorem ent34 : Enters Try.prog 34 := ⟨_, Try.func34, rfl, by decide⟩
theorem ent35 : Enters Try.prog 35 := ⟨_, Try.func35, rfl, by decide⟩
theorem ent36 : Enters Try.prog 36 := ⟨_, Try.func36, rfl, by decide⟩
theorem ent40 : Enters Try.prog 40 := ⟨_, Try.func40, rfl, by decide⟩
theorem ent41 : Enters Try.prog 41 := ⟨_, Try.func41, rfl, by decide⟩
theorem ent42 : Enters Try.prog 42 := ⟨_, Try.func42, rfl, by decide⟩
theorem ent43 : Enters Try.prog 43 := ⟨_, Try.func43, rfl, by decide⟩
theorem mixed : Try.prog.follows .mixedOrders = true := by kernel_rfl
theorem pl28 (w : World) : (((Try.prog.fieldsOf 28).toList).mapM fun f => (do pure (f.offset, ← sizeOf f.type) : Sem (Nat × Nat))).run Try.prog w = .ok [(0, 1), (1, 1), (2, 1)] w := by
  simp only [Program.fieldsOf, Try.underlying28]
  refine run_places _ _ rfl ?_
  intro j fd p hf hp
  rcases j with _ | j; · obtain rfl := Option.some.inj hf; obtain rfl := Option.some.inj hp; exact ⟨rfl, ok25.size⟩
  rcases j with _ | j; · obtain rfl := Option.some.inj hf; obtain rfl := Option.some.inj hp; exact ⟨rfl, ok25.size⟩
  rcases j with _ | j; · obtain rfl := Option.some.inj hf; obtain rfl := Option.some.inj hp; exact ⟨rfl, ok26.size⟩
  cases hp
theorem pl34 (w : World) : (((Try.prog.fieldsOf 34).toList).mapM fun f => (do pure (f.offset, ← sizeOf f.type) : Sem (Nat × Nat))).run Try.prog w = .ok [(0, 1), (1, 1), (2, 1)] w := by
  simp only [Program.fieldsOf, Try.underlying34]
  refine run_places _ _ rfl ?_
  intro j fd p hf hp
  rcases j with _ | j; · obtain rfl := Option.some.inj hf; obtain rfl := Option.some.inj hp; exact ⟨rfl, ok4.size⟩
  rcases j with _ | j; · obtain rfl := Option.some.inj hf; obtain rfl := Option.some.inj hp; exact ⟨rfl, ok26.size⟩
  rcases j with _ | j; · obtain rfl := Option.some.inj hf; obtain rfl := Option.some.inj hp; exact ⟨rfl, ok32.size⟩
  cases hp
theorem pl54 (w : World) : (((Try.prog.fieldsOf 54).toList).mapM fun f => (do pure (f.offset, ← sizeOf f.type) : Sem (Nat × Nat))).run Try.prog w = .ok [(0, 1), (1, 1)] w := by
  simp only [Program.fieldsOf, Try.underlying54]
  refine run_places _ _ rfl ?_
  intro j fd p hf hp
  rcases j with _ | j; · obtain rfl := Option.some.inj hf; obtain rfl := Option.some.inj hp; exact ⟨rfl, ok3.size⟩
  rcases j with _ | j; · obtain rfl := Option.some.inj hf; obtain rfl := Option.some.inj hp; exact ⟨rfl, ok4.size⟩
  cases hp
theorem pl56 (w : World) : (((Try.prog.fieldsOf 56).toList).mapM fun f => (do pure (f.offset, ← sizeOf f.type) : Sem (Nat × Nat))).run Try.prog w = .ok [(0, 1), (1, 1)] w := by
  simp only [Program.fieldsOf, Try.underlying56]
  refine run_places _ _ rfl ?_
  intro j fd p hf hp
  rcases j with _ | j; · obtain rfl := Option.some.inj hf; obtain rfl := Option.some.inj hp; exact ⟨rfl, ok3.size⟩
  rcases j with _ | j; · obtain rfl := Option.some.inj hf; obtain rfl := Option.some.inj hp; exact ⟨rfl, ok3.size⟩
  cases hp
theorem pl62 (w : World) : (((Try.prog.fieldsOf 62).toList).mapM fun f => (do pure (f.offset, ← sizeOf f.type) : Sem (Nat × Nat))).run Try.prog w = .ok [(0, 1), (1, 1), (2, 1)] w := by
  simp only [Program.fieldsOf, Try.underlying62]
  refine run_places _ _ rfl ?_
  intro j fd p hf hp
  rcases j with _ | j; · obtain rfl := Option.some.inj hf; obtain rfl := Option.some.inj hp; exact ⟨rfl, ok58.size⟩
  rcases j with _ | j; · obtain rfl := Option.some.inj hf; obtain rfl := Option.some.inj hp; exact ⟨rfl, ok59.size⟩
  rcases j with _ | j; · obtain rfl := Option.some.inj hf; obtain rfl := Option.some.inj hp; exact ⟨rfl, ok60.size⟩
  cases hp
theorem pl68 (w : World) : (((Try.prog.fieldsOf 68).toList).mapM fun f => (do pure (f.offset, ← sizeOf f.type) : Sem (Nat × Nat))).run Try.prog w = .ok [(0, 1), (1, 1)] w := by
  simp only [Program.fieldsOf, Try.underlying68]
  refine run_places _ _ rfl ?_
  intro j fd p hf hp
  rcases j with _ | j; · obtain rfl := Option.some.inj hf; obtain rfl := Option.some.inj hp; exact ⟨rfl, ok66.size⟩
  rcases j with _ | j; · obtain rfl := Option.some.inj hf; obtain rfl := Option.some.inj hp; exact ⟨rfl, ok66.size⟩
  cases hp
theorem pl77 (w : World) : (((Try.prog.fieldsOf 77).toList).mapM fun f => (do pure (f.offset, ← sizeOf f.type) : Sem (Nat × Nat))).run Try.prog w = .ok [] w := by
  simp only [Program.fieldsOf, Try.underlying77]
  refine run_places _ _ rfl ?_
  intro j fd p hf hp
  cases hp
theorem pl80 (w : World) : (((Try.prog.fieldsOf 80).toList).mapM fun f => (do pure (f.offset, ← sizeOf f.type) : Sem (Nat × Nat))).run Try.prog w = .ok [(0, 1), (1, 1), (2, 1)] w := by
  simp only [Program.fieldsOf, Try.underlying80]
  refine run_places _ _ rfl ?_
  intro j fd p hf hp
  rcases j with _ | j; · obtain rfl := Option.some.inj hf; obtain rfl := Option.some.inj hp; exact ⟨rfl, ok3.size⟩
  rcases j with _ | j; · obtain rfl := Option.some.inj hf; obtain rfl := Option.some.inj hp; exact ⟨rfl, ok3.size⟩
  rcases j with _ | j; · obtain rfl := Option.some.inj hf; obtain rfl := Option.some.inj hp; exact ⟨rfl, ok4.size⟩
  cases hp
theorem q_build28_ {n : Nat} {f : Nat → Value} {w : World} {o : Oper} (ho : o.op = .build 28 #[]) : (execOp (evl n f) o).run Try.prog w = .ok (.value (T27.enc ⟨(⟨none, 0, 0⟩ : Slc), (⟨none, 0, 0⟩ : Slc), (⟨none, 0, 0⟩ : Slc)⟩)) w :=
  q_build (ps := []) (pv := []) (cs := S27.cells ⟨(⟨none, 0, 0⟩ : Slc), (⟨none, 0, 0⟩ : Slc), (⟨none, 0, 0⟩ : Slc)⟩) ho Try.underlying28 inf28 (by have := pl28; simp only [Program.fieldsOf, Try.underlying28] at this; exact this) (by simp only [List.map_cons, List.map_nil]) (by rfl)
theorem q_build34_ {n : Nat} {f : Nat → Value} {w : World} {o : Oper} (ho : o.op = .build 34 #[]) : (execOp (evl n f) o).run Try.prog w = .ok (.value (T33.enc ⟨false, (⟨none, 0, 0⟩ : Slc), (⟨none, 0, 0⟩ : Slc)⟩)) w :=
  q_build (ps := []) (pv := []) (cs := S33.cells ⟨false, (⟨none, 0, 0⟩ : Slc), (⟨none, 0, 0⟩ : Slc)⟩) ho Try.underlying34 inf34 (by have := pl34; simp only [Program.fieldsOf, Try.underlying34] at this; exact this) (by simp only [List.map_cons, List.map_nil]) (by rfl)
theorem q_build34_0 {n : Nat} {f : Nat → Value} {w : World} {o : Oper} {x0 : Operand} {v0 : Bool} (ho : o.op = .build 34 #[(0, x0)]) (h0 : evl n f x0 = .bool (v0)) : (execOp (evl n f) o).run Try.prog w = .ok (.value (T33.enc ⟨v0, (⟨none, 0, 0⟩ : Slc), (⟨none, 0, 0⟩ : Slc)⟩)) w :=
  q_build (ps := [(0, x0)]) (pv := [(0, .bool (v0))]) (cs := S33.cells ⟨v0, (⟨none, 0, 0⟩ : Slc), (⟨none, 0, 0⟩ : Slc)⟩) ho Try.underlying34 inf34 (by have := pl34; simp only [Program.fieldsOf, Try.underlying34] at this; exact this) (by simp only [List.map_cons, List.map_nil, h0]) (by rfl)
theorem q_build34_2 {n : Nat} {f : Nat → Value} {w : World} {o : Oper} {x2 : Operand} {v2 : Slc} (ho : o.op = .build 34 #[(2, x2)]) (h2 : evl n f x2 = tSlc.enc (v2)) : (execOp (evl n f) o).run Try.prog w = .ok (.value (T33.enc ⟨false, (⟨none, 0, 0⟩ : Slc), v2⟩)) w :=
  q_build (ps := [(2, x2)]) (pv := [(2, tSlc.enc (v2))]) (cs := S33.cells ⟨false, (⟨none, 0, 0⟩ : Slc), v2⟩) ho Try.underlying34 inf34 (by have := pl34; simp only [Program.fieldsOf, Try.underlying34] at this; exact this) (by simp only [List.map_cons, List.map_nil, h2]) (by rfl)
theorem q_build54_ {n : Nat} {f : Nat → Value} {w : World} {o : Oper} (ho : o.op = .build 54 #[]) : (execOp (evl n f) o).run Try.prog w = .ok (.value (T53.enc ⟨(0 : Int), false⟩)) w :=
  q_build (ps := []) (pv := []) (cs := S53.cells ⟨(0 : Int), false⟩) ho Try.underlying54 inf54 (by have := pl54; simp only [Program.fieldsOf, Try.underlying54] at this; exact this) (by simp only [List.map_cons, List.map_nil]) (by rfl)
theorem q_build54_0_1 {n : Nat} {f : Nat → Value} {w : World} {o : Oper} {x0 : Operand} {x1 : Operand} {v0 : Int} {v1 : Bool} (ho : o.op = .build 54 #[(0, x0), (1, x1)]) (h0 : evl n f x0 = .int .i64 (v0)) (h1 : evl n f x1 = .bool (v1)) : (execOp (evl n f) o).run Try.prog w = .ok (.value (T53.enc ⟨v0, v1⟩)) w :=
  q_build (ps := [(0, x0), (1, x1)]) (pv := [(0, .int .i64 (v0)), (1, .bool (v1))]) (cs := S53.cells ⟨v0, v1⟩) ho Try.underlying54 inf54 (by have := pl54; simp only [Program.fieldsOf, Try.underlying54] at this; exact this) (by simp only [List.map_cons, List.map_nil, h0, h1]) (by rfl)
theorem q_build56_ {n : Nat} {f : Nat → Value} {w : World} {o : Oper} (ho : o.op = .build 56 #[]) : (execOp (evl n f) o).run Try.prog w = .ok (.value (T55.enc ⟨(0 : Int), (0 : Int)⟩)) w :=
  q_build (ps := []) (pv := []) (cs := S55.cells ⟨(0 : Int), (0 : Int)⟩) ho Try.underlying56 inf56 (by have := pl56; simp only [Program.fieldsOf, Try.underlying56] at this; exact this) (by simp only [List.map_cons, List.map_nil]) (by rfl)
theorem q_build56_0_1 {n : Nat} {f : Nat → Value} {w : World} {o : Oper} {x0 : Operand} {x1 : Operand} {v0 : Int} {v1 : Int} (ho : o.op = .build 56 #[(0, x0), (1, x1)]) (h0 : evl n f x0 = .int .i64 (v0)) (h1 : evl n f x1 = .int .i64 (v1)) : (execOp (evl n f) o).run Try.prog w = .ok (.value (T55.enc ⟨v0, v1⟩)) w :=
  q_build (ps := [(0, x0), (1, x1)]) (pv := [(0, .int .i64 (v0)), (1, .int .i64 (v1))]) (cs := S55.cells ⟨v0, v1⟩) ho Try.underlying56 inf56 (by have := pl56; simp only [Program.fieldsOf, Try.underlying56] at this; exact this) (by simp only [List.map_cons, List.map_nil, h0, h1]) (by rfl)
theorem q_build62_0_1_2 {n : Nat} {f : Nat → Value} {w : World} {o : Oper} {x0 : Operand} {x1 : Operand} {x2 : Operand} {v0 : (Option Nat)} {v1 : (Option Nat)} {v2 : (Option Nat)} (ho : o.op = .build 62 #[(0, x0), (1, x1), (2, x2)]) (h0 : evl n f x0 = .map (v0)) (h1 : evl n f x1 = .map (v1)) (h2 : evl n f x2 = .map (v2)) : (execOp (evl n f) o).run Try.prog w = .ok (.value (T61.enc ⟨v0, v1, v2⟩)) w :=
  q_build (ps := [(0, x0), (1, x1), (2, x2)]) (pv := [(0, .map (v0)), (1, .map (v1)), (2, .map (v2))]) (cs := S61.cells ⟨v0, v1, v2⟩) ho Try.underlying62 inf62 (by have := pl62; simp only [Program.fieldsOf, Try.underlying62] at this; exact this) (by simp only [List.map_cons, List.map_nil, h0, h1, h2]) (by rfl)
theorem q_build68_0_1 {n : Nat} {f : Nat → Value} {w : World} {o : Oper} {x0 : Operand} {x1 : Operand} {v0 : (Option Nat)} {v1 : (Option Nat)} (ho : o.op = .build 68 #[(0, x0), (1, x1)]) (h0 : evl n f x0 = .map (v0)) (h1 : evl n f x1 = .map (v1)) : (execOp (evl n f) o).run Try.prog w = .ok (.value (T67.enc ⟨v0, v1⟩)) w :=
  q_build (ps := [(0, x0), (1, x1)]) (pv := [(0, .map (v0)), (1, .map (v1))]) (cs := S67.cells ⟨v0, v1⟩) ho Try.underlying68 inf68 (by have := pl68; simp only [Program.fieldsOf, Try.underlying68] at this; exact this) (by simp only [List.map_cons, List.map_nil, h0, h1]) (by rfl)
theorem q_build77_ {n : Nat} {f : Nat → Value} {w : World} {o : Oper} (ho : o.op = .build 77 #[]) : (execOp (evl n f) o).run Try.prog w = .ok (.value (T77.enc ⟨⟩)) w :=
  q_build (ps := []) (pv := []) (cs := S77.cells ⟨⟩) ho Try.underlying77 inf77 (by have := pl77; simp only [Program.fieldsOf, Try.underlying77] at this; exact this) (by simp only [List.map_cons, List.map_nil]) (by rfl)
theorem q_build80_0_1_2 {n : Nat} {f : Nat → Value} {w : World} {o : Oper} {x0 : Operand} {x1 : Operand} {x2 : Operand} {v0 : Int} {v1 : Int} {v2 : Bool} (ho : o.op = .build 80 #[(0, x0), (1, x1), (2, x2)]) (h0 : evl n f x0 = .int .i64 (v0)) (h1 : evl n f x1 = .int .i64 (v1)) (h2 : evl n f x2 = .bool (v2)) : (execOp (evl n f) o).run Try.prog w = .ok (.value (T79.enc ⟨v0, v1, v2⟩)) w :=
  q_build (ps := [(0, x0), (1, x1), (2, x2)]) (pv := [(0, .int .i64 (v0)), (1, .int .i64 (v1)), (2, .bool (v2))]) (cs := S79.cells ⟨v0, v1, v2⟩) ho Try.underlying80 inf80 (by have := pl80; simp only [Program.fieldsOf, Try.underlying80] at this; exact this) (by simp only [List.map_cons, List.map_nil, h0, h1, h2]) (by rfl)
end Go.Proofs.Ytojcgejjdfcaaaa.Cf
