/- The types of the program, typed. Printed by gen.py (own tool). -/
import Derived.Test.YtdgdkbfigndndaaCfO
import Derived.Test.YtdgdkbfigndndaaProg
namespace Go.Proofs.Ytdgdkbfigndndaa.Cf
open Go
set_option maxRecDepth 100000
set_option linter.unusedVariables false
set_option linter.unusedSimpArgs false
-- struct { L []moietyref12.Row; Closed int64; Mark int64 }
structure S26 where
  L : Slc
  Closed : Int
  Mark : Int
def S26.cells (x : S26) : List Value := [tSlc.enc (x.L), .int .i64 (x.Closed), .int .i64 (x.Mark)]
@[reducible] def T26 : Ty S26 := tAgg S26.cells
@[reducible] def Z26 : S26 := ⟨(⟨none, 0, 0⟩ : Slc), (0 : Int), (0 : Int)⟩
-- struct { Kind int; Key int; T int64; L []api.Entry }
structure S32 where
  Kind : Int
  Key : Int
  T_ : Int
  L : Slc
def S32.cells (x : S32) : List Value := [.int .i64 (x.Kind), .int .i64 (x.Key), .int .i64 (x.T_), tSlc.enc (x.L)]
@[reducible] def T32 : Ty S32 := tAgg S32.cells
@[reducible] def Z32 : S32 := ⟨(0 : Int), (0 : Int), (0 : Int), (⟨none, 0, 0⟩ : Slc)⟩
-- struct { T int64; V int64 }
structure S35 where
  T_ : Int
  V : Int
def S35.cells (x : S35) : List Value := [.int .i64 (x.T_), .int .i64 (x.V)]
@[reducible] def T35 : Ty S35 := tAgg S35.cells
@[reducible] def Z35 : S35 := ⟨(0 : Int), (0 : Int)⟩
-- struct { T int64; L []api.Entry }
structure S51 where
  T_ : Int
  L : Slc
def S51.cells (x : S51) : List Value := [.int .i64 (x.T_), tSlc.enc (x.L)]
@[reducible] def T51 : Ty S51 := tAgg S51.cells
@[reducible] def Z51 : S51 := ⟨(0 : Int), (⟨none, 0, 0⟩ : Slc)⟩
-- struct { Key int; V int64 }
structure S57 where
  Key : Int
  V : Int
def S57.cells (x : S57) : List Value := [.int .i64 (x.Key), .int .i64 (x.V)]
@[reducible] def T57 : Ty S57 := tAgg S57.cells
@[reducible] def Z57 : S57 := ⟨(0 : Int), (0 : Int)⟩
-- struct { chains map[int]*chain.Chain; closed int64; mark int64 }
structure S66 where
  chains : (Option Nat)
  closed : Int
  mark : Int
def S66.cells (x : S66) : List Value := [.map (x.chains), .int .i64 (x.closed), .int .i64 (x.mark)]
@[reducible] def T66 : Ty S66 := tAgg S66.cells
@[reducible] def Z66 : S66 := ⟨(none : Option Nat), (0 : Int), (0 : Int)⟩
-- struct { T int64; X api.Entry }
structure S75 where
  T_ : Int
  X : S57
def S75.cells (x : S75) : List Value := [.int .i64 (x.T_)] ++ (S57.cells (x.X))
@[reducible] def T75 : Ty S75 := tAgg S75.cells
@[reducible] def Z75 : S75 := ⟨(0 : Int), Z57⟩
-- struct { l []api.Version; mark int64 }
structure S93 where
  l : Slc
  mark : Int
def S93.cells (x : S93) : List Value := [tSlc.enc (x.l), .int .i64 (x.mark)]
@[reducible] def T93 : Ty S93 := tAgg S93.cells
@[reducible] def Z93 : S93 := ⟨(⟨none, 0, 0⟩ : Slc), (0 : Int)⟩
-- struct {}
structure S98 where
def S98.cells (x : S98) : List Value := []
@[reducible] def T98 : Ty S98 := tAgg S98.cells
@[reducible] def Z98 : S98 := ⟨⟩
theorem inf2 : ∃ i, Try.prog.info? 2 = some i ∧ i.zero = some (.int .i64 ((0 : Int))) ∧ i.size = 1 ∧ i.bytes = 8 := info_four (by kernel_rfl)
theorem ok2 : TyOk Try.prog 2 (tInt .i64) 1 := ⟨(inf2).imp fun _ h => ⟨h.1, h.2.2.1⟩, fun _ => rfl, .inr ⟨_, Try.underlying2, rfl, rfl, fun _ => rfl⟩, fun x => rfl, fun x v hv => by obtain rfl := List.mem_singleton.1 hv; exact rfl⟩
theorem inf3 : ∃ i, Try.prog.info? 3 = some i ∧ i.zero = some (.int .i64 ((0 : Int))) ∧ i.size = 1 ∧ i.bytes = 8 := info_four (by kernel_rfl)
theorem ok3 : TyOk Try.prog 3 (tInt .i64) 1 := ⟨(inf3).imp fun _ h => ⟨h.1, h.2.2.1⟩, fun _ => rfl, .inr ⟨_, Try.underlying3, rfl, rfl, fun _ => rfl⟩, fun x => rfl, fun x v hv => by obtain rfl := List.mem_singleton.1 hv; exact rfl⟩
theorem inf4 : ∃ i, Try.prog.info? 4 = some i ∧ i.zero = some (.bool (false)) ∧ i.size = 1 ∧ i.bytes = 1 := info_four (by kernel_rfl)
theorem ok4 : TyOk Try.prog 4 tBool 1 := ⟨(inf4).imp fun _ h => ⟨h.1, h.2.2.1⟩, fun _ => rfl, .inr ⟨_, Try.underlying4, rfl, rfl, fun _ => rfl⟩, fun x => rfl, fun x v hv => by obtain rfl := List.mem_singleton.1 hv; exact rfl⟩
theorem inf22 : ∃ i, Try.prog.info? 22 = some i ∧ i.zero = some (tSlc.enc ((⟨none, 0, 0⟩ : Slc))) ∧ i.size = 1 ∧ i.bytes = 24 := info_four (by kernel_rfl)
theorem ok22 : TyOk Try.prog 22 tSlc 1 := ⟨(inf22).imp fun _ h => ⟨h.1, h.2.2.1⟩, fun _ => rfl, .inr ⟨_, Try.underlying22, rfl, rfl, fun _ => rfl⟩, fun x => rfl, fun x v hv => by obtain rfl := List.mem_singleton.1 hv; exact rfl⟩
theorem inf23 : ∃ i, Try.prog.info? 23 = some i ∧ i.zero = some (.pointer ((none : Option Addr))) ∧ i.size = 1 ∧ i.bytes = 8 := info_four (by kernel_rfl)
theorem ok23 : TyOk Try.prog 23 tPtr 1 := ⟨(inf23).imp fun _ h => ⟨h.1, h.2.2.1⟩, fun _ => rfl, .inr ⟨_, Try.underlying23, rfl, rfl, fun _ => rfl⟩, fun x => rfl, fun x v hv => by obtain rfl := List.mem_singleton.1 hv; exact rfl⟩
theorem inf25 : ∃ i, Try.prog.info? 25 = some i ∧ i.zero = some (tSlc.enc ((⟨none, 0, 0⟩ : Slc))) ∧ i.size = 1 ∧ i.bytes = 24 := info_four (by kernel_rfl)
theorem ok25 : TyOk Try.prog 25 tSlc 1 := ⟨(inf25).imp fun _ h => ⟨h.1, h.2.2.1⟩, fun _ => rfl, .inr ⟨_, Try.underlying25, rfl, rfl, fun _ => rfl⟩, fun x => rfl, fun x v hv => by obtain rfl := List.mem_singleton.1 hv; exact rfl⟩
theorem inf27 : ∃ i, Try.prog.info? 27 = some i ∧ i.zero = some (T26.enc (Z26)) ∧ i.size = 3 ∧ i.bytes = 40 := info_four (by kernel_rfl)
theorem len27 (x : S26) : (T26.cells x).length = 3 := by rfl
theorem one27 (x : S26) : ∀ v ∈ T26.cells x, v.oneCell' = true := by
  show ∀ v ∈ S26.cells x, v.oneCell' = true
  simp only [S26.cells, List.forall_mem_append, List.forall_mem_cons, List.forall_mem_nil]
  exact ⟨rfl, rfl, rfl, fun _ h => absurd h (List.not_mem_nil)⟩
theorem ok27 : TyOk Try.prog 27 T26 3 := ⟨(inf27).imp fun _ h => ⟨h.1, h.2.2.1⟩, len27, .inl ⟨_, Try.underlying27, rfl, fun _ => rfl⟩, fun _ => rfl, one27⟩
theorem inf31 : ∃ i, Try.prog.info? 31 = some i ∧ i.zero = some (tSlc.enc ((⟨none, 0, 0⟩ : Slc))) ∧ i.size = 1 ∧ i.bytes = 24 := info_four (by kernel_rfl)
theorem ok31 : TyOk Try.prog 31 tSlc 1 := ⟨(inf31).imp fun _ h => ⟨h.1, h.2.2.1⟩, fun _ => rfl, .inr ⟨_, Try.underlying31, rfl, rfl, fun _ => rfl⟩, fun x => rfl, fun x v hv => by obtain rfl := List.mem_singleton.1 hv; exact rfl⟩
theorem inf33 : ∃ i, Try.prog.info? 33 = some i ∧ i.zero = some (T32.enc (Z32)) ∧ i.size = 4 ∧ i.bytes = 48 := info_four (by kernel_rfl)
theorem len33 (x : S32) : (T32.cells x).length = 4 := by rfl
theorem one33 (x : S32) : ∀ v ∈ T32.cells x, v.oneCell' = true := by
  show ∀ v ∈ S32.cells x, v.oneCell' = true
  simp only [S32.cells, List.forall_mem_append, List.forall_mem_cons, List.forall_mem_nil]
  exact ⟨rfl, rfl, rfl, rfl, fun _ h => absurd h (List.not_mem_nil)⟩
theorem ok33 : TyOk Try.prog 33 T32 4 := ⟨(inf33).imp fun _ h => ⟨h.1, h.2.2.1⟩, len33, .inl ⟨_, Try.underlying33, rfl, fun _ => rfl⟩, fun _ => rfl, one33⟩
theorem inf36 : ∃ i, Try.prog.info? 36 = some i ∧ i.zero = some (T35.enc (Z35)) ∧ i.size = 2 ∧ i.bytes = 16 := info_four (by kernel_rfl)
theorem len36 (x : S35) : (T35.cells x).length = 2 := by rfl
theorem one36 (x : S35) : ∀ v ∈ T35.cells x, v.oneCell' = true := by
  show ∀ v ∈ S35.cells x, v.oneCell' = true
  simp only [S35.cells, List.forall_mem_append, List.forall_mem_cons, List.forall_mem_nil]
  exact ⟨rfl, rfl, fun _ h => absurd h (List.not_mem_nil)⟩
theorem ok36 : TyOk Try.prog 36 T35 2 := ⟨(inf36).imp fun _ h => ⟨h.1, h.2.2.1⟩, len36, .inl ⟨_, Try.underlying36, rfl, fun _ => rfl⟩, fun _ => rfl, one36⟩
theorem inf42 : ∃ i, Try.prog.info? 42 = some i ∧ i.zero = some (.int .i64 ((0 : Int))) ∧ i.size = 1 ∧ i.bytes = 8 := info_four (by kernel_rfl)
theorem ok42 : TyOk Try.prog 42 (tInt .i64) 1 := ⟨(inf42).imp fun _ h => ⟨h.1, h.2.2.1⟩, fun _ => rfl, .inr ⟨_, Try.underlying42, rfl, rfl, fun _ => rfl⟩, fun x => rfl, fun x v hv => by obtain rfl := List.mem_singleton.1 hv; exact rfl⟩
theorem inf52 : ∃ i, Try.prog.info? 52 = some i ∧ i.zero = some (T51.enc (Z51)) ∧ i.size = 2 ∧ i.bytes = 32 := info_four (by kernel_rfl)
theorem len52 (x : S51) : (T51.cells x).length = 2 := by rfl
theorem one52 (x : S51) : ∀ v ∈ T51.cells x, v.oneCell' = true := by
  show ∀ v ∈ S51.cells x, v.oneCell' = true
  simp only [S51.cells, List.forall_mem_append, List.forall_mem_cons, List.forall_mem_nil]
  exact ⟨rfl, rfl, fun _ h => absurd h (List.not_mem_nil)⟩
theorem ok52 : TyOk Try.prog 52 T51 2 := ⟨(inf52).imp fun _ h => ⟨h.1, h.2.2.1⟩, len52, .inl ⟨_, Try.underlying52, rfl, fun _ => rfl⟩, fun _ => rfl, one52⟩
theorem inf58 : ∃ i, Try.prog.info? 58 = some i ∧ i.zero = some (T57.enc (Z57)) ∧ i.size = 2 ∧ i.bytes = 16 := info_four (by kernel_rfl)
theorem len58 (x : S57) : (T57.cells x).length = 2 := by rfl
theorem one58 (x : S57) : ∀ v ∈ T57.cells x, v.oneCell' = true := by
  show ∀ v ∈ S57.cells x, v.oneCell' = true
  simp only [S57.cells, List.forall_mem_append, List.forall_mem_cons, List.forall_mem_nil]
  exact ⟨rfl, rfl, fun _ h => absurd h (List.not_mem_nil)⟩
theorem ok58 : TyOk Try.prog 58 T57 2 := ⟨(inf58).imp fun _ h => ⟨h.1, h.2.2.1⟩, len58, .inl ⟨_, Try.underlying58, rfl, fun _ => rfl⟩, fun _ => rfl, one58⟩
theorem inf60 : ∃ i, Try.prog.info? 60 = some i ∧ i.zero = some (((tArr T35 120).enc (Vector.replicate 120 Z35))) ∧ i.size = 240 ∧ i.bytes = 1920 := info_four (by kernel_rfl)
theorem ok60 : TyOk Try.prog 60 (tArr T35 120) 240 := ⟨(inf60).imp fun _ h => ⟨h.1, h.2.2.1⟩, fun x => by simp [flatMap_const_len ok36.len], .inl ⟨_, Try.underlying60, rfl, fun _ => rfl⟩, fun _ => rfl, fun x v hv => by obtain ⟨y, _, hy⟩ := List.mem_flatMap.1 hv; exact ok36.one y v hy⟩
theorem inf65 : ∃ i, Try.prog.info? 65 = some i ∧ i.zero = some (.map ((none : Option Nat))) ∧ i.size = 1 ∧ i.bytes = 8 := info_four (by kernel_rfl)
theorem ok65 : TyOk Try.prog 65 tMap 1 := ⟨(inf65).imp fun _ h => ⟨h.1, h.2.2.1⟩, fun _ => rfl, .inr ⟨_, Try.underlying65, rfl, rfl, fun _ => rfl⟩, fun x => rfl, fun x v hv => by obtain rfl := List.mem_singleton.1 hv; exact rfl⟩
theorem inf67 : ∃ i, Try.prog.info? 67 = some i ∧ i.zero = some (T66.enc (Z66)) ∧ i.size = 3 ∧ i.bytes = 24 := info_four (by kernel_rfl)
theorem len67 (x : S66) : (T66.cells x).length = 3 := by rfl
theorem one67 (x : S66) : ∀ v ∈ T66.cells x, v.oneCell' = true := by
  show ∀ v ∈ S66.cells x, v.oneCell' = true
  simp only [S66.cells, List.forall_mem_append, List.forall_mem_cons, List.forall_mem_nil]
  exact ⟨rfl, rfl, rfl, fun _ h => absurd h (List.not_mem_nil)⟩
theorem ok67 : TyOk Try.prog 67 T66 3 := ⟨(inf67).imp fun _ h => ⟨h.1, h.2.2.1⟩, len67, .inl ⟨_, Try.underlying67, rfl, fun _ => rfl⟩, fun _ => rfl, one67⟩
theorem inf72 : ∃ i, Try.prog.info? 72 = some i ∧ i.zero = some (.pointer ((none : Option Addr))) ∧ i.size = 1 ∧ i.bytes = 8 := info_four (by kernel_rfl)
theorem ok72 : TyOk Try.prog 72 tPtr 1 := ⟨(inf72).imp fun _ h => ⟨h.1, h.2.2.1⟩, fun _ => rfl, .inr ⟨_, Try.underlying72, rfl, rfl, fun _ => rfl⟩, fun x => rfl, fun x v hv => by obtain rfl := List.mem_singleton.1 hv; exact rfl⟩
theorem inf76 : ∃ i, Try.prog.info? 76 = some i ∧ i.zero = some (T75.enc (Z75)) ∧ i.size = 3 ∧ i.bytes = 24 := info_four (by kernel_rfl)
theorem len76 (x : S75) : (T75.cells x).length = 3 := by rfl
theorem one76 (x : S75) : ∀ v ∈ T75.cells x, v.oneCell' = true := by
  show ∀ v ∈ S75.cells x, v.oneCell' = true
  simp only [S75.cells, List.forall_mem_append, List.forall_mem_cons, List.forall_mem_nil]
  exact ⟨⟨rfl, fun _ h => absurd h (List.not_mem_nil)⟩, one58 _⟩
theorem ok76 : TyOk Try.prog 76 T75 3 := ⟨(inf76).imp fun _ h => ⟨h.1, h.2.2.1⟩, len76, .inl ⟨_, Try.underlying76, rfl, fun _ => rfl⟩, fun _ => rfl, one76⟩
theorem inf77 : ∃ i, Try.prog.info? 77 = some i ∧ i.zero = some (tSlc.enc ((⟨none, 0, 0⟩ : Slc))) ∧ i.size = 1 ∧ i.bytes = 24 := info_four (by kernel_rfl)
theorem ok77 : TyOk Try.prog 77 tSlc 1 := ⟨(inf77).imp fun _ h => ⟨h.1, h.2.2.1⟩, fun _ => rfl, .inr ⟨_, Try.underlying77, rfl, rfl, fun _ => rfl⟩, fun x => rfl, fun x v hv => by obtain rfl := List.mem_singleton.1 hv; exact rfl⟩
theorem inf79 : ∃ i, Try.prog.info? 79 = some i ∧ i.zero = some (tSlc.enc ((⟨none, 0, 0⟩ : Slc))) ∧ i.size = 1 ∧ i.bytes = 24 := info_four (by kernel_rfl)
theorem ok79 : TyOk Try.prog 79 tSlc 1 := ⟨(inf79).imp fun _ h => ⟨h.1, h.2.2.1⟩, fun _ => rfl, .inr ⟨_, Try.underlying79, rfl, rfl, fun _ => rfl⟩, fun x => rfl, fun x v hv => by obtain rfl := List.mem_singleton.1 hv; exact rfl⟩
theorem inf82 : ∃ i, Try.prog.info? 82 = some i ∧ i.zero = some ((Fv.nil).enc) ∧ i.size = 1 ∧ i.bytes = 8 := info_four (by kernel_rfl)
theorem ok82 : TyOk Try.prog 82 tFun 1 := ⟨(inf82).imp fun _ h => ⟨h.1, h.2.2.1⟩, fun _ => rfl, .inr ⟨_, Try.underlying82, rfl, rfl, fun _ => rfl⟩, fun x => Fv.flat _, fun x v hv => by obtain rfl := List.mem_singleton.1 hv; exact Fv.one _⟩
theorem inf91 : ∃ i, Try.prog.info? 91 = some i ∧ i.zero = some ((Fv.nil).enc) ∧ i.size = 1 ∧ i.bytes = 8 := info_four (by kernel_rfl)
theorem ok91 : TyOk Try.prog 91 tFun 1 := ⟨(inf91).imp fun _ h => ⟨h.1, h.2.2.1⟩, fun _ => rfl, .inr ⟨_, Try.underlying91, rfl, rfl, fun _ => rfl⟩, fun x => Fv.flat _, fun x v hv => by obtain rfl := List.mem_singleton.1 hv; exact Fv.one _⟩
theorem inf94 : ∃ i, Try.prog.info? 94 = some i ∧ i.zero = some (T93.enc (Z93)) ∧ i.size = 2 ∧ i.bytes = 32 := info_four (by kernel_rfl)
theorem len94 (x : S93) : (T93.cells x).length = 2 := by rfl
theorem one94 (x : S93) : ∀ v ∈ T93.cells x, v.oneCell' = true := by
  show ∀ v ∈ S93.cells x, v.oneCell' = true
  simp only [S93.cells, List.forall_mem_append, List.forall_mem_cons, List.forall_mem_nil]
  exact ⟨rfl, rfl, fun _ h => absurd h (List.not_mem_nil)⟩
theorem ok94 : TyOk Try.prog 94 T93 2 := ⟨(inf94).imp fun _ h => ⟨h.1, h.2.2.1⟩, len94, .inl ⟨_, Try.underlying94, rfl, fun _ => rfl⟩, fun _ => rfl, one94⟩
theorem inf98 : ∃ i, Try.prog.info? 98 = some i ∧ i.zero = some (T98.enc (Z98)) ∧ i.size = 0 ∧ i.bytes = 0 := info_four (by kernel_rfl)
theorem len98 (x : S98) : (T98.cells x).length = 0 := by rfl
theorem one98 (x : S98) : ∀ v ∈ T98.cells x, v.oneCell' = true := by
  show ∀ v ∈ S98.cells x, v.oneCell' = true
  simp only [S98.cells, List.forall_mem_append, List.forall_mem_cons, List.forall_mem_nil]
  exact fun _ h => absurd h (List.not_mem_nil)
theorem ok98 : TyOk Try.prog 98 T98 0 := ⟨(inf98).imp fun _ h => ⟨h.1, h.2.2.1⟩, len98, .inl ⟨_, Try.underlying98, rfl, fun _ => rfl⟩, fun _ => rfl, one98⟩
theorem ent3 : Enters Try.prog 3 := ⟨_, Try.func3, rfl, by decide⟩
theorem ent5 : Enters Try.prog 5 := ⟨_, Try.func5, rfl, by decide⟩
theorem ent6 : Enters Try.prog 6 := ⟨_, Try.func6, rfl, by decide⟩
theorem ent7 : Enters Try.prog 7 := ⟨_, Try.func7, rfl, by decide⟩
theorem ent8 : Enters Try.prog 8 := ⟨_, Try.func8, rfl, by decide⟩
theorem ent9 : Enters Try.prog 9 := ⟨_, Try.func9, rfl, by decide⟩
theorem ent10 : Enters Try.prog 10 := ⟨_, Try.func10, rfl, by decide⟩
theorem ent11 : Enters Try.prog 11 := ⟨_, Try.func11, rfl, by decide⟩
theorem ent12 : Enters Try.prog 12 := ⟨_, Try.func12, rfl, by decide⟩
theorem ent13 : Enters Try.prog 13 := ⟨_, Try.func13, rfl, by decide⟩
theorem ent14 : Enters Try.prog 14 := ⟨_, Try.func14, rfl, by decide⟩
theorem ent15 : Enters Try.prog 15 := ⟨_, Try.func15, rfl, by decide⟩
theorem ent16 : Enters Try.prog 16 := ⟨_, Try.func16, rfl, by decide⟩
theorem ent17 : Enters Try.prog 17 := ⟨_, Try.func17, rfl, by decide⟩
theorem ent18 : Enters Try.prog 18 := ⟨_, Try.func18, rfl, by decide⟩
theorem ent19 : Enters Try.prog 19 := ⟨_, Try.func19, rfl, by decide⟩
theorem ent20 : Enters Try.prog 20 := ⟨_, Try.func20, rfl, by decide⟩
theorem ent21 : Enters Try.prog 21 := ⟨_, Try.func21, rfl, by decide⟩
theorem ent22 : Enters Try.prog 22 := ⟨_, Try.func22, rfl, by decide⟩
theorem ent23 : Enters Try.prog 23 := ⟨_, Try.func23, rfl, by decide⟩
theorem ent24 : Enters Try.prog 24 := ⟨_, Try.func24, rfl, by decide⟩
theorem ent25 : Enters Try.prog 25 := ⟨_, Try.func25, rfl, by decide⟩
theorem ent26 : Enters Try.prog 26 := ⟨_, Try.func26, rfl, by decide⟩
theorem ent27 : Enters Try.prog 27 := ⟨_, Try.func27, rfl, by decide⟩
theorem ent28 : Enters Try.prog 28 := ⟨_, Try.func28, rfl, by decide⟩
theorem ent29 : Enters Try.prog 29 := ⟨_, Try.func29, rfl, by decide⟩
theorem ent30 : Enters Try.prog 30 := ⟨_, Try.func30, rfl, by decide⟩
theorem ent31 : Enters Try.prog 31 := ⟨_, Try.func31, rfl, by decide⟩
theorem ent32 : Enters Try.prog 32 := ⟨_, Try.func32, rfl, by decide⟩
theorem ent33 : Enters Try.prog 33 := ⟨_, Try.func33, rfl, by decide⟩
theorem ent34 : Enters Try.prog 34 := ⟨_, Try.func34, rfl, by decide⟩
theorem ent35 : Enters Try.prog 35 := ⟨_, Try.func35, rfl, by decide⟩
theorem ent36 : Enters Try.prog 36 := ⟨_, Try.func36, rfl, by decide⟩
theorem ent37 : Enters Try.prog 37 := ⟨_, Try.func37, rfl, by decide⟩
theorem ent38 : Enters Try.prog 38 := ⟨_, Try.func38, rfl, by decide⟩
theorem ent39 : Enters Try.prog 39 := ⟨_, Try.func39, rfl, by decide⟩
theorem ent40 : Enters Try.prog 40 := ⟨_, Try.func40, rfl, by decide⟩
theorem ent41 : Enters Try.prog 41 := ⟨_, Try.func41, rfl, by decide⟩
theorem ent42 : Enters Try.prog 42 := ⟨_, Try.func42, rfl, by decide⟩
theorem ent43 : Enters Try.prog 43 := ⟨_, Try.func43, rfl, by decide⟩
theorem ent44 : Enters Try.prog 44 := ⟨_, Try.func44, rfl, by decide⟩
theorem ent45 : Enters Try.prog 45 := ⟨_, Try.func45, rfl, by decide⟩
theorem ent46 : Enters Try.prog 46 := ⟨_, Try.func46, rfl, by decide⟩
theorem ent50 : Enters Try.prog 50 := ⟨_, Try.func50, rfl, by decide⟩
theorem ent51 : Enters Try.prog 51 := ⟨_, Try.func51, rfl, by decide⟩
theorem ent55 : Enters Try.prog 55 := ⟨_, Try.func55, rfl, by decide⟩
theorem ent56 : Enters Try.prog 56 := ⟨_, Try.func56, rfl, by decide⟩
theorem mixed : Try.prog.follows .mixedOrders = true := by kernel_rfl
theorem pl27 (w : World) : (((Try.prog.fieldsOf 27).toList).mapM fun f => (do pure (f.offset, ← sizeOf f.type) : Sem (Nat × Nat))).run Try.prog w = .ok [(0, 1), (1, 1), (2, 1)] w := by
  simp only [Program.fieldsOf, Try.underlying27]
  refine run_places _ _ rfl ?_
  intro j fd p hf hp
  rcases j with _ | j; · obtain rfl := Option.some.inj hf; obtain rfl := Option.some.inj hp; exact ⟨rfl, ok25.size⟩
  rcases j with _ | j; · obtain rfl := Option.some.inj hf; obtain rfl := Option.some.inj hp; exact ⟨rfl, ok2.size⟩
  rcases j with _ | j; · obtain rfl := Option.some.inj hf; obtain rfl := Option.some.inj hp; exact ⟨rfl, ok2.size⟩
  cases hp
theorem pl33 (w : World) : (((Try.prog.fieldsOf 33).toList).mapM fun f => (do pure (f.offset, ← sizeOf f.type) : Sem (Nat × Nat))).run Try.prog w = .ok [(0, 1), (1, 1), (2, 1), (3, 1)] w := by
  simp only [Program.fieldsOf, Try.underlying33]
  refine run_places _ _ rfl ?_
  intro j fd p hf hp
  rcases j with _ | j; · obtain rfl := Option.some.inj hf; obtain rfl := Option.some.inj hp; exact ⟨rfl, ok3.size⟩
  rcases j with _ | j; · obtain rfl := Option.some.inj hf; obtain rfl := Option.some.inj hp; exact ⟨rfl, ok3.size⟩
  rcases j with _ | j; · obtain rfl := Option.some.inj hf; obtain rfl := Option.some.inj hp; exact ⟨rfl, ok2.size⟩
  rcases j with _ | j; · obtain rfl := Option.some.inj hf; obtain rfl := Option.some.inj hp; exact ⟨rfl, ok31.size⟩
  cases hp
theorem pl36 (w : World) : (((Try.prog.fieldsOf 36).toList).mapM fun f => (do pure (f.offset, ← sizeOf f.type) : Sem (Nat × Nat))).run Try.prog w = .ok [(0, 1), (1, 1)] w := by
  simp only [Program.fieldsOf, Try.underlying36]
  refine run_places _ _ rfl ?_
  intro j fd p hf hp
  rcases j with _ | j; · obtain rfl := Option.some.inj hf; obtain rfl := Option.some.inj hp; exact ⟨rfl, ok2.size⟩
  rcases j with _ | j; · obtain rfl := Option.some.inj hf; obtain rfl := Option.some.inj hp; exact ⟨rfl, ok2.size⟩
  cases hp
theorem pl58 (w : World) : (((Try.prog.fieldsOf 58).toList).mapM fun f => (do pure (f.offset, ← sizeOf f.type) : Sem (Nat × Nat))).run Try.prog w = .ok [(0, 1), (1, 1)] w := by
  simp only [Program.fieldsOf, Try.underlying58]
  refine run_places _ _ rfl ?_
  intro j fd p hf hp
  rcases j with _ | j; · obtain rfl := Option.some.inj hf; obtain rfl := Option.some.inj hp; exact ⟨rfl, ok3.size⟩
  rcases j with _ | j; · obtain rfl := Option.some.inj hf; obtain rfl := Option.some.inj hp; exact ⟨rfl, ok2.size⟩
  cases hp
theorem pl67 (w : World) : (((Try.prog.fieldsOf 67).toList).mapM fun f => (do pure (f.offset, ← sizeOf f.type) : Sem (Nat × Nat))).run Try.prog w = .ok [(0, 1), (1, 1), (2, 1)] w := by
  simp only [Program.fieldsOf, Try.underlying67]
  refine run_places _ _ rfl ?_
  intro j fd p hf hp
  rcases j with _ | j; · obtain rfl := Option.some.inj hf; obtain rfl := Option.some.inj hp; exact ⟨rfl, ok65.size⟩
  rcases j with _ | j; · obtain rfl := Option.some.inj hf; obtain rfl := Option.some.inj hp; exact ⟨rfl, ok2.size⟩
  rcases j with _ | j; · obtain rfl := Option.some.inj hf; obtain rfl := Option.some.inj hp; exact ⟨rfl, ok2.size⟩
  cases hp
theorem pl76 (w : World) : (((Try.prog.fieldsOf 76).toList).mapM fun f => (do pure (f.offset, ← sizeOf f.type) : Sem (Nat × Nat))).run Try.prog w = .ok [(0, 1), (1, 2)] w := by
  simp only [Program.fieldsOf, Try.underlying76]
  refine run_places _ _ rfl ?_
  intro j fd p hf hp
  rcases j with _ | j; · obtain rfl := Option.some.inj hf; obtain rfl := Option.some.inj hp; exact ⟨rfl, ok2.size⟩
  rcases j with _ | j; · obtain rfl := Option.some.inj hf; obtain rfl := Option.some.inj hp; exact ⟨rfl, ok58.size⟩
  cases hp
theorem pl94 (w : World) : (((Try.prog.fieldsOf 94).toList).mapM fun f => (do pure (f.offset, ← sizeOf f.type) : Sem (Nat × Nat))).run Try.prog w = .ok [(0, 1), (1, 1)] w := by
  simp only [Program.fieldsOf, Try.underlying94]
  refine run_places _ _ rfl ?_
  intro j fd p hf hp
  rcases j with _ | j; · obtain rfl := Option.some.inj hf; obtain rfl := Option.some.inj hp; exact ⟨rfl, ok77.size⟩
  rcases j with _ | j; · obtain rfl := Option.some.inj hf; obtain rfl := Option.some.inj hp; exact ⟨rfl, ok2.size⟩
  cases hp
theorem pl98 (w : World) : (((Try.prog.fieldsOf 98).toList).mapM fun f => (do pure (f.offset, ← sizeOf f.type) : Sem (Nat × Nat))).run Try.prog w = .ok [] w := by
  simp only [Program.fieldsOf, Try.underlying98]
  refine run_places _ _ rfl ?_
  intro j fd p hf hp
  cases hp
theorem q_build27_ {n : Nat} {f : Nat → Value} {w : World} {o : Oper} (ho : o.op = .build 27 #[]) : (execOp (evl n f) o).run Try.prog w = .ok (.value (T26.enc ⟨(⟨none, 0, 0⟩ : Slc), (0 : Int), (0 : Int)⟩)) w :=
  q_build (ps := []) (pv := []) (cs := S26.cells ⟨(⟨none, 0, 0⟩ : Slc), (0 : Int), (0 : Int)⟩) ho Try.underlying27 inf27 (by have := pl27; simp only [Program.fieldsOf, Try.underlying27] at this; exact this) (by simp only [List.map_cons, List.map_nil]) (by rfl)
theorem q_build33_3 {n : Nat} {f : Nat → Value} {w : World} {o : Oper} {x3 : Operand} {v3 : Slc} (ho : o.op = .build 33 #[(3, x3)]) (h3 : evl n f x3 = tSlc.enc (v3)) : (execOp (evl n f) o).run Try.prog w = .ok (.value (T32.enc ⟨(0 : Int), (0 : Int), (0 : Int), v3⟩)) w :=
  q_build (ps := [(3, x3)]) (pv := [(3, tSlc.enc (v3))]) (cs := S32.cells ⟨(0 : Int), (0 : Int), (0 : Int), v3⟩) ho Try.underlying33 inf33 (by have := pl33; simp only [Program.fieldsOf, Try.underlying33] at this; exact this) (by simp only [List.map_cons, List.map_nil, h3]) (by rfl)
theorem q_build36_ {n : Nat} {f : Nat → Value} {w : World} {o : Oper} (ho : o.op = .build 36 #[]) : (execOp (evl n f) o).run Try.prog w = .ok (.value (T35.enc ⟨(0 : Int), (0 : Int)⟩)) w :=
  q_build (ps := []) (pv := []) (cs := S35.cells ⟨(0 : Int), (0 : Int)⟩) ho Try.underlying36 inf36 (by have := pl36; simp only [Program.fieldsOf, Try.underlying36] at this; exact this) (by simp only [List.map_cons, List.map_nil]) (by rfl)
theorem q_build36_0_1 {n : Nat} {f : Nat → Value} {w : World} {o : Oper} {x0 : Operand} {x1 : Operand} {v0 : Int} {v1 : Int} (ho : o.op = .build 36 #[(0, x0), (1, x1)]) (h0 : evl n f x0 = .int .i64 (v0)) (h1 : evl n f x1 = .int .i64 (v1)) : (execOp (evl n f) o).run Try.prog w = .ok (.value (T35.enc ⟨v0, v1⟩)) w :=
  q_build (ps := [(0, x0), (1, x1)]) (pv := [(0, .int .i64 (v0)), (1, .int .i64 (v1))]) (cs := S35.cells ⟨v0, v1⟩) ho Try.underlying36 inf36 (by have := pl36; simp only [Program.fieldsOf, Try.underlying36] at this; exact this) (by simp only [List.map_cons, List.map_nil, h0, h1]) (by rfl)
theorem q_build58_0_1 {n : Nat} {f : Nat → Value} {w : World} {o : Oper} {x0 : Operand} {x1 : Operand} {v0 : Int} {v1 : Int} (ho : o.op = .build 58 #[(0, x0), (1, x1)]) (h0 : evl n f x0 = .int .i64 (v0)) (h1 : evl n f x1 = .int .i64 (v1)) : (execOp (evl n f) o).run Try.prog w = .ok (.value (T57.enc ⟨v0, v1⟩)) w :=
  q_build (ps := [(0, x0), (1, x1)]) (pv := [(0, .int .i64 (v0)), (1, .int .i64 (v1))]) (cs := S57.cells ⟨v0, v1⟩) ho Try.underlying58 inf58 (by have := pl58; simp only [Program.fieldsOf, Try.underlying58] at this; exact this) (by simp only [List.map_cons, List.map_nil, h0, h1]) (by rfl)
theorem q_build67_0 {n : Nat} {f : Nat → Value} {w : World} {o : Oper} {x0 : Operand} {v0 : (Option Nat)} (ho : o.op = .build 67 #[(0, x0)]) (h0 : evl n f x0 = .map (v0)) : (execOp (evl n f) o).run Try.prog w = .ok (.value (T66.enc ⟨v0, (0 : Int), (0 : Int)⟩)) w :=
  q_build (ps := [(0, x0)]) (pv := [(0, .map (v0))]) (cs := S66.cells ⟨v0, (0 : Int), (0 : Int)⟩) ho Try.underlying67 inf67 (by have := pl67; simp only [Program.fieldsOf, Try.underlying67] at this; exact this) (by simp only [List.map_cons, List.map_nil, h0]) (by rfl)
theorem q_build76_0_1 {n : Nat} {f : Nat → Value} {w : World} {o : Oper} {x0 : Operand} {x1 : Operand} {v0 : Int} {v1 : S57} (ho : o.op = .build 76 #[(0, x0), (1, x1)]) (h0 : evl n f x0 = .int .i64 (v0)) (h1 : evl n f x1 = T57.enc (v1)) : (execOp (evl n f) o).run Try.prog w = .ok (.value (T75.enc ⟨v0, v1⟩)) w :=
  q_build (ps := [(0, x0), (1, x1)]) (pv := [(0, .int .i64 (v0)), (1, T57.enc (v1))]) (cs := S75.cells ⟨v0, v1⟩) ho Try.underlying76 inf76 (by have := pl76; simp only [Program.fieldsOf, Try.underlying76] at this; exact this) (by simp only [List.map_cons, List.map_nil, h0, h1]) (by rfl)
theorem q_build94_ {n : Nat} {f : Nat → Value} {w : World} {o : Oper} (ho : o.op = .build 94 #[]) : (execOp (evl n f) o).run Try.prog w = .ok (.value (T93.enc ⟨(⟨none, 0, 0⟩ : Slc), (0 : Int)⟩)) w :=
  q_build (ps := []) (pv := []) (cs := S93.cells ⟨(⟨none, 0, 0⟩ : Slc), (0 : Int)⟩) ho Try.underlying94 inf94 (by have := pl94; simp only [Program.fieldsOf, Try.underlying94] at this; exact this) (by simp only [List.map_cons, List.map_nil]) (by rfl)
theorem q_build98_ {n : Nat} {f : Nat → Value} {w : World} {o : Oper} (ho : o.op = .build 98 #[]) : (execOp (evl n f) o).run Try.prog w = .ok (.value (T98.enc ⟨⟩)) w :=
  q_build (ps := []) (pv := []) (cs := S98.cells ⟨⟩) ho Try.underlying98 inf98 (by have := pl98; simp only [Program.fieldsOf, Try.underlying98] at this; exact this) (by simp only [List.map_cons, List.map_nil]) (by rfl)
def S35.eqb (x y : S35) : Bool := ((x.T_ == y.T_) && ((x.V == y.V) && true))
theorem eqIn36 {d : Nat} {w : World} (x y : S35) : (Op.equalIn (d + 2) 36 (.agg (S35.cells x).toArray) (.agg (S35.cells y).toArray)).run Try.prog w = .ok (S35.eqb x y) w :=
  eqI_struct Try.underlying36 (by kernel_rfl) (eqF_cons (by decide) (run_part1 Try.underlying2 rfl rfl) (run_part1 Try.underlying2 rfl rfl) (eqI_int Try.underlying2) (eqF_cons (by decide) (run_part1 Try.underlying2 rfl rfl) (run_part1 Try.underlying2 rfl rfl) (eqI_int Try.underlying2) eqF_nil))
theorem eq36 (x y : S35) : Try.prog.eqGuardType Try.prog.depth 36 = false ∧ ∀ w, (Op.equalIn 10000 36 (.agg (S35.cells x).toArray) (.agg (S35.cells y).toArray)).run Try.prog w = .ok (S35.eqb x y) w :=
  ⟨by kernel_rfl, fun _ => eqIn36 (d := 9998) x y⟩
end Go.Proofs.Ytdgdkbfigndndaa.Cf
