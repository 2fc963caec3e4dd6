/- The types of the program, typed. Printed by gen.py (own tool). -/
import Derived.Test.YtpflfnaflacfgaaCfM
import Derived.Test.YtpflfnaflacfgaaProg
namespace Go.Proofs.Ytpflfnaflacfgaa.Cf
open Go
set_option maxRecDepth 100000
set_option linter.unusedVariables false
set_option linter.unusedSimpArgs false
-- struct { Kind int; A int; B int; M string; Off bool }
structure S28 where
  Kind : Int
  A : Int
  B : Int
  M : (List UInt8)
  Off : Bool
def S28.cells (x : S28) : List Value := [.int .i64 (x.Kind), .int .i64 (x.A), .int .i64 (x.B), .string ⟨(x.M).toArray⟩, .bool (x.Off)]
@[reducible] def T28 : Ty S28 := tAgg S28.cells
@[reducible] def Z28 : S28 := ⟨(0 : Int), (0 : Int), (0 : Int), ([] : List UInt8), false⟩
-- struct { ID int; From int; To int; M string }
structure S35 where
  ID : Int
  From : Int
  To : Int
  M : (List UInt8)
def S35.cells (x : S35) : List Value := [.int .i64 (x.ID), .int .i64 (x.From), .int .i64 (x.To), .string ⟨(x.M).toArray⟩]
@[reducible] def T35 : Ty S35 := tAgg S35.cells
@[reducible] def Z35 : S35 := ⟨(0 : Int), (0 : Int), (0 : Int), ([] : List UInt8)⟩
-- struct { Nodes int; Sent int; Off [64]bool; L []moietyref09.Letter }
structure S48 where
  Nodes : Int
  Sent : Int
  Off : (Vector Bool 64)
  L : Slc
def S48.cells (x : S48) : List Value := [.int .i64 (x.Nodes), .int .i64 (x.Sent)] ++ ((x.Off).toList.flatMap tBool.cells ++ ([tSlc.enc (x.L)]))
@[reducible] def T48 : Ty S48 := tAgg S48.cells
@[reducible] def Z48 : S48 := ⟨(0 : Int), (0 : Int), (Vector.replicate 64 false), (⟨none, 0, 0⟩ : Slc)⟩
-- struct { ID int; From int; To int; M int }
structure S60 where
  ID : Int
  From : Int
  To : Int
  M : Int
def S60.cells (x : S60) : List Value := [.int .i64 (x.ID), .int .i64 (x.From), .int .i64 (x.To), .int .i64 (x.M)]
@[reducible] def T60 : Ty S60 := tAgg S60.cells
@[reducible] def Z60 : S60 := ⟨(0 : Int), (0 : Int), (0 : Int), (0 : Int)⟩
-- struct { nodes int; sent int; l []post.Letter[string]; off map[int]struct {} }
structure S64 where
  nodes : Int
  sent : Int
  l : Slc
  off : (Option Nat)
def S64.cells (x : S64) : List Value := [.int .i64 (x.nodes), .int .i64 (x.sent), tSlc.enc (x.l), .map (x.off)]
@[reducible] def T64 : Ty S64 := tAgg S64.cells
@[reducible] def Z64 : S64 := ⟨(0 : Int), (0 : Int), (⟨none, 0, 0⟩ : Slc), (none : Option Nat)⟩
-- struct {}
structure S68 where
def S68.cells (x : S68) : List Value := []
@[reducible] def T68 : Ty S68 := tAgg S68.cells
@[reducible] def Z68 : S68 := ⟨⟩
-- struct { nodes int; sent int; l []post.Letter[int]; off map[int]struct {} }
structure S81 where
  nodes : Int
  sent : Int
  l : Slc
  off : (Option Nat)
def S81.cells (x : S81) : List Value := [.int .i64 (x.nodes), .int .i64 (x.sent), tSlc.enc (x.l), .map (x.off)]
@[reducible] def T81 : Ty S81 := tAgg S81.cells
@[reducible] def Z81 : S81 := ⟨(0 : Int), (0 : Int), (⟨none, 0, 0⟩ : Slc), (none : Option Nat)⟩
theorem inf3 : ∃ i, Try.prog.info? 3 = some i ∧ i.zero = some (.int .i64 ((0 : Int))) ∧ i.size = 1 ∧ i.bytes = 8 := info_four (by kernel_rfl)
theorem ok3 : TyOk Try.prog 3 (tInt .i64) 1 := ⟨(inf3).imp fun _ h => ⟨h.1, h.2.2.1⟩, fun _ => rfl, .inr ⟨_, Try.underlying3, rfl, rfl, fun _ => rfl⟩, fun x => rfl, fun x v hv => by obtain rfl := List.mem_singleton.1 hv; exact rfl⟩
theorem inf4 : ∃ i, Try.prog.info? 4 = some i ∧ i.zero = some (.bool (false)) ∧ i.size = 1 ∧ i.bytes = 1 := info_four (by kernel_rfl)
theorem ok4 : TyOk Try.prog 4 tBool 1 := ⟨(inf4).imp fun _ h => ⟨h.1, h.2.2.1⟩, fun _ => rfl, .inr ⟨_, Try.underlying4, rfl, rfl, fun _ => rfl⟩, fun x => rfl, fun x v hv => by obtain rfl := List.mem_singleton.1 hv; exact rfl⟩
theorem inf5 : ∃ i, Try.prog.info? 5 = some i ∧ i.zero = some (.int .u8 ((0 : Int))) ∧ i.size = 1 ∧ i.bytes = 1 := info_four (by kernel_rfl)
theorem ok5 : TyOk Try.prog 5 (tInt .u8) 1 := ⟨(inf5).imp fun _ h => ⟨h.1, h.2.2.1⟩, fun _ => rfl, .inr ⟨_, Try.underlying5, rfl, rfl, fun _ => rfl⟩, fun x => rfl, fun x v hv => by obtain rfl := List.mem_singleton.1 hv; exact rfl⟩
theorem inf9 : ∃ i, Try.prog.info? 9 = some i ∧ i.zero = some (.string ⟨(([] : List UInt8)).toArray⟩) ∧ i.size = 1 ∧ i.bytes = 16 := info_four (by kernel_rfl)
theorem ok9 : TyOk Try.prog 9 tStr 1 := ⟨(inf9).imp fun _ h => ⟨h.1, h.2.2.1⟩, fun _ => rfl, .inr ⟨_, Try.underlying9, rfl, rfl, fun _ => rfl⟩, fun x => rfl, fun x v hv => by obtain rfl := List.mem_singleton.1 hv; exact rfl⟩
theorem inf22 : ∃ i, Try.prog.info? 22 = some i ∧ i.zero = some (tSlc.enc ((⟨none, 0, 0⟩ : Slc))) ∧ i.size = 1 ∧ i.bytes = 24 := info_four (by kernel_rfl)
theorem ok22 : TyOk Try.prog 22 tSlc 1 := ⟨(inf22).imp fun _ h => ⟨h.1, h.2.2.1⟩, fun _ => rfl, .inr ⟨_, Try.underlying22, rfl, rfl, fun _ => rfl⟩, fun x => rfl, fun x v hv => by obtain rfl := List.mem_singleton.1 hv; exact rfl⟩
theorem inf23 : ∃ i, Try.prog.info? 23 = some i ∧ i.zero = some (.pointer ((none : Option Addr))) ∧ i.size = 1 ∧ i.bytes = 8 := info_four (by kernel_rfl)
theorem ok23 : TyOk Try.prog 23 tPtr 1 := ⟨(inf23).imp fun _ h => ⟨h.1, h.2.2.1⟩, fun _ => rfl, .inr ⟨_, Try.underlying23, rfl, rfl, fun _ => rfl⟩, fun x => rfl, fun x v hv => by obtain rfl := List.mem_singleton.1 hv; exact rfl⟩
theorem inf24 : ∃ i, Try.prog.info? 24 = some i ∧ i.zero = some (.int .i64 ((0 : Int))) ∧ i.size = 1 ∧ i.bytes = 8 := info_four (by kernel_rfl)
theorem ok24 : TyOk Try.prog 24 (tInt .i64) 1 := ⟨(inf24).imp fun _ h => ⟨h.1, h.2.2.1⟩, fun _ => rfl, .inr ⟨_, Try.underlying24, rfl, rfl, fun _ => rfl⟩, fun x => rfl, fun x v hv => by obtain rfl := List.mem_singleton.1 hv; exact rfl⟩
theorem inf29 : ∃ i, Try.prog.info? 29 = some i ∧ i.zero = some (T28.enc (Z28)) ∧ i.size = 5 ∧ i.bytes = 48 := info_four (by kernel_rfl)
theorem len29 (x : S28) : (T28.cells x).length = 5 := by rfl
theorem one29 (x : S28) : ∀ v ∈ T28.cells x, v.oneCell' = true := by
  show ∀ v ∈ S28.cells x, v.oneCell' = true
  simp only [S28.cells, List.forall_mem_append, List.forall_mem_cons, List.forall_mem_nil]
  exact ⟨rfl, rfl, rfl, rfl, rfl, fun _ h => absurd h (List.not_mem_nil)⟩
theorem ok29 : TyOk Try.prog 29 T28 5 := ⟨(inf29).imp fun _ h => ⟨h.1, h.2.2.1⟩, len29, .inl ⟨_, Try.underlying29, rfl, fun _ => rfl⟩, fun _ => rfl, one29⟩
theorem inf33 : ∃ i, Try.prog.info? 33 = some i ∧ i.zero = some (tSlc.enc ((⟨none, 0, 0⟩ : Slc))) ∧ i.size = 1 ∧ i.bytes = 24 := info_four (by kernel_rfl)
theorem ok33 : TyOk Try.prog 33 tSlc 1 := ⟨(inf33).imp fun _ h => ⟨h.1, h.2.2.1⟩, fun _ => rfl, .inr ⟨_, Try.underlying33, rfl, rfl, fun _ => rfl⟩, fun x => rfl, fun x v hv => by obtain rfl := List.mem_singleton.1 hv; exact rfl⟩
theorem inf36 : ∃ i, Try.prog.info? 36 = some i ∧ i.zero = some (T35.enc (Z35)) ∧ i.size = 4 ∧ i.bytes = 40 := info_four (by kernel_rfl)
theorem len36 (x : S35) : (T35.cells x).length = 4 := by rfl
theorem one36 (x : S35) : ∀ v ∈ T35.cells x, v.oneCell' = true := by
  show ∀ v ∈ S35.cells x, v.oneCell' = true
  simp only [S35.cells, List.forall_mem_append, List.forall_mem_cons, List.forall_mem_nil]
  exact ⟨rfl, rfl, rfl, rfl, fun _ h => absurd h (List.not_mem_nil)⟩
theorem ok36 : TyOk Try.prog 36 T35 4 := ⟨(inf36).imp fun _ h => ⟨h.1, h.2.2.1⟩, len36, .inl ⟨_, Try.underlying36, rfl, fun _ => rfl⟩, fun _ => rfl, one36⟩
theorem inf42 : ∃ i, Try.prog.info? 42 = some i ∧ i.zero = some (((tArr T28 61).enc (Vector.replicate 61 Z28))) ∧ i.size = 305 ∧ i.bytes = 2928 := info_four (by kernel_rfl)
theorem ok42 : TyOk Try.prog 42 (tArr T28 61) 305 := ⟨(inf42).imp fun _ h => ⟨h.1, h.2.2.1⟩, fun x => by simp [flatMap_const_len ok29.len], .inl ⟨_, Try.underlying42, rfl, fun _ => rfl⟩, fun _ => rfl, fun x v hv => by obtain ⟨y, _, hy⟩ := List.mem_flatMap.1 hv; exact ok29.one y v hy⟩
theorem inf43 : ∃ i, Try.prog.info? 43 = some i ∧ i.zero = some (((tArr (tInt .i64) 61).enc (Vector.replicate 61 (0 : Int)))) ∧ i.size = 61 ∧ i.bytes = 488 := info_four (by kernel_rfl)
theorem ok43 : TyOk Try.prog 43 (tArr (tInt .i64) 61) 61 := ⟨(inf43).imp fun _ h => ⟨h.1, h.2.2.1⟩, fun x => by simp [flatMap_const_len ok3.len], .inl ⟨_, Try.underlying43, rfl, fun _ => rfl⟩, fun _ => rfl, fun x v hv => by obtain ⟨y, _, hy⟩ := List.mem_flatMap.1 hv; exact ok3.one y v hy⟩
theorem inf46 : ∃ i, Try.prog.info? 46 = some i ∧ i.zero = some (((tArr tBool 64).enc (Vector.replicate 64 false))) ∧ i.size = 64 ∧ i.bytes = 64 := info_four (by kernel_rfl)
theorem ok46 : TyOk Try.prog 46 (tArr tBool 64) 64 := ⟨(inf46).imp fun _ h => ⟨h.1, h.2.2.1⟩, fun x => by simp [flatMap_const_len ok4.len], .inl ⟨_, Try.underlying46, rfl, fun _ => rfl⟩, fun _ => rfl, fun x v hv => by obtain ⟨y, _, hy⟩ := List.mem_flatMap.1 hv; exact ok4.one y v hy⟩
theorem inf47 : ∃ i, Try.prog.info? 47 = some i ∧ i.zero = some (tSlc.enc ((⟨none, 0, 0⟩ : Slc))) ∧ i.size = 1 ∧ i.bytes = 24 := info_four (by kernel_rfl)
theorem ok47 : TyOk Try.prog 47 tSlc 1 := ⟨(inf47).imp fun _ h => ⟨h.1, h.2.2.1⟩, fun _ => rfl, .inr ⟨_, Try.underlying47, rfl, rfl, fun _ => rfl⟩, fun x => rfl, fun x v hv => by obtain rfl := List.mem_singleton.1 hv; exact rfl⟩
theorem inf49 : ∃ i, Try.prog.info? 49 = some i ∧ i.zero = some (T48.enc (Z48)) ∧ i.size = 67 ∧ i.bytes = 104 := info_four (by kernel_rfl)
theorem len49 (x : S48) : (T48.cells x).length = 67 := by
  show (S48.cells x).length = 67
  simp only [S48.cells, List.length_append, List.length_cons, List.length_nil, Vector.length_toList, flatMap_const_len ok4.len]
theorem one49 (x : S48) : ∀ v ∈ T48.cells x, v.oneCell' = true := by
  show ∀ v ∈ S48.cells x, v.oneCell' = true
  simp only [S48.cells, List.forall_mem_append, List.forall_mem_cons, List.forall_mem_nil]
  exact ⟨⟨rfl, rfl, fun _ h => absurd h (List.not_mem_nil)⟩, ok46.one _, ⟨rfl, fun _ h => absurd h (List.not_mem_nil)⟩⟩
theorem ok49 : TyOk Try.prog 49 T48 67 := ⟨(inf49).imp fun _ h => ⟨h.1, h.2.2.1⟩, len49, .inl ⟨_, Try.underlying49, rfl, fun _ => rfl⟩, fun _ => rfl, one49⟩
theorem inf54 : ∃ i, Try.prog.info? 54 = some i ∧ i.zero = some (.pointer ((none : Option Addr))) ∧ i.size = 1 ∧ i.bytes = 8 := info_four (by kernel_rfl)
theorem ok54 : TyOk Try.prog 54 tPtr 1 := ⟨(inf54).imp fun _ h => ⟨h.1, h.2.2.1⟩, fun _ => rfl, .inr ⟨_, Try.underlying54, rfl, rfl, fun _ => rfl⟩, fun x => rfl, fun x v hv => by obtain rfl := List.mem_singleton.1 hv; exact rfl⟩
theorem inf58 : ∃ i, Try.prog.info? 58 = some i ∧ i.zero = some (tSlc.enc ((⟨none, 0, 0⟩ : Slc))) ∧ i.size = 1 ∧ i.bytes = 24 := info_four (by kernel_rfl)
theorem ok58 : TyOk Try.prog 58 tSlc 1 := ⟨(inf58).imp fun _ h => ⟨h.1, h.2.2.1⟩, fun _ => rfl, .inr ⟨_, Try.underlying58, rfl, rfl, fun _ => rfl⟩, fun x => rfl, fun x v hv => by obtain rfl := List.mem_singleton.1 hv; exact rfl⟩
theorem inf61 : ∃ i, Try.prog.info? 61 = some i ∧ i.zero = some (T60.enc (Z60)) ∧ i.size = 4 ∧ i.bytes = 32 := info_four (by kernel_rfl)
theorem len61 (x : S60) : (T60.cells x).length = 4 := by rfl
theorem one61 (x : S60) : ∀ v ∈ T60.cells x, v.oneCell' = true := by
  show ∀ v ∈ S60.cells x, v.oneCell' = true
  simp only [S60.cells, List.forall_mem_append, List.forall_mem_cons, List.forall_mem_nil]
  exact ⟨rfl, rfl, rfl, rfl, fun _ h => absurd h (List.not_mem_nil)⟩
theorem ok61 : TyOk Try.prog 61 T60 4 := ⟨(inf61).imp fun _ h => ⟨h.1, h.2.2.1⟩, len61, .inl ⟨_, Try.underlying61, rfl, fun _ => rfl⟩, fun _ => rfl, one61⟩
theorem inf63 : ∃ i, Try.prog.info? 63 = some i ∧ i.zero = some (.map ((none : Option Nat))) ∧ i.size = 1 ∧ i.bytes = 8 := info_four (by kernel_rfl)
theorem ok63 : TyOk Try.prog 63 tMap 1 := ⟨(inf63).imp fun _ h => ⟨h.1, h.2.2.1⟩, fun _ => rfl, .inr ⟨_, Try.underlying63, rfl, rfl, fun _ => rfl⟩, fun x => rfl, fun x v hv => by obtain rfl := List.mem_singleton.1 hv; exact rfl⟩
theorem inf65 : ∃ i, Try.prog.info? 65 = some i ∧ i.zero = some (T64.enc (Z64)) ∧ i.size = 4 ∧ i.bytes = 48 := info_four (by kernel_rfl)
theorem len65 (x : S64) : (T64.cells x).length = 4 := by rfl
theorem one65 (x : S64) : ∀ v ∈ T64.cells x, v.oneCell' = true := by
  show ∀ v ∈ S64.cells x, v.oneCell' = true
  simp only [S64.cells, List.forall_mem_append, List.forall_mem_cons, List.forall_mem_nil]
  exact ⟨rfl, rfl, rfl, rfl, fun _ h => absurd h (List.not_mem_nil)⟩
theorem ok65 : TyOk Try.prog 65 T64 4 := ⟨(inf65).imp fun _ h => ⟨h.1, h.2.2.1⟩, len65, .inl ⟨_, Try.underlying65, rfl, fun _ => rfl⟩, fun _ => rfl, one65⟩
theorem inf68 : ∃ i, Try.prog.info? 68 = some i ∧ i.zero = some (T68.enc (Z68)) ∧ i.size = 0 ∧ i.bytes = 0 := info_four (by kernel_rfl)
theorem len68 (x : S68) : (T68.cells x).length = 0 := by rfl
theorem one68 (x : S68) : ∀ v ∈ T68.cells x, v.oneCell' = true := by
  show ∀ v ∈ S68.cells x, v.oneCell' = true
  simp only [S68.cells, List.forall_mem_append, List.forall_mem_cons, List.forall_mem_nil]
  exact fun _ h => absurd h (List.not_mem_nil)
theorem ok68 : TyOk Try.prog 68 T68 0 := ⟨(inf68).imp fun _ h => ⟨h.1, h.2.2.1⟩, len68, .inl ⟨_, Try.underlying68, rfl, fun _ => rfl⟩, fun _ => rfl, one68⟩
theorem inf72 : ∃ i, Try.prog.info? 72 = some i ∧ i.zero = some ((Fv.nil).enc) ∧ i.size = 1 ∧ i.bytes = 8 := info_four (by kernel_rfl)
theorem ok72 : TyOk Try.prog 72 tFun 1 := ⟨(inf72).imp fun _ h => ⟨h.1, h.2.2.1⟩, fun _ => rfl, .inr ⟨_, Try.underlying72, rfl, rfl, fun _ => rfl⟩, fun x => Fv.flat _, fun x v hv => by obtain rfl := List.mem_singleton.1 hv; exact Fv.one _⟩
theorem inf75 : ∃ i, Try.prog.info? 75 = some i ∧ i.zero = some (T35.enc (Z35)) ∧ i.size = 4 ∧ i.bytes = 40 := info_four (by kernel_rfl)
theorem len75 (x : S35) : (T35.cells x).length = 4 := by rfl
theorem one75 (x : S35) : ∀ v ∈ T35.cells x, v.oneCell' = true := by
  show ∀ v ∈ S35.cells x, v.oneCell' = true
  simp only [S35.cells, List.forall_mem_append, List.forall_mem_cons, List.forall_mem_nil]
  exact ⟨rfl, rfl, rfl, rfl, fun _ h => absurd h (List.not_mem_nil)⟩
theorem ok75 : TyOk Try.prog 75 T35 4 := ⟨(inf75).imp fun _ h => ⟨h.1, h.2.2.1⟩, len75, .inl ⟨_, Try.underlying75, rfl, fun _ => rfl⟩, fun _ => rfl, one75⟩
theorem inf82 : ∃ i, Try.prog.info? 82 = some i ∧ i.zero = some (T81.enc (Z81)) ∧ i.size = 4 ∧ i.bytes = 48 := info_four (by kernel_rfl)
theorem len82 (x : S81) : (T81.cells x).length = 4 := by rfl
theorem one82 (x : S81) : ∀ v ∈ T81.cells x, v.oneCell' = true := by
  show ∀ v ∈ S81.cells x, v.oneCell' = true
  simp only [S81.cells, List.forall_mem_append, List.forall_mem_cons, List.forall_mem_nil]
  exact ⟨rfl, rfl, rfl, rfl, fun _ h => absurd h (List.not_mem_nil)⟩
theorem ok82 : TyOk Try.prog 82 T81 4 := ⟨(inf82).imp fun _ h => ⟨h.1, h.2.2.1⟩, len82, .inl ⟨_, Try.underlying82, rfl, fun _ => rfl⟩, fun _ => rfl, one82⟩
theorem inf89 : ∃ i, Try.prog.info? 89 = some i ∧ i.zero = some ((Fv.nil).enc) ∧ i.size = 1 ∧ i.bytes = 8 := info_four (by kernel_rfl)
theorem ok89 : TyOk Try.prog 89 tFun 1 := ⟨(inf89).imp fun _ h => ⟨h.1, h.2.2.1⟩, fun _ => rfl, .inr ⟨_, Try.underlying89, rfl, rfl, fun _ => rfl⟩, fun x => Fv.flat _, fun x v hv => by obtain rfl := List.mem_singleton.1 hv; exact Fv.one _⟩
theorem ent3 : Enters Try.prog 3 := ⟨_, Try.func3, rfl, by decide⟩
theorem ent4 : Enters Try.prog 4 := ⟨_, Try.func4, rfl, by decide⟩
theorem ent5 : Enters Try.prog 5 := ⟨_, Try.func5, rfl, by decide⟩
theorem ent6 : Enters Try.prog 6 := ⟨_, Try.func6, rfl, by decide⟩
theorem ent7 : Enters Try.prog 7 := ⟨_, Try.func7, rfl, by decide⟩
theorem ent8 : Enters Try.prog 8 := ⟨_, Try.func8, rfl, by decide⟩
theorem ent9 : Enters Try.prog 9 := ⟨_, Try.func9, rfl, by decide⟩
theorem ent10 : Enters Try.prog 10 := ⟨_, Try.func10, rfl, by decide⟩
theorem ent11 : Enters Try.prog 11 := ⟨_, Try.func11, rfl, by decide⟩
theorem ent12 : Enters Try.prog 12 := ⟨_, Try.func12, rfl, by decide⟩
theorem ent13 : Enters Try.prog 13 := ⟨_, Try.func13, rfl, by decide⟩
theorem ent14 : Enters Try.prog 14 := ⟨_, Try.func14, rfl, by decide⟩
theorem ent15 : Enters Try.prog 15 := ⟨_, Try.func15, rfl, by decide⟩
theorem ent16 : Enters Try.prog 16 := ⟨_, Try.func16, rfl, by decide⟩
theorem ent17 : Enters Try.prog 17 := ⟨_, Try.func17, rfl, by decide⟩
theorem ent18 : Enters Try.prog 18 := ⟨_, Try.func18, rfl, by decide⟩
theorem ent19 : Enters Try.prog 19 := ⟨_, Try.func19, rfl, by decide⟩
theorem ent20 : Enters Try.prog 20 := ⟨_, Try.func20, rfl, by decide⟩
theorem ent21 : Enters Try.prog 21 := ⟨_, Try.func21, rfl, by decide⟩
theorem ent22 : Enters Try.prog 22 := ⟨_, Try.func22, rfl, by decide⟩
theorem ent23 : Enters Try.prog 23 := ⟨_, Try.func23, rfl, by decide⟩
theorem ent24 : Enters Try.prog 24 := ⟨_, Try.func24, rfl, by decide⟩
theorem ent25 : Enters Try.prog 25 := ⟨_, Try.func25, rfl, by decide⟩
theorem ent26 : Enters Try.prog 26 := ⟨_, Try.func26, rfl, by decide⟩
theorem ent27 : Enters Try.prog 27 := ⟨_, Try.func27, rfl, by decide⟩
theorem ent28 : Enters Try.prog 28 := ⟨_, Try.func28, rfl, by decide⟩
theorem ent29 : Enters Try.prog 29 := ⟨_, Try.func29, rfl, by decide⟩
theorem ent30 : Enters Try.prog 30 := ⟨_, Try.func30, rfl, by decide⟩
theorem ent31 : Enters Try.prog 31 := ⟨_, Try.func31, rfl, by decide⟩
theorem ent32 : Enters Try.prog 32 := ⟨_, Try.func32, rfl, by decide⟩
theorem ent33 : Enters Try.prog 33 := ⟨_, Try.func33, rfl, by decide⟩
theorem ent34 : Enters Try.prog 34 := ⟨_, Try.func34, rfl, by decide⟩
theorem ent35 : Enters Try.prog 35 := ⟨_, Try.func35, rfl, by decide⟩
theorem ent36 : Enters Try.prog 36 := ⟨_, Try.func36, rfl, by decide⟩
theorem ent37 : Enters Try.prog 37 := ⟨_, Try.func37, rfl, by decide⟩
theorem ent38 : Enters Try.prog 38 := ⟨_, Try.func38, rfl, by decide⟩
theorem ent39 : Enters Try.prog 39 := ⟨_, Try.func39, rfl, by decide⟩
theorem ent40 : Enters Try.prog 40 := ⟨_, Try.func40, rfl, by decide⟩
theorem ent41 : Enters Try.prog 41 := ⟨_, Try.func41, rfl, by decide⟩
theorem ent42 : Enters Try.prog 42 := ⟨_, Try.func42, rfl, by decide⟩
theorem ent43 : Enters Try.prog 43 := ⟨_, Try.func43, rfl, by decide⟩
theorem ent44 : Enters Try.prog 44 := ⟨_, Try.func44, rfl, by decide⟩
theorem ent45 : Enters Try.prog 45 := ⟨_, Try.func45, rfl, by decide⟩
theorem ent46 : Enters Try.prog 46 := ⟨_, Try.func46, rfl, by decide⟩
theorem ent47 : Enters Try.prog 47 := ⟨_, Try.func47, rfl, by decide⟩
theorem ent48 : Enters Try.prog 48 := ⟨_, Try.func48, rfl, by decide⟩
theorem ent49 : Enters Try.prog 49 := ⟨_, Try.func49, rfl, by decide⟩
theorem ent50 : Enters Try.prog 50 := ⟨_, Try.func50, rfl, by decide⟩
theorem ent51 : Enters Try.prog 51 := ⟨_, Try.func51, rfl, by decide⟩
theorem mixed : Try.prog.follows .mixedOrders = true := by kernel_rfl
theorem pl36 (w : World) : (((Try.prog.fieldsOf 36).toList).mapM fun f => (do pure (f.offset, ← sizeOf f.type) : Sem (Nat × Nat))).run Try.prog w = .ok [(0, 1), (1, 1), (2, 1), (3, 1)] w := by
  simp only [Program.fieldsOf, Try.underlying36]
  refine run_places _ _ rfl ?_
  intro j fd p hf hp
  rcases j with _ | j; · obtain rfl := Option.some.inj hf; obtain rfl := Option.some.inj hp; exact ⟨rfl, ok3.size⟩
  rcases j with _ | j; · obtain rfl := Option.some.inj hf; obtain rfl := Option.some.inj hp; exact ⟨rfl, ok3.size⟩
  rcases j with _ | j; · obtain rfl := Option.some.inj hf; obtain rfl := Option.some.inj hp; exact ⟨rfl, ok3.size⟩
  rcases j with _ | j; · obtain rfl := Option.some.inj hf; obtain rfl := Option.some.inj hp; exact ⟨rfl, ok9.size⟩
  cases hp
theorem pl49 (w : World) : (((Try.prog.fieldsOf 49).toList).mapM fun f => (do pure (f.offset, ← sizeOf f.type) : Sem (Nat × Nat))).run Try.prog w = .ok [(0, 1), (1, 1), (2, 64), (66, 1)] w := by
  simp only [Program.fieldsOf, Try.underlying49]
  refine run_places _ _ rfl ?_
  intro j fd p hf hp
  rcases j with _ | j; · obtain rfl := Option.some.inj hf; obtain rfl := Option.some.inj hp; exact ⟨rfl, ok3.size⟩
  rcases j with _ | j; · obtain rfl := Option.some.inj hf; obtain rfl := Option.some.inj hp; exact ⟨rfl, ok3.size⟩
  rcases j with _ | j; · obtain rfl := Option.some.inj hf; obtain rfl := Option.some.inj hp; exact ⟨rfl, ok46.size⟩
  rcases j with _ | j; · obtain rfl := Option.some.inj hf; obtain rfl := Option.some.inj hp; exact ⟨rfl, ok47.size⟩
  cases hp
theorem pl61 (w : World) : (((Try.prog.fieldsOf 61).toList).mapM fun f => (do pure (f.offset, ← sizeOf f.type) : Sem (Nat × Nat))).run Try.prog w = .ok [(0, 1), (1, 1), (2, 1), (3, 1)] w := by
  simp only [Program.fieldsOf, Try.underlying61]
  refine run_places _ _ rfl ?_
  intro j fd p hf hp
  rcases j with _ | j; · obtain rfl := Option.some.inj hf; obtain rfl := Option.some.inj hp; exact ⟨rfl, ok3.size⟩
  rcases j with _ | j; · obtain rfl := Option.some.inj hf; obtain rfl := Option.some.inj hp; exact ⟨rfl, ok3.size⟩
  rcases j with _ | j; · obtain rfl := Option.some.inj hf; obtain rfl := Option.some.inj hp; exact ⟨rfl, ok3.size⟩
  rcases j with _ | j; · obtain rfl := Option.some.inj hf; obtain rfl := Option.some.inj hp; exact ⟨rfl, ok3.size⟩
  cases hp
theorem pl65 (w : World) : (((Try.prog.fieldsOf 65).toList).mapM fun f => (do pure (f.offset, ← sizeOf f.type) : Sem (Nat × Nat))).run Try.prog w = .ok [(0, 1), (1, 1), (2, 1), (3, 1)] w := by
  simp only [Program.fieldsOf, Try.underlying65]
  refine run_places _ _ rfl ?_
  intro j fd p hf hp
  rcases j with _ | j; · obtain rfl := Option.some.inj hf; obtain rfl := Option.some.inj hp; exact ⟨rfl, ok3.size⟩
  rcases j with _ | j; · obtain rfl := Option.some.inj hf; obtain rfl := Option.some.inj hp; exact ⟨rfl, ok3.size⟩
  rcases j with _ | j; · obtain rfl := Option.some.inj hf; obtain rfl := Option.some.inj hp; exact ⟨rfl, ok33.size⟩
  rcases j with _ | j; · obtain rfl := Option.some.inj hf; obtain rfl := Option.some.inj hp; exact ⟨rfl, ok63.size⟩
  cases hp
theorem pl68 (w : World) : (((Try.prog.fieldsOf 68).toList).mapM fun f => (do pure (f.offset, ← sizeOf f.type) : Sem (Nat × Nat))).run Try.prog w = .ok [] w := by
  simp only [Program.fieldsOf, Try.underlying68]
  refine run_places _ _ rfl ?_
  intro j fd p hf hp
  cases hp
theorem pl75 (w : World) : (((Try.prog.fieldsOf 75).toList).mapM fun f => (do pure (f.offset, ← sizeOf f.type) : Sem (Nat × Nat))).run Try.prog w = .ok [(0, 1), (1, 1), (2, 1), (3, 1)] w := by
  simp only [Program.fieldsOf, Try.underlying75]
  refine run_places _ _ rfl ?_
  intro j fd p hf hp
  rcases j with _ | j; · obtain rfl := Option.some.inj hf; obtain rfl := Option.some.inj hp; exact ⟨rfl, ok3.size⟩
  rcases j with _ | j; · obtain rfl := Option.some.inj hf; obtain rfl := Option.some.inj hp; exact ⟨rfl, ok3.size⟩
  rcases j with _ | j; · obtain rfl := Option.some.inj hf; obtain rfl := Option.some.inj hp; exact ⟨rfl, ok3.size⟩
  rcases j with _ | j; · obtain rfl := Option.some.inj hf; obtain rfl := Option.some.inj hp; exact ⟨rfl, ok9.size⟩
  cases hp
theorem pl82 (w : World) : (((Try.prog.fieldsOf 82).toList).mapM fun f => (do pure (f.offset, ← sizeOf f.type) : Sem (Nat × Nat))).run Try.prog w = .ok [(0, 1), (1, 1), (2, 1), (3, 1)] w := by
  simp only [Program.fieldsOf, Try.underlying82]
  refine run_places _ _ rfl ?_
  intro j fd p hf hp
  rcases j with _ | j; · obtain rfl := Option.some.inj hf; obtain rfl := Option.some.inj hp; exact ⟨rfl, ok3.size⟩
  rcases j with _ | j; · obtain rfl := Option.some.inj hf; obtain rfl := Option.some.inj hp; exact ⟨rfl, ok3.size⟩
  rcases j with _ | j; · obtain rfl := Option.some.inj hf; obtain rfl := Option.some.inj hp; exact ⟨rfl, ok58.size⟩
  rcases j with _ | j; · obtain rfl := Option.some.inj hf; obtain rfl := Option.some.inj hp; exact ⟨rfl, ok63.size⟩
  cases hp
theorem q_build36_ {n : Nat} {f : Nat → Value} {w : World} {o : Oper} (ho : o.op = .build 36 #[]) : (execOp (evl n f) o).run Try.prog w = .ok (.value (T35.enc ⟨(0 : Int), (0 : Int), (0 : Int), ([] : List UInt8)⟩)) w :=
  q_build (ps := []) (pv := []) (cs := S35.cells ⟨(0 : Int), (0 : Int), (0 : Int), ([] : List UInt8)⟩) ho Try.underlying36 inf36 (by have := pl36; simp only [Program.fieldsOf, Try.underlying36] at this; exact this) (by simp only [List.map_cons, List.map_nil]) (by rfl)
theorem q_build36_0 {n : Nat} {f : Nat → Value} {w : World} {o : Oper} {x0 : Operand} {v0 : Int} (ho : o.op = .build 36 #[(0, x0)]) (h0 : evl n f x0 = .int .i64 (v0)) : (execOp (evl n f) o).run Try.prog w = .ok (.value (T35.enc ⟨v0, (0 : Int), (0 : Int), ([] : List UInt8)⟩)) w :=
  q_build (ps := [(0, x0)]) (pv := [(0, .int .i64 (v0))]) (cs := S35.cells ⟨v0, (0 : Int), (0 : Int), ([] : List UInt8)⟩) ho Try.underlying36 inf36 (by have := pl36; simp only [Program.fieldsOf, Try.underlying36] at this; exact this) (by simp only [List.map_cons, List.map_nil, h0]) (by rfl)
theorem q_build36_0_1_2_3 {n : Nat} {f : Nat → Value} {w : World} {o : Oper} {x0 : Operand} {x1 : Operand} {x2 : Operand} {x3 : Operand} {v0 : Int} {v1 : Int} {v2 : Int} {v3 : (List UInt8)} (ho : o.op = .build 36 #[(0, x0), (1, x1), (2, x2), (3, x3)]) (h0 : evl n f x0 = .int .i64 (v0)) (h1 : evl n f x1 = .int .i64 (v1)) (h2 : evl n f x2 = .int .i64 (v2)) (h3 : evl n f x3 = .string ⟨(v3).toArray⟩) : (execOp (evl n f) o).run Try.prog w = .ok (.value (T35.enc ⟨v0, v1, v2, v3⟩)) w :=
  q_build (ps := [(0, x0), (1, x1), (2, x2), (3, x3)]) (pv := [(0, .int .i64 (v0)), (1, .int .i64 (v1)), (2, .int .i64 (v2)), (3, .string ⟨(v3).toArray⟩)]) (cs := S35.cells ⟨v0, v1, v2, v3⟩) ho Try.underlying36 inf36 (by have := pl36; simp only [Program.fieldsOf, Try.underlying36] at this; exact this) (by simp only [List.map_cons, List.map_nil, h0, h1, h2, h3]) (by rfl)
theorem q_build49_0 {n : Nat} {f : Nat → Value} {w : World} {o : Oper} {x0 : Operand} {v0 : Int} (ho : o.op = .build 49 #[(0, x0)]) (h0 : evl n f x0 = .int .i64 (v0)) : (execOp (evl n f) o).run Try.prog w = .ok (.value (T48.enc ⟨v0, (0 : Int), (Vector.replicate 64 false), (⟨none, 0, 0⟩ : Slc)⟩)) w :=
  q_build (ps := [(0, x0)]) (pv := [(0, .int .i64 (v0))]) (cs := S48.cells ⟨v0, (0 : Int), (Vector.replicate 64 false), (⟨none, 0, 0⟩ : Slc)⟩) ho Try.underlying49 inf49 (by have := pl49; simp only [Program.fieldsOf, Try.underlying49] at this; exact this) (by simp only [List.map_cons, List.map_nil, h0]) (by kernel_rfl)
theorem q_build61_ {n : Nat} {f : Nat → Value} {w : World} {o : Oper} (ho : o.op = .build 61 #[]) : (execOp (evl n f) o).run Try.prog w = .ok (.value (T60.enc ⟨(0 : Int), (0 : Int), (0 : Int), (0 : Int)⟩)) w :=
  q_build (ps := []) (pv := []) (cs := S60.cells ⟨(0 : Int), (0 : Int), (0 : Int), (0 : Int)⟩) ho Try.underlying61 inf61 (by have := pl61; simp only [Program.fieldsOf, Try.underlying61] at this; exact this) (by simp only [List.map_cons, List.map_nil]) (by rfl)
theorem q_build61_0_1_2_3 {n : Nat} {f : Nat → Value} {w : World} {o : Oper} {x0 : Operand} {x1 : Operand} {x2 : Operand} {x3 : Operand} {v0 : Int} {v1 : Int} {v2 : Int} {v3 : Int} (ho : o.op = .build 61 #[(0, x0), (1, x1), (2, x2), (3, x3)]) (h0 : evl n f x0 = .int .i64 (v0)) (h1 : evl n f x1 = .int .i64 (v1)) (h2 : evl n f x2 = .int .i64 (v2)) (h3 : evl n f x3 = .int .i64 (v3)) : (execOp (evl n f) o).run Try.prog w = .ok (.value (T60.enc ⟨v0, v1, v2, v3⟩)) w :=
  q_build (ps := [(0, x0), (1, x1), (2, x2), (3, x3)]) (pv := [(0, .int .i64 (v0)), (1, .int .i64 (v1)), (2, .int .i64 (v2)), (3, .int .i64 (v3))]) (cs := S60.cells ⟨v0, v1, v2, v3⟩) ho Try.underlying61 inf61 (by have := pl61; simp only [Program.fieldsOf, Try.underlying61] at this; exact this) (by simp only [List.map_cons, List.map_nil, h0, h1, h2, h3]) (by rfl)
theorem q_build65_0_3 {n : Nat} {f : Nat → Value} {w : World} {o : Oper} {x0 : Operand} {x3 : Operand} {v0 : Int} {v3 : (Option Nat)} (ho : o.op = .build 65 #[(0, x0), (3, x3)]) (h0 : evl n f x0 = .int .i64 (v0)) (h3 : evl n f x3 = .map (v3)) : (execOp (evl n f) o).run Try.prog w = .ok (.value (T64.enc ⟨v0, (0 : Int), (⟨none, 0, 0⟩ : Slc), v3⟩)) w :=
  q_build (ps := [(0, x0), (3, x3)]) (pv := [(0, .int .i64 (v0)), (3, .map (v3))]) (cs := S64.cells ⟨v0, (0 : Int), (⟨none, 0, 0⟩ : Slc), v3⟩) ho Try.underlying65 inf65 (by have := pl65; simp only [Program.fieldsOf, Try.underlying65] at this; exact this) (by simp only [List.map_cons, List.map_nil, h0, h3]) (by rfl)
theorem q_build68_ {n : Nat} {f : Nat → Value} {w : World} {o : Oper} (ho : o.op = .build 68 #[]) : (execOp (evl n f) o).run Try.prog w = .ok (.value (T68.enc ⟨⟩)) w :=
  q_build (ps := []) (pv := []) (cs := S68.cells ⟨⟩) ho Try.underlying68 inf68 (by have := pl68; simp only [Program.fieldsOf, Try.underlying68] at this; exact this) (by simp only [List.map_cons, List.map_nil]) (by rfl)
theorem q_build75_ {n : Nat} {f : Nat → Value} {w : World} {o : Oper} (ho : o.op = .build 75 #[]) : (execOp (evl n f) o).run Try.prog w = .ok (.value (T35.enc ⟨(0 : Int), (0 : Int), (0 : Int), ([] : List UInt8)⟩)) w :=
  q_build (ps := []) (pv := []) (cs := S35.cells ⟨(0 : Int), (0 : Int), (0 : Int), ([] : List UInt8)⟩) ho Try.underlying75 inf75 (by have := pl75; simp only [Program.fieldsOf, Try.underlying75] at this; exact this) (by simp only [List.map_cons, List.map_nil]) (by rfl)
theorem q_build75_0_1_2_3 {n : Nat} {f : Nat → Value} {w : World} {o : Oper} {x0 : Operand} {x1 : Operand} {x2 : Operand} {x3 : Operand} {v0 : Int} {v1 : Int} {v2 : Int} {v3 : (List UInt8)} (ho : o.op = .build 75 #[(0, x0), (1, x1), (2, x2), (3, x3)]) (h0 : evl n f x0 = .int .i64 (v0)) (h1 : evl n f x1 = .int .i64 (v1)) (h2 : evl n f x2 = .int .i64 (v2)) (h3 : evl n f x3 = .string ⟨(v3).toArray⟩) : (execOp (evl n f) o).run Try.prog w = .ok (.value (T35.enc ⟨v0, v1, v2, v3⟩)) w :=
  q_build (ps := [(0, x0), (1, x1), (2, x2), (3, x3)]) (pv := [(0, .int .i64 (v0)), (1, .int .i64 (v1)), (2, .int .i64 (v2)), (3, .string ⟨(v3).toArray⟩)]) (cs := S35.cells ⟨v0, v1, v2, v3⟩) ho Try.underlying75 inf75 (by have := pl75; simp only [Program.fieldsOf, Try.underlying75] at this; exact this) (by simp only [List.map_cons, List.map_nil, h0, h1, h2, h3]) (by rfl)
theorem q_build82_0_3 {n : Nat} {f : Nat → Value} {w : World} {o : Oper} {x0 : Operand} {x3 : Operand} {v0 : Int} {v3 : (Option Nat)} (ho : o.op = .build 82 #[(0, x0), (3, x3)]) (h0 : evl n f x0 = .int .i64 (v0)) (h3 : evl n f x3 = .map (v3)) : (execOp (evl n f) o).run Try.prog w = .ok (.value (T81.enc ⟨v0, (0 : Int), (⟨none, 0, 0⟩ : Slc), v3⟩)) w :=
  q_build (ps := [(0, x0), (3, x3)]) (pv := [(0, .int .i64 (v0)), (3, .map (v3))]) (cs := S81.cells ⟨v0, (0 : Int), (⟨none, 0, 0⟩ : Slc), v3⟩) ho Try.underlying82 inf82 (by have := pl82; simp only [Program.fieldsOf, Try.underlying82] at this; exact this) (by simp only [List.map_cons, List.map_nil, h0, h3]) (by rfl)
def S35.eqb (x y : S35) : Bool := ((x.ID == y.ID) && ((x.From == y.From) && ((x.To == y.To) && ((x.M == y.M) && true))))
theorem eqIn36 {d : Nat} {w : World} (x y : S35) : (Op.equalIn (d + 2) 36 (.agg (S35.cells x).toArray) (.agg (S35.cells y).toArray)).run Try.prog w = .ok (S35.eqb x y) w :=
  eqI_struct Try.underlying36 (by kernel_rfl) (eqF_cons (by decide) (run_part1 Try.underlying3 rfl rfl) (run_part1 Try.underlying3 rfl rfl) (eqI_int Try.underlying3) (eqF_cons (by decide) (run_part1 Try.underlying3 rfl rfl) (run_part1 Try.underlying3 rfl rfl) (eqI_int Try.underlying3) (eqF_cons (by decide) (run_part1 Try.underlying3 rfl rfl) (run_part1 Try.underlying3 rfl rfl) (eqI_int Try.underlying3) (eqF_cons (by decide) (run_part1 Try.underlying9 rfl rfl) (run_part1 Try.underlying9 rfl rfl) (eqI_str Try.underlying9) eqF_nil))))
theorem eq36 (x y : S35) : Try.prog.eqGuardType Try.prog.depth 36 = false ∧ ∀ w, (Op.equalIn 10000 36 (.agg (S35.cells x).toArray) (.agg (S35.cells y).toArray)).run Try.prog w = .ok (S35.eqb x y) w :=
  ⟨by kernel_rfl, fun _ => eqIn36 (d := 9998) x y⟩
end Go.Proofs.Ytpflfnaflacfgaa.Cf
