/- The types of the program, typed. Printed by gen.py (own tool). -/
import Derived.Test.YtjkmeooncmhonaaCfP
import Derived.Test.YtjkmeooncmhonaaProg
namespace Go.Proofs.Ytjkmeooncmhonaa.Cf
open Go
set_option maxRecDepth 100000
set_option linter.unusedVariables false
set_option linter.unusedSimpArgs false
-- struct { Kind int; N int; Slot int; B int64; V string; Keep []int }
structure S38 where
  Kind : Int
  N : Int
  Slot : Int
  B : Int
  V : (List UInt8)
  Keep : Slc
def S38.cells (x : S38) : List Value := [.int .i64 (x.Kind), .int .i64 (x.N), .int .i64 (x.Slot), .int .i64 (x.B), .string ⟨(x.V).toArray⟩, tSlc.enc (x.Keep)]
@[reducible] def T38 : Ty S38 := tAgg S38.cells
@[reducible] def Z38 : S38 := ⟨(0 : Int), (0 : Int), (0 : Int), (0 : Int), ([] : List UInt8), (⟨none, 0, 0⟩ : Slc)⟩
-- struct { Slot int; B int64; V string }
structure S46 where
  Slot : Int
  B : Int
  V : (List UInt8)
def S46.cells (x : S46) : List Value := [.int .i64 (x.Slot), .int .i64 (x.B), .string ⟨(x.V).toArray⟩]
@[reducible] def T46 : Ty S46 := tAgg S46.cells
@[reducible] def Z46 : S46 := ⟨(0 : Int), (0 : Int), ([] : List UInt8)⟩
-- struct { *wal.Wal; promised int64; votes map[int]api.Vote }
structure S52 where
  Wal : (Option Addr)
  promised : Int
  votes : (Option Nat)
def S52.cells (x : S52) : List Value := [.pointer (x.Wal), .int .i64 (x.promised), .map (x.votes)]
@[reducible] def T52 : Ty S52 := tAgg S52.cells
@[reducible] def Z52 : S52 := ⟨(none : Option Addr), (0 : Int), (none : Option Nat)⟩
-- struct { said [5]bool; votes [5][]api.Vote; fixed [4]bool; value [4]string }
structure S63 where
  said : (Vector Bool 5)
  votes : (Vector Slc 5)
  fixed : (Vector Bool 4)
  value : (Vector (List UInt8) 4)
def S63.cells (x : S63) : List Value := (x.said).toList.flatMap tBool.cells ++ ((x.votes).toList.flatMap tSlc.cells ++ ((x.fixed).toList.flatMap tBool.cells ++ ((x.value).toList.flatMap tStr.cells)))
@[reducible] def T63 : Ty S63 := tAgg S63.cells
@[reducible] def Z63 : S63 := ⟨(Vector.replicate 5 false), (Vector.replicate 5 (⟨none, 0, 0⟩ : Slc)), (Vector.replicate 4 false), (Vector.replicate 4 ([] : List UInt8))⟩
-- struct { Kind uint8; A uint8; B uint8; Slot uint8; Keep int }
structure S68 where
  Kind : Int
  A : Int
  B : Int
  Slot : Int
  Keep : Int
def S68.cells (x : S68) : List Value := [.int .u8 (x.Kind), .int .u8 (x.A), .int .u8 (x.B), .int .u8 (x.Slot), .int .i64 (x.Keep)]
@[reducible] def T68 : Ty S68 := tAgg S68.cells
@[reducible] def Z68 : S68 := ⟨(0 : Int), (0 : Int), (0 : Int), (0 : Int), (0 : Int)⟩
-- struct { logs []disk.log; acts int; down bool; armed int; keep []int }
structure S79 where
  logs : Slc
  acts : Int
  down : Bool
  armed : Int
  keep : Slc
def S79.cells (x : S79) : List Value := [tSlc.enc (x.logs), .int .i64 (x.acts), .bool (x.down), .int .i64 (x.armed), tSlc.enc (x.keep)]
@[reducible] def T79 : Ty S79 := tAgg S79.cells
@[reducible] def Z79 : S79 := ⟨(⟨none, 0, 0⟩ : Slc), (0 : Int), false, (0 : Int), (⟨none, 0, 0⟩ : Slc)⟩
-- struct { Kind api.Kind; U uint64; I int64; F float64; S string }
structure S90 where
  Kind : Int
  U : Int
  I : Int
  F : Nat
  S : (List UInt8)
def S90.cells (x : S90) : List Value := [.int .i64 (x.Kind), .int .u64 (x.U), .int .i64 (x.I), .float .f64 (x.F), .string ⟨(x.S).toArray⟩]
@[reducible] def T90 : Ty S90 := tAgg S90.cells
@[reducible] def Z90 : S90 := ⟨(0 : Int), (0 : Int), (0 : Int), (0 : Nat), ([] : List UInt8)⟩
-- struct { all int; sure int }
structure S94 where
  all : Int
  sure : Int
def S94.cells (x : S94) : List Value := [.int .i64 (x.all), .int .i64 (x.sure)]
@[reducible] def T94 : Ty S94 := tAgg S94.cells
@[reducible] def Z94 : S94 := ⟨(0 : Int), (0 : Int)⟩
-- struct { wal.counts; d *disk.Disk; log int; dead bool }
structure S96 where
  counts : S94
  d : (Option Addr)
  log : Int
  dead : Bool
def S96.cells (x : S96) : List Value := S94.cells (x.counts) ++ ([.pointer (x.d), .int .i64 (x.log), .bool (x.dead)])
@[reducible] def T96 : Ty S96 := tAgg S96.cells
@[reducible] def Z96 : S96 := ⟨Z94, (none : Option Addr), (0 : Int), false⟩
-- struct { b []uint8; sure int }
structure S101 where
  b_ : Slc
  sure : Int
def S101.cells (x : S101) : List Value := [tSlc.enc (x.b_), .int .i64 (x.sure)]
@[reducible] def T101 : Ty S101 := tAgg S101.cells
@[reducible] def Z101 : S101 := ⟨(⟨none, 0, 0⟩ : Slc), (0 : Int)⟩
-- struct { b []uint8; at int }
structure S124 where
  b_ : Slc
  at_ : Int
def S124.cells (x : S124) : List Value := [tSlc.enc (x.b_), .int .i64 (x.at_)]
@[reducible] def T124 : Ty S124 := tAgg S124.cells
@[reducible] def Z124 : S124 := ⟨(⟨none, 0, 0⟩ : Slc), (0 : Int)⟩
-- struct { e api.Errno }
structure S126 where
  e_ : Int
def S126.cells (x : S126) : List Value := [.int .i64 (x.e_)]
@[reducible] def T126 : Ty S126 := tAgg S126.cells
@[reducible] def Z126 : S126 := ⟨(0 : Int)⟩
theorem inf2 : ∃ i, Try.prog.info? 2 = some i ∧ i.zero = some (.int .i64 ((0 : Int))) ∧ i.size = 1 ∧ i.bytes = 8 := info_four (by kernel_rfl)
theorem ok2 : TyOk Try.prog 2 (tInt .i64) 1 := ⟨(inf2).imp fun _ h => ⟨h.1, h.2.2.1⟩, fun _ => rfl, .inr ⟨_, Try.underlying2, rfl, rfl, fun _ => rfl⟩, fun x => rfl, fun x v hv => by obtain rfl := List.mem_singleton.1 hv; exact rfl⟩
theorem inf3 : ∃ i, Try.prog.info? 3 = some i ∧ i.zero = some (.int .i64 ((0 : Int))) ∧ i.size = 1 ∧ i.bytes = 8 := info_four (by kernel_rfl)
theorem ok3 : TyOk Try.prog 3 (tInt .i64) 1 := ⟨(inf3).imp fun _ h => ⟨h.1, h.2.2.1⟩, fun _ => rfl, .inr ⟨_, Try.underlying3, rfl, rfl, fun _ => rfl⟩, fun x => rfl, fun x v hv => by obtain rfl := List.mem_singleton.1 hv; exact rfl⟩
theorem inf4 : ∃ i, Try.prog.info? 4 = some i ∧ i.zero = some (.bool (false)) ∧ i.size = 1 ∧ i.bytes = 1 := info_four (by kernel_rfl)
theorem ok4 : TyOk Try.prog 4 tBool 1 := ⟨(inf4).imp fun _ h => ⟨h.1, h.2.2.1⟩, fun _ => rfl, .inr ⟨_, Try.underlying4, rfl, rfl, fun _ => rfl⟩, fun x => rfl, fun x v hv => by obtain rfl := List.mem_singleton.1 hv; exact rfl⟩
theorem inf5 : ∃ i, Try.prog.info? 5 = some i ∧ i.zero = some (.int .u8 ((0 : Int))) ∧ i.size = 1 ∧ i.bytes = 1 := info_four (by kernel_rfl)
theorem ok5 : TyOk Try.prog 5 (tInt .u8) 1 := ⟨(inf5).imp fun _ h => ⟨h.1, h.2.2.1⟩, fun _ => rfl, .inr ⟨_, Try.underlying5, rfl, rfl, fun _ => rfl⟩, fun x => rfl, fun x v hv => by obtain rfl := List.mem_singleton.1 hv; exact rfl⟩
theorem inf9 : ∃ i, Try.prog.info? 9 = some i ∧ i.zero = some (.string ⟨(([] : List UInt8)).toArray⟩) ∧ i.size = 1 ∧ i.bytes = 16 := info_four (by kernel_rfl)
theorem ok9 : TyOk Try.prog 9 tStr 1 := ⟨(inf9).imp fun _ h => ⟨h.1, h.2.2.1⟩, fun _ => rfl, .inr ⟨_, Try.underlying9, rfl, rfl, fun _ => rfl⟩, fun x => rfl, fun x v hv => by obtain rfl := List.mem_singleton.1 hv; exact rfl⟩
theorem inf22 : ∃ i, Try.prog.info? 22 = some i ∧ i.zero = some (tSlc.enc ((⟨none, 0, 0⟩ : Slc))) ∧ i.size = 1 ∧ i.bytes = 24 := info_four (by kernel_rfl)
theorem ok22 : TyOk Try.prog 22 tSlc 1 := ⟨(inf22).imp fun _ h => ⟨h.1, h.2.2.1⟩, fun _ => rfl, .inr ⟨_, Try.underlying22, rfl, rfl, fun _ => rfl⟩, fun x => rfl, fun x v hv => by obtain rfl := List.mem_singleton.1 hv; exact rfl⟩
theorem inf23 : ∃ i, Try.prog.info? 23 = some i ∧ i.zero = some (tSlc.enc ((⟨none, 0, 0⟩ : Slc))) ∧ i.size = 1 ∧ i.bytes = 24 := info_four (by kernel_rfl)
theorem ok23 : TyOk Try.prog 23 tSlc 1 := ⟨(inf23).imp fun _ h => ⟨h.1, h.2.2.1⟩, fun _ => rfl, .inr ⟨_, Try.underlying23, rfl, rfl, fun _ => rfl⟩, fun x => rfl, fun x v hv => by obtain rfl := List.mem_singleton.1 hv; exact rfl⟩
theorem inf29 : ∃ i, Try.prog.info? 29 = some i ∧ i.zero = some (tSlc.enc ((⟨none, 0, 0⟩ : Slc))) ∧ i.size = 1 ∧ i.bytes = 24 := info_four (by kernel_rfl)
theorem ok29 : TyOk Try.prog 29 tSlc 1 := ⟨(inf29).imp fun _ h => ⟨h.1, h.2.2.1⟩, fun _ => rfl, .inr ⟨_, Try.underlying29, rfl, rfl, fun _ => rfl⟩, fun x => rfl, fun x v hv => by obtain rfl := List.mem_singleton.1 hv; exact rfl⟩
theorem inf30 : ∃ i, Try.prog.info? 30 = some i ∧ i.zero = some (.pointer ((none : Option Addr))) ∧ i.size = 1 ∧ i.bytes = 8 := info_four (by kernel_rfl)
theorem ok30 : TyOk Try.prog 30 tPtr 1 := ⟨(inf30).imp fun _ h => ⟨h.1, h.2.2.1⟩, fun _ => rfl, .inr ⟨_, Try.underlying30, rfl, rfl, fun _ => rfl⟩, fun x => rfl, fun x v hv => by obtain rfl := List.mem_singleton.1 hv; exact rfl⟩
theorem inf31 : ∃ i, Try.prog.info? 31 = some i ∧ i.zero = some (.int .i64 ((0 : Int))) ∧ i.size = 1 ∧ i.bytes = 8 := info_four (by kernel_rfl)
theorem ok31 : TyOk Try.prog 31 (tInt .i64) 1 := ⟨(inf31).imp fun _ h => ⟨h.1, h.2.2.1⟩, fun _ => rfl, .inr ⟨_, Try.underlying31, rfl, rfl, fun _ => rfl⟩, fun x => rfl, fun x v hv => by obtain rfl := List.mem_singleton.1 hv; exact rfl⟩
theorem inf34 : ∃ i, Try.prog.info? 34 = some i ∧ i.zero = some (.pointer ((none : Option Addr))) ∧ i.size = 1 ∧ i.bytes = 8 := info_four (by kernel_rfl)
theorem ok34 : TyOk Try.prog 34 tPtr 1 := ⟨(inf34).imp fun _ h => ⟨h.1, h.2.2.1⟩, fun _ => rfl, .inr ⟨_, Try.underlying34, rfl, rfl, fun _ => rfl⟩, fun x => rfl, fun x v hv => by obtain rfl := List.mem_singleton.1 hv; exact rfl⟩
theorem inf37 : ∃ i, Try.prog.info? 37 = some i ∧ i.zero = some (tSlc.enc ((⟨none, 0, 0⟩ : Slc))) ∧ i.size = 1 ∧ i.bytes = 24 := info_four (by kernel_rfl)
theorem ok37 : TyOk Try.prog 37 tSlc 1 := ⟨(inf37).imp fun _ h => ⟨h.1, h.2.2.1⟩, fun _ => rfl, .inr ⟨_, Try.underlying37, rfl, rfl, fun _ => rfl⟩, fun x => rfl, fun x v hv => by obtain rfl := List.mem_singleton.1 hv; exact rfl⟩
theorem inf39 : ∃ i, Try.prog.info? 39 = some i ∧ i.zero = some (T38.enc (Z38)) ∧ i.size = 6 ∧ i.bytes = 72 := info_four (by kernel_rfl)
theorem len39 (x : S38) : (T38.cells x).length = 6 := by rfl
theorem one39 (x : S38) : ∀ v ∈ T38.cells x, v.oneCell' = true := by
  show ∀ v ∈ S38.cells x, v.oneCell' = true
  simp only [S38.cells, List.forall_mem_append, List.forall_mem_cons, List.forall_mem_nil]
  exact ⟨rfl, rfl, rfl, rfl, rfl, rfl, fun _ h => absurd h (List.not_mem_nil)⟩
theorem ok39 : TyOk Try.prog 39 T38 6 := ⟨(inf39).imp fun _ h => ⟨h.1, h.2.2.1⟩, len39, .inl ⟨_, Try.underlying39, rfl, fun _ => rfl⟩, fun _ => rfl, one39⟩
theorem inf47 : ∃ i, Try.prog.info? 47 = some i ∧ i.zero = some (T46.enc (Z46)) ∧ i.size = 3 ∧ i.bytes = 32 := info_four (by kernel_rfl)
theorem len47 (x : S46) : (T46.cells x).length = 3 := by rfl
theorem one47 (x : S46) : ∀ v ∈ T46.cells x, v.oneCell' = true := by
  show ∀ v ∈ S46.cells x, v.oneCell' = true
  simp only [S46.cells, List.forall_mem_append, List.forall_mem_cons, List.forall_mem_nil]
  exact ⟨rfl, rfl, rfl, fun _ h => absurd h (List.not_mem_nil)⟩
theorem ok47 : TyOk Try.prog 47 T46 3 := ⟨(inf47).imp fun _ h => ⟨h.1, h.2.2.1⟩, len47, .inl ⟨_, Try.underlying47, rfl, fun _ => rfl⟩, fun _ => rfl, one47⟩
theorem inf50 : ∃ i, Try.prog.info? 50 = some i ∧ i.zero = some (.pointer ((none : Option Addr))) ∧ i.size = 1 ∧ i.bytes = 8 := info_four (by kernel_rfl)
theorem ok50 : TyOk Try.prog 50 tPtr 1 := ⟨(inf50).imp fun _ h => ⟨h.1, h.2.2.1⟩, fun _ => rfl, .inr ⟨_, Try.underlying50, rfl, rfl, fun _ => rfl⟩, fun x => rfl, fun x v hv => by obtain rfl := List.mem_singleton.1 hv; exact rfl⟩
theorem inf51 : ∃ i, Try.prog.info? 51 = some i ∧ i.zero = some (.map ((none : Option Nat))) ∧ i.size = 1 ∧ i.bytes = 8 := info_four (by kernel_rfl)
theorem ok51 : TyOk Try.prog 51 tMap 1 := ⟨(inf51).imp fun _ h => ⟨h.1, h.2.2.1⟩, fun _ => rfl, .inr ⟨_, Try.underlying51, rfl, rfl, fun _ => rfl⟩, fun x => rfl, fun x v hv => by obtain rfl := List.mem_singleton.1 hv; exact rfl⟩
theorem inf53 : ∃ i, Try.prog.info? 53 = some i ∧ i.zero = some (T52.enc (Z52)) ∧ i.size = 3 ∧ i.bytes = 24 := info_four (by kernel_rfl)
theorem len53 (x : S52) : (T52.cells x).length = 3 := by rfl
theorem one53 (x : S52) : ∀ v ∈ T52.cells x, v.oneCell' = true := by
  show ∀ v ∈ S52.cells x, v.oneCell' = true
  simp only [S52.cells, List.forall_mem_append, List.forall_mem_cons, List.forall_mem_nil]
  exact ⟨rfl, rfl, rfl, fun _ h => absurd h (List.not_mem_nil)⟩
theorem ok53 : TyOk Try.prog 53 T52 3 := ⟨(inf53).imp fun _ h => ⟨h.1, h.2.2.1⟩, len53, .inl ⟨_, Try.underlying53, rfl, fun _ => rfl⟩, fun _ => rfl, one53⟩
theorem inf56 : ∃ i, Try.prog.info? 56 = some i ∧ i.zero = some (tSlc.enc ((⟨none, 0, 0⟩ : Slc))) ∧ i.size = 1 ∧ i.bytes = 24 := info_four (by kernel_rfl)
theorem ok56 : TyOk Try.prog 56 tSlc 1 := ⟨(inf56).imp fun _ h => ⟨h.1, h.2.2.1⟩, fun _ => rfl, .inr ⟨_, Try.underlying56, rfl, rfl, fun _ => rfl⟩, fun x => rfl, fun x v hv => by obtain rfl := List.mem_singleton.1 hv; exact rfl⟩
theorem inf57 : ∃ i, Try.prog.info? 57 = some i ∧ i.zero = some ((tArr tPtr 5).enc ((Vector.replicate 5 (none : Option Addr)))) ∧ i.size = 5 ∧ i.bytes = 40 := info_four (by kernel_rfl)
theorem ok57 : TyOk Try.prog 57 (tArr tPtr 5) 5 := ⟨(inf57).imp fun _ h => ⟨h.1, h.2.2.1⟩, fun x => by simp [flatMap_const_len ok30.len], .inl ⟨_, Try.underlying57, rfl, fun _ => rfl⟩, fun _ => rfl, fun x v hv => by obtain ⟨y, _, hy⟩ := List.mem_flatMap.1 hv; exact ok30.one y v hy⟩
theorem inf58 : ∃ i, Try.prog.info? 58 = some i ∧ i.zero = some ((tArr tPtr 5).enc ((Vector.replicate 5 (none : Option Addr)))) ∧ i.size = 5 ∧ i.bytes = 40 := info_four (by kernel_rfl)
theorem ok58 : TyOk Try.prog 58 (tArr tPtr 5) 5 := ⟨(inf58).imp fun _ h => ⟨h.1, h.2.2.1⟩, fun x => by simp [flatMap_const_len ok34.len], .inl ⟨_, Try.underlying58, rfl, fun _ => rfl⟩, fun _ => rfl, fun x v hv => by obtain ⟨y, _, hy⟩ := List.mem_flatMap.1 hv; exact ok34.one y v hy⟩
theorem inf59 : ∃ i, Try.prog.info? 59 = some i ∧ i.zero = some ((tArr tBool 5).enc ((Vector.replicate 5 false))) ∧ i.size = 5 ∧ i.bytes = 5 := info_four (by kernel_rfl)
theorem ok59 : TyOk Try.prog 59 (tArr tBool 5) 5 := ⟨(inf59).imp fun _ h => ⟨h.1, h.2.2.1⟩, fun x => by simp [flatMap_const_len ok4.len], .inl ⟨_, Try.underlying59, rfl, fun _ => rfl⟩, fun _ => rfl, fun x v hv => by obtain ⟨y, _, hy⟩ := List.mem_flatMap.1 hv; exact ok4.one y v hy⟩
theorem inf60 : ∃ i, Try.prog.info? 60 = some i ∧ i.zero = some ((tArr tSlc 5).enc ((Vector.replicate 5 (⟨none, 0, 0⟩ : Slc)))) ∧ i.size = 5 ∧ i.bytes = 120 := info_four (by kernel_rfl)
theorem ok60 : TyOk Try.prog 60 (tArr tSlc 5) 5 := ⟨(inf60).imp fun _ h => ⟨h.1, h.2.2.1⟩, fun x => by simp [flatMap_const_len ok23.len], .inl ⟨_, Try.underlying60, rfl, fun _ => rfl⟩, fun _ => rfl, fun x v hv => by obtain ⟨y, _, hy⟩ := List.mem_flatMap.1 hv; exact ok23.one y v hy⟩
theorem inf61 : ∃ i, Try.prog.info? 61 = some i ∧ i.zero = some ((tArr tBool 4).enc ((Vector.replicate 4 false))) ∧ i.size = 4 ∧ i.bytes = 4 := info_four (by kernel_rfl)
theorem ok61 : TyOk Try.prog 61 (tArr tBool 4) 4 := ⟨(inf61).imp fun _ h => ⟨h.1, h.2.2.1⟩, fun x => by simp [flatMap_const_len ok4.len], .inl ⟨_, Try.underlying61, rfl, fun _ => rfl⟩, fun _ => rfl, fun x v hv => by obtain ⟨y, _, hy⟩ := List.mem_flatMap.1 hv; exact ok4.one y v hy⟩
theorem inf62 : ∃ i, Try.prog.info? 62 = some i ∧ i.zero = some ((tArr tStr 4).enc ((Vector.replicate 4 ([] : List UInt8)))) ∧ i.size = 4 ∧ i.bytes = 64 := info_four (by kernel_rfl)
theorem ok62 : TyOk Try.prog 62 (tArr tStr 4) 4 := ⟨(inf62).imp fun _ h => ⟨h.1, h.2.2.1⟩, fun x => by simp [flatMap_const_len ok9.len], .inl ⟨_, Try.underlying62, rfl, fun _ => rfl⟩, fun _ => rfl, fun x v hv => by obtain ⟨y, _, hy⟩ := List.mem_flatMap.1 hv; exact ok9.one y v hy⟩
theorem inf64 : ∃ i, Try.prog.info? 64 = some i ∧ i.zero = some (T63.enc (Z63)) ∧ i.size = 18 ∧ i.bytes = 200 := info_four (by kernel_rfl)
theorem len64 (x : S63) : (T63.cells x).length = 18 := by
  show (S63.cells x).length = 18
  simp only [S63.cells, List.length_append, List.length_cons, List.length_nil, Vector.length_toList, flatMap_const_len ok23.len, flatMap_const_len ok4.len, flatMap_const_len ok9.len]
theorem one64 (x : S63) : ∀ v ∈ T63.cells x, v.oneCell' = true := by
  show ∀ v ∈ S63.cells x, v.oneCell' = true
  simp only [S63.cells, List.forall_mem_append, List.forall_mem_cons, List.forall_mem_nil]
  exact ⟨ok59.one _, ok60.one _, ok61.one _, ok62.one _⟩
theorem ok64 : TyOk Try.prog 64 T63 18 := ⟨(inf64).imp fun _ h => ⟨h.1, h.2.2.1⟩, len64, .inl ⟨_, Try.underlying64, rfl, fun _ => rfl⟩, fun _ => rfl, one64⟩
theorem inf65 : ∃ i, Try.prog.info? 65 = some i ∧ i.zero = some (((tArr T63 9).enc (Vector.replicate 9 Z63))) ∧ i.size = 162 ∧ i.bytes = 1800 := info_four (by kernel_rfl)
theorem ok65 : TyOk Try.prog 65 (tArr T63 9) 162 := ⟨(inf65).imp fun _ h => ⟨h.1, h.2.2.1⟩, fun x => by simp [flatMap_const_len ok64.len], .inl ⟨_, Try.underlying65, rfl, fun _ => rfl⟩, fun _ => rfl, fun x v hv => by obtain ⟨y, _, hy⟩ := List.mem_flatMap.1 hv; exact ok64.one y v hy⟩
theorem inf66 : ∃ i, Try.prog.info? 66 = some i ∧ i.zero = some (((tArr (tArr tBool 5) 4).enc (Vector.replicate 4 (Vector.replicate 5 false)))) ∧ i.size = 20 ∧ i.bytes = 20 := info_four (by kernel_rfl)
theorem ok66 : TyOk Try.prog 66 (tArr (tArr tBool 5) 4) 20 := ⟨(inf66).imp fun _ h => ⟨h.1, h.2.2.1⟩, fun x => by simp [flatMap_const_len ok59.len], .inl ⟨_, Try.underlying66, rfl, fun _ => rfl⟩, fun _ => rfl, fun x v hv => by obtain ⟨y, _, hy⟩ := List.mem_flatMap.1 hv; exact ok59.one y v hy⟩
theorem inf67 : ∃ i, Try.prog.info? 67 = some i ∧ i.zero = some (((tArr (tArr (tArr tBool 5) 4) 9).enc (Vector.replicate 9 (Vector.replicate 4 (Vector.replicate 5 false))))) ∧ i.size = 180 ∧ i.bytes = 180 := info_four (by kernel_rfl)
theorem ok67 : TyOk Try.prog 67 (tArr (tArr (tArr tBool 5) 4) 9) 180 := ⟨(inf67).imp fun _ h => ⟨h.1, h.2.2.1⟩, fun x => by simp [flatMap_const_len ok66.len], .inl ⟨_, Try.underlying67, rfl, fun _ => rfl⟩, fun _ => rfl, fun x v hv => by obtain ⟨y, _, hy⟩ := List.mem_flatMap.1 hv; exact ok66.one y v hy⟩
theorem inf69 : ∃ i, Try.prog.info? 69 = some i ∧ i.zero = some (T68.enc (Z68)) ∧ i.size = 5 ∧ i.bytes = 16 := info_four (by kernel_rfl)
theorem len69 (x : S68) : (T68.cells x).length = 5 := by rfl
theorem one69 (x : S68) : ∀ v ∈ T68.cells x, v.oneCell' = true := by
  show ∀ v ∈ S68.cells x, v.oneCell' = true
  simp only [S68.cells, List.forall_mem_append, List.forall_mem_cons, List.forall_mem_nil]
  exact ⟨rfl, rfl, rfl, rfl, rfl, fun _ h => absurd h (List.not_mem_nil)⟩
theorem ok69 : TyOk Try.prog 69 T68 5 := ⟨(inf69).imp fun _ h => ⟨h.1, h.2.2.1⟩, len69, .inl ⟨_, Try.underlying69, rfl, fun _ => rfl⟩, fun _ => rfl, one69⟩
theorem inf70 : ∃ i, Try.prog.info? 70 = some i ∧ i.zero = some (.pointer ((none : Option Addr))) ∧ i.size = 1 ∧ i.bytes = 8 := info_four (by kernel_rfl)
theorem ok70 : TyOk Try.prog 70 tPtr 1 := ⟨(inf70).imp fun _ h => ⟨h.1, h.2.2.1⟩, fun _ => rfl, .inr ⟨_, Try.underlying70, rfl, rfl, fun _ => rfl⟩, fun x => rfl, fun x v hv => by obtain rfl := List.mem_singleton.1 hv; exact rfl⟩
theorem inf72 : ∃ i, Try.prog.info? 72 = some i ∧ i.zero = some (tSlc.enc ((⟨none, 0, 0⟩ : Slc))) ∧ i.size = 1 ∧ i.bytes = 24 := info_four (by kernel_rfl)
theorem ok72 : TyOk Try.prog 72 tSlc 1 := ⟨(inf72).imp fun _ h => ⟨h.1, h.2.2.1⟩, fun _ => rfl, .inr ⟨_, Try.underlying72, rfl, rfl, fun _ => rfl⟩, fun x => rfl, fun x v hv => by obtain rfl := List.mem_singleton.1 hv; exact rfl⟩
theorem inf78 : ∃ i, Try.prog.info? 78 = some i ∧ i.zero = some (tSlc.enc ((⟨none, 0, 0⟩ : Slc))) ∧ i.size = 1 ∧ i.bytes = 24 := info_four (by kernel_rfl)
theorem ok78 : TyOk Try.prog 78 tSlc 1 := ⟨(inf78).imp fun _ h => ⟨h.1, h.2.2.1⟩, fun _ => rfl, .inr ⟨_, Try.underlying78, rfl, rfl, fun _ => rfl⟩, fun x => rfl, fun x v hv => by obtain rfl := List.mem_singleton.1 hv; exact rfl⟩
theorem inf80 : ∃ i, Try.prog.info? 80 = some i ∧ i.zero = some (T79.enc (Z79)) ∧ i.size = 5 ∧ i.bytes = 72 := info_four (by kernel_rfl)
theorem len80 (x : S79) : (T79.cells x).length = 5 := by rfl
theorem one80 (x : S79) : ∀ v ∈ T79.cells x, v.oneCell' = true := by
  show ∀ v ∈ S79.cells x, v.oneCell' = true
  simp only [S79.cells, List.forall_mem_append, List.forall_mem_cons, List.forall_mem_nil]
  exact ⟨rfl, rfl, rfl, rfl, rfl, fun _ h => absurd h (List.not_mem_nil)⟩
theorem ok80 : TyOk Try.prog 80 T79 5 := ⟨(inf80).imp fun _ h => ⟨h.1, h.2.2.1⟩, len80, .inl ⟨_, Try.underlying80, rfl, fun _ => rfl⟩, fun _ => rfl, one80⟩
theorem inf81 : ∃ i, Try.prog.info? 81 = some i ∧ i.zero = some (tSlc.enc ((⟨none, 0, 0⟩ : Slc))) ∧ i.size = 1 ∧ i.bytes = 24 := info_four (by kernel_rfl)
theorem ok81 : TyOk Try.prog 81 tSlc 1 := ⟨(inf81).imp fun _ h => ⟨h.1, h.2.2.1⟩, fun _ => rfl, .inr ⟨_, Try.underlying81, rfl, rfl, fun _ => rfl⟩, fun x => rfl, fun x v hv => by obtain rfl := List.mem_singleton.1 hv; exact rfl⟩
theorem inf87 : ∃ i, Try.prog.info? 87 = some i ∧ i.zero = some (.int .i64 ((0 : Int))) ∧ i.size = 1 ∧ i.bytes = 8 := info_four (by kernel_rfl)
theorem ok87 : TyOk Try.prog 87 (tInt .i64) 1 := ⟨(inf87).imp fun _ h => ⟨h.1, h.2.2.1⟩, fun _ => rfl, .inr ⟨_, Try.underlying87, rfl, rfl, fun _ => rfl⟩, fun x => rfl, fun x v hv => by obtain rfl := List.mem_singleton.1 hv; exact rfl⟩
theorem inf88 : ∃ i, Try.prog.info? 88 = some i ∧ i.zero = some (.int .u64 ((0 : Int))) ∧ i.size = 1 ∧ i.bytes = 8 := info_four (by kernel_rfl)
theorem ok88 : TyOk Try.prog 88 (tInt .u64) 1 := ⟨(inf88).imp fun _ h => ⟨h.1, h.2.2.1⟩, fun _ => rfl, .inr ⟨_, Try.underlying88, rfl, rfl, fun _ => rfl⟩, fun x => rfl, fun x v hv => by obtain rfl := List.mem_singleton.1 hv; exact rfl⟩
theorem inf89 : ∃ i, Try.prog.info? 89 = some i ∧ i.zero = some (.float .f64 ((0 : Nat))) ∧ i.size = 1 ∧ i.bytes = 8 := info_four (by kernel_rfl)
theorem ok89 : TyOk Try.prog 89 tFlt 1 := ⟨(inf89).imp fun _ h => ⟨h.1, h.2.2.1⟩, fun _ => rfl, .inr ⟨_, Try.underlying89, rfl, rfl, fun _ => rfl⟩, fun x => rfl, fun x v hv => by obtain rfl := List.mem_singleton.1 hv; exact rfl⟩
theorem inf91 : ∃ i, Try.prog.info? 91 = some i ∧ i.zero = some (T90.enc (Z90)) ∧ i.size = 5 ∧ i.bytes = 48 := info_four (by kernel_rfl)
theorem len91 (x : S90) : (T90.cells x).length = 5 := by rfl
theorem one91 (x : S90) : ∀ v ∈ T90.cells x, v.oneCell' = true := by
  show ∀ v ∈ S90.cells x, v.oneCell' = true
  simp only [S90.cells, List.forall_mem_append, List.forall_mem_cons, List.forall_mem_nil]
  exact ⟨rfl, rfl, rfl, rfl, rfl, fun _ h => absurd h (List.not_mem_nil)⟩
theorem ok91 : TyOk Try.prog 91 T90 5 := ⟨(inf91).imp fun _ h => ⟨h.1, h.2.2.1⟩, len91, .inl ⟨_, Try.underlying91, rfl, fun _ => rfl⟩, fun _ => rfl, one91⟩
theorem inf95 : ∃ i, Try.prog.info? 95 = some i ∧ i.zero = some (T94.enc (Z94)) ∧ i.size = 2 ∧ i.bytes = 16 := info_four (by kernel_rfl)
theorem len95 (x : S94) : (T94.cells x).length = 2 := by rfl
theorem one95 (x : S94) : ∀ v ∈ T94.cells x, v.oneCell' = true := by
  show ∀ v ∈ S94.cells x, v.oneCell' = true
  simp only [S94.cells, List.forall_mem_append, List.forall_mem_cons, List.forall_mem_nil]
  exact ⟨rfl, rfl, fun _ h => absurd h (List.not_mem_nil)⟩
theorem ok95 : TyOk Try.prog 95 T94 2 := ⟨(inf95).imp fun _ h => ⟨h.1, h.2.2.1⟩, len95, .inl ⟨_, Try.underlying95, rfl, fun _ => rfl⟩, fun _ => rfl, one95⟩
theorem inf97 : ∃ i, Try.prog.info? 97 = some i ∧ i.zero = some (T96.enc (Z96)) ∧ i.size = 5 ∧ i.bytes = 40 := info_four (by kernel_rfl)
theorem len97 (x : S96) : (T96.cells x).length = 5 := by rfl
theorem one97 (x : S96) : ∀ v ∈ T96.cells x, v.oneCell' = true := by
  show ∀ v ∈ S96.cells x, v.oneCell' = true
  simp only [S96.cells, List.forall_mem_append, List.forall_mem_cons, List.forall_mem_nil]
  exact ⟨one95 _, ⟨rfl, rfl, rfl, fun _ h => absurd h (List.not_mem_nil)⟩⟩
theorem ok97 : TyOk Try.prog 97 T96 5 := ⟨(inf97).imp fun _ h => ⟨h.1, h.2.2.1⟩, len97, .inl ⟨_, Try.underlying97, rfl, fun _ => rfl⟩, fun _ => rfl, one97⟩
theorem inf100 : ∃ i, Try.prog.info? 100 = some i ∧ i.zero = some (.pointer ((none : Option Addr))) ∧ i.size = 1 ∧ i.bytes = 8 := info_four (by kernel_rfl)
theorem ok100 : TyOk Try.prog 100 tPtr 1 := ⟨(inf100).imp fun _ h => ⟨h.1, h.2.2.1⟩, fun _ => rfl, .inr ⟨_, Try.underlying100, rfl, rfl, fun _ => rfl⟩, fun x => rfl, fun x v hv => by obtain rfl := List.mem_singleton.1 hv; exact rfl⟩
theorem inf102 : ∃ i, Try.prog.info? 102 = some i ∧ i.zero = some (T101.enc (Z101)) ∧ i.size = 2 ∧ i.bytes = 32 := info_four (by kernel_rfl)
theorem len102 (x : S101) : (T101.cells x).length = 2 := by rfl
theorem one102 (x : S101) : ∀ v ∈ T101.cells x, v.oneCell' = true := by
  show ∀ v ∈ S101.cells x, v.oneCell' = true
  simp only [S101.cells, List.forall_mem_append, List.forall_mem_cons, List.forall_mem_nil]
  exact ⟨rfl, rfl, fun _ h => absurd h (List.not_mem_nil)⟩
theorem ok102 : TyOk Try.prog 102 T101 2 := ⟨(inf102).imp fun _ h => ⟨h.1, h.2.2.1⟩, len102, .inl ⟨_, Try.underlying102, rfl, fun _ => rfl⟩, fun _ => rfl, one102⟩
theorem inf105 : ∃ i, Try.prog.info? 105 = some i ∧ i.zero = some ((Fv.nil).enc) ∧ i.size = 1 ∧ i.bytes = 8 := info_four (by kernel_rfl)
theorem ok105 : TyOk Try.prog 105 tFun 1 := ⟨(inf105).imp fun _ h => ⟨h.1, h.2.2.1⟩, fun _ => rfl, .inr ⟨_, Try.underlying105, rfl, rfl, fun _ => rfl⟩, fun x => Fv.flat _, fun x v hv => by obtain rfl := List.mem_singleton.1 hv; exact Fv.one _⟩
theorem inf113 : ∃ i, Try.prog.info? 113 = some i ∧ i.zero = some (tSlc.enc ((⟨none, 0, 0⟩ : Slc))) ∧ i.size = 1 ∧ i.bytes = 24 := info_four (by kernel_rfl)
theorem ok113 : TyOk Try.prog 113 tSlc 1 := ⟨(inf113).imp fun _ h => ⟨h.1, h.2.2.1⟩, fun _ => rfl, .inr ⟨_, Try.underlying113, rfl, rfl, fun _ => rfl⟩, fun x => rfl, fun x v hv => by obtain rfl := List.mem_singleton.1 hv; exact rfl⟩
theorem inf119 : ∃ i, Try.prog.info? 119 = some i ∧ i.zero = some ((Fv.nil).enc) ∧ i.size = 1 ∧ i.bytes = 8 := info_four (by kernel_rfl)
theorem ok119 : TyOk Try.prog 119 tFun 1 := ⟨(inf119).imp fun _ h => ⟨h.1, h.2.2.1⟩, fun _ => rfl, .inr ⟨_, Try.underlying119, rfl, rfl, fun _ => rfl⟩, fun x => Fv.flat _, fun x v hv => by obtain rfl := List.mem_singleton.1 hv; exact Fv.one _⟩
theorem inf123 : ∃ i, Try.prog.info? 123 = some i ∧ i.zero = some (.pointer ((none : Option Addr))) ∧ i.size = 1 ∧ i.bytes = 8 := info_four (by kernel_rfl)
theorem ok123 : TyOk Try.prog 123 tPtr 1 := ⟨(inf123).imp fun _ h => ⟨h.1, h.2.2.1⟩, fun _ => rfl, .inr ⟨_, Try.underlying123, rfl, rfl, fun _ => rfl⟩, fun x => rfl, fun x v hv => by obtain rfl := List.mem_singleton.1 hv; exact rfl⟩
theorem inf125 : ∃ i, Try.prog.info? 125 = some i ∧ i.zero = some (T124.enc (Z124)) ∧ i.size = 2 ∧ i.bytes = 32 := info_four (by kernel_rfl)
theorem len125 (x : S124) : (T124.cells x).length = 2 := by rfl
theorem one125 (x : S124) : ∀ v ∈ T124.cells x, v.oneCell' = true := by
  show ∀ v ∈ S124.cells x, v.oneCell' = true
  simp only [S124.cells, List.forall_mem_append, List.forall_mem_cons, List.forall_mem_nil]
  exact ⟨rfl, rfl, fun _ h => absurd h (List.not_mem_nil)⟩
theorem ok125 : TyOk Try.prog 125 T124 2 := ⟨(inf125).imp fun _ h => ⟨h.1, h.2.2.1⟩, len125, .inl ⟨_, Try.underlying125, rfl, fun _ => rfl⟩, fun _ => rfl, one125⟩
theorem inf127 : ∃ i, Try.prog.info? 127 = some i ∧ i.zero = some (T126.enc (Z126)) ∧ i.size = 1 ∧ i.bytes = 8 := info_four (by kernel_rfl)
theorem len127 (x : S126) : (T126.cells x).length = 1 := by rfl
theorem one127 (x : S126) : ∀ v ∈ T126.cells x, v.oneCell' = true := by
  show ∀ v ∈ S126.cells x, v.oneCell' = true
  simp only [S126.cells, List.forall_mem_append, List.forall_mem_cons, List.forall_mem_nil]
  exact ⟨rfl, fun _ h => absurd h (List.not_mem_nil)⟩
theorem ok127 : TyOk Try.prog 127 T126 1 := ⟨(inf127).imp fun _ h => ⟨h.1, h.2.2.1⟩, len127, .inl ⟨_, Try.underlying127, rfl, fun _ => rfl⟩, fun _ => rfl, one127⟩
theorem inf137 : ∃ i, Try.prog.info? 137 = some i ∧ i.zero = some (.int .u32 ((0 : Int))) ∧ i.size = 1 ∧ i.bytes = 4 := info_four (by kernel_rfl)
theorem ok137 : TyOk Try.prog 137 (tInt .u32) 1 := ⟨(inf137).imp fun _ h => ⟨h.1, h.2.2.1⟩, fun _ => rfl, .inr ⟨_, Try.underlying137, rfl, rfl, fun _ => rfl⟩, fun x => rfl, fun x v hv => by obtain rfl := List.mem_singleton.1 hv; exact rfl⟩
theorem inf160 : ∃ i, Try.prog.info? 160 = some i ∧ i.zero = some (.int .i64 ((0 : Int))) ∧ i.size = 1 ∧ i.bytes = 8 := info_four (by kernel_rfl)
theorem ok160 : TyOk Try.prog 160 (tInt .i64) 1 := ⟨(inf160).imp fun _ h => ⟨h.1, h.2.2.1⟩, fun _ => rfl, .inr ⟨_, Try.underlying160, rfl, rfl, fun _ => rfl⟩, fun x => rfl, fun x v hv => by obtain rfl := List.mem_singleton.1 hv; exact rfl⟩
theorem ent3 : Enters Try.prog 3 := ⟨_, Try.func3, rfl, by decide⟩
theorem ent4 : Enters Try.prog 4 := ⟨_, Try.func4, rfl, by decide⟩
theorem ent5 : Enters Try.prog 5 := ⟨_, Try.func5, rfl, by decide⟩
theorem ent6 : Enters Try.prog 6 := ⟨_, Try.func6, rfl, by decide⟩
theorem ent7 : Enters Try.prog 7 := ⟨_, Try.func7, rfl, by decide⟩
theorem ent8 : Enters Try.prog 8 := ⟨_, Try.func8, rfl, by decide⟩
theorem ent9 : Enters Try.prog 9 := ⟨_, Try.func9, rfl, by decide⟩
theorem ent10 : Enters Try.prog 10 := ⟨_, Try.func10, rfl, by decide⟩
theorem ent11 : Enters Try.prog 11 := ⟨_, Try.func11, rfl, by decide⟩
theorem ent12 : Enters Try.prog 12 := ⟨_, Try.func12, rfl, by decide⟩
theorem ent13 : Enters Try.prog 13 := ⟨_, Try.func13, rfl, by decide⟩
theorem ent14 : Enters Try.prog 14 := ⟨_, Try.func14, rfl, by decide⟩
theorem ent15 : Enters Try.prog 15 := ⟨_, Try.func15, rfl, by decide⟩
theorem ent16 : Enters Try.prog 16 := ⟨_, Try.func16, rfl, by decide⟩
theorem ent17 : Enters Try.prog 17 := ⟨_, Try.func17, rfl, by decide⟩
theorem ent18 : Enters Try.prog 18 := ⟨_, Try.func18, rfl, by decide⟩
theorem ent19 : Enters Try.prog 19 := ⟨_, Try.func19, rfl, by decide⟩
theorem ent20 : Enters Try.prog 20 := ⟨_, Try.func20, rfl, by decide⟩
theorem ent21 : Enters Try.prog 21 := ⟨_, Try.func21, rfl, by decide⟩
theorem ent22 : Enters Try.prog 22 := ⟨_, Try.func22, rfl, by decide⟩
theorem ent23 : Enters Try.prog 23 := ⟨_, Try.func23, rfl, by decide⟩
theorem ent24 : Enters Try.prog 24 := ⟨_, Try.func24, rfl, by decide⟩
theorem ent25 : Enters Try.prog 25 := ⟨_, Try.func25, rfl, by decide⟩
theorem ent26 : Enters Try.prog 26 := ⟨_, Try.func26, rfl, by decide⟩
theorem ent27 : Enters Try.prog 27 := ⟨_, Try.func27, rfl, by decide⟩
theorem ent28 : Enters Try.prog 28 := ⟨_, Try.func28, rfl, by decide⟩
theorem ent29 : Enters Try.prog 29 := ⟨_, Try.func29, rfl, by decide⟩
theorem ent30 : Enters Try.prog 30 := ⟨_, Try.func30, rfl, by decide⟩
theorem ent31 : Enters Try.prog 31 := ⟨_, Try.func31, rfl, by decide⟩
theorem ent32 : Enters Try.prog 32 := ⟨_, Try.func32, rfl, by decide⟩
theorem ent33 : Enters Try.prog 33 := ⟨_, Try.func33, rfl, by decide⟩
theorem ent34 : Enters Try.prog 34 := ⟨_, Try.func34, rfl, by decide⟩
theorem ent35 : Enters Try.prog 35 := ⟨_, Try.func35, rfl, by decide⟩
theorem ent36 : Enters Try.prog 36 := ⟨_, Try.func36, rfl, by decide⟩
theorem ent37 : Enters Try.prog 37 := ⟨_, Try.func37, rfl, by decide⟩
theorem ent38 : Enters Try.prog 38 := ⟨_, Try.func38, rfl, by decide⟩
theorem ent39 : Enters Try.prog 39 := ⟨_, Try.func39, rfl, by decide⟩
theorem ent40 : Enters Try.prog 40 := ⟨_, Try.func40, rfl, by decide⟩
theorem ent41 : Enters Try.prog 41 := ⟨_, Try.func41, rfl, by decide⟩
theorem ent42 : Enters Try.prog 42 := ⟨_, Try.func42, rfl, by decide⟩
theorem ent43 : Enters Try.prog 43 := ⟨_, Try.func43, rfl, by decide⟩
theorem ent47 : Enters Try.prog 47 := ⟨_, Try.func47, rfl, by decide⟩
theorem ent48 : Enters Try.prog 48 := ⟨_, Try.func48, rfl, by decide⟩
theorem ent49 : Enters Try.prog 49 := ⟨_, Try.func49, rfl, by decide⟩
theorem ent50 : Enters Try.prog 50 := ⟨_, Try.func50, rfl, by decide⟩
theorem ent51 : Enters Try.prog 51 := ⟨_, Try.func51, rfl, by decide⟩
theorem ent52 : Enters Try.prog 52 := ⟨_, Try.func52, rfl, by decide⟩
theorem ent53 : Enters Try.prog 53 := ⟨_, Try.func53, rfl, by decide⟩
theorem ent54 : Enters Try.prog 54 := ⟨_, Try.func54, rfl, by decide⟩
theorem ent55 : Enters Try.prog 55 := ⟨_, Try.func55, rfl, by decide⟩
theorem ent59 : Enters Try.prog 59 := ⟨_, Try.func59, rfl, by decide⟩
theorem ent60 : Enters Try.prog 60 := ⟨_, Try.func60, rfl, by decide⟩
theorem ent61 : Enters Try.prog 61 := ⟨_, Try.func61, rfl, by decide⟩
theorem ent62 : Enters Try.prog 62 := ⟨_, Try.func62, rfl, by decide⟩
theorem ent63 : Enters Try.prog 63 := ⟨_, Try.func63, rfl, by decide⟩
theorem ent64 : Enters Try.prog 64 := ⟨_, Try.func64, rfl, by decide⟩
theorem ent65 : Enters Try.prog 65 := ⟨_, Try.func65, rfl, by decide⟩
theorem ent66 : Enters Try.prog 66 := ⟨_, Try.func66, rfl, by decide⟩
theorem ent67 : Enters Try.prog 67 := ⟨_, Try.func67, rfl, by decide⟩
theorem ent68 : Enters Try.prog 68 := ⟨_, Try.func68, rfl, by decide⟩
theorem ent69 : Enters Try.prog 69 := ⟨_, Try.func69, rfl, by decide⟩
theorem ent81 : Enters Try.prog 81 := ⟨_, Try.func81, rfl, by decide⟩
theorem ent84 : Enters Try.prog 84 := ⟨_, Try.func84, rfl, by decide⟩
theorem ent85 : Enters Try.prog 85 := ⟨_, Try.func85, rfl, by decide⟩
theorem ent92 : Enters Try.prog 92 := ⟨_, Try.func92, rfl, by decide⟩
theorem ent94 : Enters Try.prog 94 := ⟨_, Try.func94, rfl, by decide⟩
theorem mixed : Try.prog.follows .mixedOrders = true := by kernel_rfl
theorem pl47 (w : World) : (((Try.prog.fieldsOf 47).toList).mapM fun f => (do pure (f.offset, ← sizeOf f.type) : Sem (Nat × Nat))).run Try.prog w = .ok [(0, 1), (1, 1), (2, 1)] w := by
  simp only [Program.fieldsOf, Try.underlying47]
  refine run_places _ _ rfl ?_
  intro j fd p hf hp
  rcases j with _ | j; · obtain rfl := Option.some.inj hf; obtain rfl := Option.some.inj hp; exact ⟨rfl, ok3.size⟩
  rcases j with _ | j; · obtain rfl := Option.some.inj hf; obtain rfl := Option.some.inj hp; exact ⟨rfl, ok2.size⟩
  rcases j with _ | j; · obtain rfl := Option.some.inj hf; obtain rfl := Option.some.inj hp; exact ⟨rfl, ok9.size⟩
  cases hp
theorem pl53 (w : World) : (((Try.prog.fieldsOf 53).toList).mapM fun f => (do pure (f.offset, ← sizeOf f.type) : Sem (Nat × Nat))).run Try.prog w = .ok [(0, 1), (1, 1), (2, 1)] w := by
  simp only [Program.fieldsOf, Try.underlying53]
  refine run_places _ _ rfl ?_
  intro j fd p hf hp
  rcases j with _ | j; · obtain rfl := Option.some.inj hf; obtain rfl := Option.some.inj hp; exact ⟨rfl, ok50.size⟩
  rcases j with _ | j; · obtain rfl := Option.some.inj hf; obtain rfl := Option.some.inj hp; exact ⟨rfl, ok2.size⟩
  rcases j with _ | j; · obtain rfl := Option.some.inj hf; obtain rfl := Option.some.inj hp; exact ⟨rfl, ok51.size⟩
  cases hp
theorem pl80 (w : World) : (((Try.prog.fieldsOf 80).toList).mapM fun f => (do pure (f.offset, ← sizeOf f.type) : Sem (Nat × Nat))).run Try.prog w = .ok [(0, 1), (1, 1), (2, 1), (3, 1), (4, 1)] w := by
  simp only [Program.fieldsOf, Try.underlying80]
  refine run_places _ _ rfl ?_
  intro j fd p hf hp
  rcases j with _ | j; · obtain rfl := Option.some.inj hf; obtain rfl := Option.some.inj hp; exact ⟨rfl, ok78.size⟩
  rcases j with _ | j; · obtain rfl := Option.some.inj hf; obtain rfl := Option.some.inj hp; exact ⟨rfl, ok3.size⟩
  rcases j with _ | j; · obtain rfl := Option.some.inj hf; obtain rfl := Option.some.inj hp; exact ⟨rfl, ok4.size⟩
  rcases j with _ | j; · obtain rfl := Option.some.inj hf; obtain rfl := Option.some.inj hp; exact ⟨rfl, ok3.size⟩
  rcases j with _ | j; · obtain rfl := Option.some.inj hf; obtain rfl := Option.some.inj hp; exact ⟨rfl, ok37.size⟩
  cases hp
theorem pl91 (w : World) : (((Try.prog.fieldsOf 91).toList).mapM fun f => (do pure (f.offset, ← sizeOf f.type) : Sem (Nat × Nat))).run Try.prog w = .ok [(0, 1), (1, 1), (2, 1), (3, 1), (4, 1)] w := by
  simp only [Program.fieldsOf, Try.underlying91]
  refine run_places _ _ rfl ?_
  intro j fd p hf hp
  rcases j with _ | j; · obtain rfl := Option.some.inj hf; obtain rfl := Option.some.inj hp; exact ⟨rfl, ok87.size⟩
  rcases j with _ | j; · obtain rfl := Option.some.inj hf; obtain rfl := Option.some.inj hp; exact ⟨rfl, ok88.size⟩
  rcases j with _ | j; · obtain rfl := Option.some.inj hf; obtain rfl := Option.some.inj hp; exact ⟨rfl, ok2.size⟩
  rcases j with _ | j; · obtain rfl := Option.some.inj hf; obtain rfl := Option.some.inj hp; exact ⟨rfl, ok89.size⟩
  rcases j with _ | j; · obtain rfl := Option.some.inj hf; obtain rfl := Option.some.inj hp; exact ⟨rfl, ok9.size⟩
  cases hp
theorem pl95 (w : World) : (((Try.prog.fieldsOf 95).toList).mapM fun f => (do pure (f.offset, ← sizeOf f.type) : Sem (Nat × Nat))).run Try.prog w = .ok [(0, 1), (1, 1)] w := by
  simp only [Program.fieldsOf, Try.underlying95]
  refine run_places _ _ rfl ?_
  intro j fd p hf hp
  rcases j with _ | j; · obtain rfl := Option.some.inj hf; obtain rfl := Option.some.inj hp; exact ⟨rfl, ok3.size⟩
  rcases j with _ | j; · obtain rfl := Option.some.inj hf; obtain rfl := Option.some.inj hp; exact ⟨rfl, ok3.size⟩
  cases hp
theorem pl97 (w : World) : (((Try.prog.fieldsOf 97).toList).mapM fun f => (do pure (f.offset, ← sizeOf f.type) : Sem (Nat × Nat))).run Try.prog w = .ok [(0, 2), (2, 1), (3, 1), (4, 1)] w := by
  simp only [Program.fieldsOf, Try.underlying97]
  refine run_places _ _ rfl ?_
  intro j fd p hf hp
  rcases j with _ | j; · obtain rfl := Option.some.inj hf; obtain rfl := Option.some.inj hp; exact ⟨rfl, ok95.size⟩
  rcases j with _ | j; · obtain rfl := Option.some.inj hf; obtain rfl := Option.some.inj hp; exact ⟨rfl, ok30.size⟩
  rcases j with _ | j; · obtain rfl := Option.some.inj hf; obtain rfl := Option.some.inj hp; exact ⟨rfl, ok3.size⟩
  rcases j with _ | j; · obtain rfl := Option.some.inj hf; obtain rfl := Option.some.inj hp; exact ⟨rfl, ok4.size⟩
  cases hp
theorem pl125 (w : World) : (((Try.prog.fieldsOf 125).toList).mapM fun f => (do pure (f.offset, ← sizeOf f.type) : Sem (Nat × Nat))).run Try.prog w = .ok [(0, 1), (1, 1)] w := by
  simp only [Program.fieldsOf, Try.underlying125]
  refine run_places _ _ rfl ?_
  intro j fd p hf hp
  rcases j with _ | j; · obtain rfl := Option.some.inj hf; obtain rfl := Option.some.inj hp; exact ⟨rfl, ok72.size⟩
  rcases j with _ | j; · obtain rfl := Option.some.inj hf; obtain rfl := Option.some.inj hp; exact ⟨rfl, ok3.size⟩
  cases hp
theorem pl127 (w : World) : (((Try.prog.fieldsOf 127).toList).mapM fun f => (do pure (f.offset, ← sizeOf f.type) : Sem (Nat × Nat))).run Try.prog w = .ok [(0, 1)] w := by
  simp only [Program.fieldsOf, Try.underlying127]
  refine run_places _ _ rfl ?_
  intro j fd p hf hp
  rcases j with _ | j; · obtain rfl := Option.some.inj hf; obtain rfl := Option.some.inj hp; exact ⟨rfl, ok31.size⟩
  cases hp
theorem q_build47_0_1_2 {n : Nat} {f : Nat → Value} {w : World} {o : Oper} {x0 : Operand} {x1 : Operand} {x2 : Operand} {v0 : Int} {v1 : Int} {v2 : (List UInt8)} (ho : o.op = .build 47 #[(0, x0), (1, x1), (2, x2)]) (h0 : evl n f x0 = .int .i64 (v0)) (h1 : evl n f x1 = .int .i64 (v1)) (h2 : evl n f x2 = .string ⟨(v2).toArray⟩) : (execOp (evl n f) o).run Try.prog w = .ok (.value (T46.enc ⟨v0, v1, v2⟩)) w :=
  q_build (ps := [(0, x0), (1, x1), (2, x2)]) (pv := [(0, .int .i64 (v0)), (1, .int .i64 (v1)), (2, .string ⟨(v2).toArray⟩)]) (cs := S46.cells ⟨v0, v1, v2⟩) ho Try.underlying47 inf47 (by have := pl47; simp only [Program.fieldsOf, Try.underlying47] at this; exact this) (by simp only [List.map_cons, List.map_nil, h0, h1, h2]) (by rfl)
theorem q_build53_0_2 {n : Nat} {f : Nat → Value} {w : World} {o : Oper} {x0 : Operand} {x2 : Operand} {v0 : (Option Addr)} {v2 : (Option Nat)} (ho : o.op = .build 53 #[(0, x0), (2, x2)]) (h0 : evl n f x0 = .pointer (v0)) (h2 : evl n f x2 = .map (v2)) : (execOp (evl n f) o).run Try.prog w = .ok (.value (T52.enc ⟨v0, (0 : Int), v2⟩)) w :=
  q_build (ps := [(0, x0), (2, x2)]) (pv := [(0, .pointer (v0)), (2, .map (v2))]) (cs := S52.cells ⟨v0, (0 : Int), v2⟩) ho Try.underlying53 inf53 (by have := pl53; simp only [Program.fieldsOf, Try.underlying53] at this; exact this) (by simp only [List.map_cons, List.map_nil, h0, h2]) (by rfl)
theorem q_build80_0 {n : Nat} {f : Nat → Value} {w : World} {o : Oper} {x0 : Operand} {v0 : Slc} (ho : o.op = .build 80 #[(0, x0)]) (h0 : evl n f x0 = tSlc.enc (v0)) : (execOp (evl n f) o).run Try.prog w = .ok (.value (T79.enc ⟨v0, (0 : Int), false, (0 : Int), (⟨none, 0, 0⟩ : Slc)⟩)) w :=
  q_build (ps := [(0, x0)]) (pv := [(0, tSlc.enc (v0))]) (cs := S79.cells ⟨v0, (0 : Int), false, (0 : Int), (⟨none, 0, 0⟩ : Slc)⟩) ho Try.underlying80 inf80 (by have := pl80; simp only [Program.fieldsOf, Try.underlying80] at this; exact this) (by simp only [List.map_cons, List.map_nil, h0]) (by rfl)
theorem q_build91_0 {n : Nat} {f : Nat → Value} {w : World} {o : Oper} {x0 : Operand} {v0 : Int} (ho : o.op = .build 91 #[(0, x0)]) (h0 : evl n f x0 = .int .i64 (v0)) : (execOp (evl n f) o).run Try.prog w = .ok (.value (T90.enc ⟨v0, (0 : Int), (0 : Int), (0 : Nat), ([] : List UInt8)⟩)) w :=
  q_build (ps := [(0, x0)]) (pv := [(0, .int .i64 (v0))]) (cs := S90.cells ⟨v0, (0 : Int), (0 : Int), (0 : Nat), ([] : List UInt8)⟩) ho Try.underlying91 inf91 (by have := pl91; simp only [Program.fieldsOf, Try.underlying91] at this; exact this) (by simp only [List.map_cons, List.map_nil, h0]) (by rfl)
theorem q_build91_0_1 {n : Nat} {f : Nat → Value} {w : World} {o : Oper} {x0 : Operand} {x1 : Operand} {v0 : Int} {v1 : Int} (ho : o.op = .build 91 #[(0, x0), (1, x1)]) (h0 : evl n f x0 = .int .i64 (v0)) (h1 : evl n f x1 = .int .u64 (v1)) : (execOp (evl n f) o).run Try.prog w = .ok (.value (T90.enc ⟨v0, v1, (0 : Int), (0 : Nat), ([] : List UInt8)⟩)) w :=
  q_build (ps := [(0, x0), (1, x1)]) (pv := [(0, .int .i64 (v0)), (1, .int .u64 (v1))]) (cs := S90.cells ⟨v0, v1, (0 : Int), (0 : Nat), ([] : List UInt8)⟩) ho Try.underlying91 inf91 (by have := pl91; simp only [Program.fieldsOf, Try.underlying91] at this; exact this) (by simp only [List.map_cons, List.map_nil, h0, h1]) (by rfl)
theorem q_build91_0_2 {n : Nat} {f : Nat → Value} {w : World} {o : Oper} {x0 : Operand} {x2 : Operand} {v0 : Int} {v2 : Int} (ho : o.op = .build 91 #[(0, x0), (2, x2)]) (h0 : evl n f x0 = .int .i64 (v0)) (h2 : evl n f x2 = .int .i64 (v2)) : (execOp (evl n f) o).run Try.prog w = .ok (.value (T90.enc ⟨v0, (0 : Int), v2, (0 : Nat), ([] : List UInt8)⟩)) w :=
  q_build (ps := [(0, x0), (2, x2)]) (pv := [(0, .int .i64 (v0)), (2, .int .i64 (v2))]) (cs := S90.cells ⟨v0, (0 : Int), v2, (0 : Nat), ([] : List UInt8)⟩) ho Try.underlying91 inf91 (by have := pl91; simp only [Program.fieldsOf, Try.underlying91] at this; exact this) (by simp only [List.map_cons, List.map_nil, h0, h2]) (by rfl)
theorem q_build91_0_4 {n : Nat} {f : Nat → Value} {w : World} {o : Oper} {x0 : Operand} {x4 : Operand} {v0 : Int} {v4 : (List UInt8)} (ho : o.op = .build 91 #[(0, x0), (4, x4)]) (h0 : evl n f x0 = .int .i64 (v0)) (h4 : evl n f x4 = .string ⟨(v4).toArray⟩) : (execOp (evl n f) o).run Try.prog w = .ok (.value (T90.enc ⟨v0, (0 : Int), (0 : Int), (0 : Nat), v4⟩)) w :=
  q_build (ps := [(0, x0), (4, x4)]) (pv := [(0, .int .i64 (v0)), (4, .string ⟨(v4).toArray⟩)]) (cs := S90.cells ⟨v0, (0 : Int), (0 : Int), (0 : Nat), v4⟩) ho Try.underlying91 inf91 (by have := pl91; simp only [Program.fieldsOf, Try.underlying91] at this; exact this) (by simp only [List.map_cons, List.map_nil, h0, h4]) (by rfl)
theorem q_build95_0_1 {n : Nat} {f : Nat → Value} {w : World} {o : Oper} {x0 : Operand} {x1 : Operand} {v0 : Int} {v1 : Int} (ho : o.op = .build 95 #[(0, x0), (1, x1)]) (h0 : evl n f x0 = .int .i64 (v0)) (h1 : evl n f x1 = .int .i64 (v1)) : (execOp (evl n f) o).run Try.prog w = .ok (.value (T94.enc ⟨v0, v1⟩)) w :=
  q_build (ps := [(0, x0), (1, x1)]) (pv := [(0, .int .i64 (v0)), (1, .int .i64 (v1))]) (cs := S94.cells ⟨v0, v1⟩) ho Try.underlying95 inf95 (by have := pl95; simp only [Program.fieldsOf, Try.underlying95] at this; exact this) (by simp only [List.map_cons, List.map_nil, h0, h1]) (by rfl)
theorem q_build97_0_1_2 {n : Nat} {f : Nat → Value} {w : World} {o : Oper} {x0 : Operand} {x1 : Operand} {x2 : Operand} {v0 : S94} {v1 : (Option Addr)} {v2 : Int} (ho : o.op = .build 97 #[(0, x0), (1, x1), (2, x2)]) (h0 : evl n f x0 = T94.enc (v0)) (h1 : evl n f x1 = .pointer (v1)) (h2 : evl n f x2 = .int .i64 (v2)) : (execOp (evl n f) o).run Try.prog w = .ok (.value (T96.enc ⟨v0, v1, v2, false⟩)) w :=
  q_build (ps := [(0, x0), (1, x1), (2, x2)]) (pv := [(0, T94.enc (v0)), (1, .pointer (v1)), (2, .int .i64 (v2))]) (cs := S96.cells ⟨v0, v1, v2, false⟩) ho Try.underlying97 inf97 (by have := pl97; simp only [Program.fieldsOf, Try.underlying97] at this; exact this) (by simp only [List.map_cons, List.map_nil, h0, h1, h2]) (by rfl)
theorem q_build125_0 {n : Nat} {f : Nat → Value} {w : World} {o : Oper} {x0 : Operand} {v0 : Slc} (ho : o.op = .build 125 #[(0, x0)]) (h0 : evl n f x0 = tSlc.enc (v0)) : (execOp (evl n f) o).run Try.prog w = .ok (.value (T124.enc ⟨v0, (0 : Int)⟩)) w :=
  q_build (ps := [(0, x0)]) (pv := [(0, tSlc.enc (v0))]) (cs := S124.cells ⟨v0, (0 : Int)⟩) ho Try.underlying125 inf125 (by have := pl125; simp only [Program.fieldsOf, Try.underlying125] at this; exact this) (by simp only [List.map_cons, List.map_nil, h0]) (by rfl)
theorem q_build127_0 {n : Nat} {f : Nat → Value} {w : World} {o : Oper} {x0 : Operand} {v0 : Int} (ho : o.op = .build 127 #[(0, x0)]) (h0 : evl n f x0 = .int .i64 (v0)) : (execOp (evl n f) o).run Try.prog w = .ok (.value (T126.enc ⟨v0⟩)) w :=
  q_build (ps := [(0, x0)]) (pv := [(0, .int .i64 (v0))]) (cs := S126.cells ⟨v0⟩) ho Try.underlying127 inf127 (by have := pl127; simp only [Program.fieldsOf, Try.underlying127] at this; exact this) (by simp only [List.map_cons, List.map_nil, h0]) (by rfl)
def S46.eqb (x y : S46) : Bool := ((x.Slot == y.Slot) && ((x.B == y.B) && ((x.V == y.V) && true)))
theorem eqIn47 {d : Nat} {w : World} (x y : S46) : (Op.equalIn (d + 2) 47 (.agg (S46.cells x).toArray) (.agg (S46.cells y).toArray)).run Try.prog w = .ok (S46.eqb x y) w :=
  eqI_struct Try.underlying47 (by kernel_rfl) (eqF_cons (by decide) (run_part1 Try.underlying3 rfl rfl) (run_part1 Try.underlying3 rfl rfl) (eqI_int Try.underlying3) (eqF_cons (by decide) (run_part1 Try.underlying2 rfl rfl) (run_part1 Try.underlying2 rfl rfl) (eqI_int Try.underlying2) (eqF_cons (by decide) (run_part1 Try.underlying9 rfl rfl) (run_part1 Try.underlying9 rfl rfl) (eqI_str Try.underlying9) eqF_nil)))
theorem eq47 (x y : S46) : Try.prog.eqGuardType Try.prog.depth 47 = false ∧ ∀ w, (Op.equalIn 10000 47 (.agg (S46.cells x).toArray) (.agg (S46.cells y).toArray)).run Try.prog w = .ok (S46.eqb x y) w :=
  ⟨by kernel_rfl, fun _ => eqIn47 (d := 9998) x y⟩
theorem ext82 : Ext Try.prog 82 Extern.MathFloatBits.float64frombits := ⟨_, Try.func82, rfl, rfl, by kernel_rfl, by kernel_rfl⟩
theorem ext83 : Ext Try.prog 83 Extern.MathFloatBits.float64bits := ⟨_, Try.func83, rfl, rfl, by kernel_rfl, by kernel_rfl⟩
end Go.Proofs.Ytjkmeooncmhonaa.Cf
