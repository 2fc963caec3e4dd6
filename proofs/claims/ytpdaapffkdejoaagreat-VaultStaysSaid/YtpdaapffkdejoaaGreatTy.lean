/- The types of the program, typed. Printed by gen.py (own tool). -/
import Derived.Test.YtpdaapffkdejoaaGreatCfP
import Derived.Test.YtpdaapffkdejoaaGreatProg
namespace Go.Proofs.YtpdaapffkdejoaaGreat.Cf
open Go
set_option maxRecDepth 100000
set_option linter.unusedVariables false
set_option linter.unusedSimpArgs false
-- struct { s *store.Store }
structure S29 where
  s_ : (Option Addr)
def S29.cells (x : S29) : List Value := [.pointer (x.s_)]
@[reducible] def T29 : Ty S29 := tAgg S29.cells
@[reducible] def Z29 : S29 := ⟨(none : Option Addr)⟩
-- struct { vault.past; rate float64; top int64; held map[int]api.Held; busy map[int]int; fates map[int]vault.fate }
structure S34 where
  past : S29
  rate : Nat
  top : Int
  held : (Option Nat)
  busy : (Option Nat)
  fates : (Option Nat)
def S34.cells (x : S34) : List Value := S29.cells (x.past) ++ ([.float .f64 (x.rate), .int .i64 (x.top), .map (x.held), .map (x.busy), .map (x.fates)])
@[reducible] def T34 : Ty S34 := tAgg S34.cells
@[reducible] def Z34 : S34 := ⟨Z29, (0 : Nat), (0 : Int), (none : Option Nat), (none : Option Nat), (none : Option Nat)⟩
-- struct { Kind int; ID int; Account int; T int64; N int64; Pays bool }
structure S41 where
  Kind : Int
  ID : Int
  Account : Int
  T_ : Int
  N : Int
  Pays : Bool
def S41.cells (x : S41) : List Value := [.int .i64 (x.Kind), .int .i64 (x.ID), .int .i64 (x.Account), .int .i64 (x.T_), .int .i64 (x.N), .bool (x.Pays)]
@[reducible] def T41 : Ty S41 := tAgg S41.cells
@[reducible] def Z41 : S41 := ⟨(0 : Int), (0 : Int), (0 : Int), (0 : Int), (0 : Int), false⟩
-- struct { ID int; Account int; N int64; Pays bool }
structure S52 where
  ID : Int
  Account : Int
  N : Int
  Pays : Bool
def S52.cells (x : S52) : List Value := [.int .i64 (x.ID), .int .i64 (x.Account), .int .i64 (x.N), .bool (x.Pays)]
@[reducible] def T52 : Ty S52 := tAgg S52.cells
@[reducible] def Z52 : S52 := ⟨(0 : Int), (0 : Int), (0 : Int), false⟩
-- struct { Part api.Part; T int64; Fee int64 }
structure S54 where
  Part : S52
  T_ : Int
  Fee : Int
def S54.cells (x : S54) : List Value := S52.cells (x.Part) ++ ([.int .i64 (x.T_), .int .i64 (x.Fee)])
@[reducible] def T54 : Ty S54 := tAgg S54.cells
@[reducible] def Z54 : S54 := ⟨Z52, (0 : Int), (0 : Int)⟩
-- struct { Key int; V int64 }
structure S62 where
  Key : Int
  V : Int
def S62.cells (x : S62) : List Value := [.int .i64 (x.Key), .int .i64 (x.V)]
@[reducible] def T62 : Ty S62 := tAgg S62.cells
@[reducible] def Z62 : S62 := ⟨(0 : Int), (0 : Int)⟩
-- struct { what api.Fate; t int64 }
structure S69 where
  what : Int
  t_ : Int
def S69.cells (x : S69) : List Value := [.int .i64 (x.what), .int .i64 (x.t_)]
@[reducible] def T69 : Ty S69 := tAgg S69.cells
@[reducible] def Z69 : S69 := ⟨(0 : Int), (0 : Int)⟩
-- struct { T int64; V int64 }
structure S86 where
  T_ : Int
  V : Int
def S86.cells (x : S86) : List Value := [.int .i64 (x.T_), .int .i64 (x.V)]
@[reducible] def T86 : Ty S86 := tAgg S86.cells
@[reducible] def Z86 : S86 := ⟨(0 : Int), (0 : Int)⟩
-- struct { chains map[int]*chain.Chain; closed int64; mark int64 }
structure S94 where
  chains : (Option Nat)
  closed : Int
  mark : Int
def S94.cells (x : S94) : List Value := [.map (x.chains), .int .i64 (x.closed), .int .i64 (x.mark)]
@[reducible] def T94 : Ty S94 := tAgg S94.cells
@[reducible] def Z94 : S94 := ⟨(none : Option Nat), (0 : Int), (0 : Int)⟩
-- struct { l []api.Version; mark int64 }
structure S111 where
  l : Slc
  mark : Int
def S111.cells (x : S111) : List Value := [tSlc.enc (x.l), .int .i64 (x.mark)]
@[reducible] def T111 : Ty S111 := tAgg S111.cells
@[reducible] def Z111 : S111 := ⟨(⟨none, 0, 0⟩ : Slc), (0 : Int)⟩
-- struct {}
structure S115 where
def S115.cells (x : S115) : List Value := []
@[reducible] def T115 : Ty S115 := tAgg S115.cells
@[reducible] def Z115 : S115 := ⟨⟩
theorem inf2 : ∃ i, Tryz.prog.info? 2 = some i ∧ i.zero = some (.int .i64 ((0 : Int))) ∧ i.size = 1 ∧ i.bytes = 8 := info_four (by kernel_rfl)
theorem ok2 : TyOk Tryz.prog 2 (tInt .i64) 1 := ⟨(inf2).imp fun _ h => ⟨h.1, h.2.2.1⟩, fun _ => rfl, .inr ⟨_, Tryz.underlying2, rfl, rfl, fun _ => rfl⟩, fun x => rfl, fun x v hv => by obtain rfl := List.mem_singleton.1 hv; exact rfl⟩
theorem inf3 : ∃ i, Tryz.prog.info? 3 = some i ∧ i.zero = some (.int .i64 ((0 : Int))) ∧ i.size = 1 ∧ i.bytes = 8 := info_four (by kernel_rfl)
theorem ok3 : TyOk Tryz.prog 3 (tInt .i64) 1 := ⟨(inf3).imp fun _ h => ⟨h.1, h.2.2.1⟩, fun _ => rfl, .inr ⟨_, Tryz.underlying3, rfl, rfl, fun _ => rfl⟩, fun x => rfl, fun x v hv => by obtain rfl := List.mem_singleton.1 hv; exact rfl⟩
theorem inf4 : ∃ i, Tryz.prog.info? 4 = some i ∧ i.zero = some (.bool (false)) ∧ i.size = 1 ∧ i.bytes = 1 := info_four (by kernel_rfl)
theorem ok4 : TyOk Tryz.prog 4 tBool 1 := ⟨(inf4).imp fun _ h => ⟨h.1, h.2.2.1⟩, fun _ => rfl, .inr ⟨_, Tryz.underlying4, rfl, rfl, fun _ => rfl⟩, fun x => rfl, fun x v hv => by obtain rfl := List.mem_singleton.1 hv; exact rfl⟩
theorem inf22 : ∃ i, Tryz.prog.info? 22 = some i ∧ i.zero = some (.float .f64 ((0 : Nat))) ∧ i.size = 1 ∧ i.bytes = 8 := info_four (by kernel_rfl)
theorem ok22 : TyOk Tryz.prog 22 tFlt 1 := ⟨(inf22).imp fun _ h => ⟨h.1, h.2.2.1⟩, fun _ => rfl, .inr ⟨_, Tryz.underlying22, rfl, rfl, fun _ => rfl⟩, fun x => rfl, fun x v hv => by obtain rfl := List.mem_singleton.1 hv; exact rfl⟩
theorem inf23 : ∃ i, Tryz.prog.info? 23 = some i ∧ i.zero = some (tSlc.enc ((⟨none, 0, 0⟩ : Slc))) ∧ i.size = 1 ∧ i.bytes = 24 := info_four (by kernel_rfl)
theorem ok23 : TyOk Tryz.prog 23 tSlc 1 := ⟨(inf23).imp fun _ h => ⟨h.1, h.2.2.1⟩, fun _ => rfl, .inr ⟨_, Tryz.underlying23, rfl, rfl, fun _ => rfl⟩, fun x => rfl, fun x v hv => by obtain rfl := List.mem_singleton.1 hv; exact rfl⟩
theorem inf24 : ∃ i, Tryz.prog.info? 24 = some i ∧ i.zero = some (.pointer ((none : Option Addr))) ∧ i.size = 1 ∧ i.bytes = 8 := info_four (by kernel_rfl)
theorem ok24 : TyOk Tryz.prog 24 tPtr 1 := ⟨(inf24).imp fun _ h => ⟨h.1, h.2.2.1⟩, fun _ => rfl, .inr ⟨_, Tryz.underlying24, rfl, rfl, fun _ => rfl⟩, fun x => rfl, fun x v hv => by obtain rfl := List.mem_singleton.1 hv; exact rfl⟩
theorem inf28 : ∃ i, Tryz.prog.info? 28 = some i ∧ i.zero = some (.pointer ((none : Option Addr))) ∧ i.size = 1 ∧ i.bytes = 8 := info_four (by kernel_rfl)
theorem ok28 : TyOk Tryz.prog 28 tPtr 1 := ⟨(inf28).imp fun _ h => ⟨h.1, h.2.2.1⟩, fun _ => rfl, .inr ⟨_, Tryz.underlying28, rfl, rfl, fun _ => rfl⟩, fun x => rfl, fun x v hv => by obtain rfl := List.mem_singleton.1 hv; exact rfl⟩
theorem inf30 : ∃ i, Tryz.prog.info? 30 = some i ∧ i.zero = some (T29.enc (Z29)) ∧ i.size = 1 ∧ i.bytes = 8 := info_four (by kernel_rfl)
theorem len30 (x : S29) : (T29.cells x).length = 1 := by rfl
theorem one30 (x : S29) : ∀ v ∈ T29.cells x, v.oneCell' = true := by
  show ∀ v ∈ S29.cells x, v.oneCell' = true
  simp only [S29.cells, List.forall_mem_append, List.forall_mem_cons, List.forall_mem_nil]
  exact ⟨rfl, fun _ h => absurd h (List.not_mem_nil)⟩
theorem ok30 : TyOk Tryz.prog 30 T29 1 := ⟨(inf30).imp fun _ h => ⟨h.1, h.2.2.1⟩, len30, .inl ⟨_, Tryz.underlying30, rfl, fun _ => rfl⟩, fun _ => rfl, one30⟩
theorem inf31 : ∃ i, Tryz.prog.info? 31 = some i ∧ i.zero = some (.map ((none : Option Nat))) ∧ i.size = 1 ∧ i.bytes = 8 := info_four (by kernel_rfl)
theorem ok31 : TyOk Tryz.prog 31 tMap 1 := ⟨(inf31).imp fun _ h => ⟨h.1, h.2.2.1⟩, fun _ => rfl, .inr ⟨_, Tryz.underlying31, rfl, rfl, fun _ => rfl⟩, fun x => rfl, fun x v hv => by obtain rfl := List.mem_singleton.1 hv; exact rfl⟩
theorem inf32 : ∃ i, Tryz.prog.info? 32 = some i ∧ i.zero = some (.map ((none : Option Nat))) ∧ i.size = 1 ∧ i.bytes = 8 := info_four (by kernel_rfl)
theorem ok32 : TyOk Tryz.prog 32 tMap 1 := ⟨(inf32).imp fun _ h => ⟨h.1, h.2.2.1⟩, fun _ => rfl, .inr ⟨_, Tryz.underlying32, rfl, rfl, fun _ => rfl⟩, fun x => rfl, fun x v hv => by obtain rfl := List.mem_singleton.1 hv; exact rfl⟩
theorem inf33 : ∃ i, Tryz.prog.info? 33 = some i ∧ i.zero = some (.map ((none : Option Nat))) ∧ i.size = 1 ∧ i.bytes = 8 := info_four (by kernel_rfl)
theorem ok33 : TyOk Tryz.prog 33 tMap 1 := ⟨(inf33).imp fun _ h => ⟨h.1, h.2.2.1⟩, fun _ => rfl, .inr ⟨_, Tryz.underlying33, rfl, rfl, fun _ => rfl⟩, fun x => rfl, fun x v hv => by obtain rfl := List.mem_singleton.1 hv; exact rfl⟩
theorem inf35 : ∃ i, Tryz.prog.info? 35 = some i ∧ i.zero = some (T34.enc (Z34)) ∧ i.size = 6 ∧ i.bytes = 48 := info_four (by kernel_rfl)
theorem len35 (x : S34) : (T34.cells x).length = 6 := by rfl
theorem one35 (x : S34) : ∀ v ∈ T34.cells x, v.oneCell' = true := by
  show ∀ v ∈ S34.cells x, v.oneCell' = true
  simp only [S34.cells, List.forall_mem_append, List.forall_mem_cons, List.forall_mem_nil]
  exact ⟨one30 _, ⟨rfl, rfl, rfl, rfl, rfl, fun _ h => absurd h (List.not_mem_nil)⟩⟩
theorem ok35 : TyOk Tryz.prog 35 T34 6 := ⟨(inf35).imp fun _ h => ⟨h.1, h.2.2.1⟩, len35, .inl ⟨_, Tryz.underlying35, rfl, fun _ => rfl⟩, fun _ => rfl, one35⟩
theorem inf36 : ∃ i, Tryz.prog.info? 36 = some i ∧ i.zero = some (tSlc.enc ((⟨none, 0, 0⟩ : Slc))) ∧ i.size = 1 ∧ i.bytes = 24 := info_four (by kernel_rfl)
theorem ok36 : TyOk Tryz.prog 36 tSlc 1 := ⟨(inf36).imp fun _ h => ⟨h.1, h.2.2.1⟩, fun _ => rfl, .inr ⟨_, Tryz.underlying36, rfl, rfl, fun _ => rfl⟩, fun x => rfl, fun x v hv => by obtain rfl := List.mem_singleton.1 hv; exact rfl⟩
theorem inf37 : ∃ i, Tryz.prog.info? 37 = some i ∧ i.zero = some (.int .i64 ((0 : Int))) ∧ i.size = 1 ∧ i.bytes = 8 := info_four (by kernel_rfl)
theorem ok37 : TyOk Tryz.prog 37 (tInt .i64) 1 := ⟨(inf37).imp fun _ h => ⟨h.1, h.2.2.1⟩, fun _ => rfl, .inr ⟨_, Tryz.underlying37, rfl, rfl, fun _ => rfl⟩, fun x => rfl, fun x v hv => by obtain rfl := List.mem_singleton.1 hv; exact rfl⟩
theorem inf42 : ∃ i, Tryz.prog.info? 42 = some i ∧ i.zero = some (T41.enc (Z41)) ∧ i.size = 6 ∧ i.bytes = 48 := info_four (by kernel_rfl)
theorem len42 (x : S41) : (T41.cells x).length = 6 := by rfl
theorem one42 (x : S41) : ∀ v ∈ T41.cells x, v.oneCell' = true := by
  show ∀ v ∈ S41.cells x, v.oneCell' = true
  simp only [S41.cells, List.forall_mem_append, List.forall_mem_cons, List.forall_mem_nil]
  exact ⟨rfl, rfl, rfl, rfl, rfl, rfl, fun _ h => absurd h (List.not_mem_nil)⟩
theorem ok42 : TyOk Tryz.prog 42 T41 6 := ⟨(inf42).imp fun _ h => ⟨h.1, h.2.2.1⟩, len42, .inl ⟨_, Tryz.underlying42, rfl, fun _ => rfl⟩, fun _ => rfl, one42⟩
theorem inf45 : ∃ i, Tryz.prog.info? 45 = some i ∧ i.zero = some (.int .i64 ((0 : Int))) ∧ i.size = 1 ∧ i.bytes = 8 := info_four (by kernel_rfl)
theorem ok45 : TyOk Tryz.prog 45 (tInt .i64) 1 := ⟨(inf45).imp fun _ h => ⟨h.1, h.2.2.1⟩, fun _ => rfl, .inr ⟨_, Tryz.underlying45, rfl, rfl, fun _ => rfl⟩, fun x => rfl, fun x v hv => by obtain rfl := List.mem_singleton.1 hv; exact rfl⟩
theorem inf50 : ∃ i, Tryz.prog.info? 50 = some i ∧ i.zero = some (tSlc.enc ((⟨none, 0, 0⟩ : Slc))) ∧ i.size = 1 ∧ i.bytes = 24 := info_four (by kernel_rfl)
theorem ok50 : TyOk Tryz.prog 50 tSlc 1 := ⟨(inf50).imp fun _ h => ⟨h.1, h.2.2.1⟩, fun _ => rfl, .inr ⟨_, Tryz.underlying50, rfl, rfl, fun _ => rfl⟩, fun x => rfl, fun x v hv => by obtain rfl := List.mem_singleton.1 hv; exact rfl⟩
theorem inf53 : ∃ i, Tryz.prog.info? 53 = some i ∧ i.zero = some (T52.enc (Z52)) ∧ i.size = 4 ∧ i.bytes = 32 := info_four (by kernel_rfl)
theorem len53 (x : S52) : (T52.cells x).length = 4 := by rfl
theorem one53 (x : S52) : ∀ v ∈ T52.cells x, v.oneCell' = true := by
  show ∀ v ∈ S52.cells x, v.oneCell' = true
  simp only [S52.cells, List.forall_mem_append, List.forall_mem_cons, List.forall_mem_nil]
  exact ⟨rfl, rfl, rfl, rfl, fun _ h => absurd h (List.not_mem_nil)⟩
theorem ok53 : TyOk Tryz.prog 53 T52 4 := ⟨(inf53).imp fun _ h => ⟨h.1, h.2.2.1⟩, len53, .inl ⟨_, Tryz.underlying53, rfl, fun _ => rfl⟩, fun _ => rfl, one53⟩
theorem inf55 : ∃ i, Tryz.prog.info? 55 = some i ∧ i.zero = some (T54.enc (Z54)) ∧ i.size = 6 ∧ i.bytes = 48 := info_four (by kernel_rfl)
theorem len55 (x : S54) : (T54.cells x).length = 6 := by rfl
theorem one55 (x : S54) : ∀ v ∈ T54.cells x, v.oneCell' = true := by
  show ∀ v ∈ S54.cells x, v.oneCell' = true
  simp only [S54.cells, List.forall_mem_append, List.forall_mem_cons, List.forall_mem_nil]
  exact ⟨one53 _, ⟨rfl, rfl, fun _ h => absurd h (List.not_mem_nil)⟩⟩
theorem ok55 : TyOk Tryz.prog 55 T54 6 := ⟨(inf55).imp fun _ h => ⟨h.1, h.2.2.1⟩, len55, .inl ⟨_, Tryz.underlying55, rfl, fun _ => rfl⟩, fun _ => rfl, one55⟩
theorem inf63 : ∃ i, Tryz.prog.info? 63 = some i ∧ i.zero = some (T62.enc (Z62)) ∧ i.size = 2 ∧ i.bytes = 16 := info_four (by kernel_rfl)
theorem len63 (x : S62) : (T62.cells x).length = 2 := by rfl
theorem one63 (x : S62) : ∀ v ∈ T62.cells x, v.oneCell' = true := by
  show ∀ v ∈ S62.cells x, v.oneCell' = true
  simp only [S62.cells, List.forall_mem_append, List.forall_mem_cons, List.forall_mem_nil]
  exact ⟨rfl, rfl, fun _ h => absurd h (List.not_mem_nil)⟩
theorem ok63 : TyOk Tryz.prog 63 T62 2 := ⟨(inf63).imp fun _ h => ⟨h.1, h.2.2.1⟩, len63, .inl ⟨_, Tryz.underlying63, rfl, fun _ => rfl⟩, fun _ => rfl, one63⟩
theorem inf70 : ∃ i, Tryz.prog.info? 70 = some i ∧ i.zero = some (T69.enc (Z69)) ∧ i.size = 2 ∧ i.bytes = 16 := info_four (by kernel_rfl)
theorem len70 (x : S69) : (T69.cells x).length = 2 := by rfl
theorem one70 (x : S69) : ∀ v ∈ T69.cells x, v.oneCell' = true := by
  show ∀ v ∈ S69.cells x, v.oneCell' = true
  simp only [S69.cells, List.forall_mem_append, List.forall_mem_cons, List.forall_mem_nil]
  exact ⟨rfl, rfl, fun _ h => absurd h (List.not_mem_nil)⟩
theorem ok70 : TyOk Tryz.prog 70 T69 2 := ⟨(inf70).imp fun _ h => ⟨h.1, h.2.2.1⟩, len70, .inl ⟨_, Tryz.underlying70, rfl, fun _ => rfl⟩, fun _ => rfl, one70⟩
theorem inf80 : ∃ i, Tryz.prog.info? 80 = some i ∧ i.zero = some ((Fv.nil).enc) ∧ i.size = 1 ∧ i.bytes = 8 := info_four (by kernel_rfl)
theorem ok80 : TyOk Tryz.prog 80 tFun 1 := ⟨(inf80).imp fun _ h => ⟨h.1, h.2.2.1⟩, fun _ => rfl, .inr ⟨_, Tryz.underlying80, rfl, rfl, fun _ => rfl⟩, fun x => Fv.flat _, fun x v hv => by obtain rfl := List.mem_singleton.1 hv; exact Fv.one _⟩
theorem inf87 : ∃ i, Tryz.prog.info? 87 = some i ∧ i.zero = some (T86.enc (Z86)) ∧ i.size = 2 ∧ i.bytes = 16 := info_four (by kernel_rfl)
theorem len87 (x : S86) : (T86.cells x).length = 2 := by rfl
theorem one87 (x : S86) : ∀ v ∈ T86.cells x, v.oneCell' = true := by
  show ∀ v ∈ S86.cells x, v.oneCell' = true
  simp only [S86.cells, List.forall_mem_append, List.forall_mem_cons, List.forall_mem_nil]
  exact ⟨rfl, rfl, fun _ h => absurd h (List.not_mem_nil)⟩
theorem ok87 : TyOk Tryz.prog 87 T86 2 := ⟨(inf87).imp fun _ h => ⟨h.1, h.2.2.1⟩, len87, .inl ⟨_, Tryz.underlying87, rfl, fun _ => rfl⟩, fun _ => rfl, one87⟩
theorem inf90 : ∃ i, Tryz.prog.info? 90 = some i ∧ i.zero = some ((Fv.nil).enc) ∧ i.size = 1 ∧ i.bytes = 8 := info_four (by kernel_rfl)
theorem ok90 : TyOk Tryz.prog 90 tFun 1 := ⟨(inf90).imp fun _ h => ⟨h.1, h.2.2.1⟩, fun _ => rfl, .inr ⟨_, Tryz.underlying90, rfl, rfl, fun _ => rfl⟩, fun x => Fv.flat _, fun x v hv => by obtain rfl := List.mem_singleton.1 hv; exact Fv.one _⟩
theorem inf93 : ∃ i, Tryz.prog.info? 93 = some i ∧ i.zero = some (.map ((none : Option Nat))) ∧ i.size = 1 ∧ i.bytes = 8 := info_four (by kernel_rfl)
theorem ok93 : TyOk Tryz.prog 93 tMap 1 := ⟨(inf93).imp fun _ h => ⟨h.1, h.2.2.1⟩, fun _ => rfl, .inr ⟨_, Tryz.underlying93, rfl, rfl, fun _ => rfl⟩, fun x => rfl, fun x v hv => by obtain rfl := List.mem_singleton.1 hv; exact rfl⟩
theorem inf95 : ∃ i, Tryz.prog.info? 95 = some i ∧ i.zero = some (T94.enc (Z94)) ∧ i.size = 3 ∧ i.bytes = 24 := info_four (by kernel_rfl)
theorem len95 (x : S94) : (T94.cells x).length = 3 := by rfl
theorem one95 (x : S94) : ∀ v ∈ T94.cells x, v.oneCell' = true := by
  show ∀ v ∈ S94.cells x, v.oneCell' = true
  simp only [S94.cells, List.forall_mem_append, List.forall_mem_cons, List.forall_mem_nil]
  exact ⟨rfl, rfl, rfl, fun _ h => absurd h (List.not_mem_nil)⟩
theorem ok95 : TyOk Tryz.prog 95 T94 3 := ⟨(inf95).imp fun _ h => ⟨h.1, h.2.2.1⟩, len95, .inl ⟨_, Tryz.underlying95, rfl, fun _ => rfl⟩, fun _ => rfl, one95⟩
theorem inf97 : ∃ i, Tryz.prog.info? 97 = some i ∧ i.zero = some (.pointer ((none : Option Addr))) ∧ i.size = 1 ∧ i.bytes = 8 := info_four (by kernel_rfl)
theorem ok97 : TyOk Tryz.prog 97 tPtr 1 := ⟨(inf97).imp fun _ h => ⟨h.1, h.2.2.1⟩, fun _ => rfl, .inr ⟨_, Tryz.underlying97, rfl, rfl, fun _ => rfl⟩, fun x => rfl, fun x v hv => by obtain rfl := List.mem_singleton.1 hv; exact rfl⟩
theorem inf106 : ∃ i, Tryz.prog.info? 106 = some i ∧ i.zero = some (.int .i64 ((0 : Int))) ∧ i.size = 1 ∧ i.bytes = 8 := info_four (by kernel_rfl)
theorem ok106 : TyOk Tryz.prog 106 (tInt .i64) 1 := ⟨(inf106).imp fun _ h => ⟨h.1, h.2.2.1⟩, fun _ => rfl, .inr ⟨_, Tryz.underlying106, rfl, rfl, fun _ => rfl⟩, fun x => rfl, fun x v hv => by obtain rfl := List.mem_singleton.1 hv; exact rfl⟩
theorem inf110 : ∃ i, Tryz.prog.info? 110 = some i ∧ i.zero = some (tSlc.enc ((⟨none, 0, 0⟩ : Slc))) ∧ i.size = 1 ∧ i.bytes = 24 := info_four (by kernel_rfl)
theorem ok110 : TyOk Tryz.prog 110 tSlc 1 := ⟨(inf110).imp fun _ h => ⟨h.1, h.2.2.1⟩, fun _ => rfl, .inr ⟨_, Tryz.underlying110, rfl, rfl, fun _ => rfl⟩, fun x => rfl, fun x v hv => by obtain rfl := List.mem_singleton.1 hv; exact rfl⟩
theorem inf112 : ∃ i, Tryz.prog.info? 112 = some i ∧ i.zero = some (T111.enc (Z111)) ∧ i.size = 2 ∧ i.bytes = 32 := info_four (by kernel_rfl)
theorem len112 (x : S111) : (T111.cells x).length = 2 := by rfl
theorem one112 (x : S111) : ∀ v ∈ T111.cells x, v.oneCell' = true := by
  show ∀ v ∈ S111.cells x, v.oneCell' = true
  simp only [S111.cells, List.forall_mem_append, List.forall_mem_cons, List.forall_mem_nil]
  exact ⟨rfl, rfl, fun _ h => absurd h (List.not_mem_nil)⟩
theorem ok112 : TyOk Tryz.prog 112 T111 2 := ⟨(inf112).imp fun _ h => ⟨h.1, h.2.2.1⟩, len112, .inl ⟨_, Tryz.underlying112, rfl, fun _ => rfl⟩, fun _ => rfl, one112⟩
theorem inf115 : ∃ i, Tryz.prog.info? 115 = some i ∧ i.zero = some (T115.enc (Z115)) ∧ i.size = 0 ∧ i.bytes = 0 := info_four (by kernel_rfl)
theorem len115 (x : S115) : (T115.cells x).length = 0 := by rfl
theorem one115 (x : S115) : ∀ v ∈ T115.cells x, v.oneCell' = true := by
  show ∀ v ∈ S115.cells x, v.oneCell' = true
  simp only [S115.cells, List.forall_mem_append, List.forall_mem_cons, List.forall_mem_nil]
  exact fun _ h => absurd h (List.not_mem_nil)
theorem ok115 : TyOk Tryz.prog 115 T115 0 := ⟨(inf115).imp fun _ h => ⟨h.1, h.2.2.1⟩, len115, .inl ⟨_, Tryz.underlying115, rfl, fun _ => rfl⟩, fun _ => rfl, one115⟩
theorem inf120 : ∃ i, Tryz.prog.info? 120 = some i ∧ i.zero = some (.int .u64 ((0 : Int))) ∧ i.size = 1 ∧ i.bytes = 8 := info_four (by kernel_rfl)
theorem ok120 : TyOk Tryz.prog 120 (tInt .u64) 1 := ⟨(inf120).imp fun _ h => ⟨h.1, h.2.2.1⟩, fun _ => rfl, .inr ⟨_, Tryz.underlying120, rfl, rfl, fun _ => rfl⟩, fun x => rfl, fun x v hv => by obtain rfl := List.mem_singleton.1 hv; exact rfl⟩
theorem inf122 : ∃ i, Tryz.prog.info? 122 = some i ∧ i.zero = some (.int .u64 ((0 : Int))) ∧ i.size = 1 ∧ i.bytes = 8 := info_four (by kernel_rfl)
theorem ok122 : TyOk Tryz.prog 122 (tInt .u64) 1 := ⟨(inf122).imp fun _ h => ⟨h.1, h.2.2.1⟩, fun _ => rfl, .inr ⟨_, Tryz.underlying122, rfl, rfl, fun _ => rfl⟩, fun x => rfl, fun x v hv => by obtain rfl := List.mem_singleton.1 hv; exact rfl⟩
theorem inf138 : ∃ i, Tryz.prog.info? 138 = some i ∧ i.zero = some (tSlc.enc ((⟨none, 0, 0⟩ : Slc))) ∧ i.size = 1 ∧ i.bytes = 24 := info_four (by kernel_rfl)
theorem ok138 : TyOk Tryz.prog 138 tSlc 1 := ⟨(inf138).imp fun _ h => ⟨h.1, h.2.2.1⟩, fun _ => rfl, .inr ⟨_, Tryz.underlying138, rfl, rfl, fun _ => rfl⟩, fun x => rfl, fun x v hv => by obtain rfl := List.mem_singleton.1 hv; exact rfl⟩
theorem ent3 : Enters Tryz.prog 3 := ⟨_, Tryz.func3, rfl, by decide⟩
theorem ent4 : Enters Tryz.prog 4 := ⟨_, Tryz.func4, rfl, by decide⟩
theorem ent5 : Enters Tryz.prog 5 := ⟨_, Tryz.func5, rfl, by decide⟩
theorem ent6 : Enters Tryz.prog 6 := ⟨_, Tryz.func6, rfl, by decide⟩
theorem ent7 : Enters Tryz.prog 7 := ⟨_, Tryz.func7, rfl, by decide⟩
theorem ent8 : Enters Tryz.prog 8 := ⟨_, Tryz.func8, rfl, by decide⟩
theorem ent9 : Enters Tryz.prog 9 := ⟨_, Tryz.func9, rfl, by decide⟩
theorem ent10 : Enters Tryz.prog 10 := ⟨_, Tryz.func10, rfl, by decide⟩
theorem ent11 : Enters Tryz.prog 11 := ⟨_, Tryz.func11, rfl, by decide⟩
theorem ent12 : Enters Tryz.prog 12 := ⟨_, Tryz.func12, rfl, by decide⟩
theorem ent13 : Enters Tryz.prog 13 := ⟨_, Tryz.func13, rfl, by decide⟩
theorem ent14 : Enters Tryz.prog 14 := ⟨_, Tryz.func14, rfl, by decide⟩
theorem ent15 : Enters Tryz.prog 15 := ⟨_, Tryz.func15, rfl, by decide⟩
theorem ent16 : Enters Tryz.prog 16 := ⟨_, Tryz.func16, rfl, by decide⟩
theorem ent17 : Enters Tryz.prog 17 := ⟨_, Tryz.func17, rfl, by decide⟩
theorem ent18 : Enters Tryz.prog 18 := ⟨_, Tryz.func18, rfl, by decide⟩
theorem ent19 : Enters Tryz.prog 19 := ⟨_, Tryz.func19, rfl, by decide⟩
theorem ent20 : Enters Tryz.prog 20 := ⟨_, Tryz.func20, rfl, by decide⟩
theorem ent21 : Enters Tryz.prog 21 := ⟨_, Tryz.func21, rfl, by decide⟩
theorem ent22 : Enters Tryz.prog 22 := ⟨_, Tryz.func22, rfl, by decide⟩
theorem ent23 : Enters Tryz.prog 23 := ⟨_, Tryz.func23, rfl, by decide⟩
theorem ent24 : Enters Tryz.prog 24 := ⟨_, Tryz.func24, rfl, by decide⟩
theorem ent25 : Enters Tryz.prog 25 := ⟨_, Tryz.func25, rfl, by decide⟩
theorem ent26 : Enters Tryz.prog 26 := ⟨_, Tryz.func26, rfl, by decide⟩
theorem ent27 : Enters Tryz.prog 27 := ⟨_, Tryz.func27, rfl, by decide⟩
theorem ent28 : Enters Tryz.prog 28 := ⟨_, Tryz.func28, rfl, by decide⟩
theorem ent29 : Enters Tryz.prog 29 := ⟨_, Tryz.func29, rfl, by decide⟩
theorem ent30 : Enters Tryz.prog 30 := ⟨_, Tryz.func30, rfl, by decide⟩
theorem ent31 : Enters Tryz.prog 31 := ⟨_, Tryz.func31, rfl, by decide⟩
theorem ent32 : Enters Tryz.prog 32 := ⟨_, Tryz.func32, rfl, by decide⟩
theorem ent33 : Enters Tryz.prog 33 := ⟨_, Tryz.func33, rfl, by decide⟩
theorem ent34 : Enters Tryz.prog 34 := ⟨_, Tryz.func34, rfl, by decide⟩
theorem ent35 : Enters Tryz.prog 35 := ⟨_, Tryz.func35, rfl, by decide⟩
theorem ent36 : Enters Tryz.prog 36 := ⟨_, Tryz.func36, rfl, by decide⟩
theorem ent37 : Enters Tryz.prog 37 := ⟨_, Tryz.func37, rfl, by decide⟩
theorem ent38 : Enters Tryz.prog 38 := ⟨_, Tryz.func38, rfl, by decide⟩
theorem ent39 : Enters Tryz.prog 39 := ⟨_, Tryz.func39, rfl, by decide⟩
theorem ent40 : Enters Tryz.prog 40 := ⟨_, Tryz.func40, rfl, by decide⟩
theorem ent41 : Enters Tryz.prog 41 := ⟨_, Tryz.func41, rfl, by decide⟩
theorem ent42 : Enters Tryz.prog 42 := ⟨_, Tryz.func42, rfl, by decide⟩
theorem ent43 : Enters Tryz.prog 43 := ⟨_, Tryz.func43, rfl, by decide⟩
theorem ent44 : Enters Tryz.prog 44 := ⟨_, Tryz.func44, rfl, by decide⟩
theorem ent45 : Enters Tryz.prog 45 := ⟨_, Tryz.func45, rfl, by decide⟩
theorem ent46 : Enters Tryz.prog 46 := ⟨_, Tryz.func46, rfl, by decide⟩
theorem ent47 : Enters Tryz.prog 47 := ⟨_, Tryz.func47, rfl, by decide⟩
theorem ent48 : Enters Tryz.prog 48 := ⟨_, Tryz.func48, rfl, by decide⟩
theorem ent49 : Enters Tryz.prog 49 := ⟨_, Tryz.func49, rfl, by decide⟩
theorem ent50 : Enters Tryz.prog 50 := ⟨_, Tryz.func50, rfl, by decide⟩
theorem ent51 : Enters Tryz.prog 51 := ⟨_, Tryz.func51, rfl, by decide⟩
theorem ent52 : Enters Tryz.prog 52 := ⟨_, Tryz.func52, rfl, by decide⟩
theorem ent56 : Enters Tryz.prog 56 := ⟨_, Tryz.func56, rfl, by decide⟩
theorem ent57 : Enters Tryz.prog 57 := ⟨_, Tryz.func57, rfl, by decide⟩
theorem ent58 : Enters Tryz.prog 58 := ⟨_, Tryz.func58, rfl, by decide⟩
theorem ent59 : Enters Tryz.prog 59 := ⟨_, Tryz.func59, rfl, by decide⟩
theorem ent60 : Enters Tryz.prog 60 := ⟨_, Tryz.func60, rfl, by decide⟩
theorem ent61 : Enters Tryz.prog 61 := ⟨_, Tryz.func61, rfl, by decide⟩
theorem ent62 : Enters Tryz.prog 62 := ⟨_, Tryz.func62, rfl, by decide⟩
theorem ent63 : Enters Tryz.prog 63 := ⟨_, Tryz.func63, rfl, by decide⟩
theorem ent65 : Enters Tryz.prog 65 := ⟨_, Tryz.func65, rfl, by decide⟩
theorem ent66 : Enters Tryz.prog 66 := ⟨_, Tryz.func66, rfl, by decide⟩
theorem ent70 : Enters Tryz.prog 70 := ⟨_, Tryz.func70, rfl, by decide⟩
theorem ent71 : Enters Tryz.prog 71 := ⟨_, Tryz.func71, rfl, by decide⟩
theorem ent73 : Enters Tryz.prog 73 := ⟨_, Tryz.func73, rfl, by decide⟩
theorem ent74 : Enters Tryz.prog 74 := ⟨_, Tryz.func74, rfl, by decide⟩
theorem ent75 : Enters Tryz.prog 75 := ⟨_, Tryz.func75, rfl, by decide⟩
theorem ent76 : Enters Tryz.prog 76 := ⟨_, Tryz.func76, rfl, by decide⟩
theorem ent77 : Enters Tryz.prog 77 := ⟨_, Tryz.func77, rfl, by decide⟩
theorem ent88 : Enters Tryz.prog 88 := ⟨_, Tryz.func88, rfl, by decide⟩
theorem ent89 : Enters Tryz.prog 89 := ⟨_, Tryz.func89, rfl, by decide⟩
theorem ent90 : Enters Tryz.prog 90 := ⟨_, Tryz.func90, rfl, by decide⟩
theorem ent91 : Enters Tryz.prog 91 := ⟨_, Tryz.func91, rfl, by decide⟩
theorem ent92 : Enters Tryz.prog 92 := ⟨_, Tryz.func92, rfl, by decide⟩
theorem ent93 : Enters Tryz.prog 93 := ⟨_, Tryz.func93, rfl, by decide⟩
theorem ent94 : Enters Tryz.prog 94 := ⟨_, Tryz.func94, rfl, by decide⟩
theorem ent95 : Enters Tryz.prog 95 := ⟨_, Tryz.func95, rfl, by decide⟩
theorem ent103 : Enters Tryz.prog 103 := ⟨_, Tryz.func103, rfl, by decide⟩
theorem ent105 : Enters Tryz.prog 105 := ⟨_, Tryz.func105, rfl, by decide⟩
theorem ent108 : Enters Tryz.prog 108 := ⟨_, Tryz.func108, rfl, by decide⟩
theorem ent109 : Enters Tryz.prog 109 := ⟨_, Tryz.func109, rfl, by decide⟩
theorem ent110 : Enters Tryz.prog 110 := ⟨_, Tryz.func110, rfl, by decide⟩
theorem ent111 : Enters Tryz.prog 111 := ⟨_, Tryz.func111, rfl, by decide⟩
theorem mixed : Tryz.prog.follows .mixedOrders = true := by kernel_rfl
theorem pl30 (w : World) : (((Tryz.prog.fieldsOf 30).toList).mapM fun f => (do pure (f.offset, ← sizeOf f.type) : Sem (Nat × Nat))).run Tryz.prog w = .ok [(0, 1)] w := by
  simp only [Program.fieldsOf, Tryz.underlying30]
  refine run_places _ _ rfl ?_
  intro j fd p hf hp
  rcases j with _ | j; · obtain rfl := Option.some.inj hf; obtain rfl := Option.some.inj hp; exact ⟨rfl, ok28.size⟩
  cases hp
theorem pl35 (w : World) : (((Tryz.prog.fieldsOf 35).toList).mapM fun f => (do pure (f.offset, ← sizeOf f.type) : Sem (Nat × Nat))).run Tryz.prog w = .ok [(0, 1), (1, 1), (2, 1), (3, 1), (4, 1), (5, 1)] w := by
  simp only [Program.fieldsOf, Tryz.underlying35]
  refine run_places _ _ rfl ?_
  intro j fd p hf hp
  rcases j with _ | j; · obtain rfl := Option.some.inj hf; obtain rfl := Option.some.inj hp; exact ⟨rfl, ok30.size⟩
  rcases j with _ | j; · obtain rfl := Option.some.inj hf; obtain rfl := Option.some.inj hp; exact ⟨rfl, ok22.size⟩
  rcases j with _ | j; · obtain rfl := Option.some.inj hf; obtain rfl := Option.some.inj hp; exact ⟨rfl, ok2.size⟩
  rcases j with _ | j; · obtain rfl := Option.some.inj hf; obtain rfl := Option.some.inj hp; exact ⟨rfl, ok31.size⟩
  rcases j with _ | j; · obtain rfl := Option.some.inj hf; obtain rfl := Option.some.inj hp; exact ⟨rfl, ok32.size⟩
  rcases j with _ | j; · obtain rfl := Option.some.inj hf; obtain rfl := Option.some.inj hp; exact ⟨rfl, ok33.size⟩
  cases hp
theorem pl53 (w : World) : (((Tryz.prog.fieldsOf 53).toList).mapM fun f => (do pure (f.offset, ← sizeOf f.type) : Sem (Nat × Nat))).run Tryz.prog w = .ok [(0, 1), (1, 1), (2, 1), (3, 1)] w := by
  simp only [Program.fieldsOf, Tryz.underlying53]
  refine run_places _ _ rfl ?_
  intro j fd p hf hp
  rcases j with _ | j; · obtain rfl := Option.some.inj hf; obtain rfl := Option.some.inj hp; exact ⟨rfl, ok3.size⟩
  rcases j with _ | j; · obtain rfl := Option.some.inj hf; obtain rfl := Option.some.inj hp; exact ⟨rfl, ok3.size⟩
  rcases j with _ | j; · obtain rfl := Option.some.inj hf; obtain rfl := Option.some.inj hp; exact ⟨rfl, ok2.size⟩
  rcases j with _ | j; · obtain rfl := Option.some.inj hf; obtain rfl := Option.some.inj hp; exact ⟨rfl, ok4.size⟩
  cases hp
theorem pl55 (w : World) : (((Tryz.prog.fieldsOf 55).toList).mapM fun f => (do pure (f.offset, ← sizeOf f.type) : Sem (Nat × Nat))).run Tryz.prog w = .ok [(0, 4), (4, 1), (5, 1)] w := by
  simp only [Program.fieldsOf, Tryz.underlying55]
  refine run_places _ _ rfl ?_
  intro j fd p hf hp
  rcases j with _ | j; · obtain rfl := Option.some.inj hf; obtain rfl := Option.some.inj hp; exact ⟨rfl, ok53.size⟩
  rcases j with _ | j; · obtain rfl := Option.some.inj hf; obtain rfl := Option.some.inj hp; exact ⟨rfl, ok2.size⟩
  rcases j with _ | j; · obtain rfl := Option.some.inj hf; obtain rfl := Option.some.inj hp; exact ⟨rfl, ok2.size⟩
  cases hp
theorem pl63 (w : World) : (((Tryz.prog.fieldsOf 63).toList).mapM fun f => (do pure (f.offset, ← sizeOf f.type) : Sem (Nat × Nat))).run Tryz.prog w = .ok [(0, 1), (1, 1)] w := by
  simp only [Program.fieldsOf, Tryz.underlying63]
  refine run_places _ _ rfl ?_
  intro j fd p hf hp
  rcases j with _ | j; · obtain rfl := Option.some.inj hf; obtain rfl := Option.some.inj hp; exact ⟨rfl, ok3.size⟩
  rcases j with _ | j; · obtain rfl := Option.some.inj hf; obtain rfl := Option.some.inj hp; exact ⟨rfl, ok2.size⟩
  cases hp
theorem pl70 (w : World) : (((Tryz.prog.fieldsOf 70).toList).mapM fun f => (do pure (f.offset, ← sizeOf f.type) : Sem (Nat × Nat))).run Tryz.prog w = .ok [(0, 1), (1, 1)] w := by
  simp only [Program.fieldsOf, Tryz.underlying70]
  refine run_places _ _ rfl ?_
  intro j fd p hf hp
  rcases j with _ | j; · obtain rfl := Option.some.inj hf; obtain rfl := Option.some.inj hp; exact ⟨rfl, ok45.size⟩
  rcases j with _ | j; · obtain rfl := Option.some.inj hf; obtain rfl := Option.some.inj hp; exact ⟨rfl, ok2.size⟩
  cases hp
theorem pl87 (w : World) : (((Tryz.prog.fieldsOf 87).toList).mapM fun f => (do pure (f.offset, ← sizeOf f.type) : Sem (Nat × Nat))).run Tryz.prog w = .ok [(0, 1), (1, 1)] w := by
  simp only [Program.fieldsOf, Tryz.underlying87]
  refine run_places _ _ rfl ?_
  intro j fd p hf hp
  rcases j with _ | j; · obtain rfl := Option.some.inj hf; obtain rfl := Option.some.inj hp; exact ⟨rfl, ok2.size⟩
  rcases j with _ | j; · obtain rfl := Option.some.inj hf; obtain rfl := Option.some.inj hp; exact ⟨rfl, ok2.size⟩
  cases hp
theorem pl95 (w : World) : (((Tryz.prog.fieldsOf 95).toList).mapM fun f => (do pure (f.offset, ← sizeOf f.type) : Sem (Nat × Nat))).run Tryz.prog w = .ok [(0, 1), (1, 1), (2, 1)] w := by
  simp only [Program.fieldsOf, Tryz.underlying95]
  refine run_places _ _ rfl ?_
  intro j fd p hf hp
  rcases j with _ | j; · obtain rfl := Option.some.inj hf; obtain rfl := Option.some.inj hp; exact ⟨rfl, ok93.size⟩
  rcases j with _ | j; · obtain rfl := Option.some.inj hf; obtain rfl := Option.some.inj hp; exact ⟨rfl, ok2.size⟩
  rcases j with _ | j; · obtain rfl := Option.some.inj hf; obtain rfl := Option.some.inj hp; exact ⟨rfl, ok2.size⟩
  cases hp
theorem pl112 (w : World) : (((Tryz.prog.fieldsOf 112).toList).mapM fun f => (do pure (f.offset, ← sizeOf f.type) : Sem (Nat × Nat))).run Tryz.prog w = .ok [(0, 1), (1, 1)] w := by
  simp only [Program.fieldsOf, Tryz.underlying112]
  refine run_places _ _ rfl ?_
  intro j fd p hf hp
  rcases j with _ | j; · obtain rfl := Option.some.inj hf; obtain rfl := Option.some.inj hp; exact ⟨rfl, ok110.size⟩
  rcases j with _ | j; · obtain rfl := Option.some.inj hf; obtain rfl := Option.some.inj hp; exact ⟨rfl, ok2.size⟩
  cases hp
theorem pl115 (w : World) : (((Tryz.prog.fieldsOf 115).toList).mapM fun f => (do pure (f.offset, ← sizeOf f.type) : Sem (Nat × Nat))).run Tryz.prog w = .ok [] w := by
  simp only [Program.fieldsOf, Tryz.underlying115]
  refine run_places _ _ rfl ?_
  intro j fd p hf hp
  cases hp
theorem q_build30_0 {n : Nat} {f : Nat → Value} {w : World} {o : Oper} {x0 : Operand} {v0 : (Option Addr)} (ho : o.op = .build 30 #[(0, x0)]) (h0 : evl n f x0 = .pointer (v0)) : (execOp (evl n f) o).run Tryz.prog w = .ok (.value (T29.enc ⟨v0⟩)) w :=
  q_build (ps := [(0, x0)]) (pv := [(0, .pointer (v0))]) (cs := S29.cells ⟨v0⟩) ho Tryz.underlying30 inf30 (by have := pl30; simp only [Program.fieldsOf, Tryz.underlying30] at this; exact this) (by simp only [List.map_cons, List.map_nil, h0]) (by rfl)
theorem q_build35_0_1_3_4_5 {n : Nat} {f : Nat → Value} {w : World} {o : Oper} {x0 : Operand} {x1 : Operand} {x3 : Operand} {x4 : Operand} {x5 : Operand} {v0 : S29} {v1 : Nat} {v3 : (Option Nat)} {v4 : (Option Nat)} {v5 : (Option Nat)} (ho : o.op = .build 35 #[(0, x0), (1, x1), (3, x3), (4, x4), (5, x5)]) (h0 : evl n f x0 = T29.enc (v0)) (h1 : evl n f x1 = .float .f64 (v1)) (h3 : evl n f x3 = .map (v3)) (h4 : evl n f x4 = .map (v4)) (h5 : evl n f x5 = .map (v5)) : (execOp (evl n f) o).run Tryz.prog w = .ok (.value (T34.enc ⟨v0, v1, (0 : Int), v3, v4, v5⟩)) w :=
  q_build (ps := [(0, x0), (1, x1), (3, x3), (4, x4), (5, x5)]) (pv := [(0, T29.enc (v0)), (1, .float .f64 (v1)), (3, .map (v3)), (4, .map (v4)), (5, .map (v5))]) (cs := S34.cells ⟨v0, v1, (0 : Int), v3, v4, v5⟩) ho Tryz.underlying35 inf35 (by have := pl35; simp only [Program.fieldsOf, Tryz.underlying35] at this; exact this) (by simp only [List.map_cons, List.map_nil, h0, h1, h3, h4, h5]) (by rfl)
theorem q_build53_0_1_2 {n : Nat} {f : Nat → Value} {w : World} {o : Oper} {x0 : Operand} {x1 : Operand} {x2 : Operand} {v0 : Int} {v1 : Int} {v2 : Int} (ho : o.op = .build 53 #[(0, x0), (1, x1), (2, x2)]) (h0 : evl n f x0 = .int .i64 (v0)) (h1 : evl n f x1 = .int .i64 (v1)) (h2 : evl n f x2 = .int .i64 (v2)) : (execOp (evl n f) o).run Tryz.prog w = .ok (.value (T52.enc ⟨v0, v1, v2, false⟩)) w :=
  q_build (ps := [(0, x0), (1, x1), (2, x2)]) (pv := [(0, .int .i64 (v0)), (1, .int .i64 (v1)), (2, .int .i64 (v2))]) (cs := S52.cells ⟨v0, v1, v2, false⟩) ho Tryz.underlying53 inf53 (by have := pl53; simp only [Program.fieldsOf, Tryz.underlying53] at this; exact this) (by simp only [List.map_cons, List.map_nil, h0, h1, h2]) (by rfl)
theorem q_build53_0_1_2_3 {n : Nat} {f : Nat → Value} {w : World} {o : Oper} {x0 : Operand} {x1 : Operand} {x2 : Operand} {x3 : Operand} {v0 : Int} {v1 : Int} {v2 : Int} {v3 : Bool} (ho : o.op = .build 53 #[(0, x0), (1, x1), (2, x2), (3, x3)]) (h0 : evl n f x0 = .int .i64 (v0)) (h1 : evl n f x1 = .int .i64 (v1)) (h2 : evl n f x2 = .int .i64 (v2)) (h3 : evl n f x3 = .bool (v3)) : (execOp (evl n f) o).run Tryz.prog w = .ok (.value (T52.enc ⟨v0, v1, v2, v3⟩)) w :=
  q_build (ps := [(0, x0), (1, x1), (2, x2), (3, x3)]) (pv := [(0, .int .i64 (v0)), (1, .int .i64 (v1)), (2, .int .i64 (v2)), (3, .bool (v3))]) (cs := S52.cells ⟨v0, v1, v2, v3⟩) ho Tryz.underlying53 inf53 (by have := pl53; simp only [Program.fieldsOf, Tryz.underlying53] at this; exact this) (by simp only [List.map_cons, List.map_nil, h0, h1, h2, h3]) (by rfl)
theorem q_build55_0_1_2 {n : Nat} {f : Nat → Value} {w : World} {o : Oper} {x0 : Operand} {x1 : Operand} {x2 : Operand} {v0 : S52} {v1 : Int} {v2 : Int} (ho : o.op = .build 55 #[(0, x0), (1, x1), (2, x2)]) (h0 : evl n f x0 = T52.enc (v0)) (h1 : evl n f x1 = .int .i64 (v1)) (h2 : evl n f x2 = .int .i64 (v2)) : (execOp (evl n f) o).run Tryz.prog w = .ok (.value (T54.enc ⟨v0, v1, v2⟩)) w :=
  q_build (ps := [(0, x0), (1, x1), (2, x2)]) (pv := [(0, T52.enc (v0)), (1, .int .i64 (v1)), (2, .int .i64 (v2))]) (cs := S54.cells ⟨v0, v1, v2⟩) ho Tryz.underlying55 inf55 (by have := pl55; simp only [Program.fieldsOf, Tryz.underlying55] at this; exact this) (by simp only [List.map_cons, List.map_nil, h0, h1, h2]) (by rfl)
theorem q_build63_0_1 {n : Nat} {f : Nat → Value} {w : World} {o : Oper} {x0 : Operand} {x1 : Operand} {v0 : Int} {v1 : Int} (ho : o.op = .build 63 #[(0, x0), (1, x1)]) (h0 : evl n f x0 = .int .i64 (v0)) (h1 : evl n f x1 = .int .i64 (v1)) : (execOp (evl n f) o).run Tryz.prog w = .ok (.value (T62.enc ⟨v0, v1⟩)) w :=
  q_build (ps := [(0, x0), (1, x1)]) (pv := [(0, .int .i64 (v0)), (1, .int .i64 (v1))]) (cs := S62.cells ⟨v0, v1⟩) ho Tryz.underlying63 inf63 (by have := pl63; simp only [Program.fieldsOf, Tryz.underlying63] at this; exact this) (by simp only [List.map_cons, List.map_nil, h0, h1]) (by rfl)
theorem q_build70_0 {n : Nat} {f : Nat → Value} {w : World} {o : Oper} {x0 : Operand} {v0 : Int} (ho : o.op = .build 70 #[(0, x0)]) (h0 : evl n f x0 = .int .i64 (v0)) : (execOp (evl n f) o).run Tryz.prog w = .ok (.value (T69.enc ⟨v0, (0 : Int)⟩)) w :=
  q_build (ps := [(0, x0)]) (pv := [(0, .int .i64 (v0))]) (cs := S69.cells ⟨v0, (0 : Int)⟩) ho Tryz.underlying70 inf70 (by have := pl70; simp only [Program.fieldsOf, Tryz.underlying70] at this; exact this) (by simp only [List.map_cons, List.map_nil, h0]) (by rfl)
theorem q_build70_0_1 {n : Nat} {f : Nat → Value} {w : World} {o : Oper} {x0 : Operand} {x1 : Operand} {v0 : Int} {v1 : Int} (ho : o.op = .build 70 #[(0, x0), (1, x1)]) (h0 : evl n f x0 = .int .i64 (v0)) (h1 : evl n f x1 = .int .i64 (v1)) : (execOp (evl n f) o).run Tryz.prog w = .ok (.value (T69.enc ⟨v0, v1⟩)) w :=
  q_build (ps := [(0, x0), (1, x1)]) (pv := [(0, .int .i64 (v0)), (1, .int .i64 (v1))]) (cs := S69.cells ⟨v0, v1⟩) ho Tryz.underlying70 inf70 (by have := pl70; simp only [Program.fieldsOf, Tryz.underlying70] at this; exact this) (by simp only [List.map_cons, List.map_nil, h0, h1]) (by rfl)
theorem q_build87_ {n : Nat} {f : Nat → Value} {w : World} {o : Oper} (ho : o.op = .build 87 #[]) : (execOp (evl n f) o).run Tryz.prog w = .ok (.value (T86.enc ⟨(0 : Int), (0 : Int)⟩)) w :=
  q_build (ps := []) (pv := []) (cs := S86.cells ⟨(0 : Int), (0 : Int)⟩) ho Tryz.underlying87 inf87 (by have := pl87; simp only [Program.fieldsOf, Tryz.underlying87] at this; exact this) (by simp only [List.map_cons, List.map_nil]) (by rfl)
theorem q_build87_0_1 {n : Nat} {f : Nat → Value} {w : World} {o : Oper} {x0 : Operand} {x1 : Operand} {v0 : Int} {v1 : Int} (ho : o.op = .build 87 #[(0, x0), (1, x1)]) (h0 : evl n f x0 = .int .i64 (v0)) (h1 : evl n f x1 = .int .i64 (v1)) : (execOp (evl n f) o).run Tryz.prog w = .ok (.value (T86.enc ⟨v0, v1⟩)) w :=
  q_build (ps := [(0, x0), (1, x1)]) (pv := [(0, .int .i64 (v0)), (1, .int .i64 (v1))]) (cs := S86.cells ⟨v0, v1⟩) ho Tryz.underlying87 inf87 (by have := pl87; simp only [Program.fieldsOf, Tryz.underlying87] at this; exact this) (by simp only [List.map_cons, List.map_nil, h0, h1]) (by rfl)
theorem q_build95_0 {n : Nat} {f : Nat → Value} {w : World} {o : Oper} {x0 : Operand} {v0 : (Option Nat)} (ho : o.op = .build 95 #[(0, x0)]) (h0 : evl n f x0 = .map (v0)) : (execOp (evl n f) o).run Tryz.prog w = .ok (.value (T94.enc ⟨v0, (0 : Int), (0 : Int)⟩)) w :=
  q_build (ps := [(0, x0)]) (pv := [(0, .map (v0))]) (cs := S94.cells ⟨v0, (0 : Int), (0 : Int)⟩) ho Tryz.underlying95 inf95 (by have := pl95; simp only [Program.fieldsOf, Tryz.underlying95] at this; exact this) (by simp only [List.map_cons, List.map_nil, h0]) (by rfl)
theorem q_build112_ {n : Nat} {f : Nat → Value} {w : World} {o : Oper} (ho : o.op = .build 112 #[]) : (execOp (evl n f) o).run Tryz.prog w = .ok (.value (T111.enc ⟨(⟨none, 0, 0⟩ : Slc), (0 : Int)⟩)) w :=
  q_build (ps := []) (pv := []) (cs := S111.cells ⟨(⟨none, 0, 0⟩ : Slc), (0 : Int)⟩) ho Tryz.underlying112 inf112 (by have := pl112; simp only [Program.fieldsOf, Tryz.underlying112] at this; exact this) (by simp only [List.map_cons, List.map_nil]) (by rfl)
theorem q_build115_ {n : Nat} {f : Nat → Value} {w : World} {o : Oper} (ho : o.op = .build 115 #[]) : (execOp (evl n f) o).run Tryz.prog w = .ok (.value (T115.enc ⟨⟩)) w :=
  q_build (ps := []) (pv := []) (cs := S115.cells ⟨⟩) ho Tryz.underlying115 inf115 (by have := pl115; simp only [Program.fieldsOf, Tryz.underlying115] at this; exact this) (by simp only [List.map_cons, List.map_nil]) (by rfl)
theorem ext72 : Ext Tryz.prog 72 Extern.MathFloatBits.float64bits := ⟨_, Tryz.func72, rfl, rfl, by kernel_rfl, by kernel_rfl⟩
theorem ext106 : Ext Tryz.prog 106 Extern.MathFloatBits.float64frombits := ⟨_, Tryz.func106, rfl, rfl, by kernel_rfl, by kernel_rfl⟩
end Go.Proofs.YtpdaapffkdejoaaGreat.Cf
