/-
  No cell of these rows narrows 'for every input' (looked for: loops, veiled, ifaces, maps, wideKeys, modest, calm, conditions, laid).
  DERIVED. THE GIVEN ROWS OF THIS SEAT. 4 by the template 'for every input the law returns true; each argument reads behind the call as it read before'; 0 by the template 'total and deterministic' (their statements: YtehclfjjjiiieaaGreatTotals.lean).
  GIVEN WITH THE SEED: the statements are not yours to turn. If you find one false, say at which input.
  Laid BY PROGRAM, IN A SANDBOX (cutbox-rows.mjs): the forced cells as the released guide's own fill.sh prints them over the translation aaa5f300dcb47f70… (all of the seat's roots in one cut). By AI agents, Wed Nov 11 2026. No macro, syntax, notation, axiom, sorry.
-/
import Derived.Test.YtehclfjjjiiieaaGreatChecked
import GoSem.Claim
import GoSem.ClaimJoined
import GoSem.ClaimMapViews
import Derived.JoinedTies
import Derived.KernelRfl
namespace Go.Proofs.YtehclfjjjiiieaaGreat
/- THE CELL 'sum', in the pinned program and in every row, IS THE sha256 OF THE DUMP (.gsa) THAT YtehclfjjjiiieaaGreatProg.lean LOADS. Nothing in Lean hashes anything: it is a label: what it is worth is what the hold of that sum in a sandbox is worth. -/
noncomputable def Tryz.pinned : Pinned := { name := "ytehclfjjjiiieaagreat", sum := "aaa5f300dcb47f704e8a4b14a080e86a348cdd09bec6916a46c86f2bf6761072", checked := Tryz.checked }
namespace Rows
def none {H : Type} : Left H := { results := [], args := [] }

/-- 'moietylaw18.ShardLoads': WHATEVER THE INPUT: true; the input reads as it did. -/
def shardLoadsSpec : ChangeSpec := { name := "shardLoads", fn := fun _ => fun
  | [d1, d2] => { results := [.lit (.bool true)], args := [d1, d2] }
  | _ => none }
def shardLoadsRow : OpenClaim := { program := "ytehclfjjjiiieaagreat", sum := "aaa5f300dcb47f704e8a4b14a080e86a348cdd09bec6916a46c86f2bf6761072", func := "moiety/moietylaw18.ShardLoads", spec := "shardLoads", inPlace := ["math.Float64bits", "math.Float64frombits"], unfollowed := true, recurses := true, apart := false }
def ShardLoadsSaid : Prop := shardLoadsRow.holds Tryz.pinned (OpenSpec.ofChange shardLoadsSpec)

/-- ITS FALSE NEIGHBOUR: 'it returns false'. Refute it at one input. -/
def shardLoadsWrong : ChangeSpec := { name := "shardLoads", fn := fun _ => fun
  | [d1, d2] => { results := [.lit (.bool false)], args := [d1, d2] }
  | _ => none }
def ShardLoadsWrongFalsely : Prop := shardLoadsRow.holds Tryz.pinned (OpenSpec.ofChange shardLoadsWrong)

/-- 'moietylaw18.ShardApart': WHATEVER THE INPUT: true; the input reads as it did. -/
def shardApartSpec : ChangeSpec := { name := "shardApart", fn := fun _ => fun
  | [d1, d2] => { results := [.lit (.bool true)], args := [d1, d2] }
  | _ => none }
def shardApartRow : OpenClaim := { program := "ytehclfjjjiiieaagreat", sum := "aaa5f300dcb47f704e8a4b14a080e86a348cdd09bec6916a46c86f2bf6761072", func := "moiety/moietylaw18.ShardApart", spec := "shardApart", inPlace := ["math.Float64bits", "math.Float64frombits"], unfollowed := true, recurses := true, apart := false }
def ShardApartSaid : Prop := shardApartRow.holds Tryz.pinned (OpenSpec.ofChange shardApartSpec)

/-- ITS FALSE NEIGHBOUR: 'it returns false'. Refute it at one input. -/
def shardApartWrong : ChangeSpec := { name := "shardApart", fn := fun _ => fun
  | [d1, d2] => { results := [.lit (.bool false)], args := [d1, d2] }
  | _ => none }
def ShardApartWrongFalsely : Prop := shardApartRow.holds Tryz.pinned (OpenSpec.ofChange shardApartWrong)

/-- 'moietylaw18.ShardAgain': WHATEVER THE INPUT: true; the input reads as it did. -/
def shardAgainSpec : ChangeSpec := { name := "shardAgain", fn := fun _ => fun
  | [d1, d2, d3] => { results := [.lit (.bool true)], args := [d1, d2, d3] }
  | _ => none }
def shardAgainRow : OpenClaim := { program := "ytehclfjjjiiieaagreat", sum := "aaa5f300dcb47f704e8a4b14a080e86a348cdd09bec6916a46c86f2bf6761072", func := "moiety/moietylaw18.ShardAgain", spec := "shardAgain", inPlace := ["math.Float64bits", "math.Float64frombits"], unfollowed := true, recurses := true, apart := false }
def ShardAgainSaid : Prop := shardAgainRow.holds Tryz.pinned (OpenSpec.ofChange shardAgainSpec)

/-- ITS FALSE NEIGHBOUR: 'it returns false'. Refute it at one input. -/
def shardAgainWrong : ChangeSpec := { name := "shardAgain", fn := fun _ => fun
  | [d1, d2, d3] => { results := [.lit (.bool false)], args := [d1, d2, d3] }
  | _ => none }
def ShardAgainWrongFalsely : Prop := shardAgainRow.holds Tryz.pinned (OpenSpec.ofChange shardAgainWrong)

/-- 'moietylaw18.ShardLasts': WHATEVER THE INPUT: true; the input reads as it did. -/
def shardLastsSpec : ChangeSpec := { name := "shardLasts", fn := fun _ => fun
  | [d1, d2, d3] => { results := [.lit (.bool true)], args := [d1, d2, d3] }
  | _ => none }
def shardLastsRow : OpenClaim := { program := "ytehclfjjjiiieaagreat", sum := "aaa5f300dcb47f704e8a4b14a080e86a348cdd09bec6916a46c86f2bf6761072", func := "moiety/moietylaw18.ShardLasts", spec := "shardLasts", inPlace := ["math.Float64bits", "math.Float64frombits"], unfollowed := true, recurses := true, apart := false }
def ShardLastsSaid : Prop := shardLastsRow.holds Tryz.pinned (OpenSpec.ofChange shardLastsSpec)

/-- ITS FALSE NEIGHBOUR: 'it returns false'. Refute it at one input. -/
def shardLastsWrong : ChangeSpec := { name := "shardLasts", fn := fun _ => fun
  | [d1, d2, d3] => { results := [.lit (.bool false)], args := [d1, d2, d3] }
  | _ => none }
def ShardLastsWrongFalsely : Prop := shardLastsRow.holds Tryz.pinned (OpenSpec.ofChange shardLastsWrong)

/- THE SECOND FORM. 'bulk': how many values and letters a reading holds, each counted each time it is reached (what is shared counts as often as it is met; a slice's spare places count too). A statement '..UptoSaid' is the law's where the arguments, and the package variables that the reading takes, are together of bulk at most 1048576: NARROWER than '..Said'. Prove '..Said' where nothing that the law and all that it calls make is longer than what came in: it says more and counts as full. Else prove '..UptoSaid'. A law counts once. -/
mutual
def uptoBulk {H : Type} : DataW H → Nat
  | .lit (.string bytes) => bytes.length + 1
  | .lit _ => 1
  | .nil => 1
  | .ptr d => uptoBulk d + 1
  | .slice elems spare => uptoBulkAll elems + uptoBulkAll spare + 1
  | .agg parts => uptoBulkAll parts + 1
  | .iface _ d => uptoBulk d + 1
  | .map entries => uptoBulkEntries entries + 1
  | .held _ => 1
def uptoBulkAll {H : Type} : List (DataW H) → Nat
  | [] => 0
  | d :: r => uptoBulk d + uptoBulkAll r
def uptoBulkEntries {H : Type} : List (Lit × DataW H) → Nat
  | [] => 0
  | x :: r => uptoBulkEntry x + uptoBulkEntries r
def uptoBulkEntry {H : Type} : Lit × DataW H → Nat
  | (.string bytes, d) => bytes.length + uptoBulk d + 1
  | (_, d) => uptoBulk d + 1
 end
def uptoSmall : (H : Type) → List (DataW H) → Bool := fun _ ds => decide (uptoBulkAll ds ≤ 1048576)
def OpenSpec.upto (s : _root_.Go.ChangeSpec) : _root_.Go.OpenSpec := { _root_.Go.OpenSpec.ofChange s with cond := some uptoSmall }

/-- 'moietylaw18.ShardLoads', WHERE WHAT IT READS IS OF BULK AT MOST 1048576: true; the input reads as it did. -/
def shardLoadsUptoRow : OpenClaim := { program := "ytehclfjjjiiieaagreat", sum := "aaa5f300dcb47f704e8a4b14a080e86a348cdd09bec6916a46c86f2bf6761072", func := "moiety/moietylaw18.ShardLoads", spec := "shardLoads", inPlace := ["math.Float64bits", "math.Float64frombits"], unfollowed := true, recurses := true, apart := false, narrowed := true }
def ShardLoadsUptoSaid : Prop := shardLoadsUptoRow.holds Tryz.pinned (OpenSpec.upto shardLoadsSpec)

/-- 'moietylaw18.ShardApart', WHERE WHAT IT READS IS OF BULK AT MOST 1048576: true; the input reads as it did. -/
def shardApartUptoRow : OpenClaim := { program := "ytehclfjjjiiieaagreat", sum := "aaa5f300dcb47f704e8a4b14a080e86a348cdd09bec6916a46c86f2bf6761072", func := "moiety/moietylaw18.ShardApart", spec := "shardApart", inPlace := ["math.Float64bits", "math.Float64frombits"], unfollowed := true, recurses := true, apart := false, narrowed := true }
def ShardApartUptoSaid : Prop := shardApartUptoRow.holds Tryz.pinned (OpenSpec.upto shardApartSpec)

/-- 'moietylaw18.ShardAgain', WHERE WHAT IT READS IS OF BULK AT MOST 1048576: true; the input reads as it did. -/
def shardAgainUptoRow : OpenClaim := { program := "ytehclfjjjiiieaagreat", sum := "aaa5f300dcb47f704e8a4b14a080e86a348cdd09bec6916a46c86f2bf6761072", func := "moiety/moietylaw18.ShardAgain", spec := "shardAgain", inPlace := ["math.Float64bits", "math.Float64frombits"], unfollowed := true, recurses := true, apart := false, narrowed := true }
def ShardAgainUptoSaid : Prop := shardAgainUptoRow.holds Tryz.pinned (OpenSpec.upto shardAgainSpec)

/-- 'moietylaw18.ShardLasts', WHERE WHAT IT READS IS OF BULK AT MOST 1048576: true; the input reads as it did. -/
def shardLastsUptoRow : OpenClaim := { program := "ytehclfjjjiiieaagreat", sum := "aaa5f300dcb47f704e8a4b14a080e86a348cdd09bec6916a46c86f2bf6761072", func := "moiety/moietylaw18.ShardLasts", spec := "shardLasts", inPlace := ["math.Float64bits", "math.Float64frombits"], unfollowed := true, recurses := true, apart := false, narrowed := true }
def ShardLastsUptoSaid : Prop := shardLastsUptoRow.holds Tryz.pinned (OpenSpec.upto shardLastsSpec)

end Rows
end Go.Proofs.YtehclfjjjiiieaaGreat
