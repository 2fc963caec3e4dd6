/-
  No cell of these rows narrows 'for every input' (looked for: loops, veiled, ifaces, maps, wideKeys, modest, calm, conditions, laid).
  DERIVED. THE GIVEN ROWS OF THIS SEAT. 4 by the template 'for every input the law returns true; each argument reads behind the call as it read before'; 0 by the template 'total and deterministic' (their statements: YthaobmpdjcoheaaGreatTotals.lean).
  GIVEN WITH THE SEED: the statements are not yours to turn. If you find one false, say at which input.
  Laid BY PROGRAM, IN A SANDBOX (cutbox-rows.mjs): the forced cells as the released guide's own fill.sh prints them over the translation c02e6bf71a05c61b… (all of the seat's roots in one cut). By AI agents, Wed Nov 11 2026. No macro, syntax, notation, axiom, sorry.
-/
import Derived.Test.YthaobmpdjcoheaaGreatChecked
import GoSem.Claim
import GoSem.ClaimJoined
import GoSem.ClaimMapViews
import Derived.JoinedTies
import Derived.KernelRfl
namespace Go.Proofs.YthaobmpdjcoheaaGreat
/- THE CELL 'sum', in the pinned program and in every row, IS THE sha256 OF THE DUMP (.gsa) THAT YthaobmpdjcoheaaGreatProg.lean LOADS. Nothing in Lean hashes anything: it is a label: what it is worth is what the hold of that sum in a sandbox is worth. -/
noncomputable def Tryz.pinned : Pinned := { name := "ythaobmpdjcoheaagreat", sum := "c02e6bf71a05c61b816e6f85c5ea7b0e6fd2575285c1a217089595a1ab143ac6", checked := Tryz.checked }
namespace Rows
def none {H : Type} : Left H := { results := [], args := [] }

/-- 'moietylaw19.ClusterBoth': WHATEVER THE INPUT: true; the input reads as it did. -/
def clusterBothSpec : ChangeSpec := { name := "clusterBoth", fn := fun _ => fun
  | [d1, d2] => { results := [.lit (.bool true)], args := [d1, d2] }
  | _ => none }
def clusterBothRow : OpenClaim := { program := "ythaobmpdjcoheaagreat", sum := "c02e6bf71a05c61b816e6f85c5ea7b0e6fd2575285c1a217089595a1ab143ac6", func := "moiety/moietylaw19.ClusterBoth", spec := "clusterBoth", inPlace := ["math.Float64bits", "math.Float64frombits"], unfollowed := true, recurses := true, apart := false }
def ClusterBothSaid : Prop := clusterBothRow.holds Tryz.pinned (OpenSpec.ofChange clusterBothSpec)

/-- ITS FALSE NEIGHBOUR: 'it returns false'. Refute it at one input. -/
def clusterBothWrong : ChangeSpec := { name := "clusterBoth", fn := fun _ => fun
  | [d1, d2] => { results := [.lit (.bool false)], args := [d1, d2] }
  | _ => none }
def ClusterBothWrongFalsely : Prop := clusterBothRow.holds Tryz.pinned (OpenSpec.ofChange clusterBothWrong)

/-- 'moietylaw19.ClusterOutside': WHATEVER THE INPUT: true; the input reads as it did. -/
def clusterOutsideSpec : ChangeSpec := { name := "clusterOutside", fn := fun _ => fun
  | [d1, d2] => { results := [.lit (.bool true)], args := [d1, d2] }
  | _ => none }
def clusterOutsideRow : OpenClaim := { program := "ythaobmpdjcoheaagreat", sum := "c02e6bf71a05c61b816e6f85c5ea7b0e6fd2575285c1a217089595a1ab143ac6", func := "moiety/moietylaw19.ClusterOutside", spec := "clusterOutside", inPlace := ["math.Float64bits", "math.Float64frombits"], unfollowed := true, recurses := true, apart := false }
def ClusterOutsideSaid : Prop := clusterOutsideRow.holds Tryz.pinned (OpenSpec.ofChange clusterOutsideSpec)

/-- ITS FALSE NEIGHBOUR: 'it returns false'. Refute it at one input. -/
def clusterOutsideWrong : ChangeSpec := { name := "clusterOutside", fn := fun _ => fun
  | [d1, d2] => { results := [.lit (.bool false)], args := [d1, d2] }
  | _ => none }
def ClusterOutsideWrongFalsely : Prop := clusterOutsideRow.holds Tryz.pinned (OpenSpec.ofChange clusterOutsideWrong)

/-- 'moietylaw19.ClusterLasts': WHATEVER THE INPUT: true; the input reads as it did. -/
def clusterLastsSpec : ChangeSpec := { name := "clusterLasts", fn := fun _ => fun
  | [d1, d2, d3] => { results := [.lit (.bool true)], args := [d1, d2, d3] }
  | _ => none }
def clusterLastsRow : OpenClaim := { program := "ythaobmpdjcoheaagreat", sum := "c02e6bf71a05c61b816e6f85c5ea7b0e6fd2575285c1a217089595a1ab143ac6", func := "moiety/moietylaw19.ClusterLasts", spec := "clusterLasts", inPlace := ["math.Float64bits", "math.Float64frombits"], unfollowed := true, recurses := true, apart := false }
def ClusterLastsSaid : Prop := clusterLastsRow.holds Tryz.pinned (OpenSpec.ofChange clusterLastsSpec)

/-- ITS FALSE NEIGHBOUR: 'it returns false'. Refute it at one input. -/
def clusterLastsWrong : ChangeSpec := { name := "clusterLasts", fn := fun _ => fun
  | [d1, d2, d3] => { results := [.lit (.bool false)], args := [d1, d2, d3] }
  | _ => none }
def ClusterLastsWrongFalsely : Prop := clusterLastsRow.holds Tryz.pinned (OpenSpec.ofChange clusterLastsWrong)

/-- 'moietylaw19.ClusterRefuses': WHATEVER THE INPUT: true; the input reads as it did. -/
def clusterRefusesSpec : ChangeSpec := { name := "clusterRefuses", fn := fun _ => fun
  | [d1, d2, d3] => { results := [.lit (.bool true)], args := [d1, d2, d3] }
  | _ => none }
def clusterRefusesRow : OpenClaim := { program := "ythaobmpdjcoheaagreat", sum := "c02e6bf71a05c61b816e6f85c5ea7b0e6fd2575285c1a217089595a1ab143ac6", func := "moiety/moietylaw19.ClusterRefuses", spec := "clusterRefuses", inPlace := ["math.Float64bits", "math.Float64frombits"], unfollowed := true, recurses := true, apart := false }
def ClusterRefusesSaid : Prop := clusterRefusesRow.holds Tryz.pinned (OpenSpec.ofChange clusterRefusesSpec)

/-- ITS FALSE NEIGHBOUR: 'it returns false'. Refute it at one input. -/
def clusterRefusesWrong : ChangeSpec := { name := "clusterRefuses", fn := fun _ => fun
  | [d1, d2, d3] => { results := [.lit (.bool false)], args := [d1, d2, d3] }
  | _ => none }
def ClusterRefusesWrongFalsely : Prop := clusterRefusesRow.holds Tryz.pinned (OpenSpec.ofChange clusterRefusesWrong)

/- THE SECOND FORM. 'bulk': how many values and letters a reading holds, each counted each time it is reached (what is shared counts as often as it is met; a slice's spare places count too). A statement '..UptoSaid' is the law's where the arguments, and the package variables that the reading takes, are together of bulk at most 1048576: NARROWER than '..Said'. Prove '..Said' where nothing that the law and all that it calls make is longer than what came in: it says more and counts as full. Else prove '..UptoSaid'. A law counts once. -/
mutual
def uptoBulk {H : Type} : DataW H → Nat
  | .lit (.string bytes) => bytes.length + 1
  | .lit _ => 1
  | .nil => 1
  | .ptr d => uptoBulk d + 1
  | .slice elems spare => uptoBulkAll elems + uptoBulkAll spare + 1
  | .agg parts => uptoBulkAll parts + 1
  | .iface _ d => uptoBulk d + 1
  | .map entries => uptoBulkEntries entries + 1
  | .held _ => 1
def uptoBulkAll {H : Type} : List (DataW H) → Nat
  | [] => 0
  | d :: r => uptoBulk d + uptoBulkAll r
def uptoBulkEntries {H : Type} : List (Lit × DataW H) → Nat
  | [] => 0
  | x :: r => uptoBulkEntry x + uptoBulkEntries r
def uptoBulkEntry {H : Type} : Lit × DataW H → Nat
  | (.string bytes, d) => bytes.length + uptoBulk d + 1
  | (_, d) => uptoBulk d + 1
 end
def uptoSmall : (H : Type) → List (DataW H) → Bool := fun _ ds => decide (uptoBulkAll ds ≤ 1048576)
def OpenSpec.upto (s : _root_.Go.ChangeSpec) : _root_.Go.OpenSpec := { _root_.Go.OpenSpec.ofChange s with cond := some uptoSmall }

/-- 'moietylaw19.ClusterBoth', WHERE WHAT IT READS IS OF BULK AT MOST 1048576: true; the input reads as it did. -/
def clusterBothUptoRow : OpenClaim := { program := "ythaobmpdjcoheaagreat", sum := "c02e6bf71a05c61b816e6f85c5ea7b0e6fd2575285c1a217089595a1ab143ac6", func := "moiety/moietylaw19.ClusterBoth", spec := "clusterBoth", inPlace := ["math.Float64bits", "math.Float64frombits"], unfollowed := true, recurses := true, apart := false, narrowed := true }
def ClusterBothUptoSaid : Prop := clusterBothUptoRow.holds Tryz.pinned (OpenSpec.upto clusterBothSpec)

/-- 'moietylaw19.ClusterOutside', WHERE WHAT IT READS IS OF BULK AT MOST 1048576: true; the input reads as it did. -/
def clusterOutsideUptoRow : OpenClaim := { program := "ythaobmpdjcoheaagreat", sum := "c02e6bf71a05c61b816e6f85c5ea7b0e6fd2575285c1a217089595a1ab143ac6", func := "moiety/moietylaw19.ClusterOutside", spec := "clusterOutside", inPlace := ["math.Float64bits", "math.Float64frombits"], unfollowed := true, recurses := true, apart := false, narrowed := true }
def ClusterOutsideUptoSaid : Prop := clusterOutsideUptoRow.holds Tryz.pinned (OpenSpec.upto clusterOutsideSpec)

/-- 'moietylaw19.ClusterLasts', WHERE WHAT IT READS IS OF BULK AT MOST 1048576: true; the input reads as it did. -/
def clusterLastsUptoRow : OpenClaim := { program := "ythaobmpdjcoheaagreat", sum := "c02e6bf71a05c61b816e6f85c5ea7b0e6fd2575285c1a217089595a1ab143ac6", func := "moiety/moietylaw19.ClusterLasts", spec := "clusterLasts", inPlace := ["math.Float64bits", "math.Float64frombits"], unfollowed := true, recurses := true, apart := false, narrowed := true }
def ClusterLastsUptoSaid : Prop := clusterLastsUptoRow.holds Tryz.pinned (OpenSpec.upto clusterLastsSpec)

/-- 'moietylaw19.ClusterRefuses', WHERE WHAT IT READS IS OF BULK AT MOST 1048576: true; the input reads as it did. -/
def clusterRefusesUptoRow : OpenClaim := { program := "ythaobmpdjcoheaagreat", sum := "c02e6bf71a05c61b816e6f85c5ea7b0e6fd2575285c1a217089595a1ab143ac6", func := "moiety/moietylaw19.ClusterRefuses", spec := "clusterRefuses", inPlace := ["math.Float64bits", "math.Float64frombits"], unfollowed := true, recurses := true, apart := false, narrowed := true }
def ClusterRefusesUptoSaid : Prop := clusterRefusesUptoRow.holds Tryz.pinned (OpenSpec.upto clusterRefusesSpec)

end Rows
end Go.Proofs.YthaobmpdjcoheaaGreat
