/-
  No cell of these rows narrows 'for every input' (looked for: loops, veiled, ifaces, maps, wideKeys, modest, calm, conditions, laid).
  DERIVED. THE GIVEN ROWS OF THIS SEAT. 4 by the template 'for every input the law returns true; each argument reads behind the call as it read before'; 0 by the template 'total and deterministic' (their statements: YtpdaapffkdejoaaGreatTotals.lean).
  GIVEN WITH THE SEED: the statements are not yours to turn. If you find one false, say at which input.
  Laid BY PROGRAM, IN A SANDBOX (cutbox-rows.mjs): the forced cells as the released guide's own fill.sh prints them over the translation 51379644b82466bb… (all of the seat's roots in one cut). By AI agents, Wed Nov 11 2026. No macro, syntax, notation, axiom, sorry.
-/
import Derived.Test.YtpdaapffkdejoaaGreatChecked
import GoSem.Claim
import GoSem.ClaimJoined
import GoSem.ClaimMapViews
import Derived.JoinedTies
import Derived.KernelRfl
namespace Go.Proofs.YtpdaapffkdejoaaGreat
/- THE CELL 'sum', in the pinned program and in every row, IS THE sha256 OF THE DUMP (.gsa) THAT YtpdaapffkdejoaaGreatProg.lean LOADS. Nothing in Lean hashes anything: it is a label: what it is worth is what the hold of that sum in a sandbox is worth. -/
noncomputable def Tryz.pinned : Pinned := { name := "ytpdaapffkdejoaagreat", sum := "51379644b82466bb93a1df7454c7ad13415b1e49f1d545493cb0386db64365d2", checked := Tryz.checked }
namespace Rows
def none {H : Type} : Left H := { results := [], args := [] }

/-- 'moietylaw15.VaultStays': WHATEVER THE INPUT: true; the input reads as it did. -/
def vaultStaysSpec : ChangeSpec := { name := "vaultStays", fn := fun _ => fun
  | [d1, d2, d3] => { results := [.lit (.bool true)], args := [d1, d2, d3] }
  | _ => none }
def vaultStaysRow : OpenClaim := { program := "ytpdaapffkdejoaagreat", sum := "51379644b82466bb93a1df7454c7ad13415b1e49f1d545493cb0386db64365d2", func := "moiety/moietylaw15.VaultStays", spec := "vaultStays", inPlace := ["math.Float64bits", "math.Float64frombits"], unfollowed := true, recurses := true, apart := false }
def VaultStaysSaid : Prop := vaultStaysRow.holds Tryz.pinned (OpenSpec.ofChange vaultStaysSpec)

/-- ITS FALSE NEIGHBOUR: 'it returns false'. Refute it at one input. -/
def vaultStaysWrong : ChangeSpec := { name := "vaultStays", fn := fun _ => fun
  | [d1, d2, d3] => { results := [.lit (.bool false)], args := [d1, d2, d3] }
  | _ => none }
def VaultStaysWrongFalsely : Prop := vaultStaysRow.holds Tryz.pinned (OpenSpec.ofChange vaultStaysWrong)

/-- 'moietylaw15.VaultFates': WHATEVER THE INPUT: true; the input reads as it did. -/
def vaultFatesSpec : ChangeSpec := { name := "vaultFates", fn := fun _ => fun
  | [d1, d2, d3] => { results := [.lit (.bool true)], args := [d1, d2, d3] }
  | _ => none }
def vaultFatesRow : OpenClaim := { program := "ytpdaapffkdejoaagreat", sum := "51379644b82466bb93a1df7454c7ad13415b1e49f1d545493cb0386db64365d2", func := "moiety/moietylaw15.VaultFates", spec := "vaultFates", inPlace := ["math.Float64bits", "math.Float64frombits"], unfollowed := true, recurses := true, apart := false }
def VaultFatesSaid : Prop := vaultFatesRow.holds Tryz.pinned (OpenSpec.ofChange vaultFatesSpec)

/-- ITS FALSE NEIGHBOUR: 'it returns false'. Refute it at one input. -/
def vaultFatesWrong : ChangeSpec := { name := "vaultFates", fn := fun _ => fun
  | [d1, d2, d3] => { results := [.lit (.bool false)], args := [d1, d2, d3] }
  | _ => none }
def VaultFatesWrongFalsely : Prop := vaultFatesRow.holds Tryz.pinned (OpenSpec.ofChange vaultFatesWrong)

/-- 'moietylaw15.VaultHolds': WHATEVER THE INPUT: true; the input reads as it did. -/
def vaultHoldsSpec : ChangeSpec := { name := "vaultHolds", fn := fun _ => fun
  | [d1, d2, d3] => { results := [.lit (.bool true)], args := [d1, d2, d3] }
  | _ => none }
def vaultHoldsRow : OpenClaim := { program := "ytpdaapffkdejoaagreat", sum := "51379644b82466bb93a1df7454c7ad13415b1e49f1d545493cb0386db64365d2", func := "moiety/moietylaw15.VaultHolds", spec := "vaultHolds", inPlace := ["math.Float64bits", "math.Float64frombits"], unfollowed := true, recurses := true, apart := false }
def VaultHoldsSaid : Prop := vaultHoldsRow.holds Tryz.pinned (OpenSpec.ofChange vaultHoldsSpec)

/-- ITS FALSE NEIGHBOUR: 'it returns false'. Refute it at one input. -/
def vaultHoldsWrong : ChangeSpec := { name := "vaultHolds", fn := fun _ => fun
  | [d1, d2, d3] => { results := [.lit (.bool false)], args := [d1, d2, d3] }
  | _ => none }
def VaultHoldsWrongFalsely : Prop := vaultHoldsRow.holds Tryz.pinned (OpenSpec.ofChange vaultHoldsWrong)

/-- 'moietylaw15.VaultKeeps': WHATEVER THE INPUT: true; the input reads as it did. -/
def vaultKeepsSpec : ChangeSpec := { name := "vaultKeeps", fn := fun _ => fun
  | [d1, d2] => { results := [.lit (.bool true)], args := [d1, d2] }
  | _ => none }
def vaultKeepsRow : OpenClaim := { program := "ytpdaapffkdejoaagreat", sum := "51379644b82466bb93a1df7454c7ad13415b1e49f1d545493cb0386db64365d2", func := "moiety/moietylaw15.VaultKeeps", spec := "vaultKeeps", inPlace := ["math.Float64bits", "math.Float64frombits"], unfollowed := true, recurses := true, apart := false }
def VaultKeepsSaid : Prop := vaultKeepsRow.holds Tryz.pinned (OpenSpec.ofChange vaultKeepsSpec)

/-- ITS FALSE NEIGHBOUR: 'it returns false'. Refute it at one input. -/
def vaultKeepsWrong : ChangeSpec := { name := "vaultKeeps", fn := fun _ => fun
  | [d1, d2] => { results := [.lit (.bool false)], args := [d1, d2] }
  | _ => none }
def VaultKeepsWrongFalsely : Prop := vaultKeepsRow.holds Tryz.pinned (OpenSpec.ofChange vaultKeepsWrong)

/- THE SECOND FORM. 'bulk': how many values and letters a reading holds, each counted each time it is reached (what is shared counts as often as it is met; a slice's spare places count too). A statement '..UptoSaid' is the law's where the arguments, and the package variables that the reading takes, are together of bulk at most 1048576: NARROWER than '..Said'. Prove '..Said' where nothing that the law and all that it calls make is longer than what came in: it says more and counts as full. Else prove '..UptoSaid'. A law counts once. -/
mutual
def uptoBulk {H : Type} : DataW H → Nat
  | .lit (.string bytes) => bytes.length + 1
  | .lit _ => 1
  | .nil => 1
  | .ptr d => uptoBulk d + 1
  | .slice elems spare => uptoBulkAll elems + uptoBulkAll spare + 1
  | .agg parts => uptoBulkAll parts + 1
  | .iface _ d => uptoBulk d + 1
  | .map entries => uptoBulkEntries entries + 1
  | .held _ => 1
def uptoBulkAll {H : Type} : List (DataW H) → Nat
  | [] => 0
  | d :: r => uptoBulk d + uptoBulkAll r
def uptoBulkEntries {H : Type} : List (Lit × DataW H) → Nat
  | [] => 0
  | x :: r => uptoBulkEntry x + uptoBulkEntries r
def uptoBulkEntry {H : Type} : Lit × DataW H → Nat
  | (.string bytes, d) => bytes.length + uptoBulk d + 1
  | (_, d) => uptoBulk d + 1
 end
def uptoSmall : (H : Type) → List (DataW H) → Bool := fun _ ds => decide (uptoBulkAll ds ≤ 1048576)
def OpenSpec.upto (s : _root_.Go.ChangeSpec) : _root_.Go.OpenSpec := { _root_.Go.OpenSpec.ofChange s with cond := some uptoSmall }

/-- 'moietylaw15.VaultStays', WHERE WHAT IT READS IS OF BULK AT MOST 1048576: true; the input reads as it did. -/
def vaultStaysUptoRow : OpenClaim := { program := "ytpdaapffkdejoaagreat", sum := "51379644b82466bb93a1df7454c7ad13415b1e49f1d545493cb0386db64365d2", func := "moiety/moietylaw15.VaultStays", spec := "vaultStays", inPlace := ["math.Float64bits", "math.Float64frombits"], unfollowed := true, recurses := true, apart := false, narrowed := true }
def VaultStaysUptoSaid : Prop := vaultStaysUptoRow.holds Tryz.pinned (OpenSpec.upto vaultStaysSpec)

/-- 'moietylaw15.VaultFates', WHERE WHAT IT READS IS OF BULK AT MOST 1048576: true; the input reads as it did. -/
def vaultFatesUptoRow : OpenClaim := { program := "ytpdaapffkdejoaagreat", sum := "51379644b82466bb93a1df7454c7ad13415b1e49f1d545493cb0386db64365d2", func := "moiety/moietylaw15.VaultFates", spec := "vaultFates", inPlace := ["math.Float64bits", "math.Float64frombits"], unfollowed := true, recurses := true, apart := false, narrowed := true }
def VaultFatesUptoSaid : Prop := vaultFatesUptoRow.holds Tryz.pinned (OpenSpec.upto vaultFatesSpec)

/-- 'moietylaw15.VaultHolds', WHERE WHAT IT READS IS OF BULK AT MOST 1048576: true; the input reads as it did. -/
def vaultHoldsUptoRow : OpenClaim := { program := "ytpdaapffkdejoaagreat", sum := "51379644b82466bb93a1df7454c7ad13415b1e49f1d545493cb0386db64365d2", func := "moiety/moietylaw15.VaultHolds", spec := "vaultHolds", inPlace := ["math.Float64bits", "math.Float64frombits"], unfollowed := true, recurses := true, apart := false, narrowed := true }
def VaultHoldsUptoSaid : Prop := vaultHoldsUptoRow.holds Tryz.pinned (OpenSpec.upto vaultHoldsSpec)

/-- 'moietylaw15.VaultKeeps', WHERE WHAT IT READS IS OF BULK AT MOST 1048576: true; the input reads as it did. -/
def vaultKeepsUptoRow : OpenClaim := { program := "ytpdaapffkdejoaagreat", sum := "51379644b82466bb93a1df7454c7ad13415b1e49f1d545493cb0386db64365d2", func := "moiety/moietylaw15.VaultKeeps", spec := "vaultKeeps", inPlace := ["math.Float64bits", "math.Float64frombits"], unfollowed := true, recurses := true, apart := false, narrowed := true }
def VaultKeepsUptoSaid : Prop := vaultKeepsUptoRow.holds Tryz.pinned (OpenSpec.upto vaultKeepsSpec)

end Rows
end Go.Proofs.YtpdaapffkdejoaaGreat
