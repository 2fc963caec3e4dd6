/-
  No cell of these rows narrows 'for every input' (looked for: loops, veiled, ifaces, maps, wideKeys, modest, calm, conditions, laid).
  DERIVED. THE GIVEN ROWS OF THIS SEAT. 4 by the template 'for every input the law returns true; each argument reads behind the call as it read before'; 0 by the template 'total and deterministic' (their statements: YtjkmeooncmhonaaTotals.lean).
  GIVEN WITH THE SEED: the statements are not yours to turn. If you find one false, say at which input.
  Laid BY PROGRAM, IN A SANDBOX (cutbox-rows.mjs): the forced cells as the released guide's own fill.sh prints them over the translation 8e4a4ff69fa6e830… (all of the seat's roots in one cut). By AI agents, Wed Nov 11 2026. No macro, syntax, notation, axiom, sorry.
-/
import Derived.Test.YtjkmeooncmhonaaChecked
import GoSem.Claim
import GoSem.ClaimJoined
import GoSem.ClaimMapViews
import Derived.JoinedTies
import Derived.KernelRfl
namespace Go.Proofs.Ytjkmeooncmhonaa
/- THE CELL 'sum', in the pinned program and in every row, IS THE sha256 OF THE DUMP (.gsa) THAT YtjkmeooncmhonaaProg.lean LOADS. Nothing in Lean hashes anything: it is a label: what it is worth is what the hold of that sum in a sandbox is worth. -/
noncomputable def Try.pinned : Pinned := { name := "ytjkmeooncmhonaa", sum := "8e4a4ff69fa6e830104b523c8ea59df45d4e785a9131be8fe50ef74793bce34e", checked := Try.checked }
namespace Rows
def none {H : Type} : Left H := { results := [], args := [] }

/-- 'moietylaw22.BallotPicks': WHATEVER THE INPUT: true; the input reads as it did. -/
def ballotPicksSpec : ChangeSpec := { name := "ballotPicks", fn := fun _ => fun
  | [d] => { results := [.lit (.bool true)], args := [d] }
  | _ => none }
def ballotPicksRow : OpenClaim := { program := "ytjkmeooncmhonaa", sum := "8e4a4ff69fa6e830104b523c8ea59df45d4e785a9131be8fe50ef74793bce34e", func := "moiety/moietylaw22.BallotPicks", spec := "ballotPicks", inPlace := ["math.Float64frombits", "math.Float64bits"], unfollowed := true, recurses := true, apart := false }
def BallotPicksSaid : Prop := ballotPicksRow.holds Try.pinned (OpenSpec.ofChange ballotPicksSpec)

/-- ITS FALSE NEIGHBOUR: 'it returns false'. Refute it at one input. -/
def ballotPicksWrong : ChangeSpec := { name := "ballotPicks", fn := fun _ => fun
  | [d] => { results := [.lit (.bool false)], args := [d] }
  | _ => none }
def BallotPicksWrongFalsely : Prop := ballotPicksRow.holds Try.pinned (OpenSpec.ofChange ballotPicksWrong)

/-- 'moietylaw22.BallotRises': WHATEVER THE INPUT: true; the input reads as it did. -/
def ballotRisesSpec : ChangeSpec := { name := "ballotRises", fn := fun _ => fun
  | [d] => { results := [.lit (.bool true)], args := [d] }
  | _ => none }
def ballotRisesRow : OpenClaim := { program := "ytjkmeooncmhonaa", sum := "8e4a4ff69fa6e830104b523c8ea59df45d4e785a9131be8fe50ef74793bce34e", func := "moiety/moietylaw22.BallotRises", spec := "ballotRises", inPlace := ["math.Float64frombits", "math.Float64bits"], unfollowed := true, recurses := true, apart := false }
def BallotRisesSaid : Prop := ballotRisesRow.holds Try.pinned (OpenSpec.ofChange ballotRisesSpec)

/-- ITS FALSE NEIGHBOUR: 'it returns false'. Refute it at one input. -/
def ballotRisesWrong : ChangeSpec := { name := "ballotRises", fn := fun _ => fun
  | [d] => { results := [.lit (.bool false)], args := [d] }
  | _ => none }
def BallotRisesWrongFalsely : Prop := ballotRisesRow.holds Try.pinned (OpenSpec.ofChange ballotRisesWrong)

/-- 'moietylaw22.BallotLasts': WHATEVER THE INPUT: true; the input reads as it did. -/
def ballotLastsSpec : ChangeSpec := { name := "ballotLasts", fn := fun _ => fun
  | [d1, d2, d3] => { results := [.lit (.bool true)], args := [d1, d2, d3] }
  | _ => none }
def ballotLastsRow : OpenClaim := { program := "ytjkmeooncmhonaa", sum := "8e4a4ff69fa6e830104b523c8ea59df45d4e785a9131be8fe50ef74793bce34e", func := "moiety/moietylaw22.BallotLasts", spec := "ballotLasts", inPlace := ["math.Float64frombits", "math.Float64bits"], unfollowed := true, recurses := true, apart := false }
def BallotLastsSaid : Prop := ballotLastsRow.holds Try.pinned (OpenSpec.ofChange ballotLastsSpec)

/-- ITS FALSE NEIGHBOUR: 'it returns false'. Refute it at one input. -/
def ballotLastsWrong : ChangeSpec := { name := "ballotLasts", fn := fun _ => fun
  | [d1, d2, d3] => { results := [.lit (.bool false)], args := [d1, d2, d3] }
  | _ => none }
def BallotLastsWrongFalsely : Prop := ballotLastsRow.holds Try.pinned (OpenSpec.ofChange ballotLastsWrong)

/-- 'moietylaw22.BallotAgrees': WHATEVER THE INPUT: true; the input reads as it did. -/
def ballotAgreesSpec : ChangeSpec := { name := "ballotAgrees", fn := fun _ => fun
  | [d1, d2] => { results := [.lit (.bool true)], args := [d1, d2] }
  | _ => none }
def ballotAgreesRow : OpenClaim := { program := "ytjkmeooncmhonaa", sum := "8e4a4ff69fa6e830104b523c8ea59df45d4e785a9131be8fe50ef74793bce34e", func := "moiety/moietylaw22.BallotAgrees", spec := "ballotAgrees", inPlace := ["math.Float64frombits", "math.Float64bits"], unfollowed := true, recurses := true, apart := false }
def BallotAgreesSaid : Prop := ballotAgreesRow.holds Try.pinned (OpenSpec.ofChange ballotAgreesSpec)

/-- ITS FALSE NEIGHBOUR: 'it returns false'. Refute it at one input. -/
def ballotAgreesWrong : ChangeSpec := { name := "ballotAgrees", fn := fun _ => fun
  | [d1, d2] => { results := [.lit (.bool false)], args := [d1, d2] }
  | _ => none }
def BallotAgreesWrongFalsely : Prop := ballotAgreesRow.holds Try.pinned (OpenSpec.ofChange ballotAgreesWrong)

/- THE SECOND FORM. 'bulk': how many values and letters a reading holds, each counted each time it is reached (what is shared counts as often as it is met; a slice's spare places count too). A statement '..UptoSaid' is the law's where the arguments, and the package variables that the reading takes, are together of bulk at most 1048576: NARROWER than '..Said'. Prove '..Said' where nothing that the law and all that it calls make is longer than what came in: it says more and counts as full. Else prove '..UptoSaid'. A law counts once. -/
mutual
def uptoBulk {H : Type} : DataW H → Nat
  | .lit (.string bytes) => bytes.length + 1
  | .lit _ => 1
  | .nil => 1
  | .ptr d => uptoBulk d + 1
  | .slice elems spare => uptoBulkAll elems + uptoBulkAll spare + 1
  | .agg parts => uptoBulkAll parts + 1
  | .iface _ d => uptoBulk d + 1
  | .map entries => uptoBulkEntries entries + 1
  | .held _ => 1
def uptoBulkAll {H : Type} : List (DataW H) → Nat
  | [] => 0
  | d :: r => uptoBulk d + uptoBulkAll r
def uptoBulkEntries {H : Type} : List (Lit × DataW H) → Nat
  | [] => 0
  | x :: r => uptoBulkEntry x + uptoBulkEntries r
def uptoBulkEntry {H : Type} : Lit × DataW H → Nat
  | (.string bytes, d) => bytes.length + uptoBulk d + 1
  | (_, d) => uptoBulk d + 1
 end
def uptoSmall : (H : Type) → List (DataW H) → Bool := fun _ ds => decide (uptoBulkAll ds ≤ 1048576)
def OpenSpec.upto (s : _root_.Go.ChangeSpec) : _root_.Go.OpenSpec := { _root_.Go.OpenSpec.ofChange s with cond := some uptoSmall }

/-- 'moietylaw22.BallotPicks', WHERE WHAT IT READS IS OF BULK AT MOST 1048576: true; the input reads as it did. -/
def ballotPicksUptoRow : OpenClaim := { program := "ytjkmeooncmhonaa", sum := "8e4a4ff69fa6e830104b523c8ea59df45d4e785a9131be8fe50ef74793bce34e", func := "moiety/moietylaw22.BallotPicks", spec := "ballotPicks", inPlace := ["math.Float64frombits", "math.Float64bits"], unfollowed := true, recurses := true, apart := false, narrowed := true }
def BallotPicksUptoSaid : Prop := ballotPicksUptoRow.holds Try.pinned (OpenSpec.upto ballotPicksSpec)

/-- 'moietylaw22.BallotRises', WHERE WHAT IT READS IS OF BULK AT MOST 1048576: true; the input reads as it did. -/
def ballotRisesUptoRow : OpenClaim := { program := "ytjkmeooncmhonaa", sum := "8e4a4ff69fa6e830104b523c8ea59df45d4e785a9131be8fe50ef74793bce34e", func := "moiety/moietylaw22.BallotRises", spec := "ballotRises", inPlace := ["math.Float64frombits", "math.Float64bits"], unfollowed := true, recurses := true, apart := false, narrowed := true }
def BallotRisesUptoSaid : Prop := ballotRisesUptoRow.holds Try.pinned (OpenSpec.upto ballotRisesSpec)

/-- 'moietylaw22.BallotLasts', WHERE WHAT IT READS IS OF BULK AT MOST 1048576: true; the input reads as it did. -/
def ballotLastsUptoRow : OpenClaim := { program := "ytjkmeooncmhonaa", sum := "8e4a4ff69fa6e830104b523c8ea59df45d4e785a9131be8fe50ef74793bce34e", func := "moiety/moietylaw22.BallotLasts", spec := "ballotLasts", inPlace := ["math.Float64frombits", "math.Float64bits"], unfollowed := true, recurses := true, apart := false, narrowed := true }
def BallotLastsUptoSaid : Prop := ballotLastsUptoRow.holds Try.pinned (OpenSpec.upto ballotLastsSpec)

/-- 'moietylaw22.BallotAgrees', WHERE WHAT IT READS IS OF BULK AT MOST 1048576: true; the input reads as it did. -/
def ballotAgreesUptoRow : OpenClaim := { program := "ytjkmeooncmhonaa", sum := "8e4a4ff69fa6e830104b523c8ea59df45d4e785a9131be8fe50ef74793bce34e", func := "moiety/moietylaw22.BallotAgrees", spec := "ballotAgrees", inPlace := ["math.Float64frombits", "math.Float64bits"], unfollowed := true, recurses := true, apart := false, narrowed := true }
def BallotAgreesUptoSaid : Prop := ballotAgreesUptoRow.holds Try.pinned (OpenSpec.upto ballotAgreesSpec)

end Rows
end Go.Proofs.Ytjkmeooncmhonaa
