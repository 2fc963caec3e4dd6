/-
  No cell of these rows narrows 'for every input' (looked for: loops, veiled, ifaces, maps, wideKeys, modest, calm, conditions, laid).
  DERIVED. THE GIVEN ROWS OF THIS SEAT. 6 by the template 'for every input the law returns true; each argument reads behind the call as it read before'; 0 by the template 'total and deterministic' (their statements: YtpflfnaflacfgaaTotals.lean).
  GIVEN WITH THE SEED: the statements are not yours to turn. If you find one false, say at which input.
  Laid BY PROGRAM, IN A SANDBOX (cutbox-rows.mjs): the forced cells as the released guide's own fill.sh prints them over the translation 532d4a9dd7887143… (all of the seat's roots in one cut). By AI agents, Wed Nov 11 2026. No macro, syntax, notation, axiom, sorry.
-/
import Derived.Test.YtpflfnaflacfgaaChecked
import GoSem.Claim
import GoSem.ClaimJoined
import GoSem.ClaimMapViews
import Derived.JoinedTies
import Derived.KernelRfl
namespace Go.Proofs.Ytpflfnaflacfgaa
/- THE CELL 'sum', in the pinned program and in every row, IS THE sha256 OF THE DUMP (.gsa) THAT YtpflfnaflacfgaaProg.lean LOADS. Nothing in Lean hashes anything: it is a label: what it is worth is what the hold of that sum in a sandbox is worth. -/
noncomputable def Try.pinned : Pinned := { name := "ytpflfnaflacfgaa", sum := "532d4a9dd788714394e4ac7a322b24c296c696649d3fbdc6aa347f30db29b843", checked := Try.checked }
namespace Rows
def none {H : Type} : Left H := { results := [], args := [] }

/-- 'moietylaw09.PostCuts': WHATEVER THE INPUT: true; the input reads as it did. -/
def postCutsSpec : ChangeSpec := { name := "postCuts", fn := fun _ => fun
  | [d1, d2] => { results := [.lit (.bool true)], args := [d1, d2] }
  | _ => none }
def postCutsRow : OpenClaim := { program := "ytpflfnaflacfgaa", sum := "532d4a9dd788714394e4ac7a322b24c296c696649d3fbdc6aa347f30db29b843", func := "moiety/moietylaw09.PostCuts", spec := "postCuts", apart := false }
def PostCutsSaid : Prop := postCutsRow.holds Try.pinned (OpenSpec.ofChange postCutsSpec)

/-- ITS FALSE NEIGHBOUR: 'it returns false'. Refute it at one input. -/
def postCutsWrong : ChangeSpec := { name := "postCuts", fn := fun _ => fun
  | [d1, d2] => { results := [.lit (.bool false)], args := [d1, d2] }
  | _ => none }
def PostCutsWrongFalsely : Prop := postCutsRow.holds Try.pinned (OpenSpec.ofChange postCutsWrong)

/-- 'moietylaw09.PostOwn': WHATEVER THE INPUT: true; the input reads as it did. -/
def postOwnSpec : ChangeSpec := { name := "postOwn", fn := fun _ => fun
  | [d] => { results := [.lit (.bool true)], args := [d] }
  | _ => none }
def postOwnRow : OpenClaim := { program := "ytpflfnaflacfgaa", sum := "532d4a9dd788714394e4ac7a322b24c296c696649d3fbdc6aa347f30db29b843", func := "moiety/moietylaw09.PostOwn", spec := "postOwn", apart := false }
def PostOwnSaid : Prop := postOwnRow.holds Try.pinned (OpenSpec.ofChange postOwnSpec)

/-- ITS FALSE NEIGHBOUR: 'it returns false'. Refute it at one input. -/
def postOwnWrong : ChangeSpec := { name := "postOwn", fn := fun _ => fun
  | [d] => { results := [.lit (.bool false)], args := [d] }
  | _ => none }
def PostOwnWrongFalsely : Prop := postOwnRow.holds Try.pinned (OpenSpec.ofChange postOwnWrong)

/-- 'moietylaw09.PostSent': WHATEVER THE INPUT: true; the input reads as it did. -/
def postSentSpec : ChangeSpec := { name := "postSent", fn := fun _ => fun
  | [d1, d2] => { results := [.lit (.bool true)], args := [d1, d2] }
  | _ => none }
def postSentRow : OpenClaim := { program := "ytpflfnaflacfgaa", sum := "532d4a9dd788714394e4ac7a322b24c296c696649d3fbdc6aa347f30db29b843", func := "moiety/moietylaw09.PostSent", spec := "postSent", apart := false }
def PostSentSaid : Prop := postSentRow.holds Try.pinned (OpenSpec.ofChange postSentSpec)

/-- ITS FALSE NEIGHBOUR: 'it returns false'. Refute it at one input. -/
def postSentWrong : ChangeSpec := { name := "postSent", fn := fun _ => fun
  | [d1, d2] => { results := [.lit (.bool false)], args := [d1, d2] }
  | _ => none }
def PostSentWrongFalsely : Prop := postSentRow.holds Try.pinned (OpenSpec.ofChange postSentWrong)

/-- 'moietylaw09.PostPurges': WHATEVER THE INPUT: true; the input reads as it did. -/
def postPurgesSpec : ChangeSpec := { name := "postPurges", fn := fun _ => fun
  | [d1, d2] => { results := [.lit (.bool true)], args := [d1, d2] }
  | _ => none }
def postPurgesRow : OpenClaim := { program := "ytpflfnaflacfgaa", sum := "532d4a9dd788714394e4ac7a322b24c296c696649d3fbdc6aa347f30db29b843", func := "moiety/moietylaw09.PostPurges", spec := "postPurges", unfollowed := true, recurses := true, apart := false }
def PostPurgesSaid : Prop := postPurgesRow.holds Try.pinned (OpenSpec.ofChange postPurgesSpec)

/-- ITS FALSE NEIGHBOUR: 'it returns false'. Refute it at one input. -/
def postPurgesWrong : ChangeSpec := { name := "postPurges", fn := fun _ => fun
  | [d1, d2] => { results := [.lit (.bool false)], args := [d1, d2] }
  | _ => none }
def PostPurgesWrongFalsely : Prop := postPurgesRow.holds Try.pinned (OpenSpec.ofChange postPurgesWrong)

/-- 'moietylaw09.PostPlays': WHATEVER THE INPUT: true; the input reads as it did. -/
def postPlaysSpec : ChangeSpec := { name := "postPlays", fn := fun _ => fun
  | [d1, d2] => { results := [.lit (.bool true)], args := [d1, d2] }
  | _ => none }
def postPlaysRow : OpenClaim := { program := "ytpflfnaflacfgaa", sum := "532d4a9dd788714394e4ac7a322b24c296c696649d3fbdc6aa347f30db29b843", func := "moiety/moietylaw09.PostPlays", spec := "postPlays", unfollowed := true, recurses := true, apart := false }
def PostPlaysSaid : Prop := postPlaysRow.holds Try.pinned (OpenSpec.ofChange postPlaysSpec)

/-- ITS FALSE NEIGHBOUR: 'it returns false'. Refute it at one input. -/
def postPlaysWrong : ChangeSpec := { name := "postPlays", fn := fun _ => fun
  | [d1, d2] => { results := [.lit (.bool false)], args := [d1, d2] }
  | _ => none }
def PostPlaysWrongFalsely : Prop := postPlaysRow.holds Try.pinned (OpenSpec.ofChange postPlaysWrong)

/-- 'moietylaw09.PostFull': WHATEVER THE INPUT: true; the input reads as it did. -/
def postFullSpec : ChangeSpec := { name := "postFull", fn := fun _ => fun
  | [d1, d2] => { results := [.lit (.bool true)], args := [d1, d2] }
  | _ => none }
def postFullRow : OpenClaim := { program := "ytpflfnaflacfgaa", sum := "532d4a9dd788714394e4ac7a322b24c296c696649d3fbdc6aa347f30db29b843", func := "moiety/moietylaw09.PostFull", spec := "postFull", unfollowed := true, recurses := true, apart := false }
def PostFullSaid : Prop := postFullRow.holds Try.pinned (OpenSpec.ofChange postFullSpec)

/-- ITS FALSE NEIGHBOUR: 'it returns false'. Refute it at one input. -/
def postFullWrong : ChangeSpec := { name := "postFull", fn := fun _ => fun
  | [d1, d2] => { results := [.lit (.bool false)], args := [d1, d2] }
  | _ => none }
def PostFullWrongFalsely : Prop := postFullRow.holds Try.pinned (OpenSpec.ofChange postFullWrong)

/- THE SECOND FORM. 'bulk': how many values and letters a reading holds, each counted each time it is reached (what is shared counts as often as it is met; a slice's spare places count too). A statement '..UptoSaid' is the law's where the arguments, and the package variables that the reading takes, are together of bulk at most 1048576: NARROWER than '..Said'. Prove '..Said' where nothing that the law and all that it calls make is longer than what came in: it says more and counts as full. Else prove '..UptoSaid'. A law counts once. -/
mutual
def uptoBulk {H : Type} : DataW H → Nat
  | .lit (.string bytes) => bytes.length + 1
  | .lit _ => 1
  | .nil => 1
  | .ptr d => uptoBulk d + 1
  | .slice elems spare => uptoBulkAll elems + uptoBulkAll spare + 1
  | .agg parts => uptoBulkAll parts + 1
  | .iface _ d => uptoBulk d + 1
  | .map entries => uptoBulkEntries entries + 1
  | .held _ => 1
def uptoBulkAll {H : Type} : List (DataW H) → Nat
  | [] => 0
  | d :: r => uptoBulk d + uptoBulkAll r
def uptoBulkEntries {H : Type} : List (Lit × DataW H) → Nat
  | [] => 0
  | x :: r => uptoBulkEntry x + uptoBulkEntries r
def uptoBulkEntry {H : Type} : Lit × DataW H → Nat
  | (.string bytes, d) => bytes.length + uptoBulk d + 1
  | (_, d) => uptoBulk d + 1
 end
def uptoSmall : (H : Type) → List (DataW H) → Bool := fun _ ds => decide (uptoBulkAll ds ≤ 1048576)
def OpenSpec.upto (s : _root_.Go.ChangeSpec) : _root_.Go.OpenSpec := { _root_.Go.OpenSpec.ofChange s with cond := some uptoSmall }

/-- 'moietylaw09.PostCuts', WHERE WHAT IT READS IS OF BULK AT MOST 1048576: true; the input reads as it did. -/
def postCutsUptoRow : OpenClaim := { program := "ytpflfnaflacfgaa", sum := "532d4a9dd788714394e4ac7a322b24c296c696649d3fbdc6aa347f30db29b843", func := "moiety/moietylaw09.PostCuts", spec := "postCuts", apart := false, narrowed := true }
def PostCutsUptoSaid : Prop := postCutsUptoRow.holds Try.pinned (OpenSpec.upto postCutsSpec)

/-- 'moietylaw09.PostOwn', WHERE WHAT IT READS IS OF BULK AT MOST 1048576: true; the input reads as it did. -/
def postOwnUptoRow : OpenClaim := { program := "ytpflfnaflacfgaa", sum := "532d4a9dd788714394e4ac7a322b24c296c696649d3fbdc6aa347f30db29b843", func := "moiety/moietylaw09.PostOwn", spec := "postOwn", apart := false, narrowed := true }
def PostOwnUptoSaid : Prop := postOwnUptoRow.holds Try.pinned (OpenSpec.upto postOwnSpec)

/-- 'moietylaw09.PostSent', WHERE WHAT IT READS IS OF BULK AT MOST 1048576: true; the input reads as it did. -/
def postSentUptoRow : OpenClaim := { program := "ytpflfnaflacfgaa", sum := "532d4a9dd788714394e4ac7a322b24c296c696649d3fbdc6aa347f30db29b843", func := "moiety/moietylaw09.PostSent", spec := "postSent", apart := false, narrowed := true }
def PostSentUptoSaid : Prop := postSentUptoRow.holds Try.pinned (OpenSpec.upto postSentSpec)

/-- 'moietylaw09.PostPurges', WHERE WHAT IT READS IS OF BULK AT MOST 1048576: true; the input reads as it did. -/
def postPurgesUptoRow : OpenClaim := { program := "ytpflfnaflacfgaa", sum := "532d4a9dd788714394e4ac7a322b24c296c696649d3fbdc6aa347f30db29b843", func := "moiety/moietylaw09.PostPurges", spec := "postPurges", unfollowed := true, recurses := true, apart := false, narrowed := true }
def PostPurgesUptoSaid : Prop := postPurgesUptoRow.holds Try.pinned (OpenSpec.upto postPurgesSpec)

/-- 'moietylaw09.PostPlays', WHERE WHAT IT READS IS OF BULK AT MOST 1048576: true; the input reads as it did. -/
def postPlaysUptoRow : OpenClaim := { program := "ytpflfnaflacfgaa", sum := "532d4a9dd788714394e4ac7a322b24c296c696649d3fbdc6aa347f30db29b843", func := "moiety/moietylaw09.PostPlays", spec := "postPlays", unfollowed := true, recurses := true, apart := false, narrowed := true }
def PostPlaysUptoSaid : Prop := postPlaysUptoRow.holds Try.pinned (OpenSpec.upto postPlaysSpec)

/-- 'moietylaw09.PostFull', WHERE WHAT IT READS IS OF BULK AT MOST 1048576: true; the input reads as it did. -/
def postFullUptoRow : OpenClaim := { program := "ytpflfnaflacfgaa", sum := "532d4a9dd788714394e4ac7a322b24c296c696649d3fbdc6aa347f30db29b843", func := "moiety/moietylaw09.PostFull", spec := "postFull", unfollowed := true, recurses := true, apart := false, narrowed := true }
def PostFullUptoSaid : Prop := postFullUptoRow.holds Try.pinned (OpenSpec.upto postFullSpec)

end Rows
end Go.Proofs.Ytpflfnaflacfgaa
