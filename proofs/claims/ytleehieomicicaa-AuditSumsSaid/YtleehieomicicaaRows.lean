/-
  No cell of these rows narrows 'for every input' (looked for: loops, veiled, ifaces, maps, wideKeys, modest, calm, conditions, laid).
  DERIVED. THE GIVEN ROWS OF THIS SEAT. 6 by the template 'for every input the law returns true; each argument reads behind the call as it read before'; 0 by the template 'total and deterministic' (their statements: YtleehieomicicaaTotals.lean).
  GIVEN WITH THE SEED: the statements are not yours to turn. If you find one false, say at which input.
  Laid BY PROGRAM, IN A SANDBOX (cutbox-rows.mjs): the forced cells as the released guide's own fill.sh prints them over the translation a6f0e3000ecd1844… (all of the seat's roots in one cut). By AI agents, Wed Nov 11 2026. No macro, syntax, notation, axiom, sorry.
-/
import Derived.Test.YtleehieomicicaaChecked
import GoSem.Claim
import GoSem.ClaimJoined
import GoSem.ClaimMapViews
import Derived.JoinedTies
import Derived.KernelRfl
namespace Go.Proofs.Ytleehieomicicaa
/- THE CELL 'sum', in the pinned program and in every row, IS THE sha256 OF THE DUMP (.gsa) THAT YtleehieomicicaaProg.lean LOADS. Nothing in Lean hashes anything: it is a label: what it is worth is what the hold of that sum in a sandbox is worth. -/
noncomputable def Try.pinned : Pinned := { name := "ytleehieomicicaa", sum := "a6f0e3000ecd1844ac6cab1bf920aa177fffc420e8ddaa25f5e0e1a2e96260ce", checked := Try.checked }
namespace Rows
def none {H : Type} : Left H := { results := [], args := [] }

/-- 'moietylaw17.AuditChecks': WHATEVER THE INPUT: true; the input reads as it did. -/
def auditChecksSpec : ChangeSpec := { name := "auditChecks", fn := fun _ => fun
  | [d1, d2] => { results := [.lit (.bool true)], args := [d1, d2] }
  | _ => none }
def auditChecksRow : OpenClaim := { program := "ytleehieomicicaa", sum := "a6f0e3000ecd1844ac6cab1bf920aa177fffc420e8ddaa25f5e0e1a2e96260ce", func := "moiety/moietylaw17.AuditChecks", spec := "auditChecks", unfollowed := true, recurses := true, apart := false }
def AuditChecksSaid : Prop := auditChecksRow.holds Try.pinned (OpenSpec.ofChange auditChecksSpec)

/-- ITS FALSE NEIGHBOUR: 'it returns false'. Refute it at one input. -/
def auditChecksWrong : ChangeSpec := { name := "auditChecks", fn := fun _ => fun
  | [d1, d2] => { results := [.lit (.bool false)], args := [d1, d2] }
  | _ => none }
def AuditChecksWrongFalsely : Prop := auditChecksRow.holds Try.pinned (OpenSpec.ofChange auditChecksWrong)

/-- 'moietylaw17.AuditMerges': WHATEVER THE INPUT: true; the input reads as it did. -/
def auditMergesSpec : ChangeSpec := { name := "auditMerges", fn := fun _ => fun
  | [d1, d2] => { results := [.lit (.bool true)], args := [d1, d2] }
  | _ => none }
def auditMergesRow : OpenClaim := { program := "ytleehieomicicaa", sum := "a6f0e3000ecd1844ac6cab1bf920aa177fffc420e8ddaa25f5e0e1a2e96260ce", func := "moiety/moietylaw17.AuditMerges", spec := "auditMerges", unfollowed := true, recurses := true, apart := false }
def AuditMergesSaid : Prop := auditMergesRow.holds Try.pinned (OpenSpec.ofChange auditMergesSpec)

/-- ITS FALSE NEIGHBOUR: 'it returns false'. Refute it at one input. -/
def auditMergesWrong : ChangeSpec := { name := "auditMerges", fn := fun _ => fun
  | [d1, d2] => { results := [.lit (.bool false)], args := [d1, d2] }
  | _ => none }
def AuditMergesWrongFalsely : Prop := auditMergesRow.holds Try.pinned (OpenSpec.ofChange auditMergesWrong)

/-- 'moietylaw17.AuditDiffs': WHATEVER THE INPUT: true; the input reads as it did. -/
def auditDiffsSpec : ChangeSpec := { name := "auditDiffs", fn := fun _ => fun
  | [d1, d2] => { results := [.lit (.bool true)], args := [d1, d2] }
  | _ => none }
def auditDiffsRow : OpenClaim := { program := "ytleehieomicicaa", sum := "a6f0e3000ecd1844ac6cab1bf920aa177fffc420e8ddaa25f5e0e1a2e96260ce", func := "moiety/moietylaw17.AuditDiffs", spec := "auditDiffs", unfollowed := true, recurses := true, apart := false }
def AuditDiffsSaid : Prop := auditDiffsRow.holds Try.pinned (OpenSpec.ofChange auditDiffsSpec)

/-- ITS FALSE NEIGHBOUR: 'it returns false'. Refute it at one input. -/
def auditDiffsWrong : ChangeSpec := { name := "auditDiffs", fn := fun _ => fun
  | [d1, d2] => { results := [.lit (.bool false)], args := [d1, d2] }
  | _ => none }
def AuditDiffsWrongFalsely : Prop := auditDiffsRow.holds Try.pinned (OpenSpec.ofChange auditDiffsWrong)

/-- 'moietylaw17.AuditSums': WHATEVER THE INPUT: true; the input reads as it did. -/
def auditSumsSpec : ChangeSpec := { name := "auditSums", fn := fun _ => fun
  | [d1, d2, d3] => { results := [.lit (.bool true)], args := [d1, d2, d3] }
  | _ => none }
def auditSumsRow : OpenClaim := { program := "ytleehieomicicaa", sum := "a6f0e3000ecd1844ac6cab1bf920aa177fffc420e8ddaa25f5e0e1a2e96260ce", func := "moiety/moietylaw17.AuditSums", spec := "auditSums", unfollowed := true, recurses := true, apart := false }
def AuditSumsSaid : Prop := auditSumsRow.holds Try.pinned (OpenSpec.ofChange auditSumsSpec)

/-- ITS FALSE NEIGHBOUR: 'it returns false'. Refute it at one input. -/
def auditSumsWrong : ChangeSpec := { name := "auditSums", fn := fun _ => fun
  | [d1, d2, d3] => { results := [.lit (.bool false)], args := [d1, d2, d3] }
  | _ => none }
def AuditSumsWrongFalsely : Prop := auditSumsRow.holds Try.pinned (OpenSpec.ofChange auditSumsWrong)

/-- 'moietylaw17.AuditAdds': WHATEVER THE INPUT: true; the input reads as it did. -/
def auditAddsSpec : ChangeSpec := { name := "auditAdds", fn := fun _ => fun
  | [d1, d2] => { results := [.lit (.bool true)], args := [d1, d2] }
  | _ => none }
def auditAddsRow : OpenClaim := { program := "ytleehieomicicaa", sum := "a6f0e3000ecd1844ac6cab1bf920aa177fffc420e8ddaa25f5e0e1a2e96260ce", func := "moiety/moietylaw17.AuditAdds", spec := "auditAdds", unfollowed := true, recurses := true, apart := false }
def AuditAddsSaid : Prop := auditAddsRow.holds Try.pinned (OpenSpec.ofChange auditAddsSpec)

/-- ITS FALSE NEIGHBOUR: 'it returns false'. Refute it at one input. -/
def auditAddsWrong : ChangeSpec := { name := "auditAdds", fn := fun _ => fun
  | [d1, d2] => { results := [.lit (.bool false)], args := [d1, d2] }
  | _ => none }
def AuditAddsWrongFalsely : Prop := auditAddsRow.holds Try.pinned (OpenSpec.ofChange auditAddsWrong)

/-- 'moietylaw17.AuditSteps': WHATEVER THE INPUT: true; the input reads as it did. -/
def auditStepsSpec : ChangeSpec := { name := "auditSteps", fn := fun _ => fun
  | [d1, d2, d3] => { results := [.lit (.bool true)], args := [d1, d2, d3] }
  | _ => none }
def auditStepsRow : OpenClaim := { program := "ytleehieomicicaa", sum := "a6f0e3000ecd1844ac6cab1bf920aa177fffc420e8ddaa25f5e0e1a2e96260ce", func := "moiety/moietylaw17.AuditSteps", spec := "auditSteps", unfollowed := true, recurses := true, apart := false }
def AuditStepsSaid : Prop := auditStepsRow.holds Try.pinned (OpenSpec.ofChange auditStepsSpec)

/-- ITS FALSE NEIGHBOUR: 'it returns false'. Refute it at one input. -/
def auditStepsWrong : ChangeSpec := { name := "auditSteps", fn := fun _ => fun
  | [d1, d2, d3] => { results := [.lit (.bool false)], args := [d1, d2, d3] }
  | _ => none }
def AuditStepsWrongFalsely : Prop := auditStepsRow.holds Try.pinned (OpenSpec.ofChange auditStepsWrong)

/- THE SECOND FORM. 'bulk': how many values and letters a reading holds, each counted each time it is reached (what is shared counts as often as it is met; a slice's spare places count too). A statement '..UptoSaid' is the law's where the arguments, and the package variables that the reading takes, are together of bulk at most 1048576: NARROWER than '..Said'. Prove '..Said' where nothing that the law and all that it calls make is longer than what came in: it says more and counts as full. Else prove '..UptoSaid'. A law counts once. -/
mutual
def uptoBulk {H : Type} : DataW H → Nat
  | .lit (.string bytes) => bytes.length + 1
  | .lit _ => 1
  | .nil => 1
  | .ptr d => uptoBulk d + 1
  | .slice elems spare => uptoBulkAll elems + uptoBulkAll spare + 1
  | .agg parts => uptoBulkAll parts + 1
  | .iface _ d => uptoBulk d + 1
  | .map entries => uptoBulkEntries entries + 1
  | .held _ => 1
def uptoBulkAll {H : Type} : List (DataW H) → Nat
  | [] => 0
  | d :: r => uptoBulk d + uptoBulkAll r
def uptoBulkEntries {H : Type} : List (Lit × DataW H) → Nat
  | [] => 0
  | x :: r => uptoBulkEntry x + uptoBulkEntries r
def uptoBulkEntry {H : Type} : Lit × DataW H → Nat
  | (.string bytes, d) => bytes.length + uptoBulk d + 1
  | (_, d) => uptoBulk d + 1
 end
def uptoSmall : (H : Type) → List (DataW H) → Bool := fun _ ds => decide (uptoBulkAll ds ≤ 1048576)
def OpenSpec.upto (s : _root_.Go.ChangeSpec) : _root_.Go.OpenSpec := { _root_.Go.OpenSpec.ofChange s with cond := some uptoSmall }

/-- 'moietylaw17.AuditChecks', WHERE WHAT IT READS IS OF BULK AT MOST 1048576: true; the input reads as it did. -/
def auditChecksUptoRow : OpenClaim := { program := "ytleehieomicicaa", sum := "a6f0e3000ecd1844ac6cab1bf920aa177fffc420e8ddaa25f5e0e1a2e96260ce", func := "moiety/moietylaw17.AuditChecks", spec := "auditChecks", unfollowed := true, recurses := true, apart := false, narrowed := true }
def AuditChecksUptoSaid : Prop := auditChecksUptoRow.holds Try.pinned (OpenSpec.upto auditChecksSpec)

/-- 'moietylaw17.AuditMerges', WHERE WHAT IT READS IS OF BULK AT MOST 1048576: true; the input reads as it did. -/
def auditMergesUptoRow : OpenClaim := { program := "ytleehieomicicaa", sum := "a6f0e3000ecd1844ac6cab1bf920aa177fffc420e8ddaa25f5e0e1a2e96260ce", func := "moiety/moietylaw17.AuditMerges", spec := "auditMerges", unfollowed := true, recurses := true, apart := false, narrowed := true }
def AuditMergesUptoSaid : Prop := auditMergesUptoRow.holds Try.pinned (OpenSpec.upto auditMergesSpec)

/-- 'moietylaw17.AuditDiffs', WHERE WHAT IT READS IS OF BULK AT MOST 1048576: true; the input reads as it did. -/
def auditDiffsUptoRow : OpenClaim := { program := "ytleehieomicicaa", sum := "a6f0e3000ecd1844ac6cab1bf920aa177fffc420e8ddaa25f5e0e1a2e96260ce", func := "moiety/moietylaw17.AuditDiffs", spec := "auditDiffs", unfollowed := true, recurses := true, apart := false, narrowed := true }
def AuditDiffsUptoSaid : Prop := auditDiffsUptoRow.holds Try.pinned (OpenSpec.upto auditDiffsSpec)

/-- 'moietylaw17.AuditSums', WHERE WHAT IT READS IS OF BULK AT MOST 1048576: true; the input reads as it did. -/
def auditSumsUptoRow : OpenClaim := { program := "ytleehieomicicaa", sum := "a6f0e3000ecd1844ac6cab1bf920aa177fffc420e8ddaa25f5e0e1a2e96260ce", func := "moiety/moietylaw17.AuditSums", spec := "auditSums", unfollowed := true, recurses := true, apart := false, narrowed := true }
def AuditSumsUptoSaid : Prop := auditSumsUptoRow.holds Try.pinned (OpenSpec.upto auditSumsSpec)

/-- 'moietylaw17.AuditAdds', WHERE WHAT IT READS IS OF BULK AT MOST 1048576: true; the input reads as it did. -/
def auditAddsUptoRow : OpenClaim := { program := "ytleehieomicicaa", sum := "a6f0e3000ecd1844ac6cab1bf920aa177fffc420e8ddaa25f5e0e1a2e96260ce", func := "moiety/moietylaw17.AuditAdds", spec := "auditAdds", unfollowed := true, recurses := true, apart := false, narrowed := true }
def AuditAddsUptoSaid : Prop := auditAddsUptoRow.holds Try.pinned (OpenSpec.upto auditAddsSpec)

/-- 'moietylaw17.AuditSteps', WHERE WHAT IT READS IS OF BULK AT MOST 1048576: true; the input reads as it did. -/
def auditStepsUptoRow : OpenClaim := { program := "ytleehieomicicaa", sum := "a6f0e3000ecd1844ac6cab1bf920aa177fffc420e8ddaa25f5e0e1a2e96260ce", func := "moiety/moietylaw17.AuditSteps", spec := "auditSteps", unfollowed := true, recurses := true, apart := false, narrowed := true }
def AuditStepsUptoSaid : Prop := auditStepsUptoRow.holds Try.pinned (OpenSpec.upto auditStepsSpec)

end Rows
end Go.Proofs.Ytleehieomicicaa
