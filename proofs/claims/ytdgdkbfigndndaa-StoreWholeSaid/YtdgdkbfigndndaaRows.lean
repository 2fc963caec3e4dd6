/-
  No cell of these rows narrows 'for every input' (looked for: loops, veiled, ifaces, maps, wideKeys, modest, calm, conditions, laid).
  DERIVED. THE GIVEN ROWS OF THIS SEAT. 6 by the template 'for every input the law returns true; each argument reads behind the call as it read before'; 0 by the template 'total and deterministic' (their statements: YtdgdkbfigndndaaTotals.lean).
  GIVEN WITH THE SEED: the statements are not yours to turn. If you find one false, say at which input.
  Laid BY PROGRAM, IN A SANDBOX (cutbox-rows.mjs): the forced cells as the released guide's own fill.sh prints them over the translation d145913ab1e8d312… (all of the seat's roots in one cut). By AI agents, Wed Nov 11 2026. No macro, syntax, notation, axiom, sorry.
-/
import Derived.Test.YtdgdkbfigndndaaChecked
import GoSem.Claim
import GoSem.ClaimJoined
import GoSem.ClaimMapViews
import Derived.JoinedTies
import Derived.KernelRfl
namespace Go.Proofs.Ytdgdkbfigndndaa
/- THE CELL 'sum', in the pinned program and in every row, IS THE sha256 OF THE DUMP (.gsa) THAT YtdgdkbfigndndaaProg.lean LOADS. Nothing in Lean hashes anything: it is a label: what it is worth is what the hold of that sum in a sandbox is worth. -/
noncomputable def Try.pinned : Pinned := { name := "ytdgdkbfigndndaa", sum := "d145913ab1e8d3121aa32e876ecba6d1ed2f503d6078e3ee181ca35bcd804934", checked := Try.checked }
namespace Rows
def none {H : Type} : Left H := { results := [], args := [] }

/-- 'moietylaw12.StorePlays': WHATEVER THE INPUT: true; the input reads as it did. -/
def storePlaysSpec : ChangeSpec := { name := "storePlays", fn := fun _ => fun
  | [d] => { results := [.lit (.bool true)], args := [d] }
  | _ => none }
def storePlaysRow : OpenClaim := { program := "ytdgdkbfigndndaa", sum := "d145913ab1e8d3121aa32e876ecba6d1ed2f503d6078e3ee181ca35bcd804934", func := "moiety/moietylaw12.StorePlays", spec := "storePlays", unfollowed := true, recurses := true, apart := false }
def StorePlaysSaid : Prop := storePlaysRow.holds Try.pinned (OpenSpec.ofChange storePlaysSpec)

/-- ITS FALSE NEIGHBOUR: 'it returns false'. Refute it at one input. -/
def storePlaysWrong : ChangeSpec := { name := "storePlays", fn := fun _ => fun
  | [d] => { results := [.lit (.bool false)], args := [d] }
  | _ => none }
def StorePlaysWrongFalsely : Prop := storePlaysRow.holds Try.pinned (OpenSpec.ofChange storePlaysWrong)

/-- 'moietylaw12.StoreStays': WHATEVER THE INPUT: true; the input reads as it did. -/
def storeStaysSpec : ChangeSpec := { name := "storeStays", fn := fun _ => fun
  | [d1, d2, d3] => { results := [.lit (.bool true)], args := [d1, d2, d3] }
  | _ => none }
def storeStaysRow : OpenClaim := { program := "ytdgdkbfigndndaa", sum := "d145913ab1e8d3121aa32e876ecba6d1ed2f503d6078e3ee181ca35bcd804934", func := "moiety/moietylaw12.StoreStays", spec := "storeStays", unfollowed := true, recurses := true, apart := false }
def StoreStaysSaid : Prop := storeStaysRow.holds Try.pinned (OpenSpec.ofChange storeStaysSpec)

/-- ITS FALSE NEIGHBOUR: 'it returns false'. Refute it at one input. -/
def storeStaysWrong : ChangeSpec := { name := "storeStays", fn := fun _ => fun
  | [d1, d2, d3] => { results := [.lit (.bool false)], args := [d1, d2, d3] }
  | _ => none }
def StoreStaysWrongFalsely : Prop := storeStaysRow.holds Try.pinned (OpenSpec.ofChange storeStaysWrong)

/-- 'moietylaw12.StoreWhole': WHATEVER THE INPUT: true; the input reads as it did. -/
def storeWholeSpec : ChangeSpec := { name := "storeWhole", fn := fun _ => fun
  | [d1, d2, d3] => { results := [.lit (.bool true)], args := [d1, d2, d3] }
  | _ => none }
def storeWholeRow : OpenClaim := { program := "ytdgdkbfigndndaa", sum := "d145913ab1e8d3121aa32e876ecba6d1ed2f503d6078e3ee181ca35bcd804934", func := "moiety/moietylaw12.StoreWhole", spec := "storeWhole", unfollowed := true, recurses := true, apart := false }
def StoreWholeSaid : Prop := storeWholeRow.holds Try.pinned (OpenSpec.ofChange storeWholeSpec)

/-- ITS FALSE NEIGHBOUR: 'it returns false'. Refute it at one input. -/
def storeWholeWrong : ChangeSpec := { name := "storeWhole", fn := fun _ => fun
  | [d1, d2, d3] => { results := [.lit (.bool false)], args := [d1, d2, d3] }
  | _ => none }
def StoreWholeWrongFalsely : Prop := storeWholeRow.holds Try.pinned (OpenSpec.ofChange storeWholeWrong)

/-- 'moietylaw12.StoreRefuses': WHATEVER THE INPUT: true; the input reads as it did. -/
def storeRefusesSpec : ChangeSpec := { name := "storeRefuses", fn := fun _ => fun
  | [d1, d2, d3] => { results := [.lit (.bool true)], args := [d1, d2, d3] }
  | _ => none }
def storeRefusesRow : OpenClaim := { program := "ytdgdkbfigndndaa", sum := "d145913ab1e8d3121aa32e876ecba6d1ed2f503d6078e3ee181ca35bcd804934", func := "moiety/moietylaw12.StoreRefuses", spec := "storeRefuses", unfollowed := true, recurses := true, apart := false }
def StoreRefusesSaid : Prop := storeRefusesRow.holds Try.pinned (OpenSpec.ofChange storeRefusesSpec)

/-- ITS FALSE NEIGHBOUR: 'it returns false'. Refute it at one input. -/
def storeRefusesWrong : ChangeSpec := { name := "storeRefuses", fn := fun _ => fun
  | [d1, d2, d3] => { results := [.lit (.bool false)], args := [d1, d2, d3] }
  | _ => none }
def StoreRefusesWrongFalsely : Prop := storeRefusesRow.holds Try.pinned (OpenSpec.ofChange storeRefusesWrong)

/-- 'moietylaw12.StoreAgrees': WHATEVER THE INPUT: true; the input reads as it did. -/
def storeAgreesSpec : ChangeSpec := { name := "storeAgrees", fn := fun _ => fun
  | [d1, d2] => { results := [.lit (.bool true)], args := [d1, d2] }
  | _ => none }
def storeAgreesRow : OpenClaim := { program := "ytdgdkbfigndndaa", sum := "d145913ab1e8d3121aa32e876ecba6d1ed2f503d6078e3ee181ca35bcd804934", func := "moiety/moietylaw12.StoreAgrees", spec := "storeAgrees", unfollowed := true, recurses := true, apart := false }
def StoreAgreesSaid : Prop := storeAgreesRow.holds Try.pinned (OpenSpec.ofChange storeAgreesSpec)

/-- ITS FALSE NEIGHBOUR: 'it returns false'. Refute it at one input. -/
def storeAgreesWrong : ChangeSpec := { name := "storeAgrees", fn := fun _ => fun
  | [d1, d2] => { results := [.lit (.bool false)], args := [d1, d2] }
  | _ => none }
def StoreAgreesWrongFalsely : Prop := storeAgreesRow.holds Try.pinned (OpenSpec.ofChange storeAgreesWrong)

/-- 'moietylaw12.StoreTurns': WHATEVER THE INPUT: true; the input reads as it did. -/
def storeTurnsSpec : ChangeSpec := { name := "storeTurns", fn := fun _ => fun
  | [d1, d2, d3] => { results := [.lit (.bool true)], args := [d1, d2, d3] }
  | _ => none }
def storeTurnsRow : OpenClaim := { program := "ytdgdkbfigndndaa", sum := "d145913ab1e8d3121aa32e876ecba6d1ed2f503d6078e3ee181ca35bcd804934", func := "moiety/moietylaw12.StoreTurns", spec := "storeTurns", unfollowed := true, recurses := true, apart := false }
def StoreTurnsSaid : Prop := storeTurnsRow.holds Try.pinned (OpenSpec.ofChange storeTurnsSpec)

/-- ITS FALSE NEIGHBOUR: 'it returns false'. Refute it at one input. -/
def storeTurnsWrong : ChangeSpec := { name := "storeTurns", fn := fun _ => fun
  | [d1, d2, d3] => { results := [.lit (.bool false)], args := [d1, d2, d3] }
  | _ => none }
def StoreTurnsWrongFalsely : Prop := storeTurnsRow.holds Try.pinned (OpenSpec.ofChange storeTurnsWrong)

/- THE SECOND FORM. 'bulk': how many values and letters a reading holds, each counted each time it is reached (what is shared counts as often as it is met; a slice's spare places count too). A statement '..UptoSaid' is the law's where the arguments, and the package variables that the reading takes, are together of bulk at most 1048576: NARROWER than '..Said'. Prove '..Said' where nothing that the law and all that it calls make is longer than what came in: it says more and counts as full. Else prove '..UptoSaid'. A law counts once. -/
mutual
def uptoBulk {H : Type} : DataW H → Nat
  | .lit (.string bytes) => bytes.length + 1
  | .lit _ => 1
  | .nil => 1
  | .ptr d => uptoBulk d + 1
  | .slice elems spare => uptoBulkAll elems + uptoBulkAll spare + 1
  | .agg parts => uptoBulkAll parts + 1
  | .iface _ d => uptoBulk d + 1
  | .map entries => uptoBulkEntries entries + 1
  | .held _ => 1
def uptoBulkAll {H : Type} : List (DataW H) → Nat
  | [] => 0
  | d :: r => uptoBulk d + uptoBulkAll r
def uptoBulkEntries {H : Type} : List (Lit × DataW H) → Nat
  | [] => 0
  | x :: r => uptoBulkEntry x + uptoBulkEntries r
def uptoBulkEntry {H : Type} : Lit × DataW H → Nat
  | (.string bytes, d) => bytes.length + uptoBulk d + 1
  | (_, d) => uptoBulk d + 1
 end
def uptoSmall : (H : Type) → List (DataW H) → Bool := fun _ ds => decide (uptoBulkAll ds ≤ 1048576)
def OpenSpec.upto (s : _root_.Go.ChangeSpec) : _root_.Go.OpenSpec := { _root_.Go.OpenSpec.ofChange s with cond := some uptoSmall }

/-- 'moietylaw12.StorePlays', WHERE WHAT IT READS IS OF BULK AT MOST 1048576: true; the input reads as it did. -/
def storePlaysUptoRow : OpenClaim := { program := "ytdgdkbfigndndaa", sum := "d145913ab1e8d3121aa32e876ecba6d1ed2f503d6078e3ee181ca35bcd804934", func := "moiety/moietylaw12.StorePlays", spec := "storePlays", unfollowed := true, recurses := true, apart := false, narrowed := true }
def StorePlaysUptoSaid : Prop := storePlaysUptoRow.holds Try.pinned (OpenSpec.upto storePlaysSpec)

/-- 'moietylaw12.StoreStays', WHERE WHAT IT READS IS OF BULK AT MOST 1048576: true; the input reads as it did. -/
def storeStaysUptoRow : OpenClaim := { program := "ytdgdkbfigndndaa", sum := "d145913ab1e8d3121aa32e876ecba6d1ed2f503d6078e3ee181ca35bcd804934", func := "moiety/moietylaw12.StoreStays", spec := "storeStays", unfollowed := true, recurses := true, apart := false, narrowed := true }
def StoreStaysUptoSaid : Prop := storeStaysUptoRow.holds Try.pinned (OpenSpec.upto storeStaysSpec)

/-- 'moietylaw12.StoreWhole', WHERE WHAT IT READS IS OF BULK AT MOST 1048576: true; the input reads as it did. -/
def storeWholeUptoRow : OpenClaim := { program := "ytdgdkbfigndndaa", sum := "d145913ab1e8d3121aa32e876ecba6d1ed2f503d6078e3ee181ca35bcd804934", func := "moiety/moietylaw12.StoreWhole", spec := "storeWhole", unfollowed := true, recurses := true, apart := false, narrowed := true }
def StoreWholeUptoSaid : Prop := storeWholeUptoRow.holds Try.pinned (OpenSpec.upto storeWholeSpec)

/-- 'moietylaw12.StoreRefuses', WHERE WHAT IT READS IS OF BULK AT MOST 1048576: true; the input reads as it did. -/
def storeRefusesUptoRow : OpenClaim := { program := "ytdgdkbfigndndaa", sum := "d145913ab1e8d3121aa32e876ecba6d1ed2f503d6078e3ee181ca35bcd804934", func := "moiety/moietylaw12.StoreRefuses", spec := "storeRefuses", unfollowed := true, recurses := true, apart := false, narrowed := true }
def StoreRefusesUptoSaid : Prop := storeRefusesUptoRow.holds Try.pinned (OpenSpec.upto storeRefusesSpec)

/-- 'moietylaw12.StoreAgrees', WHERE WHAT IT READS IS OF BULK AT MOST 1048576: true; the input reads as it did. -/
def storeAgreesUptoRow : OpenClaim := { program := "ytdgdkbfigndndaa", sum := "d145913ab1e8d3121aa32e876ecba6d1ed2f503d6078e3ee181ca35bcd804934", func := "moiety/moietylaw12.StoreAgrees", spec := "storeAgrees", unfollowed := true, recurses := true, apart := false, narrowed := true }
def StoreAgreesUptoSaid : Prop := storeAgreesUptoRow.holds Try.pinned (OpenSpec.upto storeAgreesSpec)

/-- 'moietylaw12.StoreTurns', WHERE WHAT IT READS IS OF BULK AT MOST 1048576: true; the input reads as it did. -/
def storeTurnsUptoRow : OpenClaim := { program := "ytdgdkbfigndndaa", sum := "d145913ab1e8d3121aa32e876ecba6d1ed2f503d6078e3ee181ca35bcd804934", func := "moiety/moietylaw12.StoreTurns", spec := "storeTurns", unfollowed := true, recurses := true, apart := false, narrowed := true }
def StoreTurnsUptoSaid : Prop := storeTurnsUptoRow.holds Try.pinned (OpenSpec.upto storeTurnsSpec)

end Rows
end Go.Proofs.Ytdgdkbfigndndaa
