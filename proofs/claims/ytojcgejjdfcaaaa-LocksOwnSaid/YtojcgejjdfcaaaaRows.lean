/-
  No cell of these rows narrows 'for every input' (looked for: loops, veiled, ifaces, maps, wideKeys, modest, calm, conditions, laid).
  DERIVED. THE GIVEN ROWS OF THIS SEAT. 6 by the template 'for every input the law returns true; each argument reads behind the call as it read before'; 0 by the template 'total and deterministic' (their statements: YtojcgejjdfcaaaaTotals.lean).
  GIVEN WITH THE SEED: the statements are not yours to turn. If you find one false, say at which input.
  Laid BY PROGRAM, IN A SANDBOX (cutbox-rows.mjs): the forced cells as the released guide's own fill.sh prints them over the translation f2b2a297ccd5281e… (all of the seat's roots in one cut). By AI agents, Wed Nov 11 2026. No macro, syntax, notation, axiom, sorry.
-/
import Derived.Test.YtojcgejjdfcaaaaChecked
import GoSem.Claim
import GoSem.ClaimJoined
import GoSem.ClaimMapViews
import Derived.JoinedTies
import Derived.KernelRfl
namespace Go.Proofs.Ytojcgejjdfcaaaa
/- THE CELL 'sum', in the pinned program and in every row, IS THE sha256 OF THE DUMP (.gsa) THAT YtojcgejjdfcaaaaProg.lean LOADS. Nothing in Lean hashes anything: it is a label: what it is worth is what the hold of that sum in a sandbox is worth. -/
noncomputable def Try.pinned : Pinned := { name := "ytojcgejjdfcaaaa", sum := "f2b2a297ccd5281e124c561fc2081979dd4ada9ecb45408b906aa927d28694ad", checked := Try.checked }
namespace Rows
def none {H : Type} : Left H := { results := [], args := [] }

/-- 'moietylaw13.LocksPlays': WHATEVER THE INPUT: true; the input reads as it did. -/
def locksPlaysSpec : ChangeSpec := { name := "locksPlays", fn := fun _ => fun
  | [d] => { results := [.lit (.bool true)], args := [d] }
  | _ => none }
def locksPlaysRow : OpenClaim := { program := "ytojcgejjdfcaaaa", sum := "f2b2a297ccd5281e124c561fc2081979dd4ada9ecb45408b906aa927d28694ad", func := "moiety/moietylaw13.LocksPlays", spec := "locksPlays", unfollowed := true, recurses := true, apart := false }
def LocksPlaysSaid : Prop := locksPlaysRow.holds Try.pinned (OpenSpec.ofChange locksPlaysSpec)

/-- ITS FALSE NEIGHBOUR: 'it returns false'. Refute it at one input. -/
def locksPlaysWrong : ChangeSpec := { name := "locksPlays", fn := fun _ => fun
  | [d] => { results := [.lit (.bool false)], args := [d] }
  | _ => none }
def LocksPlaysWrongFalsely : Prop := locksPlaysRow.holds Try.pinned (OpenSpec.ofChange locksPlaysWrong)

/-- 'moietylaw13.LocksApart': WHATEVER THE INPUT: true; the input reads as it did. -/
def locksApartSpec : ChangeSpec := { name := "locksApart", fn := fun _ => fun
  | [d] => { results := [.lit (.bool true)], args := [d] }
  | _ => none }
def locksApartRow : OpenClaim := { program := "ytojcgejjdfcaaaa", sum := "f2b2a297ccd5281e124c561fc2081979dd4ada9ecb45408b906aa927d28694ad", func := "moiety/moietylaw13.LocksApart", spec := "locksApart", unfollowed := true, recurses := true, apart := false }
def LocksApartSaid : Prop := locksApartRow.holds Try.pinned (OpenSpec.ofChange locksApartSpec)

/-- ITS FALSE NEIGHBOUR: 'it returns false'. Refute it at one input. -/
def locksApartWrong : ChangeSpec := { name := "locksApart", fn := fun _ => fun
  | [d] => { results := [.lit (.bool false)], args := [d] }
  | _ => none }
def LocksApartWrongFalsely : Prop := locksApartRow.holds Try.pinned (OpenSpec.ofChange locksApartWrong)

/-- 'moietylaw13.LocksElder': WHATEVER THE INPUT: true; the input reads as it did. -/
def locksElderSpec : ChangeSpec := { name := "locksElder", fn := fun _ => fun
  | [d] => { results := [.lit (.bool true)], args := [d] }
  | _ => none }
def locksElderRow : OpenClaim := { program := "ytojcgejjdfcaaaa", sum := "f2b2a297ccd5281e124c561fc2081979dd4ada9ecb45408b906aa927d28694ad", func := "moiety/moietylaw13.LocksElder", spec := "locksElder", unfollowed := true, recurses := true, apart := false }
def LocksElderSaid : Prop := locksElderRow.holds Try.pinned (OpenSpec.ofChange locksElderSpec)

/-- ITS FALSE NEIGHBOUR: 'it returns false'. Refute it at one input. -/
def locksElderWrong : ChangeSpec := { name := "locksElder", fn := fun _ => fun
  | [d] => { results := [.lit (.bool false)], args := [d] }
  | _ => none }
def LocksElderWrongFalsely : Prop := locksElderRow.holds Try.pinned (OpenSpec.ofChange locksElderWrong)

/-- 'moietylaw13.LocksEldest': WHATEVER THE INPUT: true; the input reads as it did. -/
def locksEldestSpec : ChangeSpec := { name := "locksEldest", fn := fun _ => fun
  | [d] => { results := [.lit (.bool true)], args := [d] }
  | _ => none }
def locksEldestRow : OpenClaim := { program := "ytojcgejjdfcaaaa", sum := "f2b2a297ccd5281e124c561fc2081979dd4ada9ecb45408b906aa927d28694ad", func := "moiety/moietylaw13.LocksEldest", spec := "locksEldest", unfollowed := true, recurses := true, apart := false }
def LocksEldestSaid : Prop := locksEldestRow.holds Try.pinned (OpenSpec.ofChange locksEldestSpec)

/-- ITS FALSE NEIGHBOUR: 'it returns false'. Refute it at one input. -/
def locksEldestWrong : ChangeSpec := { name := "locksEldest", fn := fun _ => fun
  | [d] => { results := [.lit (.bool false)], args := [d] }
  | _ => none }
def LocksEldestWrongFalsely : Prop := locksEldestRow.holds Try.pinned (OpenSpec.ofChange locksEldestWrong)

/-- 'moietylaw13.LocksEnds': WHATEVER THE INPUT: true; the input reads as it did. -/
def locksEndsSpec : ChangeSpec := { name := "locksEnds", fn := fun _ => fun
  | [d] => { results := [.lit (.bool true)], args := [d] }
  | _ => none }
def locksEndsRow : OpenClaim := { program := "ytojcgejjdfcaaaa", sum := "f2b2a297ccd5281e124c561fc2081979dd4ada9ecb45408b906aa927d28694ad", func := "moiety/moietylaw13.LocksEnds", spec := "locksEnds", unfollowed := true, recurses := true, apart := false }
def LocksEndsSaid : Prop := locksEndsRow.holds Try.pinned (OpenSpec.ofChange locksEndsSpec)

/-- ITS FALSE NEIGHBOUR: 'it returns false'. Refute it at one input. -/
def locksEndsWrong : ChangeSpec := { name := "locksEnds", fn := fun _ => fun
  | [d] => { results := [.lit (.bool false)], args := [d] }
  | _ => none }
def LocksEndsWrongFalsely : Prop := locksEndsRow.holds Try.pinned (OpenSpec.ofChange locksEndsWrong)

/-- 'moietylaw13.LocksOwn': WHATEVER THE INPUT: true; the input reads as it did. -/
def locksOwnSpec : ChangeSpec := { name := "locksOwn", fn := fun _ => fun
  | [d] => { results := [.lit (.bool true)], args := [d] }
  | _ => none }
def locksOwnRow : OpenClaim := { program := "ytojcgejjdfcaaaa", sum := "f2b2a297ccd5281e124c561fc2081979dd4ada9ecb45408b906aa927d28694ad", func := "moiety/moietylaw13.LocksOwn", spec := "locksOwn", unfollowed := true, recurses := true, apart := false }
def LocksOwnSaid : Prop := locksOwnRow.holds Try.pinned (OpenSpec.ofChange locksOwnSpec)

/-- ITS FALSE NEIGHBOUR: 'it returns false'. Refute it at one input. -/
def locksOwnWrong : ChangeSpec := { name := "locksOwn", fn := fun _ => fun
  | [d] => { results := [.lit (.bool false)], args := [d] }
  | _ => none }
def LocksOwnWrongFalsely : Prop := locksOwnRow.holds Try.pinned (OpenSpec.ofChange locksOwnWrong)

/- THE SECOND FORM. 'bulk': how many values and letters a reading holds, each counted each time it is reached (what is shared counts as often as it is met; a slice's spare places count too). A statement '..UptoSaid' is the law's where the arguments, and the package variables that the reading takes, are together of bulk at most 1048576: NARROWER than '..Said'. Prove '..Said' where nothing that the law and all that it calls make is longer than what came in: it says more and counts as full. Else prove '..UptoSaid'. A law counts once. -/
mutual
def uptoBulk {H : Type} : DataW H → Nat
  | .lit (.string bytes) => bytes.length + 1
  | .lit _ => 1
  | .nil => 1
  | .ptr d => uptoBulk d + 1
  | .slice elems spare => uptoBulkAll elems + uptoBulkAll spare + 1
  | .agg parts => uptoBulkAll parts + 1
  | .iface _ d => uptoBulk d + 1
  | .map entries => uptoBulkEntries entries + 1
  | .held _ => 1
def uptoBulkAll {H : Type} : List (DataW H) → Nat
  | [] => 0
  | d :: r => uptoBulk d + uptoBulkAll r
def uptoBulkEntries {H : Type} : List (Lit × DataW H) → Nat
  | [] => 0
  | x :: r => uptoBulkEntry x + uptoBulkEntries r
def uptoBulkEntry {H : Type} : Lit × DataW H → Nat
  | (.string bytes, d) => bytes.length + uptoBulk d + 1
  | (_, d) => uptoBulk d + 1
 end
def uptoSmall : (H : Type) → List (DataW H) → Bool := fun _ ds => decide (uptoBulkAll ds ≤ 1048576)
def OpenSpec.upto (s : _root_.Go.ChangeSpec) : _root_.Go.OpenSpec := { _root_.Go.OpenSpec.ofChange s with cond := some uptoSmall }

/-- 'moietylaw13.LocksPlays', WHERE WHAT IT READS IS OF BULK AT MOST 1048576: true; the input reads as it did. -/
def locksPlaysUptoRow : OpenClaim := { program := "ytojcgejjdfcaaaa", sum := "f2b2a297ccd5281e124c561fc2081979dd4ada9ecb45408b906aa927d28694ad", func := "moiety/moietylaw13.LocksPlays", spec := "locksPlays", unfollowed := true, recurses := true, apart := false, narrowed := true }
def LocksPlaysUptoSaid : Prop := locksPlaysUptoRow.holds Try.pinned (OpenSpec.upto locksPlaysSpec)

/-- 'moietylaw13.LocksApart', WHERE WHAT IT READS IS OF BULK AT MOST 1048576: true; the input reads as it did. -/
def locksApartUptoRow : OpenClaim := { program := "ytojcgejjdfcaaaa", sum := "f2b2a297ccd5281e124c561fc2081979dd4ada9ecb45408b906aa927d28694ad", func := "moiety/moietylaw13.LocksApart", spec := "locksApart", unfollowed := true, recurses := true, apart := false, narrowed := true }
def LocksApartUptoSaid : Prop := locksApartUptoRow.holds Try.pinned (OpenSpec.upto locksApartSpec)

/-- 'moietylaw13.LocksElder', WHERE WHAT IT READS IS OF BULK AT MOST 1048576: true; the input reads as it did. -/
def locksElderUptoRow : OpenClaim := { program := "ytojcgejjdfcaaaa", sum := "f2b2a297ccd5281e124c561fc2081979dd4ada9ecb45408b906aa927d28694ad", func := "moiety/moietylaw13.LocksElder", spec := "locksElder", unfollowed := true, recurses := true, apart := false, narrowed := true }
def LocksElderUptoSaid : Prop := locksElderUptoRow.holds Try.pinned (OpenSpec.upto locksElderSpec)

/-- 'moietylaw13.LocksEldest', WHERE WHAT IT READS IS OF BULK AT MOST 1048576: true; the input reads as it did. -/
def locksEldestUptoRow : OpenClaim := { program := "ytojcgejjdfcaaaa", sum := "f2b2a297ccd5281e124c561fc2081979dd4ada9ecb45408b906aa927d28694ad", func := "moiety/moietylaw13.LocksEldest", spec := "locksEldest", unfollowed := true, recurses := true, apart := false, narrowed := true }
def LocksEldestUptoSaid : Prop := locksEldestUptoRow.holds Try.pinned (OpenSpec.upto locksEldestSpec)

/-- 'moietylaw13.LocksEnds', WHERE WHAT IT READS IS OF BULK AT MOST 1048576: true; the input reads as it did. -/
def locksEndsUptoRow : OpenClaim := { program := "ytojcgejjdfcaaaa", sum := "f2b2a297ccd5281e124c561fc2081979dd4ada9ecb45408b906aa927d28694ad", func := "moiety/moietylaw13.LocksEnds", spec := "locksEnds", unfollowed := true, recurses := true, apart := false, narrowed := true }
def LocksEndsUptoSaid : Prop := locksEndsUptoRow.holds Try.pinned (OpenSpec.upto locksEndsSpec)

/-- 'moietylaw13.LocksOwn', WHERE WHAT IT READS IS OF BULK AT MOST 1048576: true; the input reads as it did. -/
def locksOwnUptoRow : OpenClaim := { program := "ytojcgejjdfcaaaa", sum := "f2b2a297ccd5281e124c561fc2081979dd4ada9ecb45408b906aa927d28694ad", func := "moiety/moietylaw13.LocksOwn", spec := "locksOwn", unfollowed := true, recurses := true, apart := false, narrowed := true }
def LocksOwnUptoSaid : Prop := locksOwnUptoRow.holds Try.pinned (OpenSpec.upto locksOwnSpec)

end Rows
end Go.Proofs.Ytojcgejjdfcaaaa
