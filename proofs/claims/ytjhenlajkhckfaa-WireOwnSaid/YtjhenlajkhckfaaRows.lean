/-
  No cell of these rows narrows 'for every input' (looked for: loops, veiled, ifaces, maps, wideKeys, modest, calm, conditions, laid).
  DERIVED. THE GIVEN ROWS OF THIS SEAT. 8 by the template 'for every input the law returns true; each argument reads behind the call as it read before'; 0 by the template 'total and deterministic' (their statements: YtjhenlajkhckfaaTotals.lean).
  GIVEN WITH THE SEED: the statements are not yours to turn. If you find one false, say at which input.
  Laid BY PROGRAM, IN A SANDBOX (cutbox-rows.mjs): the forced cells as the released guide's own fill.sh prints them over the translation 3879f65176ba740b… (all of the seat's roots in one cut). By AI agents, Wed Nov 11 2026. No macro, syntax, notation, axiom, sorry.
-/
import Derived.Test.YtjhenlajkhckfaaChecked
import GoSem.Claim
import GoSem.ClaimJoined
import GoSem.ClaimMapViews
import Derived.JoinedTies
import Derived.KernelRfl
namespace Go.Proofs.Ytjhenlajkhckfaa
/- THE CELL 'sum', in the pinned program and in every row, IS THE sha256 OF THE DUMP (.gsa) THAT YtjhenlajkhckfaaProg.lean LOADS. Nothing in Lean hashes anything: it is a label: what it is worth is what the hold of that sum in a sandbox is worth. -/
noncomputable def Try.pinned : Pinned := { name := "ytjhenlajkhckfaa", sum := "3879f65176ba740b62f5c71a3c75b9bb9ddd710d928db1e92c9690836d03a9f8", checked := Try.checked }
namespace Rows
def none {H : Type} : Left H := { results := [], args := [] }

/-- 'moietylaw02.WirePacks': WHATEVER THE INPUT: true; the input reads as it did. -/
def wirePacksSpec : ChangeSpec := { name := "wirePacks", fn := fun _ => fun
  | [d] => { results := [.lit (.bool true)], args := [d] }
  | _ => none }
def wirePacksRow : OpenClaim := { program := "ytjhenlajkhckfaa", sum := "3879f65176ba740b62f5c71a3c75b9bb9ddd710d928db1e92c9690836d03a9f8", func := "moiety/moietylaw02.WirePacks", spec := "wirePacks", inPlace := ["math.Float64bits", "math.Float64frombits"], unfollowed := true, recurses := true, apart := false }
def WirePacksSaid : Prop := wirePacksRow.holds Try.pinned (OpenSpec.ofChange wirePacksSpec)

/-- ITS FALSE NEIGHBOUR: 'it returns false'. Refute it at one input. -/
def wirePacksWrong : ChangeSpec := { name := "wirePacks", fn := fun _ => fun
  | [d] => { results := [.lit (.bool false)], args := [d] }
  | _ => none }
def WirePacksWrongFalsely : Prop := wirePacksRow.holds Try.pinned (OpenSpec.ofChange wirePacksWrong)

/-- 'moietylaw02.WireValid': WHATEVER THE INPUT: true; the input reads as it did. -/
def wireValidSpec : ChangeSpec := { name := "wireValid", fn := fun _ => fun
  | [d] => { results := [.lit (.bool true)], args := [d] }
  | _ => none }
def wireValidRow : OpenClaim := { program := "ytjhenlajkhckfaa", sum := "3879f65176ba740b62f5c71a3c75b9bb9ddd710d928db1e92c9690836d03a9f8", func := "moiety/moietylaw02.WireValid", spec := "wireValid", inPlace := ["math.Float64bits", "math.Float64frombits"], unfollowed := true, recurses := true, apart := false }
def WireValidSaid : Prop := wireValidRow.holds Try.pinned (OpenSpec.ofChange wireValidSpec)

/-- ITS FALSE NEIGHBOUR: 'it returns false'. Refute it at one input. -/
def wireValidWrong : ChangeSpec := { name := "wireValid", fn := fun _ => fun
  | [d] => { results := [.lit (.bool false)], args := [d] }
  | _ => none }
def WireValidWrongFalsely : Prop := wireValidRow.holds Try.pinned (OpenSpec.ofChange wireValidWrong)

/-- 'moietylaw02.WireBack': WHATEVER THE INPUT: true; the input reads as it did. -/
def wireBackSpec : ChangeSpec := { name := "wireBack", fn := fun _ => fun
  | [d] => { results := [.lit (.bool true)], args := [d] }
  | _ => none }
def wireBackRow : OpenClaim := { program := "ytjhenlajkhckfaa", sum := "3879f65176ba740b62f5c71a3c75b9bb9ddd710d928db1e92c9690836d03a9f8", func := "moiety/moietylaw02.WireBack", spec := "wireBack", inPlace := ["math.Float64bits", "math.Float64frombits"], unfollowed := true, recurses := true, apart := false }
def WireBackSaid : Prop := wireBackRow.holds Try.pinned (OpenSpec.ofChange wireBackSpec)

/-- ITS FALSE NEIGHBOUR: 'it returns false'. Refute it at one input. -/
def wireBackWrong : ChangeSpec := { name := "wireBack", fn := fun _ => fun
  | [d] => { results := [.lit (.bool false)], args := [d] }
  | _ => none }
def WireBackWrongFalsely : Prop := wireBackRow.holds Try.pinned (OpenSpec.ofChange wireBackWrong)

/-- 'moietylaw02.WireOnce': WHATEVER THE INPUT: true; the input reads as it did. -/
def wireOnceSpec : ChangeSpec := { name := "wireOnce", fn := fun _ => fun
  | [d] => { results := [.lit (.bool true)], args := [d] }
  | _ => none }
def wireOnceRow : OpenClaim := { program := "ytjhenlajkhckfaa", sum := "3879f65176ba740b62f5c71a3c75b9bb9ddd710d928db1e92c9690836d03a9f8", func := "moiety/moietylaw02.WireOnce", spec := "wireOnce", inPlace := ["math.Float64bits", "math.Float64frombits"], unfollowed := true, recurses := true, apart := false }
def WireOnceSaid : Prop := wireOnceRow.holds Try.pinned (OpenSpec.ofChange wireOnceSpec)

/-- ITS FALSE NEIGHBOUR: 'it returns false'. Refute it at one input. -/
def wireOnceWrong : ChangeSpec := { name := "wireOnce", fn := fun _ => fun
  | [d] => { results := [.lit (.bool false)], args := [d] }
  | _ => none }
def WireOnceWrongFalsely : Prop := wireOnceRow.holds Try.pinned (OpenSpec.ofChange wireOnceWrong)

/-- 'moietylaw02.WireCuts': WHATEVER THE INPUT: true; the input reads as it did. -/
def wireCutsSpec : ChangeSpec := { name := "wireCuts", fn := fun _ => fun
  | [d1, d2] => { results := [.lit (.bool true)], args := [d1, d2] }
  | _ => none }
def wireCutsRow : OpenClaim := { program := "ytjhenlajkhckfaa", sum := "3879f65176ba740b62f5c71a3c75b9bb9ddd710d928db1e92c9690836d03a9f8", func := "moiety/moietylaw02.WireCuts", spec := "wireCuts", inPlace := ["math.Float64bits", "math.Float64frombits"], unfollowed := true, recurses := true, apart := false }
def WireCutsSaid : Prop := wireCutsRow.holds Try.pinned (OpenSpec.ofChange wireCutsSpec)

/-- ITS FALSE NEIGHBOUR: 'it returns false'. Refute it at one input. -/
def wireCutsWrong : ChangeSpec := { name := "wireCuts", fn := fun _ => fun
  | [d1, d2] => { results := [.lit (.bool false)], args := [d1, d2] }
  | _ => none }
def WireCutsWrongFalsely : Prop := wireCutsRow.holds Try.pinned (OpenSpec.ofChange wireCutsWrong)

/-- 'moietylaw02.WireJoins': WHATEVER THE INPUT: true; the input reads as it did. -/
def wireJoinsSpec : ChangeSpec := { name := "wireJoins", fn := fun _ => fun
  | [d1, d2] => { results := [.lit (.bool true)], args := [d1, d2] }
  | _ => none }
def wireJoinsRow : OpenClaim := { program := "ytjhenlajkhckfaa", sum := "3879f65176ba740b62f5c71a3c75b9bb9ddd710d928db1e92c9690836d03a9f8", func := "moiety/moietylaw02.WireJoins", spec := "wireJoins", inPlace := ["math.Float64bits", "math.Float64frombits"], unfollowed := true, recurses := true, apart := false }
def WireJoinsSaid : Prop := wireJoinsRow.holds Try.pinned (OpenSpec.ofChange wireJoinsSpec)

/-- ITS FALSE NEIGHBOUR: 'it returns false'. Refute it at one input. -/
def wireJoinsWrong : ChangeSpec := { name := "wireJoins", fn := fun _ => fun
  | [d1, d2] => { results := [.lit (.bool false)], args := [d1, d2] }
  | _ => none }
def WireJoinsWrongFalsely : Prop := wireJoinsRow.holds Try.pinned (OpenSpec.ofChange wireJoinsWrong)

/-- 'moietylaw02.WireApart': WHATEVER THE INPUT: true; the input reads as it did. -/
def wireApartSpec : ChangeSpec := { name := "wireApart", fn := fun _ => fun
  | [d1, d2] => { results := [.lit (.bool true)], args := [d1, d2] }
  | _ => none }
def wireApartRow : OpenClaim := { program := "ytjhenlajkhckfaa", sum := "3879f65176ba740b62f5c71a3c75b9bb9ddd710d928db1e92c9690836d03a9f8", func := "moiety/moietylaw02.WireApart", spec := "wireApart", inPlace := ["math.Float64bits", "math.Float64frombits"], unfollowed := true, recurses := true, apart := false }
def WireApartSaid : Prop := wireApartRow.holds Try.pinned (OpenSpec.ofChange wireApartSpec)

/-- ITS FALSE NEIGHBOUR: 'it returns false'. Refute it at one input. -/
def wireApartWrong : ChangeSpec := { name := "wireApart", fn := fun _ => fun
  | [d1, d2] => { results := [.lit (.bool false)], args := [d1, d2] }
  | _ => none }
def WireApartWrongFalsely : Prop := wireApartRow.holds Try.pinned (OpenSpec.ofChange wireApartWrong)

/-- 'moietylaw02.WireOwn': WHATEVER THE INPUT: true; the input reads as it did. -/
def wireOwnSpec : ChangeSpec := { name := "wireOwn", fn := fun _ => fun
  | [d] => { results := [.lit (.bool true)], args := [d] }
  | _ => none }
def wireOwnRow : OpenClaim := { program := "ytjhenlajkhckfaa", sum := "3879f65176ba740b62f5c71a3c75b9bb9ddd710d928db1e92c9690836d03a9f8", func := "moiety/moietylaw02.WireOwn", spec := "wireOwn", inPlace := ["math.Float64bits", "math.Float64frombits"], unfollowed := true, recurses := true, apart := false }
def WireOwnSaid : Prop := wireOwnRow.holds Try.pinned (OpenSpec.ofChange wireOwnSpec)

/-- ITS FALSE NEIGHBOUR: 'it returns false'. Refute it at one input. -/
def wireOwnWrong : ChangeSpec := { name := "wireOwn", fn := fun _ => fun
  | [d] => { results := [.lit (.bool false)], args := [d] }
  | _ => none }
def WireOwnWrongFalsely : Prop := wireOwnRow.holds Try.pinned (OpenSpec.ofChange wireOwnWrong)

/- THE SECOND FORM. 'bulk': how many values and letters a reading holds, each counted each time it is reached (what is shared counts as often as it is met; a slice's spare places count too). A statement '..UptoSaid' is the law's where the arguments, and the package variables that the reading takes, are together of bulk at most 1048576: NARROWER than '..Said'. Prove '..Said' where nothing that the law and all that it calls make is longer than what came in: it says more and counts as full. Else prove '..UptoSaid'. A law counts once. -/
mutual
def uptoBulk {H : Type} : DataW H → Nat
  | .lit (.string bytes) => bytes.length + 1
  | .lit _ => 1
  | .nil => 1
  | .ptr d => uptoBulk d + 1
  | .slice elems spare => uptoBulkAll elems + uptoBulkAll spare + 1
  | .agg parts => uptoBulkAll parts + 1
  | .iface _ d => uptoBulk d + 1
  | .map entries => uptoBulkEntries entries + 1
  | .held _ => 1
def uptoBulkAll {H : Type} : List (DataW H) → Nat
  | [] => 0
  | d :: r => uptoBulk d + uptoBulkAll r
def uptoBulkEntries {H : Type} : List (Lit × DataW H) → Nat
  | [] => 0
  | x :: r => uptoBulkEntry x + uptoBulkEntries r
def uptoBulkEntry {H : Type} : Lit × DataW H → Nat
  | (.string bytes, d) => bytes.length + uptoBulk d + 1
  | (_, d) => uptoBulk d + 1
 end
def uptoSmall : (H : Type) → List (DataW H) → Bool := fun _ ds => decide (uptoBulkAll ds ≤ 1048576)
def OpenSpec.upto (s : _root_.Go.ChangeSpec) : _root_.Go.OpenSpec := { _root_.Go.OpenSpec.ofChange s with cond := some uptoSmall }

/-- 'moietylaw02.WirePacks', WHERE WHAT IT READS IS OF BULK AT MOST 1048576: true; the input reads as it did. -/
def wirePacksUptoRow : OpenClaim := { program := "ytjhenlajkhckfaa", sum := "3879f65176ba740b62f5c71a3c75b9bb9ddd710d928db1e92c9690836d03a9f8", func := "moiety/moietylaw02.WirePacks", spec := "wirePacks", inPlace := ["math.Float64bits", "math.Float64frombits"], unfollowed := true, recurses := true, apart := false, narrowed := true }
def WirePacksUptoSaid : Prop := wirePacksUptoRow.holds Try.pinned (OpenSpec.upto wirePacksSpec)

/-- 'moietylaw02.WireValid', WHERE WHAT IT READS IS OF BULK AT MOST 1048576: true; the input reads as it did. -/
def wireValidUptoRow : OpenClaim := { program := "ytjhenlajkhckfaa", sum := "3879f65176ba740b62f5c71a3c75b9bb9ddd710d928db1e92c9690836d03a9f8", func := "moiety/moietylaw02.WireValid", spec := "wireValid", inPlace := ["math.Float64bits", "math.Float64frombits"], unfollowed := true, recurses := true, apart := false, narrowed := true }
def WireValidUptoSaid : Prop := wireValidUptoRow.holds Try.pinned (OpenSpec.upto wireValidSpec)

/-- 'moietylaw02.WireBack', WHERE WHAT IT READS IS OF BULK AT MOST 1048576: true; the input reads as it did. -/
def wireBackUptoRow : OpenClaim := { program := "ytjhenlajkhckfaa", sum := "3879f65176ba740b62f5c71a3c75b9bb9ddd710d928db1e92c9690836d03a9f8", func := "moiety/moietylaw02.WireBack", spec := "wireBack", inPlace := ["math.Float64bits", "math.Float64frombits"], unfollowed := true, recurses := true, apart := false, narrowed := true }
def WireBackUptoSaid : Prop := wireBackUptoRow.holds Try.pinned (OpenSpec.upto wireBackSpec)

/-- 'moietylaw02.WireOnce', WHERE WHAT IT READS IS OF BULK AT MOST 1048576: true; the input reads as it did. -/
def wireOnceUptoRow : OpenClaim := { program := "ytjhenlajkhckfaa", sum := "3879f65176ba740b62f5c71a3c75b9bb9ddd710d928db1e92c9690836d03a9f8", func := "moiety/moietylaw02.WireOnce", spec := "wireOnce", inPlace := ["math.Float64bits", "math.Float64frombits"], unfollowed := true, recurses := true, apart := false, narrowed := true }
def WireOnceUptoSaid : Prop := wireOnceUptoRow.holds Try.pinned (OpenSpec.upto wireOnceSpec)

/-- 'moietylaw02.WireCuts', WHERE WHAT IT READS IS OF BULK AT MOST 1048576: true; the input reads as it did. -/
def wireCutsUptoRow : OpenClaim := { program := "ytjhenlajkhckfaa", sum := "3879f65176ba740b62f5c71a3c75b9bb9ddd710d928db1e92c9690836d03a9f8", func := "moiety/moietylaw02.WireCuts", spec := "wireCuts", inPlace := ["math.Float64bits", "math.Float64frombits"], unfollowed := true, recurses := true, apart := false, narrowed := true }
def WireCutsUptoSaid : Prop := wireCutsUptoRow.holds Try.pinned (OpenSpec.upto wireCutsSpec)

/-- 'moietylaw02.WireJoins', WHERE WHAT IT READS IS OF BULK AT MOST 1048576: true; the input reads as it did. -/
def wireJoinsUptoRow : OpenClaim := { program := "ytjhenlajkhckfaa", sum := "3879f65176ba740b62f5c71a3c75b9bb9ddd710d928db1e92c9690836d03a9f8", func := "moiety/moietylaw02.WireJoins", spec := "wireJoins", inPlace := ["math.Float64bits", "math.Float64frombits"], unfollowed := true, recurses := true, apart := false, narrowed := true }
def WireJoinsUptoSaid : Prop := wireJoinsUptoRow.holds Try.pinned (OpenSpec.upto wireJoinsSpec)

/-- 'moietylaw02.WireApart', WHERE WHAT IT READS IS OF BULK AT MOST 1048576: true; the input reads as it did. -/
def wireApartUptoRow : OpenClaim := { program := "ytjhenlajkhckfaa", sum := "3879f65176ba740b62f5c71a3c75b9bb9ddd710d928db1e92c9690836d03a9f8", func := "moiety/moietylaw02.WireApart", spec := "wireApart", inPlace := ["math.Float64bits", "math.Float64frombits"], unfollowed := true, recurses := true, apart := false, narrowed := true }
def WireApartUptoSaid : Prop := wireApartUptoRow.holds Try.pinned (OpenSpec.upto wireApartSpec)

/-- 'moietylaw02.WireOwn', WHERE WHAT IT READS IS OF BULK AT MOST 1048576: true; the input reads as it did. -/
def wireOwnUptoRow : OpenClaim := { program := "ytjhenlajkhckfaa", sum := "3879f65176ba740b62f5c71a3c75b9bb9ddd710d928db1e92c9690836d03a9f8", func := "moiety/moietylaw02.WireOwn", spec := "wireOwn", inPlace := ["math.Float64bits", "math.Float64frombits"], unfollowed := true, recurses := true, apart := false, narrowed := true }
def WireOwnUptoSaid : Prop := wireOwnUptoRow.holds Try.pinned (OpenSpec.upto wireOwnSpec)

end Rows
end Go.Proofs.Ytjhenlajkhckfaa
