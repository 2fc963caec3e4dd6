/- What the arguments of this seat's laws are, by type. -/
import Derived.Test.YtleehieomicicaaSlE
import Derived.Test.YtleehieomicicaaFs
import Derived.Test.YtleehieomicicaaRows
import Derived.OpenShut
import Derived.ShutString
import Derived.ChangeOld
namespace Go.Proofs.Ytleehieomicicaa
open Go Go.Proofs.Ytleehieomicicaa.Cf
set_option linter.unusedVariables false
set_option linter.unusedSimpArgs false
set_option maxRecDepth 100000
theorem ownNone : ownKnob Try.prog.godebug = none := by kernel_rfl
theorem laidOutYes : laidOutB Try.prog = true := by kernel_rfl
section
variable {H : Type} {enc : TypeId × Value → H} {W : World} {base : Nat} {spare : Nat → Bool} {held : Bool}
def G2 (W : World) (x : Int) : Prop := IntKind.i64.min ≤ x ∧ x ≤ IntKind.i64.max
theorem opn2 : Opn enc Try.prog W base spare held 2 (tInt .i64) (G2 W) := opn_int Try.underlying2
def G3 (W : World) (x : Int) : Prop := IntKind.i64.min ≤ x ∧ x ≤ IntKind.i64.max
theorem opn3 : Opn enc Try.prog W base spare held 3 (tInt .i64) (G3 W) := opn_int Try.underlying3
def G37 (W : World) (x : S36) : Prop := G3 W x.Key ∧ G2 W x.V
theorem opn37 : Opn enc Try.prog W base spare held 37 T36 (G37 W) := by
  refine opn_agg Try.underlying37 (show Try.prog.cellsOf 37 = 2 by kernel_rfl) fun cs hl hf => ?_
  obtain ⟨m0, x0, h0⟩ := hf 0 0 3 1 ⟨_, rfl, rfl, rfl⟩ (by kernel_rfl)
  obtain ⟨y0, e0, g0⟩ := opn3 _ _ _ h0
  obtain ⟨m1, x1, h1⟩ := hf 1 1 2 1 ⟨_, rfl, rfl, rfl⟩ (by kernel_rfl)
  obtain ⟨y1, e1, g1⟩ := opn2 _ _ _ h1
  exact ⟨⟨y0, y1⟩, dj (o := 0) (k := 1) e0 (dj (o := 1) (k := 1) e1 (dend hl)), g0, g1⟩
def G31 (W : World) (s : Slc) : Prop := s.len ≤ 9223372036854775807 ∧ ∃ xs, (∀ x ∈ xs, G37 W x) ∧ RoP T36 s xs fun b => W.heap[b]?
theorem opn31 : Opn enc Try.prog W base spare held 31 tSlc (G31 W) := opn_slice Try.underlying31 (show Try.prog.cellsOf 37 = 2 by kernel_rfl) (by decide) (fun _ => rfl) opn37
def G39 (W : World) (x : S38) : Prop := G2 W x.At ∧ G31 W x.L
theorem opn39 : Opn enc Try.prog W base spare held 39 T38 (G39 W) := by
  refine opn_agg Try.underlying39 (show Try.prog.cellsOf 39 = 2 by kernel_rfl) fun cs hl hf => ?_
  obtain ⟨m0, x0, h0⟩ := hf 0 0 2 1 ⟨_, rfl, rfl, rfl⟩ (by kernel_rfl)
  obtain ⟨y0, e0, g0⟩ := opn2 _ _ _ h0
  obtain ⟨m1, x1, h1⟩ := hf 1 1 31 1 ⟨_, rfl, rfl, rfl⟩ (by kernel_rfl)
  obtain ⟨y1, e1, g1⟩ := opn31 _ _ _ h1
  exact ⟨⟨y0, y1⟩, dj (o := 0) (k := 1) e0 (dj (o := 1) (k := 1) e1 (dend hl)), g0, g1⟩
def G22 (W : World) (s : Slc) : Prop := s.len ≤ 9223372036854775807 ∧ ∃ xs, (∀ x ∈ xs, G39 W x) ∧ RoP T38 s xs fun b => W.heap[b]?
theorem opn22 : Opn enc Try.prog W base spare held 22 tSlc (G22 W) := opn_slice Try.underlying22 (show Try.prog.cellsOf 39 = 2 by kernel_rfl) (by decide) (fun _ => rfl) opn39
def G5 (W : World) (x : Int) : Prop := IntKind.u8.min ≤ x ∧ x ≤ IntKind.u8.max
theorem opn5 : Opn enc Try.prog W base spare held 5 (tInt .u8) (G5 W) := opn_int Try.underlying5
end
end Go.Proofs.Ytleehieomicicaa
