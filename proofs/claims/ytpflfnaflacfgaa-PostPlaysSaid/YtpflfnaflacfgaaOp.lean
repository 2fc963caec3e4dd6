/- What the arguments of this seat's laws are, by type. -/
import Derived.Test.YtpflfnaflacfgaaSlE
import Derived.Test.YtpflfnaflacfgaaFs
import Derived.Test.YtpflfnaflacfgaaRows
import Derived.OpenShut
import Derived.ShutString
import Derived.ChangeOld
namespace Go.Proofs.Ytpflfnaflacfgaa
open Go Go.Proofs.Ytpflfnaflacfgaa.Cf
set_option linter.unusedVariables false
set_option linter.unusedSimpArgs false
set_option maxRecDepth 100000
theorem ownNone : ownKnob Try.prog.godebug = none := by kernel_rfl
theorem laidOutYes : laidOutB Try.prog = true := by kernel_rfl
section
variable {H : Type} {enc : TypeId × Value → H} {W : World} {base : Nat} {spare : Nat → Bool} {held : Bool}
def G3 (W : World) (x : Int) : Prop := IntKind.i64.min ≤ x ∧ x ≤ IntKind.i64.max
theorem opn3 : Opn enc Try.prog W base spare held 3 (tInt .i64) (G3 W) := opn_int Try.underlying3
def G9 (W : World) (x : (List UInt8)) : Prop := x.length ≤ 9223372036854775807
theorem opn9 : Opn enc Try.prog W base spare held 9 tStr (G9 W) := opn_str Try.underlying9
def G4 (W : World) (x : Bool) : Prop := True
theorem opn4 : Opn enc Try.prog W base spare held 4 tBool (G4 W) := opn_bool Try.underlying4
def G29 (W : World) (x : S28) : Prop := G3 W x.Kind ∧ G3 W x.A ∧ G3 W x.B ∧ G9 W x.M ∧ G4 W x.Off
theorem opn29 : Opn enc Try.prog W base spare held 29 T28 (G29 W) := by
  refine opn_agg Try.underlying29 (show Try.prog.cellsOf 29 = 5 by kernel_rfl) fun cs hl hf => ?_
  obtain ⟨m0, x0, h0⟩ := hf 0 0 3 1 ⟨_, rfl, rfl, rfl⟩ (by kernel_rfl)
  obtain ⟨y0, e0, g0⟩ := opn3 _ _ _ h0
  obtain ⟨m1, x1, h1⟩ := hf 1 1 3 1 ⟨_, rfl, rfl, rfl⟩ (by kernel_rfl)
  obtain ⟨y1, e1, g1⟩ := opn3 _ _ _ h1
  obtain ⟨m2, x2, h2⟩ := hf 2 2 3 1 ⟨_, rfl, rfl, rfl⟩ (by kernel_rfl)
  obtain ⟨y2, e2, g2⟩ := opn3 _ _ _ h2
  obtain ⟨m3, x3, h3⟩ := hf 3 3 9 1 ⟨_, rfl, rfl, rfl⟩ (by kernel_rfl)
  obtain ⟨y3, e3, g3⟩ := opn9 _ _ _ h3
  obtain ⟨m4, x4, h4⟩ := hf 4 4 4 1 ⟨_, rfl, rfl, rfl⟩ (by kernel_rfl)
  obtain ⟨y4, e4, g4⟩ := opn4 _ _ _ h4
  exact ⟨⟨y0, y1, y2, y3, y4⟩, dj (o := 0) (k := 1) e0 (dj (o := 1) (k := 1) e1 (dj (o := 2) (k := 1) e2 (dj (o := 3) (k := 1) e3 (dj (o := 4) (k := 1) e4 (dend hl))))), g0, g1, g2, g3, g4⟩
def G22 (W : World) (s : Slc) : Prop := s.len ≤ 9223372036854775807 ∧ ∃ xs, (∀ x ∈ xs, G29 W x) ∧ RoP T28 s xs fun b => W.heap[b]?
theorem opn22 : Opn enc Try.prog W base spare held 22 tSlc (G22 W) := opn_slice Try.underlying22 (show Try.prog.cellsOf 29 = 5 by kernel_rfl) (by decide) (fun _ => rfl) opn29
def G5 (W : World) (x : Int) : Prop := IntKind.u8.min ≤ x ∧ x ≤ IntKind.u8.max
theorem opn5 : Opn enc Try.prog W base spare held 5 (tInt .u8) (G5 W) := opn_int Try.underlying5
end
end Go.Proofs.Ytpflfnaflacfgaa
