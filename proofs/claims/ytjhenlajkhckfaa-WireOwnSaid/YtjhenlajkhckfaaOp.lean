/- What the arguments of this seat's laws are, by type. -/
import Derived.Test.YtjhenlajkhckfaaSlE
import Derived.Test.YtjhenlajkhckfaaFs
import Derived.Test.YtjhenlajkhckfaaRows
import Derived.OpenShut
import Derived.ShutString
import Derived.ChangeOld
namespace Go.Proofs.Ytjhenlajkhckfaa
open Go Go.Proofs.Ytjhenlajkhckfaa.Cf
set_option linter.unusedVariables false
set_option linter.unusedSimpArgs false
set_option maxRecDepth 100000
theorem ownNone : ownKnob Try.prog.godebug = none := by kernel_rfl
theorem laidOutYes : laidOutB Try.prog = true := by kernel_rfl
section
variable {H : Type} {enc : TypeId × Value → H} {W : World} {base : Nat} {spare : Nat → Bool} {held : Bool}
def G32 (W : World) (x : Int) : Prop := IntKind.i64.min ≤ x ∧ x ≤ IntKind.i64.max
theorem opn32 : Opn enc Try.prog W base spare held 32 (tInt .i64) (G32 W) := opn_int Try.underlying32
def G33 (W : World) (x : Int) : Prop := IntKind.u64.min ≤ x ∧ x ≤ IntKind.u64.max
theorem opn33 : Opn enc Try.prog W base spare held 33 (tInt .u64) (G33 W) := opn_int Try.underlying33
def G2 (W : World) (x : Int) : Prop := IntKind.i64.min ≤ x ∧ x ≤ IntKind.i64.max
theorem opn2 : Opn enc Try.prog W base spare held 2 (tInt .i64) (G2 W) := opn_int Try.underlying2
def G34 (W : World) (x : Nat) : Prop := x < 18446744073709551616
theorem opn34 : Opn enc Try.prog W base spare held 34 tFlt (G34 W) := opn_flt Try.underlying34
def G9 (W : World) (x : (List UInt8)) : Prop := x.length ≤ 9223372036854775807
theorem opn9 : Opn enc Try.prog W base spare held 9 tStr (G9 W) := opn_str Try.underlying9
def G36 (W : World) (x : S35) : Prop := G32 W x.Kind ∧ G33 W x.U ∧ G2 W x.I ∧ G34 W x.F ∧ G9 W x.S
theorem opn36 : Opn enc Try.prog W base spare held 36 T35 (G36 W) := by
  refine opn_agg Try.underlying36 (show Try.prog.cellsOf 36 = 5 by kernel_rfl) fun cs hl hf => ?_
  obtain ⟨m0, x0, h0⟩ := hf 0 0 32 1 ⟨_, rfl, rfl, rfl⟩ (by kernel_rfl)
  obtain ⟨y0, e0, g0⟩ := opn32 _ _ _ h0
  obtain ⟨m1, x1, h1⟩ := hf 1 1 33 1 ⟨_, rfl, rfl, rfl⟩ (by kernel_rfl)
  obtain ⟨y1, e1, g1⟩ := opn33 _ _ _ h1
  obtain ⟨m2, x2, h2⟩ := hf 2 2 2 1 ⟨_, rfl, rfl, rfl⟩ (by kernel_rfl)
  obtain ⟨y2, e2, g2⟩ := opn2 _ _ _ h2
  obtain ⟨m3, x3, h3⟩ := hf 3 3 34 1 ⟨_, rfl, rfl, rfl⟩ (by kernel_rfl)
  obtain ⟨y3, e3, g3⟩ := opn34 _ _ _ h3
  obtain ⟨m4, x4, h4⟩ := hf 4 4 9 1 ⟨_, rfl, rfl, rfl⟩ (by kernel_rfl)
  obtain ⟨y4, e4, g4⟩ := opn9 _ _ _ h4
  exact ⟨⟨y0, y1, y2, y3, y4⟩, dj (o := 0) (k := 1) e0 (dj (o := 1) (k := 1) e1 (dj (o := 2) (k := 1) e2 (dj (o := 3) (k := 1) e3 (dj (o := 4) (k := 1) e4 (dend hl))))), g0, g1, g2, g3, g4⟩
def G22 (W : World) (s : Slc) : Prop := (s.len ≤ s.cap ∧ s.cap ≤ 9223372036854775807) ∧ ∃ xs, (∀ x ∈ xs, G36 W x) ∧ RoP T35 s xs fun b => W.heap[b]?
theorem opn22 : Opn enc Try.prog W base spare held 22 tSlc (G22 W) := opn_slice Try.underlying22 (show Try.prog.cellsOf 36 = 5 by kernel_rfl) (by decide) (fun _ => rfl) opn36
def G42 (W : World) (x : Int) : Prop := IntKind.u16.min ≤ x ∧ x ≤ IntKind.u16.max
theorem opn42 : Opn enc Try.prog W base spare held 42 (tInt .u16) (G42 W) := opn_int Try.underlying42
end
end Go.Proofs.Ytjhenlajkhckfaa
