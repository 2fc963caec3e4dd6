/- What the arguments of this seat's laws are, by type. -/
import Derived.Test.YtdgdkbfigndndaaSlE
import Derived.Test.YtdgdkbfigndndaaFs
import Derived.Test.YtdgdkbfigndndaaRows
import Derived.OpenShut
import Derived.ShutString
import Derived.ChangeOld
namespace Go.Proofs.Ytdgdkbfigndndaa
open Go Go.Proofs.Ytdgdkbfigndndaa.Cf
set_option linter.unusedVariables false
set_option linter.unusedSimpArgs false
set_option maxRecDepth 100000
theorem ownNone : ownKnob Try.prog.godebug = none := by kernel_rfl
theorem laidOutYes : laidOutB Try.prog = true := by kernel_rfl
section
variable {H : Type} {enc : TypeId × Value → H} {W : World} {base : Nat} {spare : Nat → Bool} {held : Bool}
def G3 (W : World) (x : Int) : Prop := IntKind.i64.min ≤ x ∧ x ≤ IntKind.i64.max
theorem opn3 : Opn enc Try.prog W base spare held 3 (tInt .i64) (G3 W) := opn_int Try.underlying3
def G2 (W : World) (x : Int) : Prop := IntKind.i64.min ≤ x ∧ x ≤ IntKind.i64.max
theorem opn2 : Opn enc Try.prog W base spare held 2 (tInt .i64) (G2 W) := opn_int Try.underlying2
def G58 (W : World) (x : S57) : Prop := G3 W x.Key ∧ G2 W x.V
theorem opn58 : Opn enc Try.prog W base spare held 58 T57 (G58 W) := by
  refine opn_agg Try.underlying58 (show Try.prog.cellsOf 58 = 2 by kernel_rfl) fun cs hl hf => ?_
  obtain ⟨m0, x0, h0⟩ := hf 0 0 3 1 ⟨_, rfl, rfl, rfl⟩ (by kernel_rfl)
  obtain ⟨y0, e0, g0⟩ := opn3 _ _ _ h0
  obtain ⟨m1, x1, h1⟩ := hf 1 1 2 1 ⟨_, rfl, rfl, rfl⟩ (by kernel_rfl)
  obtain ⟨y1, e1, g1⟩ := opn2 _ _ _ h1
  exact ⟨⟨y0, y1⟩, dj (o := 0) (k := 1) e0 (dj (o := 1) (k := 1) e1 (dend hl)), g0, g1⟩
def G31 (W : World) (s : Slc) : Prop := (s.len ≤ s.cap ∧ s.cap ≤ 9223372036854775807) ∧ ∃ xs, (∀ x ∈ xs, G58 W x) ∧ RoP T57 s xs fun b => W.heap[b]?
theorem opn31 : Opn enc Try.prog W base spare held 31 tSlc (G31 W) := opn_slice Try.underlying31 (show Try.prog.cellsOf 58 = 2 by kernel_rfl) (by decide) (fun _ => rfl) opn58
def G33 (W : World) (x : S32) : Prop := G3 W x.Kind ∧ G3 W x.Key ∧ G2 W x.T_ ∧ G31 W x.L
theorem opn33 : Opn enc Try.prog W base spare held 33 T32 (G33 W) := by
  refine opn_agg Try.underlying33 (show Try.prog.cellsOf 33 = 4 by kernel_rfl) fun cs hl hf => ?_
  obtain ⟨m0, x0, h0⟩ := hf 0 0 3 1 ⟨_, rfl, rfl, rfl⟩ (by kernel_rfl)
  obtain ⟨y0, e0, g0⟩ := opn3 _ _ _ h0
  obtain ⟨m1, x1, h1⟩ := hf 1 1 3 1 ⟨_, rfl, rfl, rfl⟩ (by kernel_rfl)
  obtain ⟨y1, e1, g1⟩ := opn3 _ _ _ h1
  obtain ⟨m2, x2, h2⟩ := hf 2 2 2 1 ⟨_, rfl, rfl, rfl⟩ (by kernel_rfl)
  obtain ⟨y2, e2, g2⟩ := opn2 _ _ _ h2
  obtain ⟨m3, x3, h3⟩ := hf 3 3 31 1 ⟨_, rfl, rfl, rfl⟩ (by kernel_rfl)
  obtain ⟨y3, e3, g3⟩ := opn31 _ _ _ h3
  exact ⟨⟨y0, y1, y2, y3⟩, dj (o := 0) (k := 1) e0 (dj (o := 1) (k := 1) e1 (dj (o := 2) (k := 1) e2 (dj (o := 3) (k := 1) e3 (dend hl)))), g0, g1, g2, g3⟩
def G22 (W : World) (s : Slc) : Prop := (s.len ≤ s.cap ∧ s.cap ≤ 9223372036854775807) ∧ ∃ xs, (∀ x ∈ xs, G33 W x) ∧ RoP T32 s xs fun b => W.heap[b]?
theorem opn22 : Opn enc Try.prog W base spare held 22 tSlc (G22 W) := opn_slice Try.underlying22 (show Try.prog.cellsOf 33 = 4 by kernel_rfl) (by decide) (fun _ => rfl) opn33
def G52 (W : World) (x : S51) : Prop := G2 W x.T_ ∧ G31 W x.L
theorem opn52 : Opn enc Try.prog W base spare held 52 T51 (G52 W) := by
  refine opn_agg Try.underlying52 (show Try.prog.cellsOf 52 = 2 by kernel_rfl) fun cs hl hf => ?_
  obtain ⟨m0, x0, h0⟩ := hf 0 0 2 1 ⟨_, rfl, rfl, rfl⟩ (by kernel_rfl)
  obtain ⟨y0, e0, g0⟩ := opn2 _ _ _ h0
  obtain ⟨m1, x1, h1⟩ := hf 1 1 31 1 ⟨_, rfl, rfl, rfl⟩ (by kernel_rfl)
  obtain ⟨y1, e1, g1⟩ := opn31 _ _ _ h1
  exact ⟨⟨y0, y1⟩, dj (o := 0) (k := 1) e0 (dj (o := 1) (k := 1) e1 (dend hl)), g0, g1⟩
end
end Go.Proofs.Ytdgdkbfigndndaa
