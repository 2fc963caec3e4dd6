/- What the arguments of this seat's laws are, by type. -/
import Derived.Test.YtpdaapffkdejoaaGreatSlE
import Derived.Test.YtpdaapffkdejoaaGreatFs
import Derived.Test.YtpdaapffkdejoaaGreatRows
import Derived.OpenShut
import Derived.ShutString
import Derived.ChangeOld
import Derived.Laws.Cover2
namespace Go.Proofs.YtpdaapffkdejoaaGreat
open Go Go.Proofs.YtpdaapffkdejoaaGreat.Cf
set_option linter.unusedVariables false
set_option linter.unusedSimpArgs false
set_option maxRecDepth 100000
theorem ownNone : ownKnob Tryz.prog.godebug = none := by kernel_rfl
theorem laidOutYes : laidOutB Tryz.prog = true := by kernel_rfl
section
variable {H : Type} {enc : TypeId × Value → H} {W : World} {base : Nat} {spare : Nat → Bool} {held : Bool}
def G22 (W : World) (x : Nat) : Prop := x < 18446744073709551616
theorem opn22 : Opn enc Tryz.prog W base spare held 22 tFlt (G22 W) := opn_flt Tryz.underlying22
def G3 (W : World) (x : Int) : Prop := IntKind.i64.min ≤ x ∧ x ≤ IntKind.i64.max
theorem opn3 : Opn enc Tryz.prog W base spare held 3 (tInt .i64) (G3 W) := opn_int Tryz.underlying3
def G2 (W : World) (x : Int) : Prop := IntKind.i64.min ≤ x ∧ x ≤ IntKind.i64.max
theorem opn2 : Opn enc Tryz.prog W base spare held 2 (tInt .i64) (G2 W) := opn_int Tryz.underlying2
def G4 (W : World) (x : Bool) : Prop := True
theorem opn4 : Opn enc Tryz.prog W base spare held 4 tBool (G4 W) := opn_bool Tryz.underlying4
def G42 (W : World) (x : S41) : Prop := G3 W x.Kind ∧ G3 W x.ID ∧ G3 W x.Account ∧ G2 W x.T_ ∧ G2 W x.N ∧ G4 W x.Pays
theorem opn42 : Opn enc Tryz.prog W base spare held 42 T41 (G42 W) := by
  refine opn_agg Tryz.underlying42 (show Tryz.prog.cellsOf 42 = 6 by kernel_rfl) fun cs hl hf => ?_
  obtain ⟨m0, x0, h0⟩ := hf 0 0 3 1 ⟨_, rfl, rfl, rfl⟩ (by kernel_rfl)
  obtain ⟨y0, e0, g0⟩ := opn3 _ _ _ h0
  obtain ⟨m1, x1, h1⟩ := hf 1 1 3 1 ⟨_, rfl, rfl, rfl⟩ (by kernel_rfl)
  obtain ⟨y1, e1, g1⟩ := opn3 _ _ _ h1
  obtain ⟨m2, x2, h2⟩ := hf 2 2 3 1 ⟨_, rfl, rfl, rfl⟩ (by kernel_rfl)
  obtain ⟨y2, e2, g2⟩ := opn3 _ _ _ h2
  obtain ⟨m3, x3, h3⟩ := hf 3 3 2 1 ⟨_, rfl, rfl, rfl⟩ (by kernel_rfl)
  obtain ⟨y3, e3, g3⟩ := opn2 _ _ _ h3
  obtain ⟨m4, x4, h4⟩ := hf 4 4 2 1 ⟨_, rfl, rfl, rfl⟩ (by kernel_rfl)
  obtain ⟨y4, e4, g4⟩ := opn2 _ _ _ h4
  obtain ⟨m5, x5, h5⟩ := hf 5 5 4 1 ⟨_, rfl, rfl, rfl⟩ (by kernel_rfl)
  obtain ⟨y5, e5, g5⟩ := opn4 _ _ _ h5
  exact ⟨⟨y0, y1, y2, y3, y4, y5⟩, dj (o := 0) (k := 1) e0 (dj (o := 1) (k := 1) e1 (dj (o := 2) (k := 1) e2 (dj (o := 3) (k := 1) e3 (dj (o := 4) (k := 1) e4 (dj (o := 5) (k := 1) e5 (dend hl)))))), g0, g1, g2, g3, g4, g5⟩
def G23 (W : World) (s : Slc) : Prop := (s.len ≤ s.cap ∧ s.cap ≤ 9223372036854775807) ∧ ∃ xs, (∀ x ∈ xs, G42 W x) ∧ RoP T41 s xs fun b => W.heap[b]?
theorem opn23 : Opn enc Tryz.prog W base spare held 23 tSlc (G23 W) := opn_slice Tryz.underlying23 (show Tryz.prog.cellsOf 42 = 6 by kernel_rfl) (by decide) (fun _ => rfl) opn42
end
end Go.Proofs.YtpdaapffkdejoaaGreat
