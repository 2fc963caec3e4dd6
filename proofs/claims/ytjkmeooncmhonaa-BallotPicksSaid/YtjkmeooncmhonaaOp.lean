/- What the arguments of this seat's laws are, by type. -/
import Derived.Test.YtjkmeooncmhonaaSlE
import Derived.Test.YtjkmeooncmhonaaFs
import Derived.Test.YtjkmeooncmhonaaRows
import Derived.OpenShut
import Derived.ShutString
import Derived.ChangeOld
namespace Go.Proofs.Ytjkmeooncmhonaa
open Go Go.Proofs.Ytjkmeooncmhonaa.Cf
set_option linter.unusedVariables false
set_option linter.unusedSimpArgs false
set_option maxRecDepth 100000
theorem ownNone : ownKnob Try.prog.godebug = none := by kernel_rfl
theorem laidOutYes : laidOutB Try.prog = true := by kernel_rfl
section
variable {H : Type} {enc : TypeId × Value → H} {W : World} {base : Nat} {spare : Nat → Bool} {held : Bool}
def G3 (W : World) (x : Int) : Prop := IntKind.i64.min ≤ x ∧ x ≤ IntKind.i64.max
theorem opn3 : Opn enc Try.prog W base spare held 3 (tInt .i64) (G3 W) := opn_int Try.underlying3
def G2 (W : World) (x : Int) : Prop := IntKind.i64.min ≤ x ∧ x ≤ IntKind.i64.max
theorem opn2 : Opn enc Try.prog W base spare held 2 (tInt .i64) (G2 W) := opn_int Try.underlying2
def G9 (W : World) (x : (List UInt8)) : Prop := x.length ≤ 9223372036854775807
theorem opn9 : Opn enc Try.prog W base spare held 9 tStr (G9 W) := opn_str Try.underlying9
def G47 (W : World) (x : S46) : Prop := G3 W x.Slot ∧ G2 W x.B ∧ G9 W x.V
theorem opn47 : Opn enc Try.prog W base spare held 47 T46 (G47 W) := by
  refine opn_agg Try.underlying47 (show Try.prog.cellsOf 47 = 3 by kernel_rfl) fun cs hl hf => ?_
  obtain ⟨m0, x0, h0⟩ := hf 0 0 3 1 ⟨_, rfl, rfl, rfl⟩ (by kernel_rfl)
  obtain ⟨y0, e0, g0⟩ := opn3 _ _ _ h0
  obtain ⟨m1, x1, h1⟩ := hf 1 1 2 1 ⟨_, rfl, rfl, rfl⟩ (by kernel_rfl)
  obtain ⟨y1, e1, g1⟩ := opn2 _ _ _ h1
  obtain ⟨m2, x2, h2⟩ := hf 2 2 9 1 ⟨_, rfl, rfl, rfl⟩ (by kernel_rfl)
  obtain ⟨y2, e2, g2⟩ := opn9 _ _ _ h2
  exact ⟨⟨y0, y1, y2⟩, dj (o := 0) (k := 1) e0 (dj (o := 1) (k := 1) e1 (dj (o := 2) (k := 1) e2 (dend hl))), g0, g1, g2⟩
def G23 (W : World) (s : Slc) : Prop := (s.len ≤ s.cap ∧ s.cap ≤ 9223372036854775807) ∧ ∃ xs, (∀ x ∈ xs, G47 W x) ∧ RoP T46 s xs fun b => W.heap[b]?
theorem opn23 : Opn enc Try.prog W base spare held 23 tSlc (G23 W) := opn_slice Try.underlying23 (show Try.prog.cellsOf 47 = 3 by kernel_rfl) (by decide) (fun _ => rfl) opn47
def G22 (W : World) (s : Slc) : Prop := (s.len ≤ s.cap ∧ s.cap ≤ 9223372036854775807) ∧ ∃ xs, (∀ x ∈ xs, G23 W x) ∧ RoP tSlc s xs fun b => W.heap[b]?
theorem opn22 : Opn enc Try.prog W base spare held 22 tSlc (G22 W) := opn_slice Try.underlying22 (show Try.prog.cellsOf 23 = 1 by kernel_rfl) (by decide) (fun _ => rfl) opn23
def G37 (W : World) (s : Slc) : Prop := (s.len ≤ s.cap ∧ s.cap ≤ 9223372036854775807) ∧ ∃ xs, (∀ x ∈ xs, G3 W x) ∧ RoP (tInt .i64) s xs fun b => W.heap[b]?
theorem opn37 : Opn enc Try.prog W base spare held 37 tSlc (G37 W) := opn_slice Try.underlying37 (show Try.prog.cellsOf 3 = 1 by kernel_rfl) (by decide) (fun _ => rfl) opn3
def G39 (W : World) (x : S38) : Prop := G3 W x.Kind ∧ G3 W x.N ∧ G3 W x.Slot ∧ G2 W x.B ∧ G9 W x.V ∧ G37 W x.Keep
theorem opn39 : Opn enc Try.prog W base spare held 39 T38 (G39 W) := by
  refine opn_agg Try.underlying39 (show Try.prog.cellsOf 39 = 6 by kernel_rfl) fun cs hl hf => ?_
  obtain ⟨m0, x0, h0⟩ := hf 0 0 3 1 ⟨_, rfl, rfl, rfl⟩ (by kernel_rfl)
  obtain ⟨y0, e0, g0⟩ := opn3 _ _ _ h0
  obtain ⟨m1, x1, h1⟩ := hf 1 1 3 1 ⟨_, rfl, rfl, rfl⟩ (by kernel_rfl)
  obtain ⟨y1, e1, g1⟩ := opn3 _ _ _ h1
  obtain ⟨m2, x2, h2⟩ := hf 2 2 3 1 ⟨_, rfl, rfl, rfl⟩ (by kernel_rfl)
  obtain ⟨y2, e2, g2⟩ := opn3 _ _ _ h2
  obtain ⟨m3, x3, h3⟩ := hf 3 3 2 1 ⟨_, rfl, rfl, rfl⟩ (by kernel_rfl)
  obtain ⟨y3, e3, g3⟩ := opn2 _ _ _ h3
  obtain ⟨m4, x4, h4⟩ := hf 4 4 9 1 ⟨_, rfl, rfl, rfl⟩ (by kernel_rfl)
  obtain ⟨y4, e4, g4⟩ := opn9 _ _ _ h4
  obtain ⟨m5, x5, h5⟩ := hf 5 5 37 1 ⟨_, rfl, rfl, rfl⟩ (by kernel_rfl)
  obtain ⟨y5, e5, g5⟩ := opn37 _ _ _ h5
  exact ⟨⟨y0, y1, y2, y3, y4, y5⟩, dj (o := 0) (k := 1) e0 (dj (o := 1) (k := 1) e1 (dj (o := 2) (k := 1) e2 (dj (o := 3) (k := 1) e3 (dj (o := 4) (k := 1) e4 (dj (o := 5) (k := 1) e5 (dend hl)))))), g0, g1, g2, g3, g4, g5⟩
def G29 (W : World) (s : Slc) : Prop := (s.len ≤ s.cap ∧ s.cap ≤ 9223372036854775807) ∧ ∃ xs, (∀ x ∈ xs, G39 W x) ∧ RoP T38 s xs fun b => W.heap[b]?
theorem opn29 : Opn enc Try.prog W base spare held 29 tSlc (G29 W) := opn_slice Try.underlying29 (show Try.prog.cellsOf 39 = 6 by kernel_rfl) (by decide) (fun _ => rfl) opn39
def G5 (W : World) (x : Int) : Prop := IntKind.u8.min ≤ x ∧ x ≤ IntKind.u8.max
theorem opn5 : Opn enc Try.prog W base spare held 5 (tInt .u8) (G5 W) := opn_int Try.underlying5
def G69 (W : World) (x : S68) : Prop := G5 W x.Kind ∧ G5 W x.A ∧ G5 W x.B ∧ G5 W x.Slot ∧ G3 W x.Keep
theorem opn69 : Opn enc Try.prog W base spare held 69 T68 (G69 W) := by
  refine opn_agg Try.underlying69 (show Try.prog.cellsOf 69 = 5 by kernel_rfl) fun cs hl hf => ?_
  obtain ⟨m0, x0, h0⟩ := hf 0 0 5 1 ⟨_, rfl, rfl, rfl⟩ (by kernel_rfl)
  obtain ⟨y0, e0, g0⟩ := opn5 _ _ _ h0
  obtain ⟨m1, x1, h1⟩ := hf 1 1 5 1 ⟨_, rfl, rfl, rfl⟩ (by kernel_rfl)
  obtain ⟨y1, e1, g1⟩ := opn5 _ _ _ h1
  obtain ⟨m2, x2, h2⟩ := hf 2 2 5 1 ⟨_, rfl, rfl, rfl⟩ (by kernel_rfl)
  obtain ⟨y2, e2, g2⟩ := opn5 _ _ _ h2
  obtain ⟨m3, x3, h3⟩ := hf 3 3 5 1 ⟨_, rfl, rfl, rfl⟩ (by kernel_rfl)
  obtain ⟨y3, e3, g3⟩ := opn5 _ _ _ h3
  obtain ⟨m4, x4, h4⟩ := hf 4 4 3 1 ⟨_, rfl, rfl, rfl⟩ (by kernel_rfl)
  obtain ⟨y4, e4, g4⟩ := opn3 _ _ _ h4
  exact ⟨⟨y0, y1, y2, y3, y4⟩, dj (o := 0) (k := 1) e0 (dj (o := 1) (k := 1) e1 (dj (o := 2) (k := 1) e2 (dj (o := 3) (k := 1) e3 (dj (o := 4) (k := 1) e4 (dend hl))))), g0, g1, g2, g3, g4⟩
def G56 (W : World) (s : Slc) : Prop := (s.len ≤ s.cap ∧ s.cap ≤ 9223372036854775807) ∧ ∃ xs, (∀ x ∈ xs, G69 W x) ∧ RoP T68 s xs fun b => W.heap[b]?
theorem opn56 : Opn enc Try.prog W base spare held 56 tSlc (G56 W) := opn_slice Try.underlying56 (show Try.prog.cellsOf 69 = 5 by kernel_rfl) (by decide) (fun _ => rfl) opn69
end
end Go.Proofs.Ytjkmeooncmhonaa
