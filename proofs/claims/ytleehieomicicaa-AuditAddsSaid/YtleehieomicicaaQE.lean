/- Contracts of package audit: all entries of all reports. -/
import Derived.Test.YtleehieomicicaaQD
namespace Go.Proofs.Ytleehieomicicaa.Audit
open Go Go.Proofs.Ytleehieomicicaa.Cf
set_option linter.unusedVariables false
set_option linter.unusedSimpArgs false
set_option maxRecDepth 100000
section
variable {W w : World} {l : List Assn}
/-- Reports as they lie. -/
def RsP (s : Slc) (rs : List (S38 × List S36)) (I : PMap) : Prop := RoP T38 s (rs.map (·.1)) I ∧ ∀ p ∈ rs, RoP T36 p.1.L p.2 I
theorem RsP.mono {s : Slc} {rs : List (S38 × List S36)} {I I' : PMap} (h : PMap.le I I') : RsP s rs I → RsP s rs I' := fun ⟨h1, h2⟩ => ⟨RoP.mono h h1, fun p hp => RoP.mono h (h2 p hp)⟩
def rso (s : Slc) (rs : List (S38 × List S36)) : Assn := ever (RsP s rs) RsP.mono
theorem rso_row {s : Slc} {rs : List (S38 × List S36)} (H : St W (rso s rs :: l) w) : St W (ro T38 s (rs.map (·.1)) :: rso s rs :: l) w :=
  St.impEver (m := RsP.mono) (fun I h => h.1) (St.dup (m := RsP.mono) H)
theorem rso_at {s : Slc} {rs : List (S38 × List S36)} {p : S38 × List S36} (hp : p ∈ rs) (H : St W (rso s rs :: l) w) : St W (ro T36 p.1.L p.2 :: rso s rs :: l) w :=
  St.impEver (m := RsP.mono) (fun I h => h.2 p hp) (St.dup (m := RsP.mono) H)
/-- The entries taken one by one, as long as they may be. -/
def goes : List (Int × Int) → Int → List S36 → List (Int × Int) × Int × Int
  | es, sum, [] => (es, sum, 0)
  | es, sum, x :: xs => if why es sum x = 0 then goes (ups x.Key x.V es) (sum + x.V) xs else (es, sum, why es sum x)
theorem goes_append (es : List (Int × Int)) (sum : Int) (xs ys : List S36) : goes es sum (xs ++ ys) = if (goes es sum xs).2.2 = 0 then goes (goes es sum xs).1 (goes es sum xs).2.1 ys else goes es sum xs := by
  induction xs generalizing es sum with
  | nil => simp [goes]
  | cons x xs ih =>
    simp only [List.cons_append, goes]
    split
    · exact ih _ _
    · rfl
end
end Go.Proofs.Ytleehieomicicaa.Audit
