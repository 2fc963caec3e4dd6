/- A new net of package post, at letters that say a text. -/
import Derived.Test.YtpflfnaflacfgaaPB
namespace Go.Proofs.Ytpflfnaflacfgaa.PostS
open Go Go.Proofs.Ytpflfnaflacfgaa.Cf
set_option linter.unusedVariables false
set_option linter.unusedSimpArgs false
set_option maxRecDepth 100000
section
variable {W w : World} {l : List Assn} {b : Nat} {N : Net}
def Net.new (n : Int) : Net := ⟨n, 0, [], fun _ => false⟩
theorem New_spec (H : St W l w) (n : Int) : cl Try.prog 9 [.int .i64 n] (tTup2 tPtr (tInt .i64)) w fun r w' =>
    ((n < 1 ∨ 64 < n) ∧ r = (none, 90) ∧ St W l w') ∨ ((1 ≤ n ∧ n ≤ 64) ∧ ∃ b, r = (some ⟨b, 0, none⟩, 0) ∧ St W (NetA b (Net.new n) :: l) w') := by
  refine F9_ok ?_
  unfold F9
  split
  · rename_i hc
    exact .inl ⟨by simp at hc; omega, rfl, H⟩
  · rename_i hc
    refine nwMap_st H fun mb w1 H => ?_
    refine nw_st H fun b w2 H => ?_
    refine .inr ⟨by simp at hc; omega, b, rfl, ?_⟩
    have H := (mapE_new T68 .i64 (H.front 1)).front 1
    exact NetA_shut (v := nilS) (N := Net.new n) (fun x => rfl) ((row_nil T35 36 4 H).front 1)
end
end Go.Proofs.Ytpflfnaflacfgaa.PostS
