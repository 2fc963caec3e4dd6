/- Contracts of package audit: one entry taken. -/
import Derived.Test.YtleehieomicicaaQC
namespace Go.Proofs.Ytleehieomicicaa.Audit
open Go Go.Proofs.Ytleehieomicicaa.Cf
set_option linter.unusedVariables false
set_option linter.unusedSimpArgs false
set_option maxRecDepth 100000
section
variable {W w : World} {l : List Assn}
def most (k : Int) : Int := if k < 4096 then 1000000000000000 else 4611686018427387904
theorem most_spec (H : St W l w) (k : Int) : cl Try.prog 33 [.int .i64 k] (tInt .i64) w fun r w' => r = most k ∧ St W l w' := by
  refine F33_ok ?_
  unfold F33 most
  split
  · rename_i h; rw [if_pos (by simpa using h)]; exact ⟨rfl, H⟩
  · rename_i h; rw [if_neg (by simpa using h)]; exact ⟨rfl, H⟩
/-- Why an entry is not taken. -/
def why (es : List (Int × Int)) (sum : Int) (x : S36) : Int :=
  if x.Key < 0 ∨ x.Key ≥ 8192 then 181 else if (es.lookup x.Key).isSome = true then 182 else if x.V < 0 ∨ x.V > most x.Key then 183 else if x.V > 4611686018427387904 - sum then 184 else 0
def ledger (bm bs r : Nat) (es : List (Int × Int)) (sum : Int) : List Assn := [cel bm [.map (some r)] 43, cel bs [.int .i64 sum] 2, mapE (tInt .i64) .i64 r es]
theorem most_le (k : Int) : most k ≤ 4611686018427387904 := by unfold most; split <;> omega
theorem take_spec {bm bs r : Nat} {es : List (Int × Int)} {sum : Int} (h0 : 0 ≤ sum) (h1 : sum ≤ 4611686018427387904) (x : S36) (H : St W (ledger bm bs r es sum ++ l) w) :
    cl Try.prog 32 [T36.enc x, .pointer (some ⟨bm, 0, none⟩), .pointer (some ⟨bs, 0, none⟩)] (tInt .i64) w fun e w' => e = why es sum x ∧
      St W (ledger bm bs r (if why es sum x = 0 then ups x.Key x.V es else es) (if why es sum x = 0 then sum + x.V else sum) ++ l) w' := by
  have H : St W (cel bm [.map (some r)] 43 :: cel bs [.int .i64 sum] 2 :: mapE (tInt .i64) .i64 r es :: l) w := H
  refine F32_ok ?_
  unfold F32
  refine nw_st H fun b w1 H => ?_
  refine ld_st (x := some r) 1 H rfl rfl rfl ?_
  refine ld_st (x := x.Key) 0 H rfl rfl rfl ?_
  refine mget_st 3 H rfl rfl ?_
  refine ld_st (x := x.Key) 0 H rfl rfl rfl ?_
  refine ex_i x.Key (fun _ => rdat_cel (tInt .i64) H rfl rfl) ?_
  by_cases c1 : x.Key < 0 ∨ x.Key ≥ 8192
  · have e : why es sum x = 181 := by unfold why; rw [if_pos c1]
    rw [if_pos (by simpa using c1), e]
    exact ⟨rfl, H.drop⟩
  rw [if_neg (by simpa using c1)]
  by_cases c2 : (es.lookup x.Key).isSome = true
  · have e : why es sum x = 182 := by unfold why; rw [if_neg c1, if_pos c2]
    rw [if_pos c2, e]
    exact ⟨rfl, H.drop⟩
  rw [if_neg c2]
  refine dr_st H fun w2 H => ?_
  refine ld_st (x := x.V) 0 H rfl rfl rfl ?_
  have tail : ∀ (q : Bool) (w2 : World), q = (decide (x.V < 0) || decide (x.V > most x.Key)) → St W (cel b (T36.cells x) 37 :: cel bm [.map (some r)] 43 :: cel bs [.int .i64 sum] 2 :: mapE (tInt .i64) .i64 r es :: l) w2 →
      F32_j1 ⟨bm, 0, none⟩ ⟨bs, 0, none⟩ ⟨b, 0, none⟩ q w2 fun e w' => e = why es sum x ∧
        St W (ledger bm bs r (if why es sum x = 0 then ups x.Key x.V es else es) (if why es sum x = 0 then sum + x.V else sum) ++ l) w' := by
    intro q w2 hq H
    unfold F32_j1
    by_cases c3 : x.V < 0 ∨ x.V > most x.Key
    · have e : why es sum x = 183 := by unfold why; rw [if_neg c1, if_neg c2, if_pos c3]
      rw [if_pos (by rw [hq]; simpa using c3), e]
      exact ⟨rfl, H.drop⟩
    rw [if_neg (by rw [hq]; simpa using c3)]
    refine ld_st (x := x.V) 0 H rfl rfl rfl ?_
    refine ld_st (x := sum) 2 H rfl rfl rfl ?_
    have ew : IntKind.i64.wrap (4611686018427387904 - sum) = 4611686018427387904 - sum := wrap_i64 (by omega) (by omega)
    rw [ew]
    by_cases c4 : x.V > 4611686018427387904 - sum
    · have e : why es sum x = 184 := by unfold why; rw [if_neg c1, if_neg c2, if_neg c3, if_pos c4]
      rw [if_pos (by simpa using c4), e]
      exact ⟨rfl, H.drop⟩
    have e : why es sum x = 0 := by unfold why; rw [if_neg c1, if_neg c2, if_neg c3, if_neg c4]
    rw [if_neg (by simpa using c4), e]
    refine dr_st H fun w3 H => ?_
    refine ld_st (x := some r) 1 H rfl rfl rfl ?_
    refine ld_st (x := x.Key) 0 H rfl rfl rfl ?_
    refine ld_st (x := x.V) 0 H rfl rfl rfl ?_
    refine ld_st (x := sum) 2 H rfl rfl rfl ?_
    refine ld_st (x := x.V) 0 H rfl rfl rfl ?_
    refine mput_st 3 H rfl rfl fun w4 H => ?_
    refine ⟨rdat_cel (tInt .i64) (H.front 3) rfl rfl, ?_⟩
    refine ⟨rdat_cel (tInt .i64) (H.front 1) rfl rfl, ?_⟩
    have ew2 : IntKind.i64.wrap (sum + x.V) = sum + x.V := wrap_i64 (by omega) (by omega)
    rw [ew2]
    refine st_st (x := sum + x.V) 3 H rfl rfl (Nat.le_of_ble_eq_true rfl) fun w5 H => ?_
    exact ⟨rfl, (H.ord [2, 3, 0, 1]).drop⟩
  split
  · rename_i c3
    exact tail true _ (by simp at c3; simp [c3]) H
  · rename_i c3
    refine ld_st (x := x.V) 0 H rfl rfl rfl ?_
    refine ld_st (x := x.Key) 0 H rfl rfl rfl ?_
    refine cl_mono (most_spec H _) ?_
    rintro q w3 ⟨rfl, H⟩
    refine ⟨rdat_cel (tInt .i64) H rfl rfl, ?_⟩
    refine ⟨rdat_cel (tInt .i64) H rfl rfl, ?_⟩
    exact tail _ _ (by rw [show decide (x.V < 0) = false from by simpa using c3]; rfl) H
end
end Go.Proofs.Ytleehieomicicaa.Audit
