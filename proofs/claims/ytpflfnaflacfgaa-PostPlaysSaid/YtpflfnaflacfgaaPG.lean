/- The law PostOwn answers true. -/
import Derived.Test.YtpflfnaflacfgaaPE
namespace Go.Proofs.Ytpflfnaflacfgaa.PostS
open Go Go.Proofs.Ytpflfnaflacfgaa.Cf
set_option linter.unusedVariables false
set_option linter.unusedSimpArgs false
set_option maxRecDepth 100000
section
variable {W w : World} {l : List Assn} {b : Nat} {N : Net}
theorem own_same {r27 r38 : Slc} {L : List S35} (hL : L.length ≤ 1000) (H : St W (row T35 36 4 r38 L :: row T35 36 4 r27 L :: l) w) :
    lp (fun (s : Int) w K => F4_l4 r27 r38 s w K fun r w' => r = true ∧ St W l w') ((0 : Int)) w := by
  have h38 := row_len H
  have h27 := row_len (H.front 1)
  refine lp_i (fun i w => 0 ≤ i ∧ i ≤ L.length ∧ St W (row T35 36 4 r38 L :: row T35 36 4 r27 L :: l) w) (fun i => (L.length - i).toNat) ⟨Int.le_refl 0, by omega, H⟩ ?_
  rintro i w ⟨h0, h1, H⟩
  unfold F4_l4
  split
  · rename_i hc
    have hc : i < L.length := by simp at hc; omega
    have e1 : IntKind.i64.wrap (i + 1) = i + 1 := wrap_i64 (by omega) (by omega)
    have hx : L[i.toNat]? = some L[i.toNat] := List.getElem?_eq_getElem (by omega)
    obtain ⟨a, ha⟩ := row_ix (sz := 4) (i := i) H h0 hc
    obtain ⟨a', ha'⟩ := row_ix (sz := 4) (i := i) (H.front 1) h0 hc
    refine dr_st H fun w1 H => ?_
    refine ex_i a ha ?_
    refine ex_i a' ha' ?_
    refine ex_i L[i.toNat] (rd_row (fun _ => rfl) ha hx H) ?_
    refine ex_i L[i.toNat] (rd_row (fun _ => rfl) ha' hx (H.front 1)) ?_
    rw [if_neg (by simp [eqb_refl]), e1]
    exact ⟨⟨by omega, by omega, H⟩, by omega⟩
  · exact ⟨rfl, H.drop.drop⟩
theorem own_law {s : Slc} {ops : List S28} (H : St W (ro T28 s ops :: l) w) :
    cl Try.prog 4 [tSlc.enc s] tBool w fun r w' => r = true ∧ St W l w' := by
  have hs := ro_len H
  refine F4_ok ?_
  unfold F4
  refine cl_mono (New_spec H 3) ?_
  rintro r w1 (⟨h, _⟩ | ⟨_, b, rfl, H⟩)
  · omega
  refine cl_mono (awake_spec H) ?_
  rintro r w2 ⟨rfl, H⟩
  rw [if_neg (by simp)]
  refine lp_i (fun i w => 0 ≤ i ∧ ∃ N : Net, N.l.length ≤ i ∧ i ≤ 30 ∧ St W (NetA b N :: ro T28 s ops :: l) w) (fun i => (30 - i).toNat) ⟨Int.le_refl 0, Net.new 3, by simp [Net.new], by omega, H⟩ ?_
  rintro i w ⟨hi0, N, hl, hi, H⟩
  unfold F4_l1
  split
  · rename_i hc
    have hc : i < ops.length ∧ i < 30 := by simp at hc; omega
    have e1 : IntKind.i64.wrap (i + 1) = i + 1 := wrap_i64 (by omega) (by omega)
    obtain ⟨a, ha⟩ := ro_ix (sz := 5) (i := i) (H.front 1) hi0 hc.1
    have hx : ops[i.toNat]? = some ops[i.toNat] := List.getElem?_eq_getElem (by omega)
    refine ex_i a ha ?_
    refine ex_i ops[i.toNat] (rd_ro (fun _ => rfl) ha hx (H.front 1)) ?_
    refine cl_mono (few_spec H _) ?_
    rintro r w3 ⟨rfl, H⟩
    generalize few ops[i.toNat] = o
    refine nw_st H fun b1 w4 H => ?_
    refine st_st (x := o) 0 H rfl rfl (Nat.le_of_ble_eq_true rfl) fun w5 H => ?_
    refine ld_st (x := o.Kind) 0 H rfl rfl rfl ?_
    unfold F4_j2
    rw [e1]
    split
    · refine ld_st (x := o.A) 0 H rfl rfl rfl ?_
      refine ld_st (x := o.B) 0 H rfl rfl rfl ?_
      refine ld_st (x := o.M) 0 H rfl rfl rfl ?_
      refine cl_mono (send_spec (H.front 1) (by omega) _ _ o.M) ?_
      rintro r w6 ⟨rfl, H⟩
      obtain ⟨g1, g2, g3, g4⟩ := N.send_keeps o.A o.B o.M
      exact ⟨⟨by omega, _, by omega, by omega, (H.front 1).drop⟩, by omega⟩
    · exact ⟨⟨by omega, N, by omega, by omega, H.drop⟩, by omega⟩
  · refine cl_mono (letters_spec H (by omega)) ?_
    intro r25 w3 H
    refine cl_mono (letters_spec (H.front 1) (by omega)) ?_
    intro r27 w4 H
    have h27 := row_len H
    have h25 := row_len (H.front 2)
    refine lp_i (fun i w => 0 ≤ i ∧ i ≤ N.l.length ∧ ∃ xs : List S35, xs.length = N.l.length ∧ St W (row T35 36 4 r25 xs :: row T35 36 4 r27 N.l :: NetA b N :: ro T28 s ops :: l) w) (fun i => (N.l.length - i).toNat)
      ⟨Int.le_refl 0, by omega, N.l, rfl, H.front 2⟩ ?_
    rintro i w ⟨hi0, hi1, xs, hxl, H⟩
    unfold F4_l3
    split
    · rename_i hc
      have hc : i < xs.length := by simp at hc; omega
      have e1 : IntKind.i64.wrap (i + 1) = i + 1 := wrap_i64 (by omega) (by omega)
      obtain ⟨a, ha⟩ := row_ix (sz := 4) (i := i) H hi0 hc
      refine ex_i a ha ?_
      refine st_row (fun _ => rfl) ha H fun w5 H => ?_
      rw [e1]
      exact ⟨⟨by omega, by omega, _, by rw [List.length_set]; exact hxl, H⟩, by omega⟩
    · refine apl_row (xs := xs) (fun _ => rfl) 0 H rfl (by simp; omega) fun r w5 H => ?_
      have hr := row_len H
      simp only [List.length_append, List.length_singleton] at hr
      refine cl_mono (letters_spec (H.front 2) (by omega)) ?_
      intro r38 w6 H
      have h38 := row_len H
      have e1 : IntKind.i64.wrap ((r27.len : Int) + 1) = r27.len + 1 := wrap_i64 (by omega) (by omega)
      rw [e1]
      have c1 : (r38.len : Int) = r27.len := by omega
      have c2 : (r.len : Int) = r27.len + 1 := by omega
      rw [if_neg (by simp [c1, c2])]
      refine own_same (L := N.l) (by omega) ?_
      exact ((((H.ord [1, 2, 4]).drop).drop).drop)
end
end Go.Proofs.Ytpflfnaflacfgaa.PostS
namespace Go.Proofs.Ytpflfnaflacfgaa
open Go Go.Proofs.Ytpflfnaflacfgaa.Cf
theorem walkPostOwn (W : World) (s : Slc) (g0 : G22 W s) : cl Try.prog 4 [tSlc.enc s] tBool W fun r w' => r = true ∧ RowKit.Below W.heap.size W w' := by
  obtain ⟨_, ops, _, hro⟩ := g0
  refine cl_mono (PostS.own_law (ro_old hro (St.start W))) fun r w' ⟨h, H⟩ => ⟨h, H.below⟩
end Go.Proofs.Ytpflfnaflacfgaa
