/- The law PostPurges answers true. -/
import Derived.Test.YtpflfnaflacfgaaPG
import Derived.Test.YtpflfnaflacfgaaPF
namespace Go.Proofs.Ytpflfnaflacfgaa.PostS
open Go Go.Proofs.Ytpflfnaflacfgaa.Cf
set_option linter.unusedVariables false
set_option linter.unusedSimpArgs false
set_option maxRecDepth 100000
section
variable {W w : World} {l : List Assn} {b : Nat} {N : Net}
theorem Net.put_keeps (N : Net) (x : S35) : (N.put x).1.nodes = N.nodes ∧ (N.put x).1.off = N.off ∧ (N.put x).1.l.length ≤ N.l.length + 1 := by
  unfold Net.put
  split <;> simp
theorem purges_law {s : Slc} {ops : List S28} {node : Int} (H : St W (ro T28 s ops :: l) w) (h0 : 0 ≤ node) (h1 : node < 256) :
    cl Try.prog 6 [tSlc.enc s, .int .u8 node] tBool w fun r w' => r = true ∧ St W l w' := by
  have hs := ro_len H
  refine F6_ok ?_
  unfold F6
  refine cl_mono (New_spec H 4) ?_
  rintro r w1 (⟨h, _⟩ | ⟨_, b, rfl, H⟩)
  · omega
  refine cl_mono (awake_spec H) ?_
  rintro r w2 ⟨rfl, H⟩
  rw [if_neg (by simp)]
  obtain ⟨hk0, hk4⟩ := and3 h0 h1
  refine lp_i (fun i w => 0 ≤ i ∧ ∃ N : Net, N.nodes = 4 ∧ N.l.length ≤ i ∧ i ≤ 40 ∧ St W (NetA b N :: ro T28 s ops :: l) w) (fun i => (40 - i).toNat) ⟨Int.le_refl 0, Net.new 4, rfl, by simp [Net.new], by omega, H⟩ ?_
  rintro i w ⟨hi0, N, hn, hl, hi, H⟩
  unfold F6_l1
  split
  · rename_i hc
    have hc : i < ops.length ∧ i < 40 := by simp at hc; omega
    have e1 : IntKind.i64.wrap (i + 1) = i + 1 := wrap_i64 (by omega) (by omega)
    obtain ⟨a, ha⟩ := ro_ix (sz := 5) (i := i) (H.front 1) hi0 hc.1
    have hx : ops[i.toNat]? = some ops[i.toNat] := List.getElem?_eq_getElem (by omega)
    refine ex_i a ha ?_
    refine ex_i ops[i.toNat] (rd_ro (fun _ => rfl) ha hx (H.front 1)) ?_
    refine cl_mono (few_spec H _) ?_
    rintro r w3 ⟨rfl, H⟩
    generalize few ops[i.toNat] = o
    refine nw_st H fun b1 w4 H => ?_
    refine st_st (x := o) 0 H rfl rfl (Nat.le_of_ble_eq_true rfl) fun w5 H => ?_
    refine ld_st (x := o.Kind) 0 H rfl rfl rfl ?_
    unfold F6_j2
    rw [e1]
    split
    · refine ld_st (x := o.A) 0 H rfl rfl rfl ?_
      refine ld_st (x := o.B) 0 H rfl rfl rfl ?_
      refine ld_st (x := o.M) 0 H rfl rfl rfl ?_
      refine cl_mono (send_spec (H.front 1) (by omega) _ _ o.M) ?_
      rintro r w6 ⟨rfl, H⟩
      obtain ⟨g1, g2, g3, g4⟩ := N.send_keeps o.A o.B o.M
      exact ⟨⟨by omega, _, g1.trans hn, by omega, by omega, (H.front 1).drop⟩, by omega⟩
    · refine ld_st (x := o.Kind) 0 H rfl rfl rfl ?_
      split
      · refine ld_st (x := o.A) 0 H rfl rfl rfl ?_
        refine cl_mono (copy_spec (H.front 1) (by omega) _) ?_
        rintro r w6 ⟨_, H⟩
        obtain ⟨g1, g2, g3⟩ := N.put_keeps (N.at_ o.A).1
        refine ⟨⟨by omega, _, ?_, ?_, by omega, (H.front 1).drop⟩, by omega⟩
        · split
          · exact hn
          · exact g1.trans hn
        · split <;> omega
      · exact ⟨⟨by omega, N, hn, by omega, by omega, H.drop⟩, by omega⟩
  · refine cl_mono (letters_spec H (by omega)) ?_
    intro r31 w3 H
    refine cl_mono (purge_spec (H.front 1) (by omega) (IntKind.i64.wrap (bits .and .u8 node 3))) ?_
    generalize hkk : IntKind.i64.wrap (bits .and .u8 node 3) = k at *
    rintro r w4 ⟨rfl, H⟩
    have hh := has_of hn hk0 hk4
    rw [hh] at H ⊢
    rw [if_neg (by simp)]
    simp only [if_true] at H
    refine cl_mono (letters_spec H (Nat.le_trans (List.length_filter_le _ _) (by omega))) ?_
    intro r35 w5 H
    simp only at H
    generalize hL : N.l = L at *
    have h31 := row_len (H.front 2)
    have h35 := row_len H
    have hfl : ∀ i : Nat, ((L.take i).filter fun y => !(y.To == k)).length ≤ (L.filter fun y => !(y.To == k)).length := fun i => ((List.take_sublist i L).filter _).length_le
    have hfl2 := List.length_filter_le (fun y : S35 => !(y.To == k)) L
    refine lp_i (fun p w => 0 ≤ p.2 ∧ p.2 ≤ L.length ∧ p.1 = ((L.take p.2.toNat).filter fun y => !(y.To == k)).length ∧ St W (row T35 36 4 r31 L :: row T35 36 4 r35 (L.filter fun y => !(y.To == k)) :: l) w) (fun p => (L.length - p.2).toNat)
      ⟨Int.le_refl 0, by omega, by simp, ((H.ord [2, 0, 1, 3]).front 2).drop.front 2 |>.drop⟩ ?_
    rintro ⟨at_, i⟩ w ⟨hi0, hi1, hat, H⟩
    simp only at hi0 hi1 hat
    simp only
    unfold F6_l3
    simp only [hkk]
    split
    · rename_i hc
      have hc : i < L.length := by simp at hc; omega
      have hfi := hfl i.toNat
      have e1 : IntKind.i64.wrap (i + 1) = i + 1 := wrap_i64 (by omega) (by omega)
      have e2 : IntKind.i64.wrap (at_ + 1) = at_ + 1 := wrap_i64 (by omega) (by omega)
      have hx : L[i.toNat]? = some L[i.toNat] := List.getElem?_eq_getElem (by omega)
      have hd : L = L.take i.toNat ++ L[i.toNat] :: L.drop (i.toNat + 1) := by
        rw [← List.drop_eq_getElem_cons (by omega), List.take_append_drop]
      have ht : L.take (i + 1).toNat = L.take i.toNat ++ [L[i.toNat]] := by
        rw [show (i + 1).toNat = i.toNat + 1 from by omega, List.take_succ_eq_append_getElem (by omega)]
      obtain ⟨a, ha⟩ := row_ix (sz := 4) (i := i) H hi0 hc
      refine ex_i a ha ?_
      refine ex_i L[i.toNat].To (fld_row (fun _ => rfl) ha hx rfl H) ?_
      unfold F6_j4
      rw [e1]
      split
      · rename_i hk
        refine ⟨⟨by simp only; omega, by simp only; omega, ?_, H⟩, by simp only; omega⟩
        simp only
        rw [hat, ht, List.filter_append, List.filter_cons_of_neg (by simp only [hk]; decide)]; simp
      · rename_i hk
        have hq : (L.filter fun y => !(y.To == k))[at_.toNat]? = some L[i.toNat] := by
          have : (L.filter fun y => !(y.To == k)) = (L.take i.toNat ++ L[i.toNat] :: L.drop (i.toNat + 1)).filter fun y => !(y.To == k) := by rw [← hd]
          rw [this, List.filter_append, show at_.toNat = ((L.take i.toNat).filter fun y => !(y.To == k)).length from by omega, List.getElem?_append_right (Nat.le_refl _), Nat.sub_self, List.filter_cons_of_pos (by simpa using hk)]; rfl
        have hlt := (List.getElem?_eq_some_iff.1 hq).1
        obtain ⟨a', ha'⟩ := row_ix (sz := 4) (i := at_) (H.front 1) (by omega) (by omega)
        refine dr_st H fun w6 H => ?_
        refine ex_i a' (fun _ => ha') ?_
        refine ex_i a (fun _ => ha) ?_
        refine ex_i L[i.toNat] (fun _ => rd_row (fun _ => rfl) ha' hq (H.front 1)) ?_
        refine ex_i L[i.toNat] (fun _ => rd_row (fun _ => rfl) ha hx H) ?_
        rw [if_neg (by simp [eqb_refl]; omega), e2]
        refine ⟨⟨by simp only; omega, by simp only; omega, ?_, H⟩, by simp only; omega⟩
        simp only
        rw [hat, ht, List.filter_append, List.filter_cons_of_pos (by simpa using hk)]; simp
    · rename_i hc
      have hc : i = L.length := by simp at hc; omega
      subst hc
      refine ⟨?_, H.drop.drop⟩
      simp at hat
      simp [hat, h35]
end
end Go.Proofs.Ytpflfnaflacfgaa.PostS
namespace Go.Proofs.Ytpflfnaflacfgaa
open Go Go.Proofs.Ytpflfnaflacfgaa.Cf
theorem walkPostPurges (W : World) (s : Slc) (node : Int) (g0 : G22 W s) (g1 : G5 W node) : cl Try.prog 6 [tSlc.enc s, .int .u8 node] tBool W fun r w' => r = true ∧ RowKit.Below W.heap.size W w' := by
  obtain ⟨_, ops, _, hro⟩ := g0
  obtain ⟨g1, g2⟩ := g1
  refine cl_mono (PostS.purges_law (ro_old hro (St.start W)) g1 (Int.lt_of_le_of_lt g2 (by decide))) fun r w' ⟨h, H⟩ => ⟨h, H.below⟩
end Go.Proofs.Ytpflfnaflacfgaa
