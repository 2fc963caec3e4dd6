/- The laws PostCuts and PostOwn answer true. -/
import Derived.Test.YtpflfnaflacfgaaPD
import Derived.Test.YtpflfnaflacfgaaOp
namespace Go.Proofs.Ytpflfnaflacfgaa.PostS
open Go Go.Proofs.Ytpflfnaflacfgaa.Cf
set_option linter.unusedVariables false
set_option linter.unusedSimpArgs false
set_option maxRecDepth 100000
section
variable {W w : World} {l : List Assn} {b : Nat} {N : Net}
theorem eqb_refl (x : S35) : S35.eqb x x = true := by simp [S35.eqb]
theorem and3 {n : Int} (h0 : 0 ≤ n) (h1 : n < 256) : 0 ≤ IntKind.i64.wrap (bits .and .u8 n 3) ∧ IntKind.i64.wrap (bits .and .u8 n 3) < 4 := by
  obtain ⟨m, rfl⟩ := Int.eq_ofNat_of_zero_le h0
  have hm : m < 256 := by omega
  have h := (by decide : ∀ m : Fin 256, 0 ≤ IntKind.i64.wrap (bits .and .u8 (m.val : Int) 3) ∧ IntKind.i64.wrap (bits .and .u8 (m.val : Int) 3) < 4) ⟨m, hm⟩
  exact h
theorem has_of {N : Net} {k : Int} (hN : N.nodes = 4) (h0 : 0 ≤ k) (h1 : k < 4) : N.has k = true := by simp [Net.has, hN]; omega
/-- What a sending keeps. -/
theorem Net.send_keeps (N : Net) (f t : Int) (m : List UInt8) : (N.send f t m).1.nodes = N.nodes ∧ (N.send f t m).1.off = N.off ∧ (N.send f t m).1.l.length ≤ N.l.length + 1 ∧ N.l.length ≤ (N.send f t m).1.l.length := by
  unfold Net.send
  split
  · exact ⟨rfl, rfl, Nat.le_succ _, Nat.le_refl _⟩
  · split
    · exact ⟨rfl, rfl, Nat.le_succ _, Nat.le_refl _⟩
    · unfold Net.put
      split <;> simp
/-- The letters that a cut keeps back. -/
def kept (k : Int) (L : List S35) : List S35 := L.filter fun x => x.From == k || x.To == k
theorem cuts_drain (r4 : Option Addr × Int) (hr : r4.1 = some ⟨b, 0, none⟩) (hoff : ∀ y, N.off y = false) (hN : N.l.length ≤ 1000) (H : St W (NetA b N :: l) w) :
    F3_j5 r4 (N.l.length : Int) false w (fun r w' => r = true ∧ St W l w') := by
  unfold F3_j5
  rw [if_neg (by simp)]
  refine lp_i (fun at_ w => ∃ N : Net, (∀ y, N.off y = false) ∧ N.l.length ≤ 1000 ∧ at_ = N.l.length ∧ St W (NetA b N :: l) w) Int.toNat ⟨N, hoff, hN, rfl, H⟩ ?_
  rintro at_ w ⟨N, hoff, hN, rfl, H⟩
  unfold F3_l6
  rw [hr]
  split
  · rename_i hc
    have hc : 0 < N.l.length := by simp at hc; exact hc
    refine cl_mono (take_spec H hN 0) ?_
    rintro r w1 ⟨rfl, H⟩
    have hz : (N.at_ 0).2 = 0 := by rw [N.at_in (Int.le_refl 0) (List.getElem?_eq_getElem hc)]
    rw [N.take_ok hz (by simp [hoff])] at H ⊢
    refine nw_st H fun b1 w2 H => ?_
    refine st_st (x := (N.at_ 0).1) 0 H rfl rfl (Nat.le_of_ble_eq_true rfl) fun w3 H => ?_
    rw [if_neg (by simp)]
    have e : (N.l.eraseIdx (0 : Int).toNat).length = N.l.length - 1 := by
      rw [List.length_eraseIdx]; simp [hc]
    have e1 : IntKind.i64.wrap ((N.l.length : Int) - 1) = (N.l.length : Int) - 1 := wrap_i64 (by omega) (by omega)
    rw [e1]
    refine ⟨⟨{ N with l := N.l.eraseIdx (0 : Int).toNat }, hoff, by simp only [e]; omega, by simp only [e]; omega, H.drop⟩, by omega⟩
  · rename_i hc
    have hc : N.l.length = 0 := by simp at hc; simp [hc]
    refine cl_mono (take_spec H hN 0) ?_
    rintro r w1 ⟨rfl, H⟩
    have hz : N.at_ 0 = (Z35, 92) := N.at_out (.inr (by omega))
    rw [N.take_at (by rw [hz]; simp)] at H ⊢
    refine nw_st H fun b1 w2 H => ?_
    refine st_st (x := (N.at_ 0).1) 0 H rfl rfl (Nat.le_of_ble_eq_true rfl) fun w3 H => ?_
    exact ⟨by simp [hz], H.drop.drop⟩
theorem cuts_law {s : Slc} {ops : List S28} {node : Int} (H : St W (ro T28 s ops :: l) w) (h0 : 0 ≤ node) (h1 : node < 256) :
    cl Try.prog 3 [tSlc.enc s, .int .u8 node] tBool w fun r w' => r = true ∧ St W l w' := by
  have hs := ro_len H
  refine F3_ok ?_
  unfold F3
  refine cl_mono (New_spec H 4) ?_
  rintro r w1 (⟨h, _⟩ | ⟨_, b, rfl, H⟩)
  · omega
  refine cl_mono (awake_spec H) ?_
  rintro r w2 ⟨rfl, H⟩
  rw [if_neg (by simp)]
  obtain ⟨hk0, hk4⟩ := and3 h0 h1
  refine lp_i (fun i w => 0 ≤ i ∧ ∃ N : Net, N.nodes = 4 ∧ (∀ y, N.off y = false) ∧ N.l.length ≤ i ∧ i ≤ 40 ∧ St W (NetA b N :: ro T28 s ops :: l) w) (fun i => (40 - i).toNat) ⟨Int.le_refl 0, Net.new 4, rfl, fun _ => rfl, by simp [Net.new], by omega, H⟩ ?_
  rintro i w ⟨hi0, N, hn, hoff, hl, hi, H⟩
  unfold F3_l1
  split
  · rename_i hc
    have hc : i < ops.length ∧ i < 40 := by simp at hc; omega
    have e1 : IntKind.i64.wrap (i + 1) = i + 1 := wrap_i64 (by omega) (by omega)
    obtain ⟨a, ha⟩ := ro_ix (sz := 5) (i := i) (H.front 1) hi0 hc.1
    have hx : ops[i.toNat]? = some ops[i.toNat] := List.getElem?_eq_getElem (by omega)
    refine ex_i a ha ?_
    refine ex_i ops[i.toNat].Kind (fld_ro (fun _ => rfl) ha hx rfl (H.front 1)) ?_
    split
    · refine dr_st H fun w3 H => ?_
      refine ex_i a ha ?_
      refine ex_i a ha ?_
      refine ex_i ops[i.toNat].A (fld_ro (fun _ => rfl) ha hx rfl (H.front 1)) ?_
      refine ex_i ops[i.toNat].B (fld_ro (fun _ => rfl) ha hx rfl (H.front 1)) ?_
      refine cl_mono (send_spec H (by omega) _ _ [120]) ?_
      rintro r w4 ⟨rfl, H⟩
      obtain ⟨g1, g2, g3, g4⟩ := N.send_keeps ops[i.toNat].A ops[i.toNat].B [120]
      unfold F3_j2
      rw [e1]
      exact ⟨⟨by omega, _, g1.trans hn, fun y => by rw [g2]; exact hoff y, by omega, by omega, H⟩, by omega⟩
    · unfold F3_j2
      rw [e1]
      exact ⟨⟨by omega, N, hn, hoff, by omega, by omega, H⟩, by omega⟩
  · refine cl_mono (cutN_spec H (IntKind.i64.wrap (bits .and .u8 node 3)) true) ?_
    generalize hkk : IntKind.i64.wrap (bits .and .u8 node 3) = k at *
    rintro r w3 ⟨rfl, H⟩
    have hh := has_of hn hk0 hk4
    rw [hh] at H ⊢
    rw [if_neg (by simp)]
    refine cl_mono (letters_spec H (by simp; omega)) ?_
    intro r24 w4 H
    simp only [if_true] at H
    generalize hL : N.l = L at *
    have hr := row_len H
    refine lp_i (fun p w => 0 ≤ p.2 ∧ p.2 ≤ L.length ∧ p.1 = (kept k (L.take p.2.toNat)).length ∧ ∃ N : Net, N.nodes = 4 ∧ (∀ y, N.off y = (y == k)) ∧ N.l = kept k (L.take p.2.toNat) ++ L.drop p.2.toNat ∧
      St W (NetA b N :: row T35 36 4 r24 L :: l) w) (fun p => (L.length - p.2).toNat) ⟨Int.le_refl 0, by simp, by simp [kept], ⟨N.nodes, N.sent, L, fun y => if (y == k) = true then true else N.off y⟩, hn, fun y => ?_, ?_, ((H.front 2).drop.front 1)⟩ ?_
    · simp only; by_cases e : (y == k) = true <;> simp [e, hoff]
    · simp [kept, hL]
    · rintro ⟨at_, i⟩ w ⟨hi0, hi1, hat, N, hn, hoff, hl, H⟩
      simp only at hi0 hi1 hat hl
      have hat1 : at_.toNat = (kept k (L.take i.toNat)).length := by omega
      have hkl : (kept k (L.take i.toNat)).length ≤ i := by
        have := List.length_filter_le (fun x : S35 => x.From == k || x.To == k) (L.take i.toNat)
        rw [List.length_take] at this
        unfold kept; omega
      have hN : N.l.length ≤ 1000 := by rw [hl, List.length_append, List.length_drop]; omega
      simp only
      unfold F3_l3
      simp only [hkk]
      split
      · rename_i hc
        have hc : i < L.length := by simp at hc; omega
        have e1 : IntKind.i64.wrap (i + 1) = i + 1 := wrap_i64 (by omega) (by omega)
        have e2 : IntKind.i64.wrap (at_ + 1) = at_ + 1 := wrap_i64 (by omega) (by omega)
        have hx : L[i.toNat]? = some L[i.toNat] := List.getElem?_eq_getElem (by omega)
        have hd : L.drop i.toNat = L[i.toNat] :: L.drop (i + 1).toNat := by
          rw [List.drop_eq_getElem_cons (by omega)]; congr 2; omega
        have ht : L.take (i + 1).toNat = L.take i.toNat ++ [L[i.toNat]] := by
          rw [show (i + 1).toNat = i.toNat + 1 from by omega, List.take_succ_eq_append_getElem (by omega)]
        have ha1 : N.at_ at_ = (L[i.toNat], 0) := by
          refine N.at_in (by omega) ?_
          rw [hl, hat1, List.getElem?_append_right (Nat.le_refl _), Nat.sub_self, hd]; rfl
        refine cl_mono (take_spec H hN at_) ?_
        rintro r w5 ⟨rfl, H⟩
        refine nw_st H fun b1 w6 H => ?_
        refine st_st (x := (N.take at_).2.1) 0 H rfl rfl (Nat.le_of_ble_eq_true rfl) fun w7 H => ?_
        obtain ⟨a, ha⟩ := row_ix (sz := 4) (i := i) (H.front 2) hi0 hc
        refine ex_i a ha ?_
        refine ex_i L[i.toNat].From (fld_row (fun _ => rfl) ha hx rfl (H.front 2)) ?_
        refine ex_i a (fun _ => ha) ?_
        refine ex_i L[i.toNat].To (fun _ => fld_row (fun _ => rfl) ha hx rfl (H.front 2)) ?_
        split
        · rename_i hk
          have ho : (N.off (N.at_ at_).1.From || N.off (N.at_ at_).1.To) = true := by rw [ha1]; simp only [hoff]; exact hk
          rw [N.take_off (by rw [ha1]) ho] at H ⊢
          rw [if_neg (by simp)]
          unfold F3_j4
          rw [e1, e2]
          have hkk1 : kept k (L.take (i + 1).toNat) = kept k (L.take i.toNat) ++ [L[i.toNat]] := by
            rw [ht]; unfold kept; rw [List.filter_append, List.filter_cons_of_pos (p := fun x : S35 => x.From == k || x.To == k) hk, List.filter_nil]
          refine ⟨⟨by simp only; omega, by simp only; omega, ?_, N, hn, hoff, ?_, H.drop⟩, by simp only; omega⟩
          · simp only; rw [hkk1, List.length_append]; simp only [List.length_singleton]; omega
          · simp only; rw [hkk1, hl, hd]; simp
        · rename_i hk
          have ho : (N.off (N.at_ at_).1.From || N.off (N.at_ at_).1.To) = false := by rw [ha1]; simp only [hoff]; simpa using hk
          rw [N.take_ok (by rw [ha1]) ho] at H ⊢
          refine dr_st H fun w8 H => ?_
          refine ex_i a (fun _ => ha) ?_
          refine ex_i (N.at_ at_).1 (fun _ => rdat_cel T35 H rfl rfl) ?_
          refine ex_i L[i.toNat] (fun _ => rd_row (fun _ => rfl) ha hx (H.front 2)) ?_
          rw [ha1]
          rw [if_neg (by simp [eqb_refl])]
          unfold F3_j4
          rw [e1]
          have hkk1 : kept k (L.take (i + 1).toNat) = kept k (L.take i.toNat) := by
            rw [ht]; unfold kept; rw [List.filter_append, List.filter_cons_of_neg (p := fun x : S35 => x.From == k || x.To == k) hk, List.filter_nil, List.append_nil]
          refine ⟨⟨by simp only; omega, by simp only; omega, ?_, { N with l := N.l.eraseIdx at_.toNat }, hn, hoff, ?_, H.drop⟩, by simp only; omega⟩
          · simp only; rw [hkk1]; omega
          · simp only; rw [hkk1, hl, hd, hat1, List.eraseIdx_append_of_length_le (Nat.le_refl _), Nat.sub_self]; rfl
      · rename_i hc
        have hc : i = L.length := by simp at hc; omega
        subst hc
        have hl : N.l = kept k L := by rw [hl]; simp
        have hat : at_ = (N.l.length : Int) := by rw [hat, hl]; simp
        refine cl_mono (cutN_spec H k false) ?_
        rintro r w5 ⟨rfl, H⟩
        have hh := has_of hn hk0 hk4
        rw [hh] at H ⊢
        rw [if_neg (by simp)]
        refine cl_mono (letters_spec H (by simpa using hN)) ?_
        intro r69 w6 H
        have hr := row_len H
        simp only [if_true] at H hr
        have e : ((r69.len : Int) != at_) = false := by simp [hr, hat]
        rw [e, hat]
        refine cuts_drain (N := { N with off := fun y => if y == k then false else N.off y }) (b := b) _ rfl (fun y => ?_) hN (((H.drop).front 1).drop)
        simp only; by_cases e : (y == k) = true <;> simp [e, hoff]
end
end Go.Proofs.Ytpflfnaflacfgaa.PostS
namespace Go.Proofs.Ytpflfnaflacfgaa
open Go Go.Proofs.Ytpflfnaflacfgaa.Cf
theorem walkPostCuts (W : World) (s : Slc) (node : Int) (g0 : G22 W s) (g1 : G5 W node) : cl Try.prog 3 [tSlc.enc s, .int .u8 node] tBool W fun r w' => r = true ∧ RowKit.Below W.heap.size W w' := by
  obtain ⟨_, ops, _, hro⟩ := g0
  obtain ⟨g1, g2⟩ := g1
  refine cl_mono (PostS.cuts_law (ro_old hro (St.start W)) g1 (Int.lt_of_le_of_lt g2 (by decide))) fun r w' ⟨h, H⟩ => ⟨h, H.below⟩
end Go.Proofs.Ytpflfnaflacfgaa
