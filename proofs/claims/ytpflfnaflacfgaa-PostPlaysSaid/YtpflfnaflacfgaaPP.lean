/- The law PostPlays answers true. -/
import Derived.Test.YtpflfnaflacfgaaPO
namespace Go.Proofs.Ytpflfnaflacfgaa.PostS
open Go Go.Proofs.Ytpflfnaflacfgaa.Cf
set_option linter.unusedVariables false
set_option linter.unusedSimpArgs false
set_option maxRecDepth 100000
section
variable {W w : World} {l l' : List Assn} {b : Nat} {N : Net} {m : S48} {t : TypeId}
/-- What a call on both owes. -/
def Did (W : World) (l : List Assn) (b : Nat) (N : Net) (r : S48 × Bool) (w' : World) : Prop :=
  r.2 = true ∧ ∃ N' : Net, Rel N' r.1 ∧ Sound N' ∧ N'.l.length ≤ N.l.length + 1 ∧ St W (NetA b N' :: ro T35 r.1.L N'.l :: l) w'
theorem does_j1 {b4 b8 : Nat} {m z : S48} {e f : Int} {R : (S48 × Bool) → World → Prop} (hef : e = f) (H : St W (cel b8 (T48.cells z) 49 :: cel b4 (T48.cells m) 49 :: l) w) (h : ∀ w', St W l w' → R (m, true) w') : F20_j1 ⟨b4, 0, none⟩ ⟨b8, 0, none⟩ e f w R := by
  subst hef
  unfold F20_j1
  refine vld_st 1 H rfl ?_
  refine vst_st (y := m) len48 0 H rfl fun w1 H => ?_
  refine vld_st 0 H rfl ?_
  rw [beq_self_eq_true]
  exact h _ H.drop.drop
theorem Sound.sub {L : List S35} (hN : Sound N) (h : ∀ x ∈ L, x ∈ N.l) (o : Int → Bool) (s : Int) : Sound { N with l := L, off := o, sent := s } := ⟨hN.n64, fun x hx => hN.all x (h x hx)⟩
theorem does_spec (hR : Rel N m) (hN : Sound N) (hl : N.l.length < 1000) (o : S28) (H : St W (NetA b N :: ro T35 m.L N.l :: l) w) :
    cl Try.prog 20 [.pointer (some ⟨b, 0, none⟩), T48.enc m, T28.enc o] (tTup2 T48 tBool) w (Did W l b N) := by
  refine F20_ok ?_
  unfold F20
  refine nw_st H fun b4 w1 H => ?_
  refine nw_st H fun b6 w2 H => ?_
  refine nw_st H fun b8 w3 H => ?_
  have H : St W (NetA b N :: ro T35 m.L N.l :: cel b8 (T48.cells Z48) 49 :: cel b6 (T28.cells o) 29 :: cel b4 (T48.cells m) 49 :: l) w3 := (H.ord [3, 4])
  refine ld_st (x := o.Kind) 3 H rfl rfl rfl ?_
  have hlen : ∀ L : List S35, L.length ≤ N.l.length → L.length ≤ N.l.length + 1 := fun L h => by omega
  split
  · refine ld_st (x := o.A) 3 H rfl rfl rfl ?_
    refine ld_st (x := o.B) 3 H rfl rfl rfl ?_
    refine ld_st (x := o.M) 3 H rfl rfl rfl ?_
    refine cl_mono (send_spec H (by omega) o.A o.B o.M) ?_
    rintro r w4 ⟨rfl, H⟩
    refine vld_st 4 H rfl ?_
    refine ld_st (x := o.A) 3 H rfl rfl rfl ?_
    refine ld_st (x := o.B) 3 H rfl rfl rfl ?_
    refine ld_st (x := o.M) 3 H rfl rfl rfl ?_
    refine cl_mono (send_ref hR hl (H.front 1) o.A o.B o.M) ?_
    rintro r w5 ⟨h2, hR', H⟩
    refine nw_st H fun b28 w6 H => ?_
    refine vst_st (y := r.1) len48 0 H rfl fun w7 H => ?_
    refine vld_st 0 H rfl ?_
    refine vst_st (y := r.1) len48 5 H rfl fun w8 H => ?_
    rw [h2, if_neg (by simp)]
    refine does_j1 rfl ((H.ord [4, 0])) fun w9 H => ?_
    refine ⟨rfl, _, hR', ?_, ?_, (((H.drop).front 1).front 2).drop⟩
    · cases hh : (!N.has o.A || !N.has o.B) with
      | true => rw [N.send_no hh]; exact hN
      | false =>
        rw [N.send_yes hh hl]
        refine ⟨hN.n64, fun x hx => ?_⟩
        rcases List.mem_append.1 hx with hx | hx
        · exact hN.all x hx
        · rw [List.mem_singleton.1 hx]
          simp at hh
          exact hh
    · exact (N.send_keeps _ _ _).2.2.1
  · split
    · refine ld_st (x := o.A) 3 H rfl rfl rfl ?_
      refine cl_mono (take_spec H (by omega) o.A) ?_
      rintro r w4 ⟨rfl, H⟩
      refine nw_st H fun b40 w5 H => ?_
      refine st_st (x := (N.take o.A).2.1) 0 H rfl rfl (Nat.le_of_ble_eq_true rfl) fun w6 H => ?_
      have H : St W (cel b40 (T35.cells (N.take o.A).2.1) 36 :: NetA b (N.take o.A).1 :: ro T35 m.L N.l :: cel b8 (T48.cells Z48) 49 :: cel b6 (T28.cells o) 29 :: cel b4 (T48.cells m) 49 :: l) w6 := H
      refine vld_st 5 H rfl ?_
      refine ld_st (x := o.A) 4 H rfl rfl rfl ?_
      refine cl_mono (take_ref hR hN hl (H.front 2) o.A) ?_
      rintro r w7 ⟨h2, hR', H⟩
      refine nw_st H fun b47 w8 H => ?_
      refine nw_st H fun b49 w9 H => ?_
      refine vst_st (y := r.1) len48 1 H rfl fun w10 H => ?_
      refine st_st (x := r.2.1) 1 H rfl rfl (Nat.le_of_ble_eq_true rfl) fun w11 H => ?_
      have H : St W (cel b49 (T35.cells r.2.1) 75 :: cel b47 (T48.cells r.1) 49 :: ro T35 r.1.L (N.take o.A).1.l :: cel b40 (T35.cells (N.take o.A).2.1) 36 :: NetA b (N.take o.A).1 :: cel b8 (T48.cells Z48) 49 :: cel b6 (T28.cells o) 29 :: cel b4 (T48.cells m) 49 :: l) w11 := H
      refine vld_st 1 H rfl ?_
      refine vst_st (y := r.1) len48 7 H rfl fun w12 H => ?_
      have H : St W (cel b4 (T48.cells r.1) 49 :: cel b49 (T35.cells r.2.1) 75 :: cel b47 (T48.cells r.1) 49 :: ro T35 r.1.L (N.take o.A).1.l :: cel b40 (T35.cells (N.take o.A).2.1) 36 :: NetA b (N.take o.A).1 :: cel b8 (T48.cells Z48) 49 :: cel b6 (T28.cells o) 29 :: l) w12 := H
      refine ld_st (x := (N.take o.A).2.1) 4 H rfl rfl rfl ?_
      refine nwS_st H fun b56 w13 H => ?_
      have H := row_stay (row_new (T := T35) (t := 36) (sz := 4) (xs := [(N.take o.A).2.1]) (m := 1) rfl H)
      refine ld_st (x := r.2.1) 2 H rfl rfl rfl ?_
      refine nwS_st H fun b59 w14 H => ?_
      have H := row_stay (row_new (T := T35) (t := 75) (sz := 4) (xs := [r.2.1]) (m := 1) rfl H)
      have e21 : r.2.1 = (N.take o.A).2.1 := by rw [h2]
      rw [e21] at H
      refine cl_mono (told_spec (by simp) ((H.front 1))) ?_
      rintro r62 w15 ⟨rfl, H⟩
      rw [if_neg (by decide)]
      refine does_j1 (by rw [h2]) ((H.ord [6, 0])) fun w16 H => ?_
      refine ⟨rfl, _, hR', ?_, ?_, ((H.ord [0, 1, 3, 5]).drop.drop.drop.drop).front 1⟩
      · rcases N.take_cases o.A with ⟨x, e, he, h⟩ | ⟨x, h0, hx, h⟩
        · rw [h]; exact hN
        · rw [h]; exact hN.sub (fun x hx => (List.eraseIdx_sublist _ _).subset hx) N.off N.sent
      · rcases N.take_cases o.A with ⟨x, e, he, h⟩ | ⟨x, h0, hx, h⟩
        · rw [h]; exact Nat.le_succ _
        · rw [h]; exact hlen _ (List.length_eraseIdx_le _ _)
    · split
      · refine ld_st (x := o.A) 3 H rfl rfl rfl ?_
        refine cl_mono (copy_spec H (by omega) o.A) ?_
        rintro r w4 ⟨rfl, H⟩
        refine vld_st 4 H rfl ?_
        refine ld_st (x := o.A) 3 H rfl rfl rfl ?_
        refine cl_mono (copy_ref hR hl (H.front 1) o.A) ?_
        rintro r w5 ⟨h2, hR', H⟩
        refine vst_st (y := r.1) len48 4 H rfl fun w6 H => ?_
        refine does_j1 h2.symm (H.ord [3, 0]) fun w7 H => ?_
        refine ⟨rfl, _, hR', ?_, ?_, ((H.front 1).front 2).drop⟩
        · rcases N.at_cases o.A with h | ⟨x, h0, hx, h⟩
          · rw [h, if_pos (by decide)]; exact hN
          · rw [h, if_neg (by simp), N.put_yes x hl]
            exact hN.sub (fun y hy => by
              rcases List.mem_append.1 hy with hy | hy
              · exact hy
              · rw [List.mem_singleton.1 hy]; exact List.mem_of_getElem? hx) N.off N.sent
        · split
          · exact Nat.le_succ _
          · exact (N.put_keeps _).2.2
      · split
        · refine ld_st (x := o.A) 3 H rfl rfl rfl ?_
          refine cl_mono (lose_spec H (by omega) o.A) ?_
          rintro r w4 ⟨rfl, H⟩
          refine vld_st 4 H rfl ?_
          refine ld_st (x := o.A) 3 H rfl rfl rfl ?_
          refine cl_mono (lose_ref hR hl (H.front 1) o.A) ?_
          rintro r w5 ⟨h2, hR', H⟩
          refine vst_st (y := r.1) len48 4 H rfl fun w6 H => ?_
          refine does_j1 h2.symm (H.ord [3, 0]) fun w7 H => ?_
          refine ⟨rfl, _, hR', ?_, ?_, ((H.front 1).front 2).drop⟩
          · split
            · exact hN.sub (fun x hx => (List.eraseIdx_sublist _ _).subset hx) N.off N.sent
            · exact hN
          · split
            · exact hlen _ (List.length_eraseIdx_le _ _)
            · exact Nat.le_succ _
        · split
          · refine ld_st (x := o.A) 3 H rfl rfl rfl ?_
            refine ld_st (x := o.Off) 3 H rfl rfl rfl ?_
            refine cl_mono (cutN_spec H o.A o.Off) ?_
            rintro r w4 ⟨rfl, H⟩
            refine vld_st 4 H rfl ?_
            refine ld_st (x := o.A) 3 H rfl rfl rfl ?_
            refine ld_st (x := o.Off) 3 H rfl rfl rfl ?_
            refine cl_mono (cut_ref hR hN H o.A o.Off) ?_
            rintro r w5 ⟨h2, hR', hL, H⟩
            refine vst_st (y := r.1) len48 4 H rfl fun w6 H => ?_
            refine does_j1 h2.symm (H.ord [3, 0]) fun w7 H => ?_
            rw [← hL] at H
            refine ⟨rfl, _, hR', ?_, ?_, ?_⟩
            · split
              · exact hN.sub (fun x hx => hx) _ N.sent
              · exact hN
            · split <;> exact Nat.le_succ _
            · have e : (if N.has o.A = true then { N with off := fun y => if y == o.A then o.Off else N.off y } else N).l = N.l := by split <;> rfl
              rw [e]
              exact ((H.ord [0, 1]).front 2).drop
          · split
            · refine ld_st (x := o.A) 3 H rfl rfl rfl ?_
              refine cl_mono (purge_spec H (by omega) o.A) ?_
              rintro r w4 ⟨rfl, H⟩
              refine vld_st 4 H rfl ?_
              refine ld_st (x := o.A) 3 H rfl rfl rfl ?_
              refine cl_mono (purge_ref hR hl (H.front 1) o.A) ?_
              rintro r w5 ⟨h2, hR', H⟩
              refine vst_st (y := r.1) len48 4 H rfl fun w6 H => ?_
              refine does_j1 h2.symm (H.ord [3, 0]) fun w7 H => ?_
              refine ⟨rfl, _, hR', ?_, ?_, ((H.front 1).front 2).drop⟩
              · split
                · exact hN.sub (fun x hx => (List.mem_filter.1 hx).1) N.off N.sent
                · exact hN
              · split
                · exact hlen _ (List.length_filter_le _ _)
                · exact Nat.le_succ _
            · refine does_j1 rfl (H.ord [2, 4]) fun w7 H => ?_
              exact ⟨rfl, N, hR, hN, Nat.le_succ _, (H.front 2).drop⟩
theorem plays_law {nodes : Int} {s : Slc} {ops : List S28} (H : St W (ro T28 s ops :: l) w) :
    cl Try.prog 7 [.int .i64 nodes, tSlc.enc s] tBool w fun r w' => r = true ∧ St W l w' := by
  have hs := ro_len H
  refine F7_ok ?_
  unfold F7
  refine cl_mono (New_spec H nodes) ?_
  rintro r w1 (⟨hn, rfl, H⟩ | ⟨hn, b, rfl, H⟩)
  · refine cl_mono (new_ref H nodes) ?_
    rintro r w2 ⟨h1, h2, H⟩
    have h2 : r.2 = false := by rw [h2]; simp; omega
    refine nw_st H fun b7 w3 H => ?_
    refine vst_st (y := r.1) len48 0 H rfl fun w4 H => ?_
    refine cl_mono (awake_spec H) ?_
    rintro r11 w5 ⟨rfl, H⟩
    rw [h2, if_neg (by decide), if_pos (by rfl)]
    exact ⟨rfl, H.drop.drop⟩
  · refine cl_mono (new_ref H nodes) ?_
    rintro r w2 ⟨h1, h2, H⟩
    have h2 : r.2 = true := by rw [h2]; simp; omega
    refine nw_st H fun b7 w3 H => ?_
    refine vst_st (y := r.1) len48 0 H rfl fun w4 H => ?_
    refine cl_mono (awake_spec H) ?_
    rintro r11 w5 ⟨rfl, H⟩
    rw [h2, if_neg (fun h => by cases h), if_neg (fun h => by cases h)]
    rw [h1] at H
    have H := (H.front 2)
    have H := (roA_nil T35 H)
    refine lp_i (fun i w => 0 ≤ i ∧ i ≤ 60 ∧ ∃ (N : Net) (m : S48), Rel N m ∧ Sound N ∧ N.l.length ≤ i ∧ St W (ro T28 s ops :: cel b7 (T48.cells m) 49 :: NetA b N :: ro T35 m.L N.l :: l) w) (fun i => (60 - i).toNat)
      ⟨Int.le_refl 0, by omega, Net.new nodes, _, rel_new nodes, ⟨hn.2, fun x hx => by cases hx⟩, by simp [Net.new], (H.ord [1, 2, 3])⟩ ?_
    rintro i w ⟨h0, h60, N, m, hR, hN, hl, H⟩
    unfold F7_l1
    split
    · rename_i hc
      have hc : i < ops.length ∧ i < 60 := by simp at hc; omega
      have e1 : IntKind.i64.wrap (i + 1) = i + 1 := wrap_i64 (by omega) (by omega)
      obtain ⟨a, ha⟩ := ro_ix (sz := 5) (i := i) H h0 hc.1
      have hx : ops[i.toNat]? = some ops[i.toNat] := List.getElem?_eq_getElem (by omega)
      generalize ops[i.toNat] = o at hx
      refine dr_st H fun w6 H => ?_
      refine ex_i a ha ?_
      refine vld_st 1 H rfl ?_
      refine ex_i o (rd_ro (fun _ => rfl) ha hx H) ?_
      refine cl_mono (few_spec H _) ?_
      rintro r w7 ⟨rfl, H⟩
      refine ⟨rdat_cel T48 (H.front 1) rfl (at_all _), ?_⟩
      refine cl_mono (does_spec hR hN (by omega) (few o) (H.ord [2, 3])) ?_
      rintro r w8 ⟨hr2, N', hR', hN', hl', H⟩
      have H : St W (NetA b N' :: ro T35 r.1.L N'.l :: ro T28 s ops :: cel b7 (T48.cells m) 49 :: l) w8 := H
      refine ⟨rd_ro (fun _ => rfl) ha hx (H.front 2), ?_⟩
      refine vst_st (y := r.1) len48 3 H rfl fun w9 H => ?_
      refine dr_st H fun w10 H => ?_
      rw [hr2, if_neg (by decide)]
      refine ld_st (x := r.1.L) 0 H rfl (by rw [add_at]) (L48 _) ?_
      refine cl_mono (letters_spec (H.front 1) (by omega)) ?_
      intro r33 w11 H
      refine ⟨rdat_cel tSlc (H.front 2) (by rw [add_at]) (L48 _), ?_⟩
      have H := (row_stay H)
      have H := (H.front 3).dup
      refine cl_mono (told_spec (L := N'.l) (by omega) ((H.ord [2, 0]))) ?_
      rintro r36 w12 ⟨rfl, H⟩
      unfold F7_j2
      rw [if_neg (by decide), e1]
      exact ⟨⟨by omega, by omega, N', r.1, hR', hN', by omega, H.ord [3, 2, 1, 0]⟩, by omega⟩
    · exact ⟨rfl, H.drop.drop.drop.drop⟩
end
end Go.Proofs.Ytpflfnaflacfgaa.PostS
namespace Go.Proofs.Ytpflfnaflacfgaa
open Go Go.Proofs.Ytpflfnaflacfgaa.Cf
theorem walkPostPlays (W : World) (nodes : Int) (s : Slc) (g0 : G3 W nodes) (g1 : G22 W s) : cl Try.prog 7 [.int .i64 nodes, tSlc.enc s] tBool W fun r w' => r = true ∧ RowKit.Below W.heap.size W w' := by
  obtain ⟨_, ops, _, hro⟩ := g1
  refine cl_mono (PostS.plays_law (ro_old hro (St.start W))) fun r w' ⟨h, H⟩ => ⟨h, H.below⟩
end Go.Proofs.Ytpflfnaflacfgaa
