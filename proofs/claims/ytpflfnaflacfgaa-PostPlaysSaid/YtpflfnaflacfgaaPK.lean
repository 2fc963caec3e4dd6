/- The law PostSent answers true: its loop. -/
import Derived.Test.YtpflfnaflacfgaaPJ
namespace Go.Proofs.Ytpflfnaflacfgaa.PostS
open Go Go.Proofs.Ytpflfnaflacfgaa.Cf
set_option linter.unusedVariables false
set_option linter.unusedSimpArgs false
set_option maxRecDepth 100000
section
variable {W w : World} {l : List Assn} {b : Nat} {N : Net}
theorem sent_law {nodes : Int} {s : Slc} {ops : List S28} (H : St W (ro T28 s ops :: l) w) :
    cl Try.prog 5 [.int .i64 nodes, tSlc.enc s] tBool w fun r w' => r = true ∧ St W l w' := by
  have hs := ro_len H
  refine F5_ok ?_
  unfold F5
  refine cl_mono (New_spec H nodes) ?_
  rintro r w1 (⟨_, rfl, H⟩ | ⟨_, b, rfl, H⟩)
  · refine cl_mono (awake_spec H) ?_
    rintro r w2 ⟨rfl, H⟩
    rw [if_pos (by simp)]
    refine cl_mono (awake_spec H) ?_
    rintro r w3 ⟨rfl, H⟩
    exact ⟨rfl, H.drop⟩
  refine cl_mono (awake_spec H) ?_
  rintro r w2 ⟨rfl, H⟩
  rw [if_neg (by simp)]
  refine nw_st H fun aS w3 H => ?_
  refine nw_st H fun aE w4 H => ?_
  have H : St W (row (tInt .i64) 43 1 (slcOf aE 61) (List.replicate 61 0) :: cel aS ((tArr T28 61).cells (Vector.replicate 61 Z28)) 42 :: NetA b (Net.new nodes) :: ro T28 s ops :: l) w4 := row_new (T := tInt .i64) (t := 43) (sz := 1) (xs := List.replicate 61 (0 : Int)) (m := 61) rfl H
  have H : St W (row T28 42 5 (slcOf aS 61) (List.replicate 61 Z28) :: row (tInt .i64) 43 1 (slcOf aE 61) (List.replicate 61 0) :: NetA b (Net.new nodes) :: ro T28 s ops :: l) w4 := row_new (T := T28) (t := 42) (sz := 5) (xs := List.replicate 61 Z28) (m := 61) rfl (H.front 1)
  refine lp_i (fun q w => 0 ≤ q.2 ∧ q.2 ≤ 60 ∧ q.1 ≤ q.2 ∧ ∃ (N : Net) (S : List S28) (E : List Int), N.l.length ≤ q.2 ∧ Books N q.1 S E ∧
      St W (NetA b N :: row T28 42 5 (slcOf aS 61) S :: row (tInt .i64) 43 1 (slcOf aE 61) E :: ro T28 s ops :: l) w) (fun q => (60 - q.2).toNat)
    ⟨Int.le_refl 0, by simp only; omega, Int.le_refl 0, Net.new nodes, _, _, by simp [Net.new], ⟨Int.le_refl 0, rfl, rfl, rfl, (fun x hx => by cases hx), (fun id h1 h2 => by omega)⟩, H.front 2⟩ ?_
  rintro ⟨many, i⟩ w ⟨hi0, hi1, hmi, N, S, E, hl, B, H⟩
  have m0 := B.m0
  simp only at hi0 hi1 hmi hl m0
  simp only
  have e1 : IntKind.i64.wrap (i + 1) = i + 1 := wrap_i64 (by omega) (by omega)
  have e2 : IntKind.i64.wrap (many + 1) = many + 1 := wrap_i64 (by omega) (by omega)
  unfold F5_l1
  split
  · rename_i hc
    have hc : i < ops.length ∧ i < 60 := by simp at hc; omega
    obtain ⟨a, ha⟩ := ro_ix (sz := 5) (i := i) (H.front 3) hi0 hc.1
    have hx : ops[i.toNat]? = some ops[i.toNat] := List.getElem?_eq_getElem (by omega)
    refine ex_i a ha ?_
    refine ex_i ops[i.toNat] (rd_ro (fun _ => rfl) ha hx (H.front 3)) ?_
    refine cl_mono (few_spec H _) ?_
    rintro r w3 ⟨rfl, H⟩
    generalize few ops[i.toNat] = o
    refine nw_st H fun b1 w4 H => ?_
    refine st_st (x := o) 0 H rfl rfl (Nat.le_of_ble_eq_true rfl) fun w5 H => ?_
    have H : St W (cel b1 (T28.cells o) 29 :: NetA b N :: row T28 42 5 (slcOf aS 61) S :: row (tInt .i64) 43 1 (slcOf aE 61) E :: ro T28 s ops :: l) w5 := H
    refine ld_st (x := o.Kind) 0 H rfl rfl rfl ?_
    unfold F5_j2
    rw [e1]
    /- what a round owes -/
    have done : ∀ (many' : Int) (N' : Net) (S' : List S28) (E' : List Int) (w : World), many' ≤ i + 1 → N'.l.length ≤ i + 1 → Books N' many' S' E' → St W (NetA b N' :: row T28 42 5 (slcOf aS 61) S' :: row (tInt .i64) 43 1 (slcOf aE 61) E' :: ro T28 s ops :: l) w →
        (0 ≤ (many', i + 1).2 ∧ (many', i + 1).2 ≤ 60 ∧ (many', i + 1).1 ≤ (many', i + 1).2 ∧ ∃ (N : Net) (S : List S28) (E : List Int), N.l.length ≤ (many', i + 1).2 ∧ Books N (many', i + 1).1 S E ∧
          St W (NetA b N :: row T28 42 5 (slcOf aS 61) S :: row (tInt .i64) 43 1 (slcOf aE 61) E :: ro T28 s ops :: l) w) ∧ (60 - (many', i + 1).2).toNat < (60 - i).toNat := by
      intro many' N' S' E' w h1 h2 h3 h4
      exact ⟨⟨by simp only; omega, by simp only; omega, h1, N', S', E', h2, h3, h4⟩, by simp only; omega⟩
    split
    · /- a letter is sent -/
      refine ld_st (x := o.A) 0 H rfl rfl rfl ?_
      refine ld_st (x := o.B) 0 H rfl rfl rfl ?_
      refine ld_st (x := o.M) 0 H rfl rfl rfl ?_
      refine cl_mono (send_spec (H.front 1) (by omega) _ _ o.M) ?_
      rintro r w6 ⟨rfl, H⟩
      have hse := B.sent
      rcases N.send_cases o.A o.B o.M (by omega) (by omega) with ⟨e, he, h⟩ | h
      · rw [h] at H ⊢
        rw [if_pos (by simpa using he)]
        exact done many N S E w6 (by omega) (by omega) B (H.front 1).drop
      · rw [h] at H ⊢
        rw [if_neg (by simp), e2, if_neg (by simp [hse])]
        refine ld_st (x := o) 1 H rfl rfl rfl ?_
        obtain ⟨a1, ha1⟩ := row_ix (sz := 5) (i := many + 1) (H.front 2) (by omega) (by rw [B.sl]; omega)
        obtain ⟨a2, ha2⟩ := row_ix (sz := 1) (i := many + 1) (H.front 3) (by omega) (by rw [B.el]; omega)
        simp only [hse] at H ⊢
        refine ex_i a1 (ixr_of ha1) ?_
        refine st_row (fun _ => rfl) ha1 (H.front 2) fun w7 H => ?_
        refine ex_i a2 (ixr_of ha2) ?_
        refine st_row (fun _ => rfl) ha2 (H.front 3) fun w8 H => ?_
        refine done (many + 1) _ _ _ w8 (by omega) ?_ (B.send (o := o) (by omega)) (((H.ord [2, 1, 0]).front 3).drop)
        simp only [List.length_append, List.length_singleton]; omega
    · split
      · /- one is taken -/
        refine ld_st (x := o.A) 0 H rfl rfl rfl ?_
        refine cl_mono (take_spec (H.front 1) (by omega) _) ?_
        rintro r w6 ⟨rfl, H⟩
        refine nw_st H fun b2 w7 H => ?_
        refine st_st (x := (N.take o.A).2.1) 0 H rfl rfl (Nat.le_of_ble_eq_true rfl) fun w8 H => ?_
        rcases N.take_cases o.A with ⟨x, e, he, h⟩ | ⟨x, h0, hx, h⟩
        · rw [h] at H ⊢
          rw [if_pos (by simpa using he)]
          exact done many N S E w8 (by omega) (by omega) B ((H.drop.front 1).drop)
        · rw [h] at H ⊢
          rw [if_neg (by simp)]
          have hmem := List.mem_of_getElem? hx
          obtain ⟨g1, g2, q, g3, g4, g5, g6⟩ := B.each x hmem
          have g7 := B.ends x.ID g1 g2
          have g8 : 1 ≤ N.l.countP (fun y => y.ID == x.ID) := List.countP_pos_iff.2 ⟨x, hmem, by simp⟩
          have g9 : N.l.countP (fun y => y.ID == x.ID) ≤ N.l.length := List.countP_le_length
          refine dr_st H fun w9 H => ?_
          have H : St W (cel b2 (T35.cells x) 36 :: NetA b { N with l := N.l.eraseIdx o.A.toNat } :: cel b1 (T28.cells o) 29 :: row T28 42 5 (slcOf aS 61) S :: row (tInt .i64) 43 1 (slcOf aE 61) E :: ro T28 s ops :: l) w9 := H
          obtain ⟨a1, ha1⟩ := row_ix (sz := 5) (i := x.ID) (H.front 3) (by omega) (by rw [B.sl]; omega)
          obtain ⟨a2, ha2⟩ := row_ix (sz := 1) (i := x.ID) (H.front 4) (by omega) (by rw [B.el]; omega)
          have hid : RdAt (tInt .i64) ((⟨b2, 0, none⟩ : Addr).add 0) w9 x.ID := rdat_cel (tInt .i64) H rfl rfl
          refine ex_i x.ID hid ?_
          refine ex_i x.ID (fun _ => hid) ?_
          refine ex_i x.ID (fun _ => hid) ?_
          refine ex_i a2 (fun _ => ixr_of ha2) ?_
          refine ex_i (N.l.countP fun y => y.ID == x.ID : Int) (fun _ => rd_row (fun _ => rfl) ha2 g7 (H.front 4)) ?_
          refine ex_i x.ID (fun _ => hid) ?_
          refine ex_i a1 (fun _ => ixr_of ha1) ?_
          refine ex_i q.A (fun _ => fld_row (fun _ => rfl) ha1 g3 rfl (H.front 3)) ?_
          refine ex_i x.From (fun _ => rdat_cel (tInt .i64) H rfl rfl) ?_
          refine ex_i x.ID (fun _ => hid) ?_
          refine ex_i a1 (fun _ => ixr_of ha1) ?_
          refine ex_i q.B (fun _ => fld_row (fun _ => rfl) ha1 g3 rfl (H.front 3)) ?_
          refine ex_i x.To (fun _ => rdat_cel (tInt .i64) H rfl rfl) ?_
          refine ex_i x.ID (fun _ => hid) ?_
          refine ex_i a1 (fun _ => ixr_of ha1) ?_
          refine ex_i q.M (fun _ => fld_row (fun _ => rfl) ha1 g3 rfl (H.front 3)) ?_
          refine ex_i x.M (fun _ => rdat_cel tStr H rfl rfl) ?_
          rw [if_neg (by simp [g4, g5, g6]; omega)]
          refine ex_i x.ID hid ?_
          refine ex_i a2 (ixr_of ha2) ?_
          refine ex_i (N.l.countP fun y => y.ID == x.ID : Int) (rd_row (fun _ => rfl) ha2 g7 (H.front 4)) ?_
          refine ex_i a2 (ixr_of ha2) ?_
          have e3 : IntKind.i64.wrap ((N.l.countP fun y => y.ID == x.ID : Int) - 1) = (N.l.countP fun y => y.ID == x.ID : Int) - 1 := wrap_i64 (by omega) (by omega)
          rw [e3]
          refine st_row (fun _ => rfl) ha2 (H.front 4) fun w10 H => ?_
          refine done many _ _ _ w10 (by omega) ?_ (B.drop hx) ((((H.ord [2, 4, 0]).front 3).drop.front 3).drop)
          have := List.length_eraseIdx_le N.l o.A.toNat
          simp only; omega
      · split
        · /- one is copied -/
          refine cl_mono (letters_spec (H.front 1) (by omega)) ?_
          intro r71 w6 H
          have hr := row_len H
          refine ld_st (x := o.A) 2 H rfl rfl rfl ?_
          refine cl_mono (copy_spec (H.front 1) (by omega) o.A) ?_
          rintro r w7 ⟨hr74, H⟩
          rcases N.at_cases o.A with h | ⟨x, h0, hx, h⟩
          · rw [h] at H hr74
            simp only [ne_eq, show ¬ (92 : Int) = 0 by decide, not_false_eq_true, if_true] at H hr74
            subst hr74
            rw [if_neg (by decide)]
            exact done many N S E w7 (by omega) (by omega) B (((H.front 1).drop.front 1).drop)
          · rw [h] at H hr74
            have hp : N.put x = ({ N with l := N.l ++ [x] }, 0) := by unfold Net.put; rw [if_neg (by omega)]
            simp only [ne_eq, not_true_eq_false, if_false, hp] at H hr74
            subst hr74
            rw [if_pos (by decide)]
            have hmem := List.mem_of_getElem? hx
            have hlt := (List.getElem?_eq_some_iff.1 hx).1
            obtain ⟨g1, g2, q, g3, g4, g5, g6⟩ := B.each x hmem
            have g7 := B.ends x.ID g1 g2
            have g9 : N.l.countP (fun y => y.ID == x.ID) ≤ N.l.length := List.countP_le_length
            have H : St W (NetA b { N with l := N.l ++ [x] } :: row T35 36 4 r71 N.l :: cel b1 (T28.cells o) 29 :: row T28 42 5 (slcOf aS 61) S :: row (tInt .i64) 43 1 (slcOf aE 61) E :: ro T28 s ops :: l) w7 := H
            refine ld_st (x := o.A) 2 H rfl rfl rfl ?_
            refine ex_i o.A (fun _ => rdat_cel (tInt .i64) (H.front 2) rfl rfl) ?_
            rw [if_neg (by simp [hr]; omega)]
            refine ld_st (x := o.A) 2 H rfl rfl rfl ?_
            obtain ⟨a1, ha1⟩ := row_ix (sz := 4) (i := o.A) (H.front 1) h0 (by omega)
            obtain ⟨a2, ha2⟩ := row_ix (sz := 1) (i := x.ID) (H.front 4) (by omega) (by rw [B.el]; omega)
            refine ex_i a1 ha1 ?_
            refine ex_i x.ID (fld_row (fun _ => rfl) ha1 hx rfl (H.front 1)) ?_
            refine ex_i a2 (ixr_of ha2) ?_
            refine ex_i (N.l.countP fun y => y.ID == x.ID : Int) (rd_row (fun _ => rfl) ha2 g7 (H.front 4)) ?_
            refine ex_i a2 (ixr_of ha2) ?_
            have e3 : IntKind.i64.wrap ((N.l.countP fun y => y.ID == x.ID : Int) + 1) = (N.l.countP fun y => y.ID == x.ID : Int) + 1 := wrap_i64 (by omega) (by omega)
            rw [e3]
            refine st_row (fun _ => rfl) ha2 (H.front 4) fun w10 H => ?_
            refine done many _ _ _ w10 (by omega) ?_ (B.copy hmem) ((((H.ord [1, 4, 0]).front 3).drop.front 3).drop)
            simp only [List.length_append, List.length_singleton]; omega
        · split
          · /- one is lost -/
            refine cl_mono (letters_spec (H.front 1) (by omega)) ?_
            intro r71 w6 H
            have hr := row_len H
            refine ld_st (x := o.A) 2 H rfl rfl rfl ?_
            refine cl_mono (lose_spec (H.front 1) (by omega) o.A) ?_
            rintro r w7 ⟨rfl, H⟩
            rcases N.at_cases o.A with h | ⟨x, h0, hx, h⟩
            · rw [h] at H ⊢
              simp only [show ¬ (92 : Int) = 0 by decide, if_false] at H
              rw [if_neg (by decide)]
              exact done many N S E w7 (by omega) (by omega) B (((H.front 1).drop.front 1).drop)
            · rw [h] at H ⊢
              simp only [if_true] at H
              rw [if_pos (by rfl)]
              have hmem := List.mem_of_getElem? hx
              have hlt := (List.getElem?_eq_some_iff.1 hx).1
              obtain ⟨g1, g2, q, g3, g4, g5, g6⟩ := B.each x hmem
              have g7 := B.ends x.ID g1 g2
              have g9 : N.l.countP (fun y => y.ID == x.ID) ≤ N.l.length := List.countP_le_length
              have H : St W (NetA b { N with l := N.l.eraseIdx o.A.toNat } :: row T35 36 4 r71 N.l :: cel b1 (T28.cells o) 29 :: row T28 42 5 (slcOf aS 61) S :: row (tInt .i64) 43 1 (slcOf aE 61) E :: ro T28 s ops :: l) w7 := H
              refine ld_st (x := o.A) 2 H rfl rfl rfl ?_
              refine ex_i o.A (fun _ => rdat_cel (tInt .i64) (H.front 2) rfl rfl) ?_
              rw [if_neg (by simp [hr]; omega)]
              refine ld_st (x := o.A) 2 H rfl rfl rfl ?_
              obtain ⟨a1, ha1⟩ := row_ix (sz := 4) (i := o.A) (H.front 1) h0 (by omega)
              obtain ⟨a2, ha2⟩ := row_ix (sz := 1) (i := x.ID) (H.front 4) (by omega) (by rw [B.el]; omega)
              refine ex_i a1 ha1 ?_
              refine ex_i x.ID (fld_row (fun _ => rfl) ha1 hx rfl (H.front 1)) ?_
              refine ex_i a2 (ixr_of ha2) ?_
              refine ex_i (N.l.countP fun y => y.ID == x.ID : Int) (rd_row (fun _ => rfl) ha2 g7 (H.front 4)) ?_
              refine ex_i a2 (ixr_of ha2) ?_
              have e3 : IntKind.i64.wrap ((N.l.countP fun y => y.ID == x.ID : Int) - 1) = (N.l.countP fun y => y.ID == x.ID : Int) - 1 := wrap_i64 (by omega) (by omega)
              rw [e3]
              refine st_row (fun _ => rfl) ha2 (H.front 4) fun w10 H => ?_
              refine done many _ _ _ w10 (by omega) ?_ (B.drop hx) ((((H.ord [1, 4, 0]).front 3).drop.front 3).drop)
              have := List.length_eraseIdx_le N.l o.A.toNat
              simp only; omega
          · exact done many N S E w5 (by omega) (by omega) B H.drop
  · exact sent_end rfl B (by omega) (by omega) (((((H.front 1).drop).front 2).drop).front 1)
end
end Go.Proofs.Ytpflfnaflacfgaa.PostS
namespace Go.Proofs.Ytpflfnaflacfgaa
open Go Go.Proofs.Ytpflfnaflacfgaa.Cf
theorem walkPostSent (W : World) (nodes : Int) (s : Slc) (g0 : G3 W nodes) (g1 : G22 W s) : cl Try.prog 5 [.int .i64 nodes, tSlc.enc s] tBool W fun r w' => r = true ∧ RowKit.Below W.heap.size W w' := by
  obtain ⟨_, ops, _, hro⟩ := g1
  refine cl_mono (PostS.sent_law (ro_old hro (St.start W))) fun r w' ⟨h, H⟩ => ⟨h, H.below⟩
end Go.Proofs.Ytpflfnaflacfgaa
