/- Contracts of the table of locks: End, Ask. -/
import Derived.Test.YtojcgejjdfcaaaaLI
namespace Go.Proofs.Ytojcgejjdfcaaaa.Locks
open Go Go.Proofs.Ytojcgejjdfcaaaa.Cf
set_option linter.unusedVariables false
set_option linter.unusedSimpArgs false
set_option maxRecDepth 100000
set_option maxHeartbeats 2000000
section
variable {W w : World} {l l' : List Assn}
theorem end_T {t : TbP} {m : Md} {n : Nat} {tx : Int} (hn : n ≤ 1000) (r : Rel t m n) (hN : (m.W.map (·.Tx)).Nodup) (hWl : m.W.length ≤ 1000) (H : St W (tabA t :: l) w) :
    cl Try.prog 15 [.pointer (some ⟨t.b, 0, none⟩), .int .i64 tx] (tTup2 tSlc (tInt .i64)) w fun q w' => ∃ t', t'.b = t.b ∧ q.2 = (end_ m tx).2.2 ∧ Rel t' (end_ m tx).1 n ∧ St W (row T55 56 2 q.1 (end_ m tx).2.1 :: tabA t' :: l) w' := by
  refine F15_ok ?_
  unfold F15
  by_cases c : tx < 1
  · rw [if_pos (by simpa using c)]
    have e : end_ m tx = (m, [], 130) := by unfold end_; rw [if_pos c]
    rw [e]
    exact ⟨t, rfl, rfl, r, row_nil T55 56 2 H⟩
  · rw [if_neg (by simpa using c)]
    have e : end_ m tx = ((give (ended m tx).W (ended m tx)).1, (give (ended m tx).W (ended m tx)).2, 0) := by unfold end_; rw [if_neg c]
    rw [e]
    refine cl_mono (free_spec (tx := tx) H) ?_
    rintro _ w1 H
    refine nc_st rfl ?_
    have H := tab_open H
    refine ld_st (x := some t.md) 0 H rfl rfl rfl ?_
    refine mdel_st 3 H rfl rfl fun w2 H => ?_
    have H := tab_shut (t := endT tx t) (H.ord [1, 2, 3, 0, 4])
    refine cl_mono (give_T (t := endT tx t) hn (r.ended tx) (hN.sublist (List.filter_sublist.map _)) (Nat.le_trans (wo_len _ _) hWl) H) ?_
    rintro s w3 ⟨t', h1, h2, H⟩
    exact ⟨t', h1, rfl, h2, H⟩
theorem key_spec (k : Int) (w : World) : cl Try.prog 24 [.int .i64 k] tBool w fun r w' => r = (decide (k ≥ 0) && decide (k < 8192)) ∧ w = w' := by
  refine F24_ok ?_
  unfold F24
  exact ⟨rfl, rfl⟩
theorem ask_T {t : TbP} {m : Md} {n : Nat} {x : S79} (hn : n ≤ 900) (r : Rel t m n) (hN : (m.W.map (·.Tx)).Nodup) (hWl : m.W.length ≤ 900) (hR : R64 x.Tx) (H : St W (tabA t :: l) w) :
    cl Try.prog 11 [.pointer (some ⟨t.b, 0, none⟩), .int .i64 x.Tx, .int .i64 x.Key, .bool x.Write] (tTup2 T33 (tInt .i64)) w fun q w' => ∃ t', t'.b = t.b ∧ q.2 = (ask m x).2.2 ∧ q.1.Granted = (ask m x).2.1.ok ∧ Rel t' (ask m x).1 (n + 2) ∧
      St W (row (tInt .i64) 3 1 q.1.Wounded (ask m x).2.1.wo :: row T55 56 2 q.1.Woken (ask m x).2.1.wk :: tabA t' :: l) w' := by
  refine F11_ok ?_
  unfold F11
  refine nw_st H fun b5 w1 H => ?_
  refine nc_st rfl ?_
  have H := tab_open (H.front 1)
  refine ld_st (x := some t.mw) 0 H rfl rfl rfl ?_
  refine mget_st 2 H rfl rfl ?_
  have H : St W (tabA t :: cel b5 (T33.cells Z33) 34 :: l) w1 := tab_shut H
  have quit : ∀ (e : Int) (g : Bool), ask m x = (m, ⟨g, [], []⟩, e) → ∀ (t' : TbP) (w : World), t'.b = t.b → Rel t' m (n + 2) → St W (tabA t' :: cel b5 (T33.cells Z33) 34 :: l) w →
      st T33 ⟨b5, 0, none⟩ (⟨g, (⟨none, 0, 0⟩ : Slc), (⟨none, 0, 0⟩ : Slc)⟩ : S33) w fun w10 => ex (RdAt T33 ⟨b5, 0, none⟩ w10) fun x11 => (fun (q : S33 × Int) w' => ∃ t', t'.b = t.b ∧ q.2 = (ask m x).2.2 ∧ q.1.Granted = (ask m x).2.1.ok ∧ Rel t' (ask m x).1 (n + 2) ∧
        St W (row (tInt .i64) 3 1 q.1.Wounded (ask m x).2.1.wo :: row T55 56 2 q.1.Woken (ask m x).2.1.wk :: tabA t' :: l) w') (x11, e) w10 := by
    intro e g he t' w hb hr H
    refine st_st (x := (⟨g, nilS, nilS⟩ : S33)) 1 H rfl rfl (Nat.le_of_ble_eq_true rfl) fun w2 H => ?_
    have H : St W (cel b5 (T33.cells ⟨g, nilS, nilS⟩) 34 :: tabA t' :: l) w2 := H
    refine ld_st (x := (⟨g, nilS, nilS⟩ : S33)) 0 H rfl rfl (at_all _) ?_
    rw [he]
    exact ⟨t', hb, rfl, rfl, hr, row_nil (tInt .i64) 3 1 (row_nil T55 56 2 H.drop)⟩
  have r2 := r.mono (n' := n + 2) (by omega)
  by_cases c1 : x.Tx < 1
  · rw [if_pos (by simpa using c1)]
    exact quit 130 false (by unfold ask askE; rw [if_pos c1, if_pos (by decide)]) t w1 rfl r2 H
  rw [if_neg (by simpa using c1)]
  refine cl_mono (key_spec x.Key w1) ?_
  rintro kq kw ⟨rfl, rfl⟩
  by_cases c2 : x.Key < 0 ∨ x.Key > 8191
  · rw [if_pos (by simp; omega)]
    exact quit 131 false (by unfold ask askE; rw [if_neg c1, if_pos c2, if_pos (by decide)]) t w1 rfl r2 H
  rw [if_neg (by simp; omega)]
  refine cl_mono (dead_spec (tx := x.Tx) H) ?_
  rintro q w2 ⟨rfl, H⟩
  rw [r.D]
  by_cases c3 : (m.D.any fun y => y == x.Tx) = true
  · rw [if_pos c3]
    exact quit 132 false (by unfold ask askE; rw [if_neg c1, if_neg c2, if_pos c3, if_pos (by decide)]) t w2 rfl r2 H
  rw [if_neg c3]
  show if ((t.waits.lookup x.Tx).isSome) = true then _ else _
  rw [r.waits_any]
  by_cases c4 : (m.W.any fun y => y.Tx == x.Tx) = true
  · rw [if_pos c4]
    exact quit 133 false (by unfold ask askE; rw [if_neg c1, if_neg c2, if_neg c3, if_pos c4, if_pos (by decide)]) t w2 rfl r2 H
  rw [if_neg c4]
  have hE : askE m x = 0 := by unfold askE; rw [if_neg c1, if_neg c2, if_neg c3, if_neg c4]
  have hno : ∀ y ∈ m.W, y.Tx ≠ x.Tx := fun y hy e => c4 (List.any_eq_true.2 ⟨y, hy, by simpa using e⟩)
  have hkey : 0 ≤ x.Key ∧ x.Key < 8192 := by omega
  -- with the key's lock
  have J : ∀ (t1 : TbP) (l1 l2 : List (Int × LkP)) (L : LkP) (w : World), t1.b = t.b → t1.locks = l1 ++ (x.Key, L) :: l2 → Rel t1 m (n + 1) → St W (tabA t1 :: cel b5 (T33.cells Z33) 34 :: l) w →
      F11_j1 (some ⟨t.b, 0, none⟩) x.Tx x.Key x.Write ⟨b5, 0, none⟩ ⟨t.b, 0, none⟩ (some ⟨L.b, 0, none⟩) w fun q w' => ∃ t', t'.b = t.b ∧ q.2 = (ask m x).2.2 ∧ q.1.Granted = (ask m x).2.1.ok ∧ Rel t' (ask m x).1 (n + 2) ∧
        St W (row (tInt .i64) 3 1 q.1.Wounded (ask m x).2.1.wo :: row T55 56 2 q.1.Woken (ask m x).2.1.wk :: tabA t' :: l) w' := by
    intro t1 l1 l2 L w hb hsp rel H
    have hmem : (x.Key, L) ∈ t1.locks := by rw [hsp]; simp
    unfold F11_j1
    refine nc_st rfl ?_
    have H := opened hsp H
    refine ld_st (x := some L.h) 0 H rfl rfl rfl ?_
    refine mget_st 1 H rfl rfl ?_
    show if (((L.hs.lookup x.Tx).isSome && ((L.hs.lookup x.Tx).getD false || !x.Write))) = true then _ else _
    rw [rel.has_eq hsp rfl]
    by_cases hh : has m x = true
    · rw [if_pos hh]
      exact quit 0 true (by unfold ask; rw [hE, if_neg (by simp), if_pos hh]) t1 w hb (rel.mono (by omega)) (closed hsp H)
    rw [if_neg hh]
    have hask : ask m x = ((give (asked m x).W (asked m x)).1, ⟨(give (asked m x).W (asked m x)).2.any (fun g => g.Tx == x.Tx), wounded m x, (give (asked m x).W (asked m x)).2.filter fun g => g.Tx != x.Tx⟩, 0) := by
      unfold ask; rw [hE, if_neg (by simp), if_neg hh]
    rw [hask]
    clear quit
    rw [hb] at H
    refine nw_st H fun b31 w3 H => ?_
    refine st_st (x := (⟨false, nilS, nilS⟩ : S33)) 0 H rfl rfl (Nat.le_of_ble_eq_true rfl) fun w4 H => ?_
    refine cl_mono (against_spec (tx := x.Tx) (write := x.Write) H) ?_
    intro fn w5 H
    refine ld_st (x := some L.h) 2 H rfl rfl rfl ?_
    refine F27_ok ?_
    unfold F27
    refine nw_st H fun bm w6 H => ?_
    have hsz := rel.sz _ hmem
    simp only at hsz
    refine cl_mono (sorted_keys (rel.rH _ hmem) (by simp only; omega) (H.ord [0, 4])) ?_
    rintro r40 w7 ⟨ks0, hks, H⟩
    have hq : (ks0.mergeSort fun x y => decide (x ≤ y)) = sortI (L.hs.map (·.1)) := sortI_perm hks
    rw [hq] at H
    have hwe := rel.wounded_eq hsp (x := x) rfl
    have hql : (sortI (L.hs.map (·.1))).length ≤ 1000 := by rw [(sortI_p _).length_eq, List.length_map]; omega
    generalize sortI (L.hs.map (·.1)) = q at H hwe hql
    have H := row_stay H
    -- ro r40, cel bm, mapE h, ever, cel b31, cel L.b, mapE w, bigL, cel t.b, mapE ml, mapE mw, mapE md, cel b5
    have H := row_nil (tInt .i64) 3 1 ((H.front 1).drop)
    have H : St W (row (tInt .i64) 3 1 nilS ([] : List Int) :: ro (tInt .i64) r40 q :: mapE tBool .i64 L.h L.hs :: ever (AgP fn x.Tx x.Write) AgP.mono :: cel b31 (T33.cells ⟨false, nilS, nilS⟩) 34 :: cel L.b (T67.cells ⟨some L.h, some L.w⟩) 68 :: mapE tBool .i64 L.w L.ws :: bigL (l1 ++ l2) :: cel t.b (T61.cells ⟨some t1.ml, some t1.mw, some t1.md⟩) 62 :: mapE tPtr .i64 t1.ml (ptrs t1.locks) :: mapE (tInt .i64) .i64 t1.mw t1.waits :: mapE T77 .i64 t1.md t1.dead :: cel b5 (T33.cells Z33) 34 :: l) w7 := H
    have lr40 : r40.len = q.length := ro_len (H.front 1)
    refine lp_i (fun (i : Int) w => 0 ≤ i ∧ i ≤ q.length ∧ ∃ ws, St W (row (tInt .i64) 3 1 ws ((q.take i.toNat).filter fun o => decide (o > x.Tx) && ag x.Tx x.Write o ((L.hs.lookup o).getD false)) :: ro (tInt .i64) r40 q :: mapE tBool .i64 L.h L.hs :: ever (AgP fn x.Tx x.Write) AgP.mono :: cel b31 (T33.cells ⟨false, ws, nilS⟩) 34 :: cel L.b (T67.cells ⟨some L.h, some L.w⟩) 68 :: mapE tBool .i64 L.w L.ws :: bigL (l1 ++ l2) :: cel t.b (T61.cells ⟨some t1.ml, some t1.mw, some t1.md⟩) 62 :: mapE tPtr .i64 t1.ml (ptrs t1.locks) :: mapE (tInt .i64) .i64 t1.mw t1.waits :: mapE T77 .i64 t1.md t1.dead :: cel b5 (T33.cells Z33) 34 :: l) w) (fun i => (q.length - i).toNat)
      ⟨Int.le_refl 0, by omega, nilS, H⟩ ?_
    clear H hq
    rintro i w ⟨i0, i1, ws, H⟩
    have hfl : ((q.take i.toNat).filter fun o => decide (o > x.Tx) && ag x.Tx x.Write o ((L.hs.lookup o).getD false)).length ≤ q.length := Nat.le_trans (List.length_filter_le _ _) (List.length_take_le' _ _)
    unfold F11_l2
    split
    · rename_i hc
      have hc : i < q.length := by simp at hc; omega
      have e1 : IntKind.i64.wrap (i + 1) = i + 1 := wrap_i64 (by omega) (by omega)
      have hx : q[i.toNat]? = some q[i.toNat] := List.getElem?_eq_getElem (by omega)
      have htk : q.take (i.toNat + 1) = q.take i.toNat ++ [q[i.toNat]] := List.take_succ_eq_append_getElem (by omega)
      generalize q[i.toNat] = o at hx htk
      obtain ⟨a, ha⟩ := ro_ix (sz := 1) (i := i) (H.front 1) i0 hc
      refine ex_i a ha ?_
      refine ex_i o (rd_ro (T := tInt .i64) (fun _ => rfl) ha hx (H.front 1)) ?_
      have tail : ∀ (g : Bool) (w : World), g = (decide (o > x.Tx) && ag x.Tx x.Write o ((L.hs.lookup o).getD false)) → St W (row (tInt .i64) 3 1 ws ((q.take i.toNat).filter fun o => decide (o > x.Tx) && ag x.Tx x.Write o ((L.hs.lookup o).getD false)) :: ro (tInt .i64) r40 q :: mapE tBool .i64 L.h L.hs :: ever (AgP fn x.Tx x.Write) AgP.mono :: cel b31 (T33.cells ⟨false, ws, nilS⟩) 34 :: cel L.b (T67.cells ⟨some L.h, some L.w⟩) 68 :: mapE tBool .i64 L.w L.ws :: bigL (l1 ++ l2) :: cel t.b (T61.cells ⟨some t1.ml, some t1.mw, some t1.md⟩) 62 :: mapE tPtr .i64 t1.ml (ptrs t1.locks) :: mapE (tInt .i64) .i64 t1.mw t1.waits :: mapE T77 .i64 t1.md t1.dead :: cel b5 (T33.cells Z33) 34 :: l) w →
          ∀ R, F11_j4 ⟨b31, 0, none⟩ i o g w (fun s' w' => (0 ≤ s' ∧ s' ≤ q.length ∧ ∃ ws, St W (row (tInt .i64) 3 1 ws ((q.take s'.toNat).filter fun o => decide (o > x.Tx) && ag x.Tx x.Write o ((L.hs.lookup o).getD false)) :: ro (tInt .i64) r40 q :: mapE tBool .i64 L.h L.hs :: ever (AgP fn x.Tx x.Write) AgP.mono :: cel b31 (T33.cells ⟨false, ws, nilS⟩) 34 :: cel L.b (T67.cells ⟨some L.h, some L.w⟩) 68 :: mapE tBool .i64 L.w L.ws :: bigL (l1 ++ l2) :: cel t.b (T61.cells ⟨some t1.ml, some t1.mw, some t1.md⟩) 62 :: mapE tPtr .i64 t1.ml (ptrs t1.locks) :: mapE (tInt .i64) .i64 t1.mw t1.waits :: mapE T77 .i64 t1.md t1.dead :: cel b5 (T33.cells Z33) 34 :: l) w') ∧ (q.length - s').toNat < (q.length - i).toNat) R := by
        intro g w hg H R
        unfold F11_j4
        split
        · rename_i hgt
          refine ld_st (x := ws) 4 H rfl rfl rfl ?_
          refine apl_row (fun _ => rfl) 0 H rfl (by simp only [List.length_singleton]; omega) fun ws2 w8 H => ?_
          refine st_st (x := ws2) 4 H rfl rfl (Nat.le_of_ble_eq_true rfl) fun w9 H => ?_
          unfold F11_j3
          rw [e1]
          refine ⟨⟨by omega, by omega, ws2, ?_⟩, by omega⟩
          rw [show (i + 1).toNat = i.toNat + 1 from by omega, htk, List.filter_append, List.filter_cons, ← hg, if_pos hgt, List.filter_nil]
          exact H.ord [1, 2, 3, 4]
        · rename_i hgf
          unfold F11_j3
          rw [e1]
          refine ⟨⟨by omega, by omega, ws, ?_⟩, by omega⟩
          rw [show (i + 1).toNat = i.toNat + 1 from by omega, htk, List.filter_append, List.filter_cons, ← hg, if_neg hgf, List.filter_nil, List.append_nil]
          exact H
      split
      · rename_i hgt
        refine ld_st (x := some L.h) 5 H rfl rfl rfl ?_
        refine mget_st 2 H rfl rfl ?_
        obtain ⟨g, c, hfv, hen, h⟩ := no_spec (Know.tail (Know.tail (Know.tail (Know.here (m := AgP.mono) (φ := AgP fn x.Tx x.Write))))) H o ((L.hs.lookup o).getD false)
        refine ⟨g, c, hfv, hen, cl_mono h ?_⟩
        rintro g2 w8 ⟨rfl, H⟩
        exact tail _ _ (by rw [hgt]; rfl) H _
      · rename_i hgf
        exact tail false _ (by simp only [Bool.not_eq_true] at hgf; rw [hgf]; rfl) H _
    · rename_i hc
      have hc : i = q.length := by simp at hc; omega
      subst hc
      have et : q.take ((q.length : Int)).toNat = q := by simp
      rw [et, hwe] at H
      rw [et, hwe] at hfl
      clear i0 i1 hc et
      refine ld_st (x := ws) 4 H rfl rfl rfl ?_
      have H := closed hsp (by rw [hb]; exact H.ord [5, 2, 6, 7, 8, 9, 10, 11])
      have H := (((H.front 2).drop).front 2).drop
      have H : St W (tabA t1 :: row (tInt .i64) 3 1 ws (wounded m x) :: cel b31 (T33.cells ⟨false, ws, nilS⟩) 34 :: cel b5 (T33.cells Z33) 34 :: l) w := H
      have lws := row_len (H.front 1)
      refine lp_i (fun (i : Int) w => 0 ≤ i ∧ i ≤ (wounded m x).length ∧ ∃ t2 L2 a1 a2, t2.b = t.b ∧ t2.locks = a1 ++ (x.Key, L2) :: a2 ∧ L2.b = L.b ∧ Rel t2 (((wounded m x).take i.toNat).foldl wound m) (n + 1) ∧ St W (tabA t2 :: row (tInt .i64) 3 1 ws (wounded m x) :: cel b31 (T33.cells ⟨false, ws, nilS⟩) 34 :: cel b5 (T33.cells Z33) 34 :: l) w) (fun i => ((wounded m x).length - i).toNat)
        ⟨Int.le_refl 0, by omega, t1, L, l1, l2, hb, hsp, rfl, rel, H⟩ ?_
      have hLb : L.b = L.b := rfl
      generalize hbb : L.b = lb
      clear H rel hmem hsz hwe hb hsp hLb
      rintro i w ⟨i0, i1, t2, L2, a1, a2, hb, hsp, hLb, rel, H⟩
      unfold F11_l5
      split
      · rename_i hc
        have hc : i < (wounded m x).length := by simp at hc; omega
        have e1 : IntKind.i64.wrap (i + 1) = i + 1 := wrap_i64 (by omega) (by omega)
        have hy : (wounded m x)[i.toNat]? = some (wounded m x)[i.toNat] := List.getElem?_eq_getElem (by omega)
        have hfo : ((wounded m x).take (i.toNat + 1)).foldl wound m = wound (((wounded m x).take i.toNat).foldl wound m) (wounded m x)[i.toNat] := by
          rw [List.take_succ_eq_append_getElem (by omega), List.foldl_append]; rfl
        generalize (wounded m x)[i.toNat] = o at hy hfo
        obtain ⟨a, ha⟩ := row_ix (sz := 1) (i := i) (H.front 1) i0 hc
        refine ex_i a ha ?_
        refine ex_i o (rd_row (T := tInt .i64) (fun _ => rfl) ha hy (H.front 1)) ?_
        have hfr := free_spec (tx := o) H
        rw [hb] at hfr
        refine cl_mono hfr ?_
        rintro _ w8 H
        have H := tab_open H
        rw [show (freeT o t2).b = t.b from hb] at H
        refine ld_st (x := some t2.md) 0 H rfl rfl rfl ?_
        refine mput_st 3 H rfl rfl fun w9 H => ?_
        have H := tab_shut (t := woundT o t2) (by rw [show (woundT o t2).b = t.b from hb]; exact H.ord [1, 2, 3, 0, 4])
        rw [e1]
        refine ⟨⟨by omega, by omega, woundT o t2, frL o L2, a1.map (fun e => (e.1, frL o e.2)), a2.map (fun e => (e.1, frL o e.2)), hb, ?_, by rw [← hLb]; rfl, ?_, H⟩, by omega⟩
        · show t2.locks.map _ = _
          rw [hsp, List.map_append, List.map_cons]
        · rw [show (i + 1).toNat = i.toNat + 1 from by omega, hfo]
          exact rel.wound o
      · rename_i hc
        have hc : i = (wounded m x).length := by simp at hc; omega
        subst hc
        have et : (wounded m x).take (((wounded m x).length : Int)).toNat = wounded m x := by simp
        rw [et] at rel
        have hls := wound_lens (wounded m x) m
        have hsubW : (((wounded m x).foldl wound m).W).Sublist m.W := by
          have : ∀ (P : List Int) (m : Md), ((P.foldl wound m).W).Sublist m.W := by
            intro P
            induction P with
            | nil => intro m; exact List.Sublist.refl _
            | cons o P ih => intro m; exact (ih (wound m o)).trans List.filter_sublist
          exact this _ m
        have hno2 : ∀ y ∈ ((wounded m x).foldl wound m).W, y.Tx ≠ x.Tx := fun y hy => hno y (hsubW.subset hy)
        have hNa : ((asked m x).W.map (·.Tx)).Nodup := by
          show ((put ((wounded m x).foldl wound m).W x).map (·.Tx)).Nodup
          rw [(put_perm.map _).nodup_iff, List.map_cons]
          refine List.nodup_cons.2 ⟨fun hm => ?_, hN.sublist (hsubW.map _)⟩
          obtain ⟨y, hy, e⟩ := List.mem_map.1 hm
          exact hno2 y hy e
        have hWa : (asked m x).W.length ≤ 1000 := by
          show (put _ _).length ≤ _
          rw [put_len]; omega
        have H := opened hsp H
        rw [hb, hLb] at H
        refine ld_st (x := some L2.w) 0 H rfl rfl rfl ?_
        refine mput_st 2 H rfl rfl fun w8 H => ?_
        refine ld_st (x := some t2.mw) 4 H rfl rfl rfl ?_
        refine mput_st 6 H rfl rfl fun w9 H => ?_
        -- mapE mw, mapE w, cel L.b, mapE h, bigL, cel t.b, mapE ml, mapE md, row ws, cel b31, cel b5
        have H := H.ord [2, 3, 1, 4, 5, 6, 0]
        have hpt : ptrs t2.locks = ptrs (waitT t2 a1 a2 x.Key L2 x).locks := by
          rw [hsp]; unfold waitT ptrs
          simp
        rw [hpt] at H
        have H := closed (t := waitT t2 a1 a2 x.Key L2 x) (L := { L2 with ws := ups x.Tx x.Write L2.ws }) rfl (by rw [show (waitT t2 a1 a2 x.Key L2 x).b = t.b from hb, show ({ L2 with ws := ups x.Tx x.Write L2.ws } : LkP).b = lb from hLb]; exact H)
        have relw : Rel (waitT t2 a1 a2 x.Key L2 x) (asked m x) (n + 2) := rel.wait hsp rfl hR hno2
        have hgv := give_T (by omega) relw hNa hWa H
        rw [show (waitT t2 a1 a2 x.Key L2 x).b = t.b from hb] at hgv
        refine cl_mono hgv ?_
        rintro r76 w10 ⟨t3, hb3, rel3, H⟩
        have hgl := (give_lens (asked m x).W (asked m x)).2.2
        generalize give (asked m x).W (asked m x) = G at H hgl rel3
        obtain ⟨M2, outs⟩ := G
        simp only at H hgl rel3 ⊢
        have lg := row_len H
        have H := row_nil T55 56 2 H
        refine lp_i (fun (i : Int) w => 0 ≤ i ∧ i ≤ outs.length ∧ ∃ wk, St W (row T55 56 2 wk ((outs.take i.toNat).filter fun g => g.Tx != x.Tx) :: row T55 56 2 r76 outs :: tabA t3 :: row (tInt .i64) 3 1 ws (wounded m x) :: cel b31 (T33.cells ⟨(outs.take i.toNat).any (fun g => g.Tx == x.Tx), ws, wk⟩) 34 :: cel b5 (T33.cells Z33) 34 :: l) w) (fun i => (outs.length - i).toNat)
          ⟨Int.le_refl 0, by omega, nilS, H⟩ ?_
        clear H rel relw hNa hsp
        rintro i w ⟨i0, i1, wk, H⟩
        have hfl2 : ((outs.take i.toNat).filter fun g => g.Tx != x.Tx).length ≤ outs.length := Nat.le_trans (List.length_filter_le _ _) (List.length_take_le' _ _)
        unfold F11_l6
        split
        · rename_i hc
          have hc : i < outs.length := by simp at hc; omega
          have e1 : IntKind.i64.wrap (i + 1) = i + 1 := wrap_i64 (by omega) (by omega)
          have hy : outs[i.toNat]? = some outs[i.toNat] := List.getElem?_eq_getElem (by omega)
          have htk : outs.take (i.toNat + 1) = outs.take i.toNat ++ [outs[i.toNat]] := List.take_succ_eq_append_getElem (by omega)
          generalize outs[i.toNat] = g at hy htk
          obtain ⟨a, ha⟩ := row_ix (sz := 2) (i := i) (H.front 1) i0 hc
          refine ex_i a ha ?_
          refine ex_i g (rd_row (T := T55) (fun _ => rfl) ha hy (H.front 1)) ?_
          refine nw_st H fun b83 w11 H => ?_
          refine st_st (x := g) 0 H rfl rfl (Nat.le_of_ble_eq_true rfl) fun w12 H => ?_
          refine ld_st (x := g.Tx) 0 H rfl rfl rfl ?_
          split
          · rename_i hk
            refine st_st (x := true) 5 H rfl rfl (Nat.le_of_ble_eq_true rfl) fun w13 H => ?_
            unfold F11_j7
            rw [e1]
            refine ⟨⟨by omega, by omega, wk, ?_⟩, by omega⟩
            rw [show (i + 1).toNat = i.toNat + 1 from by omega, htk, List.any_append, List.filter_append]
            have ea : ([g].any fun g => g.Tx == x.Tx) = true := by simpa using hk
            have ef : ([g].filter fun g => g.Tx != x.Tx) = [] := by
              have hk : g.Tx = x.Tx := by simpa using hk
              simp [hk]
            rw [ea, ef, List.append_nil, Bool.or_true]
            exact (((H.front 1).drop).ord [1, 2, 3, 4, 0])
          · rename_i hk
            refine ld_st (x := wk) 5 H rfl rfl rfl ?_
            refine ld_st (x := g) 0 H rfl rfl (at_all _) ?_
            refine apl_row (fun _ => rfl) 1 H rfl (by simp only [List.length_singleton]; omega) fun wk2 w13 H => ?_
            refine st_st (x := wk2) 5 H rfl rfl (Nat.le_of_ble_eq_true rfl) fun w14 H => ?_
            unfold F11_j7
            rw [e1]
            refine ⟨⟨by omega, by omega, wk2, ?_⟩, by omega⟩
            rw [show (i + 1).toNat = i.toNat + 1 from by omega, htk, List.any_append, List.filter_append]
            have hk : g.Tx ≠ x.Tx := by simpa using hk
            have ea : ([g].any fun g => g.Tx == x.Tx) = false := by simpa using hk
            have ef : ([g].filter fun g => g.Tx != x.Tx) = [g] := by simp [hk]
            rw [ea, ef, Bool.or_false]
            -- cel b31, row wk, cel b83, row r76, tabA, row ws, cel b5
            exact (((H.front 2).drop).ord [1, 2, 3, 4, 0])
        · rename_i hc
          have hc : i = outs.length := by simp at hc; omega
          subst hc
          have et : outs.take ((outs.length : Int)).toNat = outs := by simp
          rw [et] at H
          refine ld_st (x := (⟨outs.any (fun g => g.Tx == x.Tx), ws, wk⟩ : S33)) 4 H rfl rfl (at_all _) ?_
          refine st_st (x := (⟨outs.any (fun g => g.Tx == x.Tx), ws, wk⟩ : S33)) 5 H rfl rfl (Nat.le_of_ble_eq_true rfl) fun w11 H => ?_
          have H : St W (cel b5 (T33.cells ⟨outs.any (fun g => g.Tx == x.Tx), ws, wk⟩) 34 :: row T55 56 2 wk (outs.filter fun g => g.Tx != x.Tx) :: row T55 56 2 r76 outs :: tabA t3 :: row (tInt .i64) 3 1 ws (wounded m x) :: cel b31 (T33.cells ⟨outs.any (fun g => g.Tx == x.Tx), ws, wk⟩) 34 :: l) w11 := H
          refine ld_st (x := (⟨outs.any (fun g => g.Tx == x.Tx), ws, wk⟩ : S33)) 0 H rfl rfl (at_all _) ?_
          refine ⟨t3, hb3, rfl, rfl, rel3, ?_⟩
          have H := H.ord [4, 1, 3]
          exact ((((H.front 3).drop).front 3).drop.front 3).drop
  have H := tab_open H
  refine ld_st (x := some t.ml) 0 H rfl rfl rfl ?_
  refine mget_st 1 H rfl rfl ?_
  rw [lookup_ptrs]
  cases hl : t.locks.lookup x.Key with
  | none =>
    rw [if_pos (by simp)]
    refine nwMap_st H fun m1 w3 H => ?_
    refine nwMap_st H fun m2 w4 H => ?_
    refine nw_st H fun bl w5 H => ?_
    refine ld_st (x := some t.ml) 3 H rfl rfl rfl ?_
    refine mput_st 4 H rfl rfl fun w6 H => ?_
    -- mapE ml, cel bl, map m2, map m1, cel t.b, mapE mw, mapE md, bigL, cel b5
    have hup : ∀ (es : List (Int × LkP)) (L : LkP), es.lookup x.Key = none → ups x.Key (some (⟨L.b, 0, none⟩ : Addr)) (ptrs es) = ptrs (es ++ [(x.Key, L)]) := by
      intro es L h
      induction es with
      | nil => rfl
      | cons e es ih =>
        obtain ⟨a, A⟩ := e
        simp only [List.lookup] at h
        by_cases c : (x.Key == a) = true
        · rw [c] at h; cases h
        · simp only [Bool.not_eq_true] at c
          rw [c] at h
          have ih := ih h
          unfold ptrs at ih ⊢
          simp only [List.map_cons, List.cons_append, ups, c, Bool.false_eq_true, if_false, ih]
    rw [hup t.locks ⟨bl, m1, m2, [], []⟩ hl] at H
    have H := mapE_new tBool .i64 (H.front 2)
    have H := mapE_new tBool .i64 (H.front 3)
    -- mapE m1, mapE m2, mapE ml, cel bl, cel t.b, mapE mw, mapE md, bigL, cel b5
    have H := lock_shut (L := ⟨bl, m1, m2, [], []⟩) (H.ord [3, 0, 1])
    have H : St W (lockA ⟨bl, m1, m2, [], []⟩ :: bigL (t.locks ++ []) :: mapE tPtr .i64 t.ml (ptrs (t.locks ++ [(x.Key, ⟨bl, m1, m2, [], []⟩)])) :: cel t.b (T61.cells ⟨some t.ml, some t.mw, some t.md⟩) 62 :: mapE (tInt .i64) .i64 t.mw t.waits :: mapE T77 .i64 t.md t.dead :: cel b5 (T33.cells Z33) 34 :: l) w6 := by
      rw [List.append_nil]; exact H.ord [0, 5]
    have H := big_put (e := (x.Key, ⟨bl, m1, m2, [], []⟩)) H
    have H : St W (tabA { t with locks := t.locks ++ [(x.Key, ⟨bl, m1, m2, [], []⟩)] } :: cel b5 (T33.cells Z33) 34 :: l) w6 := tab_shut (H.ord [2, 1, 3, 4, 0])
    exact J { t with locks := t.locks ++ [(x.Key, ⟨bl, m1, m2, [], []⟩)] } t.locks [] ⟨bl, m1, m2, [], []⟩ w6 rfl rfl (r.newlock hkey hl rfl rfl) H
  | some L =>
    rw [if_neg (by simp)]
    obtain ⟨l1, l2, e⟩ := lookup_split hl
    exact J t l1 l2 L w2 rfl e (r.mono (by omega)) (tab_shut H)
end
end Go.Proofs.Ytojcgejjdfcaaaa.Locks
