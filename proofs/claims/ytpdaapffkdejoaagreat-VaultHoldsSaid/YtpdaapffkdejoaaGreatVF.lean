/- The law Holds: plain law and walk. -/
import Derived.Test.YtpdaapffkdejoaaGreatVC
import Derived.Test.YtpdaapffkdejoaaGreatOp
import Derived.Test.YtpdaapffkdejoaaGreatFL5
namespace Go.Proofs.YtpdaapffkdejoaaGreat.Vault
open Go Go.Proofs.YtpdaapffkdejoaaGreat.Cf Go.Proofs.YtpdaapffkdejoaaGreat.Store Go.Proofs.YtpdaapffkdejoaaGreat.Num
set_option linter.unusedVariables false
set_option linter.unusedSimpArgs false
set_option maxRecDepth 100000
theorem heldL_key {v : Va} (F : Fit v) {k : Int} (h : k ∈ sortI (v.held.map (·.1))) : v.held.lookup k = some (heldOf v k) ∧ (heldOf v k).Part.ID = k := by
  obtain ⟨e, he, rfl⟩ := List.mem_map.1 ((sortI_p _).mem_iff.1 h)
  have hl := mem_look F.nodH (k := e.1) (v := e.2) he
  rw [heldOf_of hl]
  exact ⟨hl, (F.ids _ _ hl).1⟩
theorem heldL_look {v : Va} (F : Fit v) {h : Held} (hh : h ∈ heldL v) : v.held.lookup h.Part.ID = some h := by
  obtain ⟨k, hk, rfl⟩ := List.mem_map.1 hh
  obtain ⟨h1, h2⟩ := heldL_key F hk
  rw [h2]; exact h1
theorem heldL_mem {v : Va} (F : Fit v) {id : Int} {h : Held} (e : v.held.lookup id = some h) : h ∈ heldL v := by
  refine List.mem_map.2 ⟨id, (sortI_p _).mem_iff.2 (List.mem_map.2 ⟨_, look_mem e, rfl⟩), heldOf_of e⟩
theorem heldL_pw {v : Va} (F : Fit v) : (heldL v).Pairwise fun a b => a.Part.ID < b.Part.ID := by
  unfold heldL
  rw [List.pairwise_map]
  refine (sortI_lt F.nodH).imp_of_mem fun {a b} ha hb h => ?_
  rw [(heldL_key F ha).2, (heldL_key F hb).2]; exact h
theorem heldL_len {v : Va} (F : Fit v) : (heldL v).length ≤ 5000 := by
  unfold heldL
  rw [List.length_map, (sortI_p _).length_eq, List.length_map]
  exact held_len F
theorem hold_busy {v : Va} (F : Fit v) {id : Int} {h : Held} (e : v.held.lookup id = some h) {p : Part} (hp : p.Account = h.Part.Account) (t : Int) : (holdV v t p).1 = v ∧ (holdV v t p).2 ≠ 0 := by
  unfold holdV
  split
  · rename_i c; exact ⟨rfl, c⟩
  · split
    · rename_i c; exact ⟨rfl, c⟩
    · rename_i c
      have c : (whyV v p).2 = 0 := Classical.not_not.1 c
      have := (whyV_ok c).2.2.2.2.2.2.2.1
      rw [hp, (F.ids id h e).2.2.2.2.2.1] at this
      cases this
theorem close_busy {v : Va} (F : Fit v) {id : Int} {h : Held} (e : v.held.lookup id = some h) : closeV v h.T_ = (v, 160) := by
  obtain ⟨_, _, _, _, _, _, h7, h8, _⟩ := F.ids id h e
  have ht := F.top
  have hm := F.sto.mark
  unfold closeV
  rw [if_neg (by omega), if_pos (List.any_eq_true.2 ⟨_, look_mem e, by simp⟩)]
section
variable {W w : World} {l l' : List Assn}
theorem topc_spec {b : Nat} {v : Va} {q : VaP} (H : St W (cel b (TV.cells (vval v q)) 35 :: l) w) : cl Tryz.prog 18 [.pointer (some ⟨b, 0, none⟩)] (tInt .i64) w fun r w' => r = v.top ∧ St W (cel b (TV.cells (vval v q)) 35 :: l) w' := by
  refine F18_ok ?_
  unfold F18
  refine nc_st rfl ?_
  refine ld_st (x := v.top) 0 H rfl rfl rfl ?_
  exact ⟨rfl, H⟩
theorem holds_walk (W : World) (f : Nat) (s : Slc) (o : OpL) (g0 : G22 W f) (g1 : G23 W s) : cl Tryz.prog 5 [.float .f64 f, tSlc.enc s, TOp.enc o] tBool W fun r w' => r = true ∧ RowKit.Below W.heap.size W w' := by
  have hf : f < 18446744073709551616 := g0
  obtain ⟨⟨hcap, hcap2⟩, os, hI, hro⟩ := g1
  have hid : ∀ o ∈ os, o.ID ≤ 9223372036854775807 := fun o ho => (hI o ho).2.1.2
  have hsl := hro.1
  have H : St W [ro TOp s os, old W] W := ro_old hro (St.start W)
  generalize hB : ([ro TOp s os, old W] : List Assn) = base at *
  have kA : See 6 base TOp s os := by rw [← hB]; exact See.ro lenOp (Know.here (m := RoP.mono))
  have bel : ∀ w, St W base w → RowKit.Below W.heap.size W w := by
    intro w H
    rw [← hB] at H
    exact H.drop.below
  clear hB
  refine F5_ok ?_
  unfold F5
  refine nw_st H fun b4 w H => ?_
  refine cl_mono (made_spec hf hid kA.tail H) ?_
  rintro p w ⟨h1, h2⟩
  by_cases c : rateOk f
  · obtain ⟨b, rfl, H⟩ := h1 c
    have F : Fit (playV (v0 f) (os.take 40)) := (Fit.new c).play fun o ho => hid o (List.mem_of_mem_take ho)
    generalize playV (v0 f) (os.take 40) = v at *
    refine cl_mono (awake_spec H) ?_
    rintro r w ⟨rfl, H⟩
    rw [if_neg (by simp)]
    refine cl_mono (held_spec F H) ?_
    intro r13 w H
    have hlk : ∀ h ∈ heldL v, v.held.lookup h.Part.ID = some h := fun h hh => heldL_look F hh
    have hpw := heldL_pw F
    have hll := heldL_len F
    have hr := row_len H
    generalize heldL v = L at *
    have hr2 : (r13.len : Int) = L.length := by omega
    have H := H.front 1
    refine lp_p (fun i w => 0 ≤ i ∧ i ≤ L.length ∧ St W (vaA b v :: row THe 55 6 r13 L :: cel b4 (TOp.cells o) 42 :: base) w) (fun i => (L.length - i).toNat) ⟨Int.le_refl 0, by omega, H⟩ ?_
    clear H h1 h2
    rintro i w ⟨i0, i1, H⟩ K hK
    unfold F5_l1
    rw [hr2]
    split
    · rename_i hc
      have hc : i < L.length := by simpa using hc
      have e1 : IntKind.i64.wrap (i + 1) = i + 1 := wrap_i64 (by omega) (by omega)
      obtain ⟨a, ha⟩ := row_ix (i := i) (H.front 1) i0 hc
      have hx : L[i.toNat]? = some L[i.toNat] := List.getElem?_eq_getElem (by omega)
      have hmem : L[i.toNat] ∈ L := List.getElem_mem _
      have hil : i.toNat < L.length := by omega
      have hprev : ∀ k (hk : k < L.length), k < i.toNat → (L[k]'hk).Part.ID < (L[i.toNat]'hil).Part.ID := fun k hk hki => (List.pairwise_iff_getElem.1 hpw) k i.toNat hk (by omega) hki
      generalize L[i.toNat] = h at hx hmem hprev
      have hh := hlk h hmem
      obtain ⟨g1, g2, g3, g4, g5, g6, g7, g8, g9, _⟩ := F.ids _ _ hh
      refine ex_i a ha ?_
      refine ex_i h (rd_row (fun _ => rfl) ha hx (H.front 1)) ?_
      refine nw_st H fun b19 w H => ?_
      refine vst_st (x := Z54) (y := h) len55 0 H rfl fun w H => ?_
      refine ld_st (x := h.Part.ID) 0 H rfl rfl rfl ?_
      refine cl_mono (fate_spec (H.front 1)) ?_
      rintro r w ⟨hr, H⟩
      rw [fateV_of g5] at hr
      simp only at hr
      subst hr
      refine dr_st H fun w H => ?_
      have H := H.front 1
      refine ex_i h.T_ (fun _ => rdat_cel (tInt .i64) H rfl rfl) ?_
      rw [if_neg (by simp)]
      refine nc_st rfl ?_
      refine ld_st (x := h.T_) 0 H rfl rfl rfl ?_
      obtain ⟨q, H⟩ := va_open (H.front 1)
      refine ex_i (⟨some ⟨q.s, 0, none⟩⟩ : S29) (rdat_cel T29 H rfl rfl) ?_
      refine cl_mono (vclosed_spec (H.front 1)) ?_
      rintro r w ⟨rfl, H⟩
      refine ⟨fun _ => rdat_cel (tInt .i64) (H.front 5) rfl rfl, ?_⟩
      refine ⟨rdat_cel (tInt .i64) (H.front 5) rfl rfl, ?_⟩
      rw [if_neg (by simp; omega)]
      refine ld_st (x := h.T_) 5 H rfl rfl rfl ?_
      refine cl_mono (topc_spec (H.front 1)) ?_
      rintro r w ⟨rfl, H⟩
      refine ⟨fun _ => rdat_cel (tInt .i64) (H.front 5) rfl rfl, ?_⟩
      refine ⟨rdat_cel (tInt .i64) (H.front 5) rfl rfl, ?_⟩
      refine ⟨rdat_cel T29 H rfl rfl, ?_⟩
      refine ⟨rdat_cel (tInt .i64) (H.front 5) rfl rfl, ?_⟩
      have H5 := H.front 5
      have H := va_shut (p := q) H
      -- the one ahead
      have hA : ∃ a84, (((!(decide (h.T_ > v.top))) && (decide (i > (0 : Int)))) = true → (IxA r13 6 (IntKind.i64.wrap (i - (1 : Int)))) a84) ∧ ∃ x85, (((!(decide (h.T_ > v.top))) && (decide (i > (0 : Int)))) = true → (RdAt (tInt .i64) ((a84.add 0).add 0) w) x85) ∧ (0 < i → x85 < h.Part.ID) := by
        by_cases c0 : 0 < i
        · have e2 : IntKind.i64.wrap (i - 1) = i - 1 := wrap_i64 (by omega) (by omega)
          obtain ⟨a84, ha84⟩ := row_ix (i := i - 1) (H.front 2) (by omega) (by omega)
          have hy : L[(i - 1).toNat]? = some L[(i - 1).toNat] := List.getElem?_eq_getElem (by omega)
          refine ⟨a84, fun _ => by rw [e2]; exact ha84, (L[(i - 1).toNat]).Part.ID, fun _ => ?_, fun _ => hprev (i - 1).toNat (by omega) (by omega)⟩
          exact fld_row (x := L[(i - 1).toNat]) (U := tInt .i64) (fun _ => rfl) ha84 hy rfl (H.front 2)
        · refine ⟨⟨0, 0, none⟩, fun hh => ?_, 0, fun hh => ?_, fun h => absurd h c0⟩
          · rw [Bool.and_eq_true] at hh
            exact absurd (by simpa using hh.2) c0
          · rw [Bool.and_eq_true] at hh
            exact absurd (by simpa using hh.2) c0
      obtain ⟨a84, hA1, x85, hA2, hA3⟩ := hA
      refine ex_i a84 hA1 ?_
      refine ex_i x85 hA2 ?_
      refine ex_i h.Part.ID (fun _ => rdat_cel (tInt .i64) H5 rfl rfl) ?_
      clear H5
      have ef : ((decide (h.T_ > v.top)) || ((decide (i > (0 : Int))) && (decide (x85 ≥ h.Part.ID)))) = false := by
        rw [Bool.or_eq_false_iff, Bool.and_eq_false_iff]
        refine ⟨by simpa using g8, ?_⟩
        by_cases c0 : 0 < i
        · right; have := hA3 c0; simpa using this
        · left; simpa using c0
      rw [ef]
      unfold F5_j2
      rw [if_neg (by simp)]
      refine lp_p (fun k w => 0 ≤ k ∧ k ≤ i ∧ St W (vaA b v :: cel b19 (THe.cells h) 55 :: row THe 55 6 r13 L :: cel b4 (TOp.cells o) 42 :: base) w) (fun k => (i - k).toNat) ⟨Int.le_refl 0, by omega, H⟩ ?_
      clear H hA1 hA2 hA3 ef
      rintro k w ⟨k0, k1, H⟩ K2 hK2
      unfold F5_l3
      split
      · rename_i hc2
        have hc2 : k < i := by simpa using hc2
        have e2 : IntKind.i64.wrap (k + 1) = k + 1 := wrap_i64 (by omega) (by omega)
        refine dr_st H fun w H => ?_
        obtain ⟨a31, ha31⟩ := row_ix (i := k) (H.front 2) k0 (by omega)
        have hy : L[k.toNat]? = some L[k.toNat] := List.getElem?_eq_getElem (by omega)
        have hlt := hprev k.toNat (by omega) (by omega)
        have hm2 : L[k.toNat] ∈ L := List.getElem_mem _
        generalize L[k.toNat] = h' at hy hlt hm2
        refine ex_i a31 ha31 ?_
        refine ex_i h'.Part.Account (fld_row (x := h') (U := tInt .i64) (fun _ => rfl) ha31 hy rfl (H.front 2)) ?_
        refine ld_st (x := h.Part.Account) 1 H rfl rfl rfl ?_
        rw [if_neg (by
          intro hc
          have hc : h'.Part.Account = h.Part.Account := by simpa using hc
          have := (F.ids _ _ (hlk h' hm2)).2.2.2.2.2.1
          rw [hc, g6] at this
          have e3 := Option.some.inj this
          omega), e2]
        exact hK2 _ _ ⟨by omega, by omega, H⟩ (by omega)
      · clear hK2
        refine ld_st (x := h.T_) 1 H rfl rfl rfl ?_
        refine cl_mono (vclose_spec H) ?_
        rintro r w ⟨hr, H⟩
        rw [close_busy F hh] at hr H
        simp only at hr H
        subst hr
        rw [if_neg (by simp)]
        refine vld_st (x := o) 3 H rfl ?_
        refine cl_mono (part_spec H) ?_
        rintro r w ⟨rfl, H⟩
        refine nw_st H fun b41 w H => ?_
        refine vst_st (x := Z52) (y := partL o) len53 0 H rfl fun w H => ?_
        refine ld_st (x := h.Part.Account) 2 H rfl rfl rfl ?_
        refine st_st (x := h.Part.Account) 0 H rfl rfl (Nat.le_of_ble_eq_true rfl) fun w H => ?_
        have H : St W (cel b41 (T52.cells { partL o with Account := h.Part.Account }) 53 :: vaA b v :: cel b19 (THe.cells h) 55 :: row THe 55 6 r13 L :: cel b4 (TOp.cells o) 42 :: base) w := H
        refine ld_st (x := o.T_) 4 H rfl rfl rfl ?_
        refine vld_st (x := { partL o with Account := h.Part.Account }) 0 H rfl ?_
        refine cl_mono (vhold_spec (p := { partL o with Account := h.Part.Account }) F (H.front 1)) ?_
        rintro r w ⟨hr, H⟩
        have hb := hold_busy F hh (p := { partL o with Account := h.Part.Account }) rfl o.T_
        rw [hb.1] at H
        rw [if_neg (by rw [hr]; simpa using hb.2), e1]
        exact hK _ _ ⟨by omega, by omega, ((H.front 1).drop.front 1).drop⟩ (by omega)
    · exact ⟨rfl, bel _ H.drop.drop.drop⟩
  · obtain ⟨rfl, H⟩ := h2 c
    refine cl_mono (awake_spec H) ?_
    rintro r w ⟨rfl, H⟩
    rw [if_pos (by simp)]
    refine cl_mono (awake_spec H) ?_
    rintro r w ⟨rfl, H⟩
    exact ⟨rfl, bel _ H.drop⟩
end
theorem _root_.Go.Proofs.YtpdaapffkdejoaaGreat.walkVaultHolds (W : World) (f : Nat) (s : Slc) (o : OpL) (g0 : G22 W f) (g1 : G23 W s) (g2 : G42 W o) : cl Tryz.prog 5 [.float .f64 f, tSlc.enc s, TOp.enc o] tBool W fun r w' => r = true ∧ RowKit.Below W.heap.size W w' := holds_walk W f s o g0 g1
end Go.Proofs.YtpdaapffkdejoaaGreat.Vault
