/- StoreStays: plain law and walk. -/
import Derived.Test.YtdgdkbfigndndaaKL
import Derived.Test.YtdgdkbfigndndaaF13
namespace Go.Proofs.Ytdgdkbfigndndaa.Store
open Go Go.Proofs.Ytdgdkbfigndndaa.Cf
set_option linter.unusedVariables false
set_option linter.unusedSimpArgs false
set_option maxRecDepth 100000
theorem rise_eq {a b : List S57} (ha : a.Pairwise fun x y => x.Key < y.Key) (hb : b.Pairwise fun x y => x.Key < y.Key) (h : ∀ x, x ∈ a ↔ x ∈ b) : a = b := by
  have na : a.Nodup := ha.imp fun {x y} h e => by subst e; omega
  have nb : b.Nodup := hb.imp fun {x y} h e => by subst e; omega
  exact ((List.perm_ext_iff_of_nodup na nb).2 h).eq_of_pairwise (fun x y _ _ h1 h2 => by omega) ha hb
theorem snap_congr {M M' : Md} {t : Int} (h : timeM M t = 0) (h' : timeM M' t = 0) (hc : ∀ k, cnt (vs M.rows k) t = cnt (vs M'.rows k) t) : snapL M t = snapL M' t :=
  rise_eq snap_rise snap_rise fun x => by rw [snap_mem h, snap_mem h', hc]
theorem cnt_news {M : Md} {t at_ k : Int} {xs : List S57} (h : at_ < t) : cnt (vs (M.rows ++ news t xs) k) at_ = cnt (vs M.rows k) at_ := by
  unfold cnt
  rw [vs_app, upto_app]
  have : upto (vs (news t xs) k) at_ = [] := by
    unfold upto
    rw [List.filter_eq_nil_iff]
    intro v hv
    obtain ⟨r, hr, _, ht, _⟩ := vs_mem hv
    obtain ⟨x, hx, rfl⟩ := List.mem_map.1 hr
    simp only at ht
    simp; omega
  rw [this, List.append_nil]
theorem last_cons {v : S35} {a b : List S35} (h : a.getLast? = b.getLast?) : (v :: a).getLast? = (v :: b).getLast? := by
  rw [List.getLast?_cons, List.getLast?_cons, h]
theorem upto_cons (v : S35) (l : List S35) (t : Int) : upto (v :: l) t = if v.T_ ≤ t then v :: upto l t else upto l t := by
  unfold upto
  by_cases h : v.T_ ≤ t
  · rw [if_pos h, List.filter_cons_of_pos (by simpa using h)]
  · rw [if_neg h, List.filter_cons_of_neg (by simpa using h)]
theorem cnt_keep {m t : Int} (h : m ≤ t) : ∀ l : List S35, cnt (keepV m l) t = cnt l t
  | [] => rfl
  | v :: l => by
    have ih := cnt_keep h l
    unfold cnt at ih ⊢
    unfold keepV
    split
    · rename_i hc
      rw [ih, upto_cons]
      split
      · obtain ⟨q, hq, hq2⟩ := List.any_eq_true.1 hc
        have hm : q ∈ upto l t := List.mem_filter.2 ⟨hq, by simp at hq2 ⊢; omega⟩
        cases hu : upto l t with
        | nil => rw [hu] at hm; cases hm
        | cons u us => rw [List.getLast?_cons_cons]
      · rfl
    · rw [upto_cons, upto_cons]
      split
      · exact last_cons ih
      · exact ih
/-- What was told of a time. -/
def Told (M : Md) (t : Int) (L : List S57) : Prop := 0 ≤ t ∧ t ≤ 1125899906842624 ∧ t ≤ M.closed ∧ (t < M.mark ∨ (timeM M t = 0 ∧ snapL M t = L))
theorem told_step {M : Md} {t : Int} {L : List S57} (h : Told M t L) (o : S32 × List S57) : Told (step M o) t L := by
  obtain ⟨h0, h1, h2, h3⟩ := h
  unfold step
  split
  · unfold putM
    split
    · rename_i he
      have hp := put_ok he
      refine ⟨h0, h1, h2, h3.imp id fun ⟨g1, g2⟩ => ?_⟩
      have g1' : timeM ⟨M.rows ++ news o.1.T_ (o.2.take 120), M.closed, M.mark⟩ t = 0 := g1
      exact ⟨g1', by rw [← g2]; exact snap_congr g1' g1 fun k => cnt_news (by have := hp.time; omega)⟩
    · exact ⟨h0, h1, h2, h3⟩
  · split
    · unfold pruneM
      split
      · rename_i he
        refine ⟨h0, h1, h2, ?_⟩
        by_cases hm : t < max M.mark o.1.T_
        · exact .inl hm
        · right
          obtain ⟨g1, g2⟩ := h3.resolve_left (by omega)
          have g1' : timeM ⟨keep (max M.mark o.1.T_) M.rows, M.closed, max M.mark o.1.T_⟩ t = 0 := timeM_of h0 h1 h2 (by simp only; omega)
          exact ⟨g1', by rw [← g2]; exact snap_congr g1' g1 fun k => by rw [vs_keep]; exact cnt_keep (by omega) _⟩
      · exact ⟨h0, h1, h2, h3⟩
    · split
      · unfold closeM
        split
        · refine ⟨h0, h1, by simp only; omega, h3.imp id fun ⟨g1, g2⟩ => ?_⟩
          obtain ⟨_, _, _, hm⟩ := timeM_ok g1
          have g1' : timeM ⟨M.rows, max M.closed o.1.T_, M.mark⟩ t = 0 := timeM_of h0 h1 (by simp only; omega) hm
          exact ⟨g1', by rw [← g2]; exact snap_congr g1' g1 fun k => rfl⟩
        · exact ⟨h0, h1, h2, h3⟩
      · exact ⟨h0, h1, h2, h3⟩
theorem told_play {t : Int} {L : List S57} : ∀ {os : List (S32 × List S57)} {M : Md}, Told M t L → Told (play M os) t L
  | [], _, h => h
  | o :: os, M, h => told_play (os := os) (told_step h o)
theorem stays_walk (W : World) (s s' : Slc) (at_ : Int) (g0 : G22 W s) (g1 : G22 W s') : cl Try.prog 4 [tSlc.enc s, tSlc.enc s', .int .i64 at_] tBool W fun r w' => r = true ∧ RowKit.Below W.heap.size W w' := by
  obtain ⟨os, hos⟩ := ops_of g0
  obtain ⟨os', hos'⟩ := ops_of g1
  have H := St.start W
  have ko := know_old W
  refine F4_ok ?_
  unfold F4
  refine cl_mono (made_spec (know_ops ko hos) H) ?_
  rintro r w2 ⟨b, rfl, H⟩
  refine cl_mono (awake_spec H) ?_
  rintro r w3 ⟨rfl, H⟩
  rw [if_neg (by simp)]
  have hI : Inv (play M0 (os.take 30)) 3000 := (Inv.zero.play (os := os.take 30)).more (by rw [List.length_take]; omega)
  generalize play M0 (os.take 30) = M at *
  refine cl_mono (snap_spec (t := at_) hI (by omega) H) ?_
  rintro ⟨q, e⟩ w4 ⟨he, H⟩
  simp only at he H ⊢
  subst he
  have hlen := row_len H
  have H := (row_stay H).front 1
  have hsl := Nat.le_trans (snap_len (M := M) (t := at_)) hI.len
  have k1 : Know [old W] (RoP T32 s' (os'.map (·.1))) := (know_ops ko hos').imp fun _ h => h.1
  have hso := k1.tail.tail.len H
  rw [List.length_map] at hso
  refine lp_i (fun i w => 0 ≤ i ∧ i ≤ os'.length ∧ i ≤ 30 ∧ St W (sto b (play M (os'.take i.toNat)) :: ro T57 q (snapL M at_) :: [old W]) w) (fun i => (30 - i).toNat) ⟨Int.le_refl 0, by omega, by omega, H⟩ ?_
  clear H
  rintro i w ⟨h0, h1, h2, H⟩
  have hIi : Inv (play M (os'.take i.toNat)) 6000 := (hI.play (os := os'.take i.toNat)).more (by rw [List.length_take]; omega)
  unfold F4_l1
  rw [hso]
  split
  · rename_i hc
    have hc : i < os'.length ∧ i < 30 := by simpa using hc
    have e1 : IntKind.i64.wrap (i + 1) = i + 1 := wrap_i64 (by omega) (by omega)
    obtain ⟨a, ha⟩ := k1.tail.tail.ix (sz := 4) (i := i) H h0 (by rw [List.length_map]; exact hc.1)
    have hx : (os'.map (·.1))[i.toNat]? = some (os'[i.toNat]).1 := by rw [List.getElem?_map, List.getElem?_eq_getElem (by omega)]; rfl
    have hp := hos'.2 _ (List.getElem_mem (l := os') (n := i.toNat) (by omega))
    have hpt := play_take (M := M) (os := os') (i := i.toNat) (by omega)
    rw [← show (i + 1).toNat = i.toNat + 1 from by omega] at hpt
    generalize os'[i.toNat] = o at hx hp hpt
    refine ex_i a ha ?_
    refine ex_i o.1 (k1.tail.tail.rd (fun _ => rfl) ha hx H) ?_
    refine cl_mono (one_spec (xs := o.2) hIi (by omega) hp.1 ((ko.old hp.2).tail) H) ?_
    intro r w5 H
    rw [e1]
    refine ⟨⟨by omega, by omega, by omega, ?_⟩, by omega⟩
    rw [hpt]; exact H
  · have htold : timeM M at_ = 0 → Told (play M (os'.take i.toNat)) at_ (snapL M at_) := fun h => told_play (by
      obtain ⟨g0, g1, g2, g3⟩ := timeM_ok h
      exact ⟨g0, g1, g2, .inr ⟨h, rfl⟩⟩)
    generalize play M (os'.take i.toNat) = M' at *
    refine cl_mono (snap_spec (t := at_) hIi (by omega) H) ?_
    rintro ⟨q', e'⟩ w5 ⟨he, H⟩
    simp only at he H ⊢
    subst he
    have H := (row_stay H).front 1
    have hend : ∀ {w : World}, St W (sto b M' :: ro T57 q' (snapL M' at_) :: ro T57 q (snapL M at_) :: [old W]) w → RowKit.Below W.heap.size W w := fun H => Know.below ko.tail.tail.tail H
    split
    · rename_i hc
      have hc : timeM M at_ ≠ 0 := by simpa using hc
      have hs0 : snapL M at_ = [] := by unfold snapL; rw [if_neg hc]
      rw [hs0] at hlen
      exact ⟨by rw [hlen]; rfl, hend H⟩
    · rename_i hc
      have hc : timeM M at_ = 0 := by simpa using hc
      obtain ⟨t0, t1, t2, t3⟩ := htold hc
      split
      · rename_i hc2
        have hc2 : timeM M' at_ = 0 := by simpa using hc2
        obtain ⟨_, _, _, hm⟩ := timeM_ok hc2
        obtain ⟨_, hsame⟩ := t3.resolve_left (by omega)
        refine cl_mono (same_spec (a := snapL M at_) (b := snapL M' at_) (by omega) ((Know.here (m := RoP.mono)).tail.tail) ((Know.here (m := RoP.mono)).tail) H) ?_
        rintro r w6 ⟨hr, H⟩
        have hr := hr.2 hsame.symm
        subst hr
        unfold F4_j2
        rw [if_pos rfl]
        unfold F4_j3
        exact ⟨rfl, hend H⟩
      · rename_i hc2
        have hc2 : timeM M' at_ ≠ 0 := by simpa using hc2
        have hm : at_ < M'.mark := by
          rcases t3 with h | h
          · exact h
          · exact absurd h.1 hc2
        have h126 : timeM M' at_ = 126 := by
          unfold timeM
          rw [if_neg (by omega), if_neg (by omega), if_pos (by omega)]
        unfold F4_j2
        rw [if_neg (by simp)]
        simp only
        rw [h126, if_pos (by decide)]
        refine cl_mono (mark_spec H) ?_
        rintro r w6 ⟨rfl, H⟩
        unfold F4_j3
        exact ⟨by simpa using hm, hend H⟩
end Go.Proofs.Ytdgdkbfigndndaa.Store
namespace Go.Proofs.Ytdgdkbfigndndaa
open Go Go.Proofs.Ytdgdkbfigndndaa.Cf
theorem walkStoreStays (W : World) (s s' : Slc) (at_ : Int) (g0 : G22 W s) (g1 : G22 W s') (g2 : G2 W at_) : cl Try.prog 4 [tSlc.enc s, tSlc.enc s', .int .i64 at_] tBool W fun r w' => r = true ∧ RowKit.Below W.heap.size W w' := Store.stays_walk W s s' at_ g0 g1
end Go.Proofs.Ytdgdkbfigndndaa
