/- The law Stays: plain law and walk. -/
import Derived.Test.YtpdaapffkdejoaaGreatVC
import Derived.Test.YtpdaapffkdejoaaGreatKS
import Derived.Test.YtpdaapffkdejoaaGreatOp
import Derived.Test.YtpdaapffkdejoaaGreatFL3
namespace Go.Proofs.YtpdaapffkdejoaaGreat.Vault
open Go Go.Proofs.YtpdaapffkdejoaaGreat.Cf Go.Proofs.YtpdaapffkdejoaaGreat.Store Go.Proofs.YtpdaapffkdejoaaGreat.Num
set_option linter.unusedVariables false
set_option linter.unusedSimpArgs false
set_option maxRecDepth 100000
theorem told_one {v : Va} {t : Int} {L : List Ent} (h : Tells v.S t L) (o : OpL) : Tells (oneV v o).1.S t L := by
  unfold oneV
  split
  · unfold openV
    split
    · exact h
    · split
      · exact h
      · split
        · exact h
        · split
          · exact h
          · exact told_put h
  · split
    · unfold holdV
      split
      · exact h
      · split <;> exact h
    · split
      · unfold commitV
        split
        · exact h
        · split
          · split <;> exact h
          · split
            · split
              · exact h
              · exact told_put h
            · exact h
      · split
        · unfold dropV
          split
          · exact h
          · split
            · exact h
            · split
              · exact h
              · show Tells (gone_ v o.ID).S t L
                unfold gone_
                split <;> exact h
        · split
          · unfold closeV
            split
            · exact h
            · split
              · exact h
              · exact told_close h
          · split
            · exact told_prune h
            · exact h
theorem told_play {t : Int} {L : List Ent} : ∀ {os : List OpL} {v : Va}, Tells v.S t L → Tells (playV v os).S t L
  | [], _, h => h
  | o :: os, v, h => told_play (os := os) (told_one h o)
section
variable {W w : World} {l l' : List Assn}
theorem stays_walk (W : World) (f : Nat) (s m : Slc) (g0 : G22 W f) (g1 : G23 W s) (g2 : G23 W m) : cl Tryz.prog 3 [.float .f64 f, tSlc.enc s, tSlc.enc m] tBool W fun r w' => r = true ∧ RowKit.Below W.heap.size W w' := by
  have hf : f < 18446744073709551616 := g0
  obtain ⟨⟨hcap, hcap2⟩, os, hI, hro⟩ := g1
  obtain ⟨⟨hcap3, hcap4⟩, more, hJ, hro2⟩ := g2
  have hid : ∀ o ∈ os, o.ID ≤ 9223372036854775807 := fun o ho => (hI o ho).2.1.2
  have hid2 : ∀ o ∈ more, o.ID ≤ 9223372036854775807 := fun o ho => (hJ o ho).2.1.2
  have hml := hro2.1
  have H : St W [ro TOp m more, ro TOp s os, old W] W := (ro_old hro2 ((ro_old hro (St.start W)).front 1)).ord [0, 2, 1]
  generalize hB : ([ro TOp m more, ro TOp s os, old W] : List Assn) = base at *
  have kA : See 6 base TOp s os := by rw [← hB]; exact See.ro lenOp (Know.tail (Know.here (m := RoP.mono)))
  have kM : See 6 base TOp m more := by rw [← hB]; exact See.ro lenOp (Know.here (m := RoP.mono))
  have bel : ∀ w, St W base w → RowKit.Below W.heap.size W w := by
    intro w H
    rw [← hB] at H
    exact H.drop.drop.below
  clear hB
  refine F3_ok ?_
  unfold F3
  refine cl_mono (made_spec hf hid kA H) ?_
  rintro p w ⟨h1, h2⟩
  by_cases c : rateOk f
  · obtain ⟨b, rfl, H⟩ := h1 c
    have F0 : Fit (playV (v0 f) (os.take 40)) := (Fit.new c).play fun o ho => hid o (List.mem_of_mem_take ho)
    generalize playV (v0 f) (os.take 40) = v at *
    refine cl_mono (awake_spec H) ?_
    rintro r w ⟨rfl, H⟩
    rw [if_neg (by simp)]
    refine nc_st rfl ?_
    obtain ⟨q, H⟩ := va_open H
    refine ex_i (⟨some ⟨q.s, 0, none⟩⟩ : S29) (rdat_cel T29 H rfl rfl) ?_
    refine cl_mono (vclosed_spec (H.front 1)) ?_
    rintro r w ⟨rfl, H⟩
    have H := va_shut (p := q) (H.front 1)
    have ht : timeM v.S v.S.closed = 0 := by
      have := F0.sto.mark
      exact timeM_of (by omega) (by omega) (by omega) (by omega)
    have htold : Tells v.S v.S.closed (snapL v.S v.S.closed) := by
      have := F0.sto.mark
      exact ⟨by omega, by omega, by omega, .inr ⟨ht, rfl⟩⟩
    have hlen := snap_len (t := v.S.closed) F0.sto
    refine cl_mono (vsnap_spec (t := v.S.closed) F0 H) ?_
    rintro ⟨q1, e1⟩ w ⟨he, H⟩
    rw [ht] at he
    simp only at he H
    have he : e1 = 0 := he
    subst he
    generalize snapL v.S v.S.closed = L at *
    generalize v.S.closed = at_ at *
    have H := H.front 1
    refine lp_i (fun i w => 0 ≤ i ∧ i ≤ more.length ∧ i ≤ 40 ∧ St W (vaA b (playV v (more.take i.toNat)) :: row T62 63 2 q1 L :: base) w) (fun i => (40 - i).toNat) ⟨Int.le_refl 0, by omega, by omega, H⟩ ?_
    clear H
    rintro i w ⟨h0, h1, h2, H⟩
    have hF : Fit (playV v (more.take i.toNat)) := F0.play fun o ho => hid2 o (List.mem_of_mem_take ho)
    have hml2 : (m.len : Int) = more.length := by omega
    unfold F3_l1
    rw [hml2]
    split
    · rename_i hc
      have hc : i < more.length ∧ i < 40 := by simpa using hc
      have e1 : IntKind.i64.wrap (i + 1) = i + 1 := wrap_i64 (by omega) (by omega)
      obtain ⟨a, ha⟩ := kM.tail.tail.ix (i := i) H h0 hc.1
      have hx : more[i.toNat]? = some more[i.toNat] := List.getElem?_eq_getElem (by omega)
      have hpt := playV_take (v := v) (os := more) (i := i.toNat) (by omega)
      rw [← show (i + 1).toNat = i.toNat + 1 from by omega] at hpt
      generalize more[i.toNat] = o at hx hpt
      refine ex_i a ha ?_
      refine ex_i o (kM.tail.tail.rd ha hx H) ?_
      refine cl_mono (one_spec hF H) ?_
      rintro r w ⟨_, H⟩
      rw [e1]
      refine ⟨⟨by omega, by omega, by omega, ?_⟩, by omega⟩
      rw [hpt]; exact H
    · obtain ⟨t0, t1, t2, t3⟩ := told_play (os := more.take i.toNat) htold
      generalize playV v (more.take i.toNat) = v' at *
      refine cl_mono (vsnap_spec (t := at_) hF H) ?_
      rintro ⟨q2, e2⟩ w ⟨he, H⟩
      simp only at he H
      subst he
      rw [if_pos (show ((q1, (0 : Int)).2 == 0) = true from rfl)]
      unfold F3_j2
      rcases t3 with t3 | ⟨t3, t4⟩
      · have e : timeM v'.S at_ = 126 := by
          unfold timeM
          rw [if_neg (by omega), if_neg (by omega), if_pos (by omega)]
        have e2 : toldE (timeM v'.S at_) = 165 := by rw [e]; rfl
        rw [e2]
        rw [if_neg (by simp), if_neg (by simp), if_pos (by simp)]
        obtain ⟨q, H⟩ := va_open (H.front 1)
        refine ex_i (⟨some ⟨q.s, 0, none⟩⟩ : S29) (rdat_cel T29 H rfl rfl) ?_
        refine cl_mono (vmark_spec (H.front 1)) ?_
        rintro r w ⟨rfl, H⟩
        have H := va_shut (p := q) (H.front 1)
        exact ⟨by simpa using t3, bel _ H.drop.drop.drop⟩
      · have e2 : toldE (timeM v'.S at_) = 0 := by rw [t3]; rfl
        rw [e2, if_pos (show ((q2, (0 : Int)).2 == 0) = true from rfl)]
        rw [t4] at H
        refine cl_mono (same_spec (a := L) (b := L) (by omega) (See.row (fun _ => rfl) 2 rfl) (See.row (fun _ => rfl) 0 rfl) H) ?_
        rintro r w ⟨hr, H⟩
        rw [hr.2 rfl, if_pos rfl]
        exact ⟨rfl, bel _ H.drop.drop.drop⟩
  · obtain ⟨rfl, H⟩ := h2 c
    refine cl_mono (awake_spec H) ?_
    rintro r w ⟨rfl, H⟩
    rw [if_pos (by simp)]
    refine cl_mono (awake_spec H) ?_
    rintro r w ⟨rfl, H⟩
    exact ⟨rfl, bel _ H⟩
end
end Go.Proofs.YtpdaapffkdejoaaGreat.Vault
namespace Go.Proofs.YtpdaapffkdejoaaGreat
open Go Go.Proofs.YtpdaapffkdejoaaGreat.Cf
theorem walkVaultStays (W : World) (f : Nat) (s m : Slc) (g0 : G22 W f) (g1 : G23 W s) (g2 : G23 W m) : cl Tryz.prog 3 [.float .f64 f, tSlc.enc s, tSlc.enc m] tBool W fun r w' => r = true ∧ RowKit.Below W.heap.size W w' := Vault.stays_walk W f s m g0 g1 g2
end Go.Proofs.YtpdaapffkdejoaaGreat
