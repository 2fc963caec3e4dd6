/- The law Fates: plain law and walk. -/
import Derived.Test.YtpdaapffkdejoaaGreatVC
import Derived.Test.YtpdaapffkdejoaaGreatOp
import Derived.Test.YtpdaapffkdejoaaGreatFL4
namespace Go.Proofs.YtpdaapffkdejoaaGreat.Vault
open Go Go.Proofs.YtpdaapffkdejoaaGreat.Cf Go.Proofs.YtpdaapffkdejoaaGreat.Store Go.Proofs.YtpdaapffkdejoaaGreat.Num
set_option linter.unusedVariables false
set_option linter.unusedSimpArgs false
set_option maxRecDepth 100000
/-- What a fate may become. -/
def Goes (f g : Ft) : Prop := (f.what = 2 → g = f) ∧ (f.what = 3 → g = f) ∧ (f.what = 1 → g.what = 1 ∨ g.what = 2 ∨ g.what = 3)
theorem Goes.refl (f : Ft) : Goes f f := ⟨fun _ => rfl, fun _ => rfl, fun h => .inl h⟩
theorem Goes.trans {f g h : Ft} (a : Goes f g) (b : Goes g h) : Goes f h := by
  refine ⟨fun e => ?_, fun e => ?_, fun e => ?_⟩
  · have := a.1 e; subst this; exact b.1 e
  · have := a.2.1 e; subst this; exact b.2.1 e
  · rcases a.2.2 e with e | e | e
    · exact b.2.2 e
    · rw [b.1 e]; exact .inr (.inl e)
    · rw [b.2.1 e]; exact .inr (.inr e)
theorem fate_ups {v u : Va} {k : Int} {f : Ft} (h : u.fates = ups k f v.fates) (id : Int) : fateV u id = if id = k then f else fateV v id := by
  unfold fateV
  rw [h, lookup_ups]
  by_cases c : id = k
  · rw [if_pos (by simpa using c), if_pos c]; rfl
  · rw [if_neg (by simpa using c), if_neg c]
theorem fate_eq {v u : Va} (h : u.fates = v.fates) (id : Int) : fateV u id = fateV v id := by unfold fateV; rw [h]
theorem fate_cases {v : Va} (F : Fit v) (id : Int) : fateV v id = ⟨0, 0⟩ ∨ (1 ≤ id ∧ v.fates.lookup id = some (fateV v id) ∧ (((fateV v id).what = 1 ∧ ∃ h, v.held.lookup id = some h ∧ h.T_ = (fateV v id).t_) ∨ ((fateV v id).what = 2 ∧ 1 ≤ (fateV v id).t_ ∧ (fateV v id).t_ ≤ 1125899906842624) ∨ fateV v id = ⟨3, 0⟩)) := by
  cases e : v.fates.lookup id with
  | none => left; unfold fateV; rw [e]; rfl
  | some f =>
    right
    rw [fateV_of e]
    obtain ⟨h1, h2⟩ := F.fat id f e
    refine ⟨h1, rfl, ?_⟩
    rcases h2 with h2 | h2 | ⟨h2, h3⟩
    · exact .inl h2
    · exact .inr (.inl h2)
    · refine .inr (.inr ?_)
      cases f; simp at h2 h3; subst h2; subst h3; rfl
theorem goes_one {v : Va} (F : Fit v) (o : OpL) (id : Int) : Goes (fateV v id) (fateV (oneV v o).1 id) := by
  unfold oneV
  split
  · unfold openV
    split
    · exact Goes.refl _
    · split
      · exact Goes.refl _
      · split
        · exact Goes.refl _
        · split
          · exact Goes.refl _
          · exact Goes.refl _
  · split
    · unfold holdV
      split
      · exact Goes.refl _
      · split
        · exact Goes.refl _
        · rename_i h1 h2
          have h2 : (whyV v (partL o)).2 = 0 := Classical.not_not.1 h2
          obtain ⟨_, hn, _⟩ := whyV_ok h2
          simp only
          rw [fate_ups (v := v) (u := heldV v o.T_ (partL o) (whyV v (partL o)).1) (k := (partL o).ID) (f := ⟨1, o.T_⟩) rfl]
          split
          · rename_i e
            have : fateV v id = ⟨0, 0⟩ := by unfold fateV; rw [e, hn]; rfl
            rw [this]
            exact ⟨fun h => by simp at h, fun h => by simp at h, fun h => by simp at h⟩
          · exact Goes.refl _
    · split
      · unfold commitV
        split
        · exact Goes.refl _
        · split
          · split <;> exact Goes.refl _
          · split
            · split
              · exact Goes.refl _
              · rename_i h1 _ _
                simp only
                rw [fate_ups (v := v) (u := doneV v o.T_ o.ID (heldOf v o.ID)) (k := o.ID) (f := ⟨2, o.T_⟩) rfl]
                split
                · rename_i e
                  subst e
                  exact ⟨fun h => by omega, fun h => by omega, fun _ => .inr (.inl rfl)⟩
                · exact Goes.refl _
            · exact Goes.refl _
      · split
        · unfold dropV
          split
          · exact Goes.refl _
          · split
            · exact Goes.refl _
            · split
              · exact Goes.refl _
              · rename_i h1 h2 h3
                simp only
                rw [fate_ups (v := v) (u := { gone_ v o.ID with fates := ups o.ID ⟨3, 0⟩ v.fates }) (k := o.ID) (f := ⟨3, 0⟩) rfl]
                split
                · rename_i e
                  subst e
                  refine ⟨fun h => absurd h h2, fun h => ?_, fun _ => .inr (.inr rfl)⟩
                  rcases fate_cases F o.ID with e | ⟨_, _, e | e | e⟩
                  · rw [e] at h; simp at h
                  · omega
                  · omega
                  · exact e.symm
                · exact Goes.refl _
        · split
          · unfold closeV
            split
            · exact Goes.refl _
            · split
              · exact Goes.refl _
              · exact Goes.refl _
          · split
            · exact Goes.refl _
            · exact Goes.refl _
theorem commit_again {v : Va} {id : Int} (F : Fit v) (h : (fateV v id).what = 2) : commitV v (fateV v id).t_ id = (v, 0) := by
  rcases fate_cases F id with e | ⟨_, _, e | e | e⟩
  · rw [e] at h; simp at h
  · omega
  · unfold commitV
    rw [if_neg (by omega), if_pos h, if_neg (by simp)]
  · rw [e] at h; simp at h
theorem drop_no {v : Va} {id : Int} (F : Fit v) (h : (fateV v id).what = 2) : dropV v id = (v, 157) := by
  rcases fate_cases F id with e | ⟨h1, _, _⟩
  · rw [e] at h; simp at h
  · unfold dropV
    rw [if_neg (by omega), if_pos h]
theorem drop_again {v : Va} {id : Int} (F : Fit v) (h : (fateV v id).what = 3) : (dropV v id).2 = 0 ∧ fateV (dropV v id).1 id = ⟨3, 0⟩ := by
  rcases fate_cases F id with e | ⟨h1, h2, _⟩
  · rw [e] at h; simp at h
  · have e : dropV v id = ({ gone_ v id with fates := ups id ⟨3, 0⟩ v.fates }, 0) := by
      unfold dropV
      rw [if_neg (by omega), if_neg (by omega), if_neg (by rw [h2]; simp)]
    rw [e]
    exact ⟨rfl, by rw [fate_ups (v := v) (u := { gone_ v id with fates := ups id ⟨3, 0⟩ v.fates }) (k := id) (f := ⟨3, 0⟩) rfl, if_pos rfl]⟩
theorem commit_no {v : Va} {id : Int} (h : fateV v id = ⟨3, 0⟩) : commitV v 1125899906842624 id = (v, 163) := by
  unfold commitV
  rw [h]
  rfl
section
variable {W w : World} {l l' : List Assn}
theorem fates_walk (W : World) (f : Nat) (s m : Slc) (g0 : G22 W f) (g1 : G23 W s) (g2 : G23 W m) : cl Tryz.prog 4 [.float .f64 f, tSlc.enc s, tSlc.enc m] tBool W fun r w' => r = true ∧ RowKit.Below W.heap.size W w' := by
  have hf : f < 18446744073709551616 := g0
  obtain ⟨⟨hcap, hcap2⟩, os, hI, hro⟩ := g1
  obtain ⟨⟨hcap3, hcap4⟩, more, hJ, hro2⟩ := g2
  have hid : ∀ o ∈ os, o.ID ≤ 9223372036854775807 := fun o ho => (hI o ho).2.1.2
  have hid2 : ∀ o ∈ more, o.ID ≤ 9223372036854775807 := fun o ho => (hJ o ho).2.1.2
  have hml := hro2.1
  have hsl := hro.1
  have H : St W [ro TOp m more, ro TOp s os, old W] W := (ro_old hro2 ((ro_old hro (St.start W)).front 1)).ord [0, 2, 1]
  generalize hB : ([ro TOp m more, ro TOp s os, old W] : List Assn) = base at *
  have kA : See 6 base TOp s os := by rw [← hB]; exact See.ro lenOp (Know.tail (Know.here (m := RoP.mono)))
  have kM : See 6 base TOp m more := by rw [← hB]; exact See.ro lenOp (Know.here (m := RoP.mono))
  have bel : ∀ w, St W base w → RowKit.Below W.heap.size W w := by
    intro w H
    rw [← hB] at H
    exact H.drop.drop.below
  clear hB
  refine F4_ok ?_
  unfold F4
  refine cl_mono (made_spec hf hid kA H) ?_
  rintro p w ⟨h1, h2⟩
  by_cases c : rateOk f
  · obtain ⟨b, rfl, H⟩ := h1 c
    have F0 : Fit (playV (v0 f) (os.take 40)) := (Fit.new c).play fun o ho => hid o (List.mem_of_mem_take ho)
    generalize playV (v0 f) (os.take 40) = v at *
    refine cl_mono (awake_spec H) ?_
    rintro r w ⟨rfl, H⟩
    rw [if_neg (by simp)]
    refine lp_p (fun i w => 0 ≤ i ∧ i ≤ 40 ∧ ∃ v, Fit v ∧ St W (vaA b v :: base) w) (fun i => (40 - i).toNat) ⟨Int.le_refl 0, by omega, v, F0, H⟩ ?_
    clear H
    rintro i w ⟨h0, h1, v, F, H⟩ K hK
    have hml2 : (m.len : Int) = more.length := by omega
    have hsl2 : (s.len : Int) = os.length := by omega
    unfold F4_l1
    rw [hsl2]
    split
    · rename_i hc
      have hc : i < os.length ∧ i < 40 := by simpa using hc
      have e1 : IntKind.i64.wrap (i + 1) = i + 1 := wrap_i64 (by omega) (by omega)
      obtain ⟨a, ha⟩ := kA.tail.ix (i := i) H h0 hc.1
      have hx : os[i.toNat]? = some os[i.toNat] := List.getElem?_eq_getElem (by omega)
      generalize os[i.toNat] = o at hx
      refine ex_i a ha ?_
      refine ex_i o.ID (kA.tail.fld (U := tInt .i64) ha hx rfl H) ?_
      generalize o.ID = id
      refine cl_mono (fate_spec H) ?_
      rintro r w ⟨rfl, H⟩
      generalize hfa : fateV v id = fa
      refine lp_p (fun k w => 0 ≤ k ∧ k ≤ 10 ∧ ∃ u, Fit u ∧ Goes fa (fateV u id) ∧ St W (vaA b u :: base) w) (fun k => (10 - k).toNat) ⟨Int.le_refl 0, by omega, v, F, by rw [hfa]; exact Goes.refl _, H⟩ ?_
      have hfc := fate_cases F id
      rw [hfa] at hfc
      clear H
      rintro k w ⟨k0, k1, v, F, hg, H⟩ K2 hK2
      unfold F4_l2
      rw [hml2]
      split
      · rename_i hc
        have hc : k < more.length ∧ k < 10 := by simpa using hc
        have e2 : IntKind.i64.wrap (k + 1) = k + 1 := wrap_i64 (by omega) (by omega)
        obtain ⟨a, ha⟩ := kM.tail.ix (i := k) H k0 hc.1
        have hy : more[k.toNat]? = some more[k.toNat] := List.getElem?_eq_getElem (by omega)
        have hmem : more[k.toNat] ∈ more := List.getElem_mem _
        generalize more[k.toNat] = o at hy hmem
        refine ex_i a ha ?_
        refine ex_i o (kM.tail.rd ha hy H) ?_
        refine cl_mono (one_spec F H) ?_
        rintro r w ⟨_, H⟩
        rw [e2]
        exact hK2 _ _ ⟨by omega, by omega, _, F.one (hid2 o hmem), hg.trans (goes_one F o id), H⟩ (by omega)
      · clear hK2
        refine cl_mono (fate_spec H) ?_
        rintro r w ⟨rfl, H⟩
        have next : ∀ (w : World) (v : Va), Fit v → St W (vaA b v :: base) w → K (IntKind.i64.wrap (i + 1)) w := by
          intro w v F H
          rw [e1]
          exact hK _ _ ⟨by omega, by omega, v, F, H⟩ (by omega)
        have fin4 : ∀ (w : World) (v' : Va) (fb : Ft), Goes fa fb → Fit v' → St W (vaA b v' :: base) w → F4_j4 i (fa.what, fa.t_) (fb.what, fb.t_) false w K fun r w' => r = true ∧ RowKit.Below W.heap.size W w' := by
          intro w v' fb hg F' H
          unfold F4_j4
          rw [if_neg (by simp)]
          rw [if_neg]
          · exact next w v' F' H
          · intro hc
            rw [Bool.or_eq_true, Bool.and_eq_true, Bool.and_eq_true] at hc
            rcases hc with ⟨q1, q2⟩ | ⟨q1, q2⟩
            · have q1 : fa.what = 1 := by simpa using q1
              have q2 : fb.what = 0 := by simpa using q2
              have := hg.2.2 q1
              omega
            · have q1 : fa.what = 0 := by simpa using q1
              have q2 : fa.t_ ≠ 0 := by simpa using q2
              rcases hfc with e | ⟨_, _, e | e | e⟩
              · rw [e] at q2; simp at q2
              · omega
              · omega
              · rw [e] at q1; simp at q1
        have fin3 : ∀ (w : World), St W (vaA b v :: base) w → F4_j3 (some ⟨b, 0, none⟩) i id (fa.what, fa.t_) ((fateV v id).what, (fateV v id).t_) false w K fun r w' => r = true ∧ RowKit.Below W.heap.size W w' := by
          intro w H
          unfold F4_j3
          rw [if_neg (by simp)]
          by_cases c3 : fa.what = 3
          · rw [if_pos (by simpa using c3)]
            have e := hg.2.1 c3
            have ht : fa.t_ = 0 := by
              rcases hfc with e | ⟨_, _, e | e | e⟩
              · rw [e] at c3; simp at c3
              · omega
              · omega
              · rw [e]
            rw [if_neg (by rw [e]; simp [ht])]
            refine cl_mono (drop_spec (id := id) H) ?_
            rintro r w ⟨hr, H⟩
            obtain ⟨d1, d2⟩ := drop_again F (id := id) (by rw [e]; exact c3)
            rw [d1] at hr
            subst hr
            rw [if_neg (by simp)]
            have F2 := F.drop id
            generalize (dropV v id).1 = u at *
            refine cl_mono (commit_spec (t := 1125899906842624) (id := id) F2 H) ?_
            rintro r w ⟨hr, H⟩
            rw [commit_no d2] at hr H
            simp only at hr H
            subst hr
            exact fin4 w u _ hg F2 H
          · rw [if_neg (by simpa using c3)]
            exact fin4 w v _ hg F H
        by_cases c2 : fa.what = 2
        · rw [if_pos (by simpa using c2)]
          have e := hg.1 c2
          rw [if_neg (by rw [e]; simp)]
          have hc := commit_again F (id := id) (by rw [e]; exact c2)
          rw [e] at hc
          refine cl_mono (commit_spec (t := fa.t_) (id := id) F H) ?_
          rintro r w ⟨hr, H⟩
          rw [hc] at hr H
          simp only at hr H
          subst hr
          rw [if_neg (by simp)]
          refine cl_mono (drop_spec (id := id) H) ?_
          rintro r w ⟨hr, H⟩
          rw [drop_no F (by rw [e]; exact c2)] at hr H
          simp only at hr H
          subst hr
          exact fin3 w H
        · rw [if_neg (by simpa using c2)]
          exact fin3 w H
    · exact ⟨rfl, bel _ H.drop⟩
  · obtain ⟨rfl, H⟩ := h2 c
    refine cl_mono (awake_spec H) ?_
    rintro r w ⟨rfl, H⟩
    rw [if_pos (by simp)]
    refine cl_mono (awake_spec H) ?_
    rintro r w ⟨rfl, H⟩
    exact ⟨rfl, bel _ H⟩
end
theorem _root_.Go.Proofs.YtpdaapffkdejoaaGreat.walkVaultFates (W : World) (f : Nat) (s m : Slc) (g0 : G22 W f) (g1 : G23 W s) (g2 : G23 W m) : cl Tryz.prog 4 [.float .f64 f, tSlc.enc s, tSlc.enc m] tBool W fun r w' => r = true ∧ RowKit.Below W.heap.size W w' := fates_walk W f s m g0 g1 g2
end Go.Proofs.YtpdaapffkdejoaaGreat.Vault
