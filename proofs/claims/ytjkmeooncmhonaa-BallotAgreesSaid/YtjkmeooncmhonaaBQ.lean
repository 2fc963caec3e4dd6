/- The loss of power: contracts. -/
import Derived.Test.YtjkmeooncmhonaaBP
namespace Go.Proofs.Ytjkmeooncmhonaa.Ballot
open Go Go.Proofs.Ytjkmeooncmhonaa.Cf Go.Proofs.Ytjkmeooncmhonaa.Wire Go.Proofs.Ytjkmeooncmhonaa.Disk
set_option linter.unusedVariables false
set_option linter.unusedSimpArgs false
set_option maxRecDepth 100000
theorem eqb_self (x : Vote) : S46.eqb x x = true := by simp [S46.eqb]
theorem map_take_r (rs : List Rec) (k : Nat) : (rs.map encR).take k = (rs.take k).map encR := by rw [List.map_take]
section
variable {W w : World} {l l' : List Assn}
/-- The loss of power: what is left of the records. -/
theorem hcrash_spec {a d k : Nat} {rs : List Rec} {ks : Slc} {keep : List Int} (hr : rs.length ≤ 1000) (kk : See 1 l (tInt .i64) ks keep) (H : St W (hasA a d rs k :: l) w) :
    cl Try.prog 19 [.pointer (some ⟨d, 0, none⟩), tSlc.enc ks] tUnit w fun _ w' => ∃ (i : Nat) (p : List UInt8) (acts : Int), k ≤ i ∧ i ≤ rs.length ∧ (∃ e, opn p = .error e) ∧ (logB (rs.take i) ++ p).length ≤ 4194304 ∧ Legal (0, []) rs ∧
      St W (dskA d ⟨[⟨logB (rs.take i) ++ p, (logB (rs.take i) ++ p).length⟩], acts, true, 0, []⟩ :: l) w' := by
  obtain ⟨S, h, hl, H⟩ := has_open H
  obtain ⟨b, m, H⟩ := bl_open H
  have hok := h.dOk hr
  refine cl_mono (crash_spec hok kk (H.front 3 |> fun H => (H.ord [1, 2, 3]).drop.drop.drop)) ?_
  intro r w H
  obtain ⟨acts, hd⟩ := h.disk
  rw [hd] at hok H
  have hg := hok.log _ (List.mem_singleton.2 rfl)
  simp only at hg
  have hkp := kept_le (keep := keep) (i := 0) (g := ⟨logB rs, (logB (rs.take k)).length⟩) hg.1
  simp only at hkp
  have hc : crash keep ⟨[⟨logB rs, (logB (rs.take k)).length⟩], acts, false, 0, []⟩ = ⟨[cutL keep 0 ⟨logB rs, (logB (rs.take k)).length⟩], acts, true, 0, []⟩ := by
    unfold crash
    simp
  rw [hc] at H
  have hcut : cutL keep 0 ⟨logB rs, (logB (rs.take k)).length⟩ = ⟨(logB rs).take (kept keep 0 ⟨logB rs, (logB (rs.take k)).length⟩), kept keep 0 ⟨logB rs, (logB (rs.take k)).length⟩⟩ := rfl
  rw [hcut] at H
  generalize kept keep 0 ⟨logB rs, (logB (rs.take k)).length⟩ = n at hkp H
  obtain ⟨i, p, h1, h2, h3, h4⟩ := frms_cut (rs.map encR) n (small_r h.ok) hkp.2
  rw [List.length_map] at h1
  rw [map_take_r] at h2
  have h5 := h4 k (by rw [map_take_r]; exact hkp.1) (by rw [List.length_map]; exact h.le)
  have e1 : (logB rs).take n = logB (rs.take i) ++ p := h2
  have e2 : n = (logB (rs.take i) ++ p).length := by
    rw [← e1, List.length_take]; omega
  refine ⟨i, p, acts, h5, h1, h3, by rw [← e2]; omega, hl, ?_⟩
  rw [← e1]
  have e3 : ((logB rs).take n).length = n := by rw [List.length_take]; omega
  rw [e3]
  exact H
theorem hreopen_spec {d : Nat} {rs : List Rec} {p : List UInt8} {acts : Int} (hr : rs.length ≤ 1000) (hp : ∃ e, opn p = .error e) (hn : (logB rs ++ p).length ≤ 4194304) (hl : Legal (0, []) rs)
    (H : St W (dskA d ⟨[⟨logB rs ++ p, (logB rs ++ p).length⟩], acts, false, 0, []⟩ :: l) w) :
    cl Try.prog 12 [.pointer (some ⟨d, 0, none⟩), .int .i64 0] (tTup2 tPtr (tInt .i64)) w fun r w' => r.2 = 0 ∧ ∃ a : Nat, r.1 = some ⟨a, 0, none⟩ ∧ St W (hasA a d rs rs.length :: l) w' := by
  have hok := legal_ok hl
  have hs : scan (logB rs ++ p) = (rs.map encR, (logB rs).length) := scan_frms (small_r hok) hp
  have hm : ∃ acts', mendD ⟨[⟨logB rs ++ p, (logB rs ++ p).length⟩], acts, false, 0, []⟩ 0 ⟨logB rs ++ p, (logB rs ++ p).length⟩ = (⟨[⟨logB rs, (logB rs).length⟩], acts', false, 0, []⟩, 0) := by
    unfold mendD
    simp only [hs]
    by_cases c : (logB rs).length < (logB rs ++ p).length
    · rw [if_pos c]
      have e1 : (logB rs ++ p).take (logB rs).length = logB rs := by simp
      rw [e1]
      rw [List.length_append] at hn
      refine ⟨IntKind.i64.wrap (acts + 1), ?_⟩
      unfold swapD actD
      simp
      omega
    · rw [if_neg c, if_neg (by simp)]
      have : p = [] := by
        rw [List.length_append] at c
        exact List.eq_nil_of_length_eq_zero (by omega)
      subst this
      exact ⟨acts, by simp⟩
  obtain ⟨acts', hm⟩ := hm
  refine cl_mono (open_spec (rs := rs) (g := ⟨logB rs ++ p, (logB rs ++ p).length⟩) ⟨by simp, by intro g hg; simp only [List.mem_singleton] at hg; subst hg; exact ⟨Nat.le_refl _, hn⟩⟩ (Int.le_refl 0) rfl rfl (by simp only [hs]) hok (by rw [hm]) H) ?_
  rintro r w ⟨h1, a, h2, H⟩
  refine ⟨h1, a, h2, ?_⟩
  rw [hm] at H
  refine has_shut (S := ⟨⟨[⟨logB rs, (logB rs).length⟩], acts', false, 0, []⟩, ⟨rs.length, rs.length, 0, false⟩, (rs.foldl stepR (0, [])).1, (rs.foldl stepR (0, [])).2⟩) ?_ hl H
  exact ⟨⟨acts', by rw [List.take_length]⟩, ⟨_, _, rfl⟩, rfl, hok, Nat.le_refl _⟩
/-- Prepare, whatever it answers. -/
theorem hprep_any {a d k : Nat} {rs : List Rec} {b : Int} (hr : rs.length ≤ 1000) (H : St W (hasA a d rs k :: l) w) :
    cl Try.prog 14 [.pointer (some ⟨a, 0, none⟩), .int .i64 b] (tTup2 tSlc (tInt .i64)) w fun r w' => St W (hasA a d (prepR rs b).1 k :: l) w' := by
  refine cl_mono (hprep_spec hr H) ?_
  rintro r w ⟨_, h2, h3⟩
  by_cases c : (prepR rs b).2 = 0
  · exact (h2 c).drop
  · exact (h3 c).2
end
end Go.Proofs.Ytjkmeooncmhonaa.Ballot
