/- Contracts of package audit: Check and Merge. -/
import Derived.Test.YtleehieomicicaaQI
import Derived.Test.YtleehieomicicaaDf
namespace Go.Proofs.Ytleehieomicicaa.Audit
open Go Go.Proofs.Ytleehieomicicaa.Cf
set_option linter.unusedVariables false
set_option linter.unusedSimpArgs false
set_option maxRecDepth 100000
section
variable {W w : World} {l : List Assn}
/-- What reports come to, or why they don't. -/
def checked (at_ : Int) (rs : List (S38 × List S36)) : Int × Int := if (gathered at_ rs).2.2 = 0 then ((gathered at_ rs).2.1, 0) else (0, (gathered at_ rs).2.2)
theorem check_spec {at_ : Int} {s : Slc} {rs : List (S38 × List S36)} (hm : rs.length ≤ 1000) (hm2 : ∀ p ∈ rs, p.2.length ≤ 1000) (k : Know l (RsP s rs)) (H : St W l w) :
    cl Try.prog 11 [.int .i64 at_, tSlc.enc s] (tTup2 (tInt .i64) (tInt .i64)) w fun q w' => q = checked at_ rs ∧ St W l w' := by
  refine F11_ok ?_
  unfold F11
  refine cl_mono (collect_spec hm hm2 (H.know (m := RsP.mono) k)) ?_
  rintro ⟨m, sum, e⟩ w1 ⟨h1, h2⟩
  have H : St W l w1 := by
    cases hg : (gathered at_ rs).1 with
    | none => rw [hg] at h2; exact h2.2.drop
    | some es => rw [hg] at h2; obtain ⟨r, _, H⟩ := h2; exact H.drop.drop
  simp only at h1 ⊢
  unfold checked
  rw [← h1]
  simp only
  split
  · rename_i hne
    rw [if_neg (by simpa using hne)]; exact ⟨rfl, H⟩
  · rename_i hne
    rw [if_pos (by simpa using hne)]; exact ⟨rfl, H⟩
theorem lookup_of {L : List S36} {x : S36} (hn : (L.map fun x => x.Key).Nodup) (hx : x ∈ L) : (L.map fun x => (x.Key, x.V)).lookup x.Key = some x.V := by
  induction L with
  | nil => cases hx
  | cons y L ih =>
    simp only [List.map_cons, List.lookup]
    have hn' := List.nodup_cons.1 hn
    rcases List.mem_cons.1 hx with rfl | hx
    · simp
    · have : x.Key ≠ y.Key := fun e => hn'.1 (List.mem_map.2 ⟨x, hx, e⟩)
      rw [show (x.Key == y.Key) = false from by simpa using this]
      exact ih hn'.2 hx
/-- What is merged. -/
def Merged (at_ : Int) (rs : List (S38 × List S36)) (s : Slc) (e : Int) (L : List S36) : Prop := e = (checked at_ rs).2 ∧ if e = 0 then Rise L ∧ L.Perm (flat rs) ∧ (∀ x ∈ L, 0 ≤ x.Key ∧ x.Key < 8192) else L = [] ∧ s = nilS
theorem flat_len_le {rs : List (S38 × List S36)} {m : Nat} (hm2 : ∀ p ∈ rs, p.2.length ≤ m) : (Audit.flat rs).length ≤ rs.length * m := by
  induction rs with
  | nil => simp [Audit.flat]
  | cons p rs ih =>
    have h1 := ih fun q hq => hm2 q (List.mem_cons_of_mem _ hq)
    have h2 := hm2 p (List.mem_cons_self ..)
    have : Audit.flat (p :: rs) = p.2 ++ Audit.flat rs := by simp [Audit.flat]
    rw [this, List.length_append, List.length_cons, Nat.add_mul]; omega
theorem merge_spec {at_ : Int} {s : Slc} {rs : List (S38 × List S36)} (hm : rs.length ≤ 100) (hm2 : ∀ p ∈ rs, p.2.length ≤ 100) (k : Know l (RsP s rs)) (H : St W l w) :
    cl Try.prog 14 [.int .i64 at_, tSlc.enc s] (tTup2 tSlc (tInt .i64)) w fun q w' => ∃ L, Merged at_ rs q.1 q.2 L ∧ St W (row T36 37 2 q.1 L :: l) w' := by
  refine F14_ok ?_
  unfold F14
  refine cl_mono (collect_spec (by omega) (fun p hp => Nat.le_trans (hm2 p hp) (by omega)) (H.know (m := RsP.mono) k)) ?_
  rintro ⟨m, sum, e⟩ w1 ⟨h1, h2⟩
  simp only at h1 h2 ⊢
  have hch : (checked at_ rs).2 = e := by
    unfold checked
    rw [← h1]; simp only
    split
    · rename_i h; exact h.symm
    · rfl
  split
  · rename_i hne
    have hne : e ≠ 0 := by simpa using hne
    have H : St W l w1 := by
      cases hg : (gathered at_ rs).1 with
      | none => rw [hg] at h2; exact h2.2.drop
      | some es => rw [hg] at h2; obtain ⟨r, _, H⟩ := h2; exact H.drop.drop
    exact ⟨[], ⟨hch.symm, by rw [if_neg hne]; exact ⟨rfl, rfl⟩⟩, row_nil T36 37 2 H⟩
  · rename_i hne
    have hne : e = 0 := by simpa using hne
    have hg : gathered at_ rs = (some (goes [] 0 (flat rs)).1, (goes [] 0 (flat rs)).2.1, (goes [] 0 (flat rs)).2.2) := by
      unfold gathered at h1 ⊢
      by_cases c : (decide (at_ < 0) || decide (at_ > 1125899906842624) || rs.any fun p => p.1.At != at_) = true
      · rw [if_pos c] at h1
        simp only [Prod.mk.injEq] at h1
        omega
      · rw [if_neg c]
    rw [hg] at h1 h2
    obtain ⟨r, rfl, H⟩ := h2
    have hz : (goes [] 0 (flat rs)).2.2 = 0 := by
      have := congrArg Prod.snd h1
      exact this.symm.trans hne
    obtain ⟨g1, g2, g3⟩ := goes_ok (L := flat rs) (es := []) (sum := 0) (by simp) (by simp) hz
    rw [List.nil_append] at g1
    rw [g1] at g2 g3 H
    have hlen := flat_len_le hm2
    have : rs.length * 100 ≤ 100 * 100 := Nat.mul_le_mul_right _ hm
    generalize hfl : flat rs = fl at *
    have hkeys : (fl.map fun x => (x.Key, x.V)).map (·.1) = fl.map fun x => x.Key := by rw [List.map_map]; rfl
    have hn : (fl.map fun x => x.Key).Nodup := by rw [← hkeys]; exact g2
    refine cl_mono (sorted_spec (fun p hp => by have := g3 p hp; omega) (by simp; omega) H) ?_
    rintro q w2 ⟨ks, hp, H⟩
    refine ⟨_, ⟨by rw [hch, hne], ?_⟩, (((H.front 1).drop).front 1).drop⟩
    rw [if_pos rfl]
    · refine ⟨sorted_rise (hp.nodup_iff.2 (by rw [hkeys]; exact hn)) _, ?_, ?_⟩
      · have h1 := (List.mergeSort_perm ks fun x y => decide (x ≤ y)).trans hp
        rw [hkeys] at h1
        refine (h1.map _).trans (List.Perm.of_eq ?_)
        rw [List.map_map, hfl]
        conv => rhs; rw [← List.map_id fl]
        refine List.map_congr_left fun x hx => ?_
        show (⟨x.Key, ((fl.map fun x => (x.Key, x.V)).lookup x.Key).getD 0⟩ : S36) = x
        rw [lookup_of hn hx]; rfl
      · intro x hx
        have := ((sorted_mem _ x).1 hx).1
        have := hp.mem_iff.1 this
        obtain ⟨p, hp1, hp2⟩ := List.mem_map.1 this
        have := g3 p hp1
        rw [hp2] at this; exact this
end
end Go.Proofs.Ytleehieomicicaa.Audit
