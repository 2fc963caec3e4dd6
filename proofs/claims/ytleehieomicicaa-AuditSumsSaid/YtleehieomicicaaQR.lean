/- AuditAdds, AuditSums: the walks. -/
import Derived.Test.YtleehieomicicaaQQ
namespace Go.Proofs.Ytleehieomicicaa
open Go Go.Proofs.Ytleehieomicicaa.Cf Go.Proofs.Ytleehieomicicaa.Audit
set_option linter.unusedVariables false
set_option linter.unusedSimpArgs false
set_option maxRecDepth 100000
set_option maxHeartbeats 2000000
section
theorem dWhy_comm (a b : List S36) : dWhy a b = dWhy b a := by
  unfold dWhy
  rw [Bool.or_comm, Bool.or_comm (!(a.all fun x => !wrong x))]
theorem val_neg (L : List S36) (k : Int) : val (L.map fun x => (⟨x.Key, -x.V⟩ : S36)) k = -val L k := by
  induction L with
  | nil => rfl
  | cons x L ih =>
    simp only [List.map_cons, val]
    split
    · rfl
    · exact ih
theorem walkAuditAdds (W : World) (sa sb : Slc) (g0 : G31 W sa) (g1 : G31 W sb) : cl Try.prog 7 [tSlc.enc sa, tSlc.enc sb] tBool W fun r w' => r = true ∧ RowKit.Below W.heap.size W w' := by
  obtain ⟨a, ra, ha⟩ := entries_of g0
  obtain ⟨b, rb, hb⟩ := entries_of g1
  have ka : Know [old W] (RoP T36 sa a) := (oldK W).old ha
  have kb : Know [old W] (RoP T36 sb b) := (oldK W).old hb
  have H := St.start W
  have la := ka.len H
  have lb := kb.len H
  refine F7_ok ?_
  unfold F7
  split
  · refine cl_mono (awake_spec H) ?_
    rintro r w2 ⟨rfl, H⟩; exact ⟨rfl, H.below⟩
  · rename_i hc
    have hc : a.length ≤ 200 ∧ b.length ≤ 200 := by simp at hc; omega
    refine cl_mono (diff_spec (by omega) (by omega) ra rb ka kb H) ?_
    rintro ⟨s1, e1⟩ w1 ⟨d, hd, H⟩
    have H := row_stay H
    refine cl_mono (diff_spec (by omega) (by omega) rb ra kb.tail ka.tail H) ?_
    rintro ⟨s2, e2⟩ w2 ⟨c, hcc, H⟩
    have H := row_stay H
    refine cl_mono (diff_spec (by omega) (by omega) rb rb kb.tail.tail kb.tail.tail H) ?_
    rintro ⟨s3, e3⟩ w3 ⟨z, hz, H⟩
    have H := row_stay H
    have H : St W [ro T36 s3 z, ro T36 s2 c, ro T36 s1 d, old W] w3 := H
    have ld := diffed_len hd
    have kd : Know [ro T36 s3 z, ro T36 s2 c, ro T36 s1 d, old W] (RoP T36 s1 d) := (Know.here (m := RoP.mono)).tail.tail
    have kc : Know [ro T36 s3 z, ro T36 s2 c, ro T36 s1 d, old W] (RoP T36 s2 c) := (Know.here (m := RoP.mono)).tail
    have kz : Know [ro T36 s3 z, ro T36 s2 c, ro T36 s1 d, old W] (RoP T36 s3 z) := Know.here (m := RoP.mono)
    have sd := kd.len H
    have sc := kc.len H
    have sz := kz.len H
    have he : e1 = e2 := by
      have h1 : e1 = dWhy a b := hd.1
      have h2 : e2 = dWhy b a := hcc.1
      rw [h1, h2, dWhy_comm]
    refine cl_mono (awake_spec H) ?_
    rintro q w4 ⟨rfl, H⟩
    rw [if_neg (by rw [he]; simp)]
    split
    · rename_i hne
      have hne : e1 ≠ 0 := by simpa using hne
      have h1 : d = [] := by have := hd.2; rw [if_neg hne] at this; exact this.1
      have h2 : c = [] := by have := hcc.2; rw [if_neg (show e2 ≠ 0 by omega)] at this; exact this.1
      refine ⟨?_, H.drop.drop.drop.below⟩
      simp only
      rw [sd, sc, h1, h2]; rfl
    · rename_i hne
      have hne : e1 = 0 := by simpa using hne
      have d2 := hd.2
      have c2 := hcc.2
      rw [if_pos hne] at d2
      rw [if_pos (show e2 = 0 by omega)] at c2
      obtain ⟨p1, p2, p3, p4⟩ := dWhy_ok (hd.1.symm.trans hne)
      have e30 : e3 = 0 := by
        have h3 : e3 = dWhy b b := hz.1
        rw [h3]; exact dWhy_of p2 p2 p4 p4
      have z2 := hz.2
      rw [if_pos e30] at z2
      have hzn : z = [] := canon_eq z2.1 List.Pairwise.nil z2.2.1 (by simp) fun k => by rw [z2.2.2]; simp only [val]; omega
      have hcd : c = d.map fun x => (⟨x.Key, -x.V⟩ : S36) := by
        refine canon_eq c2.1 (List.Pairwise.map _ (fun a b h => h) d2.1) c2.2.1 (fun x hx => ?_) fun k => ?_
        · obtain ⟨y, hy, rfl⟩ := List.mem_map.1 hx
          have := d2.2.1 y hy
          simp only; omega
        · rw [val_neg, c2.2.2, d2.2.2]; omega
      have lcd : c.length = d.length := by rw [hcd, List.length_map]
      rw [if_neg (by simp only; rw [sz, sc, sd, hzn, e30, lcd]; simp)]
      have bound : ∀ x ∈ d, -4611686018427387904 ≤ x.V ∧ x.V ≤ 4611686018427387904 := by
        intro x hx
        have h1 := val_mem d2.1 hx
        rw [d2.2.2] at h1
        have h2 := val_bound (k := x.Key) p3
        have h3 := val_bound (k := x.Key) p4
        omega
      refine lp_i (fun i w => 0 ≤ i ∧ i ≤ d.length ∧ St W [ro T36 s3 z, ro T36 s2 c, ro T36 s1 d, old W] w) (fun i => (d.length - i).toNat) ⟨Int.le_refl 0, by omega, H⟩ ?_
      clear H
      rintro i w ⟨i0, i1, H⟩
      unfold F7_l1
      simp only
      split
      · rename_i hi
        have hi : i < d.length := by simp at hi; omega
        have e1' : IntKind.i64.wrap (i + 1) = i + 1 := wrap_i64 (by omega) (by omega)
        have hx : d[i.toNat]? = some d[i.toNat] := List.getElem?_eq_getElem (by omega)
        generalize d[i.toNat] = x at hx
        have hy : c[i.toNat]? = some (⟨x.Key, -x.V⟩ : S36) := by rw [hcd, List.getElem?_map, hx]; rfl
        have hxm := List.mem_of_getElem? hx
        have hbx := bound x hxm
        have hnz := d2.2.1 x hxm
        obtain ⟨p, hp⟩ := kd.ix (sz := 2) (i := i) H i0 hi
        obtain ⟨q, hq⟩ := kc.ix (sz := 2) (i := i) H i0 (by omega)
        have ew : IntKind.i64.wrap (0 - x.V) = -x.V := by rw [wrap_i64 (by omega) (by omega)]; omega
        refine dr_st H fun w1 H => ?_
        refine ex_i p hp ?_
        refine ex_i x.V (kd.fld (fun _ => rfl) hp hx rfl H) ?_
        refine ex_i q (fun _ => hq) ?_
        refine ex_i p (fun _ => hp) ?_
        refine ex_i (-x.V) (fun _ => kc.fld (x := (⟨x.Key, -x.V⟩ : S36)) (fun _ => rfl) hq hy rfl H) ?_
        refine ex_i x.V (fun _ => kd.fld (fun _ => rfl) hp hx rfl H) ?_
        refine ex_i q (fun _ => hq) ?_
        refine ex_i p (fun _ => hp) ?_
        refine ex_i x.Key (fun _ => kc.fld (x := (⟨x.Key, -x.V⟩ : S36)) (fun _ => rfl) hq hy rfl H) ?_
        refine ex_i x.Key (fun _ => kd.fld (fun _ => rfl) hp hx rfl H) ?_
        rw [ew, if_neg (by simp [hnz]), e1']
        exact ⟨⟨by omega, by omega, H⟩, by omega⟩
      · refine cl_mono (add_spec (a := a) (d := d) (f := fun q => val b q) (by omega) (by omega) p1 d2.1 (fun q => by rw [d2.2.2]; omega) (fun q => by
          have h3 := val_bound (k := q) p4
          constructor <;> omega) ka.tail.tail.tail kd H) ?_
        rintro r w5 ⟨M, m1, m2, m3, H⟩
        have H := row_stay H
        refine cl_mono (add_spec (sa := sb) (sd := nilS) (a := b) (d := []) (f := fun q => val b q) (by omega) (by simp) p2 List.Pairwise.nil (fun q => by simp only [val]; omega) (fun q => by
          have h3 := val_bound (k := q) p4
          constructor <;> omega) kb.tail.tail.tail.tail Know.nil H) ?_
        rintro r2 w6 ⟨N, n1, n2, n3, H⟩
        have H := row_stay H
        have hMN : M = N := canon_eq m1 n1 m2 n2 fun k => by rw [m3, n3]
        have hlM : M.length ≤ 400 := by
          have : ∀ k ∈ M.map (·.Key), k ∈ b.map (·.Key) := by
            intro k hk
            obtain ⟨x, hx, rfl⟩ := List.mem_map.1 hk
            have h5 := m3 x.Key
            rw [val_mem m1 hx] at h5
            obtain ⟨y, hy, h7, _⟩ := val_some (L := b) (k := x.Key) (by rw [← h5]; exact m2 x hx)
            exact List.mem_map.2 ⟨y, hy, h7⟩
          have := nodup_len (rise_nodup m1) this
          simp only [List.length_map] at this
          omega
        refine cl_mono (same_spec (a := M) (b := N) (by omega) (Know.here (m := RoP.mono)).tail (Know.here (m := RoP.mono)) H) ?_
        rintro r3 w7 ⟨hr, H⟩
        exact ⟨hr.2 hMN, H.drop.drop.drop.drop.drop.below⟩
/-- All V, together. -/
def tot : List S36 → Int
  | [] => 0
  | x :: L => x.V + tot L
theorem tot_perm {L M : List S36} (h : L.Perm M) : tot L = tot M := by
  induction h with
  | nil => rfl
  | cons x _ ih => simp only [tot, ih]
  | swap x y _ => simp only [tot]; omega
  | trans _ _ h1 h2 => rw [h1, h2]
theorem tot_append (L M : List S36) : tot (L ++ M) = tot L + tot M := by
  induction L with
  | nil => simp [tot]
  | cons x L ih => simp only [List.cons_append, tot, ih]; omega
theorem tot_nonneg : ∀ {L : List S36}, (∀ x ∈ L, 0 ≤ x.V) → 0 ≤ tot L
  | [], _ => Int.le_refl 0
  | x :: L, h => by
    have h1 := h x (List.mem_cons_self ..)
    have h2 := tot_nonneg fun y hy => h y (List.mem_cons_of_mem _ hy)
    simp only [tot]; omega
structure Fine (es : List (Int × Int)) (sum : Int) (L : List S36) : Prop where
  dup : (L.map fun x => x.Key).Nodup
  new : ∀ x ∈ L, es.lookup x.Key = none
  rng : ∀ x ∈ L, ¬ (x.Key < 0 ∨ x.Key ≥ 8192) ∧ ¬ (x.V < 0 ∨ x.V > most x.Key)
  le : sum + tot L ≤ 4611686018427387904
theorem why_zero {es : List (Int × Int)} {sum : Int} {x : S36} : why es sum x = 0 ↔ ¬ (x.Key < 0 ∨ x.Key ≥ 8192) ∧ es.lookup x.Key = none ∧ ¬ (x.V < 0 ∨ x.V > most x.Key) ∧ ¬ (x.V > 4611686018427387904 - sum) := by
  unfold why
  by_cases c1 : x.Key < 0 ∨ x.Key ≥ 8192
  · rw [if_pos c1]; exact ⟨fun h => by omega, fun h => absurd c1 h.1⟩
  rw [if_neg c1]
  by_cases c2 : (es.lookup x.Key).isSome = true
  · rw [if_pos c2]; exact ⟨fun h => by omega, fun h => by rw [h.2.1] at c2; cases c2⟩
  rw [if_neg c2]
  have c2' : es.lookup x.Key = none := by cases e : es.lookup x.Key with | none => rfl | some u => rw [e] at c2; exact absurd rfl c2
  by_cases c3 : x.V < 0 ∨ x.V > most x.Key
  · rw [if_pos c3]; exact ⟨fun h => by omega, fun h => absurd c3 h.2.2.1⟩
  rw [if_neg c3]
  by_cases c4 : x.V > 4611686018427387904 - sum
  · rw [if_pos c4]; exact ⟨fun h => by omega, fun h => absurd c4 h.2.2.2⟩
  rw [if_neg c4]
  exact ⟨fun _ => ⟨c1, c2', c3, c4⟩, fun _ => rfl⟩
theorem goes_fine : ∀ (L : List S36) (es : List (Int × Int)) (sum : Int), sum ≤ 4611686018427387904 → ((goes es sum L).2.2 = 0 ↔ Fine es sum L)
  | [], es, sum, hs => ⟨fun _ => ⟨by simp, by simp, by simp, by simp only [tot]; omega⟩, fun _ => rfl⟩
  | x :: L, es, sum, hs => by
    simp only [goes]
    by_cases hw : why es sum x = 0
    · rw [if_pos hw]
      obtain ⟨w1, w2, w3, w4⟩ := why_zero.1 hw
      rw [goes_fine L _ _ (by omega)]
      constructor
      · intro F
        refine ⟨?_, fun y hy => ?_, fun y hy => ?_, ?_⟩
        · rw [List.map_cons]
          refine List.nodup_cons.2 ⟨fun hm => ?_, F.dup⟩
          obtain ⟨y, hy, e⟩ := List.mem_map.1 hm
          have := F.new y hy
          rw [lookup_ups, if_pos (by simpa using e)] at this
          cases this
        · rcases List.mem_cons.1 hy with rfl | hy
          · exact w2
          · have := F.new y hy
            rw [lookup_ups] at this
            split at this
            · cases this
            · exact this
        · rcases List.mem_cons.1 hy with rfl | hy
          · exact ⟨w1, w3⟩
          · exact F.rng y hy
        · have := F.le; simp only [tot]; omega
      · intro F
        have hd := List.nodup_cons.1 F.dup
        refine ⟨hd.2, fun y hy => ?_, fun y hy => F.rng y (List.mem_cons_of_mem _ hy), ?_⟩
        · rw [lookup_ups, if_neg]
          · exact F.new y (List.mem_cons_of_mem _ hy)
          · intro e
            exact hd.1 (List.mem_map.2 ⟨y, hy, by simpa using e⟩)
        · have := F.le; simp only [tot] at this; omega
    · rw [if_neg hw]
      constructor
      · intro h; exact absurd h hw
      · intro F
        refine absurd (why_zero.2 ?_) hw
        have h1 := F.rng x (List.mem_cons_self ..)
        refine ⟨h1.1, F.new x (List.mem_cons_self ..), h1.2, ?_⟩
        have := F.le
        have h2 := tot_nonneg (L := L) fun y hy => by have := (F.rng y (List.mem_cons_of_mem _ hy)).2; omega
        simp only [tot] at this; omega
theorem goes_tot : ∀ (L : List S36) (es : List (Int × Int)) (sum : Int), (goes es sum L).2.2 = 0 → (goes es sum L).2.1 = sum + tot L
  | [], es, sum, _ => by simp [goes, tot]
  | x :: L, es, sum, h => by
    simp only [goes] at h ⊢
    by_cases hw : why es sum x = 0
    · rw [if_pos hw] at h ⊢
      rw [goes_tot L _ _ h]; simp only [tot]; omega
    · rw [if_neg hw] at h; exact absurd h hw
theorem Fine.perm {L M : List S36} (h : L.Perm M) (F : Fine [] 0 L) : Fine [] 0 M :=
  ⟨(h.map _).nodup_iff.1 F.dup, fun x hx => rfl, fun x hx => F.rng x (h.mem_iff.2 hx), by rw [← tot_perm h]; exact F.le⟩
/-- Reports that come to something, in any order. -/
theorem checked_perm {at_ : Int} {rs rs' : List (S38 × List S36)} (hp : rs'.Perm rs) (h : (checked at_ rs).2 = 0) : checked at_ rs' = (tot (flat rs), 0) ∧ checked at_ rs = (tot (flat rs), 0) ∧ Fine [] 0 (flat rs) := by
  have hc : (decide (at_ < 0) || decide (at_ > 1125899906842624) || rs.any fun p => p.1.At != at_) = false := by
    cases c : (decide (at_ < 0) || decide (at_ > 1125899906842624) || rs.any fun p => p.1.At != at_) with
    | false => rfl
    | true => rw [checked_no c] at h; cases h
  have hc' : (decide (at_ < 0) || decide (at_ > 1125899906842624) || rs'.any fun p => p.1.At != at_) = false := by
    rw [← hc]
    congr 1
    rw [Bool.eq_iff_iff, List.any_eq_true, List.any_eq_true]
    exact ⟨fun ⟨x, hx, h⟩ => ⟨x, hp.mem_iff.1 hx, h⟩, fun ⟨x, hx, h⟩ => ⟨x, hp.mem_iff.2 hx, h⟩⟩
  rw [checked_yes hc] at h
  have hz : (goes [] 0 (flat rs)).2.2 = 0 := by
    by_cases c : (goes [] 0 (flat rs)).2.2 = 0
    · exact c
    · rw [if_neg c] at h; exact h
  have hF := (goes_fine _ [] 0 (by omega)).1 hz
  have hP : (flat rs).Perm (flat rs') := by unfold flat; exact (hp.symm.flatMap_right _)
  have hz' := (goes_fine _ [] 0 (by omega)).2 (hF.perm hP)
  refine ⟨?_, ?_, hF⟩
  · rw [checked_yes hc', if_pos hz', goes_tot _ _ _ hz', tot_perm hP]; simp
  · rw [checked_yes hc, if_pos hz, goes_tot _ _ _ hz]; simp
def many (rs : List (S38 × List S36)) : Int := (flat rs).length
theorem walkAuditSums (W : World) (at_ : Int) (s : Slc) (turn : Int) (g0 : G2 W at_) (g1 : G22 W s) (g2 : G5 W turn) : cl Try.prog 6 [.int .i64 at_, tSlc.enc s, .int .u8 turn] tBool W fun r w' => r = true ∧ RowKit.Below W.heap.size W w' := by
  obtain ⟨rs, hrs⟩ := reports_of g1
  have ht : 0 ≤ turn ∧ turn ≤ 255 := g2
  have k : Know [old W] (RsP s rs) := (oldK W).imp fun I h => RsP.mono h hrs
  have H := St.start W
  refine F6_ok ?_
  unfold F6
  refine cl_mono (few_spec k H) ?_
  rintro ⟨q, ok⟩ w1 (⟨hq, H⟩ | ⟨hq, hm, hm2, rs', hk, hcap, H⟩)
  · simp only at hq; subst hq
    rw [if_pos (by simp)]
    refine cl_mono (awake_spec H) ?_
    rintro r w2 ⟨rfl, H⟩; exact ⟨rfl, H.below⟩
  · simp only at hq H hcap; subst hq
    have ki : Know [rso q rs', old W] (RsP q rs') := Know.here (m := RsP.mono)
    have hl := len_same hk
    have hm3 := each_same hk hm2
    have lq := (Know.rs ki).len H
    rw [List.length_map] at lq
    have hfl := flat_len_le hm3
    have hfl2 : rs'.length * 60 ≤ 20 * 60 := Nat.mul_le_mul_right _ (by omega)
    clear hrs k
    split
    · refine cl_mono (awake_spec H) ?_
      rintro r w2 ⟨rfl, H⟩; exact ⟨rfl, H.drop.below⟩
    · rename_i h0
      have h0 : 0 < rs'.length := by simp at h0; omega
      refine cl_mono (check_spec (by omega) (fun p hp => Nat.le_trans (hm3 p hp) (by omega)) ki H) ?_
      rintro a w2 ⟨rfl, H⟩
      refine cl_mono (merge_spec (by omega) (fun p hp => Nat.le_trans (hm3 p hp) (by omega)) ki H) ?_
      rintro ⟨sm, em⟩ w3 ⟨L, ⟨m1, m2⟩, H⟩
      simp only at m1 m2 H ⊢
      have H := row_stay H
      have kL : Know [ro T36 sm L, rso q rs', old W] (RoP T36 sm L) := Know.here (m := RoP.mono)
      have lL := kL.len H
      refine cl_mono (awake_spec H) ?_
      rintro c w4 ⟨rfl, H⟩
      split
      · rename_i hne
        have hne : (checked at_ rs').2 ≠ 0 := by
          intro e
          rw [e, m1.trans e] at hne
          exact absurd hne (by decide)
        rw [if_neg (by rw [m1]; exact hne)] at m2
        refine cl_mono (awake_spec H) ?_
        rintro r w5 ⟨rfl, H⟩
        refine ⟨?_, H.drop.drop.below⟩
        have hz : (checked at_ rs').1 = 0 := by
          unfold checked at hne ⊢
          by_cases c : (gathered at_ rs').2.2 = 0
          · rw [if_pos c] at hne; exact absurd rfl hne
          · rw [if_neg c]
        rw [hz, m1, lL, m2.1]; simp
      · rename_i hne
        have hne : (checked at_ rs').2 = 0 := by simpa [m1] using hne
        rw [if_pos (by rw [m1]; exact hne)] at m2
        obtain ⟨mR, mP, mK⟩ := m2
        obtain ⟨_, hch, hF⟩ := checked_perm (at_ := at_) (List.Perm.refl rs') hne
        have hFL := hF.perm mP.symm
        have totL := tot_perm mP
        have hLl : L.length ≤ 1200 := by rw [mP.length_eq]; omega
        have vpos : ∀ x ∈ L, 0 ≤ x.V := fun x hx => by have := (hFL.rng x hx).2; omega
        have sumI : ∀ i : Nat, 0 ≤ tot (L.take i) ∧ tot (L.take i) ≤ 4611686018427387904 := by
          intro i
          have h1 := tot_nonneg (L := L.take i) fun x hx => vpos x (List.mem_of_mem_take hx)
          have h2 := tot_nonneg (L := L.drop i) fun x hx => vpos x (List.mem_of_mem_drop hx)
          have h3 : tot L = tot (L.take i) + tot (L.drop i) := by rw [← tot_append, List.take_append_drop]
          have h4 := hFL.le
          omega
        refine lp_i (fun p w => 0 ≤ p.2 ∧ p.2 ≤ L.length ∧ p.1 = tot (L.take p.2.toNat) ∧ St W [ro T36 sm L, rso q rs', old W] w) (fun p => (L.length - p.2).toNat) ⟨Int.le_refl 0, by simp only; omega, rfl, H⟩ ?_
        clear H
        rintro ⟨sum, i⟩ w ⟨i0, i1, hsum, H⟩
        simp only at i0 i1 hsum ⊢
        unfold F6_l1
        simp only
        split
        · rename_i hc
          have hc : i < L.length := by simp at hc; omega
          have e1 : IntKind.i64.wrap (i + 1) = i + 1 := wrap_i64 (by omega) (by omega)
          have e2 : IntKind.i64.wrap (i - 1) = i - 1 := wrap_i64 (by omega) (by omega)
          have hx : L[i.toNat]? = some L[i.toNat] := List.getElem?_eq_getElem (by omega)
          have htk : L.take (i.toNat + 1) = L.take i.toNat ++ [L[i.toNat]] := List.take_succ_eq_append_getElem (by omega)
          obtain ⟨p, hp⟩ := kL.ix (sz := 2) (i := i) H i0 hc
          generalize L[i.toNat] = x at hx htk
          rw [e1, e2]
          obtain ⟨y, hy⟩ : ∃ y, i > 0 → L[(i - 1).toNat]? = some y := by
            by_cases c : i > 0
            · exact ⟨L[(i - 1).toNat]'(by omega), fun _ => List.getElem?_eq_getElem (by omega)⟩
            · exact ⟨x, fun h => absurd h c⟩
          obtain ⟨p', hp'⟩ := gex (g := decide (i > 0)) (C := IxA sm 2 (i - 1)) fun h => kL.ix H (by simp at h; omega) (by omega)
          refine dr_st H fun w1 H => ?_
          refine ex_i p' hp' ?_
          refine ex_i p (fun _ => hp) ?_
          refine ex_i y.Key (fun h => kL.fld (fun _ => rfl) (hp' h) (hy (by simpa using h)) rfl H) ?_
          refine ex_i x.Key (fun _ => kL.fld (fun _ => rfl) hp hx rfl H) ?_
          have hrise : i > 0 → y.Key < x.Key := by
            intro h
            have h1 := (rises_iff L).1 ((rises_pw L).2 mR) (i - 1).toNat (by omega) y x (hy h) (by rw [show (i - 1).toNat + 1 = i.toNat from by omega]; exact hx)
            exact h1
          rw [if_neg (by
            intro h
            simp only [Bool.and_eq_true, decide_eq_true_eq] at h
            have := hrise h.1
            omega)]
          refine ex_i p hp ?_
          refine ex_i x.V (kL.fld (fun _ => rfl) hp hx rfl H) ?_
          have hs2 := sumI (i.toNat + 1)
          rw [htk, tot_append] at hs2
          have hs1 := sumI i.toNat
          simp only [tot] at hs2
          have ew : IntKind.i64.wrap (sum + x.V) = sum + x.V := wrap_i64 (by omega) (by omega)
          rw [ew]
          refine ⟨⟨by omega, by omega, ?_, H⟩, by omega⟩

          rw [show (i + 1).toNat = i.toNat + 1 from by omega, htk, tot_append, hsum]
          simp only [tot]; omega
        · rename_i hc
          have hc : i = L.length := by simp at hc; omega
          subst hc
          have et : L.take ((L.length : Int)).toNat = L := by simp
          rw [et] at hsum
          clear i0 i1 et hc
          have flT : ∀ i : Nat, (flat (rs'.take i)).length ≤ (flat rs').length := by
            intro i
            have : flat rs' = flat (rs'.take i) ++ flat (rs'.drop i) := by unfold flat; rw [← List.flatMap_append, List.take_append_drop]
            rw [this, List.length_append]; omega
          refine lp_i (fun p w => 0 ≤ p.2 ∧ p.2 ≤ rs'.length ∧ p.1 = many (rs'.take p.2.toNat) ∧ St W [ro T36 sm L, rso q rs', old W] w) (fun p => (rs'.length - p.2).toNat) ⟨Int.le_refl 0, by simp only; omega, rfl, H⟩ ?_
          clear H
          rintro ⟨mn, i⟩ w ⟨i0, i1, hmn, H⟩
          simp only at i0 i1 hmn ⊢
          have kr : Know [ro T36 sm L, rso q rs', old W] (RsP q rs') := ki.tail
          unfold F6_l2
          simp only
          split
          · rename_i hc
            have hc : i < rs'.length := by simp at hc; omega
            have e1 : IntKind.i64.wrap (i + 1) = i + 1 := wrap_i64 (by omega) (by omega)
            have hx : rs'[i.toNat]? = some rs'[i.toNat] := List.getElem?_eq_getElem (by omega)
            have htk := flat_take (rs := rs') (i := i.toNat) (by omega)
            generalize rs'[i.toNat] = p at hx htk
            have hmem := List.mem_of_getElem? hx
            have hxm : (rs'.map (·.1))[i.toNat]? = some p.1 := by rw [List.getElem?_map, hx]; rfl
            obtain ⟨a, ha⟩ := (Know.rs kr).ix (sz := 2) (i := i) H i0 (by rw [List.length_map]; omega)
            have hpl := (Know.rs_at hmem kr).len H
            refine ex_i a ha ?_
            refine ex_i p.1.L ((Know.rs kr).fld (fun _ => rfl) ha hxm rfl H) ?_
            have h1 := flT (i.toNat + 1)
            rw [htk, List.length_append] at h1
            have hmany : many (rs'.take (i.toNat + 1)) = many (rs'.take i.toNat) + p.1.L.len := by
              unfold many; rw [htk, List.length_append, hpl]; omega
            have ew : IntKind.i64.wrap (mn + (p.1.L.len : Int)) = mn + p.1.L.len := by
              have : many (rs'.take i.toNat) = ((flat (rs'.take i.toNat)).length : Int) := rfl
              exact wrap_i64 (by omega) (by omega)
            rw [e1, ew]
            refine ⟨⟨by omega, by omega, ?_, H⟩, by omega⟩

            rw [show (i + 1).toNat = i.toNat + 1 from by omega, hmany, hmn]
          · rename_i hc
            have hc : i = rs'.length := by simp at hc; omega
            subst hc
            have et : rs'.take ((rs'.length : Int)).toNat = rs' := by simp
            rw [et] at hmn
            clear i0 i1 et hc
            have et : IntKind.i64.wrap turn = turn := wrap_i64 (by omega) (by omega)
            rw [et, lq]
            have hd0 : 0 ≤ Int.tmod turn (rs'.length : Int) ∧ Int.tmod turn (rs'.length : Int) < rs'.length := by
              constructor
              · exact Int.tmod_nonneg _ ht.1
              · exact Int.tmod_lt_of_pos _ (by omega)
            refine ex_i (Int.tmod turn (rs'.length : Int)) ⟨by omega, rfl⟩ ?_
            generalize Int.tmod turn (rs'.length : Int) = d at hd0
            obtain ⟨d0, d1⟩ := hd0
            refine dr_st H fun w1 H => ?_
            rw [← lq]
            obtain ⟨s1, hs1⟩ : ∃ s1, Sub q 2 d ((q).len : Int) ((q).cap : Int) s1 := ⟨_, d0, by omega, by omega, Int.le_refl _, rfl⟩
            obtain ⟨s2, hs2⟩ : ∃ s2, Sub q 2 0 d ((q).cap : Int) s2 := ⟨_, Int.le_refl 0, d0, by omega, Int.le_refl _, rfl⟩
            refine ex_i s1 hs1 ?_
            refine ex_i s2 hs2 ?_
            have k1 := (Know.rs kr).sub (fun _ => rfl) hs1 (show ((q.len : Int)) ≤ ((rs'.map (·.1)).length : Int) by rw [List.length_map]; omega)
            have k2 := (Know.rs kr).sub (fun _ => rfl) hs2 (show d ≤ ((rs'.map (·.1)).length : Int) by rw [List.length_map]; omega)
            have ek : (rs'.map (·.1)).take ((q.len : Int)).toNat = rs'.map (·.1) := by rw [lq]; exact List.take_of_length_le (by simp)
            rw [ek] at k1
            simp only [show ((0 : Int)).toNat = 0 from rfl, List.drop_zero] at k2
            refine nwS_st H fun b w2 H => ?_
            have H := row_new (sz := 2) (m := 0) rfl H
            refine apd_row (fun _ => rfl) 0 H rfl (k1.tail.rdS H) (by simp only [List.length_drop, List.length_map, List.length_nil]; omega) fun r3 w3 H => ?_
            refine apd_row (fun _ => rfl) 0 H rfl (k2.tail.rdS H) (by simp only [List.length_drop, List.length_map, List.length_nil, List.length_append, List.length_take]; omega) fun r4 w4 H => ?_
            have H := row_stay H
            have ex : ([] ++ (rs'.map (·.1)).drop d.toNat ++ (rs'.map (·.1)).take d.toNat) = (rs'.drop d.toNat ++ rs'.take d.toNat).map (·.1) := by simp
            rw [ex] at H
            have hperm : (rs'.drop d.toNat ++ rs'.take d.toNat).Perm rs' := by
              have := List.perm_append_comm (l₁ := rs'.drop d.toNat) (l₂ := rs'.take d.toNat)
              rwa [List.take_append_drop] at this
            generalize rs'.drop d.toNat ++ rs'.take d.toNat = rt at H hperm
            have kt : Know [ro T38 r4 (rt.map (·.1)), ro T36 sm L, rso q rs', old W] (RsP r4 rt) := fun I h hl => ⟨Know.here (m := RoP.mono) I h hl, fun p hp => (kr.tail I h hl).2 p (hperm.mem_iff.1 hp)⟩
            have hlt : rt.length = rs'.length := hperm.length_eq
            have hmt : ∀ p ∈ rt, p.2.length ≤ 60 := fun p hp => hm3 p (hperm.mem_iff.1 hp)
            refine cl_mono (merge_spec (by omega) (fun p hp => Nat.le_trans (hmt p hp) (by omega)) kt H) ?_
            rintro ⟨sp, ep⟩ w5 ⟨M, ⟨n1, n2⟩, H⟩
            simp only at n1 n2 H ⊢
            have H := row_stay H
            refine cl_mono (check_spec (by omega) (fun p hp => Nat.le_trans (hmt p hp) (by omega)) kt.tail H) ?_
            rintro a w6 ⟨rfl, H⟩
            obtain ⟨c1, _, _⟩ := checked_perm (at_ := at_) hperm hne
            rw [c1] at n1
            rw [if_pos n1] at n2
            have hLM : L = M := rise_eq mR n2.1 fun x => by
              rw [mP.mem_iff, n2.2.1.mem_iff]
              have : (flat rt).Perm (flat rs') := by unfold flat; exact hperm.flatMap_right _
              exact this.mem_iff.symm
            have hmL : mn = (L.length : Int) := by rw [hmn]; unfold many; rw [mP.length_eq]
            rw [c1, hch, if_pos (by rw [n1, hsum, totL, hmL, lL]; simp)]
            refine cl_mono (same_spec (a := L) (b := M) (by omega) (Know.here (m := RoP.mono)).tail.tail (Know.here (m := RoP.mono)) H) ?_
            rintro r5 w7 ⟨hr, H⟩
            have hr := hr.2 hLM
            subst hr
            unfold F6_j3
            refine ⟨by simp, H.drop.drop.drop.drop.below⟩
end
end Go.Proofs.Ytleehieomicicaa
