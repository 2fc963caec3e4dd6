/- Contracts of the reference: Diff. -/
import Derived.Test.YtleehieomicicaaQM
namespace Go.Proofs.Ytleehieomicicaa.Audit
open Go Go.Proofs.Ytleehieomicicaa.Cf
set_option linter.unusedVariables false
set_option linter.unusedSimpArgs false
set_option maxRecDepth 100000
section
variable {W w : World} {l : List Assn}
def pick {α : Type} (i : Int) (x y : α) : α := if i = 0 then x else y
theorem val_eq_of {d : List S36} {f : Int → Int} (hd : Rise d) (h : ∀ x ∈ d, x.V = f x.Key) (h2 : ∀ k, f k ≠ 0 → ∃ x ∈ d, x.Key = k) (k : Int) : val d k = f k := by
  by_cases c : ∃ x ∈ d, x.Key = k
  · obtain ⟨x, hx, rfl⟩ := c
    rw [val_mem hd hx, h x hx]
  · have : f k = 0 := Classical.byContradiction fun e => c (h2 k e)
    rw [this]
    exact val_none fun x hx e => c ⟨x, hx, e⟩
/-- What is told of keys of a. -/
def outA (a b : List S36) : List S36 := (a.map fun y => (⟨y.Key, val b y.Key - y.V⟩ : S36)).filter fun x => x.V != 0
/-- What is told of keys of b alone. -/
def outB (a b : List S36) : List S36 := b.filter fun x => !(a.any fun y => y.Key == x.Key) && (x.V != 0)
theorem mem_outA {a b : List S36} {x : S36} : x ∈ outA a b ↔ (∃ y ∈ a, y.Key = x.Key ∧ x.V = val b x.Key - y.V) ∧ x.V ≠ 0 := by
  unfold outA
  rw [List.mem_filter, List.mem_map]
  constructor
  · rintro ⟨⟨y, hy, rfl⟩, h⟩
    exact ⟨⟨y, hy, rfl, rfl⟩, by simpa using h⟩
  · rintro ⟨⟨y, hy, h1, h2⟩, h⟩
    exact ⟨⟨y, hy, s36_eq h1 (by simp only; rw [h2, h1])⟩, by simpa using h⟩
theorem mem_outB {a b : List S36} {x : S36} : x ∈ outB a b ↔ x ∈ b ∧ (∀ y ∈ a, y.Key ≠ x.Key) ∧ x.V ≠ 0 := by
  unfold outB
  rw [List.mem_filter]
  simp
theorem rise_nodup {L : List S36} (h : Rise L) : (L.map fun x => x.Key).Nodup := by
  refine List.Pairwise.map _ (fun a b (h : a.Key < b.Key) => ?_) h
  intro e; omega
theorem out_nodup {a b : List S36} (ha : Rise a) (hb : Rise b) : ((outA a b ++ outB a b).map fun x => x.Key).Nodup := by
  rw [List.map_append]
  refine List.nodup_append.2 ⟨?_, ?_, ?_⟩
  · have : ((a.map fun y => (⟨y.Key, val b y.Key - y.V⟩ : S36)).map fun x => x.Key).Nodup := by rw [List.map_map]; exact rise_nodup ha
    exact this.sublist (List.filter_sublist.map _)
  · exact (rise_nodup hb).sublist (List.filter_sublist.map _)
  · intro x hx y hy e
    obtain ⟨p, hp, rfl⟩ := List.mem_map.1 hx
    obtain ⟨q, hq, rfl⟩ := List.mem_map.1 hy
    obtain ⟨⟨z, hz, h1, _⟩, _⟩ := mem_outA.1 hp
    exact (mem_outB.1 hq).2.1 z hz (h1.trans e)
theorem out_diffed {a b d : List S36} {s : Slc} (ha : Rise a) (hb : Rise b) (hd : Rise d) (hP : d.Perm (outA a b ++ outB a b)) (h0 : dWhy a b = 0) : Diffed a b s 0 d := by
  refine ⟨h0.symm, ?_⟩
  rw [if_pos rfl]
  have hmem : ∀ x, x ∈ d ↔ x ∈ outA a b ∨ x ∈ outB a b := fun x => by rw [hP.mem_iff, List.mem_append]
  refine ⟨hd, fun x hx => ?_, val_eq_of hd (fun x hx => ?_) fun k hk => ?_⟩
  · rcases (hmem x).1 hx with h | h
    · exact (mem_outA.1 h).2
    · exact (mem_outB.1 h).2.2
  · rcases (hmem x).1 hx with h | h
    · obtain ⟨⟨y, hy, h1, h2⟩, _⟩ := mem_outA.1 h
      rw [h2, ← val_mem ha hy, h1]
    · obtain ⟨h1, h2, _⟩ := mem_outB.1 h
      rw [val_mem hb h1, val_none h2]; omega
  · by_cases c : ∃ y ∈ a, y.Key = k
    · obtain ⟨y, hy, rfl⟩ := c
      refine ⟨⟨y.Key, val b y.Key - val a y.Key⟩, (hmem _).2 (.inl (mem_outA.2 ⟨⟨y, hy, rfl, ?_⟩, hk⟩)), rfl⟩
      simp only; rw [val_mem ha hy]
    · have h1 : val a k = 0 := val_none fun y hy e => c ⟨y, hy, e⟩
      rw [h1] at hk
      obtain ⟨x, hx, h2, h3⟩ := val_some (L := b) (k := k) (by omega)
      refine ⟨x, (hmem _).2 (.inr (mem_outB.2 ⟨hx, fun y hy e => c ⟨y, hy, e.trans h2⟩, by omega⟩)), h2⟩
theorem outA_take {a b : List S36} {i : Nat} {x : S36} (hx : a[i]? = some x) : outA (a.take (i + 1)) b = outA (a.take i) b ++ if val b x.Key - x.V ≠ 0 then [(⟨x.Key, val b x.Key - x.V⟩ : S36)] else [] := by
  obtain ⟨hi, rfl⟩ := List.getElem?_eq_some_iff.1 hx
  unfold outA
  rw [List.take_succ_eq_append_getElem hi, List.map_append, List.filter_append]
  congr 1
  simp only [List.map_cons, List.map_nil, List.filter_cons, List.filter_nil]
  by_cases c : val b a[i].Key - a[i].V = 0
  · rw [if_neg (by simpa using c), if_neg (by simpa using c)]
  · rw [if_pos (by simpa using c), if_pos c]
theorem outB_take {a b : List S36} {i : Nat} {x : S36} (hx : b[i]? = some x) : outB a (b.take (i + 1)) = outB a (b.take i) ++ if (!(a.any fun y => y.Key == x.Key) && (x.V != 0)) = true then [x] else [] := by
  obtain ⟨hi, rfl⟩ := List.getElem?_eq_some_iff.1 hx
  unfold outB
  rw [List.take_succ_eq_append_getElem hi, List.filter_append]
  congr 1
  rw [List.filter_cons, List.filter_nil]
theorem ref_diff {sa sb : Slc} {a b : List S36} (ha : a.length ≤ 1000) (hb : b.length ≤ 1000) (ka : Know l (RoP T36 sa a)) (kb : Know l (RoP T36 sb b)) (H : St W l w) :
    cl Try.prog 18 [tSlc.enc sa, tSlc.enc sb] (tTup2 tSlc (tInt .i64)) w fun q w' => ∃ d, Diffed a b q.1 q.2 d ∧ St W (row T36 37 2 q.1 d :: l) w' := by
  have la := ka.len H
  have lb := kb.len H
  refine F18_ok ?_
  unfold F18
  refine nw_st H fun c w1 H => ?_
  refine st_st (x := (⟨#[sa, sb], rfl⟩ : Vector Slc 2)) 0 H rfl rfl (Nat.le_of_ble_eq_true rfl) fun w2 H => ?_
  have H : St W (cel c [tSlc.enc sa, tSlc.enc sb] 52 :: l) w2 := H
  have kab : ∀ i, Know l (RoP T36 (pick i sa sb) (pick i a b)) := fun i => by unfold pick; split; exact ka; exact kb
  have lab : ∀ i : Int, (pick i a b).length ≤ 1000 := fun i => by unfold pick; split; exact ha; exact hb
  have lpk : ∀ i : Int, (pick i sa sb).len = (pick i a b).length := fun i => by unfold pick; split; exact la; exact lb
  have rdp : ∀ (i : Int) (w : World), 0 ≤ i → i < 2 → St W (cel c [tSlc.enc sa, tSlc.enc sb] 52 :: l) w → RdAt tSlc ((⟨c, 0, none⟩ : Addr).add (i.toNat * 1)) w (pick i sa sb) := by
    intro i w i0 i1 H
    have : i = 0 ∨ i = 1 := by omega
    rcases this with rfl | rfl
    · exact rdat_cel tSlc H rfl rfl
    · exact rdat_cel tSlc H rfl rfl
  have bad : ∀ (i : Int) (w : World), i = 0 ∨ i = 1 → rises (pick i a b) = false → St W (cel c [tSlc.enc sa, tSlc.enc sb] 52 :: l) w → ∃ d, Diffed a b nilS 185 d ∧ St W (row T36 37 2 nilS d :: l) w := by
    intro i w hi hr H
    refine ⟨[], ⟨?_, by rw [if_neg (by decide)]; exact ⟨rfl, rfl⟩⟩, row_nil T36 37 2 H.drop⟩
    unfold dWhy
    rw [if_pos]
    rcases hi with rfl | rfl
    · have : rises a = false := hr
      rw [this]; rfl
    · have : rises b = false := hr
      rw [this]; simp
  refine lp_i (fun i w => 0 ≤ i ∧ i ≤ 2 ∧ (∀ j, 0 ≤ j → j < i → rises (pick j a b) = true) ∧ St W (cel c [tSlc.enc sa, tSlc.enc sb] 52 :: l) w) (fun i => (2 - i).toNat) ⟨Int.le_refl 0, by omega, fun j h1 h2 => by omega, H⟩ ?_
  clear H
  rintro i w ⟨i0, i1, hr, H⟩
  unfold F18_l1
  split
  · rename_i hc
    have hc : i < 2 := by simpa using hc
    have ei : IntKind.i64.wrap (i + 1) = i + 1 := wrap_i64 (by omega) (by omega)
    have kL := (kab i).tail (A := cel c [tSlc.enc sa, tSlc.enc sb] 52)
    have hlL := lab i
    have hsl := lpk i
    have rd := fun w => rdp i w i0 hc
    have hbad := fun w => bad i w (by omega)
    generalize hLi : pick i a b = L at kL hlL hsl hbad
    generalize pick i sa sb = sl at kL hsl rd
    refine lp_i (fun k w => 1 ≤ k ∧ (∀ j : Nat, (j : Int) + 1 < k → j + 1 < L.length → ∀ a b, L[j]? = some a → L[j + 1]? = some b → a.Key < b.Key) ∧ (k ≤ L.length ∨ k = 1) ∧ St W (cel c [tSlc.enc sa, tSlc.enc sb] 52 :: l) w) (fun k => (L.length - k).toNat) ⟨Int.le_refl 1, fun j h => by omega, .inr rfl, H⟩ ?_
    clear H
    rintro k w ⟨h1, h2, h3, H⟩
    unfold F18_l2
    refine ixr_i i0 hc ?_
    refine ex_i sl (rd w H) ?_
    split
    · rename_i hc2
      have hc2 : k < L.length := by simp at hc2; omega
      have e1 : IntKind.i64.wrap (k + 1) = k + 1 := wrap_i64 (by omega) (by omega)
      have e2 : IntKind.i64.wrap (k - 1) = k - 1 := wrap_i64 (by omega) (by omega)
      rw [e1, e2]
      have hx : L[(k - 1).toNat]? = some L[(k - 1).toNat] := List.getElem?_eq_getElem (by omega)
      have hy : L[k.toNat]? = some L[k.toNat] := List.getElem?_eq_getElem (by omega)
      obtain ⟨p, hp⟩ := kL.ix (sz := 2) (i := k - 1) H (by omega) (by omega)
      obtain ⟨q, hq⟩ := kL.ix (sz := 2) (i := k) H (by omega) hc2
      refine dr_st H fun w1 H => ?_
      refine ixr_i i0 hc ?_
      refine ixr_i i0 hc ?_
      refine ex_i sl (rd w1 H) ?_
      refine ex_i p hp ?_
      refine ex_i L[(k - 1).toNat].Key (kL.fld (fun _ => rfl) hp hx rfl H) ?_
      refine ex_i sl (rd w1 H) ?_
      refine ex_i q hq ?_
      refine ex_i L[k.toNat].Key (kL.fld (fun _ => rfl) hq hy rfl H) ?_
      split
      · rename_i hk
        have hk : L[(k - 1).toNat].Key ≥ L[k.toNat].Key := by simpa using hk
        refine hbad w1 ?_ H
        cases hr : rises L with
        | false => rfl
        | true =>
          have := (rises_iff L).1 hr (k - 1).toNat (by omega) _ _ hx (by rw [show (k - 1).toNat + 1 = k.toNat from by omega]; exact hy)
          omega
      · rename_i hk
        have hk : L[(k - 1).toNat].Key < L[k.toNat].Key := by simpa using hk
        refine ⟨⟨by omega, fun j hj hj2 a b ha hb => ?_, .inl (by omega), H⟩, by omega⟩
        by_cases e : (j : Int) + 1 < k
        · exact h2 j e hj2 a b ha hb
        · have e : j = (k - 1).toNat := by omega
          subst e
          rw [hx] at ha
          rw [show (k - 1).toNat + 1 = k.toNat from by omega, hy] at hb
          cases ha; cases hb; exact hk
    · rename_i hc2
      rw [ei]
      refine ⟨⟨by omega, by omega, fun j hj0 hj1 => ?_, H⟩, by omega⟩
      by_cases e : j < i
      · exact hr j hj0 e
      · have e : j = i := by omega
        rw [e, hLi]
        exact (rises_iff L).2 fun j hj a b ha hb => h2 j (by simp at hc2; omega) hj a b ha hb
  · rename_i hc
    have hc : i = 2 := by simp at hc; omega
    subst hc
    have ra : rises a = true := hr 0 (by omega) (by omega)
    have rb : rises b = true := hr 1 (by omega) (by omega)
    have Ra := (rises_pw a).1 ra
    have Rb := (rises_pw b).1 rb
    clear bad hr i0 i1
    refine lp_i (fun i w => 0 ≤ i ∧ i ≤ 2 ∧ (∀ j, 0 ≤ j → j < i → ((pick j a b).all fun x => !wrong x) = true) ∧ St W (cel c [tSlc.enc sa, tSlc.enc sb] 52 :: l) w) (fun i => (2 - i).toNat) ⟨Int.le_refl 0, by omega, fun j h1 h2 => by omega, H⟩ ?_
    clear H
    rintro i w ⟨i0, i1, hr, H⟩
    unfold F18_l3
    split
    · rename_i hc
      have hc : i < 2 := by simpa using hc
      have ei : IntKind.i64.wrap (i + 1) = i + 1 := wrap_i64 (by omega) (by omega)
      have kL := (kab i).tail (A := cel c [tSlc.enc sa, tSlc.enc sb] 52)
      have hlL := lab i
      have hsl := lpk i
      have rd := fun w => rdp i w i0 hc
      have hbad : ((pick i a b).all fun x => !wrong x) = false → dWhy a b = 183 := by
        intro h
        unfold dWhy
        rw [ra, rb, if_neg (by decide), if_pos]
        have : i = 0 ∨ i = 1 := by omega
        rcases this with rfl | rfl
        · have h : (a.all fun x => !wrong x) = false := h
          rw [h]; rfl
        · have h : (b.all fun x => !wrong x) = false := h
          rw [h]; simp
      generalize hLi : pick i a b = L at kL hlL hsl hbad
      generalize pick i sa sb = sl at kL hsl rd
      refine lp_i (fun k w => 0 ≤ k ∧ k ≤ L.length ∧ (∀ x ∈ L.take k.toNat, wrong x = false) ∧ St W (cel c [tSlc.enc sa, tSlc.enc sb] 52 :: l) w) (fun k => (L.length - k).toNat) ⟨Int.le_refl 0, by omega, by simp, H⟩ ?_
      clear H
      rintro k w ⟨h0, h1, h2, H⟩
      unfold F18_l4
      refine ixr_i i0 hc ?_
      refine ex_i sl (rd w H) ?_
      split
      · rename_i hc2
        have hc2 : k < L.length := by simp at hc2; omega
        have e1 : IntKind.i64.wrap (k + 1) = k + 1 := wrap_i64 (by omega) (by omega)
        rw [e1]
        have hx : L[k.toNat]? = some L[k.toNat] := List.getElem?_eq_getElem (by omega)
        have ht : L.take (k.toNat + 1) = L.take k.toNat ++ [L[k.toNat]] := List.take_succ_eq_append_getElem (by omega)
        obtain ⟨p, hp⟩ := kL.ix (sz := 2) (i := k) H h0 hc2
        generalize L[k.toNat] = x at hx ht
        have hv := kL.fld (T := T36) (U := tInt .i64) (o := 1) (y := x.V) (fun _ => rfl) hp hx rfl H
        refine ixr_i i0 hc ?_
        refine ex_i sl (rd w H) ?_
        refine ex_i p hp ?_
        refine ex_i x.V hv ?_
        refine ⟨_, (fun _ => ⟨i0, hc, rfl⟩), ?_⟩
        refine ex_i sl (fun _ => rd w H) ?_
        refine ex_i p (fun _ => hp) ?_
        refine ex_i x.V (fun _ => hv) ?_
        split
        · rename_i hw
          refine ⟨[], ⟨(hbad ?_).symm, by rw [if_neg (by decide)]; exact ⟨rfl, rfl⟩⟩, row_nil T36 37 2 H.drop⟩
          rw [List.all_eq_false]
          exact ⟨x, List.mem_of_getElem? hx, by simp [wrong] at hw ⊢; omega⟩
        · rename_i hw
          refine ⟨⟨by omega, by omega, fun z hz => ?_, H⟩, by omega⟩
          rw [show (k + 1).toNat = k.toNat + 1 from by omega, ht] at hz
          rcases List.mem_append.1 hz with hz | hz
          · exact h2 z hz
          · rw [List.mem_singleton.1 hz]; simpa [wrong] using hw
      · rename_i hc2
        have hc2 : k = L.length := by simp at hc2; omega
        rw [ei]
        refine ⟨⟨by omega, by omega, fun j hj0 hj1 => ?_, H⟩, by omega⟩
        by_cases e : j < i
        · exact hr j hj0 e
        · have e : j = i := by omega
          rw [e, hLi, List.all_eq_true]
          intro x hx
          simp [h2 x (by rw [hc2]; simpa using hx)]
    · rename_i hc
      have hc : i = 2 := by simp at hc; omega
      subst hc
      have ma : (a.all fun x => !wrong x) = true := hr 0 (by omega) (by omega)
      have mb : (b.all fun x => !wrong x) = true := hr 1 (by omega) (by omega)
      have h0 : dWhy a b = 0 := by unfold dWhy; rw [ra, rb, ma, mb]; rfl
      have may : ∀ {L : List S36}, (L.all fun x => !wrong x) = true → ∀ x ∈ L, 0 ≤ x.V ∧ x.V ≤ 4611686018427387904 := by
        intro L hL x hx
        have := List.all_eq_true.1 hL x hx
        simp [wrong] at this; exact this
      have ma := may ma
      have mb := may mb
      clear hr i0 i1 rdp kab lab lpk
      have H := H.drop
      refine nwS_st H fun b1 w3 H => ?_
      have H := row_new (sz := 2) (m := 0) rfl H
      refine lp_i (fun p w => 0 ≤ p.2 ∧ p.2 ≤ a.length ∧ St W (row T36 37 2 p.1 (outA (a.take p.2.toNat) b) :: l) w) (fun p => (a.length - p.2).toNat) ⟨Int.le_refl 0, by simp only; omega, H⟩ ?_
      clear H
      rintro ⟨out, i⟩ w ⟨i0, i1, H⟩
      simp only at i0 i1 H ⊢
      have hol : (outA (a.take i.toNat) b).length ≤ a.length := by
        unfold outA
        refine Nat.le_trans (List.length_filter_le _ _) ?_
        rw [List.length_map, List.length_take]; omega
      unfold F18_l5
      split
      · rename_i hc
        have hc : i < a.length := by simp at hc; omega
        have e1 : IntKind.i64.wrap (i + 1) = i + 1 := wrap_i64 (by omega) (by omega)
        have hx : a[i.toNat]? = some a[i.toNat] := List.getElem?_eq_getElem (by omega)
        obtain ⟨p, hp⟩ := ka.tail.ix (sz := 2) (i := i) H i0 hc
        have htk := outA_take (b := b) hx
        generalize a[i.toNat] = x at hx htk
        refine dr_st H fun w1 H => ?_
        refine ex_i p hp ?_
        refine ex_i p hp ?_
        refine ex_i x.Key (ka.tail.fld (fun _ => rfl) hp hx rfl H) ?_
        refine ex_i x.V (ka.tail.fld (fun _ => rfl) hp hx rfl H) ?_
        refine cl_mono (find_spec (by omega) kb.tail H) ?_
        rintro q w2 ⟨rfl, H⟩
        refine ⟨ka.tail.fld (fun _ => rfl) hp hx rfl H, ?_⟩
        have hx2 := ma x (List.mem_of_getElem? hx)
        have hbb := val_bound (k := x.Key) mb
        have hw : IntKind.i64.wrap (val b x.Key - x.V) = val b x.Key - x.V := wrap_i64 (by omega) (by omega)
        rw [hw]
        split
        · rename_i hne
          rw [if_pos (by simpa using hne)] at htk
          refine ex_i p hp ?_
          refine ex_i x.Key (ka.tail.fld (fun _ => rfl) hp hx rfl H) ?_
          refine apl_row (fun _ => rfl) 0 H rfl (by simp only [List.length_singleton]; omega) fun r w3 H => ?_
          unfold F18_j6
          rw [e1]
          refine ⟨⟨by simp only; omega, by simp only; omega, ?_⟩, by simp only; omega⟩
          simp only
          rw [show (i + 1).toNat = i.toNat + 1 from by omega, htk]; exact H
        · rename_i hne
          rw [if_neg (by simpa using hne), List.append_nil] at htk
          unfold F18_j6
          rw [e1]
          refine ⟨⟨by simp only; omega, by simp only; omega, ?_⟩, by simp only; omega⟩
          simp only
          rw [show (i + 1).toNat = i.toNat + 1 from by omega, htk]; exact H
      · rename_i hc
        have hc : i = a.length := by simp at hc; omega
        subst hc
        have et : a.take ((a.length : Int)).toNat = a := by simp
        rw [et] at H hol
        have hH : St W (row T36 37 2 out (outA a b ++ outB a (b.take 0)) :: l) w := by simpa [outB] using H
        clear H i0 i1 hc et
        refine lp_i (fun p w => 0 ≤ p.2 ∧ p.2 ≤ b.length ∧ St W (row T36 37 2 p.1 (outA a b ++ outB a (b.take p.2.toNat)) :: l) w) (fun p => (b.length - p.2).toNat) ⟨Int.le_refl 0, by simp only; omega, hH⟩ ?_
        clear hH
        rintro ⟨out, i⟩ w ⟨i0, i1, H⟩
        simp only at i0 i1 H ⊢
        have hol2 : (outB a (b.take i.toNat)).length ≤ b.length := by
          unfold outB
          refine Nat.le_trans (List.length_filter_le _ _) ?_
          rw [List.length_take]; omega
        unfold F18_l7
        split
        · rename_i hc
          have hc : i < b.length := by simp at hc; omega
          have e1 : IntKind.i64.wrap (i + 1) = i + 1 := wrap_i64 (by omega) (by omega)
          have hx : b[i.toNat]? = some b[i.toNat] := List.getElem?_eq_getElem (by omega)
          obtain ⟨p, hp⟩ := kb.tail.ix (sz := 2) (i := i) H i0 hc
          have htk := outB_take (a := a) hx
          generalize b[i.toNat] = x at hx htk
          refine lp_i (fun (q : Bool × Int) w => 0 ≤ q.2 ∧ q.2 ≤ a.length ∧ q.1 = ((a.take q.2.toNat).any fun y => y.Key == x.Key) ∧ St W (row T36 37 2 out (outA a b ++ outB a (b.take i.toNat)) :: l) w) (fun q => (a.length - q.2).toNat) ⟨Int.le_refl 0, by simp only; omega, rfl, H⟩ ?_
          clear H
          rintro ⟨there, k⟩ w ⟨k0, k1, hth, H⟩
          simp only at k0 k1 hth ⊢
          unfold F18_l9
          split
          · rename_i hc2
            have hc2 : k < a.length := by simp at hc2; omega
            have e2 : IntKind.i64.wrap (k + 1) = k + 1 := wrap_i64 (by omega) (by omega)
            have hy : a[k.toNat]? = some a[k.toNat] := List.getElem?_eq_getElem (by omega)
            have ht : a.take (k.toNat + 1) = a.take k.toNat ++ [a[k.toNat]] := List.take_succ_eq_append_getElem (by omega)
            obtain ⟨q, hq⟩ := ka.tail.ix (sz := 2) (i := k) H k0 hc2
            generalize a[k.toNat] = y at hy ht
            refine dr_st H fun w2 H => ?_
            refine ex_i q (fun _ => hq) ?_
            refine ex_i p (fun _ => hp) ?_
            refine ex_i y.Key (fun _ => ka.tail.fld (fun _ => rfl) hq hy rfl H) ?_
            refine ex_i x.Key (fun _ => kb.tail.fld (fun _ => rfl) hp hx rfl H) ?_
            rw [e2]
            refine ⟨⟨by simp only; omega, by simp only; omega, ?_, H⟩, by simp only; omega⟩
            simp only
            rw [show (k + 1).toNat = k.toNat + 1 from by omega, ht, List.any_append, ← hth]
            simp
          · rename_i hc2
            have hc2 : k = a.length := by simp at hc2; omega
            subst hc2
            have et : a.take ((a.length : Int)).toNat = a := by simp
            rw [et] at hth
            refine ex_i p (fun _ => hp) ?_
            refine ex_i x.V (fun _ => kb.tail.fld (fun _ => rfl) hp hx rfl H) ?_
            rw [← hth] at htk
            split
            · rename_i hcc
              rw [if_pos hcc] at htk
              refine ex_i p hp ?_
              refine ex_i x (kb.tail.rd (fun _ => rfl) hp hx H) ?_
              refine apl_row (fun _ => rfl) 0 H rfl (by simp only [List.length_singleton, List.length_append]; omega) fun r w3 H => ?_
              unfold F18_j8
              rw [e1]
              refine ⟨⟨by simp only; omega, by simp only; omega, ?_⟩, by simp only; omega⟩
              simp only
              rw [show (i + 1).toNat = i.toNat + 1 from by omega, htk, ← List.append_assoc]; exact H
            · rename_i hcc
              rw [if_neg hcc, List.append_nil] at htk
              unfold F18_j8
              rw [e1]
              refine ⟨⟨by simp only; omega, by simp only; omega, ?_⟩, by simp only; omega⟩
              simp only
              rw [show (i + 1).toNat = i.toNat + 1 from by omega, htk]; exact H
        · rename_i hc
          have hc : i = b.length := by simp at hc; omega
          subst hc
          have et : b.take ((b.length : Int)).toNat = b := by simp
          rw [et] at H hol2
          have H := row_stay H
          refine cl_mono (sort_spec (by rw [List.length_append]; omega) (out_nodup Ra Rb) (Know.here (m := RoP.mono)) H) ?_
          rintro r w4 ⟨d, hd, hP, H⟩
          exact ⟨d, out_diffed Ra Rb hd hP h0, (H.front 1).drop⟩
end
end Go.Proofs.Ytleehieomicicaa.Audit
