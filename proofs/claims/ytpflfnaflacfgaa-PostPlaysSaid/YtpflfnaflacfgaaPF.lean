/- What is purged: functions of package slices and post, at letters that say a text. -/
import Derived.Test.YtpflfnaflacfgaaPC
import Derived.Test.YtpflfnaflacfgaaSlD
namespace Go.Proofs.Ytpflfnaflacfgaa.PostS
open Go Go.Proofs.Ytpflfnaflacfgaa.Cf
set_option linter.unusedVariables false
set_option linter.unusedSimpArgs false
set_option maxRecDepth 100000
section
variable {W w : World} {l : List Assn} {b : Nat} {N : Net}
/-- A function value that tells a property and keeps what is. -/
def Tells (W : World) (l : List Assn) (f : Fv) (p : S35 → Bool) : Prop := ∀ (x : S35) (l' : List Assn) (w : World), St W (l' ++ l) w → clv Try.prog f [T35.enc x] tBool w fun r w' => r = p x ∧ St W (l' ++ l) w'
theorem index_spec {v : Slc} {xs : List S35} {f : Fv} {p : S35 → Bool} (hf : Tells W l f p) (hm : xs.length ≤ 1000) (H : St W (row T35 36 4 v xs :: l) w) :
    cl Try.prog 49 [tSlc.enc v, f.enc] (tInt .i64) w fun r w' => ((r = -1 ∧ ∀ x ∈ xs, p x = false) ∨ (0 ≤ r ∧ r < xs.length ∧ (∀ x ∈ xs.take r.toNat, p x = false) ∧ ∃ x, xs[r.toNat]? = some x ∧ p x = true)) ∧ St W (row T35 36 4 v xs :: l) w' := by
  refine F49_ok ?_
  unfold F49
  have hn := row_len H
  refine lp_i (fun i w => 0 ≤ i ∧ i ≤ xs.length ∧ (∀ x ∈ xs.take i.toNat, p x = false) ∧ St W (row T35 36 4 v xs :: l) w) (fun i => (xs.length - i).toNat) ⟨Int.le_refl 0, by omega, by simp, H⟩ ?_
  rintro i w ⟨h0, h1, h2, H⟩
  unfold F49_l1
  split
  · rename_i hc
    have hc : i < xs.length := by simp at hc; omega
    have e1 : IntKind.i64.wrap (i + 1) = i + 1 := wrap_i64 (by omega) (by omega)
    have hx : xs[i.toNat]? = some xs[i.toNat] := List.getElem?_eq_getElem (by omega)
    obtain ⟨a, ha⟩ := row_ix (sz := 4) (i := i) H h0 hc
    refine ex_i a ha ?_
    refine ex_i xs[i.toNat] (rd_row (fun _ => rfl) ha hx H) ?_
    obtain ⟨g, c, hfv, hen, h⟩ := hf xs[i.toNat] [row T35 36 4 v xs] w H
    refine ⟨g, c, hfv, hen, cl_mono h ?_⟩
    rintro r w1 ⟨hr, H⟩
    split
    · rename_i hr'
      exact ⟨.inr ⟨h0, hc, h2, _, hx, by rw [← hr]; exact hr'⟩, H⟩
    · rename_i hr'
      rw [e1]
      refine ⟨⟨by omega, by omega, ?_, H⟩, by omega⟩
      intro x hxm
      rw [show (i + 1).toNat = i.toNat + 1 from by omega, List.take_succ_eq_append_getElem (by omega), List.mem_append] at hxm
      rcases hxm with hxm | hxm
      · exact h2 x hxm
      · obtain rfl := List.mem_singleton.1 hxm
        rw [← hr]; simpa using hr'
  · rename_i hc
    have hc : i = xs.length := by simp at hc; omega
    subst hc
    exact ⟨.inl ⟨rfl, by simpa using h2⟩, H⟩
theorem filter_none {p : S35 → Bool} {xs : List S35} (h : ∀ x ∈ xs, p x = false) : xs.filter (fun x => !p x) = xs := List.filter_eq_self.2 fun x hx => by simp [h x hx]
theorem deleteF_spec {v : Slc} {xs : List S35} {f : Fv} {p : S35 → Bool} (hf : Tells W l f p) (hm : xs.length ≤ 1000) (H : St W (row T35 36 4 v xs :: l) w) :
    cl Try.prog 34 [tSlc.enc v, f.enc] tSlc w fun r w' => St W (row T35 36 4 r (xs.filter fun x => !p x) :: l) w' := by
  refine F34_ok ?_
  unfold F34
  have hn := row_len H
  have hcap : v.len ≤ v.cap := by
    rcases row_open H with ⟨rfl, rfl, _⟩ | ⟨_, _, _, _, h, _⟩
    · exact Nat.le_refl _
    · exact h
  refine cl_mono (index_spec hf hm H) ?_
  rintro r w1 ⟨⟨rfl, h⟩ | ⟨h0, h1, h2, y, hy, hpy⟩, H⟩
  · rw [if_pos (by decide), filter_none h]
    exact H
  · rw [if_neg (by simp; omega)]
    have e1 : IntKind.i64.wrap (r + 1) = r + 1 := wrap_i64 (by omega) (by omega)
    rw [e1]
    have hf0 : (xs.take (r + 1).toNat).filter (fun x => !p x) = xs.take r.toNat := by
      rw [show (r + 1).toNat = r.toNat + 1 from by omega, List.take_succ_eq_append_getElem (by omega), List.filter_append, filter_none h2]
      have : xs[r.toNat] = y := by rw [List.getElem?_eq_getElem (by omega)] at hy; exact Option.some.inj hy
      rw [this]; simp [hpy]
    refine lp_i (fun q w => 0 ≤ q.1 ∧ q.1 < q.2 ∧ q.2 ≤ xs.length ∧ ∃ ys : List S35, ys.length = xs.length ∧ ys.take q.1.toNat = (xs.take q.2.toNat).filter (fun x => !p x) ∧ ys.drop q.2.toNat = xs.drop q.2.toNat ∧ St W (row T35 36 4 v ys :: l) w) (fun q => (xs.length - q.2).toNat)
      ⟨h0, by simp only; omega, by simp only; omega, xs, rfl, hf0.symm, rfl, H⟩ ?_
    rintro ⟨i, j⟩ w ⟨hi0, hij, hj, ys, hyl, ht, hd, H⟩
    simp only at hi0 hij hj ht hd
    simp only
    unfold F34_l1
    split
    · rename_i hc
      have hc : j < ys.length := by simp at hc; omega
      have e1 : IntKind.i64.wrap (i + 1) = i + 1 := wrap_i64 (by omega) (by omega)
      have e2 : IntKind.i64.wrap (j + 1) = j + 1 := wrap_i64 (by omega) (by omega)
      have hx : ys[j.toNat]? = some xs[j.toNat] := by
        have := congrArg (fun q => q[0]?) hd
        simp only [List.getElem?_drop, Nat.add_zero] at this
        rw [this]; exact List.getElem?_eq_getElem (by omega)
      obtain ⟨a, ha⟩ := row_ix (sz := 4) (i := j) H (by omega) hc
      obtain ⟨a', ha'⟩ := row_ix (sz := 4) (i := i) H hi0 (by omega)
      refine ex_i a ha ?_
      refine ex_i xs[j.toNat] (rd_row (fun _ => rfl) ha hx H) ?_
      generalize hz : xs[j.toNat] = z at *
      refine nw_st H fun b1 w2 H => ?_
      refine st_st (x := z) 0 H rfl rfl (Nat.le_of_ble_eq_true rfl) fun w3 H => ?_
      refine ld_st (x := z) 0 H rfl rfl rfl ?_
      obtain ⟨g, c, hfv, hen, h⟩ := hf z [_, row T35 36 4 v ys] w3 H
      refine ⟨g, c, hfv, hen, cl_mono h ?_⟩
      rintro q w4 ⟨hq, H⟩
      have htk : (xs.take (j + 1).toNat).filter (fun x => !p x) = (xs.take j.toNat).filter (fun x => !p x) ++ if p z then [] else [z] := by
        rw [show (j + 1).toNat = j.toNat + 1 from by omega, List.take_succ_eq_append_getElem (by omega), List.filter_append, hz]
        cases hp : p z <;> simp [hp]
      have hdr : xs.drop (j + 1).toNat = (xs.drop j.toNat).drop 1 := by rw [List.drop_drop]; congr 1; omega
      split
      · rename_i hq'
        refine ld_st (x := z) 0 H rfl rfl rfl ?_
        refine ex_i a' ha' ?_
        have H := St.drop H
        refine st_row (fun _ => rfl) ha' H fun w5 H => ?_
        unfold F34_j2
        rw [e1, e2]
        have hpz : p z = false := by rw [← hq]; simpa using hq'
        refine ⟨⟨by simp only; omega, by simp only; omega, by simp only; omega, ys.set i.toNat z, by rw [List.length_set]; exact hyl, ?_, ?_, H⟩, by simp only; omega⟩
        · simp only
          rw [htk, hpz, ← ht, show (i + 1).toNat = i.toNat + 1 from by omega, List.take_succ_eq_append_getElem (by rw [List.length_set]; omega)]
          rw [List.take_set, List.set_eq_of_length_le (by rw [List.length_take]; omega)]; simp
        · simp only
          rw [List.drop_set, if_pos (by omega), hdr, ← hd, List.drop_drop]
          congr 1; omega
      · rename_i hq'
        unfold F34_j2
        rw [e2]
        have hpz : p z = true := by rw [← hq]; simpa using hq'
        refine ⟨⟨hi0, by simp only; omega, by simp only; omega, ys, hyl, ?_, ?_, St.drop H⟩, by simp only; omega⟩
        · simp only; rw [htk, hpz, ht]; simp
        · simp only; rw [hdr, ← hd, List.drop_drop]; congr 1; omega
    · rename_i hc
      have hc : j = xs.length := by simp at hc; omega
      subst hc
      have hnv := row_len H
      refine sub_st hi0 (by omega) (by omega) (Int.le_refl _) fun s1 h1 => ?_
      obtain ⟨r2, hr2, _⟩ : ex (Sub v 4 0 i v.cap) (fun _ => True) := sub_st (by omega) (by omega) (by omega) (by omega) fun _ _ => trivial
      obtain ⟨e2, H2⟩ := row_cut (fun _ => rfl) hr2 (by omega) H
      have ht' : ys.take i.toNat = xs.filter fun x => !p x := by rw [ht]; simp
      rw [ht'] at H2
      have hs1 : Sub r2 4 r2.len v.len r2.cap s1 := by
        rw [e2]; simp only
        rw [show ((i.toNat : Nat) : Int) = i from by omega]
        exact h1
      refine clr_spare (fun _ => rfl) hs1 H2 fun w2 H => ?_
      exact ex_i r2 hr2 H
theorem purge_spec (H : St W (NetA b N :: l) w) (hN : N.l.length ≤ 1000) (x : Int) : cl Try.prog 18 [.pointer (some ⟨b, 0, none⟩), .int .i64 x] (tInt .i64) w fun r w' =>
    r = (if N.has x then 0 else 90) ∧ St W (NetA b (if N.has x then { N with l := N.l.filter fun y => !(y.To == x) } else N) :: l) w' := by
  refine F18_ok ?_
  unfold F18
  refine nw_st H fun b1 w1 H => ?_
  refine ld_st (x := x) 0 H rfl rfl rfl ?_
  refine cl_mono (is_spec (H.front 1) x) ?_
  rintro r w2 ⟨rfl, H⟩
  by_cases hh : N.has x = true
  · rw [if_neg (by simp [hh])]
    simp only [hh, if_true]
    obtain ⟨v, mb, es, h, H⟩ := NetA_open H
    refine nc_st rfl ?_
    refine ld_st (x := v) 0 H rfl rfl rfl ?_
    have hf : Tells W (cel b1 ((tInt .i64).cells x) 3 :: cel b [.int .i64 N.nodes, .int .i64 N.sent, .slice v.a v.len v.cap, .map (some mb)] 65 :: mapE T68 .i64 mb es :: l)
        (Fv.mk (.func 35) (List.toArray []) (List.toArray [.pointer (some ⟨b1, 0, none⟩)])) (fun y => y.To == x) := by
      intro y l' w H
      refine ⟨35, [.pointer (some ⟨b1, 0, none⟩)], rfl, ent35, F35_ok ?_⟩
      unfold F35
      refine nw_st H fun b2 w1 H => ?_
      refine ld_st (x := y.To) 0 H rfl rfl rfl ?_
      have H2 : St W (cel b1 ((tInt .i64).cells x) 3 :: (cel b2 (T35.cells y) 36 :: l' ++ (cel b [.int .i64 N.nodes, .int .i64 N.sent, .slice v.a v.len v.cap, .map (some mb)] 65 :: mapE T68 .i64 mb es :: l))) w1 :=
        H.perm (by simpa using List.perm_middle (l₁ := cel b2 (T35.cells y) 36 :: l'))
      refine ld_st (x := x) 0 H2 rfl rfl rfl ?_
      exact ⟨rfl, H.drop⟩
    refine cl_mono (deleteF_spec hf hN (H.ord [1, 3, 0])) ?_
    intro r w3 H
    refine st_st (x := r) 2 H rfl rfl (Nat.le_of_ble_eq_true rfl) fun w4 H => ?_
    exact ⟨by trivial, NetA_shut (v := r) h ((H.ord [2]).drop.ord [0, 1])⟩
  · rw [if_pos (by simp [hh])]
    simp only [hh, if_false]
    exact ⟨by trivial, (H.front 1).drop⟩
end
end Go.Proofs.Ytpflfnaflacfgaa.PostS
