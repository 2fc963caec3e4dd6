/- Contracts of the document's answer for post: nets by value, letters that stay. -/
import Derived.Test.YtpflfnaflacfgaaPK
namespace Go.Proofs.Ytpflfnaflacfgaa.PostS
open Go Go.Proofs.Ytpflfnaflacfgaa.Cf
set_option linter.unusedVariables false
set_option linter.unusedSimpArgs false
set_option maxRecDepth 100000
section
variable {W w : World} {l l' : List Assn} {b : Nat} {N : Net} {m : S48} {t : TypeId}
theorem offs_len (v : Vector Bool 64) : (v.toList.flatMap tBool.cells).length = 64 := by
  rw [flatMap_const_len (m := 1) (fun _ => rfl)]; simp
theorem cells48 (m : S48) : T48.cells m = ([.int .i64 m.Nodes, .int .i64 m.Sent] ++ m.Off.toList.flatMap tBool.cells) ++ [tSlc.enc m.L] ++ [] := by
  show S48.cells m = _
  simp [S48.cells]
theorem len48 (m : S48) : (T48.cells m).length = 67 := by
  rw [cells48, List.length_append, List.length_append, List.length_append, offs_len]; rfl
theorem L48 (m : S48) : at_ (T48.cells m) 66 (tSlc.cells m.L).length = tSlc.cells m.L := by
  rw [cells48]; exact at_app (by rw [List.length_append, offs_len]; rfl) rfl
theorem setL48 (m : S48) (r : Slc) : splice (T48.cells m) 66 (tSlc.cells r) = T48.cells { m with L := r } := by
  rw [cells48, cells48]; exact splice_app (by rw [List.length_append, offs_len]; rfl) rfl
theorem offs_split {v : Vector Bool 64} {i : Nat} {q : Bool} (h : v.toList[i]? = some q) : v.toList.flatMap tBool.cells = (v.toList.take i).flatMap tBool.cells ++ [.bool q] ++ (v.toList.drop (i + 1)).flatMap tBool.cells := by
  obtain ⟨hi, rfl⟩ := List.getElem?_eq_some_iff.1 h
  conv => lhs; rw [← List.take_append_drop i v.toList, List.drop_eq_getElem_cons hi]
  simp
theorem off48 (m : S48) {i : Nat} {q : Bool} (h : m.Off.toList[i]? = some q) : at_ (T48.cells m) (2 + i) (tBool.cells q).length = tBool.cells q := by
  have hi : i < 64 := by have := (List.getElem?_eq_some_iff.1 h).1; simpa using this
  rw [cells48, offs_split h]
  have e : ∀ (a c1 c2 c3 d : List Value), (a ++ (c1 ++ c2 ++ c3)) ++ d ++ [] = (a ++ c1) ++ c2 ++ (c3 ++ d) := by intros; simp
  rw [e]
  refine at_app ?_ rfl
  rw [List.length_append, flatMap_const_len (m := 1) (fun _ => rfl), List.length_take]
  simp; omega
theorem setOff48 (m : S48) {i : Nat} (hi : i < 64) (q : Bool) : splice (T48.cells m) (2 + i) (tBool.cells q) = T48.cells { m with Off := m.Off.set i q } := by
  have h : m.Off.toList[i]? = some (m.Off.toList[i]'(by simpa using hi)) := List.getElem?_eq_getElem _
  have h2 : (m.Off.set i q).toList[i]? = some q := by simp [hi]
  rw [cells48, cells48, offs_split h]
  simp only
  rw [offs_split h2]
  have e : ∀ (a c1 c2 c3 d : List Value), (a ++ (c1 ++ c2 ++ c3)) ++ d ++ [] = (a ++ c1) ++ c2 ++ (c3 ++ d) := by intros; simp
  rw [e, e]
  have e1 : (m.Off.set i q).toList.take i = m.Off.toList.take i := by
    rw [Vector.toList_set, List.take_set, List.set_eq_of_length_le (by rw [List.length_take]; omega)]
  have e2 : (m.Off.set i q).toList.drop (i + 1) = m.Off.toList.drop (i + 1) := by simp [Vector.toList_set, List.drop_set]
  rw [e1, e2]
  refine splice_app ?_ rfl
  rw [List.length_append, flatMap_const_len (m := 1) (fun _ => rfl), List.length_take]
  simp; omega
/-- The two nets say the same. -/
structure Rel (N : Net) (m : S48) : Prop where
  nodes : m.Nodes = N.nodes
  sent : m.Sent = N.sent
  off : ∀ i : Nat, i < 64 → m.Off.toList[i]? = some (N.off i)
/-- A net whose letters lie between its nodes. -/
structure Sound (N : Net) : Prop where
  n64 : N.nodes ≤ 64
  all : ∀ x ∈ N.l, N.has x.From = true ∧ N.has x.To = true
theorem without_spec {s : Slc} {xs : List S35} {i : Int} (hm : xs.length ≤ 1000) (h0 : 0 ≤ i) (H : St W (ro T35 s xs :: l) w) :
    cl Try.prog 50 [tSlc.enc s, .int .i64 i] tSlc w fun r w' => St W (ro T35 r (xs.eraseIdx i.toNat) :: ro T35 s xs :: l) w' := by
  have hs := ro_len H
  refine F50_ok ?_
  unfold F50
  refine nwS_st H fun b1 w1 H => ?_
  have H : St W (row T35 75 4 ⟨some ⟨b1, 0, none⟩, 0, 0⟩ [] :: ro T35 s xs :: l) w1 := row_new (T := T35) (t := 75) (sz := 4) (xs := []) (m := 0) rfl H
  refine lp_i (fun q w => 0 ≤ q.2 ∧ q.2 ≤ xs.length ∧ St W (row T35 75 4 q.1 ((xs.take q.2.toNat).eraseIdx i.toNat) :: ro T35 s xs :: l) w) (fun q => (xs.length - q.2).toNat) ⟨Int.le_refl 0, by simp only; omega, H⟩ ?_
  rintro ⟨out, j⟩ w ⟨hj0, hj1, H⟩
  simp only at hj0 hj1
  simp only
  unfold F50_l1
  split
  · rename_i hc
    have hc : j < xs.length := by simp at hc; omega
    have e1 : IntKind.i64.wrap (j + 1) = j + 1 := wrap_i64 (by omega) (by omega)
    have hx : xs[j.toNat]? = some xs[j.toNat] := List.getElem?_eq_getElem (by omega)
    have ht : xs.take (j + 1).toNat = xs.take j.toNat ++ [xs[j.toNat]] := by
      rw [show (j + 1).toNat = j.toNat + 1 from by omega, List.take_succ_eq_append_getElem (by omega)]
    have hl : (xs.take j.toNat).length = j.toNat := by rw [List.length_take]; omega
    have hle := List.length_eraseIdx_le (xs.take j.toNat) i.toNat
    unfold F50_j2
    rw [e1]
    split
    · rename_i hne
      have hne : j ≠ i := by simpa using hne
      obtain ⟨a, ha⟩ := ro_ix (sz := 4) (i := j) (H.front 1) hj0 hc
      refine ex_i a ha ?_
      refine ex_i xs[j.toNat] (rd_ro (fun _ => rfl) ha hx (H.front 1)) ?_
      refine apl_row (fun _ => rfl) 0 H rfl (by simp only [List.length_singleton]; omega) fun r w2 H => ?_
      refine ⟨⟨by simp only; omega, by simp only; omega, ?_⟩, by simp only; omega⟩
      have e : (xs.take j.toNat).eraseIdx i.toNat ++ [xs[j.toNat]] = (xs.take (j + 1).toNat).eraseIdx i.toNat := by
        rw [ht]
        by_cases hij : i < j
        · rw [List.eraseIdx_append_of_lt_length (by omega)]
        · rw [List.eraseIdx_append_of_length_le (by omega), hl, List.eraseIdx_of_length_le (by omega), List.eraseIdx_of_length_le (l := [xs[j.toNat]]) (by simp; omega)]
      rw [e] at H
      exact H
    · rename_i hne
      have hne : j = i := by simpa using hne
      refine ⟨⟨by simp only; omega, by simp only; omega, ?_⟩, by simp only; omega⟩
      have e : (xs.take j.toNat).eraseIdx i.toNat = (xs.take (j + 1).toNat).eraseIdx i.toNat := by
        rw [ht, ← hne, List.eraseIdx_append_of_length_le (by omega), hl, Nat.sub_self, List.eraseIdx_of_length_le (by omega)]; simp
      rw [e] at H
      exact H
  · rename_i hc
    have hc : j = xs.length := by simp at hc; omega
    subst hc
    have e : xs.take ((xs.length : Int)).toNat = xs := by simp
    rw [e] at H
    exact row_stay H
end
end Go.Proofs.Ytpflfnaflacfgaa.PostS
