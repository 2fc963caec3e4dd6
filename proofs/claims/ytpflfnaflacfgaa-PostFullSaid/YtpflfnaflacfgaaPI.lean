/- The law PostFull answers true. -/
import Derived.Test.YtpflfnaflacfgaaPD
import Derived.Test.YtpflfnaflacfgaaPIF
import Derived.Test.YtpflfnaflacfgaaOp
namespace Go.Proofs.Ytpflfnaflacfgaa.PostI
open Go Go.Proofs.Ytpflfnaflacfgaa.Cf
set_option linter.unusedVariables false
set_option linter.unusedSimpArgs false
set_option maxRecDepth 100000
section
variable {W w : World} {l : List Assn} {b : Nat} {N : Net}
def nums (n : Nat) : List S60 := (List.range n).map fun (j : Nat) => (⟨(j : Int) + 1, 0, 0, (j : Int)⟩ : S60)
theorem nums_len (n : Nat) : (nums n).length = n := by simp [nums]
theorem nums_get {n i : Nat} (h : i < n) : (nums n)[i]? = some ⟨(i : Int) + 1, 0, 0, (i : Int)⟩ := by simp [nums, h]
theorem nums_succ (n : Nat) : nums (n + 1) = nums n ++ [⟨(n : Int) + 1, 0, 0, (n : Int)⟩] := by simp [nums, List.range_succ]
theorem nums_to {n : Nat} {x : S60} (h : x ∈ nums n) : x.To = 0 := by
  obtain ⟨j, _, rfl⟩ := List.mem_map.1 h; rfl
theorem Net.send_ok (N : Net) (m : Int) (hn : N.nodes = 1) (hl : N.l.length < 1000) : N.send 0 0 m = ({ N with l := N.l ++ [⟨IntKind.i64.wrap (N.sent + 1), 0, 0, m⟩], sent := IntKind.i64.wrap (N.sent + 1) }, IntKind.i64.wrap (N.sent + 1), 0) := by
  have hp : ∀ x, N.put x = ({ N with l := N.l ++ [x] }, 0) := fun x => by unfold Net.put; rw [if_neg (by omega)]
  unfold Net.send
  rw [if_neg (by simp [Net.has, hn]), hp, if_neg (by simp)]
theorem Net.send_full (N : Net) (m : Int) (hn : N.nodes = 1) (hl : 1000 ≤ N.l.length) : N.send 0 0 m = (N, 0, 91) := by
  have hp : ∀ x, N.put x = (N, 91) := fun x => by unfold Net.put; rw [if_pos hl]
  unfold Net.send
  rw [if_neg (by simp [Net.has, hn]), hp, if_pos (by simp)]
/-- The end of the law, by the net and the row that was told. -/
theorem full_end {r4 : Option Addr × Int} (hr : r4.1 = some ⟨b, 0, none⟩) {r22 : Slc} {k : Int} (hn : N.nodes = 1) (hl : N.l.length = 1000) (hk : ∃ x, N.l[999]? = some x ∧ x.M = k) (ht : ∀ x ∈ N.l, x.To = 0)
    (H : St W (row T60 61 4 r22 N.l :: NetA b N :: l) w) : F8_j2 r4 r22 k w fun r w' => r = true ∧ St W l w' := by
  have h22 := row_len H
  obtain ⟨x, hx, rfl⟩ := hk
  unfold F8_j2
  have e1 : IntKind.i64.wrap ((r22.len : Int) - 1) = 999 := by rw [wrap_i64 (by omega) (by omega)]; omega
  rw [e1]
  obtain ⟨a, ha⟩ := row_ix (sz := 4) (i := 999) H (by omega) (by omega)
  refine ex_i a ha ?_
  refine ex_i x.M (fld_row (fun _ => rfl) ha hx rfl H) ?_
  rw [if_pos (by simp), hr]
  refine cl_mono (purge_spec (H.front 1) (by omega) 0) ?_
  rintro r w1 ⟨rfl, H⟩
  have hh : N.has 0 = true := by simp [Net.has, hn]
  rw [hh] at H ⊢
  simp only [if_true] at H ⊢
  have hf : (N.l.filter fun y => !(y.To == 0)) = [] := List.filter_eq_nil_iff.2 fun y hy => by simp [ht y hy]
  rw [hf] at H
  unfold F8_j3
  rw [if_pos (by decide), hr]
  refine cl_mono (letters_spec H (by simp)) ?_
  intro r33 w2 H
  have h33 := row_len H
  unfold F8_j4
  exact ⟨by simp [h33], H.drop.drop.drop⟩
theorem full_law {more lose : Int} (H : St W l w) (h0 : 0 ≤ more) (h1 : more < 256) (h2 : 0 ≤ lose) (h3 : lose < 256) :
    cl Try.prog 8 [.int .u8 more, .int .u8 lose] tBool w fun r w' => r = true ∧ St W l w' := by
  refine F8_ok ?_
  unfold F8
  refine cl_mono (New_spec H 1) ?_
  rintro r w1 (⟨h, _⟩ | ⟨_, b, rfl, H⟩)
  · omega
  refine cl_mono (PostS.awake_spec H) ?_
  rintro r w2 ⟨rfl, H⟩
  rw [if_neg (by simp)]
  refine lp_i (fun i w => 0 ≤ i ∧ i ≤ 1000 ∧ ∃ N : Net, N.nodes = 1 ∧ N.sent = i ∧ N.l = nums i.toNat ∧ St W (NetA b N :: l) w) (fun i => (1000 - i).toNat) ⟨Int.le_refl 0, by omega, Net.new 1, rfl, rfl, rfl, H⟩ ?_
  rintro i w ⟨hi0, hi1, N, hn, hs, hl, H⟩
  have hlen : N.l.length = i.toNat := by rw [hl, nums_len]
  unfold F8_l1
  split
  · rename_i hc
    have hc : i < 1000 := by simpa using hc
    have e1 : IntKind.i64.wrap (i + 1) = i + 1 := wrap_i64 (by omega) (by omega)
    refine cl_mono (send_spec H (by omega) 0 0 i) ?_
    rintro r w3 ⟨rfl, H⟩
    rw [N.send_ok i hn (by omega), hs, e1] at H ⊢
    rw [if_neg (by simp)]
    refine ⟨⟨by omega, by omega, ⟨N.nodes, i + 1, N.l ++ [⟨i + 1, 0, 0, i⟩], N.off⟩, hn, rfl, ?_, H⟩, by omega⟩
    simp only
    rw [show (i + 1).toNat = i.toNat + 1 from by omega, nums_succ, hl, show ((i.toNat : Nat) : Int) = i from by omega]
  · rename_i hc
    have hc : i = 1000 := by simp at hc; omega
    subst hc
    have hlen : N.l.length = 1000 := hlen
    have hl : N.l = nums 1000 := hl
    have em : IntKind.i64.wrap more = more := wrap_i64 (by omega) (by omega)
    have el : IntKind.i64.wrap lose = lose := wrap_i64 (by omega) (by omega)
    rw [em, el]
    have at1 : ∀ q : Int, 0 ≤ q → q < 1000 → N.at_ q = (⟨q + 1, 0, 0, q⟩, 0) := fun q g0 g1 => by
      refine N.at_in g0 ?_
      rw [hl, nums_get (by omega)]
      rw [show ((q.toNat : Nat) : Int) = q from by omega]
    have hp : ∀ x, N.put x = (N, 91) := fun x => by unfold Net.put; rw [if_pos (by omega)]
    refine cl_mono (send_spec H (by omega) 0 0 7) ?_
    rintro r w3 ⟨rfl, H⟩
    rw [N.send_full 7 hn (by omega)] at H ⊢
    have H : St W (NetA b N :: l) w3 := H
    refine cl_mono (copy_spec H (by omega) more) ?_
    rintro r w4 ⟨rfl, H⟩
    rw [at1 more (by omega) (by omega), hp] at H ⊢
    simp only [ne_eq, not_true_eq_false, if_false] at H ⊢
    refine cl_mono (lose_spec H (by omega) lose) ?_
    rintro r w5 ⟨rfl, H⟩
    rw [at1 lose (by omega) (by omega)] at H ⊢
    simp only [if_true] at H ⊢
    obtain ⟨N2, hN2⟩ : ∃ N2 : Net, N2 = { N with l := N.l.eraseIdx lose.toNat } := ⟨_, rfl⟩
    rw [← hN2] at H
    have hl2 : N2.l = (nums 1000).eraseIdx lose.toNat := by rw [hN2, ← hl]
    have hlen2 : N2.l.length = 999 := by rw [hl2, List.length_eraseIdx, nums_len]; rw [if_pos (by omega)]
    have hn2 : N2.nodes = 1 := by rw [hN2]; exact hn
    have at2 : N2.at_ more = (⟨(if more ≥ lose then more + 1 else more) + 1, 0, 0, if more ≥ lose then more + 1 else more⟩, 0) := by
      refine N2.at_in h0 ?_
      rw [hl2, List.getElem?_eraseIdx]
      by_cases hm : more ≥ lose
      · rw [if_neg (by omega), nums_get (by omega), if_pos hm]
        rw [show ((more.toNat + 1 : Nat) : Int) = more + 1 from by omega]
      · rw [if_pos (by omega), nums_get (by omega), if_neg hm]
        rw [show ((more.toNat : Nat) : Int) = more from by omega]
    refine cl_mono (copy_spec H (by omega) more) ?_
    rintro r w6 ⟨rfl, H⟩
    have hp2 : ∀ x, N2.put x = ({ N2 with l := N2.l ++ [x] }, 0) := fun x => by unfold Net.put; rw [if_neg (by omega)]
    rw [at2, hp2] at H ⊢
    simp only [ne_eq, not_true_eq_false, if_false] at H ⊢
    refine cl_mono (letters_spec H (by simp [hlen2])) ?_
    intro r22 w7 H
    have h22 := row_len H
    simp only [List.length_append, List.length_singleton, hlen2] at h22
    rw [if_neg (by simp [h22])]
    have hto : ∀ (x y : S60), y.To = 0 → x ∈ N2.l ++ [y] → x.To = 0 := fun x y hy hx => by
      rcases List.mem_append.1 hx with hx | hx
      · rw [hl2] at hx; exact nums_to ((List.eraseIdx_sublist _ _).subset hx)
      · rw [List.mem_singleton.1 hx]; exact hy
    have hlast : ∀ y : S60, (N2.l ++ [y])[999]? = some y := fun y => by
      rw [List.getElem?_append_right (by omega), hlen2]; rfl
    have e1 : IntKind.i64.wrap (more + 1) = more + 1 := wrap_i64 (by omega) (by omega)
    split
    · rename_i hm
      have hm : more ≥ lose := by simpa using hm
      rw [e1]
      refine full_end rfl ?_ ?_ ⟨_, hlast _, ?_⟩ (fun x hx => hto x _ ?_ hx) H
      · exact hn2
      · simp [hlen2]
      · simp only [if_pos hm]
      · rfl
    · rename_i hm
      have hm : ¬ more ≥ lose := by simpa using hm
      refine full_end rfl ?_ ?_ ⟨_, hlast _, ?_⟩ (fun x hx => hto x _ ?_ hx) H
      · exact hn2
      · simp [hlen2]
      · simp only [if_neg hm]
      · rfl
end
end Go.Proofs.Ytpflfnaflacfgaa.PostI
namespace Go.Proofs.Ytpflfnaflacfgaa
open Go Go.Proofs.Ytpflfnaflacfgaa.Cf
theorem walkPostFull (W : World) (more lose : Int) (g0 : G5 W more) (g1 : G5 W lose) : cl Try.prog 8 [.int .u8 more, .int .u8 lose] tBool W fun r w' => r = true ∧ RowKit.Below W.heap.size W w' := by
  obtain ⟨g1, g2⟩ := g1
  obtain ⟨g3, g4⟩ := g0
  refine cl_mono (PostI.full_law (St.start W) g3 (Int.lt_of_le_of_lt g4 (by decide)) g1 (Int.lt_of_le_of_lt g2 (by decide))) fun r w' ⟨h, H⟩ => ⟨h, H.below⟩
end Go.Proofs.Ytpflfnaflacfgaa
