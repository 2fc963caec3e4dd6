/- slices.Sorted over maps.Keys at whole numbers, for a second type of maps. -/
import Derived.Test.YtpdaapffkdejoaaGreatIt
namespace Go.Proofs.YtpdaapffkdejoaaGreat.Cf
set_option linter.unusedSimpArgs false
set_option linter.unusedVariables false
open Go Go.RowKit Go.Maps Go.Sort Go.Shelf Go.WideElems
section
variable {W w : World} {l : List Assn} {α : Type} {T : Ty α}
theorem sorted_keysB {r bm : Nat} {es : List (Int × α)} (hr : ∀ p ∈ es, -9223372036854775808 ≤ p.1 ∧ p.1 ≤ 9223372036854775807) (hm : es.length ≤ 1000000) (H : St W (cel bm [.map (some r)] 31 :: mapE T .i64 r es :: l) w) :
    cl Tryz.prog 34 [.func (.func 55) #[] #[.pointer (some ⟨bm, 0, none⟩)]] tSlc w fun s w' => ∃ ks : List Int, ks.Perm (es.map (·.1)) ∧
      St W (row (tInt .i64) 3 1 s (ks.mergeSort fun x y => decide (x ≤ y)) :: cel bm [.map (some r)] 31 :: mapE T .i64 r es :: l) w' := by
  obtain ⟨arr, c, h1, hb, h2, H2⟩ := mapE_open (H.front 1)
  have hh := H2.get
  obtain ⟨D0, hown, hperm, hsize⟩ := owns_of (k := 3) Tryz.underlying3 hr (by omega) h1 hb h2 hh
  have hcel := H.get
  have hlt : bm < w.heap.size := (Array.getElem?_eq_some_iff.1 hcel).1
  have hseq := AnyZI.keys_gives (ρ := Tryz.keysB_ren) { Tryz.keysB with } Fence.wide (5 - 1 - 1 - 1) trivial rfl (by omega) bm r arr.size D0 w hlt (by rw [cell_of_blk hcel]; rfl) hown
  have cS := AnyZI.sorted_in Tryz.sortedA Fence.wide 5 trivial trivial trivial trivial rfl (by omega) (sortsA _) (enters_of Tryz.func54 (by kernel_rfl) rfl) 55 #[.pointer (some ⟨bm, 0, none⟩)] trivial (enters_of Tryz.func55 (by kernel_rfl) rfl) _ (Maps.size D0) (by rw [hsize]; exact Nat.le_trans hm (Nat.le_of_ble_eq_true rfl)) (by rw [hsize]; omega) w hseq
  change CallsIn _ _ Tryz.prog 34 _ _ _ at cS
  refine (callsIn_wide (n := 5)).1 (cS.mono ?_)
  rintro e w' ⟨v, ss, rfl, hS, hrow, hnil, hbel⟩
  have hrow : w'.ownsRow w.heap.size 3 1 v ss.length ((ss.mergeSort fun x y => decide (x ≤ y)).flatMap (tInt .i64).cells) := by
    have e : (ss.mergeSort fun x y => decide (x ≤ y)).flatMap (tInt .i64).cells = (ss.mergeSort fun x y => decide (x ≤ y)).map encZ := by
      generalize ss.mergeSort (fun x y => decide (x ≤ y)) = q
      induction q with
      | nil => rfl
      | cons x q ih => rw [List.flatMap_cons, ih]; rfl
    rw [e]; exact hrow
  obtain ⟨s, hs, H3⟩ := H.ownsRow (T := tInt .i64) (fun _ => rfl) (by rw [List.length_mergeSort]) hbel hrow
  exact ⟨s, hs, ss, hS.trans hperm, H3⟩
end
end Go.Proofs.YtpdaapffkdejoaaGreat.Cf
