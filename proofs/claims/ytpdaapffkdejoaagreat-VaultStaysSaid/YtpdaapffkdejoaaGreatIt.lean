/- slices.Sorted over maps.Keys at whole numbers: a new row that holds the keys, rising. -/
import Derived.Test.YtpdaapffkdejoaaGreatIt1
import Derived.Test.YtpdaapffkdejoaaGreatSlF
namespace Go.Proofs.YtpdaapffkdejoaaGreat.Cf
set_option linter.unusedSimpArgs false
set_option linter.unusedVariables false
open Go Go.RowKit Go.Maps Go.Sort Go.Shelf Go.WideElems
section
variable {W w : World} {l : List Assn} {α : Type} {T : Ty α}
/-- slices.Sort's two contracts at the fence that asks nothing. -/
theorem sortsA (m : Nat) : AnyZI.SortsIn Tryz.prog Tryz.sortedA_ren Fence.wide m :=
  ⟨fun blk off cap ss W hH hblk hsz => callsIn_wide.2 (AnyM.slices_Sort_int Tryz.sortA blk off cap ss W hH hblk hsz),
   fun p cap W => callsIn_wide.2 (AnyM.slices_Sort_int_none Tryz.sortA p cap W)⟩
theorem insert_perm {H : Type} (x : Lit × DataW H) : ∀ r, (DataW.insert x r).Perm (x :: r)
  | [] => List.Perm.refl _
  | y :: r => by
    unfold DataW.insert
    split
    · exact List.Perm.refl _
    · exact ((insert_perm x r).cons y).trans (List.Perm.swap x y r)
theorem foldr_perm {H : Type} : ∀ r : List (Lit × DataW H), (r.foldr DataW.insert []).Perm r
  | [] => List.Perm.refl _
  | x :: r => (insert_perm x _).trans ((foldr_perm r).cons x)
/-- Whatever a value is, it reads so. -/
def anyR (v : Value) : Option (DataW Unit × List MemPlace) := some (.nil, [])
theorem owns_of {k : TypeId} {r : Nat} {es : List (Int × α)} {arr : Array MapEntry} {c : Nat} (hk : Tryz.prog.underlying k = some (.int .i64)) (hr : ∀ p ∈ es, -9223372036854775808 ≤ p.1 ∧ p.1 ≤ 9223372036854775807) (hm : es.length ≤ 9223372036854775807)
    (h1 : Reps T .i64 arr es) (hb : Born arr c) (h2 : (es.map (·.1)).Nodup) (hh : w.heap[r]? = some (.map arr c)) :
    ∃ D0 : DataW Unit, w.ownsMap Tryz.prog k anyR r arr.size D0 ∧ (intKeys D0).Perm (es.map (·.1)) ∧ Maps.size D0 = es.length := by
  have hkeys : arr.toList.map (·.key) = es.map fun p => Value.int .i64 p.1 := by
    have := congrArg (List.map Prod.fst) h1
    simpa [List.map_map, Function.comp_def] using this
  have hlen : arr.size = es.length := by have := congrArg List.length hkeys; simpa using this
  have hrd : ∀ x ∈ arr.toList, ∃ n : Int, x.key = .int .i64 n ∧ WideElems.rd (H := Unit) Tryz.prog k anyR x = some (.int .i64 n, .nil) := by
    intro x hx
    have : x.key ∈ arr.toList.map (·.key) := List.mem_map.2 ⟨x, hx, rfl⟩
    rw [hkeys] at this
    obtain ⟨p, hp, e⟩ := List.mem_map.1 this
    refine ⟨p.1, e.symm, ?_⟩
    have h := hr p hp
    have hw : (Lit.int .i64 p.1).wf = true := by
      show (decide (IntKind.min .i64 ≤ p.1) && decide (p.1 ≤ IntKind.max .i64)) = true
      rw [decide_eq_true (show IntKind.min .i64 ≤ p.1 from h.1), decide_eq_true (show p.1 ≤ IntKind.max .i64 from h.2)]; rfl
    unfold WideElems.rd
    rw [← e, Maps.keyOf_int_mk hk hw]; rfl
  refine ⟨_, ⟨arr, c, hh, ⟨by rw [hlen]; exact hm, ⟨hb.1, hb.2, ?_⟩, fun x hx => by obtain ⟨n, _, h⟩ := hrd x hx; exact ⟨_, h⟩⟩, Nat.le_refl _, rfl⟩, ?_, ?_⟩
  · rw [hkeys]
    have e : (es.map fun p => Value.int .i64 p.1) = (es.map (·.1)).map (Value.int .i64) := by simp
    rw [e]
    exact List.Pairwise.map _ (fun a b h e => h (by injection e)) h2
  · refine ((foldr_perm (arr.toList.map (WideElems.rg (H := Unit) Tryz.prog k anyR))).map _).trans (List.Perm.of_eq ?_)
    have e : es.map (·.1) = arr.toList.map fun x => RowKit.intOf x.key := by
      have := congrArg (List.map RowKit.intOf) hkeys
      simp only [List.map_map] at this
      exact this.symm
    rw [e, List.map_map]
    refine List.map_congr_left fun x hx => ?_
    obtain ⟨n, h1, h2⟩ := hrd x hx
    simp [WideElems.rg, h2, h1]
    rfl
  · have := (foldr_perm (arr.toList.map (WideElems.rg (H := Unit) Tryz.prog k anyR))).length_eq
    rw [Maps.size_eq, this]; simp [hlen]
theorem sorted_keys {r bm : Nat} {es : List (Int × α)} (hr : ∀ p ∈ es, -9223372036854775808 ≤ p.1 ∧ p.1 ≤ 9223372036854775807) (hm : es.length ≤ 1000000) (H : St W (cel bm [.map (some r)] 93 :: mapE T .i64 r es :: l) w) :
    cl Tryz.prog 34 [.func (.func 64) #[] #[.pointer (some ⟨bm, 0, none⟩)]] tSlc w fun s w' => ∃ ks : List Int, ks.Perm (es.map (·.1)) ∧
      St W (row (tInt .i64) 3 1 s (ks.mergeSort fun x y => decide (x ≤ y)) :: cel bm [.map (some r)] 93 :: mapE T .i64 r es :: l) w' := by
  obtain ⟨arr, c, h1, hb, h2, H2⟩ := mapE_open (H.front 1)
  have hh := H2.get
  obtain ⟨D0, hown, hperm, hsize⟩ := owns_of (k := 3) Tryz.underlying3 hr (by omega) h1 hb h2 hh
  have hcel := H.get
  have hlt : bm < w.heap.size := (Array.getElem?_eq_some_iff.1 hcel).1
  have hseq := AnyZI.keys_gives (ρ := Tryz.keysA_ren) { Tryz.keysA with } Fence.wide (5 - 1 - 1 - 1) trivial rfl (by omega) bm r arr.size D0 w hlt (by rw [cell_of_blk hcel]; rfl) hown
  have cS := AnyZI.sorted_in Tryz.sortedA Fence.wide 5 trivial trivial trivial trivial rfl (by omega) (sortsA _) (enters_of Tryz.func54 (by kernel_rfl) rfl) 64 #[.pointer (some ⟨bm, 0, none⟩)] trivial (enters_of Tryz.func64 (by kernel_rfl) rfl) _ (Maps.size D0) (by rw [hsize]; exact Nat.le_trans hm (Nat.le_of_ble_eq_true rfl)) (by rw [hsize]; omega) w hseq
  change CallsIn _ _ Tryz.prog 34 _ _ _ at cS
  refine (callsIn_wide (n := 5)).1 (cS.mono ?_)
  rintro e w' ⟨v, ss, rfl, hS, hrow, hnil, hbel⟩
  have hrow : w'.ownsRow w.heap.size 3 1 v ss.length ((ss.mergeSort fun x y => decide (x ≤ y)).flatMap (tInt .i64).cells) := by
    have e : (ss.mergeSort fun x y => decide (x ≤ y)).flatMap (tInt .i64).cells = (ss.mergeSort fun x y => decide (x ≤ y)).map encZ := by
      generalize ss.mergeSort (fun x y => decide (x ≤ y)) = q
      induction q with
      | nil => rfl
      | cons x q ih => rw [List.flatMap_cons, ih]; rfl
    rw [e]; exact hrow
  obtain ⟨s, hs, H3⟩ := H.ownsRow (T := tInt .i64) (fun _ => rfl) (by rw [List.length_mergeSort]) hbel hrow
  exact ⟨s, hs, ss, hS.trans hperm, H3⟩
end
end Go.Proofs.YtpdaapffkdejoaaGreat.Cf
