/- Own texts of this claim, part 4: short, merged. -/
import Derived.Shelf.SlIterI.Nil
import Derived.Shelf.SlIterI.Sorted
import Derived.Shelf.SortM.Plain
import Derived.Shelf.SortM.SortNone
import Derived.Ground.GgzProg
import Derived.Ground.SlgmProg
import Derived.Test.YtpdaapffkdejoaaGreatProg
import Derived.Test.YtpdaapffkdejoaaGreatZ3
namespace Go.Proofs
open Go.Shelf
def Tryz.keysA_ren : Go.Shelf.Ren := ⟨fun | 7 => 48 | 10 => 64 | n => n, fun | 23 => 93 | 26 => 3 | 3 => 97 | 28 => 80 | 0 => 0 | 27 => 79 | 33 => 90 | 4 => 4 | n => n, fun | n => n⟩
theorem Tryz.keysA : Go.Proofs.SlLaysZI.n7 Tryz.prog Tryz.keysA_ren := {
  mixed := by kernel_rfl
  f7 := ⟨Tryz.f48.name, by decide, Tryz.func48.trans (congrArg some (by kernel_rfl))⟩
  f10 := ⟨Tryz.f64.name, by decide, Tryz.func64.trans (congrArg some (by kernel_rfl))⟩
  t0 := Tryz.underlying0
  a0 := Tryz.isAgg0
  z0 := Tryz.sizeOf0
  v0 := Tryz.zeroValue0
  t4 := Tryz.underlying4
  a4 := Tryz.isAgg4
  z4 := Tryz.sizeOf4
  v4 := Tryz.zeroValue4
  t23 := Tryz.underlying93
  a23 := Tryz.isAgg93
  z23 := Tryz.sizeOf93
  v23 := Tryz.zeroValue93
  t26 := Tryz.underlying3
  a26 := Tryz.isAgg3
  z26 := Tryz.sizeOf3
  v26 := Tryz.zeroValue3
  t27 := Tryz.underlying79
  a27 := Tryz.isAgg79
  z27 := Tryz.sizeOf79
  v27 := Tryz.zeroValue79
  t28 := Tryz.underlying80
  a28 := Tryz.isAgg80
  z28 := Tryz.sizeOf80
  v28 := Tryz.zeroValue80
  t33 := Tryz.underlying90
  a33 := Tryz.isAgg90
  z33 := Tryz.sizeOf90
  v33 := Tryz.zeroValue90 }
def Tryz.keysB_ren : Go.Shelf.Ren := ⟨fun | 7 => 35 | 10 => 55 | n => n, fun | 23 => 31 | 26 => 3 | 3 => 55 | 28 => 80 | 0 => 0 | 27 => 79 | 33 => 90 | 4 => 4 | n => n, fun | n => n⟩
theorem Tryz.keysB : Go.Proofs.SlLaysZI.n7 Tryz.prog Tryz.keysB_ren := {
  mixed := by kernel_rfl
  f7 := ⟨Tryz.f35.name, by decide, Tryz.func35.trans (congrArg some (by kernel_rfl))⟩
  f10 := ⟨Tryz.f55.name, by decide, Tryz.func55.trans (congrArg some (by kernel_rfl))⟩
  t0 := Tryz.underlying0
  a0 := Tryz.isAgg0
  z0 := Tryz.sizeOf0
  v0 := Tryz.zeroValue0
  t4 := Tryz.underlying4
  a4 := Tryz.isAgg4
  z4 := Tryz.sizeOf4
  v4 := Tryz.zeroValue4
  t23 := Tryz.underlying31
  a23 := Tryz.isAgg31
  z23 := Tryz.sizeOf31
  v23 := Tryz.zeroValue31
  t26 := Tryz.underlying3
  a26 := Tryz.isAgg3
  z26 := Tryz.sizeOf3
  v26 := Tryz.zeroValue3
  t27 := Tryz.underlying79
  a27 := Tryz.isAgg79
  z27 := Tryz.sizeOf79
  v27 := Tryz.zeroValue79
  t28 := Tryz.underlying80
  a28 := Tryz.isAgg80
  z28 := Tryz.sizeOf80
  v28 := Tryz.zeroValue80
  t33 := Tryz.underlying90
  a33 := Tryz.isAgg90
  z33 := Tryz.sizeOf90
  v33 := Tryz.zeroValue90 }
def Tryz.sortedA_ren : Go.Shelf.Ren := ⟨fun | 6 => 34 | 8 => 53 | 9 => 54 | 11 => 67 | 13 => 69 | 12 => 68 | 23 => 87 | 24 => 88 | 14 => 78 | 15 => 79 | 16 => 80 | 17 => 81 | 18 => 82 | 19 => 83 | 20 => 84 | 21 => 85 | 22 => 86 | 25 => 96 | 26 => 97 | 27 => 98 | 28 => 99 | 29 => 100 | 30 => 101 | 31 => 107 | n => n, fun | 26 => 3 | 28 => 80 | 24 => 77 | 0 => 0 | 3 => 3 | 37 => 120 | 48 => 136 | 50 => 122 | 4 => 4 | 40 => 129 | 39 => 128 | 45 => 103 | 5 => 5 | 9 => 9 | 51 => 149 | 55 => 153 | 57 => 156 | 58 => 157 | 33 => 90 | n => n, fun | n => n⟩
theorem Tryz.sortedA : Go.Proofs.SlLaysZI.n6 Tryz.prog Tryz.sortedA_ren := {
  mixed := by kernel_rfl
  f6 := ⟨Tryz.f34.name, by decide, Tryz.func34.trans (congrArg some (by kernel_rfl))⟩
  f8 := ⟨Tryz.f53.name, by decide, Tryz.func53.trans (congrArg some (by kernel_rfl))⟩
  f11 := ⟨Tryz.f67.name, by decide, Tryz.func67.trans (congrArg some (by kernel_rfl))⟩
  t0 := Tryz.underlying0
  a0 := Tryz.isAgg0
  z0 := Tryz.sizeOf0
  v0 := Tryz.zeroValue0
  t24 := Tryz.underlying77
  a24 := Tryz.isAgg77
  z24 := Tryz.sizeOf77
  v24 := Tryz.zeroValue77
  t26 := Tryz.underlying3
  a26 := Tryz.isAgg3
  z26 := Tryz.sizeOf3
  v26 := Tryz.zeroValue3
  t28 := Tryz.underlying80
  a28 := Tryz.isAgg80
  z28 := Tryz.sizeOf80
  v28 := Tryz.zeroValue80
  i26 := by kernel_rfl }
def Tryz.sortA_ren : Go.Shelf.Ren := ⟨fun | 5 => 54 | 8 => 69 | 7 => 68 | 19 => 87 | 20 => 88 | 10 => 78 | 11 => 79 | 12 => 80 | 13 => 81 | 14 => 82 | 15 => 83 | 16 => 84 | 17 => 85 | 18 => 86 | 30 => 96 | 31 => 97 | 32 => 98 | 33 => 99 | 34 => 100 | 35 => 101 | 40 => 107 | n => n, fun | 23 => 77 | 25 => 3 | 3 => 3 | 32 => 120 | 22 => 77 | 0 => 0 | 44 => 136 | 46 => 122 | 4 => 4 | 36 => 129 | 35 => 128 | 41 => 103 | 5 => 5 | 9 => 9 | 53 => 149 | 57 => 153 | 63 => 156 | 64 => 157 | n => n, fun | n => n⟩
theorem Tryz.sortA : Go.Proofs.SlLaysM.n5 Tryz.prog Tryz.sortA_ren := {
  mixed := by kernel_rfl
  f5 := ⟨Tryz.f54.name, by decide, Tryz.func54.trans (congrArg some (by kernel_rfl))⟩
  f7 := ⟨Tryz.f68.name, by decide, Tryz.func68.trans (congrArg some (by kernel_rfl))⟩
  f8 := Tryz.func69.trans (congrArg some (by kernel_rfl))
  f10 := ⟨Tryz.f78.name, by decide, Tryz.func78.trans (congrArg some (by kernel_rfl))⟩
  f11 := ⟨Tryz.f79.name, by decide, Tryz.func79.trans (congrArg some (by kernel_rfl))⟩
  f12 := ⟨Tryz.f80.name, by decide, Tryz.func80.trans (congrArg some (by kernel_rfl))⟩
  f13 := ⟨Tryz.f81.name, by decide, Tryz.func81.trans (congrArg some (by kernel_rfl))⟩
  f14 := ⟨Tryz.f82.name, by decide, Tryz.func82.trans (congrArg some (by kernel_rfl))⟩
  f15 := ⟨Tryz.f83.name, by decide, Tryz.func83.trans (congrArg some (by kernel_rfl))⟩
  f16 := ⟨Tryz.f84.name, by decide, Tryz.func84.trans (congrArg some (by kernel_rfl))⟩
  f17 := ⟨Tryz.f85.name, by decide, Tryz.func85.trans (congrArg some (by kernel_rfl))⟩
  f18 := ⟨Tryz.f86.name, by decide, Tryz.func86.trans (congrArg some (by kernel_rfl))⟩
  f19 := Tryz.func87.trans (congrArg some (by kernel_rfl))
  f20 := Tryz.func88.trans (congrArg some (by kernel_rfl))
  f30 := ⟨Tryz.f96.name, by decide, Tryz.func96.trans (congrArg some (by kernel_rfl))⟩
  f31 := Tryz.func97.trans (congrArg some (by kernel_rfl))
  f32 := Tryz.func98.trans (congrArg some (by kernel_rfl))
  f33 := ⟨Tryz.f99.name, by decide, Tryz.func99.trans (congrArg some (by kernel_rfl))⟩
  f34 := ⟨Tryz.f100.name, by decide, Tryz.func100.trans (congrArg some (by kernel_rfl))⟩
  f35 := ⟨Tryz.f101.name, by decide, Tryz.func101.trans (congrArg some (by kernel_rfl))⟩
  f40 := ⟨Tryz.f107.name, by decide, Tryz.func107.trans (congrArg some (by kernel_rfl))⟩
  t0 := Tryz.underlying0
  a0 := Tryz.isAgg0
  z0 := Tryz.sizeOf0
  v0 := Tryz.zeroValue0
  t3 := Tryz.underlying3
  a3 := Tryz.isAgg3
  z3 := Tryz.sizeOf3
  v3 := Tryz.zeroValue3
  t4 := Tryz.underlying4
  a4 := Tryz.isAgg4
  z4 := Tryz.sizeOf4
  v4 := Tryz.zeroValue4
  t5 := Tryz.underlying5
  a5 := Tryz.isAgg5
  z5 := Tryz.sizeOf5
  v5 := Tryz.zeroValue5
  t9 := Tryz.underlying9
  a9 := Tryz.isAgg9
  z9 := Tryz.sizeOf9
  v9 := Tryz.zeroValue9
  t22 := Tryz.underlying77
  a22 := Tryz.isAgg77
  z22 := Tryz.sizeOf77
  v22 := Tryz.zeroValue77
  t23 := Tryz.underlying77
  a23 := Tryz.isAgg77
  z23 := Tryz.sizeOf77
  v23 := Tryz.zeroValue77
  t25 := Tryz.underlying3
  a25 := Tryz.isAgg3
  z25 := Tryz.sizeOf3
  v25 := Tryz.zeroValue3
  t32 := Tryz.underlying120
  a32 := Tryz.isAgg120
  z32 := Tryz.sizeOf120
  v32 := Tryz.zeroValue120
  t35 := Tryz.underlying128
  a35 := Tryz.isAgg128
  z35 := Tryz.sizeOf128
  v35 := Tryz.zeroValue128
  t36 := Tryz.underlying129
  a36 := Tryz.isAgg129
  z36 := Tryz.sizeOf129
  v36 := Tryz.zeroValue129
  t41 := Tryz.underlying103
  a41 := Tryz.isAgg103
  z41 := Tryz.sizeOf103
  v41 := Tryz.zeroValue103
  t44 := Tryz.underlying136
  a44 := Tryz.isAgg136
  z44 := Tryz.sizeOf136
  v44 := Tryz.zeroValue136
  t46 := Tryz.underlying122
  a46 := Tryz.isAgg122
  z46 := Tryz.sizeOf122
  v46 := Tryz.zeroValue122
  t53 := Tryz.underlying149
  a53 := Tryz.isAgg149
  z53 := Tryz.sizeOf149
  v53 := Tryz.zeroValue149
  t57 := Tryz.underlying153
  a57 := Tryz.isAgg153
  z57 := Tryz.sizeOf153
  v57 := Tryz.zeroValue153
  t63 := Tryz.underlying156
  a63 := Tryz.isAgg156
  z63 := Tryz.sizeOf156
  v63 := Tryz.zeroValue156
  t64 := Tryz.underlying157
  a64 := Tryz.isAgg157
  z64 := Tryz.sizeOf157
  v64 := Tryz.zeroValue157 }
end Go.Proofs
namespace Go.Proofs.YtpdaapffkdejoaaGreat.Cf
set_option linter.unusedSimpArgs false
set_option linter.unusedVariables false
open Go Go.RowKit Go.Maps Go.Sort Go.Shelf Go.WideElems
section
variable {W w : World} {l : List Assn} {α : Type} {T : Ty α}
theorem sortsA (m : Nat) : AnyZI.SortsIn Tryz.prog Tryz.sortedA_ren Fence.wide m :=
  ⟨fun blk off cap ss W hH hblk hsz => callsIn_wide.2 (AnyM.slices_Sort_int Tryz.sortA blk off cap ss W hH hblk hsz),
   fun p cap W => callsIn_wide.2 (AnyM.slices_Sort_int_none Tryz.sortA p cap W)⟩
theorem insert_perm {H : Type} (x : Lit × DataW H) : ∀ r, (DataW.insert x r).Perm (x :: r)
  | [] => List.Perm.refl _
  | y :: r => by
    unfold DataW.insert
    split
    · exact List.Perm.refl _
    · exact ((insert_perm x r).cons y).trans (List.Perm.swap x y r)
theorem foldr_perm {H : Type} : ∀ r : List (Lit × DataW H), (r.foldr DataW.insert []).Perm r
  | [] => List.Perm.refl _
  | x :: r => (insert_perm x _).trans ((foldr_perm r).cons x)
def anyR (v : Value) : Option (DataW Unit × List MemPlace) := some (.nil, [])
theorem owns_of {k : TypeId} {r : Nat} {es : List (Int × α)} {arr : Array MapEntry} {c : Nat} (hk : Tryz.prog.underlying k = some (.int .i64)) (hr : ∀ p ∈ es, -9223372036854775808 ≤ p.1 ∧ p.1 ≤ 9223372036854775807) (hm : es.length ≤ 9223372036854775807)
    (h1 : Reps T .i64 arr es) (hb : Born arr c) (h2 : (es.map (·.1)).Nodup) (hh : w.heap[r]? = some (.map arr c)) :
    ∃ D0 : DataW Unit, w.ownsMap Tryz.prog k anyR r arr.size D0 ∧ (intKeys D0).Perm (es.map (·.1)) ∧ Maps.size D0 = es.length := by
  have hkeys : arr.toList.map (·.key) = es.map fun p => Value.int .i64 p.1 := by
    have := congrArg (List.map Prod.fst) h1
    simpa [List.map_map, Function.comp_def] using this
  have hlen : arr.size = es.length := by have := congrArg List.length hkeys; simpa using this
  have hrd : ∀ x ∈ arr.toList, ∃ n : Int, x.key = .int .i64 n ∧ WideElems.rd (H := Unit) Tryz.prog k anyR x = some (.int .i64 n, .nil) := by
    intro x hx
    have : x.key ∈ arr.toList.map (·.key) := List.mem_map.2 ⟨x, hx, rfl⟩
    rw [hkeys] at this
    obtain ⟨p, hp, e⟩ := List.mem_map.1 this
    refine ⟨p.1, e.symm, ?_⟩
    have h := hr p hp
    have hw : (Lit.int .i64 p.1).wf = true := by
      show (decide (IntKind.min .i64 ≤ p.1) && decide (p.1 ≤ IntKind.max .i64)) = true
      rw [decide_eq_true (show IntKind.min .i64 ≤ p.1 from h.1), decide_eq_true (show p.1 ≤ IntKind.max .i64 from h.2)]; rfl
    unfold WideElems.rd
    rw [← e, Maps.keyOf_int_mk hk hw]; rfl
  refine ⟨_, ⟨arr, c, hh, ⟨by rw [hlen]; exact hm, ⟨hb.1, hb.2, ?_⟩, fun x hx => by obtain ⟨n, _, h⟩ := hrd x hx; exact ⟨_, h⟩⟩, Nat.le_refl _, rfl⟩, ?_, ?_⟩
  · rw [hkeys]
    have e : (es.map fun p => Value.int .i64 p.1) = (es.map (·.1)).map (Value.int .i64) := by simp
    rw [e]
    exact List.Pairwise.map _ (fun a b h e => h (by injection e)) h2
  · refine ((foldr_perm (arr.toList.map (WideElems.rg (H := Unit) Tryz.prog k anyR))).map _).trans (List.Perm.of_eq ?_)
    have e : es.map (·.1) = arr.toList.map fun x => RowKit.intOf x.key := by
      have := congrArg (List.map RowKit.intOf) hkeys
      simp only [List.map_map] at this
      exact this.symm
    rw [e, List.map_map]
    refine List.map_congr_left fun x hx => ?_
    obtain ⟨n, h1, h2⟩ := hrd x hx
    simp [WideElems.rg, h2, h1]
    rfl
  · have := (foldr_perm (arr.toList.map (WideElems.rg (H := Unit) Tryz.prog k anyR))).length_eq
    rw [Maps.size_eq, this]; simp [hlen]
theorem sorted_keys {r bm : Nat} {es : List (Int × α)} (hr : ∀ p ∈ es, -9223372036854775808 ≤ p.1 ∧ p.1 ≤ 9223372036854775807) (hm : es.length ≤ 1000000) (H : St W (cel bm [.map (some r)] 93 :: mapE T .i64 r es :: l) w) :
    cl Tryz.prog 34 [.func (.func 64) #[] #[.pointer (some ⟨bm, 0, none⟩)]] tSlc w fun s w' => ∃ ks : List Int, ks.Perm (es.map (·.1)) ∧
      St W (row (tInt .i64) 3 1 s (ks.mergeSort fun x y => decide (x ≤ y)) :: cel bm [.map (some r)] 93 :: mapE T .i64 r es :: l) w' := by
  obtain ⟨arr, c, h1, hb, h2, H2⟩ := mapE_open (H.front 1)
  have hh := H2.get
  obtain ⟨D0, hown, hperm, hsize⟩ := owns_of (k := 3) Tryz.underlying3 hr (by omega) h1 hb h2 hh
  have hcel := H.get
  have hlt : bm < w.heap.size := (Array.getElem?_eq_some_iff.1 hcel).1
  have hseq := AnyZI.keys_gives (ρ := Tryz.keysA_ren) { Tryz.keysA with } Fence.wide (5 - 1 - 1 - 1) trivial rfl (by omega) bm r arr.size D0 w hlt (by rw [cell_of_blk hcel]; rfl) hown
  have cS := AnyZI.sorted_in Tryz.sortedA Fence.wide 5 trivial trivial trivial trivial rfl (by omega) (sortsA _) (enters_of Tryz.func54 (by kernel_rfl) rfl) 64 #[.pointer (some ⟨bm, 0, none⟩)] trivial (enters_of Tryz.func64 (by kernel_rfl) rfl) _ (Maps.size D0) (by rw [hsize]; exact Nat.le_trans hm (Nat.le_of_ble_eq_true rfl)) (by rw [hsize]; omega) w hseq
  change CallsIn _ _ Tryz.prog 34 _ _ _ at cS
  refine (callsIn_wide (n := 5)).1 (cS.mono ?_)
  rintro e w' ⟨v, ss, rfl, hS, hrow, hnil, hbel⟩
  have hrow : w'.ownsRow w.heap.size 3 1 v ss.length ((ss.mergeSort fun x y => decide (x ≤ y)).flatMap (tInt .i64).cells) := by
    have e : (ss.mergeSort fun x y => decide (x ≤ y)).flatMap (tInt .i64).cells = (ss.mergeSort fun x y => decide (x ≤ y)).map encZ := by
      generalize ss.mergeSort (fun x y => decide (x ≤ y)) = q
      induction q with
      | nil => rfl
      | cons x q ih => rw [List.flatMap_cons, ih]; rfl
    rw [e]; exact hrow
  obtain ⟨s, hs, H3⟩ := H.ownsRow (T := tInt .i64) (fun _ => rfl) (by rw [List.length_mergeSort]) hbel hrow
  exact ⟨s, hs, ss, hS.trans hperm, H3⟩
end
end Go.Proofs.YtpdaapffkdejoaaGreat.Cf
namespace Go.Proofs.YtpdaapffkdejoaaGreat.Store
open Go Go.Proofs.YtpdaapffkdejoaaGreat.Cf
set_option linter.unusedVariables false
set_option linter.unusedSimpArgs false
set_option maxRecDepth 100000
theorem look_split {β : Type} {k : Int} {v : β} : ∀ {es : List (Int × β)}, es.lookup k = some v → ∃ l1 l2, es = l1 ++ (k, v) :: l2
  | [], h => by cases h
  | (a, b) :: es, h => by
    simp only [List.lookup] at h
    by_cases c : (k == a) = true
    · rw [c] at h
      have e : k = a := by simpa using c
      cases h; subst e
      exact ⟨[], es, rfl⟩
    · simp only [Bool.not_eq_true] at c
      rw [c] at h
      obtain ⟨l1, l2, e⟩ := look_split h
      exact ⟨(a, b) :: l1, l2, by rw [e]; rfl⟩
theorem look_mem {β : Type} {k : Int} {v : β} {es : List (Int × β)} (h : es.lookup k = some v) : (k, v) ∈ es := by
  obtain ⟨l1, l2, e⟩ := look_split h
  rw [e]; simp
theorem mem_look {β : Type} {k : Int} {v : β} : ∀ {es : List (Int × β)}, (es.map (·.1)).Nodup → (k, v) ∈ es → es.lookup k = some v
  | [], _, h => by cases h
  | (a, b) :: es, hn, h => by
    have hn' := List.nodup_cons.1 hn
    simp only [List.lookup]
    rcases List.mem_cons.1 h with e | h
    · cases e; simp
    · have : k ≠ a := fun e => hn'.1 (List.mem_map.2 ⟨(k, v), h, e⟩)
      rw [show (k == a) = false from by simpa using this]
      exact mem_look hn'.2 h
theorem ups_none {β : Type} {k : Int} {v : β} : ∀ {es : List (Int × β)}, es.lookup k = none → ups k v es = es ++ [(k, v)]
  | [], _ => rfl
  | (a, b) :: es, h => by
    simp only [List.lookup] at h
    by_cases c : (k == a) = true
    · rw [c] at h; cases h
    · simp only [Bool.not_eq_true] at c
      rw [c] at h
      simp only [ups, c]
      rw [ups_none h]; rfl
section
variable {W w : World} {l l' : List Assn}
structure StP where
  m : Nat
  chs : List (Int × ChP)
def ptrs (chs : List (Int × ChP)) : List (Int × Option Addr) := chs.map fun e => (e.1, some (⟨e.2.b, 0, none⟩ : Addr))
def bigF (g : Int → List S86) (chs : List (Int × ChP)) : Assn := sepA (chs.map fun e => chainA e.2 (g e.1))
structure Rel (t : StP) (M : Md) : Prop where
  keys : ∀ k, vs M.rows k ≠ [] ↔ k ∈ t.chs.map (·.1)
  marks : ∀ e ∈ t.chs, 0 ≤ e.2.mark ∧ e.2.mark ≤ M.mark
def sto (b : Nat) (M : Md) : Assn := exA fun t : StP => sepA [puA (Rel t M), cel b (T94.cells ⟨some t.m, M.closed, M.mark⟩) 95, mapE tPtr .i64 t.m (ptrs t.chs), bigF (vs M.rows) t.chs]
theorem sto_open {b : Nat} {M : Md} (H : St W (sto b M :: l) w) : ∃ t : StP, Rel t M ∧ (t.chs.map (·.1)).Nodup ∧ St W (cel b (T94.cells ⟨some t.m, M.closed, M.mark⟩) 95 :: mapE tPtr .i64 t.m (ptrs t.chs) :: bigF (vs M.rows) t.chs :: l) w := by
  obtain ⟨t, H⟩ := H.ex
  have H := H.open_
  obtain ⟨h, H⟩ := St.pu (φ := Rel t M) H
  refine ⟨t, h, ?_, H⟩
  have := mapE_nodup (H.front 1)
  have e : (ptrs t.chs).map (·.1) = t.chs.map (·.1) := by unfold ptrs; rw [List.map_map]; rfl
  rw [← e]; exact this
theorem sto_shut {b : Nat} {M : Md} {t : StP} (h : Rel t M) (H : St W (cel b (T94.cells ⟨some t.m, M.closed, M.mark⟩) 95 :: mapE tPtr .i64 t.m (ptrs t.chs) :: bigF (vs M.rows) t.chs :: l) w) : St W (sto b M :: l) w :=
  St.toEx t (St.shut (l' := [puA (Rel t M), cel b (T94.cells ⟨some t.m, M.closed, M.mark⟩) 95, mapE tPtr .i64 t.m (ptrs t.chs), bigF (vs M.rows) t.chs]) (St.toPu h H))
theorem lookup_ptrs (k : Int) : ∀ chs : List (Int × ChP), (ptrs chs).lookup k = (chs.lookup k).map fun C => some (⟨C.b, 0, none⟩ : Addr)
  | [] => rfl
  | (a, C) :: chs => by
    have ih := lookup_ptrs k chs
    unfold ptrs at ih ⊢
    simp only [List.map_cons, List.lookup]
    by_cases c : (k == a) = true
    · rw [c]; rfl
    · simp only [Bool.not_eq_true] at c
      rw [c]; exact ih
theorem big_congr {g g' : Int → List S86} {chs : List (Int × ChP)} (h : ∀ e ∈ chs, g e.1 = g' e.1) : bigF g chs = bigF g' chs := by
  unfold bigF; rw [List.map_congr_left fun e he => by rw [h e he]]
theorem big_get {g : Int → List S86} {l1 l2 : List (Int × ChP)} {e : Int × ChP} (H : St W (bigF g (l1 ++ e :: l2) :: l) w) : St W (chainA e.2 (g e.1) :: bigF g (l1 ++ l2) :: l) w := big_out (f := fun e : Int × ChP => chainA e.2 (g e.1)) H
theorem big_put {g : Int → List S86} {l1 l2 : List (Int × ChP)} {e : Int × ChP} (H : St W (chainA e.2 (g e.1) :: bigF g (l1 ++ l2) :: l) w) : St W (bigF g (l1 ++ e :: l2) :: l) w := big_in (f := fun e : Int × ChP => chainA e.2 (g e.1)) H
theorem big_set {g g' : Int → List S86} {l1 l2 : List (Int × ChP)} {k : Int} {C : ChP} {L : List S86} (hk : g' k = L) (ho : ∀ e ∈ l1 ++ l2, g e.1 = g' e.1) (H : St W (chainA C L :: bigF g (l1 ++ l2) :: l) w) : St W (bigF g' (l1 ++ (k, C) :: l2) :: l) w := by
  refine big_put (e := (k, C)) ?_
  rw [← big_congr ho]; rw [← hk] at H; exact H
theorem others {l1 l2 : List (Int × ChP)} {k : Int} {C : ChP} (hn : ((l1 ++ (k, C) :: l2).map (·.1)).Nodup) : ∀ e ∈ l1 ++ l2, e.1 ≠ k := by
  intro e he h
  rw [List.map_append, List.map_cons] at hn
  have h2 := (List.nodup_append.1 hn).2
  rcases List.mem_append.1 he with h3 | h3
  · exact h2.2 e.1 (List.mem_map.2 ⟨e, h3, rfl⟩) k (List.mem_cons_self ..) h
  · exact (List.nodup_cons.1 h2.1).1 (by rw [← h]; exact List.mem_map.2 ⟨e, h3, rfl⟩)
theorem Rel.none {t : StP} {M : Md} {k : Int} (h : Rel t M) (hl : t.chs.lookup k = .none) : vs M.rows k = [] := by
  by_cases e : vs M.rows k = []
  · exact e
  · exact absurd ((h.keys k).1 e) (lookup_none.1 hl)
theorem snew_spec (H : St W l w) : cl Tryz.prog 41 [] tPtr w fun r w' => ∃ b, r = some ⟨b, 0, none⟩ ∧ St W (sto b ⟨[], 0, 0⟩ :: l) w' := by
  refine F41_ok ?_
  unfold F41
  refine nwMap_st H fun m w1 H => ?_
  refine nw_st H fun b w2 H => ?_
  have H := mapE_new tPtr .i64 (H.front 1)
  have H : St W (sepA [] :: mapE tPtr .i64 m [] :: cel b (T94.cells ⟨some m, 0, 0⟩) 95 :: l) w2 := St.shut (l' := []) H
  exact ⟨b, rfl, sto_shut (t := ⟨m, []⟩) ⟨fun k => by simp [vs_nil], fun e h => by cases h⟩ (H.ord [2, 1, 0])⟩
theorem closed_spec {b : Nat} {M : Md} (H : St W (sto b M :: l) w) : cl Tryz.prog 26 [.pointer (some ⟨b, 0, none⟩)] (tInt .i64) w fun r w' => r = M.closed ∧ St W (sto b M :: l) w' := by
  refine F26_ok ?_
  unfold F26
  obtain ⟨t, h, hn, H⟩ := sto_open H
  refine nc_st rfl ?_
  refine ld_st (x := M.closed) 0 H rfl rfl rfl ?_
  exact ⟨rfl, sto_shut h H⟩
theorem mark_spec {b : Nat} {M : Md} (H : St W (sto b M :: l) w) : cl Tryz.prog 29 [.pointer (some ⟨b, 0, none⟩)] (tInt .i64) w fun r w' => r = M.mark ∧ St W (sto b M :: l) w' := by
  refine F29_ok ?_
  unfold F29
  obtain ⟨t, h, hn, H⟩ := sto_open H
  refine nc_st rfl ?_
  refine ld_st (x := M.mark) 0 H rfl rfl rfl ?_
  exact ⟨rfl, sto_shut h H⟩
theorem in_spec {t : Int} (H : St W l w) : cl Tryz.prog 56 [.int .i64 t] tBool w fun r w' => r = (decide (t ≥ 0) && decide (t ≤ 1125899906842624)) ∧ St W l w' := by
  refine F56_ok ?_
  unfold F56
  exact ⟨rfl, H⟩
theorem is_spec {k : Int} (H : St W l w) : cl Tryz.prog 62 [.int .i64 k] tBool w fun r w' => r = (decide (k ≥ 0) && decide (k < 8192)) ∧ St W l w' := by
  refine F62_ok ?_
  unfold F62
  exact ⟨rfl, H⟩
theorem close_spec {b : Nat} {M : Md} {t : Int} (H : St W (sto b M :: l) w) : cl Tryz.prog 37 [.pointer (some ⟨b, 0, none⟩), .int .i64 t] (tInt .i64) w fun r w' => r = closeE t ∧ St W (sto b (closeM M t) :: l) w' := by
  refine F37_ok ?_
  unfold F37
  refine cl_mono (in_spec H) ?_
  rintro r w1 ⟨rfl, H⟩
  unfold closeM closeE
  split
  · rename_i hc
    rw [if_pos (show t < 0 ∨ t > 1125899906842624 from by simp at hc; omega)]
    exact ⟨rfl, by rw [if_neg (by omega)]; exact H⟩
  · rename_i hc
    rw [if_neg (show ¬ (t < 0 ∨ t > 1125899906842624) from by simp at hc; omega), if_pos rfl]
    obtain ⟨p, h, hn, H⟩ := sto_open H
    refine nc_st rfl ?_
    refine ld_st (x := M.closed) 0 H rfl rfl rfl ?_
    refine st_st (x := max M.closed t) 0 H rfl rfl (Nat.le_of_ble_eq_true rfl) fun w2 H => ?_
    exact ⟨rfl, sto_shut (M := { M with closed := max M.closed t }) ⟨h.keys, h.marks⟩ H⟩
theorem time_spec {b : Nat} {M : Md} {t : Int} (H : St W (sto b M :: l) w) : cl Tryz.prog 47 [.pointer (some ⟨b, 0, none⟩), .int .i64 t] (tInt .i64) w fun r w' => r = timeM M t ∧ St W (sto b M :: l) w' := by
  refine F47_ok ?_
  unfold F47
  refine cl_mono (in_spec H) ?_
  rintro r w1 ⟨rfl, H⟩
  unfold timeM
  split
  · rename_i hc
    rw [if_pos (show t < 0 ∨ t > 1125899906842624 from by simp at hc; omega)]
    exact ⟨rfl, H⟩
  · rename_i hc
    rw [if_neg (show ¬ (t < 0 ∨ t > 1125899906842624) from by simp at hc; omega)]
    obtain ⟨p, h, hn, H⟩ := sto_open H
    refine nc_st rfl ?_
    refine ld_st (x := M.closed) 0 H rfl rfl rfl ?_
    split
    · rename_i hc
      rw [if_pos (by simpa using hc)]
      exact ⟨rfl, sto_shut h H⟩
    · rename_i hc
      rw [if_neg (by simpa using hc)]
      refine ld_st (x := M.mark) 0 H rfl rfl rfl ?_
      split
      · rename_i hc
        rw [if_pos (by simpa using hc)]
        exact ⟨rfl, sto_shut h H⟩
      · rename_i hc
        rw [if_neg (by simpa using hc)]
        exact ⟨rfl, sto_shut h H⟩
theorem slast_spec {b : Nat} {M : Md} {k : Int} (hI : Inv M) (H : St W (sto b M :: l) w) : cl Tryz.prog 42 [.pointer (some ⟨b, 0, none⟩), .int .i64 k] (tTup2 T86 tBool) w fun r w' => r = lastV (vs M.rows k) ∧ St W (sto b M :: l) w' := by
  refine F42_ok ?_
  unfold F42
  refine nw_st H fun b3 w1 H => ?_
  obtain ⟨t, h, hnd, H⟩ := sto_open (H.front 1)
  refine nc_st rfl ?_
  refine ld_st (x := some t.m) 0 H rfl rfl rfl ?_
  refine mget_st 1 H rfl rfl ?_
  rw [lookup_ptrs]
  cases hl : t.chs.lookup k with
  | none =>
    rw [if_pos (by simp)]
    refine vst_st (x := Z86) (y := (⟨0, 0⟩ : S86)) len87 3 H rfl fun w2 H => ?_
    refine vld_st (x := (⟨0, 0⟩ : S86)) 0 H rfl ?_
    exact ⟨by rw [h.none hl]; rfl, sto_shut h H.drop⟩
  | some C =>
    rw [if_neg (by simp)]
    obtain ⟨l1, l2, e⟩ := look_split hl
    have H := H.front 2
    rw [e] at H
    have H := big_get H
    refine cl_mono (chlast_spec (C := C) (Nat.le_trans (hI.cap _) (by omega)) H) ?_
    rintro r w2 ⟨rfl, H⟩
    have H := big_put (e := (k, C)) H
    rw [← e] at H
    show st T86 _ (lastV (vs M.rows k)).1 _ _
    generalize lastV (vs M.rows k) = q
    refine vst_st (x := Z86) (y := q.1) len87 3 H rfl fun w3 H => ?_
    refine vld_st (x := q.1) 0 H rfl ?_
    exact ⟨rfl, sto_shut h (H.drop.ord [1, 2, 0])⟩
theorem full_spec {b : Nat} {M : Md} {k : Int} (hI : Inv M) (H : St W (sto b M :: l) w) : cl Tryz.prog 66 [.pointer (some ⟨b, 0, none⟩), .int .i64 k] tBool w fun r w' => r = decide (10000 ≤ (vs M.rows k).length) ∧ St W (sto b M :: l) w' := by
  refine F66_ok ?_
  unfold F66
  obtain ⟨t, h, hnd, H⟩ := sto_open H
  refine nc_st rfl ?_
  refine ld_st (x := some t.m) 0 H rfl rfl rfl ?_
  refine mget_st 1 H rfl rfl ?_
  rw [lookup_ptrs]
  cases hl : t.chs.lookup k with
  | none =>
    rw [if_neg (by simp)]
    unfold F66_j1
    exact ⟨by rw [h.none hl]; simp, sto_shut h H⟩
  | some C =>
    rw [if_pos (by simp)]
    obtain ⟨l1, l2, e⟩ := look_split hl
    have H := H.front 2
    rw [e] at H
    have H := big_get H
    have hlen : (vs M.rows k).length ≤ 10000 := hI.cap k
    refine cl_mono (chlist_spec (C := C) (by show (vs M.rows k).length ≤ _; omega) H) ?_
    intro r w2 H
    have hr := row_len H
    have H := big_put (e := (k, C)) H.drop
    rw [← e] at H
    unfold F66_j1
    refine ⟨?_, sto_shut h (H.ord [1, 2, 0])⟩
    have hr : r.len = (vs M.rows k).length := hr
    rw [hr]
    rw [Bool.eq_iff_iff, decide_eq_true_eq]
    simp
    try omega
theorem get_spec {b : Nat} {M : Md} {k t : Int} (hI : Inv M) (H : St W (sto b M :: l) w) : cl Tryz.prog 45 [.pointer (some ⟨b, 0, none⟩), .int .i64 k, .int .i64 t] (tTup2 T86 (tInt .i64)) w fun r w' => r = getM M k t ∧ St W (sto b M :: l) w' := by
  refine F45_ok ?_
  unfold F45
  refine nw_st H fun b4 w1 H => ?_
  refine cl_mono (is_spec H) ?_
  rintro r w2 ⟨rfl, H⟩
  unfold getM
  split
  · rename_i hc
    rw [if_pos (show k < 0 ∨ k > 8191 from by simp at hc; omega)]
    refine vst_st (x := Z86) (y := (⟨0, 0⟩ : S86)) len87 0 H rfl fun w3 H => ?_
    refine vld_st (x := (⟨0, 0⟩ : S86)) 0 H rfl ?_
    exact ⟨rfl, H.drop⟩
  · rename_i hc
    rw [if_neg (show ¬ (k < 0 ∨ k > 8191) from by simp at hc; omega)]
    refine cl_mono (time_spec (t := t) (H.front 1)) ?_
    rintro r w3 ⟨rfl, H⟩
    have H := H.front 1
    split
    · rename_i hc
      have hc : timeM M t ≠ 0 := by simpa using hc
      rw [if_pos hc]
      refine vst_st (x := Z86) (y := (⟨0, 0⟩ : S86)) len87 0 H rfl fun w3 H => ?_
      refine vld_st (x := (⟨0, 0⟩ : S86)) 0 H rfl ?_
      exact ⟨rfl, H.drop⟩
    · rename_i hc
      have hc : timeM M t = 0 := by simpa using hc
      rw [if_neg (by omega)]
      have ht : 0 ≤ t ∧ t ≤ 1125899906842624 ∧ M.mark ≤ t := by
        unfold timeM at hc
        split at hc
        · cases hc
        · split at hc
          · cases hc
          · split at hc
            · cases hc
            · omega
      obtain ⟨p, h, hnd, H⟩ := sto_open (H.front 1)
      refine nc_st rfl ?_
      refine ld_st (x := some p.m) 0 H rfl rfl rfl ?_
      refine mget_st 1 H rfl rfl ?_
      rw [lookup_ptrs]
      cases hl : p.chs.lookup k with
      | none =>
        rw [if_pos (by simp)]
        refine vst_st (x := Z86) (y := (⟨0, 0⟩ : S86)) len87 3 H rfl fun w2 H => ?_
        refine vld_st (x := (⟨0, 0⟩ : S86)) 0 H rfl ?_
        exact ⟨by rw [h.none hl]; rfl, sto_shut h H.drop⟩
      | some C =>
        rw [if_neg (by simp)]
        obtain ⟨l1, l2, e⟩ := look_split hl
        have hmk := h.marks _ (look_mem hl)
        have H := H.front 2
        rw [e] at H
        have H := big_get H
        have hlen : (vs M.rows k).length ≤ 10000 := hI.cap k
        refine cl_mono (chget_spec (C := C) (at_ := t) (by show (vs M.rows k).length ≤ _; omega) (vs_rise hI.rise k) ht.1 ht.2.1 (by have := hmk.2; simp only at this; omega) H) ?_
        rintro r w4 ⟨rfl, H⟩
        have H := big_put (e := (k, C)) H
        rw [← e] at H
        show nw 87 T86 Z86 w4 _
        refine nw_st H fun b5 w5 H => ?_
        dsimp only
        cases hct : cnt (vs M.rows k) t with
        | none =>
          dsimp only
          refine vst_st (x := Z86) (y := (⟨0, 0⟩ : S86)) len87 0 H rfl fun w6 H => ?_
          rw [if_pos (by simp)]
          refine vst_st (x := Z86) (y := (⟨0, 0⟩ : S86)) len87 4 H rfl fun w7 H => ?_
          refine vld_st (x := (⟨0, 0⟩ : S86)) 0 H rfl ?_
          exact ⟨rfl, sto_shut h (H.drop.drop.ord [1, 2, 0])⟩
        | some v =>
          dsimp only
          refine vst_st (x := Z86) (y := v) len87 0 H rfl fun w6 H => ?_
          rw [if_neg (by simp)]
          refine vld_st (x := v) 0 H rfl ?_
          refine vst_st (x := Z86) (y := v) len87 4 H rfl fun w7 H => ?_
          refine vld_st (x := v) 0 H rfl ?_
          exact ⟨rfl, sto_shut h (H.drop.drop.ord [1, 2, 0])⟩
end
end Go.Proofs.YtpdaapffkdejoaaGreat.Store
namespace Go.Proofs.YtpdaapffkdejoaaGreat.Store
open Go Go.Proofs.YtpdaapffkdejoaaGreat.Cf
set_option linter.unusedVariables false
set_option linter.unusedSimpArgs false
set_option maxRecDepth 100000
theorem why_ok {L : List Row} {t : Int} : ∀ {xs : List S62} {seen : List Int}, whyL L t seen xs = 0 → (∀ x ∈ xs, 0 ≤ x.Key ∧ x.Key ≤ 8191 ∧ (lastV (vs L x.Key)).1.T_ < t ∧ (vs L x.Key).length < 10000 ∧ x.Key ∉ seen) ∧ (xs.map (·.Key)).Nodup
  | [], seen, _ => ⟨fun x h => (by cases h), List.nodup_nil⟩
  | x :: xs, seen, h => by
    unfold whyL at h
    split at h
    · cases h
    · rename_i h1
      split at h
      · cases h
      · rename_i h2
        split at h
        · cases h
        · rename_i h3
          split at h
          · cases h
          rename_i h4
          obtain ⟨g1, g2⟩ := why_ok h
          refine ⟨fun y hy => ?_, List.nodup_cons.2 ⟨fun hm => ?_, g2⟩⟩
          · rcases List.mem_cons.1 hy with rfl | hy
            · exact ⟨by omega, by omega, by omega, by omega, h2⟩
            · have := g1 y hy
              exact ⟨this.1, this.2.1, this.2.2.1, this.2.2.2.1, fun hs => this.2.2.2.2 (List.mem_append_left _ hs)⟩
          · obtain ⟨y, hy, e⟩ := List.mem_map.1 hm
            have := (g1 y hy).2.2.2.2
            rw [e] at this
            exact this (List.mem_append_right _ (List.mem_singleton_self _))
theorem whyL_cons {L : List Row} {t : Int} {seen : List Int} {x : S62} {xs : List S62} : whyL L t seen (x :: xs) = if x.Key < 0 ∨ x.Key > 8191 then 123 else if x.Key ∈ seen then 124 else if (lastV (vs L x.Key)).1.T_ ≥ t then 121 else if 10000 ≤ (vs L x.Key).length then 125 else whyL L t (seen ++ [x.Key]) xs := rfl
theorem vs_news_no {t k : Int} {xs : List S62} (h : k ∉ xs.map (·.Key)) : vs (news t xs) k = [] := by
  by_cases e : vs (news t xs) k = []
  · exact e
  · obtain ⟨r, hr, hk⟩ := vs_ne.1 e
    obtain ⟨x, hx, rfl⟩ := List.mem_map.1 hr
    exact absurd (List.mem_map.2 ⟨x, hx, hk⟩) h
section
variable {W w : World} {l l' : List Assn}
theorem swhy_spec {b : Nat} {M : Md} {t : Int} {s : Slc} {xs : List S62} (hI : Inv M) (hx : xs.length ≤ 1000) (ht : 1 ≤ t) (k : See 2 l T62 s xs) (H : St W (sto b M :: l) w) :
    cl Tryz.prog 50 [.pointer (some ⟨b, 0, none⟩), .int .i64 t, tSlc.enc s] (tInt .i64) w fun r w' => r = (if xs.length > 100 then 122 else whyL M.rows t [] xs) ∧ St W (sto b M :: l) w' := by
  have hs := k.tail.len H
  refine F50_ok ?_
  unfold F50
  split
  · rename_i hc
    rw [if_pos (by simp at hc; omega)]
    exact ⟨rfl, H⟩
  · rename_i hc
    rw [if_neg (by simp at hc; omega)]
    refine nwMap_st H fun m w1 H => ?_
    have H := mapE_new T115 .i64 H
    refine lp_i (fun i w => 0 ≤ i ∧ i ≤ xs.length ∧ whyL M.rows t [] xs = whyL M.rows t ((xs.take i.toNat).map (·.Key)) (xs.drop i.toNat) ∧ ∃ es : List (Int × S115), (∀ k, (es.lookup k).isSome = decide (k ∈ (xs.take i.toNat).map (·.Key))) ∧ St W (mapE T115 .i64 m es :: sto b M :: l) w) (fun i => (xs.length - i).toNat)
      ⟨Int.le_refl 0, by omega, by simp, [], by simp, H⟩ ?_
    rintro i w ⟨h0, h1, h2, es, h3, H⟩
    unfold F50_l1
    rw [hs]
    split
    · rename_i hc
      have hc : i < xs.length := by simpa using hc
      have e1 : IntKind.i64.wrap (i + 1) = i + 1 := wrap_i64 (by omega) (by omega)
      have hxi : xs[i.toNat]? = some xs[i.toNat] := List.getElem?_eq_getElem (by omega)
      have hd : xs.drop i.toNat = xs[i.toNat] :: xs.drop (i.toNat + 1) := List.drop_eq_getElem_cons (by omega)
      have htk : xs.take (i.toNat + 1) = xs.take i.toNat ++ [xs[i.toNat]] := List.take_succ_eq_append_getElem (by omega)
      obtain ⟨a, ha⟩ := k.tail.tail.ix (i := i) H h0 hc
      refine ex_i a ha ?_
      refine ex_i xs[i.toNat] (k.tail.tail.rd ha hxi H) ?_
      generalize xs[i.toNat] = x at hd htk
      refine nw_st H fun b1 w2 H => ?_
      refine vst_st (x := Z62) (y := x) len63 0 H rfl fun w3 H => ?_
      refine ld_st (x := x.Key) 0 H rfl rfl rfl ?_
      refine mget_st 1 H rfl rfl ?_
      refine nw_st H fun b2 w4 H => ?_
      refine st_st (x := _) 0 H rfl rfl (Nat.le_of_ble_eq_true rfl) fun w5 H => ?_
      refine ld_st (x := x.Key) 1 H rfl rfl rfl ?_
      refine cl_mono (slast_spec (k := x.Key) hI (H.front 3)) ?_
      rintro r w6 ⟨rfl, H⟩
      refine nw_st H fun b3 w7 H => ?_
      generalize hq : lastV (vs M.rows x.Key) = q
      refine vst_st (x := Z86) (y := q.1) len87 0 H rfl fun w8 H => ?_
      refine ld_st (x := x.Key) 3 H rfl rfl rfl ?_
      refine cl_mono (is_spec H) ?_
      rintro r w9 ⟨rfl, H⟩
      rw [hd, whyL_cons, hq] at h2
      have hin := h3 x.Key
      generalize hsn : (xs.take i.toNat).map (·.Key) = seen at h2 hin h3
      split
      · rename_i hk
        rw [if_pos (show x.Key < 0 ∨ x.Key > 8191 from by simp at hk; omega)] at h2
        exact ⟨h2.symm, ((((H.drop.front 1).drop.front 1).drop.front 1).drop)⟩
      · rename_i hk
        rw [if_neg (show ¬ (x.Key < 0 ∨ x.Key > 8191) from by simp at hk; omega)] at h2
        split
        · rename_i hk2
          have hk2 : (es.lookup x.Key).isSome = true := hk2
          rw [hin] at hk2
          rw [if_pos (by simpa using hk2)] at h2
          exact ⟨h2.symm, ((((H.drop.front 1).drop.front 1).drop.front 1).drop)⟩
        · rename_i hk2
          have hk2 : ¬ (es.lookup x.Key).isSome = true := hk2
          rw [hin] at hk2
          rw [if_neg (by simpa using hk2)] at h2
          refine ld_st (x := q.1.T_) 0 H rfl rfl rfl ?_
          split
          · rename_i hk3
            rw [if_pos (by simpa using hk3)] at h2
            exact ⟨h2.symm, ((((H.drop.front 1).drop.front 1).drop.front 1).drop)⟩
          · rename_i hk3
            rw [if_neg (by simpa using hk3)] at h2
            refine ld_st (x := x.Key) 3 H rfl rfl rfl ?_
            refine cl_mono (full_spec (k := x.Key) hI (H.front 1)) ?_
            rintro r w10 ⟨rfl, H⟩
            by_cases hk4 : 10000 ≤ (vs M.rows x.Key).length
            · rw [decide_eq_true hk4, if_pos rfl]
              rw [if_pos hk4] at h2
              exact ⟨h2.symm, ((((H.front 1).drop.front 1).drop.front 1).drop.front 1).drop⟩
            rw [if_neg hk4] at h2
            rw [decide_eq_false hk4, if_neg (by simp)]
            refine ld_st (x := x.Key) 3 H rfl rfl rfl ?_
            refine mput_st 4 H rfl rfl fun w11 H => ?_
            rw [e1]
            refine ⟨⟨by omega, by omega, ?_, _, ?_, ((((H.front 2).drop.front 2).drop.front 2).drop)⟩, by omega⟩
            · rw [show (i + 1).toNat = i.toNat + 1 from by omega, htk, List.map_append, hsn]; exact h2
            · intro k
              rw [show (i + 1).toNat = i.toNat + 1 from by omega, htk, List.map_append, hsn, lookup_ups]
              by_cases hkx : k = x.Key
              · subst hkx; simp
              · rw [if_neg (by simpa using hkx), h3 k]; simp [hkx]
    · rename_i hc
      have hc : i = xs.length := by simp at hc; omega
      subst hc
      have e : xs.drop ((xs.length : Int)).toNat = [] := by simp
      rw [e] at h2
      exact ⟨h2.symm, H.drop⟩
end
end Go.Proofs.YtpdaapffkdejoaaGreat.Store
namespace Go.Proofs.YtpdaapffkdejoaaGreat.Store
open Go Go.Proofs.YtpdaapffkdejoaaGreat.Cf
set_option linter.unusedVariables false
set_option linter.unusedSimpArgs false
set_option maxRecDepth 100000
theorem news_take {t : Int} {xs : List S62} {i : Nat} (h : i < xs.length) : news t (xs.take (i + 1)) = news t (xs.take i) ++ [⟨t, xs[i]⟩] := by
  unfold news; rw [List.take_succ_eq_append_getElem h, List.map_append]; rfl
theorem vs_one (t k : Int) (x : S62) : vs [⟨t, x⟩] k = if x.Key = k then [⟨t, x.V⟩] else [] := by rw [vs_cons, vs_nil]
theorem vs_news_le {t k : Int} : ∀ {xs : List S62}, (xs.map (·.Key)).Nodup → (vs (news t xs) k).length ≤ 1
  | [], _ => by simp [news, vs_nil]
  | x :: xs, h => by
    have h' := List.nodup_cons.1 h
    have e : news t (x :: xs) = ⟨t, x⟩ :: news t xs := rfl
    rw [e, vs_cons]
    split
    · rename_i hk
      have hk : x.Key = k := hk
      subst hk
      rw [vs_news_no h'.1]
      simp
    · exact vs_news_le h'.2
theorem Inv.put {M : Md} (hI : Inv M) (t : Int) (xs : List S62) : Inv (putM M t xs) := by
  unfold putM
  split
  · rename_i he
    unfold putE at he
    split at he
    · cases he
    · split at he
      · cases he
      · split at he
        · cases he
        · obtain ⟨h1, h2⟩ := why_ok he
          refine ⟨fun k => ?_, fun r hr => ?_, fun r hr => ?_, ?_, hI.mark⟩
          · simp only
            rw [vs_app, List.length_append]
            by_cases hk : k ∈ xs.map (·.Key)
            · obtain ⟨x, hx, rfl⟩ := List.mem_map.1 hk
              have := (h1 x hx).2.2.2.1
              have := vs_news_le (t := t) (k := x.Key) h2
              omega
            · rw [vs_news_no hk]
              have := hI.cap k
              simpa using this
          · rcases List.mem_append.1 hr with hr | hr
            · exact hI.key r hr
            · obtain ⟨x, hx, rfl⟩ := List.mem_map.1 hr
              exact ⟨(h1 x hx).1, (h1 x hx).2.1⟩
          · rcases List.mem_append.1 hr with hr | hr
            · exact hI.time r hr
            · obtain ⟨x, hx, rfl⟩ := List.mem_map.1 hr
              simp only; omega
          · refine List.pairwise_append.2 ⟨hI.rise, ?_, ?_⟩
            · unfold news
              rw [List.pairwise_map]
              refine (List.pairwise_map.1 h2).imp fun hne he => absurd he hne
            · rintro r hr q hq hk
              obtain ⟨x, hx, rfl⟩ := List.mem_map.1 hq
              have hlt := (h1 x hx).2.2.1
              have hk : r.X.Key = x.Key := hk
              show r.T_ < t
              have hm : (⟨r.T_, r.X.V⟩ : S86) ∈ vs M.rows x.Key := List.mem_map.2 ⟨r, List.mem_filter.2 ⟨hr, by simpa using hk⟩, rfl⟩
              have hrise := vs_rise hI.rise x.Key
              unfold lastV at hlt
              generalize vs M.rows x.Key = L at *
              rcases List.eq_nil_or_concat L with rfl | ⟨L', y, rfl⟩
              · cases hm
              · rw [List.concat_eq_append] at *
                rw [List.getLast?_append] at hlt
                simp only [List.getLast?_singleton, Option.some_or, Option.getD_some] at hlt
                rcases List.mem_append.1 hm with h | h
                · have := (List.pairwise_append.1 hrise).2.2 _ h y (List.mem_singleton_self _)
                  simp only at this; omega
                · cases List.mem_singleton.1 h
                  simpa using hlt
  · exact hI
theorem Inv.close {M : Md} (hI : Inv M) (t : Int) : Inv (closeM M t) := by
  unfold closeM
  split
  · rename_i h
    unfold closeE at h
    have := hI.mark
    refine ⟨hI.cap, hI.key, hI.time, hI.rise, ?_⟩
    split at h
    · cases h
    · simp only; omega
  · exact hI
theorem Inv.prune {M : Md} (hI : Inv M) (t : Int) : Inv (pruneM M t) := by
  unfold pruneM
  split
  · rename_i h
    unfold pruneE at h
    have := hI.mark
    have hs := keep_sub (max M.mark t) M.rows
    refine ⟨fun k => Nat.le_trans (by unfold vs; rw [List.length_map, List.length_map]; exact (hs.filter _).length_le) (hI.cap k), fun r hr => hI.key r (hs.subset hr), fun r hr => hI.time r (hs.subset hr), hI.rise.sublist hs, ?_⟩
    split at h
    · cases h
    · split at h
      · cases h
      · simp only; omega
  · exact hI
section
variable {W w : World} {l l' : List Assn}
theorem put_spec {b : Nat} {M : Md} {t : Int} {s : Slc} {xs : List S62} (hI : Inv M) (hx : xs.length ≤ 1000) (k : See 2 l T62 s xs) (H : St W (sto b M :: l) w) :
    cl Tryz.prog 30 [.pointer (some ⟨b, 0, none⟩), .int .i64 t, tSlc.enc s] (tInt .i64) w fun r w' => r = putE M t xs ∧ St W (sto b (putM M t xs) :: l) w' := by
  refine F30_ok ?_
  unfold F30
  have hs := k.tail.len H
  split
  · rename_i hc
    have e : putE M t xs = 120 := by unfold putE; rw [if_pos (by simp at hc; omega)]
    unfold putM
    rw [e, if_neg (by omega)]
    exact ⟨rfl, H⟩
  · rename_i hc
    have hc : ¬ (t < 1 ∨ t > 1125899906842624) := by simp at hc; omega
    obtain ⟨p, h, hnd, H⟩ := sto_open H
    refine nc_st rfl ?_
    refine ld_st (x := M.closed) 0 H rfl rfl rfl ?_
    have H := sto_shut h H
    split
    · rename_i hc2
      have e : putE M t xs = 121 := by unfold putE; rw [if_neg hc, if_pos (by simpa using hc2)]
      unfold putM
      rw [e, if_neg (by omega)]
      exact ⟨rfl, H⟩
    · rename_i hc2
      have hc2 : ¬ t ≤ M.closed := by simpa using hc2
      refine cl_mono (swhy_spec (t := t) hI hx (by omega) k H) ?_
      rintro r w1 ⟨rfl, H⟩
      have e : putE M t xs = if xs.length > 100 then 122 else whyL M.rows t [] xs := by unfold putE; rw [if_neg hc, if_neg hc2]
      rw [← e]
      unfold putM
      split
      · rename_i hne
        have hne : putE M t xs ≠ 0 := by simpa using hne
        rw [if_neg hne]
        exact ⟨rfl, H⟩
      · rename_i hne
        have hne : putE M t xs = 0 := by simpa using hne
        rw [if_pos hne, hne]
        have hl : xs.length ≤ 100 := by
          rw [e] at hne
          split at hne
          · cases hne
          · omega
        rw [e, if_neg (by omega)] at hne
        obtain ⟨g1, g2⟩ := why_ok hne
        refine lp_i (fun i w => 0 ≤ i ∧ i ≤ xs.length ∧ St W (sto b { M with rows := M.rows ++ news t (xs.take i.toNat) } :: l) w) (fun i => (xs.length - i).toNat) ⟨Int.le_refl 0, by omega, by simpa [news] using H⟩ ?_
        rintro i w ⟨h0, h1, H⟩
        unfold F30_l1
        rw [hs]
        split
        · rename_i hc3
          have hc3 : i < xs.length := by simpa using hc3
          have e1 : IntKind.i64.wrap (i + 1) = i + 1 := wrap_i64 (by omega) (by omega)
          have hxi : xs[i.toNat]? = some xs[i.toNat] := List.getElem?_eq_getElem (by omega)
          have htk := news_take (t := t) (xs := xs) (i := i.toNat) (by omega)
          have hkey := g1 xs[i.toNat] (List.getElem_mem _)
          have hnot : (xs[i.toNat]).Key ∉ (xs.take i.toNat).map (·.Key) := by
            intro hm
            rw [List.map_take] at hm
            obtain ⟨j, hj, hje⟩ := List.mem_take_iff_getElem.1 hm
            have := (List.pairwise_iff_getElem.1 g2) j i.toNat (by simp at hj ⊢; omega) (by simp; omega) (by omega)
            rw [hje] at this
            simp at this
          obtain ⟨a, ha⟩ := k.tail.ix (i := i) H h0 hc3
          refine ex_i a ha ?_
          refine ex_i xs[i.toNat] (k.tail.rd ha hxi H) ?_
          generalize xs[i.toNat] = x at htk hkey hnot
          refine nw_st H fun b1 w2 H => ?_
          refine vst_st (x := Z62) (y := x) len63 0 H rfl fun w3 H => ?_
          refine dr_st H fun w4 H => ?_
          have hvs : vs (M.rows ++ news t (xs.take i.toNat)) x.Key = vs M.rows x.Key := by rw [vs_app, vs_news_no hnot, List.append_nil]
          generalize hrows : M.rows ++ news t (xs.take i.toNat) = rows at H hvs
          have hrows' : M.rows ++ news t (xs.take (i + 1).toNat) = rows ++ [⟨t, x⟩] := by rw [show (i + 1).toNat = i.toNat + 1 from by omega, htk, ← hrows, List.append_assoc]
          have hlen : (vs rows x.Key).length < 10000 := by rw [hvs]; exact hkey.2.2.2.1
          have hlast : (lastV (vs rows x.Key)).1.T_ < t := by rw [hvs]; exact hkey.2.2.1
          have hself : vs (rows ++ [⟨t, x⟩]) x.Key = vs rows x.Key ++ [⟨t, x.V⟩] := by rw [vs_app, vs_one, if_pos rfl]
          have hother : ∀ q, q ≠ x.Key → vs rows q = vs (rows ++ [⟨t, x⟩]) q := fun q hq => by rw [vs_app, vs_one, if_neg (fun h => hq h.symm), List.append_nil]
          have hmk := hI.mark
          obtain ⟨p, h, hnd, H⟩ := sto_open (H.front 1)
          have hend : ∀ (C : ChP) (l1 l2 : List (Int × ChP)) (pm : Nat) (w : World), Rel ⟨pm, l1 ++ (x.Key, C) :: l2⟩ { M with rows := rows ++ [⟨t, x⟩] } → ((l1 ++ (x.Key, C) :: l2).map (·.1)).Nodup → 0 ≤ C.mark ∧ C.mark ≤ M.mark →
              St W (chainA C (vs rows x.Key) :: bigF (vs rows) (l1 ++ l2) :: mapE tPtr .i64 pm (ptrs (l1 ++ (x.Key, C) :: l2)) :: cel b (T94.cells ⟨some pm, M.closed, M.mark⟩) 95 :: cel b1 (T62.cells x) 63 :: l) w →
              F30_j2 t i ⟨b1, 0, none⟩ (some ⟨C.b, 0, none⟩) w (fun s' w' => (0 ≤ s' ∧ s' ≤ xs.length ∧ St W (sto b { M with rows := M.rows ++ news t (xs.take s'.toNat) } :: l) w') ∧ (xs.length - s').toNat < (xs.length - i).toNat) fun r w' => r = 0 ∧ St W (sto b { M with rows := M.rows ++ news t xs } :: l) w' := by
            intro C l1 l2 pm w hR hnd hm H
            unfold F30_j2
            refine ld_st (x := x.V) 4 H rfl rfl rfl ?_
            refine cl_mono (chput_spec (t := t) (v := x.V) (by omega) (by omega) (by omega) (by omega) hlast H) ?_
            rintro r w5 ⟨s2, H⟩
            rw [e1]
            have H := big_set (g' := vs (rows ++ [⟨t, x⟩])) (k := x.Key) hself (fun e he => hother e.1 (others hnd e he)) H
            refine ⟨⟨by omega, by omega, ?_⟩, by omega⟩
            rw [hrows']
            have hp : ptrs (l1 ++ (x.Key, (⟨C.b, s2, C.mark⟩ : ChP)) :: l2) = ptrs (l1 ++ (x.Key, C) :: l2) := by unfold ptrs; simp
            rw [← hp] at H
            refine sto_shut (t := ⟨pm, l1 ++ (x.Key, ⟨C.b, s2, C.mark⟩) :: l2⟩) (M := { M with rows := rows ++ [⟨t, x⟩] }) ⟨fun q => ?_, fun e he => ?_⟩ (((H.front 3).drop).ord [2, 1, 0])
            · have := hR.keys q
              simpa using this
            · rcases List.mem_append.1 he with he | he
              · exact hR.marks e (List.mem_append_left _ he)
              · rcases List.mem_cons.1 he with rfl | he
                · exact hm
                · exact hR.marks e (List.mem_append_right _ (List.mem_cons_of_mem _ he))
          refine ld_st (x := some p.m) 0 H rfl rfl rfl ?_
          refine ld_st (x := x.Key) 3 H rfl rfl rfl ?_
          refine mget_st 1 H rfl rfl ?_
          rw [lookup_ptrs]
          cases hlk : p.chs.lookup x.Key with
          | none =>
            rw [if_pos (by simp)]
            refine cl_mono (chnew_spec H) ?_
            rintro r w5 ⟨cb, rfl, H⟩
            refine dr_st H fun w6 H => ?_
            refine ld_st (x := some p.m) 1 H rfl rfl rfl ?_
            refine ld_st (x := x.Key) 4 H rfl rfl rfl ?_
            refine mput_st 2 H rfl rfl fun w7 H => ?_
            have hlk2 : (ptrs p.chs).lookup x.Key = none := by rw [lookup_ptrs, hlk]; rfl
            have hp : ups x.Key (some ⟨cb, 0, none⟩) (ptrs p.chs) = ptrs (p.chs ++ (x.Key, (⟨cb, nilS, 0⟩ : ChP)) :: []) := by rw [ups_none hlk2]; unfold ptrs; simp
            rw [hp] at H
            have h0v : vs rows x.Key = [] := h.none hlk
            have hnin : x.Key ∉ p.chs.map (·.1) := lookup_none.1 hlk
            refine hend ⟨cb, nilS, 0⟩ p.chs [] p.m w7 ⟨fun q => ?_, fun e he => ?_⟩ ?_ ⟨Int.le_refl 0, hmk.1⟩ ?_
            · by_cases hq : q = x.Key
              · subst hq
                simp only [hself]; simp
              · rw [← hother q hq, h.keys q]; simp [hq]
            · rcases List.mem_append.1 he with he | he
              · exact h.marks e he
              · cases List.mem_singleton.1 he
                exact ⟨Int.le_refl 0, hmk.1⟩
            · rw [List.map_append]
              refine List.nodup_append.2 ⟨hnd, by simp, ?_⟩
              intro a ha c hc
              simp at hc; subst hc
              intro e; subst e; exact hnin ha
            · rw [h0v, List.append_nil]
              exact H.ord [1, 3, 0, 2, 4]
          | some C =>
            rw [if_neg (by simp)]
            obtain ⟨l1, l2, e⟩ := look_split hlk
            rw [e] at H hnd
            have hm := h.marks _ (look_mem hlk)
            refine hend C l1 l2 p.m w4 ⟨fun q => ?_, fun e' he => ?_⟩ hnd hm ((big_get (H.front 2)).ord [0, 1, 3, 2, 4])
            · have := h.keys q
              rw [e] at this
              by_cases hq : q = x.Key
              · subst hq
                simp only [hself]; simp
              · rw [← hother q hq]; exact this
            · exact h.marks _ (by rw [e]; assumption)
        · rename_i hc3
          have hc3 : i = xs.length := by simp at hc3; omega
          subst hc3
          have e2 : xs.take ((xs.length : Int)).toNat = xs := by simp
          rw [e2] at H
          exact ⟨rfl, H⟩
end
end Go.Proofs.YtpdaapffkdejoaaGreat.Store
namespace Go.Proofs.YtpdaapffkdejoaaGreat.Store
open Go Go.Proofs.YtpdaapffkdejoaaGreat.Cf
set_option linter.unusedVariables false
set_option linter.unusedSimpArgs false
set_option maxRecDepth 100000
def sortI (L : List Int) : List Int := L.mergeSort fun x y => decide (x ≤ y)
theorem sortI_pw (L : List Int) : (sortI L).Pairwise fun x y => x ≤ y := by
  have h1 : (sortI L).Pairwise fun x y => decide (x ≤ y) = true :=
    List.pairwise_mergeSort (fun a b c h1 h2 => by simp at h1 h2 ⊢; omega) (fun a b => by simp; omega) L
  exact h1.imp fun h => by simpa using h
theorem sortI_p (L : List Int) : (sortI L).Perm L := List.mergeSort_perm L _
theorem sortI_perm {L M : List Int} (h : L.Perm M) : sortI L = sortI M :=
  List.Perm.eq_of_pairwise (fun a b _ _ h1 h2 => by omega) (sortI_pw L) (sortI_pw M) ((sortI_p L).trans (h.trans (sortI_p M).symm))
theorem sortI_lt {L : List Int} (h : L.Nodup) : (sortI L).Pairwise fun x y => x < y :=
  ((sortI_pw L).and ((sortI_p L).nodup_iff.2 h)).imp fun {a b} h => by
    have h1 := h.1
    have h2 : a ≠ b := h.2
    omega
theorem Rel.sorted {t : StP} {M : Md} (h : Rel t M) (hn : (t.chs.map (·.1)).Nodup) : Keys M.rows (sortI (t.chs.map (·.1))) :=
  ⟨sortI_lt hn, fun k => by rw [(sortI_p _).mem_iff, h.keys]⟩
theorem keys_ex : ∀ L : List Row, ∃ ks, Keys L ks
  | [] => ⟨[], List.Pairwise.nil, fun k => by simp [vs_nil]⟩
  | r :: L => by
    obtain ⟨ks, h⟩ := keys_ex L
    by_cases hk : r.X.Key ∈ ks
    · refine ⟨ks, h.rise, fun k => ?_⟩
      rw [vs_cons]
      split
      · rename_i e; subst e; simp [hk]
      · exact h.all k
    · refine ⟨sortI (r.X.Key :: ks), sortI_lt (List.nodup_cons.2 ⟨hk, h.rise.imp fun h => Int.ne_of_lt h⟩), fun k => ?_⟩
      rw [(sortI_p _).mem_iff, vs_cons, List.mem_cons, h.all]
      split
      · rename_i e; subst e; simp
      · rename_i e
        constructor
        · rintro (rfl | h)
          · exact absurd rfl e
          · exact h
        · exact fun h => .inr h
noncomputable def keysOf (L : List Row) : List Int := Classical.choose (keys_ex L)
theorem keysOf_ok (L : List Row) : Keys L (keysOf L) := Classical.choose_spec (keys_ex L)
theorem keysOf_eq {L : List Row} {ks : List Int} (h : Keys L ks) : keysOf L = ks := (keysOf_ok L).uniq h fun _ => Iff.rfl
noncomputable def snapL (M : Md) (t : Int) : List S62 := if timeM M t = 0 then snapK M.rows t (keysOf M.rows) else []
theorem snap_take {L : List Row} {t : Int} {q : List Int} {i : Nat} (h : i < q.length) : snapK L t (q.take (i + 1)) = snapK L t (q.take i) ++ match cnt (vs L q[i]) t with | none => [] | some v => [⟨q[i], v.V⟩] := by
  unfold snapK
  rw [List.take_succ_eq_append_getElem h, List.filterMap_append]
  congr 1
  rw [List.filterMap_cons]
  cases cnt (vs L q[i]) t <;> rfl
theorem timeM_ok {M : Md} {t : Int} (h : timeM M t = 0) : 0 ≤ t ∧ t ≤ 1125899906842624 ∧ t ≤ M.closed ∧ M.mark ≤ t := by
  unfold timeM at h
  split at h
  · cases h
  · split at h
    · cases h
    · split at h
      · cases h
      · omega
theorem fst_ptrs (chs : List (Int × ChP)) : (ptrs chs).map (·.1) = chs.map (·.1) := by unfold ptrs; rw [List.map_map]; rfl
theorem rise_len : ∀ {L : List Int} {lo hi : Int}, L.Pairwise (fun x y => x < y) → (∀ x ∈ L, lo ≤ x ∧ x ≤ hi) → (L.length : Int) ≤ max 0 (hi - lo + 1)
  | [], _, _, _, _ => by simp only [List.length_nil]; omega
  | x :: L, lo, hi, h, hb => by
    have h' := List.pairwise_cons.1 h
    have h1 := hb x (List.mem_cons_self ..)
    have := rise_len (L := L) (lo := x + 1) (hi := hi) h'.2 fun y hy => ⟨by have := h'.1 y hy; omega, (hb y (List.mem_cons_of_mem _ hy)).2⟩
    simp only [List.length_cons]; omega
theorem keys_len {t : StP} {M : Md} (hI : Inv M) (h : Rel t M) (hn : (t.chs.map (·.1)).Nodup) : t.chs.length ≤ 8192 := by
  have h1 := rise_len (L := sortI (t.chs.map (·.1))) (lo := 0) (hi := 8191) (sortI_lt hn) fun x hx => by
    have hx : x ∈ t.chs.map (·.1) := (sortI_p _).mem_iff.1 hx
    obtain ⟨r, hr, hk⟩ := vs_ne.1 ((h.keys x).2 hx)
    have := hI.key r hr
    omega
  rw [(sortI_p _).length_eq, List.length_map] at h1
  omega
section
variable {W w : World} {l l' : List Assn}
theorem snap_spec {b : Nat} {M : Md} {t : Int} (hI : Inv M) (H : St W (sto b M :: l) w) : cl Tryz.prog 27 [.pointer (some ⟨b, 0, none⟩), .int .i64 t] (tTup2 tSlc (tInt .i64)) w fun r w' => r.2 = timeM M t ∧ St W (row T62 63 2 r.1 (snapL M t) :: sto b M :: l) w' := by
  refine F27_ok ?_
  unfold F27
  refine cl_mono (time_spec (t := t) H) ?_
  rintro r w1 ⟨rfl, H⟩
  unfold snapL
  split
  · rename_i hc
    have hc : timeM M t ≠ 0 := by simpa using hc
    rw [if_neg hc]
    exact ⟨rfl, row_nil T62 63 2 H⟩
  · rename_i hc
    have hc : timeM M t = 0 := by simpa using hc
    rw [if_pos hc]
    obtain ⟨ht0, ht1, ht2, ht3⟩ := timeM_ok hc
    obtain ⟨p, h, hnd, H⟩ := sto_open H
    have hks := h.sorted hnd
    have hcl := keys_len hI h hnd
    rw [keysOf_eq hks]
    refine nc_st rfl ?_
    refine ld_st (x := some p.m) 0 H rfl rfl rfl ?_
    refine F48_ok ?_
    unfold F48
    refine nw_st H fun bm w2 H => ?_
    have hrange : ∀ e ∈ ptrs p.chs, -9223372036854775808 ≤ e.1 ∧ e.1 ≤ 9223372036854775807 := by
      intro e he
      have : e.1 ∈ p.chs.map (·.1) := by rw [← fst_ptrs]; exact List.mem_map.2 ⟨e, he, rfl⟩
      obtain ⟨r, hr, hk⟩ := vs_ne.1 ((h.keys _).2 this)
      have := hI.key r hr
      omega
    refine cl_mono (sorted_keys hrange (by unfold ptrs; rw [List.length_map]; omega) (H.ord [0, 2])) ?_
    rintro s w3 ⟨ks, hp, H⟩
    have hq : (ks.mergeSort fun x y => decide (x ≤ y)) = sortI (p.chs.map (·.1)) := by rw [fst_ptrs] at hp; exact sortI_perm hp
    rw [hq] at H
    have hs := row_len H
    have hql : (sortI (p.chs.map (·.1))).length ≤ 9000 := by rw [(sortI_p _).length_eq, List.length_map]; omega
    generalize sortI (p.chs.map (·.1)) = q at *
    have H := row_nil T62 63 2 H
    refine lp_i (fun x w => 0 ≤ x.2 ∧ x.2 ≤ q.length ∧ St W (row T62 63 2 x.1 (snapK M.rows t (q.take x.2.toNat)) :: row (tInt .i64) 3 1 s q :: cel bm [.map (some p.m)] 93 :: mapE tPtr .i64 p.m (ptrs p.chs) :: cel b (T94.cells ⟨some p.m, M.closed, M.mark⟩) 95 :: bigF (vs M.rows) p.chs :: l) w) (fun x => (q.length - x.2).toNat)
      ⟨Int.le_refl 0, by simp only; omega, H⟩ ?_
    rintro ⟨out, i⟩ w ⟨h0, h1, H⟩
    simp only at h0 h1
    simp only
    unfold F27_l1
    rw [hs]
    split
    · rename_i hc2
      have hc2 : i < q.length := by simpa using hc2
      have e1 : IntKind.i64.wrap (i + 1) = i + 1 := wrap_i64 (by omega) (by omega)
      have hx : q[i.toNat]? = some q[i.toNat] := List.getElem?_eq_getElem (by omega)
      have hst := snap_take (L := M.rows) (t := t) (q := q) (i := i.toNat) (by omega)
      have hin : q[i.toNat] ∈ p.chs.map (·.1) := (h.keys _).1 ((hks.all _).1 (List.getElem_mem _))
      have hol : (snapK M.rows t (q.take i.toNat)).length ≤ 9000 := by
        unfold snapK
        refine Nat.le_trans (List.length_filterMap_le _ _) ?_
        rw [List.length_take]; omega
      obtain ⟨a, ha⟩ := row_ix (sz := 1) (i := i) (H.front 1) h0 hc2
      refine ex_i a ha ?_
      refine ex_i q[i.toNat] (rd_row (fun _ => rfl) ha hx (H.front 1)) ?_
      generalize q[i.toNat] = k at *
      refine ld_st (x := some p.m) 4 H rfl rfl rfl ?_
      refine mget_st 3 H rfl rfl ?_
      rw [lookup_ptrs]
      obtain ⟨e, he, hek⟩ := List.mem_map.1 hin
      obtain ⟨k', C⟩ := e
      simp only at hek
      subst hek
      have hlk := mem_look hnd he
      rw [hlk]
      obtain ⟨l1, l2, hsp⟩ := look_split hlk
      have hmk := (h.marks _ he).2
      have H := H.front 5
      rw [hsp] at H
      have H := big_get H
      have hlen : (vs M.rows k').length ≤ 10000 := hI.cap k'
      refine cl_mono (chget_spec (C := C) (at_ := t) (by show (vs M.rows k').length ≤ _; omega) (vs_rise hI.rise k') ht0 ht1 (by simp only at hmk; omega) H) ?_
      rintro r w4 ⟨rfl, H⟩
      have H := big_put (e := (k', C)) H
      rw [← hsp] at H
      refine nw_st H fun b5 w5 H => ?_
      cases hct : cnt (vs M.rows k') t with
      | none =>
        rw [hct] at hst
        dsimp only
        refine vst_st (x := Z86) (y := (⟨0, 0⟩ : S86)) len87 0 H rfl fun w6 H => ?_
        rw [if_neg (by simp)]
        unfold F27_j2
        rw [e1]
        refine ⟨⟨by simp only; omega, by simp only; omega, ?_⟩, by simp only; omega⟩
        simp only
        rw [show (i + 1).toNat = i.toNat + 1 from by omega, hst, List.append_nil]
        exact H.drop.ord [1, 2, 3, 4, 5, 0]
      | some v =>
        rw [hct] at hst
        dsimp only
        refine vst_st (x := Z86) (y := v) len87 0 H rfl fun w6 H => ?_
        rw [if_pos (by simp)]
        refine ld_st (x := v.V) 0 H rfl rfl rfl ?_
        refine apl_row (fun _ => rfl) 2 H rfl (by simp only [List.length_singleton]; omega) fun s2 w7 H => ?_
        unfold F27_j2
        rw [e1]
        refine ⟨⟨by simp only; omega, by simp only; omega, ?_⟩, by simp only; omega⟩
        simp only
        rw [show (i + 1).toNat = i.toNat + 1 from by omega, hst]
        exact ((H.front 1).drop).ord [0, 2, 3, 4, 5, 1]
    · rename_i hc2
      have hc2 : i = q.length := by simp at hc2; omega
      subst hc2
      have e : q.take ((q.length : Int)).toNat = q := by simp
      rw [e] at H
      refine ⟨hc.symm, ?_⟩
      exact ((sto_shut h (((H.front 1).drop.front 1).drop.ord [2, 1, 3])).front 1)
theorem flt_lt {β : Type} {p : Int × β} {left : List (Int × β)} (hp : p ∈ left) : (left.filter fun q => q.1 != p.1).length < left.length := by
  induction left with
  | nil => cases hp
  | cons x left ih =>
    rw [List.filter_cons]
    by_cases c : (x.1 != p.1) = true
    · rw [if_pos c]
      rcases List.mem_cons.1 hp with e | hp
      · rw [e] at c; simp at c
      · have := ih hp
        simp only [List.length_cons]; omega
    · rw [if_neg c]
      have := List.length_filter_le (fun q : Int × β => q.1 != p.1) left
      simp only [List.length_cons]; omega
def cut (mark : Int) (rows : List Row) (left : List (Int × Option Addr)) (k : Int) : List S86 := if left.any (fun q => q.1 == k) = true then vs rows k else keepV mark (vs rows k)
theorem prune_spec {b : Nat} {M : Md} {t : Int} (hI : Inv M) (H : St W (sto b M :: l) w) : cl Tryz.prog 46 [.pointer (some ⟨b, 0, none⟩), .int .i64 t] (tInt .i64) w fun r w' => r = pruneE M t ∧ St W (sto b (pruneM M t) :: l) w' := by
  refine F46_ok ?_
  unfold F46
  refine cl_mono (in_spec H) ?_
  rintro r w1 ⟨rfl, H⟩
  unfold pruneM
  split
  · rename_i hc
    have e : pruneE M t = 120 := by unfold pruneE; rw [if_pos (by simp at hc; omega)]
    rw [e, if_neg (by omega)]
    exact ⟨rfl, H⟩
  · rename_i hc
    have hc : ¬ (t < 0 ∨ t > 1125899906842624) := by simp at hc; omega
    obtain ⟨p, h, hnd, H⟩ := sto_open H
    refine nc_st rfl ?_
    refine ld_st (x := M.closed) 0 H rfl rfl rfl ?_
    split
    · rename_i hc2
      have e : pruneE M t = 128 := by unfold pruneE; rw [if_neg hc, if_pos (by simpa using hc2)]
      rw [e, if_neg (by omega)]
      exact ⟨rfl, sto_shut h H⟩
    · rename_i hc2
      have hc2 : ¬ t > M.closed := by simpa using hc2
      have e : pruneE M t = 0 := by unfold pruneE; rw [if_neg hc, if_neg hc2]
      rw [e, if_pos rfl]
      have hmk := hI.mark
      refine ld_st (x := M.mark) 0 H rfl rfl rfl ?_
      refine st_st (x := max M.mark t) 0 H rfl rfl (Nat.le_of_ble_eq_true rfl) fun w2 H => ?_
      have H : St W (cel b (T94.cells ⟨some p.m, M.closed, max M.mark t⟩) 95 :: mapE tPtr .i64 p.m (ptrs p.chs) :: bigF (vs M.rows) p.chs :: l) w2 := H
      generalize hmm : max M.mark t = mm at *
      have hm0 : M.mark ≤ mm ∧ 0 ≤ mm ∧ mm ≤ 1125899906842624 := by omega
      refine ld_st (x := some p.m) 0 H rfl rfl rfl ?_
      refine rng_st 1 H rfl rfl fun it w3 H => ?_
      have hstart : bigF (vs M.rows) p.chs = bigF (cut mm M.rows (ptrs p.chs)) p.chs := big_congr fun e he => by
        unfold cut
        have : (ptrs p.chs).any (fun q => q.1 == e.1) = true := List.any_eq_true.2 ⟨(e.1, some (⟨e.2.b, 0, none⟩ : Addr)), List.mem_map.2 ⟨e, he, rfl⟩, by simp⟩
        rw [if_pos this]
      rw [hstart] at H
      refine lp_n (fun n _ w => ∃ left cur chs, n = left.length ∧ (∀ q ∈ left, q ∈ ptrs p.chs) ∧ ptrs chs = ptrs p.chs ∧ (∀ e ∈ chs, 0 ≤ e.2.mark ∧ e.2.mark ≤ mm) ∧ St W (ranging tPtr .i64 p.m it (ptrs p.chs) left cur :: cel b (T94.cells ⟨some p.m, M.closed, mm⟩) 95 :: bigF (cut mm M.rows left) chs :: l) w) _ ⟨ptrs p.chs, none, p.chs, rfl, fun _ h => h, rfl, fun e he => by have := h.marks e he; omega, H⟩ ?_
      clear H
      rintro c _ w ⟨left, cur, chs, rfl, h1, h2, h3, H⟩ K hK
      have hkeys : chs.map (·.1) = p.chs.map (·.1) := by rw [← fst_ptrs, ← fst_ptrs, h2]
      unfold F46_l1
      refine nxt_st 0 H rfl rfl (fun he H => ?_) fun q hq w4 H => ?_
      · rw [if_neg (by simp)]
        subst he
        have hend : bigF (cut mm M.rows []) chs = bigF (vs (keep mm M.rows)) chs := big_congr fun e _ => by
          unfold cut; rw [if_neg (by simp), vs_keep]
        rw [hend] at H
        have H := ranging_done H
        rw [← h2] at H
        refine ⟨rfl, sto_shut (t := ⟨p.m, chs⟩) (M := ⟨keep mm M.rows, M.closed, mm⟩) ⟨fun k => ?_, h3⟩ (H.ord [1, 0])⟩
        rw [hkeys, ← h.keys k, vs_keep, ne_eq, ne_eq, keepV_nil (vs_rise hI.rise k)]
      · rw [if_pos (by simp)]
        refine ent_st 0 H rfl rfl ?_
        refine ld_st (x := mm) 1 H rfl rfl rfl ?_
        have hq2 := h1 q hq
        rw [← h2] at hq2
        obtain ⟨e, he, rfl⟩ := List.mem_map.1 hq2
        obtain ⟨k, C⟩ := e
        obtain ⟨l1, l2, hsp⟩ := List.append_of_mem he
        have hnd2 : ((l1 ++ (k, C) :: l2).map (·.1)).Nodup := by rw [← hsp, hkeys]; exact hnd
        have hoth := others hnd2
        have H := H.front 2
        rw [hsp] at H
        have H := big_get H
        have hcut : cut mm M.rows left k = vs M.rows k := by
          unfold cut; rw [if_pos (List.any_eq_true.2 ⟨_, hq, by simp⟩)]
        have H : St W (chainA C (vs M.rows k) :: bigF (cut mm M.rows left) (l1 ++ l2) :: ranging tPtr .i64 p.m it (ptrs p.chs) (left.filter fun q => q.1 != k) (some (k, some ⟨C.b, 0, none⟩)) :: cel b (T94.cells ⟨some p.m, M.closed, mm⟩) 95 :: l) w4 := by rw [← hcut]; exact H
        have hlen : (vs M.rows k).length ≤ 10000 := hI.cap k
        refine cl_mono (chprune_spec (C := C) (mark := mm) (by omega) (vs_rise hI.rise k) hm0.2.1 hm0.2.2 (h3 _ he).2 H) ?_
        rintro r w5 ⟨s, H⟩
        have H := big_set (g' := cut mm M.rows (left.filter fun q => q.1 != k)) (k := k) (by
          unfold cut
          rw [if_neg]
          rw [List.any_filter, List.any_eq_true]
          rintro ⟨q, _, h⟩
          simp at h) (fun e' he' => by
          have hne := hoth e' he'
          unfold cut
          have : (left.filter fun q => q.1 != k).any (fun q => q.1 == e'.1) = left.any (fun q => q.1 == e'.1) := by
            rw [List.any_filter]
            congr 1
            funext q
            by_cases c : q.1 = e'.1
            · simp [c, hne]
            · simp [c]
          rw [this]) H
        refine hK _ _ _ (flt_lt hq) ⟨_, _, l1 ++ (k, ⟨C.b, s, mm⟩) :: l2, rfl, fun q hq => h1 q (List.mem_filter.1 hq).1, ?_, fun e' he' => ?_, H.ord [1, 2, 0]⟩
        · rw [← h2, hsp]; unfold ptrs; simp
        · rcases List.mem_append.1 he' with he' | he'
          · exact h3 e' (by rw [hsp]; exact List.mem_append_left _ he')
          · rcases List.mem_cons.1 he' with rfl | he'
            · exact ⟨hm0.2.1, Int.le_refl _⟩
            · exact h3 e' (by rw [hsp]; exact List.mem_append_right _ (List.mem_cons_of_mem _ he'))
end
end Go.Proofs.YtpdaapffkdejoaaGreat.Store
namespace Go.Proofs.YtpdaapffkdejoaaGreat.Vault
open Go Go.Proofs.YtpdaapffkdejoaaGreat.Cf Go.Proofs.YtpdaapffkdejoaaGreat.Store Go.Proofs.YtpdaapffkdejoaaGreat.Num
set_option linter.unusedVariables false
set_option linter.unusedSimpArgs false
set_option maxRecDepth 100000
abbrev Part := S52
abbrev Held := S54
abbrev Ft := S69
abbrev Ent := S62
structure Va where
  rate : Nat
  S : Md
  top : Int
  held : List (Int × Held)
  busy : List (Int × Int)
  fates : List (Int × Ft)
def isA (a : Int) : Prop := 0 ≤ a ∧ a < 4096
instance (a : Int) : Decidable (isA a) := by unfold isA; infer_instance
instance (a : Int) : Decidable (okAm a) := by unfold okAm; infer_instance
def nextE (v : Va) (t : Int) : Int := if t < 1 ∨ t > 1125899906842624 then 151 else if t ≤ v.top then 152 else 0
def lastOf (v : Va) (a : Int) : S86 × Bool := lastV (vs v.S.rows a)
def openV (v : Va) (t a n : Int) : Va × Int :=
  if nextE v t ≠ 0 then (v, nextE v t) else if ¬ isA a then (v, 153) else if (lastOf v a).2 = true then (v, 154) else if ¬ okAm n then (v, 155)
  else ({ v with S := putM v.S t [⟨a, n⟩], top := max v.top t }, 0)
def whyV (v : Va) (p : Part) : Int × Int :=
  if p.ID < 1 then (0, 156) else if (v.fates.lookup p.ID).isSome = true then (0, 157) else if 5000 ≤ v.fates.length then (0, 158) else if ¬ isA p.Account then (0, 153)
  else if p.N < 1 ∨ ¬ okAm p.N then (0, 155) else if (lastOf v p.Account).2 = false then (0, 159) else if (v.busy.lookup p.Account).isSome = true then (0, 160)
  else if p.Pays = false then (if okAm (lastOf v p.Account).1.V ∧ (lastOf v p.Account).1.V + p.N ≤ 1000000000000000 then (0, 0) else (0, 162))
  else if (lastOf v p.Account).1.V < p.N + feeF p.N v.rate then (0, 161) else (feeF p.N v.rate, 0)
def heldV (v : Va) (t : Int) (p : Part) (fee : Int) : Va := { v with held := ups p.ID ⟨p, t, fee⟩ v.held, busy := ups p.Account p.ID v.busy, fates := ups p.ID ⟨1, t⟩ v.fates, top := max v.top t }
def holdV (v : Va) (t : Int) (p : Part) : Va × Int :=
  if nextE v t ≠ 0 then (v, nextE v t) else if (whyV v p).2 ≠ 0 then (v, (whyV v p).2) else (heldV v t p (whyV v p).1, 0)
def freeV (v : Va) (h : Held) : Va := { v with held := del h.Part.ID v.held, busy := del h.Part.Account v.busy }
def changeV (v : Va) (h : Held) : List Ent :=
  if h.Part.Pays = false then [⟨h.Part.Account, IntKind.i64.wrap ((lastOf v h.Part.Account).1.V + h.Part.N)⟩]
  else ⟨h.Part.Account, IntKind.i64.wrap (IntKind.i64.wrap ((lastOf v h.Part.Account).1.V - h.Part.N) - h.Fee)⟩ ::
    if h.Fee > 0 then [⟨IntKind.i64.wrap (4096 + h.Part.Account), IntKind.i64.wrap ((lastOf v (IntKind.i64.wrap (4096 + h.Part.Account))).1.V + h.Fee)⟩] else []
def fateV (v : Va) (id : Int) : Ft := (v.fates.lookup id).getD ⟨0, 0⟩
def heldOf (v : Va) (id : Int) : Held := (v.held.lookup id).getD ⟨⟨0, 0, 0, false⟩, 0, 0⟩
def doneV (v : Va) (t id : Int) (h : Held) : Va := { freeV v h with S := putM v.S t (changeV v h), fates := ups id ⟨2, t⟩ v.fates, top := max v.top t }
def commitV (v : Va) (t id : Int) : Va × Int :=
  if t < 1 ∨ t > 1125899906842624 then (v, 151) else if (fateV v id).what = 2 then (if (fateV v id).t_ ≠ t then (v, 157) else (v, 0))
  else if (fateV v id).what = 1 then (if t < (heldOf v id).T_ then (v, 152) else (doneV v t id (heldOf v id), 0)) else (v, 163)
def gone_ (v : Va) (id : Int) : Va := match v.held.lookup id with
  | some h => freeV v h
  | none => v
def dropV (v : Va) (id : Int) : Va × Int :=
  if id < 1 then (v, 156) else if (fateV v id).what = 2 then (v, 157) else if (v.fates.lookup id).isSome = false ∧ 5000 ≤ v.fates.length then (v, 158)
  else ({ gone_ v id with fates := ups id ⟨3, 0⟩ v.fates }, 0)
def closeV (v : Va) (t : Int) : Va × Int :=
  if t < 0 ∨ t > 1125899906842624 then (v, 151) else if v.held.any (fun e => decide (e.2.T_ ≤ t)) = true then (v, 160)
  else ({ v with S := closeM v.S t, top := max v.top t }, 0)
def toldE (e : Int) : Int := if e = 120 then 151 else if e = 128 then 164 else if e = 126 then 165 else if e = 127 then 159 else e
def pruneV (v : Va) (t : Int) : Va × Int := ({ v with S := pruneM v.S t }, toldE (pruneE v.S t))
def hasV (v : Va) (a t : Int) : Int × Int := if ¬ isA a then (0, 153) else ((getM v.S a t).1.V, toldE (getM v.S a t).2)
def heldL (v : Va) : List Held := (sortI (v.held.map (·.1))).map (heldOf v)
theorem ups_len {β : Type} {k : Int} {v : β} (es : List (Int × β)) : (ups k v es).length = if (es.lookup k).isSome = true then es.length else es.length + 1 := by
  have h := congrArg List.length (keys_ups k v es)
  rw [List.length_map] at h
  rw [h]
  split <;> simp
def Bal (v : Va) (h : Held) : Prop := vs v.S.rows h.Part.Account ≠ [] ∧ (h.Part.Pays = true → h.Part.N + h.Fee ≤ (lastOf v h.Part.Account).1.V) ∧ (h.Part.Pays = false → okAm (lastOf v h.Part.Account).1.V ∧ (lastOf v h.Part.Account).1.V + h.Part.N ≤ 1000000000000000)
structure Fit (v : Va) : Prop where
  sto : Inv v.S
  rate : rateOk v.rate
  ids : ∀ id h, v.held.lookup id = some h → h.Part.ID = id ∧ 1 ≤ id ∧ id ≤ 9223372036854775807 ∧ isA h.Part.Account ∧ v.fates.lookup id = some ⟨1, h.T_⟩ ∧ v.busy.lookup h.Part.Account = some id ∧
    v.S.closed < h.T_ ∧ h.T_ ≤ v.top ∧ 1 ≤ h.Part.N ∧ h.Part.N ≤ 1000000000000000 ∧ 0 ≤ h.Fee ∧ h.Fee ≤ 2000000000000000 ∧ Bal v h ∧ ∀ r ∈ v.S.rows, r.X.Key = h.Part.Account ∨ r.X.Key = 4096 + h.Part.Account → r.T_ < h.T_
  busy : ∀ a id, v.busy.lookup a = some id → ∃ h, v.held.lookup id = some h ∧ h.Part.Account = a
  fat : ∀ id f, v.fates.lookup id = some f → 1 ≤ id ∧ ((f.what = 1 ∧ ∃ h, v.held.lookup id = some h ∧ h.T_ = f.t_) ∨ (f.what = 2 ∧ 1 ≤ f.t_ ∧ f.t_ ≤ 1125899906842624) ∨ (f.what = 3 ∧ f.t_ = 0))
  many : v.fates.length ≤ 5000
  nodH : (v.held.map (·.1)).Nodup
  nodB : (v.busy.map (·.1)).Nodup
  nodF : (v.fates.map (·.1)).Nodup
  top : v.S.closed ≤ v.top ∧ v.top ≤ 1125899906842624
  rows : ∀ r ∈ v.S.rows, r.T_ ≤ v.top
theorem held_keys {v : Va} (h : Fit v) : ∀ e ∈ v.held, 1 ≤ e.1 ∧ e.1 ≤ 9223372036854775807 := fun e he => by
  have := h.ids e.1 e.2 (mem_look h.nodH he)
  omega
theorem held_len {v : Va} (h : Fit v) : v.held.length ≤ 5000 := by
  refine Nat.le_trans ?_ h.many
  have h1 : (v.held.map (·.1)) ⊆ (v.fates.map (·.1)) := by
    intro k hk
    obtain ⟨e, he, rfl⟩ := List.mem_map.1 hk
    have := (h.ids e.1 e.2 (mem_look h.nodH he)).2.2.2.2.1
    exact List.mem_map.2 ⟨_, look_mem this, rfl⟩
  have := h.nodH.length_le_of_subset h1
  simpa using this
theorem heldOf_of {v : Va} {id : Int} {h : Held} (e : v.held.lookup id = some h) : heldOf v id = h := by unfold heldOf; rw [e]; rfl
theorem fateV_of {v : Va} {id : Int} {f : Ft} (e : v.fates.lookup id = some f) : fateV v id = f := by unfold fateV; rw [e]; rfl
theorem held_of {v : Va} (F : Fit v) {id : Int} (e : (fateV v id).what = 1) : ∃ h, v.held.lookup id = some h ∧ h.T_ = (fateV v id).t_ ∧ v.fates.lookup id = some (fateV v id) := by
  cases hf : v.fates.lookup id with
  | none => unfold fateV at e; rw [hf] at e; simp at e
  | some f =>
    rw [fateV_of hf] at e ⊢
    rcases (F.fat id f hf).2 with ⟨_, h⟩ | ⟨h, _⟩ | ⟨h, _⟩
    · obtain ⟨h, h1, h2⟩ := h
      exact ⟨h, h1, h2, rfl⟩
    · omega
    · omega
theorem nextE_ok {v : Va} {t : Int} (h : nextE v t = 0) : 1 ≤ t ∧ t ≤ 1125899906842624 ∧ v.top < t := by
  unfold nextE at h
  split at h
  · omega
  · split at h
    · omega
    · omega
theorem whyV_ok {v : Va} {p : Part} (h : (whyV v p).2 = 0) : 1 ≤ p.ID ∧ v.fates.lookup p.ID = none ∧ v.fates.length < 5000 ∧ isA p.Account ∧ 1 ≤ p.N ∧ p.N ≤ 1000000000000000 ∧ (lastOf v p.Account).2 = true ∧ v.busy.lookup p.Account = none ∧
    ((p.Pays = false ∧ (whyV v p).1 = 0 ∧ okAm (lastOf v p.Account).1.V ∧ (lastOf v p.Account).1.V + p.N ≤ 1000000000000000) ∨ (p.Pays = true ∧ (whyV v p).1 = feeF p.N v.rate ∧ p.N + feeF p.N v.rate ≤ (lastOf v p.Account).1.V)) := by
  unfold whyV at h ⊢
  by_cases c1 : p.ID < 1
  · rw [if_pos c1] at h; simp at h
  · rw [if_neg c1] at h ⊢
    by_cases c2 : (v.fates.lookup p.ID).isSome = true
    · rw [if_pos c2] at h; simp at h
    · rw [if_neg c2] at h ⊢
      by_cases c3 : 5000 ≤ v.fates.length
      · rw [if_pos c3] at h; simp at h
      · rw [if_neg c3] at h ⊢
        by_cases c4 : ¬ isA p.Account
        · rw [if_pos c4] at h; simp at h
        · rw [if_neg c4] at h ⊢
          by_cases c5 : p.N < 1 ∨ ¬ okAm p.N
          · rw [if_pos c5] at h; simp at h
          · rw [if_neg c5] at h ⊢
            by_cases c6 : (lastOf v p.Account).2 = false
            · rw [if_pos c6] at h; simp at h
            · rw [if_neg c6] at h ⊢
              by_cases c7 : (v.busy.lookup p.Account).isSome = true
              · rw [if_pos c7] at h; simp at h
              · rw [if_neg c7] at h ⊢
                have e2 : v.fates.lookup p.ID = none := Option.not_isSome_iff_eq_none.1 c2
                have e7 : v.busy.lookup p.Account = none := Option.not_isSome_iff_eq_none.1 c7
                have e5 : okAm p.N := Classical.byContradiction fun hc => c5 (.inr hc)
                refine ⟨by omega, e2, by omega, Classical.not_not.1 c4, by omega, e5.2, by simpa using c6, e7, ?_⟩
                by_cases c8 : p.Pays = false
                · rw [if_pos c8] at h ⊢
                  by_cases c9 : okAm (lastOf v p.Account).1.V ∧ (lastOf v p.Account).1.V + p.N ≤ 1000000000000000
                  · rw [if_pos c9]
                    exact .inl ⟨c8, rfl, c9.1, c9.2⟩
                  · rw [if_neg c9] at h; simp at h
                · rw [if_neg c8] at h ⊢
                  by_cases c9 : (lastOf v p.Account).1.V < p.N + feeF p.N v.rate
                  · rw [if_pos c9] at h; simp at h
                  · rw [if_neg c9]
                    exact .inr ⟨by simpa using c8, rfl, by omega⟩
theorem Fit.new {r : Nat} (h : rateOk r) : Fit ⟨r, ⟨[], 0, 0⟩, 0, [], [], []⟩ :=
  ⟨⟨fun k => by simp [vs_nil], fun r h => (by cases h), fun r h => (by cases h), List.Pairwise.nil, by simp⟩, h, fun id h e => by simp at e, fun a id e => by simp at e, fun id f e => by simp at e, by simp, by simp, by simp, by simp, by simp, fun r h => by cases h⟩
theorem put_closed (M : Md) (t : Int) (xs : List Ent) : (putM M t xs).closed = M.closed ∧ (putM M t xs).mark = M.mark := by unfold putM; split <;> exact ⟨rfl, rfl⟩
theorem put_rows {M : Md} {t : Int} {xs : List Ent} {r : Row} (h : r ∈ (putM M t xs).rows) : r ∈ M.rows ∨ (r.T_ = t ∧ r.X ∈ xs) := by
  unfold putM at h
  split at h
  · rcases List.mem_append.1 h with h | h
    · exact .inl h
    · obtain ⟨x, hx, rfl⟩ := List.mem_map.1 h
      exact .inr ⟨rfl, hx⟩
  · exact .inl h
theorem vs_put_no {M : Md} {t k : Int} {xs : List Ent} (h : ∀ x ∈ xs, x.Key ≠ k) : vs (putM M t xs).rows k = vs M.rows k := by
  unfold putM
  split
  · simp only
    rw [vs_app, vs_news_no, List.append_nil]
    intro hm
    obtain ⟨x, hx, e⟩ := List.mem_map.1 hm
    exact h x hx e
  · rfl
theorem last_keep (m : Int) : ∀ l : List S86, (keepV m l).getLast? = l.getLast?
  | [] => rfl
  | v :: l => by
    have ih := last_keep m l
    unfold keepV
    split
    · rename_i hc
      rw [ih]
      cases l with
      | nil => simp at hc
      | cons u us => rw [List.getLast?_cons_cons]
    · rw [List.getLast?_cons, List.getLast?_cons, ih]
theorem last_of_ne {v : Va} {a : Int} : (lastOf v a).2 = true ↔ vs v.S.rows a ≠ [] := by
  unfold lastOf lastV
  cases hv : vs v.S.rows a with
  | nil => simp
  | cons x xs => simp [List.getLast?_cons]
theorem bal_congr {v u : Va} {h : Held} (e : vs u.S.rows h.Part.Account = vs v.S.rows h.Part.Account) (b : Bal v h) : Bal u h := by
  unfold Bal lastOf at *
  rw [e]; exact b
theorem bal_prune {v : Va} {h : Held} (F : Inv v.S) (t : Int) (b : Bal v h) : Bal { v with S := pruneM v.S t } h := by
  unfold pruneM
  split
  · unfold Bal lastOf lastV at *
    simp only
    rw [vs_keep, last_keep, ne_eq, keepV_nil (vs_rise F.rise _)]
    exact b
  · exact b
theorem Fit.puts {v : Va} (F : Fit v) {t : Int} {xs : List Ent} (h0 : t ≤ 1125899906842624) (hx : ∀ id h, v.held.lookup id = some h → ∀ x ∈ xs, x.Key ≠ h.Part.Account ∧ x.Key ≠ 4096 + h.Part.Account) : Fit { v with S := putM v.S t xs, top := max v.top t } := by
  have hc := put_closed v.S t xs
  have ht := F.top
  refine ⟨F.sto.put t _, F.rate, fun id h e => ?_, F.busy, F.fat, F.many, F.nodH, F.nodB, F.nodF, ⟨by show (putM _ _ _).closed ≤ max _ _; rw [hc.1]; omega, by show max _ _ ≤ _; omega⟩, fun r hr => ?_⟩
  · obtain ⟨g1, g2, g3, g4, g5, g6, g7, g8, g9, g10, g11, g12, g14, g13⟩ := F.ids id h e
    refine ⟨g1, g2, g3, g4, g5, g6, by show (putM _ _ _).closed < _; rw [hc.1]; exact g7, by show _ ≤ max _ _; omega, g9, g10, g11, g12, bal_congr (vs_put_no fun x hx' => (hx id h e x hx').1) g14, fun r hr hk => ?_⟩
    rcases put_rows hr with hr | ⟨_, hr⟩
    · exact g13 r hr hk
    · have := hx id h e _ hr
      omega
  · rcases put_rows hr with hr | ⟨hr, _⟩
    · have := F.rows r hr
      show _ ≤ max _ _; omega
    · show _ ≤ max _ _; omega
theorem Fit.open {v : Va} (F : Fit v) (t a n : Int) : Fit (openV v t a n).1 := by
  unfold openV
  split
  · exact F
  · rename_i h1
    have h1 : nextE v t = 0 := Classical.not_not.1 h1
    obtain ⟨t0, t1, t2⟩ := nextE_ok h1
    split
    · exact F
    · rename_i ha
      have ha : isA a := Classical.not_not.1 ha
      split
      · exact F
      · rename_i h2
        split
        · exact F
        · refine F.puts t1 fun id h e x hx => ?_
          obtain ⟨_, _, _, g4, _, _, _, _, _, _, _, _, g14, _⟩ := F.ids id h e
          have hx := List.mem_singleton.1 hx
          subst hx
          have h3 := g4.1
          have h4 := ha.2
          refine ⟨fun e => ?_, fun e => ?_⟩
          · simp only at e
            subst e
            exact h2 (last_of_ne.2 g14.1)
          · simp only at e
            omega
theorem Fit.free {v : Va} (F : Fit v) {id : Int} {h : Held} (e : v.held.lookup id = some h) {f : Ft} (hf : (f.what = 2 ∧ 1 ≤ f.t_ ∧ f.t_ ≤ 1125899906842624) ∨ (f.what = 3 ∧ f.t_ = 0)) : Fit { freeV v h with fates := ups id f v.fates } := by
  obtain ⟨g1, g2, g3, g4, g5, g6, g7, g8, g9, g10, g11, g12, g14, g13⟩ := F.ids id h e
  have lh : ∀ x, (del h.Part.ID v.held).lookup x = if x == id then none else v.held.lookup x := fun x => by rw [lookup_del _ _ _ F.nodH, g1]
  have lb : ∀ x, (del h.Part.Account v.busy).lookup x = if x == h.Part.Account then none else v.busy.lookup x := fun x => by rw [lookup_del _ _ _ F.nodB]
  refine ⟨F.sto, F.rate, fun x k ex => ?_, fun a x ex => ?_, fun x k ex => ?_, ?_, nodup_del F.nodH, nodup_del F.nodB, nodup_ups F.nodF, F.top, F.rows⟩
  · have ex : (del h.Part.ID v.held).lookup x = some k := ex
    rw [lh] at ex
    by_cases c : x = id
    · simp [c] at ex
    · rw [if_neg (by simpa using c)] at ex
      obtain ⟨k1, k2, k3, k4, k5, k6, k7, k8, k9, k10, k11, k12, k14, k13⟩ := F.ids x k ex
      refine ⟨k1, k2, k3, k4, ?_, ?_, k7, k8, k9, k10, k11, k12, k14, k13⟩
      · show (ups id f v.fates).lookup x = _
        rw [lookup_ups, if_neg (by simpa using c)]; exact k5
      · show (del h.Part.Account v.busy).lookup _ = _
        rw [lb, if_neg]
        · exact k6
        · intro hc
          have hc : k.Part.Account = h.Part.Account := by simpa using hc
          rw [hc, g6] at k6
          exact c (by injection k6 with k6; exact k6.symm)
  · have ex : (del h.Part.Account v.busy).lookup a = some x := ex
    rw [lb] at ex
    by_cases c : a = h.Part.Account
    · simp [c] at ex
    · rw [if_neg (by simpa using c)] at ex
      obtain ⟨k, hk1, hk2⟩ := F.busy a x ex
      refine ⟨k, ?_, hk2⟩
      show (del h.Part.ID v.held).lookup x = _
      rw [lh, if_neg]
      · exact hk1
      · intro hc
        have hc : x = id := by simpa using hc
        rw [hc, e] at hk1
        injection hk1 with hk1
        exact c (by rw [hk1, hk2])
  · have ex : (ups id f v.fates).lookup x = some k := ex
    rw [lookup_ups] at ex
    by_cases c : x = id
    · rw [if_pos (by simpa using c)] at ex
      cases ex
      exact ⟨by omega, .inr hf⟩
    · rw [if_neg (by simpa using c)] at ex
      refine ⟨(F.fat x k ex).1, ?_⟩
      rcases (F.fat x k ex).2 with ⟨k1, h', k2, k3⟩ | k1
      · refine .inl ⟨k1, h', ?_, k3⟩
        show (del h.Part.ID v.held).lookup x = _
        rw [lh, if_neg (by simpa using c)]; exact k2
      · exact .inr k1
  · show (ups id f v.fates).length ≤ 5000
    rw [ups_len, g5, if_pos (by simp)]; exact F.many
theorem whyV_fee {v : Va} (F : Fit v) {p : Part} (h : (whyV v p).2 = 0) : 0 ≤ (whyV v p).1 ∧ (whyV v p).1 ≤ 2000000000000000 := by
  obtain ⟨_, _, _, _, h5, h6, _, _, h9⟩ := whyV_ok h
  rcases h9 with ⟨_, e, _⟩ | ⟨_, e, _⟩
  · omega
  · have := feeF_le (n := p.N) (by omega) h6 F.rate
    omega
theorem Fit.hold {v : Va} (F : Fit v) {t : Int} {p : Part} (h0 : p.ID ≤ 9223372036854775807) : Fit (holdV v t p).1 := by
  unfold holdV
  split
  · exact F
  · rename_i h1
    have h1 : nextE v t = 0 := Classical.not_not.1 h1
    obtain ⟨t0, t1, t2⟩ := nextE_ok h1
    split
    · exact F
    · rename_i h2
      have h2 : (whyV v p).2 = 0 := Classical.not_not.1 h2
      have hfee := whyV_fee F h2
      obtain ⟨a1, a2, a3, a4, a5, a6, a7, a8, a9⟩ := whyV_ok h2
      generalize (whyV v p).1 = fee at hfee a9
      have ht := F.top
      have hnoh : v.held.lookup p.ID = none := by
        cases hh : v.held.lookup p.ID with
        | none => rfl
        | some k => have := (F.ids _ _ hh).2.2.2.2.1; rw [a2] at this; cases this
      have lh : ∀ x, (ups p.ID (⟨p, t, fee⟩ : Held) v.held).lookup x = if x == p.ID then some ⟨p, t, fee⟩ else v.held.lookup x := fun x => lookup_ups _ _ _ _
      have lb : ∀ x, (ups p.Account p.ID v.busy).lookup x = if x == p.Account then some p.ID else v.busy.lookup x := fun x => lookup_ups _ _ _ _
      have lf : ∀ x, (ups p.ID (⟨1, t⟩ : Ft) v.fates).lookup x = if x == p.ID then some ⟨1, t⟩ else v.fates.lookup x := fun x => lookup_ups _ _ _ _
      refine ⟨F.sto, F.rate, fun x k ex => ?_, fun a x ex => ?_, fun x k ex => ?_, ?_, nodup_ups F.nodH, nodup_ups F.nodB, nodup_ups F.nodF, ⟨by show v.S.closed ≤ max v.top t; omega, by show max v.top t ≤ _; omega⟩, fun r hr => by have := F.rows r hr; show _ ≤ max v.top t; omega⟩
      · have ex : (ups p.ID (⟨p, t, fee⟩ : Held) v.held).lookup x = some k := ex
        rw [lh] at ex
        by_cases c : x = p.ID
        · rw [if_pos (by simpa using c)] at ex
          cases ex
          subst c
          refine ⟨rfl, a1, h0, a4, ?_, ?_, by show v.S.closed < t; omega, by show t ≤ max v.top t; omega, a5, a6, hfee.1, hfee.2, ⟨last_of_ne.1 a7, fun hp => ?_, fun hp => ?_⟩, fun r hr _ => ?_⟩
          · show (ups p.ID (⟨1, t⟩ : Ft) v.fates).lookup p.ID = _
            rw [lf, if_pos (by simp)]
          · show (ups p.Account p.ID v.busy).lookup p.Account = _
            rw [lb, if_pos (by simp)]
          · rcases a9 with ⟨q, _⟩ | ⟨_, q1, q2⟩
            · rw [hp] at q; cases q
            · show p.N + fee ≤ (lastOf v p.Account).1.V
              rw [q1]; exact q2
          · rcases a9 with ⟨_, _, q1, q2⟩ | ⟨q, _⟩
            · exact ⟨q1, q2⟩
            · rw [hp] at q; cases q
          · have := F.rows r hr
            show r.T_ < t; omega
        · rw [if_neg (by simpa using c)] at ex
          obtain ⟨k1, k2, k3, k4, k5, k6, k7, k8, k9, k10, k11, k12, k14, k13⟩ := F.ids x k ex
          refine ⟨k1, k2, k3, k4, ?_, ?_, k7, by show _ ≤ max v.top t; omega, k9, k10, k11, k12, k14, k13⟩
          · show (ups p.ID (⟨1, t⟩ : Ft) v.fates).lookup x = _
            rw [lf, if_neg (by simpa using c)]; exact k5
          · show (ups p.Account p.ID v.busy).lookup _ = _
            rw [lb, if_neg]
            · exact k6
            · intro hc
              have hc : k.Part.Account = p.Account := by simpa using hc
              rw [hc, a8] at k6; cases k6
      · have ex : (ups p.Account p.ID v.busy).lookup a = some x := ex
        rw [lb] at ex
        by_cases c : a = p.Account
        · rw [if_pos (by simpa using c)] at ex
          cases ex
          refine ⟨⟨p, t, fee⟩, ?_, c.symm⟩
          show (ups p.ID (⟨p, t, fee⟩ : Held) v.held).lookup p.ID = _
          rw [lh, if_pos (by simp)]
        · rw [if_neg (by simpa using c)] at ex
          obtain ⟨k, hk1, hk2⟩ := F.busy a x ex
          refine ⟨k, ?_, hk2⟩
          show (ups p.ID (⟨p, t, fee⟩ : Held) v.held).lookup x = _
          rw [lh, if_neg]
          · exact hk1
          · intro hc
            have hc : x = p.ID := by simpa using hc
            rw [hc, hnoh] at hk1; cases hk1
      · have ex : (ups p.ID (⟨1, t⟩ : Ft) v.fates).lookup x = some k := ex
        rw [lf] at ex
        by_cases c : x = p.ID
        · rw [if_pos (by simpa using c)] at ex
          cases ex
          refine ⟨by omega, .inl ⟨rfl, ⟨p, t, fee⟩, ?_, rfl⟩⟩
          show (ups p.ID (⟨p, t, fee⟩ : Held) v.held).lookup x = _
          rw [lh, if_pos (by simpa using c)]
        · rw [if_neg (by simpa using c)] at ex
          refine ⟨(F.fat x k ex).1, ?_⟩
          rcases (F.fat x k ex).2 with ⟨k1, h', k2, k3⟩ | k1
          · refine .inl ⟨k1, h', ?_, k3⟩
            show (ups p.ID (⟨p, t, fee⟩ : Held) v.held).lookup x = _
            rw [lh, if_neg (by simpa using c)]; exact k2
          · exact .inr k1
      · show (ups p.ID (⟨1, t⟩ : Ft) v.fates).length ≤ 5000
        rw [ups_len, a2, if_neg (by simp)]; omega
theorem change_keys {v : Va} {h : Held} (ha : isA h.Part.Account) : ∀ x ∈ changeV v h, x.Key = h.Part.Account ∨ x.Key = 4096 + h.Part.Account := by
  have e : IntKind.i64.wrap (4096 + h.Part.Account) = 4096 + h.Part.Account := wrap_i64 (by have := ha.1; omega) (by have := ha.2; omega)
  intro x hx
  unfold changeV at hx
  rw [e] at hx
  split at hx
  · rw [List.mem_singleton.1 hx]; exact .inl rfl
  · rcases List.mem_cons.1 hx with rfl | hx
    · exact .inl rfl
    · split at hx
      · rw [List.mem_singleton.1 hx]; exact .inr rfl
      · cases hx
theorem Fit.done {v : Va} (F : Fit v) {t id : Int} {h : Held} (e : v.held.lookup id = some h) (h0 : h.T_ ≤ t) (h1 : t ≤ 1125899906842624) : Fit (doneV v t id h) := by
  obtain ⟨g1, g2, g3, g4, g5, g6, g7, g8, g9, g10, g11, g12, g14, g13⟩ := F.ids id h e
  have ht := F.top
  have hm := F.sto.mark
  have F1 := F.free e (f := ⟨2, t⟩) (.inl ⟨rfl, by show 1 ≤ t; omega, h1⟩)
  have F2 := F1.puts (t := t) (xs := changeV v h) h1 fun x k ex y hy => by
    have ex : (del h.Part.ID v.held).lookup x = some k := ex
    rw [lookup_del _ _ _ F.nodH, g1] at ex
    by_cases c : x = id
    · simp [c] at ex
    · rw [if_neg (by simpa using c)] at ex
      obtain ⟨k1, k2, k3, k4, k5, k6, _⟩ := F.ids x k ex
      have hne : k.Part.Account ≠ h.Part.Account := fun hc => by
        rw [hc, g6] at k6
        exact c (by injection k6 with k6; exact k6.symm)
      have h2 := k4.1
      have h3 := k4.2
      have h4 := g4.1
      have h5 := g4.2
      rcases change_keys g4 y hy with hy | hy <;> omega
  exact F2
theorem Fit.commit {v : Va} (F : Fit v) (t id : Int) : Fit (commitV v t id).1 := by
  unfold commitV
  split
  · exact F
  · rename_i h0
    split
    · split <;> exact F
    · split
      · rename_i h1
        obtain ⟨h, e1, e2, e3⟩ := held_of F h1
        rw [heldOf_of e1]
        split
        · exact F
        · exact F.done e1 (by omega) (by omega)
      · exact F
theorem Fit.drop {v : Va} (F : Fit v) (id : Int) : Fit (dropV v id).1 := by
  unfold dropV
  split
  · exact F
  · split
    · exact F
    · split
      · exact F
      · rename_i h1 h2 h3
        cases e : v.held.lookup id with
        | some h =>
          have := F.free e (f := ⟨3, 0⟩) (.inr ⟨rfl, rfl⟩)
          unfold gone_
          rw [e]; exact this
        | none =>
          unfold gone_
          rw [e]
          have lf : ∀ x, (ups id (⟨3, 0⟩ : Ft) v.fates).lookup x = if x == id then some ⟨3, 0⟩ else v.fates.lookup x := fun x => lookup_ups _ _ _ _
          refine ⟨F.sto, F.rate, fun x k ex => ?_, F.busy, fun x k ex => ?_, ?_, F.nodH, F.nodB, nodup_ups F.nodF, F.top, F.rows⟩
          · obtain ⟨k1, k2, k3, k4, k5, k6, k7, k8, k9, k10, k11, k12, k14, k13⟩ := F.ids x k ex
            refine ⟨k1, k2, k3, k4, ?_, k6, k7, k8, k9, k10, k11, k12, k14, k13⟩
            show (ups id (⟨3, 0⟩ : Ft) v.fates).lookup x = _
            rw [lf, if_neg]
            · exact k5
            · intro hc
              have hc : x = id := by simpa using hc
              have ex : v.held.lookup x = some k := ex
              rw [hc, e] at ex; cases ex
          · have ex : (ups id (⟨3, 0⟩ : Ft) v.fates).lookup x = some k := ex
            rw [lf] at ex
            by_cases c : x = id
            · rw [if_pos (by simpa using c)] at ex
              cases ex
              exact ⟨by omega, .inr (.inr ⟨rfl, rfl⟩)⟩
            · rw [if_neg (by simpa using c)] at ex
              exact F.fat x k ex
          · show (ups id (⟨3, 0⟩ : Ft) v.fates).length ≤ 5000
            rw [ups_len]
            split
            · exact F.many
            · rename_i hn
              have hn : (v.fates.lookup id).isSome = false := (Bool.not_eq_true _).mp hn
              have : ¬ 5000 ≤ v.fates.length := fun hc => h3 ⟨hn, hc⟩
              omega
theorem Fit.close {v : Va} (F : Fit v) (t : Int) : Fit (closeV v t).1 := by
  unfold closeV
  split
  · exact F
  · rename_i h0
    split
    · exact F
    · rename_i h1
      have ht := F.top
      have hcl : (closeM v.S t).rows = v.S.rows ∧ (closeM v.S t).closed ≤ max v.S.closed t := by unfold closeM; split; exact ⟨rfl, Int.le_refl _⟩; exact ⟨rfl, by omega⟩
      refine ⟨F.sto.close t, F.rate, fun x k ex => ?_, F.busy, F.fat, F.many, F.nodH, F.nodB, F.nodF, ⟨by show (closeM v.S t).closed ≤ max v.top t; omega, by show max v.top t ≤ _; omega⟩, fun r hr => ?_⟩
      · obtain ⟨k1, k2, k3, k4, k5, k6, k7, k8, k9, k10, k11, k12, k14, k13⟩ := F.ids x k ex
        have hgt : t < k.T_ := by
          apply Classical.byContradiction
          intro hc
          exact h1 (List.any_eq_true.2 ⟨(x, k), look_mem ex, by simp; omega⟩)
        refine ⟨k1, k2, k3, k4, k5, k6, by show (closeM v.S t).closed < _; omega, by show _ ≤ max v.top t; omega, k9, k10, k11, k12, bal_congr (by show vs (closeM v.S t).rows _ = _; rw [hcl.1]) k14, fun r hr => k13 r (by rw [← hcl.1]; exact hr)⟩
      · have := F.rows r (by rw [← hcl.1]; exact hr)
        show _ ≤ max v.top t; omega
theorem prune_same (M : Md) (t : Int) : (pruneM M t).closed = M.closed ∧ ∀ r ∈ (pruneM M t).rows, r ∈ M.rows := by
  unfold pruneM
  split
  · exact ⟨rfl, fun r hr => (keep_sub _ _).subset hr⟩
  · exact ⟨rfl, fun r hr => hr⟩
theorem Fit.prune {v : Va} (F : Fit v) (t : Int) : Fit (pruneV v t).1 := by
  have hp := prune_same v.S t
  refine ⟨F.sto.prune t, F.rate, fun x k ex => ?_, F.busy, F.fat, F.many, F.nodH, F.nodB, F.nodF, ⟨by show (pruneM v.S t).closed ≤ _; rw [hp.1]; exact F.top.1, F.top.2⟩, fun r hr => F.rows r (hp.2 r hr)⟩
  obtain ⟨k1, k2, k3, k4, k5, k6, k7, k8, k9, k10, k11, k12, k14, k13⟩ := F.ids x k ex
  exact ⟨k1, k2, k3, k4, k5, k6, by show (pruneM v.S t).closed < _; rw [hp.1]; exact k7, k8, k9, k10, k11, k12, bal_prune F.sto t k14, fun r hr => k13 r (hp.2 r hr)⟩
end Go.Proofs.YtpdaapffkdejoaaGreat.Vault
namespace Go.Proofs.YtpdaapffkdejoaaGreat.Cf
set_option linter.unusedSimpArgs false
set_option linter.unusedVariables false
open Go Go.RowKit Go.Maps Go.Sort Go.Shelf Go.WideElems
section
variable {W w : World} {l : List Assn} {α : Type} {T : Ty α}
theorem sorted_keysB {r bm : Nat} {es : List (Int × α)} (hr : ∀ p ∈ es, -9223372036854775808 ≤ p.1 ∧ p.1 ≤ 9223372036854775807) (hm : es.length ≤ 1000000) (H : St W (cel bm [.map (some r)] 31 :: mapE T .i64 r es :: l) w) :
    cl Tryz.prog 34 [.func (.func 55) #[] #[.pointer (some ⟨bm, 0, none⟩)]] tSlc w fun s w' => ∃ ks : List Int, ks.Perm (es.map (·.1)) ∧
      St W (row (tInt .i64) 3 1 s (ks.mergeSort fun x y => decide (x ≤ y)) :: cel bm [.map (some r)] 31 :: mapE T .i64 r es :: l) w' := by
  obtain ⟨arr, c, h1, hb, h2, H2⟩ := mapE_open (H.front 1)
  have hh := H2.get
  obtain ⟨D0, hown, hperm, hsize⟩ := owns_of (k := 3) Tryz.underlying3 hr (by omega) h1 hb h2 hh
  have hcel := H.get
  have hlt : bm < w.heap.size := (Array.getElem?_eq_some_iff.1 hcel).1
  have hseq := AnyZI.keys_gives (ρ := Tryz.keysB_ren) { Tryz.keysB with } Fence.wide (5 - 1 - 1 - 1) trivial rfl (by omega) bm r arr.size D0 w hlt (by rw [cell_of_blk hcel]; rfl) hown
  have cS := AnyZI.sorted_in Tryz.sortedA Fence.wide 5 trivial trivial trivial trivial rfl (by omega) (sortsA _) (enters_of Tryz.func54 (by kernel_rfl) rfl) 55 #[.pointer (some ⟨bm, 0, none⟩)] trivial (enters_of Tryz.func55 (by kernel_rfl) rfl) _ (Maps.size D0) (by rw [hsize]; exact Nat.le_trans hm (Nat.le_of_ble_eq_true rfl)) (by rw [hsize]; omega) w hseq
  change CallsIn _ _ Tryz.prog 34 _ _ _ at cS
  refine (callsIn_wide (n := 5)).1 (cS.mono ?_)
  rintro e w' ⟨v, ss, rfl, hS, hrow, hnil, hbel⟩
  have hrow : w'.ownsRow w.heap.size 3 1 v ss.length ((ss.mergeSort fun x y => decide (x ≤ y)).flatMap (tInt .i64).cells) := by
    have e : (ss.mergeSort fun x y => decide (x ≤ y)).flatMap (tInt .i64).cells = (ss.mergeSort fun x y => decide (x ≤ y)).map encZ := by
      generalize ss.mergeSort (fun x y => decide (x ≤ y)) = q
      induction q with
      | nil => rfl
      | cons x q ih => rw [List.flatMap_cons, ih]; rfl
    rw [e]; exact hrow
  obtain ⟨s, hs, H3⟩ := H.ownsRow (T := tInt .i64) (fun _ => rfl) (by rw [List.length_mergeSort]) hbel hrow
  exact ⟨s, hs, ss, hS.trans hperm, H3⟩
end
end Go.Proofs.YtpdaapffkdejoaaGreat.Cf
namespace Go.Proofs.YtpdaapffkdejoaaGreat.Vault
open Go Go.Proofs.YtpdaapffkdejoaaGreat.Cf Go.Proofs.YtpdaapffkdejoaaGreat.Store Go.Proofs.YtpdaapffkdejoaaGreat.Num
set_option linter.unusedVariables false
set_option linter.unusedSimpArgs false
set_option maxRecDepth 100000
abbrev TV := T34
abbrev THe := T54
abbrev TFt := T69
structure VaP where
  s : Nat
  m1 : Nat
  m2 : Nat
  m3 : Nat
def vval (v : Va) (p : VaP) : S34 := ⟨(⟨some ⟨p.s, 0, none⟩⟩ : S29), v.rate, v.top, some p.m1, some p.m2, some p.m3⟩
def vaA (b : Nat) (v : Va) : Assn := exA fun p : VaP => sepA [cel b (TV.cells (vval v p)) 35, sto p.s v.S, mapE THe .i64 p.m1 v.held, mapE (tInt .i64) .i64 p.m2 v.busy, mapE TFt .i64 p.m3 v.fates]
section
variable {W w : World} {l l' : List Assn}
theorem va_open {b : Nat} {v : Va} (H : St W (vaA b v :: l) w) : ∃ p : VaP, St W (cel b (TV.cells (vval v p)) 35 :: sto p.s v.S :: mapE THe .i64 p.m1 v.held :: mapE (tInt .i64) .i64 p.m2 v.busy :: mapE TFt .i64 p.m3 v.fates :: l) w := by
  obtain ⟨p, H⟩ := H.ex
  exact ⟨p, H.open_⟩
theorem va_shut {b : Nat} {v : Va} {p : VaP} (H : St W (cel b (TV.cells (vval v p)) 35 :: sto p.s v.S :: mapE THe .i64 p.m1 v.held :: mapE (tInt .i64) .i64 p.m2 v.busy :: mapE TFt .i64 p.m3 v.fates :: l) w) : St W (vaA b v :: l) w :=
  St.toEx p (St.shut (l' := [cel b (TV.cells (vval v p)) 35, sto p.s v.S, mapE THe .i64 p.m1 v.held, mapE (tInt .i64) .i64 p.m2 v.busy, mapE TFt .i64 p.m3 v.fates]) H)
theorem drops : ∀ (j : List Assn) {A : Assn}, St W (j ++ A :: l) w → St W (A :: l) w
  | [], _, H => H
  | _ :: j, _, H => drops j H.drop
theorem mlenG_st {r : Nat} {β : Type} {T : Ty β} {es : List (Int × β)} {K : Nat → Prop} {m : Option Nat} {g : Bool} (i : Nat) (H : St W l w) (hi : front i l = mapE T .i64 r es :: l') (hm : m = some r) (hk : K es.length) : ex (fun x => g = true → (MapLen m w) x) K := by
  obtain ⟨x, hx, hk⟩ := mlen_st (K := K) i H hi hm hk
  exact ⟨x, fun _ => hx, hk⟩
theorem ranging_nodup {r it : Nat} {β : Type} {T : Ty β} {k : IntKind} {es left : List (Int × β)} {cur : Option (Int × β)} (H : St W (ranging T k r it es left cur :: l) w) : (es.map (·.1)).Nodup := mapE_nodup (ranging_done H)
theorem new_spec {f : Nat} (hf : f < 18446744073709551616) (H : St W l w) : cl Tryz.prog 22 [.float .f64 f] (tTup2 tPtr (tInt .i64)) w fun r w' => (rateOk f → r.2 = 0 ∧ ∃ b, r.1 = some ⟨b, 0, none⟩ ∧ St W (vaA b ⟨f, ⟨[], 0, 0⟩, 0, [], [], []⟩ :: l) w') ∧ (¬ rateOk f → r = (none, 150) ∧ St W l w') := by
  refine F22_ok ?_
  unfold F22
  refine cl_mono (rate_spec hf H) ?_
  rintro r w ⟨h1, h2, H⟩
  by_cases c : r = 0
  · rw [if_neg (by simp [c])]
    refine cl_mono (snew_spec H) ?_
    rintro r' w ⟨s, rfl, H⟩
    refine nwMap_st H fun m1 w H => ?_
    have H := mapE_new THe .i64 H
    refine nwMap_st H fun m2 w H => ?_
    have H := mapE_new (tInt .i64) .i64 H
    refine nwMap_st H fun m3 w H => ?_
    have H := mapE_new TFt .i64 H
    refine nw_st H fun b w H => ?_
    refine ⟨fun _ => ⟨rfl, b, rfl, ?_⟩, fun h => absurd (h1.1 c) h⟩
    exact va_shut (v := ⟨f, ⟨[], 0, 0⟩, 0, [], [], []⟩) (p := ⟨s, m1, m2, m3⟩) (H.ord [0, 4, 3, 2, 1])
  · rw [if_pos (by simpa using c)]
    exact ⟨fun h => absurd (h1.2 h) c, fun _ => ⟨rfl, H⟩⟩
theorem vis_spec {a : Int} (H : St W l w) : cl Tryz.prog 43 [.int .i64 a] tBool w fun r w' => r = decide (isA a) ∧ St W l w' := by
  refine F43_ok ?_
  unfold F43
  refine ⟨?_, H⟩
  rw [Bool.eq_iff_iff, decide_eq_true_eq]
  unfold isA
  simp
theorem vin_spec {t : Int} (H : St W l w) : cl Tryz.prog 36 [.int .i64 t] tBool w fun r w' => r = (decide (t ≥ 0) && decide (t ≤ 1125899906842624)) ∧ St W l w' := by
  refine F36_ok ?_
  unfold F36
  exact ⟨rfl, H⟩
theorem vnext_spec {b : Nat} {v : Va} {t : Int} (H : St W (vaA b v :: l) w) : cl Tryz.prog 38 [.pointer (some ⟨b, 0, none⟩), .int .i64 t] (tInt .i64) w fun r w' => r = nextE v t ∧ St W (vaA b v :: l) w' := by
  refine F38_ok ?_
  unfold F38 nextE
  by_cases c : t < 1 ∨ t > 1125899906842624
  · rw [if_pos (by simpa using c), if_pos c]
    exact ⟨rfl, H⟩
  · rw [if_neg (by simpa using c), if_neg c]
    obtain ⟨p, H⟩ := va_open H
    refine nc_st rfl ?_
    refine ld_st (x := v.top) 0 H rfl rfl rfl ?_
    by_cases d : t ≤ v.top
    · rw [if_pos (by simpa using d), if_pos d]
      exact ⟨rfl, va_shut H⟩
    · rw [if_neg (by simpa using d), if_neg d]
      exact ⟨rfl, va_shut H⟩
theorem met_spec {b : Nat} {v : Va} {t : Int} (H : St W (vaA b v :: l) w) : cl Tryz.prog 33 [.pointer (some ⟨b, 0, none⟩), .int .i64 t] tUnit w fun _ w' => St W (vaA b { v with top := max v.top t } :: l) w' := by
  refine F33_ok ?_
  unfold F33
  obtain ⟨p, H⟩ := va_open H
  refine nc_st rfl ?_
  refine ld_st (x := v.top) 0 H rfl rfl rfl ?_
  refine st_st (x := max v.top t) 0 H rfl rfl (Nat.le_of_ble_eq_true rfl) fun w H => ?_
  exact va_shut (v := { v with top := max v.top t }) H
theorem told_spec {e : Int} (H : St W l w) : cl Tryz.prog 28 [.int .i64 e] (tInt .i64) w fun r w' => r = toldE e ∧ St W l w' := by
  refine F28_ok ?_
  unfold F28 toldE
  by_cases c1 : e = 120
  · rw [if_pos (by simpa using c1), if_pos c1]; exact ⟨rfl, H⟩
  · rw [if_neg (by simpa using c1), if_neg c1]
    by_cases c2 : e = 128
    · rw [if_pos (by simpa using c2), if_pos c2]; exact ⟨rfl, H⟩
    · rw [if_neg (by simpa using c2), if_neg c2]
      by_cases c3 : e = 126
      · rw [if_pos (by simpa using c3), if_pos c3]; exact ⟨rfl, H⟩
      · rw [if_neg (by simpa using c3), if_neg c3]
        by_cases c4 : e = 127
        · rw [if_pos (by simpa using c4), if_pos c4]; exact ⟨rfl, H⟩
        · rw [if_neg (by simpa using c4), if_neg c4]; exact ⟨rfl, H⟩
theorem vopen_spec {b : Nat} {v : Va} {t a n : Int} (F : Fit v) (H : St W (vaA b v :: l) w) : cl Tryz.prog 23 [.pointer (some ⟨b, 0, none⟩), .int .i64 t, .int .i64 a, .int .i64 n] (tInt .i64) w fun r w' => r = (openV v t a n).2 ∧ St W (vaA b (openV v t a n).1 :: l) w' := by
  refine F23_ok ?_
  unfold F23
  refine cl_mono (vnext_spec (t := t) H) ?_
  rintro r w ⟨rfl, H⟩
  unfold openV
  by_cases c0 : nextE v t = 0
  · rw [if_neg (by simp [c0]), if_neg (by simp [c0])]
    obtain ⟨p, H⟩ := va_open H
    refine nc_st rfl ?_
    refine ld_st (x := some (⟨p.s, 0, none⟩ : Addr)) 0 H rfl rfl rfl ?_
    refine cl_mono (slast_spec (k := a) F.sto (H.front 1)) ?_
    rintro r w ⟨rfl, H⟩
    refine nw_st H fun b1 w H => ?_
    show st T86 _ (lastV (vs v.S.rows a)).1 _ _
    generalize hq : lastV (vs v.S.rows a) = q
    have hq2 : lastOf v a = q := hq
    rw [hq2]
    refine vst_st (x := Z86) (y := q.1) len87 0 H rfl fun w H => ?_
    refine cl_mono (vis_spec H) ?_
    rintro r w ⟨rfl, H⟩
    have fin : ∀ w, St W (cel b1 (T86.cells q.1) 87 :: sto p.s v.S :: cel b (TV.cells (vval v p)) 35 :: mapE THe .i64 p.m1 v.held :: mapE (tInt .i64) .i64 p.m2 v.busy :: mapE TFt .i64 p.m3 v.fates :: l) w → St W (vaA b v :: l) w := fun w H => va_shut ((H.drop).front 1)
    by_cases c1 : isA a
    · rw [decide_eq_true c1, if_neg (by simp : ¬ (!true) = true), if_neg (show ¬ ¬ isA a by simp [c1])]
      by_cases c2 : q.2 = true
      · rw [if_pos c2, if_pos c2]
        exact ⟨rfl, fin _ H⟩
      · rw [if_neg c2, if_neg c2]
        refine cl_mono (check_spec (n := n) H) ?_
        rintro r w ⟨rfl, H⟩
        by_cases c3 : okAm n
        · have e : (if 0 ≤ n ∧ n ≤ 1000000000000000 then (0 : Int) else 40) = 0 := if_pos c3
          rw [e, if_neg (by simp), if_neg (by simp [c3])]
          refine ld_st (x := some (⟨p.s, 0, none⟩ : Addr)) 2 H rfl rfl rfl ?_
          refine nwS_st H fun b2 w H => ?_
          have H := row_new (sz := 2) (m := 1) rfl H
          refine cl_mono (put_spec (t := t) (xs := [⟨a, n⟩]) F.sto (by simp) (See.row (fun _ => rfl) 0 rfl) (H.front 2)) ?_
          rintro r w ⟨_, H⟩
          have H := va_shut (v := { v with S := putM v.S t [⟨a, n⟩] }) (p := p) ((H.ord [3, 0, 4, 5, 6]))
          refine cl_mono (met_spec (t := t) H) ?_
          intro r w H
          exact ⟨rfl, (((H.front 1).drop).front 1).drop⟩
        · have e : (if 0 ≤ n ∧ n ≤ 1000000000000000 then (0 : Int) else 40) = 40 := if_neg c3
          rw [e, if_pos (by simp), if_pos c3]
          exact ⟨rfl, fin _ H⟩
    · rw [decide_eq_false c1, if_pos (by simp : (!false) = true), if_pos c1]
      exact ⟨rfl, fin _ H⟩
  · rw [if_pos (by simpa using c0), if_pos c0]
    exact ⟨rfl, H⟩
theorem vwhy_spec {b : Nat} {v : Va} {p : Part} (F : Fit v) (H : St W (vaA b v :: l) w) : cl Tryz.prog 39 [.pointer (some ⟨b, 0, none⟩), T52.enc p] (tTup2 (tInt .i64) (tInt .i64)) w fun r w' => r = whyV v p ∧ St W (vaA b v :: l) w' := by
  refine F39_ok ?_
  unfold F39
  refine nw_st H fun b1 w H => ?_
  refine dr_st H fun w H => ?_
  refine nc_st rfl ?_
  obtain ⟨q, H⟩ := va_open (H.front 1)
  refine ld_st (x := some q.m3) 0 H rfl rfl rfl ?_
  refine ld_st (x := p.ID) 5 H rfl rfl rfl ?_
  refine mget_st 4 H rfl rfl ?_
  refine nw_st H fun b2 w H => ?_
  refine vst_st (x := Z69) (y := (v.fates.lookup p.ID).getD Z69) len70 0 H rfl fun w H => ?_
  refine dr_st H fun w H => ?_
  refine ld_st (x := some (⟨q.s, 0, none⟩ : Addr)) 1 H rfl rfl rfl ?_
  refine ld_st (x := p.Account) 6 H rfl rfl rfl ?_
  have H := H.drop
  have j1 : ∀ (b3 : Nat) (w : World), St W (cel b3 (T86.cells (lastOf v p.Account).1) 87 :: sto q.s v.S :: cel b (TV.cells (vval v q)) 35 :: mapE THe .i64 q.m1 v.held :: mapE (tInt .i64) .i64 q.m2 v.busy :: mapE TFt .i64 q.m3 v.fates :: cel b1 (T52.cells p) 53 :: l) w →
      F39_j1 ⟨b1, 0, none⟩ ⟨b, 0, none⟩ (v.fates.lookup p.ID) ⟨b3, 0, none⟩ (lastOf v p.Account).2 w fun r w' => r = whyV v p ∧ St W (vaA b v :: l) w' := by
    intro b3 w H
    have fin : ∀ w, St W (cel b3 (T86.cells (lastOf v p.Account).1) 87 :: sto q.s v.S :: cel b (TV.cells (vval v q)) 35 :: mapE THe .i64 q.m1 v.held :: mapE (tInt .i64) .i64 q.m2 v.busy :: mapE TFt .i64 q.m3 v.fates :: cel b1 (T52.cells p) 53 :: l) w → St W (vaA b v :: l) w :=
      fun w H => (va_shut (p := q) ((H.drop).front 1) |>.front 1).drop
    unfold F39_j1 whyV
    refine dr_st H fun w H => ?_
    refine ld_st (x := some q.m2) 2 H rfl rfl rfl ?_
    refine ld_st (x := p.Account) 6 H rfl rfl rfl ?_
    refine mget_st 4 H rfl rfl ?_
    refine ld_st (x := p.ID) 6 H rfl rfl rfl ?_
    by_cases c1 : p.ID < 1
    · rw [if_pos (by simpa using c1), if_pos c1]; exact ⟨rfl, fin _ H⟩
    · rw [if_neg (by simpa using c1), if_neg c1]
      by_cases c2 : (v.fates.lookup p.ID).isSome = true
      · rw [if_pos c2, if_pos c2]; exact ⟨rfl, fin _ H⟩
      · rw [if_neg c2, if_neg c2]
        refine ld_st (x := some q.m3) 2 H rfl rfl rfl ?_
        refine mlen_st 5 H rfl rfl ?_
        by_cases c3 : 5000 ≤ v.fates.length
        · rw [if_pos (by simp; omega), if_pos c3]; exact ⟨rfl, fin _ H⟩
        · rw [if_neg (by simp; omega), if_neg c3]
          refine ld_st (x := p.Account) 6 H rfl rfl rfl ?_
          refine cl_mono (vis_spec H) ?_
          rintro r w ⟨rfl, H⟩
          by_cases c4 : isA p.Account
          · rw [decide_eq_true c4, if_neg (by simp), if_neg (show ¬ ¬ isA p.Account by simp [c4])]
            refine ld_st (x := p.N) 6 H rfl rfl rfl ?_
            have j2 : ∀ (t : Bool) (w : World), (t = true ↔ p.N < 1 ∨ ¬ okAm p.N) → St W (cel b3 (T86.cells (lastOf v p.Account).1) 87 :: sto q.s v.S :: cel b (TV.cells (vval v q)) 35 :: mapE THe .i64 q.m1 v.held :: mapE (tInt .i64) .i64 q.m2 v.busy :: mapE TFt .i64 q.m3 v.fates :: cel b1 (T52.cells p) 53 :: l) w →
                F39_j2 ⟨b1, 0, none⟩ ⟨b, 0, none⟩ ⟨b3, 0, none⟩ (lastOf v p.Account).2 (v.busy.lookup p.Account) t w fun r w' => r = (if p.N < 1 ∨ ¬ okAm p.N then (0, 155) else if (lastOf v p.Account).2 = false then (0, 159) else if (v.busy.lookup p.Account).isSome = true then (0, 160)
                  else if p.Pays = false then (if okAm (lastOf v p.Account).1.V ∧ (lastOf v p.Account).1.V + p.N ≤ 1000000000000000 then (0, 0) else (0, 162))
                  else if (lastOf v p.Account).1.V < p.N + feeF p.N v.rate then (0, 161) else (feeF p.N v.rate, 0)) ∧ St W (vaA b v :: l) w' := by
              intro t w ht H
              unfold F39_j2
              by_cases c5 : p.N < 1 ∨ ¬ okAm p.N
              · rw [if_pos (ht.2 c5), if_pos c5]; exact ⟨rfl, fin _ H⟩
              · rw [if_neg (fun h => c5 (ht.1 h)), if_neg c5]
                have e5 : okAm p.N := Classical.byContradiction fun hc => c5 (.inr hc)
                by_cases c6 : (lastOf v p.Account).2 = false
                · rw [if_pos (by simp [c6]), if_pos c6]; exact ⟨rfl, fin _ H⟩
                · rw [if_neg (by simpa using c6), if_neg c6]
                  by_cases c7 : (v.busy.lookup p.Account).isSome = true
                  · rw [if_pos c7, if_pos c7]; exact ⟨rfl, fin _ H⟩
                  · rw [if_neg c7, if_neg c7]
                    refine ld_st (x := p.Pays) 6 H rfl rfl rfl ?_
                    by_cases c8 : p.Pays = false
                    · rw [if_pos (by simp [c8]), if_pos c8]
                      refine ld_st (x := (lastOf v p.Account).1.V) 0 H rfl rfl rfl ?_
                      refine ld_st (x := p.N) 6 H rfl rfl rfl ?_
                      refine cl_mono (add_spec H) ?_
                      rintro r w ⟨h1, h2, H⟩
                      by_cases c9 : okAm (lastOf v p.Account).1.V ∧ (lastOf v p.Account).1.V + p.N ≤ 1000000000000000
                      · rw [if_neg (by simp [h1.2 ⟨c9.1, e5, c9.2⟩]), if_pos c9]; exact ⟨rfl, fin _ H⟩
                      · rw [if_pos (by simp; exact fun h => c9 ⟨(h1.1 h).1, (h1.1 h).2.2⟩), if_neg c9]; exact ⟨rfl, fin _ H⟩
                    · rw [if_neg (by simpa using c8), if_neg c8]
                      refine dr_st H fun w H => ?_
                      refine ld_st (x := p.N) 6 H rfl rfl rfl ?_
                      refine ld_st (x := v.rate) 2 H rfl rfl rfl ?_
                      refine cl_mono (fee_spec e5.1 e5.2 F.rate H) ?_
                      rintro r w ⟨rfl, H⟩
                      refine ld_st (x := (lastOf v p.Account).1.V) 0 H rfl rfl rfl ?_
                      refine ld_st (x := p.N) 6 H rfl rfl rfl ?_
                      have hf := feeF_le e5.1 e5.2 F.rate
                      have hn := e5.2
                      have hn0 := e5.1
                      have e : IntKind.i64.wrap (p.N + (feeF p.N v.rate, (0 : Int)).1) = p.N + feeF p.N v.rate := wrap_i64 (by simp only; omega) (by simp only; omega)
                      rw [e]
                      by_cases c9 : (lastOf v p.Account).1.V < p.N + feeF p.N v.rate
                      · rw [if_pos (by simpa using c9), if_pos c9]; exact ⟨rfl, fin _ H⟩
                      · rw [if_neg (by simpa using c9), if_neg c9]; exact ⟨rfl, fin _ H⟩
            by_cases c5 : p.N < 1
            · rw [if_pos (by simpa using c5)]
              exact j2 true w ⟨fun _ => .inl c5, fun _ => rfl⟩ H
            · rw [if_neg (by simpa using c5)]
              refine ld_st (x := p.N) 6 H rfl rfl rfl ?_
              refine cl_mono (check_spec H) ?_
              rintro r w ⟨rfl, H⟩
              refine j2 _ w ?_ H
              by_cases c6 : okAm p.N
              · have e : (if 0 ≤ p.N ∧ p.N ≤ 1000000000000000 then (0 : Int) else 40) = 0 := if_pos c6
                rw [e]
                simp [c5, c6]
              · have e : (if 0 ≤ p.N ∧ p.N ≤ 1000000000000000 then (0 : Int) else 40) = 40 := if_neg c6
                rw [e]
                simp [c6]
          · rw [decide_eq_false c4, if_pos (by simp), if_pos c4]; exact ⟨rfl, fin _ H⟩
  refine ⟨?_, ?_⟩
  · refine cl_mono (slast_spec (k := p.Account) F.sto (H.front 1)) ?_
    rintro r w ⟨rfl, H⟩
    refine nw_st H fun b3 w H => ?_
    show st T86 _ (lastOf v p.Account).1 _ _
    refine vst_st (x := Z86) (y := (lastOf v p.Account).1) len87 0 H rfl fun w H => ?_
    exact j1 b3 w H
  · refine nw_st H fun b3 w H => ?_
    refine cl_mono (slast_spec (k := p.Account) F.sto (H.front 2)) ?_
    rintro r w ⟨rfl, H⟩
    show st T86 _ (lastOf v p.Account).1 _ _
    refine vst_st (x := Z86) (y := (lastOf v p.Account).1) len87 1 H rfl fun w H => ?_
    exact j1 b3 w H
theorem vhold_spec {b : Nat} {v : Va} {t : Int} {p : Part} (F : Fit v) (H : St W (vaA b v :: l) w) : cl Tryz.prog 21 [.pointer (some ⟨b, 0, none⟩), .int .i64 t, T52.enc p] (tInt .i64) w fun r w' => r = (holdV v t p).2 ∧ St W (vaA b (holdV v t p).1 :: l) w' := by
  refine F21_ok ?_
  unfold F21 holdV
  refine nw_st H fun b1 w H => ?_
  refine cl_mono (vnext_spec (t := t) (H.front 1)) ?_
  rintro r w ⟨rfl, H⟩
  by_cases c0 : nextE v t = 0
  · rw [if_neg (by simp [c0]), if_neg (by simp [c0])]
    refine vld_st (x := p) 1 H rfl ?_
    refine cl_mono (vwhy_spec (p := p) F H) ?_
    rintro r w ⟨rfl, H⟩
    by_cases c1 : (whyV v p).2 = 0
    · rw [if_neg (by simp [c1]), if_neg (by simp [c1])]
      refine dr_st H fun w H => ?_
      refine nc_st rfl ?_
      obtain ⟨q, H⟩ := va_open H
      refine ld_st (x := some q.m1) 0 H rfl rfl rfl ?_
      refine ld_st (x := p.ID) 5 H rfl rfl rfl ?_
      refine vld_st (x := p) 5 H rfl ?_
      refine mput_st 2 H rfl rfl fun w H => ?_
      refine dr_st H fun w H => ?_
      refine ld_st (x := some q.m2) 1 H rfl rfl rfl ?_
      refine ld_st (x := p.Account) 5 H rfl rfl rfl ?_
      refine ld_st (x := p.ID) 5 H rfl rfl rfl ?_
      refine mput_st 3 H rfl rfl fun w H => ?_
      refine dr_st H fun w H => ?_
      refine ld_st (x := some q.m3) 2 H rfl rfl rfl ?_
      refine ld_st (x := p.ID) 5 H rfl rfl rfl ?_
      refine mput_st 4 H rfl rfl fun w H => ?_
      have H := va_shut (v := { v with held := ups p.ID ⟨p, t, (whyV v p).1⟩ v.held, busy := ups p.Account p.ID v.busy, fates := ups p.ID ⟨1, t⟩ v.fates }) (p := q) (H.ord [3, 4, 2, 1, 0])
      refine cl_mono (met_spec (t := t) H) ?_
      intro r w H
      exact ⟨rfl, (H.front 1).drop⟩
    · rw [if_pos (by simpa using c1), if_pos c1]
      exact ⟨rfl, (H.front 1).drop⟩
  · rw [if_pos (by simpa using c0), if_pos c0]
    exact ⟨rfl, (H.front 1).drop⟩
theorem free_spec {b : Nat} {v : Va} {h : Held} (H : St W (vaA b v :: l) w) : cl Tryz.prog 32 [.pointer (some ⟨b, 0, none⟩), THe.enc h] tUnit w fun _ w' => St W (vaA b (freeV v h) :: l) w' := by
  refine F32_ok ?_
  unfold F32
  refine nw_st H fun b1 w H => ?_
  refine dr_st H fun w H => ?_
  refine nc_st rfl ?_
  obtain ⟨q, H⟩ := va_open (H.front 1)
  refine ld_st (x := some q.m1) 0 H rfl rfl rfl ?_
  refine ld_st (x := h.Part.ID) 5 H rfl rfl rfl ?_
  refine mdel_st 2 H rfl rfl fun w H => ?_
  refine dr_st H fun w H => ?_
  refine ld_st (x := some q.m2) 1 H rfl rfl rfl ?_
  refine ld_st (x := h.Part.Account) 5 H rfl rfl rfl ?_
  refine mdel_st 3 H rfl rfl fun w H => ?_
  exact (va_shut (v := freeV v h) (p := q) (H.ord [2, 3, 1, 0, 4]) |>.front 1).drop
theorem change_spec {b : Nat} {v : Va} {h : Held} {q : VaP} (F : Fit v) (H : St W (cel b (TV.cells (vval v q)) 35 :: sto q.s v.S :: l) w) : cl Tryz.prog 31 [.pointer (some ⟨b, 0, none⟩), THe.enc h] tSlc w fun r w' => St W (row T62 63 2 r (changeV v h) :: cel b (TV.cells (vval v q)) 35 :: sto q.s v.S :: l) w' := by
  refine F31_ok ?_
  unfold F31 changeV
  refine nw_st H fun b1 w H => ?_
  refine ld_st (x := h.Part.Account) 0 H rfl rfl rfl ?_
  refine nc_st rfl ?_
  refine ld_st (x := some (⟨q.s, 0, none⟩ : Addr)) 1 H rfl rfl rfl ?_
  refine cl_mono (slast_spec (k := h.Part.Account) F.sto (H.front 2)) ?_
  rintro r w ⟨rfl, H⟩
  refine nw_st H fun b2 w H => ?_
  show st T86 _ (lastOf v h.Part.Account).1 _ _
  refine vst_st (x := Z86) (y := (lastOf v h.Part.Account).1) len87 0 H rfl fun w H => ?_
  refine ld_st (x := h.Part.Pays) 2 H rfl rfl rfl ?_
  by_cases c : h.Part.Pays = false
  · rw [if_pos (by simp [c]), if_pos c]
    refine ld_st (x := (lastOf v h.Part.Account).1.V) 0 H rfl rfl rfl ?_
    refine ld_st (x := h.Part.N) 2 H rfl rfl rfl ?_
    refine nwS_st H fun b3 w H => ?_
    have H := row_new (sz := 2) (m := 1) rfl H
    exact ((((H.front 1).drop.front 2).drop).ord [0, 2, 1])
  · rw [if_neg (by simpa using c), if_neg c]
    refine ld_st (x := (lastOf v h.Part.Account).1.V) 0 H rfl rfl rfl ?_
    refine ld_st (x := h.Part.N) 2 H rfl rfl rfl ?_
    refine ld_st (x := h.Fee) 2 H rfl rfl rfl ?_
    refine nwS_st H fun b3 w H => ?_
    have H := row_new (sz := 2) (m := 1) rfl H
    refine ld_st (x := h.Fee) 3 H rfl rfl rfl ?_
    unfold F31_j1
    by_cases d : h.Fee > 0
    · rw [if_pos (by simpa using d), if_pos d]
      refine ld_st (x := some (⟨q.s, 0, none⟩ : Addr)) 4 H rfl rfl rfl ?_
      generalize hpk : IntKind.i64.wrap (4096 + h.Part.Account) = pk
      refine cl_mono (slast_spec (k := pk) F.sto (H.front 2)) ?_
      rintro r w ⟨rfl, H⟩
      refine nw_st H fun b4 w H => ?_
      show st T86 _ (lastOf v pk).1 _ _
      refine vst_st (x := Z86) (y := (lastOf v pk).1) len87 0 H rfl fun w H => ?_
      refine ld_st (x := (lastOf v pk).1.V) 0 H rfl rfl rfl ?_
      refine ld_st (x := h.Fee) 4 H rfl rfl rfl ?_
      refine apl_row (fun _ => rfl) 2 H rfl (by simp) fun r w H => ?_
      have H := ((((H.front 1).drop).front 2).drop.front 2).drop
      exact H.ord [0, 2, 1]
    · rw [if_neg (by simpa using d), if_neg d]
      have H := (H.front 1).drop
      have H := (H.front 2).drop
      exact H.ord [0, 2, 1]
theorem change_len (v : Va) (h : Held) : (changeV v h).length ≤ 2 := by
  unfold changeV
  split
  · simp
  · split <;> simp
theorem commit_spec {b : Nat} {v : Va} {t id : Int} (F : Fit v) (H : St W (vaA b v :: l) w) : cl Tryz.prog 15 [.pointer (some ⟨b, 0, none⟩), .int .i64 t, .int .i64 id] (tInt .i64) w fun r w' => r = (commitV v t id).2 ∧ St W (vaA b (commitV v t id).1 :: l) w' := by
  refine F15_ok ?_
  unfold F15 commitV
  by_cases c0 : t < 1 ∨ t > 1125899906842624
  · rw [if_pos (by simpa using c0), if_pos c0]; exact ⟨rfl, H⟩
  · rw [if_neg (by simpa using c0), if_neg c0]
    refine nc_st rfl ?_
    obtain ⟨q, H⟩ := va_open H
    refine ld_st (x := some q.m3) 0 H rfl rfl rfl ?_
    refine mget_st 4 H rfl rfl ?_
    refine nw_st H fun b1 w H => ?_
    show st T69 _ (fateV v id) _ _
    refine vst_st (x := Z69) (y := fateV v id) len70 0 H rfl fun w H => ?_
    refine ld_st (x := (fateV v id).what) 0 H rfl rfl rfl ?_
    by_cases c1 : (fateV v id).what = 2
    · rw [if_pos (by simpa using c1), if_pos c1]
      refine ld_st (x := (fateV v id).t_) 0 H rfl rfl rfl ?_
      by_cases c2 : (fateV v id).t_ = t
      · rw [if_neg (by simp [c2]), if_neg (by simp [c2])]
        exact ⟨rfl, va_shut (p := q) H.drop⟩
      · rw [if_pos (by simpa using c2), if_pos c2]
        exact ⟨rfl, va_shut (p := q) H.drop⟩
    · rw [if_neg (by simpa using c1), if_neg c1]
      by_cases c2 : (fateV v id).what = 1
      · rw [if_pos (by simpa using c2), if_pos c2]
        refine ld_st (x := some q.m1) 1 H rfl rfl rfl ?_
        refine mget_st 3 H rfl rfl ?_
        refine nw_st H fun b2 w H => ?_
        show st THe _ (heldOf v id) _ _
        refine vst_st (x := Z54) (y := heldOf v id) len55 0 H rfl fun w H => ?_
        refine ld_st (x := (heldOf v id).T_) 0 H rfl rfl rfl ?_
        by_cases c3 : t < (heldOf v id).T_
        · rw [if_pos (by simpa using c3), if_pos c3]
          exact ⟨rfl, va_shut (p := q) H.drop.drop⟩
        · rw [if_neg (by simpa using c3), if_neg c3]
          generalize heldOf v id = h at *
          refine dr_st H fun w H => ?_
          refine ld_st (x := some (⟨q.s, 0, none⟩ : Addr)) 2 H rfl rfl rfl ?_
          refine vld_st (x := h) 0 H rfl ?_
          refine cl_mono (change_spec (h := h) (q := q) F (H.ord [2, 3])) ?_
          intro r w H
          have hcl := change_len v h
          refine ⟨rdat_cel tPtr (H.front 1) rfl rfl, ?_⟩
          refine cl_mono (put_spec (t := t) (xs := changeV v h) F.sto (by omega) (See.row (fun _ => rfl) 0 rfl) (H.front 2)) ?_
          rintro r w ⟨_, H⟩
          have H := (H.front 1).drop
          refine ⟨rdat_cel THe (H.front 2) rfl (at_all _), ?_⟩
          refine vld_st (x := h) 2 H rfl ?_
          have H := va_shut (v := { v with S := putM v.S t (changeV v h) }) (p := q) (H.ord [1, 0, 4, 5, 6])
          refine cl_mono (free_spec (h := h) H) ?_
          intro r w H
          obtain ⟨q', H⟩ := va_open H
          refine ld_st (x := some q'.m3) 0 H rfl rfl rfl ?_
          refine mput_st 4 H rfl rfl fun w H => ?_
          have H := va_shut (v := { freeV v h with S := putM v.S t (changeV v h), fates := ups id ⟨2, t⟩ v.fates }) (p := q') (H.ord [1, 2, 3, 4, 0])
          refine cl_mono (met_spec (t := t) H) ?_
          intro r w H
          exact ⟨rfl, (((H.front 1).drop).front 1).drop⟩
      · rw [if_neg (by simpa using c2), if_neg c2]
        exact ⟨rfl, va_shut (p := q) H.drop⟩
theorem drop_spec {b : Nat} {v : Va} {id : Int} (H : St W (vaA b v :: l) w) : cl Tryz.prog 16 [.pointer (some ⟨b, 0, none⟩), .int .i64 id] (tInt .i64) w fun r w' => r = (dropV v id).2 ∧ St W (vaA b (dropV v id).1 :: l) w' := by
  refine F16_ok ?_
  unfold F16 dropV
  refine nc_st rfl ?_
  obtain ⟨q, H⟩ := va_open H
  refine ld_st (x := some q.m3) 0 H rfl rfl rfl ?_
  refine mget_st 4 H rfl rfl ?_
  refine nw_st H fun b1 w H => ?_
  show st T69 _ (fateV v id) _ _
  refine vst_st (x := Z69) (y := fateV v id) len70 0 H rfl fun w H => ?_
  by_cases c0 : id < 1
  · rw [if_pos (by simpa using c0), if_pos c0]
    exact ⟨rfl, va_shut (p := q) H.drop⟩
  · rw [if_neg (by simpa using c0), if_neg c0]
    refine ld_st (x := (fateV v id).what) 0 H rfl rfl rfl ?_
    by_cases c1 : (fateV v id).what = 2
    · rw [if_pos (by simpa using c1), if_pos c1]
      exact ⟨rfl, va_shut (p := q) H.drop⟩
    · rw [if_neg (by simpa using c1), if_neg c1]
      refine ex_i ⟨b, 0, none⟩ (fun _ => rfl) ?_
      refine ex_i (some q.m3) (fun _ => rdat_cel tMap (H.front 1) rfl rfl) ?_
      refine mlenG_st (g := !((v.fates.lookup id).isSome)) 5 H rfl rfl ?_
      have j1 : ∀ (w : World), St W (vaA b (gone_ v id) :: l) w → F16_j1 id ⟨b, 0, none⟩ w fun r w' => r = 0 ∧ St W (vaA b { gone_ v id with fates := ups id ⟨3, 0⟩ v.fates } :: l) w' := by
        intro w H
        have hf : (gone_ v id).fates = v.fates := by unfold gone_; split <;> rfl
        unfold F16_j1
        obtain ⟨q', H⟩ := va_open H
        refine ld_st (x := some q'.m3) 0 H rfl rfl rfl ?_
        refine mput_st 4 H rfl rfl fun w H => ?_
        rw [hf] at H
        exact ⟨rfl, va_shut (v := { gone_ v id with fates := ups id ⟨3, 0⟩ v.fates }) (p := q') (H.ord [1, 2, 3, 4, 0])⟩
      by_cases c2 : (v.fates.lookup id).isSome = false ∧ 5000 ≤ v.fates.length
      · rw [if_pos (by simp only [c2.1]; simp; omega), if_pos c2]
        exact ⟨rfl, va_shut (p := q) H.drop⟩
      · rw [if_neg (by
          intro hc
          rw [Bool.and_eq_true] at hc
          refine c2 ⟨by simpa using hc.1, ?_⟩
          have := hc.2
          simp at this
          omega), if_neg c2]
        refine ld_st (x := some q.m1) 1 H rfl rfl rfl ?_
        refine mget_st 3 H rfl rfl ?_
        refine nw_st H fun b2 w H => ?_
        show st THe _ (heldOf v id) _ _
        refine vst_st (x := Z54) (y := heldOf v id) len55 0 H rfl fun w H => ?_
        cases hh : v.held.lookup id with
        | some h =>
          rw [if_pos (by simp)]
          rw [heldOf_of hh] at H
          refine vld_st (x := h) 0 H rfl ?_
          have H := va_shut (p := q) (H.ord [2, 3, 4, 5, 6])
          refine cl_mono (free_spec (h := h) H) ?_
          intro r w H
          have hg : gone_ v id = freeV v h := by unfold gone_; rw [hh]
          exact j1 w (by rw [hg]; exact (((H.front 1).drop).front 1).drop)
        | none =>
          rw [if_neg (by simp)]
          have hg : gone_ v id = v := by unfold gone_; rw [hh]
          have H := va_shut (p := q) (H.ord [2, 3, 4, 5, 6])
          exact j1 w (by rw [hg]; exact (((H.front 1).drop).front 1).drop)
theorem vclose_spec {b : Nat} {v : Va} {t : Int} (H : St W (vaA b v :: l) w) : cl Tryz.prog 19 [.pointer (some ⟨b, 0, none⟩), .int .i64 t] (tInt .i64) w fun r w' => r = (closeV v t).2 ∧ St W (vaA b (closeV v t).1 :: l) w' := by
  refine F19_ok ?_
  unfold F19
  refine cl_mono (vin_spec (t := t) H) ?_
  rintro r w ⟨rfl, H⟩
  by_cases c0 : t < 0 ∨ t > 1125899906842624
  · have e : closeV v t = (v, 151) := by unfold closeV; rw [if_pos c0]
    rw [e, if_pos (by simp; omega)]
    exact ⟨rfl, H⟩
  · rw [if_neg (by simp; omega)]
    refine nc_st rfl ?_
    obtain ⟨q, H⟩ := va_open H
    refine ld_st (x := some q.m1) 0 H rfl rfl rfl ?_
    refine rng_st 2 H rfl rfl fun it w H => ?_
    refine lp_n (fun n _ w => ∃ left cur, n = left.length ∧ (∀ x ∈ left, x ∈ v.held) ∧ (v.held.any (fun e => decide (e.2.T_ ≤ t)) = left.any (fun e => decide (e.2.T_ ≤ t))) ∧ (left.map (·.1)).Nodup ∧ ∃ junk, St W (ranging THe .i64 q.m1 it v.held left cur :: cel b (TV.cells (vval v q)) 35 :: sto q.s v.S :: mapE (tInt .i64) .i64 q.m2 v.busy :: mapE TFt .i64 q.m3 v.fates :: (junk ++ l)) w) _ ⟨v.held, none, rfl, fun _ h => h, rfl, ?_, [], H⟩ ?_
    · exact ranging_nodup H
    clear H
    rintro c _ w ⟨left, cur, rfl, h1, h2, hn, junk, H⟩ K hK
    unfold F19_l1
    refine nxt_st 0 H rfl rfl (fun he H => ?_) fun x hx w H => ?_
    · subst he
      rw [if_neg (by simp)]
      have e : closeV v t = ({ v with S := closeM v.S t, top := max v.top t }, 0) := by
        unfold closeV; rw [if_neg c0, if_neg (by rw [h2]; simp)]
      rw [e]
      have H := ranging_done H
      refine ld_st (x := some (⟨q.s, 0, none⟩ : Addr)) 1 H rfl rfl rfl ?_
      refine cl_mono (close_spec (t := t) (H.front 2)) ?_
      rintro r w ⟨_, H⟩
      have H := va_shut (v := { v with S := closeM v.S t }) (p := q) (H.ord [2, 0, 1, 3, 4])
      refine cl_mono (met_spec (t := t) H) ?_
      intro r w H
      have H := H.perm (List.perm_middle.symm : (_ :: (junk ++ l)).Perm (junk ++ _ :: l))
      exact ⟨rfl, drops junk H⟩
    · rw [if_pos (by simp)]
      refine ent_st 0 H rfl rfl ?_
      refine nw_st H fun b1 w H => ?_
      refine vst_st (x := Z54) (y := x.2) len55 0 H rfl fun w H => ?_
      refine ld_st (x := x.2.T_) 0 H rfl rfl rfl ?_
      by_cases c1 : x.2.T_ ≤ t
      · rw [if_pos (by simpa using c1)]
        have e : closeV v t = (v, 160) := by
          unfold closeV; rw [if_neg c0, if_pos (List.any_eq_true.2 ⟨x, h1 x hx, by simpa using c1⟩)]
        rw [e]
        have H := ranging_done H.drop
        have H := va_shut (v := v) (p := q) (H.ord [1, 2, 0, 3, 4])
        have H := H.perm (List.perm_middle.symm : (_ :: (junk ++ l)).Perm (junk ++ _ :: l))
        exact ⟨rfl, drops junk H⟩
      · rw [if_neg (by simpa using c1)]
        refine hK _ _ _ (flt_lt hx) ⟨_, _, rfl, fun y hy => h1 y (List.mem_filter.1 hy).1, ?_, (hn.sublist (List.filter_sublist.map _)), junk, H.drop⟩
        rw [h2, List.any_filter, Bool.eq_iff_iff, List.any_eq_true, List.any_eq_true]
        constructor
        · rintro ⟨y, hy, hd⟩
          refine ⟨y, hy, ?_⟩
          rw [Bool.and_eq_true]
          refine ⟨?_, hd⟩
          rw [bne_iff_ne]
          intro hc
          have : y = x := nodup_inj hn y hy x hx hc
          subst this
          exact c1 (by simpa using hd)
        · rintro ⟨y, hy, hd⟩
          rw [Bool.and_eq_true] at hd
          exact ⟨y, hy, hd.2⟩
theorem vprune_spec {b : Nat} {v : Va} {t : Int} (F : Fit v) (H : St W (vaA b v :: l) w) : cl Tryz.prog 25 [.pointer (some ⟨b, 0, none⟩), .int .i64 t] (tInt .i64) w fun r w' => r = (pruneV v t).2 ∧ St W (vaA b (pruneV v t).1 :: l) w' := by
  refine F25_ok ?_
  unfold F25
  refine nc_st rfl ?_
  obtain ⟨q, H⟩ := va_open H
  refine ld_st (x := some (⟨q.s, 0, none⟩ : Addr)) 0 H rfl rfl rfl ?_
  refine cl_mono (prune_spec (t := t) F.sto (H.front 1)) ?_
  rintro r w ⟨rfl, H⟩
  refine cl_mono (told_spec H) ?_
  rintro r w ⟨rfl, H⟩
  exact ⟨rfl, va_shut (v := { v with S := pruneM v.S t }) (p := q) (H.front 1)⟩
theorem has_spec {b : Nat} {v : Va} {a t : Int} (F : Fit v) (H : St W (vaA b v :: l) w) : cl Tryz.prog 24 [.pointer (some ⟨b, 0, none⟩), .int .i64 a, .int .i64 t] (tTup2 (tInt .i64) (tInt .i64)) w fun r w' => r = hasV v a t ∧ St W (vaA b v :: l) w' := by
  refine F24_ok ?_
  unfold F24 hasV
  refine cl_mono (vis_spec H) ?_
  rintro r w ⟨rfl, H⟩
  by_cases c : isA a
  · rw [decide_eq_true c, if_neg (by simp : ¬ (!true) = true), if_neg (show ¬ ¬ isA a by simp [c])]
    refine nc_st rfl ?_
    obtain ⟨q, H⟩ := va_open H
    refine ld_st (x := some (⟨q.s, 0, none⟩ : Addr)) 0 H rfl rfl rfl ?_
    refine cl_mono (get_spec (k := a) (t := t) F.sto (H.front 1)) ?_
    rintro r w ⟨rfl, H⟩
    generalize getM v.S a t = g at *
    refine nw_st H fun b1 w H => ?_
    refine vst_st (x := Z86) (y := g.1) len87 0 H rfl fun w H => ?_
    refine dr_st H fun w H => ?_
    refine ld_st (x := g.1.V) 0 H rfl rfl rfl ?_
    refine cl_mono (told_spec H) ?_
    rintro r w ⟨rfl, H⟩
    refine ⟨rdat_cel (tInt .i64) H rfl rfl, ?_⟩
    exact ⟨rfl, va_shut (p := q) (H.drop.front 1)⟩
  · rw [decide_eq_false c, if_pos (by simp : (!false) = true), if_pos c]
    exact ⟨rfl, H⟩
theorem vsnap_spec {b : Nat} {v : Va} {t : Int} (F : Fit v) (H : St W (vaA b v :: l) w) : cl Tryz.prog 10 [.pointer (some ⟨b, 0, none⟩), .int .i64 t] (tTup2 tSlc (tInt .i64)) w fun r w' => r.2 = toldE (timeM v.S t) ∧ St W (row T62 63 2 r.1 (snapL v.S t) :: vaA b v :: l) w' := by
  refine F10_ok ?_
  unfold F10
  refine nc_st rfl ?_
  obtain ⟨q, H⟩ := va_open H
  refine ld_st (x := some (⟨q.s, 0, none⟩ : Addr)) 0 H rfl rfl rfl ?_
  refine cl_mono (snap_spec (t := t) F.sto (H.front 1)) ?_
  rintro ⟨r1, r2⟩ w ⟨hr, H⟩
  simp only at hr H
  subst hr
  refine cl_mono (told_spec H) ?_
  rintro r w ⟨rfl, H⟩
  exact ⟨rfl, (va_shut (p := q) (H.ord [2, 1, 3, 4, 5])).front 1⟩
theorem fate_spec {b : Nat} {v : Va} {id : Int} (H : St W (vaA b v :: l) w) : cl Tryz.prog 14 [.pointer (some ⟨b, 0, none⟩), .int .i64 id] (tTup2 (tInt .i64) (tInt .i64)) w fun r w' => r = ((fateV v id).what, (fateV v id).t_) ∧ St W (vaA b v :: l) w' := by
  refine F14_ok ?_
  unfold F14
  refine nc_st rfl ?_
  obtain ⟨q, H⟩ := va_open H
  refine ld_st (x := some q.m3) 0 H rfl rfl rfl ?_
  refine mget_st 4 H rfl rfl ?_
  refine nw_st H fun b1 w H => ?_
  show st T69 _ (fateV v id) _ _
  refine vst_st (x := Z69) (y := fateV v id) len70 0 H rfl fun w H => ?_
  refine dr_st H fun w H => ?_
  refine ld_st (x := (fateV v id).what) 0 H rfl rfl rfl ?_
  refine ld_st (x := (fateV v id).t_) 0 H rfl rfl rfl ?_
  exact ⟨rfl, va_shut (p := q) H.drop⟩
theorem top_spec {b : Nat} {v : Va} (H : St W (vaA b v :: l) w) : cl Tryz.prog 18 [.pointer (some ⟨b, 0, none⟩)] (tInt .i64) w fun r w' => r = v.top ∧ St W (vaA b v :: l) w' := by
  refine F18_ok ?_
  unfold F18
  refine nc_st rfl ?_
  obtain ⟨q, H⟩ := va_open H
  refine ld_st (x := v.top) 0 H rfl rfl rfl ?_
  exact ⟨rfl, va_shut (p := q) H⟩
theorem vclosed_spec {s : Nat} {M : Md} (H : St W (sto s M :: l) w) : cl Tryz.prog 9 [T29.enc (⟨some ⟨s, 0, none⟩⟩ : S29)] (tInt .i64) w fun r w' => r = M.closed ∧ St W (sto s M :: l) w' := by
  refine F9_ok ?_
  unfold F9
  refine nw_st H fun b1 w H => ?_
  refine ld_st (x := some (⟨s, 0, none⟩ : Addr)) 0 H rfl rfl rfl ?_
  refine cl_mono (closed_spec (H.front 1)) ?_
  rintro r w ⟨rfl, H⟩
  exact ⟨rfl, (H.front 1).drop⟩
theorem vmark_spec {s : Nat} {M : Md} (H : St W (sto s M :: l) w) : cl Tryz.prog 13 [T29.enc (⟨some ⟨s, 0, none⟩⟩ : S29)] (tInt .i64) w fun r w' => r = M.mark ∧ St W (sto s M :: l) w' := by
  refine F13_ok ?_
  unfold F13
  refine nw_st H fun b1 w H => ?_
  refine ld_st (x := some (⟨s, 0, none⟩ : Addr)) 0 H rfl rfl rfl ?_
  refine cl_mono (mark_spec (H.front 1)) ?_
  rintro r w ⟨rfl, H⟩
  exact ⟨rfl, (H.front 1).drop⟩
theorem held_spec {b : Nat} {v : Va} (F : Fit v) (H : St W (vaA b v :: l) w) : cl Tryz.prog 17 [.pointer (some ⟨b, 0, none⟩)] tSlc w fun r w' => St W (row THe 55 6 r (heldL v) :: vaA b v :: l) w' := by
  refine F17_ok ?_
  unfold F17
  refine nc_st rfl ?_
  obtain ⟨p, H⟩ := va_open H
  refine ld_st (x := some p.m1) 0 H rfl rfl rfl ?_
  refine F35_ok ?_
  unfold F35
  refine nw_st H fun bm w H => ?_
  have hrange : ∀ e ∈ v.held, -9223372036854775808 ≤ e.1 ∧ e.1 ≤ 9223372036854775807 := fun e he => by have := held_keys F e he; omega
  have hlen := held_len F
  refine cl_mono (sorted_keysB hrange (by omega) (H.ord [0, 3])) ?_
  rintro s w ⟨ks, hp, H⟩
  have hq : (ks.mergeSort fun x y => decide (x ≤ y)) = sortI (v.held.map (·.1)) := sortI_perm hp
  rw [hq] at H
  have hs := row_len H
  have hhl : heldL v = (sortI (v.held.map (·.1))).map (heldOf v) := rfl
  rw [hhl]
  have hql : (sortI (v.held.map (·.1))).length ≤ 5000 := by rw [(sortI_p _).length_eq, List.length_map]; omega
  generalize sortI (v.held.map (·.1)) = q at *
  have H := row_nil THe 55 6 H
  refine lp_i (fun x w => 0 ≤ x.2 ∧ x.2 ≤ q.length ∧ St W (row THe 55 6 x.1 ((q.take x.2.toNat).map (heldOf v)) :: row (tInt .i64) 3 1 s q :: cel bm [.map (some p.m1)] 31 :: mapE THe .i64 p.m1 v.held :: cel b (TV.cells (vval v p)) 35 :: sto p.s v.S :: mapE (tInt .i64) .i64 p.m2 v.busy :: mapE TFt .i64 p.m3 v.fates :: l) w) (fun x => (q.length - x.2).toNat)
    ⟨Int.le_refl 0, by simp only; omega, H⟩ ?_
  rintro ⟨out, i⟩ w ⟨h0, h1, H⟩
  simp only at h0 h1
  simp only
  unfold F17_l1
  rw [hs]
  split
  · rename_i hc2
    have hc2 : i < q.length := by simpa using hc2
    have e1 : IntKind.i64.wrap (i + 1) = i + 1 := wrap_i64 (by omega) (by omega)
    have hx : q[i.toNat]? = some q[i.toNat] := List.getElem?_eq_getElem (by omega)
    have htk : (q.take (i + 1).toNat).map (heldOf v) = (q.take i.toNat).map (heldOf v) ++ [heldOf v q[i.toNat]] := by
      rw [show (i + 1).toNat = i.toNat + 1 from by omega, List.take_succ_eq_append_getElem (by omega), List.map_append]; rfl
    obtain ⟨a, ha⟩ := row_ix (sz := 1) (i := i) (H.front 1) h0 hc2
    refine ex_i a ha ?_
    refine ex_i q[i.toNat] (rd_row (fun _ => rfl) ha hx (H.front 1)) ?_
    generalize q[i.toNat] = k at *
    refine ld_st (x := some p.m1) 4 H rfl rfl rfl ?_
    refine mget_st 3 H rfl rfl ?_
    show apl _ THe 6 48 _ [heldOf v k] _ _
    refine apl_row (fun _ => rfl) 0 H rfl (by simp only [List.length_map, List.length_take, List.length_singleton]; omega) fun s2 w7 H => ?_
    rw [e1]
    refine ⟨⟨by simp only; omega, by simp only; omega, ?_⟩, by simp only; omega⟩
    simp only
    rw [htk]
    exact H
  · rename_i hc2
    have hc2 : i = q.length := by simp at hc2; omega
    subst hc2
    have e : q.take ((q.length : Int)).toNat = q := by simp
    rw [e] at H
    have H := ((H.front 1).drop.front 1).drop
    exact (va_shut (p := p) (H.ord [2, 3, 1, 4, 5])).front 1
end
end Go.Proofs.YtpdaapffkdejoaaGreat.Vault
namespace Go.Proofs.YtpdaapffkdejoaaGreat.Vault
open Go Go.Proofs.YtpdaapffkdejoaaGreat.Cf Go.Proofs.YtpdaapffkdejoaaGreat.Store Go.Proofs.YtpdaapffkdejoaaGreat.Num
set_option linter.unusedVariables false
set_option linter.unusedSimpArgs false
set_option maxRecDepth 100000
abbrev OpL := S41
abbrev TOp := T41
def partL (o : OpL) : Part := ⟨o.ID, o.Account, o.N, o.Pays⟩
def oneV (v : Va) (o : OpL) : Va × Int :=
  if o.Kind = 0 then openV v o.T_ o.Account o.N else if o.Kind = 1 then holdV v o.T_ (partL o) else if o.Kind = 2 then commitV v o.T_ o.ID else if o.Kind = 3 then dropV v o.ID
  else if o.Kind = 4 then closeV v o.T_ else if o.Kind = 5 then pruneV v o.T_ else (v, 0)
theorem Fit.one {v : Va} (F : Fit v) {o : OpL} (h : o.ID ≤ 9223372036854775807) : Fit (oneV v o).1 := by
  unfold oneV
  split
  · exact F.open ..
  · split
    · exact F.hold h
    · split
      · exact F.commit ..
      · split
        · exact F.drop ..
        · split
          · exact F.close ..
          · split
            · exact F.prune ..
            · exact F
def v0 (r : Nat) : Va := ⟨r, ⟨[], 0, 0⟩, 0, [], [], []⟩
section
variable {W w : World} {l l' : List Assn}
theorem lenOp (y : OpL) : (TOp.cells y).length = 6 := rfl
theorem part_spec {o : OpL} (H : St W l w) : cl Tryz.prog 20 [TOp.enc o] T52 w fun r w' => r = partL o ∧ St W l w' := by
  refine F20_ok ?_
  unfold F20
  refine nw_st H fun b1 w H => ?_
  refine nw_st H fun b2 w H => ?_
  refine ld_st (x := o.ID) 1 H rfl rfl rfl ?_
  refine ld_st (x := o.Account) 1 H rfl rfl rfl ?_
  refine ld_st (x := o.N) 1 H rfl rfl rfl ?_
  refine ld_st (x := o.Pays) 1 H rfl rfl rfl ?_
  refine vst_st (x := Z52) (y := partL o) len53 0 H rfl fun w H => ?_
  refine vld_st (x := partL o) 0 H rfl ?_
  exact ⟨rfl, H.drop.drop⟩
theorem one_spec {b : Nat} {v : Va} {o : OpL} (F : Fit v) (H : St W (vaA b v :: l) w) : cl Tryz.prog 11 [.pointer (some ⟨b, 0, none⟩), TOp.enc o] (tInt .i64) w fun r w' => r = (oneV v o).2 ∧ St W (vaA b (oneV v o).1 :: l) w' := by
  refine F11_ok ?_
  unfold F11 oneV
  refine nw_st H fun b1 w H => ?_
  refine ld_st (x := o.Kind) 0 H rfl rfl rfl ?_
  by_cases c0 : o.Kind = 0
  · rw [if_pos (by simpa using c0), if_pos c0]
    refine ld_st (x := o.T_) 0 H rfl rfl rfl ?_
    refine ld_st (x := o.Account) 0 H rfl rfl rfl ?_
    refine ld_st (x := o.N) 0 H rfl rfl rfl ?_
    refine cl_mono (vopen_spec F (H.front 1)) ?_
    rintro r w ⟨rfl, H⟩
    exact ⟨rfl, (H.front 1).drop⟩
  · rw [if_neg (by simpa using c0), if_neg c0]
    by_cases c1 : o.Kind = 1
    · rw [if_pos (by simpa using c1), if_pos c1]
      refine dr_st H fun w H => ?_
      refine ld_st (x := o.T_) 0 H rfl rfl rfl ?_
      refine vld_st (x := o) 0 H rfl ?_
      refine cl_mono (part_spec H) ?_
      rintro r w ⟨rfl, H⟩
      refine ⟨rdat_cel (tInt .i64) H rfl rfl, ?_⟩
      refine cl_mono (vhold_spec F (H.front 1)) ?_
      rintro r w ⟨rfl, H⟩
      have H := H.front 1
      refine ⟨rdat_cel TOp H rfl (at_all _), ?_⟩
      exact ⟨rfl, H.drop⟩
    · rw [if_neg (by simpa using c1), if_neg c1]
      by_cases c2 : o.Kind = 2
      · rw [if_pos (by simpa using c2), if_pos c2]
        refine ld_st (x := o.T_) 0 H rfl rfl rfl ?_
        refine ld_st (x := o.ID) 0 H rfl rfl rfl ?_
        refine cl_mono (commit_spec F (H.front 1)) ?_
        rintro r w ⟨rfl, H⟩
        exact ⟨rfl, (H.front 1).drop⟩
      · rw [if_neg (by simpa using c2), if_neg c2]
        by_cases c3 : o.Kind = 3
        · rw [if_pos (by simpa using c3), if_pos c3]
          refine ld_st (x := o.ID) 0 H rfl rfl rfl ?_
          refine cl_mono (drop_spec (H.front 1)) ?_
          rintro r w ⟨rfl, H⟩
          exact ⟨rfl, (H.front 1).drop⟩
        · rw [if_neg (by simpa using c3), if_neg c3]
          by_cases c4 : o.Kind = 4
          · rw [if_pos (by simpa using c4), if_pos c4]
            refine ld_st (x := o.T_) 0 H rfl rfl rfl ?_
            refine cl_mono (vclose_spec (H.front 1)) ?_
            rintro r w ⟨rfl, H⟩
            exact ⟨rfl, (H.front 1).drop⟩
          · rw [if_neg (by simpa using c4), if_neg c4]
            by_cases c5 : o.Kind = 5
            · rw [if_pos (by simpa using c5), if_pos c5]
              refine ld_st (x := o.T_) 0 H rfl rfl rfl ?_
              refine cl_mono (vprune_spec F (H.front 1)) ?_
              rintro r w ⟨rfl, H⟩
              exact ⟨rfl, (H.front 1).drop⟩
            · rw [if_neg (by simpa using c5), if_neg c5]
              exact ⟨rfl, H.drop⟩
end
def R1 : Nat := 4576918229304087675
def pA : Part := ⟨1, 7, 200, true⟩
def w1 : Va := ⟨R1, ⟨[⟨1, ⟨7, 1000⟩⟩], 0, 0⟩, 1, [], [], []⟩
def w2 : Va := ⟨R1, ⟨[⟨1, ⟨7, 1000⟩⟩], 0, 0⟩, 5, [(1, ⟨pA, 5, 2⟩)], [(7, 1)], [(1, ⟨1, 5⟩)]⟩
def w3 : Va := ⟨R1, ⟨[⟨1, ⟨7, 1000⟩⟩], 4, 0⟩, 5, [(1, ⟨pA, 5, 2⟩)], [(7, 1)], [(1, ⟨1, 5⟩)]⟩
def w4 : Va := ⟨R1, ⟨[⟨1, ⟨7, 1000⟩⟩, ⟨9, ⟨7, 798⟩⟩, ⟨9, ⟨4103, 2⟩⟩], 4, 0⟩, 9, [], [], [(1, ⟨2, 9⟩)]⟩
def w5 : Va := ⟨R1, ⟨[⟨1, ⟨7, 1000⟩⟩, ⟨9, ⟨7, 798⟩⟩, ⟨9, ⟨4103, 2⟩⟩], 9, 0⟩, 9, [], [], [(1, ⟨2, 9⟩)]⟩
def w6 : Va := ⟨R1, ⟨[⟨1, ⟨7, 1000⟩⟩, ⟨9, ⟨7, 798⟩⟩, ⟨9, ⟨4103, 2⟩⟩], 9, 0⟩, 9, [], [], [(1, ⟨2, 9⟩), (3, ⟨3, 0⟩)]⟩
theorem aw1 : openV (v0 R1) 1 7 1000 = (w1, 0) := by kernel_rfl
theorem aw2 : holdV w1 5 pA = (w2, 0) := by kernel_rfl
theorem aw2b : holdV w2 6 ⟨2, 7, 1, false⟩ = (w2, 160) := by kernel_rfl
theorem aw3 : closeV w2 5 = (w2, 160) := by kernel_rfl
theorem aw3b : closeV w2 4 = (w3, 0) := by kernel_rfl
theorem aw4 : commitV w3 9 1 = (w4, 0) := by kernel_rfl
theorem aw5 : closeV w4 9 = (w5, 0) := by kernel_rfl
theorem aw5b : hasV w5 7 8 = (1000, 0) := by kernel_rfl
theorem aw5c : timeM w5.S 9 = 0 := by kernel_rfl
theorem aw5d : dropV w5 1 = (w5, 157) := by kernel_rfl
theorem aw6 : dropV w5 3 = (w6, 0) := by kernel_rfl
theorem aw6b : fateV w6 1 = ⟨2, 9⟩ := by kernel_rfl
theorem aw7 : (pruneV w6 9).2 = 0 := by kernel_rfl
theorem aw7b : (pruneV w6 9).1.top = 9 ∧ (pruneV w6 9).1.S.closed = 9 ∧ (pruneV w6 9).1.S.mark = 9 := by refine ⟨?_, ?_, ?_⟩ <;> kernel_rfl
theorem keysL {L : List Row} {ks : List Int} (h1 : ks.Pairwise fun x y => x < y) (h2 : ∀ r ∈ L, r.X.Key ∈ ks) (h3 : ∀ k ∈ ks, ∃ r ∈ L, r.X.Key = k) : keysOf L = ks :=
  keysOf_eq ⟨h1, fun k => ⟨fun h => vs_ne.2 (h3 k h), fun h => by obtain ⟨r, hr, e⟩ := vs_ne.1 h; rw [← e]; exact h2 r hr⟩⟩
theorem aw5e : snapL w5.S 9 = [⟨7, 798⟩, ⟨4103, 2⟩] := by
  unfold snapL
  rw [if_pos aw5c, keysL (ks := [7, 4103]) (by simp) (by simp [w5]) (by simp [w5])]
  kernel_rfl
theorem aw3c : heldL w3 = [⟨pA, 5, 2⟩] := by
  have : sortI (w3.held.map (·.1)) = [1] := by
    show sortI [1] = [1]
    unfold sortI
    simp
  unfold heldL
  rw [this]
  show [heldOf w3 1] = _
  rw [heldOf_of (h := ⟨pA, 5, 2⟩) (by kernel_rfl)]
theorem R1ok : rateOk R1 := .inr (by unfold R1; omega)
section
variable {W w : World} {l l' : List Assn}
theorem awake_spec (H : St W l w) : cl Tryz.prog 8 [] tBool w fun r w' => r = true ∧ St W l w' := by
  refine F8_ok ?_
  unfold F8
  refine cl_mono (new_spec (f := R1) (by unfold R1; omega) H) ?_
  rintro ⟨p, e⟩ w ⟨h1, _⟩
  obtain ⟨he, b, hp, H⟩ := h1 R1ok
  simp only at he hp
  subst he; subst hp
  rw [if_neg (by simp)]
  have F0 : Fit (v0 R1) := Fit.new R1ok
  have F1 := F0.open 1 7 1000
  refine cl_mono (vopen_spec (v := v0 R1) F0 H) ?_
  rintro r w ⟨hr, H⟩
  rw [aw1] at hr H F1
  simp only at hr H F1
  subst hr
  have F2 := F1.hold (t := 5) (p := pA) (by decide)
  refine cl_mono (vhold_spec (p := pA) F1 H) ?_
  rintro r w ⟨hr, H⟩
  rw [aw2] at hr H F2
  simp only at hr H F2
  subst hr
  refine cl_mono (vhold_spec (p := ⟨2, 7, 1, false⟩) F2 H) ?_
  rintro r w ⟨hr, H⟩
  rw [aw2b] at hr H
  simp only at hr H
  subst hr
  refine cl_mono (vclose_spec H) ?_
  rintro r w ⟨hr, H⟩
  rw [aw3] at hr H
  simp only at hr H
  subst hr
  have F3 := F2.close 4
  refine cl_mono (vclose_spec H) ?_
  rintro r w ⟨hr, H⟩
  rw [aw3b] at hr H F3
  simp only at hr H F3
  subst hr
  refine cl_mono (held_spec F3 H) ?_
  intro r14 w H
  rw [aw3c] at H
  have n14 := row_len H
  simp only [List.length_cons, List.length_nil] at n14
  have F4 := F3.commit 9 1
  refine cl_mono (commit_spec F3 (H.front 1)) ?_
  rintro r w ⟨hr, H⟩
  rw [aw4] at hr H F4
  simp only at hr H F4
  subst hr
  have F5 := F4.close 9
  refine cl_mono (vclose_spec H) ?_
  rintro r w ⟨hr, H⟩
  rw [aw5] at hr H F5
  simp only at hr H F5
  subst hr
  refine cl_mono (has_spec F5 H) ?_
  rintro r w ⟨hr, H⟩
  rw [aw5b] at hr
  subst hr
  refine cl_mono (vsnap_spec (t := 9) F5 H) ?_
  rintro ⟨r22, e22⟩ w ⟨hr, H⟩
  rw [aw5c] at hr
  rw [aw5e] at H
  simp only at hr H
  subst hr
  have n22 := row_len H
  simp only [List.length_cons, List.length_nil] at n22
  refine cl_mono (drop_spec (H.front 1)) ?_
  rintro r w ⟨hr, H⟩
  rw [aw5d] at hr H
  simp only at hr H
  subst hr
  have F6 := F5.drop 3
  refine cl_mono (drop_spec H) ?_
  rintro r w ⟨hr, H⟩
  rw [aw6] at hr H F6
  simp only at hr H F6
  subst hr
  refine cl_mono (fate_spec H) ?_
  rintro r w ⟨hr, H⟩
  rw [aw6b] at hr
  subst hr
  refine cl_mono (vprune_spec F6 H) ?_
  rintro r w ⟨hr, H⟩
  rw [aw7] at hr
  subst hr
  obtain ⟨e1, e2, e3⟩ := aw7b
  generalize (pruneV w6 9).1 = v7 at *
  obtain ⟨a31, ha31⟩ := row_ix (i := 0) (H.front 2) (by omega) (by simp)
  refine ex_i a31 (fun _ => ha31) ?_
  refine ex_i 2 (fun _ => fld_row (x := (⟨pA, 5, 2⟩ : Held)) (U := tInt .i64) (fun _ => rfl) ha31 rfl rfl (H.front 2)) ?_
  obtain ⟨a33, ha33⟩ := row_ix (i := 0) (H.front 1) (by omega) (by simp)
  refine ex_i a33 (fun _ => ha33) ?_
  refine ex_i 798 (fun _ => fld_row (x := (⟨7, 798⟩ : Ent)) (U := tInt .i64) (fun _ => rfl) ha33 rfl rfl (H.front 1)) ?_
  obtain ⟨a35, ha35⟩ := row_ix (i := 1) (H.front 1) (by omega) (by simp)
  refine ex_i a35 (fun _ => ha35) ?_
  refine ex_i 4103 (fun _ => fld_row (x := (⟨4103, 2⟩ : Ent)) (U := tInt .i64) (fun _ => rfl) ha35 rfl rfl (H.front 1)) ?_
  rw [if_pos (by simp [n14, n22, toldE])]
  have H := ((H.front 1).drop.front 1).drop
  refine cl_mono (top_spec H) ?_
  rintro r w ⟨hr, H⟩
  rw [e1] at hr
  subst hr
  unfold F8_j1
  rw [if_pos (by simp)]
  obtain ⟨q, H⟩ := va_open H
  refine nc_st rfl ?_
  refine ex_i (⟨some ⟨q.s, 0, none⟩⟩ : S29) (rdat_cel T29 H rfl rfl) ?_
  refine cl_mono (vclosed_spec (H.front 1)) ?_
  rintro r w ⟨hr, H⟩
  rw [e2] at hr
  subst hr
  unfold F8_j2
  rw [if_pos (by simp)]
  refine nc_st rfl ?_
  refine ex_i (⟨some ⟨q.s, 0, none⟩⟩ : S29) (rdat_cel T29 (H.front 1) rfl rfl) ?_
  refine cl_mono (vmark_spec H) ?_
  rintro r w ⟨hr, H⟩
  rw [e3] at hr
  subst hr
  unfold F8_j3
  exact ⟨rfl, H.drop.drop.drop.drop.drop⟩
end
end Go.Proofs.YtpdaapffkdejoaaGreat.Vault
namespace Go.Proofs.YtpdaapffkdejoaaGreat.Vault
open Go Go.Proofs.YtpdaapffkdejoaaGreat.Cf Go.Proofs.YtpdaapffkdejoaaGreat.Store Go.Proofs.YtpdaapffkdejoaaGreat.Num
set_option linter.unusedVariables false
set_option linter.unusedSimpArgs false
set_option maxRecDepth 100000
theorem heldL_key {v : Va} (F : Fit v) {k : Int} (h : k ∈ sortI (v.held.map (·.1))) : v.held.lookup k = some (heldOf v k) ∧ (heldOf v k).Part.ID = k := by
  obtain ⟨e, he, rfl⟩ := List.mem_map.1 ((sortI_p _).mem_iff.1 h)
  have hl := mem_look F.nodH (k := e.1) (v := e.2) he
  rw [heldOf_of hl]
  exact ⟨hl, (F.ids _ _ hl).1⟩
theorem heldL_look {v : Va} (F : Fit v) {h : Held} (hh : h ∈ heldL v) : v.held.lookup h.Part.ID = some h := by
  obtain ⟨k, hk, rfl⟩ := List.mem_map.1 hh
  obtain ⟨h1, h2⟩ := heldL_key F hk
  rw [h2]; exact h1
theorem heldL_mem {v : Va} (F : Fit v) {id : Int} {h : Held} (e : v.held.lookup id = some h) : h ∈ heldL v := by
  refine List.mem_map.2 ⟨id, (sortI_p _).mem_iff.2 (List.mem_map.2 ⟨_, look_mem e, rfl⟩), heldOf_of e⟩
theorem heldL_pw {v : Va} (F : Fit v) : (heldL v).Pairwise fun a b => a.Part.ID < b.Part.ID := by
  unfold heldL
  rw [List.pairwise_map]
  refine (sortI_lt F.nodH).imp_of_mem fun {a b} ha hb h => ?_
  rw [(heldL_key F ha).2, (heldL_key F hb).2]; exact h
theorem heldL_len {v : Va} (F : Fit v) : (heldL v).length ≤ 5000 := by
  unfold heldL
  rw [List.length_map, (sortI_p _).length_eq, List.length_map]
  exact held_len F
end Go.Proofs.YtpdaapffkdejoaaGreat.Vault
namespace Go.Proofs.YtpdaapffkdejoaaGreat.Store
open Go Go.Proofs.YtpdaapffkdejoaaGreat.Cf
set_option linter.unusedVariables false
set_option linter.unusedSimpArgs false
set_option maxRecDepth 100000
theorem snapK_mem {L : List Row} {t : Int} {ks : List Int} {y : S62} : y ∈ snapK L t ks ↔ y.Key ∈ ks ∧ ∃ v, cnt (vs L y.Key) t = some v ∧ y.V = v.V := by
  unfold snapK
  rw [List.mem_filterMap]
  constructor
  · rintro ⟨k, hk, h⟩
    obtain ⟨v, hv, rfl⟩ := Option.map_eq_some_iff.1 h
    exact ⟨hk, v, hv, rfl⟩
  · rintro ⟨hk, v, hv, e⟩
    refine ⟨y.Key, hk, ?_⟩
    rw [hv, Option.map_some, ← e]
theorem snapL_ok {M : Md} {t : Int} (h : timeM M t = 0) : snapL M t = snapK M.rows t (keysOf M.rows) := by unfold snapL; rw [if_pos h]
theorem snap_mem {M : Md} {t : Int} (h : timeM M t = 0) {y : S62} : y ∈ snapL M t ↔ ∃ v, cnt (vs M.rows y.Key) t = some v ∧ y.V = v.V := by
  rw [snapL_ok h, snapK_mem]
  constructor
  · exact fun h => h.2
  · rintro ⟨v, hv, e⟩
    refine ⟨((keysOf_ok M.rows).all _).2 fun h0 => ?_, v, hv, e⟩
    rw [h0] at hv; cases hv
theorem keysOf_len {M : Md} (hI : Inv M) : (keysOf M.rows).length ≤ 8192 := by
  have := rise_len (L := keysOf M.rows) (lo := 0) (hi := 8191) (keysOf_ok _).rise fun x hx => by
    obtain ⟨r, hr, e⟩ := vs_ne.1 (((keysOf_ok M.rows).all x).1 hx)
    have := hI.key r hr
    omega
  omega
theorem snap_len {M : Md} {t : Int} (hI : Inv M) : (snapL M t).length ≤ 8192 := by
  unfold snapL
  split
  · unfold snapK
    exact Nat.le_trans (List.length_filterMap_le _ _) (keysOf_len hI)
  · exact Nat.zero_le _
theorem timeM_of {M : Md} {t : Int} (h0 : 0 ≤ t) (h1 : t ≤ 1125899906842624) (h2 : t ≤ M.closed) (h3 : M.mark ≤ t) : timeM M t = 0 := by
  unfold timeM
  rw [if_neg (by omega), if_neg (by omega), if_neg (by omega)]
end Go.Proofs.YtpdaapffkdejoaaGreat.Store
namespace Go.Proofs.YtpdaapffkdejoaaGreat.Vault
open Go Go.Proofs.YtpdaapffkdejoaaGreat.Cf Go.Proofs.YtpdaapffkdejoaaGreat.Store Go.Proofs.YtpdaapffkdejoaaGreat.Num
set_option linter.unusedVariables false
set_option linter.unusedSimpArgs false
set_option maxRecDepth 100000
def val (L : List Row) (k : Int) : Int := (lastV (vs L k)).1.V
def sumK (g : Int → Int) : List Int → Int
  | [] => 0
  | k :: ks => g k + sumK g ks
theorem sumK_congr {g g' : Int → Int} : ∀ {ks : List Int}, (∀ k ∈ ks, g k = g' k) → sumK g ks = sumK g' ks
  | [], _ => rfl
  | k :: ks, h => by
    simp only [sumK]
    rw [h k (List.mem_cons_self ..), sumK_congr fun x hx => h x (List.mem_cons_of_mem _ hx)]
theorem sumK_upd {g g' : Int → Int} {k : Int} : ∀ {ks : List Int}, ks.Nodup → k ∈ ks → (∀ x, x ≠ k → g x = g' x) → sumK g' ks = sumK g ks + (g' k - g k)
  | [], _, h, _ => by cases h
  | x :: ks, hn, hk, he => by
    have hn' := List.nodup_cons.1 hn
    simp only [sumK]
    by_cases c : x = k
    · subst c
      rw [sumK_congr (g := g') (g' := g) fun y hy => (he y fun e => hn'.1 (by rw [← e]; exact hy)).symm]
      omega
    · have := sumK_upd hn'.2 ((List.mem_cons.1 hk).resolve_left (fun e => c e.symm)) he
      rw [this, he x c]; omega
theorem sumK_filter {g : Int → Int} {p : Int → Bool} : ∀ {ks : List Int}, (∀ k ∈ ks, p k = false → g k = 0) → sumK g (ks.filter p) = sumK g ks
  | [], _ => rfl
  | k :: ks, h => by
    have ih := sumK_filter (ks := ks) (g := g) (p := p) fun x hx => h x (List.mem_cons_of_mem _ hx)
    by_cases c : p k = true
    · rw [List.filter_cons_of_pos c]
      simp only [sumK, ih]
    · rw [List.filter_cons_of_neg c, ih]
      simp only [sumK]
      rw [h k (List.mem_cons_self ..) (by simpa using c)]; omega
theorem sumK_perm {g : Int → Int} {a b : List Int} (h : a.Perm b) : sumK g a = sumK g b := by
  induction h with
  | nil => rfl
  | cons x _ ih => simp only [sumK, ih]
  | swap x y l => simp only [sumK]; omega
  | trans _ _ h1 h2 => exact h1.trans h2
def allK : List Int := (List.range 8192).map Int.ofNat
theorem allK_nodup : allK.Nodup := by
  unfold allK
  exact List.Pairwise.map _ (fun a b h e => h (Int.ofNat.inj e)) List.nodup_range
theorem allK_mem {k : Int} (h0 : 0 ≤ k) (h1 : k ≤ 8191) : k ∈ allK := List.mem_map.2 ⟨k.toNat, List.mem_range.2 (by omega), by show Int.ofNat k.toNat = k; exact Int.toNat_of_nonneg h0⟩
def tot (L : List Row) : Int := sumK (val L) allK
theorem val_nil {L : List Row} {k : Int} (h : vs L k = []) : val L k = 0 := by unfold val lastV; rw [h]; rfl
theorem snap_sum {M : Md} {t : Int} (hI : Inv M) (h : timeM M t = 0) (hr : ∀ r ∈ M.rows, r.T_ ≤ t) : ((snapL M t).map fun e => e.V).sum = tot M.rows := by
  have hlast : ∀ k, cnt (vs M.rows k) t = (vs M.rows k).getLast? := by
    intro k
    unfold cnt upto
    rw [List.filter_eq_self.2]
    intro v hv
    obtain ⟨r, hr1, _, e, _⟩ := vs_mem hv
    have := hr r hr1
    simp; omega
  have h1 : ∀ ks : List Int, ((snapK M.rows t ks).map fun e => e.V).sum = sumK (val M.rows) ks := by
    intro ks
    induction ks with
    | nil => rfl
    | cons k ks ih =>
      unfold snapK at ih ⊢
      rw [List.filterMap_cons]
      simp only [sumK]
      rw [← ih, hlast k]
      unfold val lastV
      cases (vs M.rows k).getLast? with
      | none => simp
      | some v => simp
  rw [snapL_ok h, h1]
  unfold tot
  have hp : (allK.filter fun k => !(vs M.rows k).isEmpty).Perm (keysOf M.rows) := by
    refine (List.perm_ext_iff_of_nodup (allK_nodup.filter _) ((keysOf_ok M.rows).rise.imp fun h => Int.ne_of_lt h)).2 fun k => ?_
    rw [List.mem_filter, (keysOf_ok M.rows).all]
    constructor
    · rintro ⟨_, h⟩; simpa using h
    · intro h
      obtain ⟨r, hr1, e⟩ := vs_ne.1 h
      have := hI.key r hr1
      exact ⟨allK_mem (by omega) (by omega), by simpa using h⟩
  rw [← sumK_perm hp]
  exact sumK_filter fun k _ hk => val_nil (by simpa using hk)
theorem val_app {L : List Row} {t k : Int} {x : Ent} : val (L ++ [⟨t, x⟩]) k = if x.Key = k then x.V else val L k := by
  unfold val lastV
  rw [vs_app, vs_one]
  by_cases c : x.Key = k
  · rw [if_pos c, if_pos c]; simp
  · rw [if_neg c, if_neg c, List.append_nil]
theorem tot_app {L : List Row} {t : Int} {x : Ent} (h0 : 0 ≤ x.Key) (h1 : x.Key ≤ 8191) : tot (L ++ [⟨t, x⟩]) = tot L + (x.V - val L x.Key) := by
  unfold tot
  rw [sumK_upd (g := val L) (g' := val (L ++ ([⟨t, x⟩] : List Row))) (k := x.Key) allK_nodup (allK_mem h0 h1) fun y hy => by rw [val_app, if_neg (fun e => hy e.symm)]]
  rw [val_app, if_pos rfl]
theorem val_keep (m : Int) (L : List Row) (k : Int) : val (keep m L) k = val L k := by unfold val lastV; rw [vs_keep, last_keep]
theorem tot_keep (m : Int) (L : List Row) : tot (keep m L) = tot L := by unfold tot; exact sumK_congr fun k _ => val_keep m L k
structure Rich (v : Va) (n : Nat) (sum : Int) : Prop where
  cap : ∀ k, (vs v.S.rows k).length ≤ 2 * n
  acc : ∀ k, k < 4096 → 0 ≤ val v.S.rows k ∧ val v.S.rows k ≤ 1000000000000000
  paid : ∀ k, 4096 ≤ k → 0 ≤ val v.S.rows k ∧ val v.S.rows k ≤ 2000000000000000 * n
  tot : tot v.S.rows = sum
  small : -1000000000000000 * (n : Int) ≤ sum ∧ sum ≤ 1000000000000000 * (n : Int)
theorem Rich.more {v u : Va} {n m : Nat} {sum : Int} (h : Rich v n sum) (e : u.S.rows = v.S.rows) (hn : n ≤ m) : Rich u m sum :=
  ⟨fun k => by rw [e]; have := h.cap k; omega, fun k hk => by rw [e]; exact h.acc k hk, fun k hk => by rw [e]; have := h.paid k hk; omega, by rw [e]; exact h.tot, by have := h.small; omega⟩
theorem putE_one {M : Md} {t : Int} {x : Ent} (h0 : 1 ≤ t) (h1 : t ≤ 1125899906842624) (h2 : M.closed < t) (h3 : 0 ≤ x.Key) (h4 : x.Key ≤ 8191) (h5 : (lastV (vs M.rows x.Key)).1.T_ < t) (h6 : (vs M.rows x.Key).length < 10000) : putE M t [x] = 0 := by
  unfold putE
  rw [if_neg (by omega), if_neg (by omega), if_neg (by simp)]
  unfold whyL
  rw [if_neg (by omega), if_neg (by simp), if_neg (by omega), if_neg (by omega)]
  rfl
theorem putE_two {M : Md} {t : Int} {x y : Ent} (h0 : 1 ≤ t) (h1 : t ≤ 1125899906842624) (h2 : M.closed < t) (h3 : 0 ≤ x.Key) (h4 : x.Key ≤ 8191) (h5 : (lastV (vs M.rows x.Key)).1.T_ < t) (h6 : (vs M.rows x.Key).length < 10000)
    (g3 : 0 ≤ y.Key) (g4 : y.Key ≤ 8191) (g5 : (lastV (vs M.rows y.Key)).1.T_ < t) (g6 : (vs M.rows y.Key).length < 10000) (hne : y.Key ≠ x.Key) : putE M t [x, y] = 0 := by
  unfold putE
  rw [if_neg (by omega), if_neg (by omega), if_neg (by simp)]
  unfold whyL
  rw [if_neg (by omega), if_neg (by simp), if_neg (by omega), if_neg (by omega)]
  unfold whyL
  rw [if_neg (by omega), if_neg (by simpa using hne), if_neg (by omega), if_neg (by omega)]
  rfl
theorem last_lt {L : List Row} {k t : Int} (h0 : 0 < t) (h : ∀ r ∈ L, r.X.Key = k → r.T_ < t) : (lastV (vs L k)).1.T_ < t := by
  unfold lastV
  cases e : (vs L k).getLast? with
  | none => simpa using h0
  | some v =>
    obtain ⟨r, h1, h2, h3, _⟩ := vs_mem (List.mem_of_getLast? e)
    have := h r h1 h2
    simp only [Option.getD_some]; omega
def adds (v : Va) (o : OpL) : Int :=
  if (oneV v o).2 ≠ 0 then 0 else if o.Kind = 0 then o.N else if o.Kind = 2 then (match v.held.lookup o.ID with
    | some h => if h.Part.Pays = true then -h.Part.N else h.Part.N
    | none => 0) else 0
theorem rich_open {v : Va} {n : Nat} {sum : Int} (F : Fit v) (R : Rich v n sum) (hn : n ≤ 100) {t a x : Int} (h : (openV v t a x).2 = 0) : Rich (openV v t a x).1 (n + 1) (sum + x) ∧ okAm x := by
  unfold openV at h ⊢
  by_cases c1 : nextE v t = 0
  · rw [if_neg (by simp [c1])] at h ⊢
    obtain ⟨t0, t1, t2⟩ := nextE_ok c1
    by_cases c2 : isA a
    · rw [if_neg (by simp [c2])] at h ⊢
      by_cases c3 : (lastOf v a).2 = true
      · rw [if_pos c3] at h; simp at h
      · rw [if_neg c3] at h ⊢
        by_cases c4 : okAm x
        · rw [if_neg (by simp [c4])] at h ⊢
          refine ⟨?_, c4⟩
          have ht := F.top
          have e0 : vs v.S.rows a = [] := Classical.byContradiction fun hc => c3 (last_of_ne.2 hc)
          have hv0 := val_nil e0
          have ha0 := c2.1
          have ha1 := c2.2
          have hp : putE v.S t [⟨a, x⟩] = 0 := putE_one t0 t1 (by omega) (by simpa using ha0) (by simp only; omega) (last_lt (by omega) fun r hr _ => by have := F.rows r hr; omega) (by simp [e0])
          have er : (putM v.S t [⟨a, x⟩]).rows = v.S.rows ++ [⟨t, ⟨a, x⟩⟩] := by unfold putM; rw [if_pos hp]; rfl
          have x0 := c4.1
          have x1 := c4.2
          refine ⟨fun k => ?_, fun k hk => ?_, fun k hk => ?_, ?_, ?_⟩
          · show (vs (putM v.S t [⟨a, x⟩]).rows k).length ≤ _
            rw [er, vs_app, vs_one, List.length_append]
            have := R.cap k
            split
            · simp only [List.length_singleton]; omega
            · simp only [List.length_nil]; omega
          · show 0 ≤ val (putM v.S t [⟨a, x⟩]).rows k ∧ val (putM v.S t [⟨a, x⟩]).rows k ≤ _
            rw [er, val_app]
            split
            · exact ⟨x0, x1⟩
            · exact R.acc k hk
          · show 0 ≤ val (putM v.S t [⟨a, x⟩]).rows k ∧ val (putM v.S t [⟨a, x⟩]).rows k ≤ _
            rw [er, val_app, if_neg (by simp only; omega)]
            have := R.paid k hk
            omega
          · show tot (putM v.S t [⟨a, x⟩]).rows = _
            rw [er, tot_app (by simpa using ha0) (by simp only; omega), R.tot, hv0]; simp
          · have := R.small; omega
        · rw [if_pos (by simpa using c4)] at h; simp at h
    · rw [if_pos (by simpa using c2)] at h; simp at h
  · rw [if_pos (by simpa using c1)] at h; exact absurd h c1
theorem rich_done {v : Va} {n : Nat} {sum t id : Int} {h : Held} (F : Fit v) (R : Rich v n sum) (hn : n ≤ 100) (e : v.held.lookup id = some h) (h0 : h.T_ ≤ t) (h1 : t ≤ 1125899906842624) : Rich (doneV v t id h) (n + 1) (sum + if h.Part.Pays = true then -h.Part.N else h.Part.N) := by
  obtain ⟨g1, g2, g3, g4, g5, g6, g7, g8, g9, g10, g11, g12, ⟨b1, b2, b3⟩, g13⟩ := F.ids id h e
  have hm := F.sto.mark
  have ha0 := g4.1
  have ha1 := g4.2
  have hacc := R.acc h.Part.Account ha1
  have hpk := R.paid (4096 + h.Part.Account) (by omega)
  have ew : IntKind.i64.wrap (4096 + h.Part.Account) = 4096 + h.Part.Account := wrap_i64 (by omega) (by omega)
  have hl1 : (lastV (vs v.S.rows h.Part.Account)).1.T_ < t := last_lt (by omega) fun r hr hk => by have := g13 r hr (.inl hk); omega
  have hl2 : (lastV (vs v.S.rows (4096 + h.Part.Account))).1.T_ < t := last_lt (by omega) fun r hr hk => by have := g13 r hr (.inr hk); omega
  have hc1 := R.cap h.Part.Account
  have hc2 := R.cap (4096 + h.Part.Account)
  have hs := R.small
  have hbv : (lastOf v h.Part.Account).1.V = val v.S.rows h.Part.Account := rfl
  have hrow : (doneV v t id h).S.rows = (putM v.S t (changeV v h)).rows := rfl
  have one : ∀ (x : Int), changeV v h = [⟨h.Part.Account, x⟩] → 0 ≤ x → x ≤ 1000000000000000 → x - val v.S.rows h.Part.Account = (if h.Part.Pays = true then -h.Part.N else h.Part.N) → Rich (doneV v t id h) (n + 1) (sum + if h.Part.Pays = true then -h.Part.N else h.Part.N) := by
    intro x hx x0 x1 hd
    have hp : putE v.S t [⟨h.Part.Account, x⟩] = 0 := putE_one (by omega) h1 (by omega) (by simpa using ha0) (by simp only; omega) hl1 (by simp only; omega)
    have er : (doneV v t id h).S.rows = v.S.rows ++ [⟨t, ⟨h.Part.Account, x⟩⟩] := by rw [hrow, hx]; unfold putM; rw [if_pos hp]; rfl
    refine ⟨fun k => ?_, fun k hk => ?_, fun k hk => ?_, ?_, by split <;> omega⟩
    · rw [er, vs_app, vs_one, List.length_append]
      have := R.cap k
      split
      · simp only [List.length_singleton]; omega
      · simp only [List.length_nil]; omega
    · rw [er, val_app]
      split
      · exact ⟨x0, x1⟩
      · exact R.acc k hk
    · rw [er, val_app, if_neg (by simp only; omega)]
      have := R.paid k hk
      omega
    · rw [er, tot_app (by simpa using ha0) (by simp only; omega), R.tot]
      simp only
      rw [hd]
  by_cases c : h.Part.Pays = false
  · obtain ⟨q1, q2⟩ := b3 c
    have q3 := q1.1
    rw [hbv] at q1 q2 q3
    have ex : IntKind.i64.wrap ((lastOf v h.Part.Account).1.V + h.Part.N) = val v.S.rows h.Part.Account + h.Part.N := by rw [hbv]; exact wrap_i64 (by omega) (by omega)
    refine one (val v.S.rows h.Part.Account + h.Part.N) ?_ (by omega) q2 (by rw [if_neg (by simp [c])]; omega)
    unfold changeV
    rw [if_pos c, ex]
  · have c' : h.Part.Pays = true := by simpa using c
    have q2 := b2 c'
    rw [hbv] at q2
    have ex : IntKind.i64.wrap (IntKind.i64.wrap ((lastOf v h.Part.Account).1.V - h.Part.N) - h.Fee) = val v.S.rows h.Part.Account - h.Part.N - h.Fee := by
      rw [hbv, wrap_i64 (x := val v.S.rows h.Part.Account - h.Part.N) (by omega) (by omega)]; exact wrap_i64 (by omega) (by omega)
    by_cases d : h.Fee > 0
    · have ey : IntKind.i64.wrap ((lastOf v (4096 + h.Part.Account)).1.V + h.Fee) = val v.S.rows (4096 + h.Part.Account) + h.Fee := by
        have : (lastOf v (4096 + h.Part.Account)).1.V = val v.S.rows (4096 + h.Part.Account) := rfl
        rw [this]; exact wrap_i64 (by omega) (by omega)
      have hx : changeV v h = [⟨h.Part.Account, val v.S.rows h.Part.Account - h.Part.N - h.Fee⟩, ⟨4096 + h.Part.Account, val v.S.rows (4096 + h.Part.Account) + h.Fee⟩] := by
        unfold changeV
        rw [if_neg c, ex, if_pos d, ew, ey]
      have hp : putE v.S t [⟨h.Part.Account, val v.S.rows h.Part.Account - h.Part.N - h.Fee⟩, ⟨4096 + h.Part.Account, val v.S.rows (4096 + h.Part.Account) + h.Fee⟩] = 0 :=
        putE_two (by omega) h1 (by omega) (by simpa using ha0) (by simp only; omega) hl1 (by simp only; omega) (by simp only; omega) (by simp only; omega) hl2 (by simp only; omega) (by simp only; omega)
      have er : (doneV v t id h).S.rows = (v.S.rows ++ [⟨t, ⟨h.Part.Account, val v.S.rows h.Part.Account - h.Part.N - h.Fee⟩⟩]) ++ [⟨t, ⟨4096 + h.Part.Account, val v.S.rows (4096 + h.Part.Account) + h.Fee⟩⟩] := by
        rw [hrow, hx]; unfold putM; rw [if_pos hp]; simp [news]
      refine ⟨fun k => ?_, fun k hk => ?_, fun k hk => ?_, ?_, by split <;> omega⟩
      · rw [er, vs_app, vs_one, vs_app, vs_one, List.length_append, List.length_append]
        have := R.cap k
        split <;> split <;> simp only [List.length_singleton, List.length_nil] <;> omega
      · rw [er, val_app, if_neg (by simp only; omega), val_app]
        split
        · exact ⟨by simp only; omega, by simp only; omega⟩
        · exact R.acc k hk
      · rw [er, val_app]
        split
        · exact ⟨by simp only; omega, by simp only; omega⟩
        · rw [val_app, if_neg (by simp only; omega)]
          have := R.paid k hk
          omega
      · rw [er, tot_app (by simp only; omega) (by simp only; omega), tot_app (by simpa using ha0) (by simp only; omega), R.tot, val_app, if_neg (by simp only; omega), if_pos c']
        simp only
        omega
    · refine one (val v.S.rows h.Part.Account - h.Part.N - h.Fee) ?_ (by omega) (by omega) (by rw [if_pos c']; omega)
      unfold changeV
      rw [if_neg c, ex, if_neg d]
theorem rich_prune {v : Va} {n : Nat} {sum t : Int} (R : Rich v n sum) : Rich (pruneV v t).1 n sum := by
  have e : (pruneV v t).1.S = pruneM v.S t := rfl
  unfold pruneM at e
  split at e
  · refine ⟨fun k => ?_, fun k hk => ?_, fun k hk => ?_, ?_, R.small⟩
    · rw [e]
      simp only
      have := R.cap k
      refine Nat.le_trans ?_ this
      unfold vs
      rw [List.length_map, List.length_map]
      exact ((keep_sub _ _).filter _).length_le
    · rw [e]; simp only; rw [val_keep]; exact R.acc k hk
    · rw [e]; simp only; rw [val_keep]; exact R.paid k hk
    · rw [e]; simp only; rw [tot_keep]; exact R.tot
  · exact R.more (by rw [e]) (Nat.le_refl _)
theorem rich_one {v : Va} {n : Nat} {sum : Int} (F : Fit v) (R : Rich v n sum) (hn : n ≤ 100) (o : OpL) : Rich (oneV v o).1 (n + 1) (sum + adds v o) := by
  unfold adds
  by_cases c : (oneV v o).2 = 0
  · rw [if_neg (by simpa using c)]
    unfold oneV at c ⊢
    by_cases c0 : o.Kind = 0
    · rw [if_pos c0] at c ⊢
      rw [if_pos c0]
      exact (rich_open F R hn c).1
    · rw [if_neg c0] at c ⊢
      rw [if_neg c0]
      by_cases c2 : o.Kind = 2
      · rw [if_neg (by omega), if_pos c2] at c ⊢
        rw [if_pos c2]
        unfold commitV at c ⊢
        by_cases d0 : o.T_ < 1 ∨ o.T_ > 1125899906842624
        · rw [if_pos d0] at c; simp at c
        · rw [if_neg d0] at c ⊢
          by_cases d1 : (fateV v o.ID).what = 2
          · rw [if_pos d1] at c ⊢
            have hno : v.held.lookup o.ID = none := by
              cases hh : v.held.lookup o.ID with
              | none => rfl
              | some h =>
                have := (F.ids _ _ hh).2.2.2.2.1
                rw [fateV_of this] at d1
                simp at d1
            rw [hno]
            have e : (if (fateV v o.ID).t_ ≠ o.T_ then (v, (157 : Int)) else (v, 0)).1 = v := by split <;> rfl
            rw [e]
            simp only [Int.add_zero]
            exact R.more rfl (by omega)
          · rw [if_neg d1] at c ⊢
            by_cases d2 : (fateV v o.ID).what = 1
            · rw [if_pos d2] at c ⊢
              obtain ⟨h, hh, _⟩ := held_of F d2
              rw [heldOf_of hh] at c ⊢
              by_cases d3 : o.T_ < h.T_
              · rw [if_pos d3] at c; simp at c
              · rw [if_neg d3, hh]
                exact rich_done F R hn hh (by omega) (by omega)
            · rw [if_neg d2] at c; simp at c
      · rw [if_neg c2, if_neg c2]
        rw [Int.add_zero]
        split
        · unfold holdV
          split
          · exact R.more rfl (by omega)
          · split
            · exact R.more rfl (by omega)
            · exact R.more rfl (by omega)
        · by_cases zz : o.Kind = 2
          · omega
          · split
            · unfold dropV
              split
              · exact R.more rfl (by omega)
              · split
                · exact R.more rfl (by omega)
                · split
                  · exact R.more rfl (by omega)
                  · refine R.more ?_ (by omega)
                    show (gone_ v o.ID).S.rows = _
                    unfold gone_
                    split <;> rfl
            · split
              · unfold closeV
                split
                · exact R.more rfl (by omega)
                · split
                  · exact R.more rfl (by omega)
                  · refine R.more ?_ (by omega)
                    show (closeM v.S o.T_).rows = _
                    unfold closeM
                    split <;> rfl
              · split
                · exact (rich_prune R).more rfl (by omega)
                · exact R.more rfl (by omega)
  · rw [if_pos c, Int.add_zero]
    have e : (oneV v o).1.S.rows = v.S.rows ∨ o.Kind = 5 := by
      unfold oneV at c ⊢
      split at c
      · rename_i k
        left
        rw [if_pos k]
        unfold openV at c ⊢
        split
        · rfl
        · split
          · rfl
          · split
            · rfl
            · split
              · rfl
              · rename_i q1 q2 q3 q4
                rw [if_neg q1, if_neg q2, if_neg q3, if_neg q4] at c
                simp at c
      · split at c
        · rename_i k0 k
          left
          rw [if_neg k0, if_pos k]
          unfold holdV at c ⊢
          split
          · rfl
          · split <;> rfl
        · split at c
          · rename_i k0 k1 k
            left
            rw [if_neg k0, if_neg k1, if_pos k]
            unfold commitV at c ⊢
            split
            · rfl
            · split
              · split <;> rfl
              · split
                · split
                  · rfl
                  · rename_i q1 q2 q3 q4
                    rw [if_neg q1, if_neg q2, if_pos q3, if_neg q4] at c
                    simp at c
                · rfl
          · split at c
            · rename_i k0 k1 k2 k
              left
              rw [if_neg k0, if_neg k1, if_neg k2, if_pos k]
              unfold dropV
              split
              · rfl
              · split
                · rfl
                · split
                  · rfl
                  · show (gone_ v o.ID).S.rows = _
                    unfold gone_
                    split <;> rfl
            · split at c
              · rename_i k0 k1 k2 k3 k
                left
                rw [if_neg k0, if_neg k1, if_neg k2, if_neg k3, if_pos k]
                unfold closeV
                split
                · rfl
                · split
                  · rfl
                  · show (closeM v.S o.T_).rows = _
                    unfold closeM
                    split <;> rfl
              · split at c
                · rename_i k; right; exact k
                · simp at c
    rcases e with e | e
    · exact R.more e (by omega)
    · have : oneV v o = pruneV v o.T_ := by
        unfold oneV
        rw [if_neg (by omega), if_neg (by omega), if_neg (by omega), if_neg (by omega), if_neg (by omega), if_pos e]
      rw [this]
      exact (rich_prune R).more rfl (by omega)
end Go.Proofs.YtpdaapffkdejoaaGreat.Vault
namespace Go.Proofs.YtpdaapffkdejoaaGreat.Vault
open Go Go.Proofs.YtpdaapffkdejoaaGreat.Cf Go.Proofs.YtpdaapffkdejoaaGreat.Store Go.Proofs.YtpdaapffkdejoaaGreat.Num
set_option linter.unusedVariables false
set_option linter.unusedSimpArgs false
set_option maxRecDepth 100000
def part1 (id : Int) (h : Held) : Int := if h.Part.ID = id then (if h.Part.Pays = true then -h.Part.N else h.Part.N) else 0
def partsL (id : Int) : List Held → Int
  | [] => 0
  | h :: L => part1 id h + partsL id L
theorem partsL_app (id : Int) (a b : List Held) : partsL id (a ++ b) = partsL id a + partsL id b := by
  induction a with
  | nil => simp [partsL]
  | cons x a ih => simp only [List.cons_append, partsL, ih]; omega
theorem partsL_none {id : Int} : ∀ {L : List Held}, (∀ h ∈ L, h.Part.ID ≠ id) → partsL id L = 0
  | [], _ => rfl
  | h :: L, hh => by
    simp only [partsL]
    rw [partsL_none fun x hx => hh x (List.mem_cons_of_mem _ hx)]
    unfold part1
    rw [if_neg (hh h (List.mem_cons_self ..))]; omega
theorem partsL_one {id : Int} {h : Held} (hid : h.Part.ID = id) : ∀ {L : List Held}, L.Pairwise (fun a b => a.Part.ID < b.Part.ID) → h ∈ L → partsL id L = part1 id h
  | [], _, hh => by cases hh
  | x :: L, hp, hh => by
    have hp' := List.pairwise_cons.1 hp
    simp only [partsL]
    rcases List.mem_cons.1 hh with e | hh
    · subst e
      rw [partsL_none fun y hy => by have := hp'.1 y hy; omega]; omega
    · rw [partsL_one hid hp'.2 hh]
      have := hp'.1 h hh
      have e : part1 id x = 0 := by unfold part1; rw [if_neg (by omega)]
      rw [e]; omega
theorem parts_held {v : Va} (F : Fit v) (id : Int) : partsL id (heldL v) = match v.held.lookup id with
    | some h => if h.Part.Pays = true then -h.Part.N else h.Part.N
    | none => 0 := by
  cases e : v.held.lookup id with
  | some h =>
    have hi := (F.ids id h e).1
    simp only
    rw [partsL_one hi (heldL_pw F) (heldL_mem F e)]
    unfold part1
    rw [if_pos hi]
  | none =>
    simp only
    refine partsL_none fun h hh hc => ?_
    have := heldL_look F hh
    rw [hc, e] at this
    cases this
theorem parts_small {v : Va} (F : Fit v) {h : Held} (hh : h ∈ heldL v) : 1 ≤ h.Part.N ∧ h.Part.N ≤ 1000000000000000 := by
  obtain ⟨_, _, _, _, _, _, _, _, h9, h10, _⟩ := F.ids _ _ (heldL_look F hh)
  exact ⟨h9, h10⟩
theorem part1_small (id : Int) {h : Held} (hh : 1 ≤ h.Part.N ∧ h.Part.N ≤ 1000000000000000) : -1000000000000000 ≤ part1 id h ∧ part1 id h ≤ 1000000000000000 := by
  unfold part1
  split
  · split <;> omega
  · omega
theorem partsL_small (id : Int) : ∀ {L : List Held}, (∀ h ∈ L, 1 ≤ h.Part.N ∧ h.Part.N ≤ 1000000000000000) → -1000000000000000 * (L.length : Int) ≤ partsL id L ∧ partsL id L ≤ 1000000000000000 * (L.length : Int)
  | [], _ => by simp [partsL]
  | h :: L, hh => by
    have ih := partsL_small id (L := L) fun x hx => hh x (List.mem_cons_of_mem _ hx)
    have h1 := part1_small id (hh h (List.mem_cons_self ..))
    simp only [partsL, List.length_cons]
    omega
structure Left (v : Va) (L : List Held) : Prop where
  look : ∀ id, v.held.lookup id = none ∨ ∃ h ∈ L, h.Part.ID = id
  fate : ∀ h ∈ L, 1 ≤ h.Part.ID ∧ v.held.lookup h.Part.ID = some h ∧ v.fates.lookup h.Part.ID = some ⟨1, h.T_⟩
theorem Left.drop {v : Va} (F : Fit v) {h : Held} {L : List Held} (hl : Left v (h :: L)) (hp : (h :: L).Pairwise fun a b => a.Part.ID < b.Part.ID) : (dropV v h.Part.ID).2 = 0 ∧ (dropV v h.Part.ID).1.S = v.S ∧ Left (dropV v h.Part.ID).1 L := by
  obtain ⟨h1, h2, h3⟩ := hl.fate h (List.mem_cons_self ..)
  have hp' := List.pairwise_cons.1 hp
  have e : dropV v h.Part.ID = ({ freeV v h with fates := ups h.Part.ID ⟨3, 0⟩ v.fates }, 0) := by
    unfold dropV
    rw [if_neg (by omega), fateV_of h3, if_neg (by simp), if_neg (by rw [h3]; simp)]
    unfold gone_
    rw [h2]
  rw [e]
  refine ⟨rfl, rfl, fun id => ?_, fun x hx => ?_⟩
  · show (del h.Part.ID v.held).lookup id = none ∨ _
    rw [lookup_del _ _ _ F.nodH]
    by_cases c : id = h.Part.ID
    · left; rw [if_pos (by simpa using c)]
    · rw [if_neg (by simpa using c)]
      rcases hl.look id with hn | ⟨y, hy, ey⟩
      · exact .inl hn
      · rcases List.mem_cons.1 hy with hy | hy
        · rw [hy] at ey
          exact absurd ey.symm c
        · exact .inr ⟨y, hy, ey⟩
  · obtain ⟨g1, g2, g3⟩ := hl.fate x (List.mem_cons_of_mem _ hx)
    have hlt := hp'.1 x hx
    refine ⟨g1, ?_, ?_⟩
    · show (del h.Part.ID v.held).lookup x.Part.ID = _
      rw [lookup_del _ _ _ F.nodH, if_neg (by simp; omega)]; exact g2
    · show (ups h.Part.ID _ v.fates).lookup x.Part.ID = _
      rw [lookup_ups, if_neg (by simp; omega)]; exact g3
theorem Left.all {v : Va} (F : Fit v) : Left v (heldL v) := by
  refine ⟨fun id => ?_, fun h hh => ?_⟩
  · cases e : v.held.lookup id with
    | none => exact .inl rfl
    | some h => exact .inr ⟨h, heldL_mem F e, (F.ids id h e).1⟩
  · have hl := heldL_look F hh
    obtain ⟨_, g2, _, _, g5, _⟩ := F.ids _ _ hl
    exact ⟨g2, hl, g5⟩
theorem Left.none {v : Va} (hl : Left v []) : v.held = [] := by
  cases e : v.held with
  | nil => rfl
  | cons x l =>
    rcases hl.look x.1 with h | ⟨_, h, _⟩
    · rw [e] at h
      simp [List.lookup] at h
    · cases h
section
variable {W w : World} {l l' : List Assn}
theorem keeps_walk (W : World) (f : Nat) (s : Slc) (g0 : G22 W f) (g1 : G23 W s) : cl Tryz.prog 6 [.float .f64 f, tSlc.enc s] tBool W fun r w' => r = true ∧ RowKit.Below W.heap.size W w' := by
  have hf : f < 18446744073709551616 := g0
  obtain ⟨⟨hcap, hcap2⟩, os, hI, hro⟩ := g1
  have hid : ∀ o ∈ os, o.ID ≤ 9223372036854775807 := fun o ho => (hI o ho).2.1.2
  have hsl := hro.1
  have H : St W [ro TOp s os, old W] W := ro_old hro (St.start W)
  generalize hB : ([ro TOp s os, old W] : List Assn) = base at *
  have kA : See 6 base TOp s os := by rw [← hB]; exact See.ro lenOp (Know.here (m := RoP.mono))
  have bel : ∀ w, St W base w → RowKit.Below W.heap.size W w := by
    intro w H
    rw [← hB] at H
    exact H.drop.below
  clear hB
  refine F6_ok ?_
  unfold F6
  refine cl_mono (new_spec hf H) ?_
  rintro ⟨p, e⟩ w ⟨h1, h2⟩
  by_cases c : rateOk f
  · obtain ⟨he, b, hp, H⟩ := h1 c
    simp only at he hp
    subst he; subst hp
    refine cl_mono (awake_spec H) ?_
    rintro r w ⟨rfl, H⟩
    rw [if_neg (by simp)]
    have R0 : Rich (v0 f) 0 0 := ⟨fun k => by simp [v0, vs_nil], fun k _ => by rw [val_nil rfl]; omega, fun k _ => by rw [val_nil rfl]; omega, by
      unfold tot
      have : ∀ ks : List Int, sumK (val (v0 f).S.rows) ks = 0 := by
        intro ks
        induction ks with
        | nil => rfl
        | cons k ks ih => simp only [sumK, ih]; rw [val_nil rfl]; rfl
      exact this _, by simp⟩
    have hsl2 : (s.len : Int) = os.length := by omega
    refine lp_p (fun x w => ∃ n : Nat, x.2 = (n : Int) ∧ n ≤ 40 ∧ n ≤ os.length ∧ ∃ v, Fit v ∧ Rich v n x.1 ∧ St W (vaA b v :: base) w) (fun x => (40 - x.2).toNat) ⟨0, rfl, by omega, by omega, v0 f, Fit.new c, R0, H⟩ ?_
    clear H R0
    rintro ⟨sum, i⟩ w ⟨n, hn, hn40, hnl, v, F, R, H⟩ K hK
    simp only at hn R
    subst hn
    unfold F6_l1
    simp only
    rw [hsl2]
    have hsm := R.small
    split
    · rename_i hc
      have hc : n < os.length ∧ n < 40 := by
        rw [Bool.and_eq_true, decide_eq_true_eq, decide_eq_true_eq] at hc
        omega
      have e1 : IntKind.i64.wrap ((n : Int) + 1) = ((n + 1 : Nat) : Int) := by rw [wrap_i64 (by omega) (by omega)]; omega
      obtain ⟨a, ha⟩ := kA.tail.ix (i := (n : Int)) H (by omega) (by omega)
      have hx : os[((n : Int)).toNat]? = some os[((n : Int)).toNat] := List.getElem?_eq_getElem (by omega)
      have hmem : os[((n : Int)).toNat] ∈ os := List.getElem_mem _
      generalize os[((n : Int)).toNat] = o at hx hmem
      refine ex_i a ha ?_
      refine ex_i o (kA.tail.rd ha hx H) ?_
      refine nw_st H fun b17 w H => ?_
      refine vst_st (x := Z41) (y := o) len42 0 H rfl fun w H => ?_
      refine cl_mono (held_spec F (H.front 1)) ?_
      intro r21 w H
      have hr := row_len H
      refine vld_st (x := o) 2 H rfl ?_
      refine cl_mono (one_spec (o := o) F (H.front 1)) ?_
      rintro r w ⟨rfl, H⟩
      have R2 := rich_one F R (by omega) o
      have F2 := F.one (hid o hmem)
      have hph := parts_held F o.ID
      have hsmL : ∀ h ∈ heldL v, 1 ≤ h.Part.N ∧ h.Part.N ≤ 1000000000000000 := fun h hh => parts_small F hh
      have hll := heldL_len F
      have next : ∀ (w : World) (q : Int), q = sum + adds v o → St W (cel b17 (TOp.cells o) 42 :: vaA b (oneV v o).1 :: row THe 55 6 r21 (heldL v) :: base) w → F6_j2 (n : Int) q w K fun r w' => r = true ∧ RowKit.Below W.heap.size W w' := by
        intro w q hq H
        subst hq
        unfold F6_j2
        rw [e1]
        exact hK _ _ ⟨n + 1, rfl, by omega, by omega, _, F2, R2, ((H.drop).front 1).drop⟩ (by simp only; omega)
      have H := H.ord [2, 0, 1]
      by_cases c0 : (oneV v o).2 = 0
      · rw [if_neg (by simpa using c0)]
        refine ld_st (x := o.Kind) 0 H rfl rfl rfl ?_
        have ha : adds v o = if o.Kind = 0 then o.N else if o.Kind = 2 then partsL o.ID (heldL v) else 0 := by
          unfold adds
          rw [if_neg (by simpa using c0), hph]
          try rfl
        by_cases c1 : o.Kind = 0
        · rw [if_pos (by simpa using c1)]
          refine ld_st (x := o.N) 0 H rfl rfl rfl ?_
          have hok : okAm o.N := by
            unfold oneV at c0
            rw [if_pos c1] at c0
            exact (rich_open F R (by omega) c0).2
          have x0 := hok.1
          have x1 := hok.2
          unfold F6_j3
          refine ld_st (x := o.Kind) 0 H rfl rfl rfl ?_
          rw [if_pos (by simp [c1])]
          refine next w _ ?_ H
          rw [ha, if_pos c1, wrap_i64 (by omega) (by omega)]
        · rw [if_neg (by simpa using c1)]
          unfold F6_j3
          refine ld_st (x := o.Kind) 0 H rfl rfl rfl ?_
          by_cases c2 : o.Kind = 2
          · rw [if_neg (by simp [c2])]
            rw [if_neg c1, if_pos c2] at ha
            rw [← ha] at hph
            have hadd : partsL o.ID (heldL v) = adds v o := ha.symm
            generalize heldL v = L at *
            have hr2 : (r21.len : Int) = L.length := by omega
            refine lp_p (fun x w => ∃ k : Nat, x.2 = (k : Int) ∧ k ≤ L.length ∧ x.1 = sum + partsL o.ID (L.take k) ∧ St W (cel b17 (TOp.cells o) 42 :: vaA b (oneV v o).1 :: row THe 55 6 r21 L :: base) w) (fun x => (L.length - x.2).toNat) ⟨0, rfl, by omega, by simp [partsL], H⟩ ?_
            clear H
            rintro ⟨q, k⟩ w ⟨k', hk', hkl, hq, H⟩ K2 hK2
            simp only at hk' hq
            subst hk'
            unfold F6_l4
            simp only
            rw [hr2]
            split
            · rename_i hc3
              have hc3 : k' < L.length := by simpa using hc3
              have e3 : IntKind.i64.wrap ((k' : Int) + 1) = ((k' + 1 : Nat) : Int) := by rw [wrap_i64 (by omega) (by omega)]; omega
              obtain ⟨a35, ha35⟩ := row_ix (i := (k' : Int)) (H.front 2) (by omega) (by omega)
              have hy : L[((k' : Int)).toNat]? = some L[k'] := List.getElem?_eq_getElem hc3
              have htk : L.take (k' + 1) = L.take k' ++ [L[k']] := List.take_succ_eq_append_getElem hc3
              have hhm : L[k'] ∈ L := List.getElem_mem _
              have hb1 := partsL_small o.ID (L := L.take k') fun h hh => hsmL h (List.mem_of_mem_take hh)
              rw [List.length_take] at hb1
              generalize L[k'] = h at hy htk hhm
              have hb2 := hsmL h hhm
              have hpt : partsL o.ID (L.take (k' + 1)) = partsL o.ID (L.take k') + part1 o.ID h := by rw [htk, partsL_app]; simp [partsL]
              have go : ∀ (w : World) (q' : Int), q' = q + part1 o.ID h → St W (cel b17 (TOp.cells o) 42 :: vaA b (oneV v o).1 :: row THe 55 6 r21 L :: base) w → F6_j5 (k' : Int) q' w K2 fun r w' => r = true ∧ RowKit.Below W.heap.size W w' := by
                intro w q' hq' H
                unfold F6_j5
                rw [e3]
                exact hK2 _ _ ⟨k' + 1, rfl, by omega, by rw [hpt]; simp only; omega, H⟩ (by simp only; omega)
              refine dr_st H fun w H => ?_
              refine ex_i a35 ha35 ?_
              refine ex_i h.Part.ID (fld_row (x := h) (U := tInt .i64) (fun _ => rfl) ha35 hy rfl (H.front 2)) ?_
              refine ld_st (x := o.ID) 0 H rfl rfl rfl ?_
              refine ex_i a35 (fun _ => ha35) ?_
              refine ex_i h.Part.Pays (fun _ => fld_row (x := h) (U := tBool) (fun _ => rfl) ha35 hy rfl (H.front 2)) ?_
              by_cases d1 : h.Part.ID = o.ID
              · by_cases d2 : h.Part.Pays = true
                · rw [if_pos (by simp [d1, d2])]
                  refine ex_i a35 ha35 ?_
                  refine ex_i h.Part.N (fld_row (x := h) (U := tInt .i64) (fun _ => rfl) ha35 hy rfl (H.front 2)) ?_
                  refine go w _ ?_ H
                  unfold part1
                  rw [if_pos d1, if_pos d2, wrap_i64 (by omega) (by omega)]; omega
                · rw [if_neg (by simp [d2])]
                  refine dr_st H fun w H => ?_
                  refine ex_i a35 ha35 ?_
                  refine ex_i h.Part.ID (fld_row (x := h) (U := tInt .i64) (fun _ => rfl) ha35 hy rfl (H.front 2)) ?_
                  refine ld_st (x := o.ID) 0 H rfl rfl rfl ?_
                  rw [if_pos (by simp [d1])]
                  refine ex_i a35 ha35 ?_
                  refine ex_i h.Part.N (fld_row (x := h) (U := tInt .i64) (fun _ => rfl) ha35 hy rfl (H.front 2)) ?_
                  refine go w _ ?_ H
                  unfold part1
                  rw [if_pos d1, if_neg d2, wrap_i64 (by omega) (by omega)]
              · rw [if_neg (by simp [d1])]
                refine dr_st H fun w H => ?_
                refine ex_i a35 ha35 ?_
                refine ex_i h.Part.ID (fld_row (x := h) (U := tInt .i64) (fun _ => rfl) ha35 hy rfl (H.front 2)) ?_
                refine ld_st (x := o.ID) 0 H rfl rfl rfl ?_
                rw [if_neg (by simp [d1])]
                refine go w _ ?_ H
                unfold part1
                rw [if_neg d1]; omega
            · rename_i hc3
              have hc3 : k' = L.length := by simp at hc3; omega
              rw [hc3, List.take_length] at hq
              exact next w _ (by rw [hq, hadd]) H
          · rw [if_pos (by simp [c2])]
            refine next w _ ?_ H
            rw [ha, if_neg c1, if_neg c2]; omega
      · rw [if_pos (by simpa using c0)]
        refine next w _ ?_ H
        unfold adds
        rw [if_pos c0]; omega
    · clear hK
      refine cl_mono (held_spec F H) ?_
      intro r57 w H
      have hr := row_len H
      have hpw := heldL_pw F
      have hll := heldL_len F
      have hla := Left.all F
      generalize heldL v = L at *
      have hr2 : (r57.len : Int) = L.length := by omega
      refine lp_p (fun x w => ∃ k : Nat, x = (k : Int) ∧ k ≤ L.length ∧ ∃ u, Fit u ∧ u.S = v.S ∧ Left u (L.drop k) ∧ St W (row THe 55 6 r57 L :: vaA b u :: base) w) (fun x => (L.length - x).toNat) ⟨0, rfl, by omega, v, F, rfl, hla, H⟩ ?_
      clear H
      rintro k w ⟨k', hk', hkl, u, Fu, hus, hleft, H⟩ K2 hK2
      subst hk'
      unfold F6_l6
      rw [hr2]
      split
      · rename_i hc3
        have hc3 : k' < L.length := by simpa using hc3
        have e3 : IntKind.i64.wrap ((k' : Int) + 1) = ((k' + 1 : Nat) : Int) := by rw [wrap_i64 (by omega) (by omega)]; omega
        obtain ⟨a61, ha61⟩ := row_ix (i := (k' : Int)) H (by omega) (by omega)
        have hy : L[((k' : Int)).toNat]? = some L[k'] := List.getElem?_eq_getElem hc3
        have hd : L.drop k' = L[k'] :: L.drop (k' + 1) := List.drop_eq_getElem_cons hc3
        have hpd := hpw.sublist (List.drop_sublist k' L)
        generalize L[k'] = h at hy hd
        rw [hd] at hleft hpd
        obtain ⟨d1, d2, d3⟩ := hleft.drop Fu hpd
        refine ex_i a61 ha61 ?_
        refine ex_i h (rd_row (fun _ => rfl) ha61 hy H) ?_
        refine nw_st H fun b63 w H => ?_
        refine vst_st (x := Z54) (y := h) len55 0 H rfl fun w H => ?_
        refine ld_st (x := h.Part.ID) 0 H rfl rfl rfl ?_
        refine cl_mono (drop_spec (id := h.Part.ID) (H.front 2)) ?_
        rintro r w ⟨hr, H⟩
        rw [d1] at hr
        subst hr
        rw [if_neg (by simp), e3]
        exact hK2 _ _ ⟨k' + 1, rfl, by omega, _, Fu.drop _, d2.trans hus, d3, ((H.front 1).drop).front 1⟩ (by omega)
      · rename_i hc3
        have hc3 : k' = L.length := by simp at hc3; omega
        rw [hc3, List.drop_length] at hleft
        have hh := hleft.none
        refine cl_mono (vclose_spec (H.front 1)) ?_
        rintro r w ⟨hr, H⟩
        have Fc := Fu.close 1125899906842624
        have ec : closeV u 1125899906842624 = ({ u with S := closeM u.S 1125899906842624, top := max u.top 1125899906842624 }, 0) := by
          unfold closeV
          rw [if_neg (by omega), if_neg (by rw [hh]; simp)]
        rw [ec] at hr H Fc
        simp only at hr H Fc
        subst hr
        rw [if_neg (by simp)]
        generalize hz : ({ u with S := closeM u.S 1125899906842624, top := max u.top 1125899906842624 } : Va) = z at *
        have hzs : z.S = closeM v.S 1125899906842624 := by rw [← hz, ← hus]
        have hcl : closeM v.S 1125899906842624 = { v.S with closed := max v.S.closed 1125899906842624 } := by unfold closeM closeE; rfl
        have hmk := F.sto.mark
        have htm : timeM z.S 1125899906842624 = 0 := by rw [hzs, hcl]; exact timeM_of (by omega) (by omega) (by simp only; omega) (by simp only; omega)
        have hrows : z.S.rows = v.S.rows := by rw [hzs, hcl]
        have hsum := snap_sum Fc.sto htm fun r hr => (Fc.sto.time r hr).2
        have hslen := snap_len (t := 1125899906842624) Fc.sto
        have hpos : ∀ e ∈ snapL z.S 1125899906842624, 0 ≤ e.V ∧ e.V ≤ 80000000000000000 := by
          intro e he
          obtain ⟨x, hx, hv⟩ := (snap_mem htm).1 he
          have hval : e.V = val z.S.rows e.Key := by
            have hlast : cnt (vs z.S.rows e.Key) 1125899906842624 = (vs z.S.rows e.Key).getLast? := by
              unfold cnt upto
              rw [List.filter_eq_self.2]
              intro y hy
              obtain ⟨r, hr1, _, e', _⟩ := vs_mem hy
              have := (Fc.sto.time r hr1).2
              simp; omega
            rw [hlast] at hx
            unfold val lastV
            rw [hx]; exact hv
          rw [hval, hrows]
          by_cases ck : e.Key < 4096
          · have := R.acc _ ck; omega
          · have := R.paid e.Key (by omega); omega
        rw [hrows, R.tot] at hsum
        refine cl_mono (vsnap_spec (t := 1125899906842624) Fc H) ?_
        rintro ⟨r73, e73⟩ w ⟨hr, H⟩
        rw [htm] at hr
        simp only at hr H
        have hr : e73 = 0 := hr
        subst hr
        generalize snapL z.S 1125899906842624 = X at *
        have hrx := row_len H
        have hrx2 : (r73.len : Int) = X.length := by omega
        have part : ∀ {Y : List Ent}, (∀ e ∈ Y, 0 ≤ e.V ∧ e.V ≤ 80000000000000000) → 0 ≤ (Y.map fun e => e.V).sum ∧ (Y.map fun e => e.V).sum ≤ 80000000000000000 * (Y.length : Int) := by
          intro Y
          induction Y with
          | nil => intro _; simp
          | cons y Y ih =>
            intro hY
            have i1 := ih fun e he => hY e (List.mem_cons_of_mem _ he)
            have i2 := hY y (List.mem_cons_self ..)
            simp only [List.map_cons, List.sum_cons, List.length_cons]
            omega
        have bound : ∀ k, k ≤ X.length → 0 ≤ ((X.take k).map fun e => e.V).sum ∧ ((X.take k).map fun e => e.V).sum ≤ sum := by
          intro k hk
          have i1 : 0 ≤ ((X.take k).map fun e => e.V).sum := (part (Y := X.take k) fun e he => hpos e (List.mem_of_mem_take he)).1
          have i2 : 0 ≤ ((X.drop k).map fun e => e.V).sum := (part (Y := X.drop k) fun e he => hpos e (List.mem_of_mem_drop he)).1
          have i3 : ((X.take k).map fun e => e.V).sum + ((X.drop k).map fun e => e.V).sum = sum := by
            rw [← hsum, ← List.sum_append, ← List.map_append, List.take_append_drop]
          exact ⟨i1, by omega⟩
        refine lp_p (fun x w => ∃ k : Nat, x.2 = (k : Int) ∧ k ≤ X.length ∧ x.1 = ((X.take k).map fun e => e.V).sum ∧ St W (row T62 63 2 r73 X :: vaA b z :: row THe 55 6 r57 L :: base) w) (fun x => (X.length - x.2).toNat) ⟨0, rfl, by omega, by simp, H⟩ ?_
        clear H
        rintro ⟨q, i⟩ w ⟨k, hk, hkl, hq, H⟩ K3 hK3
        simp only at hk hq
        subst hk
        unfold F6_l7
        simp only
        rw [hrx2]
        split
        · rename_i hc4
          have hc4 : k < X.length := by simpa using hc4
          have e4 : IntKind.i64.wrap ((k : Int) + 1) = ((k + 1 : Nat) : Int) := by rw [wrap_i64 (by omega) (by omega)]; omega
          obtain ⟨a78, ha78⟩ := row_ix (i := (k : Int)) H (by omega) (by omega)
          have hy : X[((k : Int)).toNat]? = some X[k] := List.getElem?_eq_getElem hc4
          have htk : X.take (k + 1) = X.take k ++ [X[k]] := List.take_succ_eq_append_getElem hc4
          have hp := hpos X[k] (List.getElem_mem _)
          have hb := bound (k + 1) (by omega)
          have hb0 := bound k (by omega)
          generalize X[k] = e at hy htk hp
          have hst : ((X.take (k + 1)).map fun e => e.V).sum = ((X.take k).map fun e => e.V).sum + e.V := by rw [htk, List.map_append, List.sum_append]; simp
          refine ex_i a78 ha78 ?_
          refine ex_i e.V (fld_row (x := e) (U := tInt .i64) (fun _ => rfl) ha78 hy rfl H) ?_
          rw [if_neg (by simp; omega)]
          refine ex_i a78 ha78 ?_
          refine ex_i e.V (fld_row (x := e) (U := tInt .i64) (fun _ => rfl) ha78 hy rfl H) ?_
          rw [e4, hq, wrap_i64 (by omega) (by omega)]
          exact hK3 _ _ ⟨k + 1, rfl, by omega, by rw [hst], H⟩ (by simp only; omega)
        · rename_i hc4
          have hc4 : k = X.length := by simp at hc4; omega
          rw [hc4, List.take_length, hsum] at hq
          refine ⟨by simp [hq], bel _ H.drop.drop.drop⟩
  · obtain ⟨he, H⟩ := h2 c
    cases he
    refine cl_mono (awake_spec H) ?_
    rintro r w ⟨rfl, H⟩
    rw [if_pos (by simp)]
    refine cl_mono (awake_spec H) ?_
    rintro r w ⟨rfl, H⟩
    exact ⟨rfl, bel _ H⟩
end
theorem _root_.Go.Proofs.YtpdaapffkdejoaaGreat.walkVaultKeeps (W : World) (f : Nat) (s : Slc) (g0 : G22 W f) (g1 : G23 W s) : cl Tryz.prog 6 [.float .f64 f, tSlc.enc s] tBool W fun r w' => r = true ∧ RowKit.Below W.heap.size W w' := keeps_walk W f s g0 g1
end Go.Proofs.YtpdaapffkdejoaaGreat.Vault
