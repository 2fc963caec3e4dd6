/- Own texts of this claim, part 5: short, merged. -/
import Derived.Shelf.SlIterI.Nil
import Derived.Shelf.SlIterI.Sorted
import Derived.Shelf.SortM.Plain
import Derived.Shelf.SortM.SortNone
import Derived.Ground.GgzProg
import Derived.Ground.SlgmProg
import Derived.Test.YtehclfjjjiiieaaGreatProg
import Derived.Test.YtehclfjjjiiieaaGreatZ4
namespace Go.Proofs
open Go.Shelf
def Tryz.keysA_ren : Go.Shelf.Ren := ⟨fun | 7 => 120 | 10 => 136 | n => n, fun | 23 => 167 | 26 => 3 | 3 => 165 | 28 => 154 | 0 => 0 | 27 => 153 | 33 => 71 | 4 => 4 | n => n, fun | n => n⟩
theorem Tryz.keysA : Go.Proofs.SlLaysZI.n7 Tryz.prog Tryz.keysA_ren := {
 mixed := by kernel_rfl
 f7 := ⟨Tryz.f120.name, by decide, Tryz.func120.trans (congrArg some (by kernel_rfl))⟩
 f10 := ⟨Tryz.f136.name, by decide, Tryz.func136.trans (congrArg some (by kernel_rfl))⟩
 t0 := Tryz.underlying0
 a0 := Tryz.isAgg0
 z0 := Tryz.sizeOf0
 v0 := Tryz.zeroValue0
 t4 := Tryz.underlying4
 a4 := Tryz.isAgg4
 z4 := Tryz.sizeOf4
 v4 := Tryz.zeroValue4
 t23 := Tryz.underlying167
 a23 := Tryz.isAgg167
 z23 := Tryz.sizeOf167
 v23 := Tryz.zeroValue167
 t26 := Tryz.underlying3
 a26 := Tryz.isAgg3
 z26 := Tryz.sizeOf3
 v26 := Tryz.zeroValue3
 t27 := Tryz.underlying153
 a27 := Tryz.isAgg153
 z27 := Tryz.sizeOf153
 v27 := Tryz.zeroValue153
 t28 := Tryz.underlying154
 a28 := Tryz.isAgg154
 z28 := Tryz.sizeOf154
 v28 := Tryz.zeroValue154
 t33 := Tryz.underlying71
 a33 := Tryz.isAgg71
 z33 := Tryz.sizeOf71
 v33 := Tryz.zeroValue71 }
def Tryz.keysB_ren : Go.Shelf.Ren := ⟨fun | 7 => 79 | 10 => 118 | n => n, fun | 23 => 97 | 26 => 3 | 3 => 151 | 28 => 154 | 0 => 0 | 27 => 153 | 33 => 71 | 4 => 4 | n => n, fun | n => n⟩
theorem Tryz.keysB : Go.Proofs.SlLaysZI.n7 Tryz.prog Tryz.keysB_ren := {
 mixed := by kernel_rfl
 f7 := ⟨Tryz.f79.name, by decide, Tryz.func79.trans (congrArg some (by kernel_rfl))⟩
 f10 := ⟨Tryz.f118.name, by decide, Tryz.func118.trans (congrArg some (by kernel_rfl))⟩
 t0 := Tryz.underlying0
 a0 := Tryz.isAgg0
 z0 := Tryz.sizeOf0
 v0 := Tryz.zeroValue0
 t4 := Tryz.underlying4
 a4 := Tryz.isAgg4
 z4 := Tryz.sizeOf4
 v4 := Tryz.zeroValue4
 t23 := Tryz.underlying97
 a23 := Tryz.isAgg97
 z23 := Tryz.sizeOf97
 v23 := Tryz.zeroValue97
 t26 := Tryz.underlying3
 a26 := Tryz.isAgg3
 z26 := Tryz.sizeOf3
 v26 := Tryz.zeroValue3
 t27 := Tryz.underlying153
 a27 := Tryz.isAgg153
 z27 := Tryz.sizeOf153
 v27 := Tryz.zeroValue153
 t28 := Tryz.underlying154
 a28 := Tryz.isAgg154
 z28 := Tryz.sizeOf154
 v28 := Tryz.zeroValue154
 t33 := Tryz.underlying71
 a33 := Tryz.isAgg71
 z33 := Tryz.sizeOf71
 v33 := Tryz.zeroValue71 }
def Tryz.sortedA_ren : Go.Shelf.Ren := ⟨fun | 6 => 78 | 8 => 116 | 9 => 117 | 11 => 133 | 13 => 135 | 12 => 134 | 23 => 150 | 24 => 151 | 14 => 141 | 15 => 142 | 16 => 143 | 17 => 144 | 18 => 145 | 19 => 146 | 20 => 147 | 21 => 148 | 22 => 149 | 25 => 160 | 26 => 161 | 27 => 162 | 28 => 163 | 29 => 164 | 30 => 165 | 31 => 170 | n => n, fun | 26 => 3 | 28 => 154 | 24 => 57 | 0 => 0 | 3 => 3 | 37 => 175 | 48 => 189 | 50 => 61 | 4 => 4 | 40 => 217 | 39 => 216 | 45 => 194 | 5 => 5 | 9 => 9 | 51 => 235 | 55 => 238 | 57 => 240 | 58 => 241 | 33 => 71 | n => n, fun | n => n⟩
theorem Tryz.sortedA : Go.Proofs.SlLaysZI.n6 Tryz.prog Tryz.sortedA_ren := {
 mixed := by kernel_rfl
 f6 := ⟨Tryz.f78.name, by decide, Tryz.func78.trans (congrArg some (by kernel_rfl))⟩
 f8 := ⟨Tryz.f116.name, by decide, Tryz.func116.trans (congrArg some (by kernel_rfl))⟩
 f11 := ⟨Tryz.f133.name, by decide, Tryz.func133.trans (congrArg some (by kernel_rfl))⟩
 t0 := Tryz.underlying0
 a0 := Tryz.isAgg0
 z0 := Tryz.sizeOf0
 v0 := Tryz.zeroValue0
 t24 := Tryz.underlying57
 a24 := Tryz.isAgg57
 z24 := Tryz.sizeOf57
 v24 := Tryz.zeroValue57
 t26 := Tryz.underlying3
 a26 := Tryz.isAgg3
 z26 := Tryz.sizeOf3
 v26 := Tryz.zeroValue3
 t28 := Tryz.underlying154
 a28 := Tryz.isAgg154
 z28 := Tryz.sizeOf154
 v28 := Tryz.zeroValue154
 i26 := by kernel_rfl }
def Tryz.sortA_ren : Go.Shelf.Ren := ⟨fun | 5 => 117 | 8 => 135 | 7 => 134 | 19 => 150 | 20 => 151 | 10 => 141 | 11 => 142 | 12 => 143 | 13 => 144 | 14 => 145 | 15 => 146 | 16 => 147 | 17 => 148 | 18 => 149 | 30 => 160 | 31 => 161 | 32 => 162 | 33 => 163 | 34 => 164 | 35 => 165 | 40 => 170 | n => n, fun | 23 => 57 | 25 => 3 | 3 => 3 | 32 => 175 | 22 => 57 | 0 => 0 | 44 => 189 | 46 => 61 | 4 => 4 | 36 => 217 | 35 => 216 | 41 => 194 | 5 => 5 | 9 => 9 | 53 => 235 | 57 => 238 | 63 => 240 | 64 => 241 | n => n, fun | n => n⟩
theorem Tryz.sortA : Go.Proofs.SlLaysM.n5 Tryz.prog Tryz.sortA_ren := {
 mixed := by kernel_rfl
 f5 := ⟨Tryz.f117.name, by decide, Tryz.func117.trans (congrArg some (by kernel_rfl))⟩
 f7 := ⟨Tryz.f134.name, by decide, Tryz.func134.trans (congrArg some (by kernel_rfl))⟩
 f8 := Tryz.func135.trans (congrArg some (by kernel_rfl))
 f10 := ⟨Tryz.f141.name, by decide, Tryz.func141.trans (congrArg some (by kernel_rfl))⟩
 f11 := ⟨Tryz.f142.name, by decide, Tryz.func142.trans (congrArg some (by kernel_rfl))⟩
 f12 := ⟨Tryz.f143.name, by decide, Tryz.func143.trans (congrArg some (by kernel_rfl))⟩
 f13 := ⟨Tryz.f144.name, by decide, Tryz.func144.trans (congrArg some (by kernel_rfl))⟩
 f14 := ⟨Tryz.f145.name, by decide, Tryz.func145.trans (congrArg some (by kernel_rfl))⟩
 f15 := ⟨Tryz.f146.name, by decide, Tryz.func146.trans (congrArg some (by kernel_rfl))⟩
 f16 := ⟨Tryz.f147.name, by decide, Tryz.func147.trans (congrArg some (by kernel_rfl))⟩
 f17 := ⟨Tryz.f148.name, by decide, Tryz.func148.trans (congrArg some (by kernel_rfl))⟩
 f18 := ⟨Tryz.f149.name, by decide, Tryz.func149.trans (congrArg some (by kernel_rfl))⟩
 f19 := Tryz.func150.trans (congrArg some (by kernel_rfl))
 f20 := Tryz.func151.trans (congrArg some (by kernel_rfl))
 f30 := ⟨Tryz.f160.name, by decide, Tryz.func160.trans (congrArg some (by kernel_rfl))⟩
 f31 := Tryz.func161.trans (congrArg some (by kernel_rfl))
 f32 := Tryz.func162.trans (congrArg some (by kernel_rfl))
 f33 := ⟨Tryz.f163.name, by decide, Tryz.func163.trans (congrArg some (by kernel_rfl))⟩
 f34 := ⟨Tryz.f164.name, by decide, Tryz.func164.trans (congrArg some (by kernel_rfl))⟩
 f35 := ⟨Tryz.f165.name, by decide, Tryz.func165.trans (congrArg some (by kernel_rfl))⟩
 f40 := ⟨Tryz.f170.name, by decide, Tryz.func170.trans (congrArg some (by kernel_rfl))⟩
 t0 := Tryz.underlying0
 a0 := Tryz.isAgg0
 z0 := Tryz.sizeOf0
 v0 := Tryz.zeroValue0
 t3 := Tryz.underlying3
 a3 := Tryz.isAgg3
 z3 := Tryz.sizeOf3
 v3 := Tryz.zeroValue3
 t4 := Tryz.underlying4
 a4 := Tryz.isAgg4
 z4 := Tryz.sizeOf4
 v4 := Tryz.zeroValue4
 t5 := Tryz.underlying5
 a5 := Tryz.isAgg5
 z5 := Tryz.sizeOf5
 v5 := Tryz.zeroValue5
 t9 := Tryz.underlying9
 a9 := Tryz.isAgg9
 z9 := Tryz.sizeOf9
 v9 := Tryz.zeroValue9
 t22 := Tryz.underlying57
 a22 := Tryz.isAgg57
 z22 := Tryz.sizeOf57
 v22 := Tryz.zeroValue57
 t23 := Tryz.underlying57
 a23 := Tryz.isAgg57
 z23 := Tryz.sizeOf57
 v23 := Tryz.zeroValue57
 t25 := Tryz.underlying3
 a25 := Tryz.isAgg3
 z25 := Tryz.sizeOf3
 v25 := Tryz.zeroValue3
 t32 := Tryz.underlying175
 a32 := Tryz.isAgg175
 z32 := Tryz.sizeOf175
 v32 := Tryz.zeroValue175
 t35 := Tryz.underlying216
 a35 := Tryz.isAgg216
 z35 := Tryz.sizeOf216
 v35 := Tryz.zeroValue216
 t36 := Tryz.underlying217
 a36 := Tryz.isAgg217
 z36 := Tryz.sizeOf217
 v36 := Tryz.zeroValue217
 t41 := Tryz.underlying194
 a41 := Tryz.isAgg194
 z41 := Tryz.sizeOf194
 v41 := Tryz.zeroValue194
 t44 := Tryz.underlying189
 a44 := Tryz.isAgg189
 z44 := Tryz.sizeOf189
 v44 := Tryz.zeroValue189
 t46 := Tryz.underlying61
 a46 := Tryz.isAgg61
 z46 := Tryz.sizeOf61
 v46 := Tryz.zeroValue61
 t53 := Tryz.underlying235
 a53 := Tryz.isAgg235
 z53 := Tryz.sizeOf235
 v53 := Tryz.zeroValue235
 t57 := Tryz.underlying238
 a57 := Tryz.isAgg238
 z57 := Tryz.sizeOf238
 v57 := Tryz.zeroValue238
 t63 := Tryz.underlying240
 a63 := Tryz.isAgg240
 z63 := Tryz.sizeOf240
 v63 := Tryz.zeroValue240
 t64 := Tryz.underlying241
 a64 := Tryz.isAgg241
 z64 := Tryz.sizeOf241
 v64 := Tryz.zeroValue241 }
end Go.Proofs
namespace Go.Proofs.YtehclfjjjiiieaaGreat.Cf
set_option linter.unusedSimpArgs false
set_option linter.unusedVariables false
open Go Go.RowKit Go.Maps Go.Sort Go.Shelf Go.WideElems
section
variable {W w : World} {l : List Assn} {α : Type} {T : Ty α}
theorem sortsA (m : Nat) : AnyZI.SortsIn Tryz.prog Tryz.sortedA_ren Fence.wide m :=
  ⟨fun blk off cap ss W hH hblk hsz => callsIn_wide.2 (AnyM.slices_Sort_int Tryz.sortA blk off cap ss W hH hblk hsz),
   fun p cap W => callsIn_wide.2 (AnyM.slices_Sort_int_none Tryz.sortA p cap W)⟩
theorem insert_perm {H : Type} (x : Lit × DataW H) : ∀ r, (DataW.insert x r).Perm (x :: r)
 | [] => List.Perm.refl _
 | y :: r => by
  unfold DataW.insert
  split
  ·exact List.Perm.refl _
  ·exact ((insert_perm x r).cons y).trans (List.Perm.swap x y r)
theorem foldr_perm {H : Type} : ∀ r : List (Lit × DataW H), (r.foldr DataW.insert []).Perm r
 | [] => List.Perm.refl _
 | x :: r => (insert_perm x _).trans ((foldr_perm r).cons x)
def anyR (v : Value) : Option (DataW Unit × List MemPlace) := some (.nil, [])
theorem owns_of {k : TypeId} {r : Nat} {es : List (Int × α)} {arr : Array MapEntry} {c : Nat} (hk : Tryz.prog.underlying k = some (.int .i64)) (hr : ∀ p ∈ es, -9223372036854775808 ≤ p.1 ∧ p.1 ≤ 9223372036854775807) (hm : es.length ≤ 9223372036854775807)
  (h1 : Reps T .i64 arr es) (hb : Born arr c) (h2 : (es.map (·.1)).Nodup) (hh : w.heap[r]? = some (.map arr c)) :
  ∃ D0 : DataW Unit, w.ownsMap Tryz.prog k anyR r arr.size D0 ∧ (intKeys D0).Perm (es.map (·.1)) ∧ Maps.size D0 = es.length := by
 have hkeys : arr.toList.map (·.key) = es.map fun p => Value.int .i64 p.1 := by
  have := congrArg (List.map Prod.fst) h1
  simpa [List.map_map, Function.comp_def] using this
 have hlen : arr.size = es.length := by have := congrArg List.length hkeys; simpa using this
 have hrd : ∀ x ∈ arr.toList, ∃ n : Int, x.key = .int .i64 n ∧ WideElems.rd (H := Unit) Tryz.prog k anyR x = some (.int .i64 n, .nil) := by
  intro x hx
  have : x.key ∈ arr.toList.map (·.key) := List.mem_map.2 ⟨x, hx, rfl⟩
  rw [hkeys] at this
  obtain ⟨p, hp, e⟩ := List.mem_map.1 this
  refine ⟨p.1, e.symm, ?_⟩
  have h := hr p hp
  have hw : (Lit.int .i64 p.1).wf = true := by
   show (decide (IntKind.min .i64 ≤ p.1) && decide (p.1 ≤ IntKind.max .i64)) = true
   rw [decide_eq_true (show IntKind.min .i64 ≤ p.1 from h.1), decide_eq_true (show p.1 ≤ IntKind.max .i64 from h.2)]; rfl
  unfold WideElems.rd
  rw [← e, Maps.keyOf_int_mk hk hw]; rfl
 refine ⟨_, ⟨arr, c, hh, ⟨by rw [hlen]; exact hm, ⟨hb.1, hb.2, ?_⟩, fun x hx => by obtain ⟨n, _, h⟩ := hrd x hx; exact ⟨_, h⟩⟩, Nat.le_refl _, rfl⟩, ?_, ?_⟩
 ·rw [hkeys]
  have e : (es.map fun p => Value.int .i64 p.1) = (es.map (·.1)).map (Value.int .i64) := by simp
  rw [e]
  exact List.Pairwise.map _ (fun a b h e => h (by injection e)) h2
 ·refine ((foldr_perm (arr.toList.map (WideElems.rg (H := Unit) Tryz.prog k anyR))).map _).trans (List.Perm.of_eq ?_)
  have e : es.map (·.1) = arr.toList.map fun x => RowKit.intOf x.key := by
   have := congrArg (List.map RowKit.intOf) hkeys
   simp only [List.map_map] at this
   exact this.symm
  rw [e, List.map_map]
  refine List.map_congr_left fun x hx => ?_
  obtain ⟨n, h1, h2⟩ := hrd x hx
  simp [WideElems.rg, h2, h1]
  rfl
 ·have := (foldr_perm (arr.toList.map (WideElems.rg (H := Unit) Tryz.prog k anyR))).length_eq
  rw [Maps.size_eq, this]; simp [hlen]
theorem sorted_keys {r bm : Nat} {es : List (Int × α)} (hr : ∀ p ∈ es, -9223372036854775808 ≤ p.1 ∧ p.1 ≤ 9223372036854775807) (hm : es.length ≤ 1000000) (H : St W (cel bm [.map (some r)] 167 :: mapE T .i64 r es :: l) w) :
  cl Tryz.prog 78 [.func (.func 136) #[] #[.pointer (some ⟨bm, 0, none⟩)]] tSlc w fun s w' => ∃ ks : List Int, ks.Perm (es.map (·.1)) ∧
   St W (row (tInt .i64) 3 1 s (ks.mergeSort fun x y => decide (x ≤ y)) :: cel bm [.map (some r)] 167 :: mapE T .i64 r es :: l) w' := by
 obtain ⟨arr, c, h1, hb, h2, H2⟩ := mapE_open (H.front 1)
 have hh := H2.get
 obtain ⟨D0, hown, hperm, hsize⟩ := owns_of (k := 3) Tryz.underlying3 hr (by omega) h1 hb h2 hh
 have hcel := H.get
 have hlt : bm < w.heap.size := (Array.getElem?_eq_some_iff.1 hcel).1
 have hseq := AnyZI.keys_gives (ρ := Tryz.keysA_ren) { Tryz.keysA with } Fence.wide (5 - 1 - 1 - 1) trivial rfl (by omega) bm r arr.size D0 w hlt (by rw [cell_of_blk hcel]; rfl) hown
 have cS := AnyZI.sorted_in Tryz.sortedA Fence.wide 5 trivial trivial trivial trivial rfl (by omega) (sortsA _) (enters_of Tryz.func117 (by kernel_rfl) rfl) 136 #[.pointer (some ⟨bm, 0, none⟩)] trivial (enters_of Tryz.func136 (by kernel_rfl) rfl) _ (Maps.size D0) (by rw [hsize]; exact Nat.le_trans hm (Nat.le_of_ble_eq_true rfl)) (by rw [hsize]; omega) w hseq
 change CallsIn _ _ Tryz.prog 78 _ _ _ at cS
 refine (callsIn_wide (n := 5)).1 (cS.mono ?_)
 rintro e w' ⟨v, ss, rfl, hS, hrow, hnil, hbel⟩
 have hrow : w'.ownsRow w.heap.size 3 1 v ss.length ((ss.mergeSort fun x y => decide (x ≤ y)).flatMap (tInt .i64).cells) := by
  have e : (ss.mergeSort fun x y => decide (x ≤ y)).flatMap (tInt .i64).cells = (ss.mergeSort fun x y => decide (x ≤ y)).map encZ := by
   generalize ss.mergeSort (fun x y => decide (x ≤ y)) = q
   induction q with
   | nil => rfl
   | cons x q ih => rw [List.flatMap_cons, ih]; rfl
  rw [e]; exact hrow
 obtain ⟨s, hs, H3⟩ := H.ownsRow (T := tInt .i64) (fun _ => rfl) (by rw [List.length_mergeSort]) hbel hrow
 exact ⟨s, hs, ss, hS.trans hperm, H3⟩
end
end Go.Proofs.YtehclfjjjiiieaaGreat.Cf
namespace Go.Proofs.YtehclfjjjiiieaaGreat.Store
open Go Go.Proofs.YtehclfjjjiiieaaGreat.Cf
set_option linter.unusedVariables false
set_option linter.unusedSimpArgs false
set_option maxRecDepth 100000
theorem look_split {β : Type} {k : Int} {v : β} : ∀ {es : List (Int × β)}, es.lookup k = some v → ∃ l1 l2, es = l1 ++ (k, v) :: l2
 | [], h => by cases h
 | (a, b) :: es, h => by
  simp only [List.lookup] at h
  by_cases c : (k == a) = true
  ·rw [c] at h
   have e : k = a := by simpa using c
   cases h; subst e
   exact ⟨[], es, rfl⟩
  ·simp only [Bool.not_eq_true] at c
   rw [c] at h
   obtain ⟨l1, l2, e⟩ := look_split h
   exact ⟨(a, b) :: l1, l2, by rw [e]; rfl⟩
theorem look_mem {β : Type} {k : Int} {v : β} {es : List (Int × β)} (h : es.lookup k = some v) : (k, v) ∈ es := by
 obtain ⟨l1, l2, e⟩ := look_split h
 rw [e]; simp
theorem mem_look {β : Type} {k : Int} {v : β} : ∀ {es : List (Int × β)}, (es.map (·.1)).Nodup → (k, v) ∈ es → es.lookup k = some v
 | [], _, h => by cases h
 | (a, b) :: es, hn, h => by
  have hn' := List.nodup_cons.1 hn
  simp only [List.lookup]
  rcases List.mem_cons.1 h with e | h
  ·cases e; simp
  ·have : k ≠ a := fun e => hn'.1 (List.mem_map.2 ⟨(k, v), h, e⟩)
   rw [show (k == a) = false from by simpa using this]
   exact mem_look hn'.2 h
theorem ups_none {β : Type} {k : Int} {v : β} : ∀ {es : List (Int × β)}, es.lookup k = none → ups k v es = es ++ [(k, v)]
 | [], _ => rfl
 | (a, b) :: es, h => by
  simp only [List.lookup] at h
  by_cases c : (k == a) = true
  ·rw [c] at h; cases h
  ·simp only [Bool.not_eq_true] at c
   rw [c] at h
   simp only [ups, c]
   rw [ups_none h]; rfl
section
variable {W w : World} {l l' : List Assn}
structure StP where
 m : Nat
 chs : List (Int × ChP)
def ptrs (chs : List (Int × ChP)) : List (Int × Option Addr) := chs.map fun e => (e.1, some (⟨e.2.b, 0, none⟩ : Addr))
def bigF (g : Int → List S117) (chs : List (Int × ChP)) : Assn := sepA (chs.map fun e => chainA e.2 (g e.1))
structure Rel (t : StP) (M : Md) : Prop where
 keys : ∀ k, vs M.rows k ≠ [] ↔ k ∈ t.chs.map (·.1)
 marks : ∀ e ∈ t.chs, 0 ≤ e.2.mark ∧ e.2.mark ≤ M.mark
def sto (b : Nat) (M : Md) : Assn := exA fun t : StP => sepA [puA (Rel t M), cel b (T168.cells ⟨some t.m, M.closed, M.mark⟩) 169, mapE tPtr .i64 t.m (ptrs t.chs), bigF (vs M.rows) t.chs]
theorem sto_open {b : Nat} {M : Md} (H : St W (sto b M :: l) w) : ∃ t : StP, Rel t M ∧ (t.chs.map (·.1)).Nodup ∧ St W (cel b (T168.cells ⟨some t.m, M.closed, M.mark⟩) 169 :: mapE tPtr .i64 t.m (ptrs t.chs) :: bigF (vs M.rows) t.chs :: l) w := by
 obtain ⟨t, H⟩ := H.ex
 have H := H.open_
 obtain ⟨h, H⟩ := St.pu (φ := Rel t M) H
 refine ⟨t, h, ?_, H⟩
 have := mapE_nodup (H.front 1)
 have e : (ptrs t.chs).map (·.1) = t.chs.map (·.1) := by unfold ptrs; rw [List.map_map]; rfl
 rw [← e]; exact this
theorem sto_shut {b : Nat} {M : Md} {t : StP} (h : Rel t M) (H : St W (cel b (T168.cells ⟨some t.m, M.closed, M.mark⟩) 169 :: mapE tPtr .i64 t.m (ptrs t.chs) :: bigF (vs M.rows) t.chs :: l) w) : St W (sto b M :: l) w :=
 St.toEx t (St.shut (l' := [puA (Rel t M), cel b (T168.cells ⟨some t.m, M.closed, M.mark⟩) 169, mapE tPtr .i64 t.m (ptrs t.chs), bigF (vs M.rows) t.chs]) (St.toPu h H))
theorem lookup_ptrs (k : Int) : ∀ chs : List (Int × ChP), (ptrs chs).lookup k = (chs.lookup k).map fun C => some (⟨C.b, 0, none⟩ : Addr)
 | [] => rfl
 | (a, C) :: chs => by
  have ih := lookup_ptrs k chs
  unfold ptrs at ih ⊢
  simp only [List.map_cons, List.lookup]
  by_cases c : (k == a) = true
  ·rw [c]; rfl
  ·simp only [Bool.not_eq_true] at c
   rw [c]; exact ih
theorem big_congr {g g' : Int → List S117} {chs : List (Int × ChP)} (h : ∀ e ∈ chs, g e.1 = g' e.1) : bigF g chs = bigF g' chs := by
 unfold bigF; rw [List.map_congr_left fun e he => by rw [h e he]]
theorem big_get {g : Int → List S117} {l1 l2 : List (Int × ChP)} {e : Int × ChP} (H : St W (bigF g (l1 ++ e :: l2) :: l) w) : St W (chainA e.2 (g e.1) :: bigF g (l1 ++ l2) :: l) w := big_out (f := fun e : Int × ChP => chainA e.2 (g e.1)) H
theorem big_put {g : Int → List S117} {l1 l2 : List (Int × ChP)} {e : Int × ChP} (H : St W (chainA e.2 (g e.1) :: bigF g (l1 ++ l2) :: l) w) : St W (bigF g (l1 ++ e :: l2) :: l) w := big_in (f := fun e : Int × ChP => chainA e.2 (g e.1)) H
theorem big_set {g g' : Int → List S117} {l1 l2 : List (Int × ChP)} {k : Int} {C : ChP} {L : List S117} (hk : g' k = L) (ho : ∀ e ∈ l1 ++ l2, g e.1 = g' e.1) (H : St W (chainA C L :: bigF g (l1 ++ l2) :: l) w) : St W (bigF g' (l1 ++ (k, C) :: l2) :: l) w := by
 refine big_put (e := (k, C)) ?_
 rw [← big_congr ho]; rw [← hk] at H; exact H
theorem others {l1 l2 : List (Int × ChP)} {k : Int} {C : ChP} (hn : ((l1 ++ (k, C) :: l2).map (·.1)).Nodup) : ∀ e ∈ l1 ++ l2, e.1 ≠ k := by
 intro e he h
 rw [List.map_append, List.map_cons] at hn
 have h2 := (List.nodup_append.1 hn).2
 rcases List.mem_append.1 he with h3 | h3
 ·exact h2.2 e.1 (List.mem_map.2 ⟨e, h3, rfl⟩) k (List.mem_cons_self ..) h
 ·exact (List.nodup_cons.1 h2.1).1 (by rw [← h]; exact List.mem_map.2 ⟨e, h3, rfl⟩)
theorem Rel.none {t : StP} {M : Md} {k : Int} (h : Rel t M) (hl : t.chs.lookup k = .none) : vs M.rows k = [] := by
 by_cases e : vs M.rows k = []
 ·exact e
 ·exact absurd ((h.keys k).1 e) (lookup_none.1 hl)
theorem snew_spec (H : St W l w) : cl Tryz.prog 70 [] tPtr w fun r w' => ∃ b, r = some ⟨b, 0, none⟩ ∧ St W (sto b ⟨[], 0, 0⟩ :: l) w' := by
 refine F70_ok ?_
 unfold F70
 refine nwMap_st H fun m w1 H => ?_
 refine nw_st H fun b w2 H => ?_
 have H := mapE_new tPtr .i64 (H.front 1)
 have H : St W (sepA [] :: mapE tPtr .i64 m [] :: cel b (T168.cells ⟨some m, 0, 0⟩) 169 :: l) w2 := St.shut (l' := []) H
 exact ⟨b, rfl, sto_shut (t := ⟨m, []⟩) ⟨fun k => by simp [vs_nil], fun e h => by cases h⟩ (H.ord [2, 1, 0])⟩
theorem closed_spec {b : Nat} {M : Md} (H : St W (sto b M :: l) w) : cl Tryz.prog 76 [.pointer (some ⟨b, 0, none⟩)] (tInt .i64) w fun r w' => r = M.closed ∧ St W (sto b M :: l) w' := by
 refine F76_ok ?_
 unfold F76
 obtain ⟨t, h, hn, H⟩ := sto_open H
 refine nc_st rfl ?_
 refine ld_st (x := M.closed) 0 H rfl rfl rfl ?_
 exact ⟨rfl, sto_shut h H⟩
theorem mark_spec {b : Nat} {M : Md} (H : St W (sto b M :: l) w) : cl Tryz.prog 77 [.pointer (some ⟨b, 0, none⟩)] (tInt .i64) w fun r w' => r = M.mark ∧ St W (sto b M :: l) w' := by
 refine F77_ok ?_
 unfold F77
 obtain ⟨t, h, hn, H⟩ := sto_open H
 refine nc_st rfl ?_
 refine ld_st (x := M.mark) 0 H rfl rfl rfl ?_
 exact ⟨rfl, sto_shut h H⟩
theorem in_spec {t : Int} (H : St W l w) : cl Tryz.prog 124 [.int .i64 t] tBool w fun r w' => r = (decide (t ≥ 0) && decide (t ≤ 1125899906842624)) ∧ St W l w' := by
 refine F124_ok ?_
 unfold F124
 exact ⟨rfl, H⟩
theorem is_spec {k : Int} (H : St W l w) : cl Tryz.prog 126 [.int .i64 k] tBool w fun r w' => r = (decide (k ≥ 0) && decide (k < 8192)) ∧ St W l w' := by
 refine F126_ok ?_
 unfold F126
 exact ⟨rfl, H⟩
theorem close_spec {b : Nat} {M : Md} {t : Int} (H : St W (sto b M :: l) w) : cl Tryz.prog 86 [.pointer (some ⟨b, 0, none⟩), .int .i64 t] (tInt .i64) w fun r w' => r = closeE t ∧ St W (sto b (closeM M t) :: l) w' := by
 refine F86_ok ?_
 unfold F86
 refine cl_mono (in_spec H) ?_
 rintro r w1 ⟨rfl, H⟩
 unfold closeM closeE
 split
 ·rename_i hc
  rw [if_pos (show t < 0 ∨ t > 1125899906842624 from by simp at hc; omega)]
  exact ⟨rfl, by rw [if_neg (by omega)]; exact H⟩
 ·rename_i hc
  rw [if_neg (show ¬ (t < 0 ∨ t > 1125899906842624) from by simp at hc; omega), if_pos rfl]
  obtain ⟨p, h, hn, H⟩ := sto_open H
  refine nc_st rfl ?_
  refine ld_st (x := M.closed) 0 H rfl rfl rfl ?_
  refine st_st (x := max M.closed t) 0 H rfl rfl (Nat.le_of_ble_eq_true rfl) fun w2 H => ?_
  exact ⟨rfl, sto_shut (M := { M with closed := max M.closed t }) ⟨h.keys, h.marks⟩ H⟩
theorem time_spec {b : Nat} {M : Md} {t : Int} (H : St W (sto b M :: l) w) : cl Tryz.prog 119 [.pointer (some ⟨b, 0, none⟩), .int .i64 t] (tInt .i64) w fun r w' => r = timeM M t ∧ St W (sto b M :: l) w' := by
 refine F119_ok ?_
 unfold F119
 refine cl_mono (in_spec H) ?_
 rintro r w1 ⟨rfl, H⟩
 unfold timeM
 split
 ·rename_i hc
  rw [if_pos (show t < 0 ∨ t > 1125899906842624 from by simp at hc; omega)]
  exact ⟨rfl, H⟩
 ·rename_i hc
  rw [if_neg (show ¬ (t < 0 ∨ t > 1125899906842624) from by simp at hc; omega)]
  obtain ⟨p, h, hn, H⟩ := sto_open H
  refine nc_st rfl ?_
  refine ld_st (x := M.closed) 0 H rfl rfl rfl ?_
  split
  ·rename_i hc
   rw [if_pos (by simpa using hc)]
   exact ⟨rfl, sto_shut h H⟩
  ·rename_i hc
   rw [if_neg (by simpa using hc)]
   refine ld_st (x := M.mark) 0 H rfl rfl rfl ?_
   split
   ·rename_i hc
    rw [if_pos (by simpa using hc)]
    exact ⟨rfl, sto_shut h H⟩
   ·rename_i hc
    rw [if_neg (by simpa using hc)]
    exact ⟨rfl, sto_shut h H⟩
theorem slast_spec {b : Nat} {M : Md} {k : Int} (hI : Inv M) (H : St W (sto b M :: l) w) : cl Tryz.prog 52 [.pointer (some ⟨b, 0, none⟩), .int .i64 k] (tTup2 T117 tBool) w fun r w' => r = lastV (vs M.rows k) ∧ St W (sto b M :: l) w' := by
 refine F52_ok ?_
 unfold F52
 refine nw_st H fun b3 w1 H => ?_
 obtain ⟨t, h, hnd, H⟩ := sto_open (H.front 1)
 refine nc_st rfl ?_
 refine ld_st (x := some t.m) 0 H rfl rfl rfl ?_
 refine mget_st 1 H rfl rfl ?_
 rw [lookup_ptrs]
 cases hl : t.chs.lookup k with
 | none =>
  rw [if_pos (by simp)]
  refine vst_st (x := Z117) (y := (⟨0, 0⟩ : S117)) len118 3 H rfl fun w2 H => ?_
  refine vld_st (x := (⟨0, 0⟩ : S117)) 0 H rfl ?_
  exact ⟨by rw [h.none hl]; rfl, sto_shut h H.drop⟩
 | some C =>
  rw [if_neg (by simp)]
  obtain ⟨l1, l2, e⟩ := look_split hl
  have H := H.front 2
  rw [e] at H
  have H := big_get H
  refine cl_mono (chlast_spec (C := C) (Nat.le_trans (hI.cap _) (by omega)) H) ?_
  rintro r w2 ⟨rfl, H⟩
  have H := big_put (e := (k, C)) H
  rw [← e] at H
  show st T117 _ (lastV (vs M.rows k)).1 _ _
  generalize lastV (vs M.rows k) = q
  refine vst_st (x := Z117) (y := q.1) len118 3 H rfl fun w3 H => ?_
  refine vld_st (x := q.1) 0 H rfl ?_
  exact ⟨rfl, sto_shut h (H.drop.ord [1, 2, 0])⟩
theorem full_spec {b : Nat} {M : Md} {k : Int} (hI : Inv M) (H : St W (sto b M :: l) w) : cl Tryz.prog 127 [.pointer (some ⟨b, 0, none⟩), .int .i64 k] tBool w fun r w' => r = decide (10000 ≤ (vs M.rows k).length) ∧ St W (sto b M :: l) w' := by
 refine F127_ok ?_
 unfold F127
 obtain ⟨t, h, hnd, H⟩ := sto_open H
 refine nc_st rfl ?_
 refine ld_st (x := some t.m) 0 H rfl rfl rfl ?_
 refine mget_st 1 H rfl rfl ?_
 rw [lookup_ptrs]
 cases hl : t.chs.lookup k with
 | none =>
  rw [if_neg (by simp)]
  unfold F127_j1
  exact ⟨by rw [h.none hl]; simp, sto_shut h H⟩
 | some C =>
  rw [if_pos (by simp)]
  obtain ⟨l1, l2, e⟩ := look_split hl
  have H := H.front 2
  rw [e] at H
  have H := big_get H
  have hlen : (vs M.rows k).length ≤ 10000 := hI.cap k
  refine cl_mono (chlist_spec (C := C) (by show (vs M.rows k).length ≤ _; omega) H) ?_
  intro r w2 H
  have hr := row_len H
  have H := big_put (e := (k, C)) H.drop
  rw [← e] at H
  unfold F127_j1
  refine ⟨?_, sto_shut h (H.ord [1, 2, 0])⟩
  have hr : r.len = (vs M.rows k).length := hr
  rw [hr]
  rw [Bool.eq_iff_iff, decide_eq_true_eq]
  simp
  try omega
end
end Go.Proofs.YtehclfjjjiiieaaGreat.Store
namespace Go.Proofs.YtehclfjjjiiieaaGreat.Store
open Go Go.Proofs.YtehclfjjjiiieaaGreat.Cf
set_option linter.unusedVariables false
set_option linter.unusedSimpArgs false
set_option maxRecDepth 100000
theorem why_ok {L : List Row} {t : Int} : ∀ {xs : List S122} {seen : List Int}, whyL L t seen xs = 0 → (∀ x ∈ xs, 0 ≤ x.Key ∧ x.Key ≤ 8191 ∧ (lastV (vs L x.Key)).1.T_ < t ∧ (vs L x.Key).length < 10000 ∧ x.Key ∉ seen) ∧ (xs.map (·.Key)).Nodup
 | [], seen, _ => ⟨fun x h => (by cases h), List.nodup_nil⟩
 | x :: xs, seen, h => by
  unfold whyL at h
  split at h
  ·cases h
  ·rename_i h1
   split at h
   ·cases h
   ·rename_i h2
    split at h
    ·cases h
    ·rename_i h3
     split at h
     ·cases h
     rename_i h4
     obtain ⟨g1, g2⟩ := why_ok h
     refine ⟨fun y hy => ?_, List.nodup_cons.2 ⟨fun hm => ?_, g2⟩⟩
     ·rcases List.mem_cons.1 hy with rfl | hy
      ·exact ⟨by omega, by omega, by omega, by omega, h2⟩
      ·have := g1 y hy
       exact ⟨this.1, this.2.1, this.2.2.1, this.2.2.2.1, fun hs => this.2.2.2.2 (List.mem_append_left _ hs)⟩
     ·obtain ⟨y, hy, e⟩ := List.mem_map.1 hm
      have := (g1 y hy).2.2.2.2
      rw [e] at this
      exact this (List.mem_append_right _ (List.mem_singleton_self _))
theorem whyL_cons {L : List Row} {t : Int} {seen : List Int} {x : S122} {xs : List S122} : whyL L t seen (x :: xs) = if x.Key < 0 ∨ x.Key > 8191 then 123 else if x.Key ∈ seen then 124 else if (lastV (vs L x.Key)).1.T_ ≥ t then 121 else if 10000 ≤ (vs L x.Key).length then 125 else whyL L t (seen ++ [x.Key]) xs := rfl
theorem vs_news_no {t k : Int} {xs : List S122} (h : k ∉ xs.map (·.Key)) : vs (news t xs) k = [] := by
 by_cases e : vs (news t xs) k = []
 ·exact e
 ·obtain ⟨r, hr, hk⟩ := vs_ne.1 e
  obtain ⟨x, hx, rfl⟩ := List.mem_map.1 hr
  exact absurd (List.mem_map.2 ⟨x, hx, hk⟩) h
section
variable {W w : World} {l l' : List Assn}
theorem swhy_spec {b : Nat} {M : Md} {t : Int} {s : Slc} {xs : List S122} (hI : Inv M) (hx : xs.length ≤ 1000) (ht : 1 ≤ t) (k : See 2 l T122 s xs) (H : St W (sto b M :: l) w) :
  cl Tryz.prog 89 [.pointer (some ⟨b, 0, none⟩), .int .i64 t, tSlc.enc s] (tInt .i64) w fun r w' => r = (if xs.length > 100 then 122 else whyL M.rows t [] xs) ∧ St W (sto b M :: l) w' := by
 have hs := k.tail.len H
 refine F89_ok ?_
 unfold F89
 split
 ·rename_i hc
  rw [if_pos (by simp at hc; omega)]
  exact ⟨rfl, H⟩
 ·rename_i hc
  rw [if_neg (by simp at hc; omega)]
  refine nwMap_st H fun m w1 H => ?_
  have H := mapE_new T201 .i64 H
  refine lp_i (fun i w => 0 ≤ i ∧ i ≤ xs.length ∧ whyL M.rows t [] xs = whyL M.rows t ((xs.take i.toNat).map (·.Key)) (xs.drop i.toNat) ∧ ∃ es : List (Int × S201), (∀ k, (es.lookup k).isSome = decide (k ∈ (xs.take i.toNat).map (·.Key))) ∧ St W (mapE T201 .i64 m es :: sto b M :: l) w) (fun i => (xs.length - i).toNat)
   ⟨Int.le_refl 0, by omega, by simp, [], by simp, H⟩ ?_
  rintro i w ⟨h0, h1, h2, es, h3, H⟩
  unfold F89_l1
  rw [hs]
  split
  ·rename_i hc
   have hc : i < xs.length := by simpa using hc
   have e1 : IntKind.i64.wrap (i + 1) = i + 1 := wrap_i64 (by omega) (by omega)
   have hxi : xs[i.toNat]? = some xs[i.toNat] := List.getElem?_eq_getElem (by omega)
   have hd : xs.drop i.toNat = xs[i.toNat] :: xs.drop (i.toNat + 1) := List.drop_eq_getElem_cons (by omega)
   have htk : xs.take (i.toNat + 1) = xs.take i.toNat ++ [xs[i.toNat]] := List.take_succ_eq_append_getElem (by omega)
   obtain ⟨a, ha⟩ := k.tail.tail.ix (i := i) H h0 hc
   refine ex_i a ha ?_
   refine ex_i xs[i.toNat] (k.tail.tail.rd ha hxi H) ?_
   generalize xs[i.toNat] = x at hd htk
   refine nw_st H fun b1 w2 H => ?_
   refine vst_st (x := Z122) (y := x) len123 0 H rfl fun w3 H => ?_
   refine ld_st (x := x.Key) 0 H rfl rfl rfl ?_
   refine mget_st 1 H rfl rfl ?_
   refine nw_st H fun b2 w4 H => ?_
   refine st_st (x := _) 0 H rfl rfl (Nat.le_of_ble_eq_true rfl) fun w5 H => ?_
   refine ld_st (x := x.Key) 1 H rfl rfl rfl ?_
   refine cl_mono (slast_spec (k := x.Key) hI (H.front 3)) ?_
   rintro r w6 ⟨rfl, H⟩
   refine nw_st H fun b3 w7 H => ?_
   generalize hq : lastV (vs M.rows x.Key) = q
   refine vst_st (x := Z117) (y := q.1) len118 0 H rfl fun w8 H => ?_
   refine ld_st (x := x.Key) 3 H rfl rfl rfl ?_
   refine cl_mono (is_spec H) ?_
   rintro r w9 ⟨rfl, H⟩
   rw [hd, whyL_cons, hq] at h2
   have hin := h3 x.Key
   generalize hsn : (xs.take i.toNat).map (·.Key) = seen at h2 hin h3
   split
   ·rename_i hk
    rw [if_pos (show x.Key < 0 ∨ x.Key > 8191 from by simp at hk; omega)] at h2
    exact ⟨h2.symm, ((((H.drop.front 1).drop.front 1).drop.front 1).drop)⟩
   ·rename_i hk
    rw [if_neg (show ¬ (x.Key < 0 ∨ x.Key > 8191) from by simp at hk; omega)] at h2
    split
    ·rename_i hk2
     have hk2 : (es.lookup x.Key).isSome = true := hk2
     rw [hin] at hk2
     rw [if_pos (by simpa using hk2)] at h2
     exact ⟨h2.symm, ((((H.drop.front 1).drop.front 1).drop.front 1).drop)⟩
    ·rename_i hk2
     have hk2 : ¬ (es.lookup x.Key).isSome = true := hk2
     rw [hin] at hk2
     rw [if_neg (by simpa using hk2)] at h2
     refine ld_st (x := q.1.T_) 0 H rfl rfl rfl ?_
     split
     ·rename_i hk3
      rw [if_pos (by simpa using hk3)] at h2
      exact ⟨h2.symm, ((((H.drop.front 1).drop.front 1).drop.front 1).drop)⟩
     ·rename_i hk3
      rw [if_neg (by simpa using hk3)] at h2
      refine ld_st (x := x.Key) 3 H rfl rfl rfl ?_
      refine cl_mono (full_spec (k := x.Key) hI (H.front 1)) ?_
      rintro r w10 ⟨rfl, H⟩
      by_cases hk4 : 10000 ≤ (vs M.rows x.Key).length
      ·rw [decide_eq_true hk4, if_pos rfl]
       rw [if_pos hk4] at h2
       exact ⟨h2.symm, ((((H.front 1).drop.front 1).drop.front 1).drop.front 1).drop⟩
      rw [if_neg hk4] at h2
      rw [decide_eq_false hk4, if_neg (by simp)]
      refine ld_st (x := x.Key) 3 H rfl rfl rfl ?_
      refine mput_st 4 H rfl rfl fun w11 H => ?_
      rw [e1]
      refine ⟨⟨by omega, by omega, ?_, _, ?_, ((((H.front 2).drop.front 2).drop.front 2).drop)⟩, by omega⟩
      ·rw [show (i + 1).toNat = i.toNat + 1 from by omega, htk, List.map_append, hsn]; exact h2
      ·intro k
       rw [show (i + 1).toNat = i.toNat + 1 from by omega, htk, List.map_append, hsn, lookup_ups]
       by_cases hkx : k = x.Key
       ·subst hkx; simp
       ·rw [if_neg (by simpa using hkx), h3 k]; simp [hkx]
  ·rename_i hc
   have hc : i = xs.length := by simp at hc; omega
   subst hc
   have e : xs.drop ((xs.length : Int)).toNat = [] := by simp
   rw [e] at h2
   exact ⟨h2.symm, H.drop⟩
end
end Go.Proofs.YtehclfjjjiiieaaGreat.Store
namespace Go.Proofs.YtehclfjjjiiieaaGreat.Store
open Go Go.Proofs.YtehclfjjjiiieaaGreat.Cf
set_option linter.unusedVariables false
set_option linter.unusedSimpArgs false
set_option maxRecDepth 100000
theorem news_take {t : Int} {xs : List S122} {i : Nat} (h : i < xs.length) : news t (xs.take (i + 1)) = news t (xs.take i) ++ [⟨t, xs[i]⟩] := by
 unfold news; rw [List.take_succ_eq_append_getElem h, List.map_append]; rfl
theorem vs_one (t k : Int) (x : S122) : vs [⟨t, x⟩] k = if x.Key = k then [⟨t, x.V⟩] else [] := by rw [vs_cons, vs_nil]
theorem vs_news_le {t k : Int} : ∀ {xs : List S122}, (xs.map (·.Key)).Nodup → (vs (news t xs) k).length ≤ 1
 | [], _ => by simp [news, vs_nil]
 | x :: xs, h => by
  have h' := List.nodup_cons.1 h
  have e : news t (x :: xs) = ⟨t, x⟩ :: news t xs := rfl
  rw [e, vs_cons]
  split
  ·rename_i hk
   have hk : x.Key = k := hk
   subst hk
   rw [vs_news_no h'.1]
   simp
  ·exact vs_news_le h'.2
theorem Inv.put {M : Md} (hI : Inv M) (t : Int) (xs : List S122) : Inv (putM M t xs) := by
 unfold putM
 split
 ·rename_i he
  unfold putE at he
  split at he
  ·cases he
  ·split at he
   ·cases he
   ·split at he
    ·cases he
    ·obtain ⟨h1, h2⟩ := why_ok he
     refine ⟨fun k => ?_, fun r hr => ?_, fun r hr => ?_, ?_, hI.mark⟩
     ·simp only
      rw [vs_app, List.length_append]
      by_cases hk : k ∈ xs.map (·.Key)
      ·obtain ⟨x, hx, rfl⟩ := List.mem_map.1 hk
       have := (h1 x hx).2.2.2.1
       have := vs_news_le (t := t) (k := x.Key) h2
       omega
      ·rw [vs_news_no hk]
       have := hI.cap k
       simpa using this
     ·rcases List.mem_append.1 hr with hr | hr
      ·exact hI.key r hr
      ·obtain ⟨x, hx, rfl⟩ := List.mem_map.1 hr
       exact ⟨(h1 x hx).1, (h1 x hx).2.1⟩
     ·rcases List.mem_append.1 hr with hr | hr
      ·exact hI.time r hr
      ·obtain ⟨x, hx, rfl⟩ := List.mem_map.1 hr
       simp only; omega
     ·refine List.pairwise_append.2 ⟨hI.rise, ?_, ?_⟩
      ·unfold news
       rw [List.pairwise_map]
       refine (List.pairwise_map.1 h2).imp fun hne he => absurd he hne
      ·rintro r hr q hq hk
       obtain ⟨x, hx, rfl⟩ := List.mem_map.1 hq
       have hlt := (h1 x hx).2.2.1
       have hk : r.X.Key = x.Key := hk
       show r.T_ < t
       have hm : (⟨r.T_, r.X.V⟩ : S117) ∈ vs M.rows x.Key := List.mem_map.2 ⟨r, List.mem_filter.2 ⟨hr, by simpa using hk⟩, rfl⟩
       have hrise := vs_rise hI.rise x.Key
       unfold lastV at hlt
       generalize vs M.rows x.Key = L at *
       rcases List.eq_nil_or_concat L with rfl | ⟨L', y, rfl⟩
       ·cases hm
       ·rw [List.concat_eq_append] at *
        rw [List.getLast?_append] at hlt
        simp only [List.getLast?_singleton, Option.some_or, Option.getD_some] at hlt
        rcases List.mem_append.1 hm with h | h
        ·have := (List.pairwise_append.1 hrise).2.2 _ h y (List.mem_singleton_self _)
         simp only at this; omega
        ·cases List.mem_singleton.1 h
         simpa using hlt
 ·exact hI
theorem Inv.close {M : Md} (hI : Inv M) (t : Int) : Inv (closeM M t) := by
 unfold closeM
 split
 ·rename_i h
  unfold closeE at h
  have := hI.mark
  refine ⟨hI.cap, hI.key, hI.time, hI.rise, ?_⟩
  split at h
  ·cases h
  ·simp only; omega
 ·exact hI
theorem Inv.prune {M : Md} (hI : Inv M) (t : Int) : Inv (pruneM M t) := by
 unfold pruneM
 split
 ·rename_i h
  unfold pruneE at h
  have := hI.mark
  have hs := keep_sub (max M.mark t) M.rows
  refine ⟨fun k => Nat.le_trans (by unfold vs; rw [List.length_map, List.length_map]; exact (hs.filter _).length_le) (hI.cap k), fun r hr => hI.key r (hs.subset hr), fun r hr => hI.time r (hs.subset hr), hI.rise.sublist hs, ?_⟩
  split at h
  ·cases h
  ·split at h
   ·cases h
   ·simp only; omega
 ·exact hI
section
variable {W w : World} {l l' : List Assn}
theorem put_spec {b : Nat} {M : Md} {t : Int} {s : Slc} {xs : List S122} (hI : Inv M) (hx : xs.length ≤ 1000) (k : See 2 l T122 s xs) (H : St W (sto b M :: l) w) :
  cl Tryz.prog 55 [.pointer (some ⟨b, 0, none⟩), .int .i64 t, tSlc.enc s] (tInt .i64) w fun r w' => r = putE M t xs ∧ St W (sto b (putM M t xs) :: l) w' := by
 refine F55_ok ?_
 unfold F55
 have hs := k.tail.len H
 split
 ·rename_i hc
  have e : putE M t xs = 120 := by unfold putE; rw [if_pos (by simp at hc; omega)]
  unfold putM
  rw [e, if_neg (by omega)]
  exact ⟨rfl, H⟩
 ·rename_i hc
  have hc : ¬ (t < 1 ∨ t > 1125899906842624) := by simp at hc; omega
  obtain ⟨p, h, hnd, H⟩ := sto_open H
  refine nc_st rfl ?_
  refine ld_st (x := M.closed) 0 H rfl rfl rfl ?_
  have H := sto_shut h H
  split
  ·rename_i hc2
   have e : putE M t xs = 121 := by unfold putE; rw [if_neg hc, if_pos (by simpa using hc2)]
   unfold putM
   rw [e, if_neg (by omega)]
   exact ⟨rfl, H⟩
  ·rename_i hc2
   have hc2 : ¬ t ≤ M.closed := by simpa using hc2
   refine cl_mono (swhy_spec (t := t) hI hx (by omega) k H) ?_
   rintro r w1 ⟨rfl, H⟩
   have e : putE M t xs = if xs.length > 100 then 122 else whyL M.rows t [] xs := by unfold putE; rw [if_neg hc, if_neg hc2]
   rw [← e]
   unfold putM
   split
   ·rename_i hne
    have hne : putE M t xs ≠ 0 := by simpa using hne
    rw [if_neg hne]
    exact ⟨rfl, H⟩
   ·rename_i hne
    have hne : putE M t xs = 0 := by simpa using hne
    rw [if_pos hne, hne]
    have hl : xs.length ≤ 100 := by
     rw [e] at hne
     split at hne
     ·cases hne
     ·omega
    rw [e, if_neg (by omega)] at hne
    obtain ⟨g1, g2⟩ := why_ok hne
    refine lp_i (fun i w => 0 ≤ i ∧ i ≤ xs.length ∧ St W (sto b { M with rows := M.rows ++ news t (xs.take i.toNat) } :: l) w) (fun i => (xs.length - i).toNat) ⟨Int.le_refl 0, by omega, by simpa [news] using H⟩ ?_
    rintro i w ⟨h0, h1, H⟩
    unfold F55_l1
    rw [hs]
    split
    ·rename_i hc3
     have hc3 : i < xs.length := by simpa using hc3
     have e1 : IntKind.i64.wrap (i + 1) = i + 1 := wrap_i64 (by omega) (by omega)
     have hxi : xs[i.toNat]? = some xs[i.toNat] := List.getElem?_eq_getElem (by omega)
     have htk := news_take (t := t) (xs := xs) (i := i.toNat) (by omega)
     have hkey := g1 xs[i.toNat] (List.getElem_mem _)
     have hnot : (xs[i.toNat]).Key ∉ (xs.take i.toNat).map (·.Key) := by
      intro hm
      rw [List.map_take] at hm
      obtain ⟨j, hj, hje⟩ := List.mem_take_iff_getElem.1 hm
      have := (List.pairwise_iff_getElem.1 g2) j i.toNat (by simp at hj ⊢; omega) (by simp; omega) (by omega)
      rw [hje] at this
      simp at this
     obtain ⟨a, ha⟩ := k.tail.ix (i := i) H h0 hc3
     refine ex_i a ha ?_
     refine ex_i xs[i.toNat] (k.tail.rd ha hxi H) ?_
     generalize xs[i.toNat] = x at htk hkey hnot
     refine nw_st H fun b1 w2 H => ?_
     refine vst_st (x := Z122) (y := x) len123 0 H rfl fun w3 H => ?_
     refine dr_st H fun w4 H => ?_
     have hvs : vs (M.rows ++ news t (xs.take i.toNat)) x.Key = vs M.rows x.Key := by rw [vs_app, vs_news_no hnot, List.append_nil]
     generalize hrows : M.rows ++ news t (xs.take i.toNat) = rows at H hvs
     have hrows' : M.rows ++ news t (xs.take (i + 1).toNat) = rows ++ [⟨t, x⟩] := by rw [show (i + 1).toNat = i.toNat + 1 from by omega, htk, ← hrows, List.append_assoc]
     have hlen : (vs rows x.Key).length < 10000 := by rw [hvs]; exact hkey.2.2.2.1
     have hlast : (lastV (vs rows x.Key)).1.T_ < t := by rw [hvs]; exact hkey.2.2.1
     have hself : vs (rows ++ [⟨t, x⟩]) x.Key = vs rows x.Key ++ [⟨t, x.V⟩] := by rw [vs_app, vs_one, if_pos rfl]
     have hother : ∀ q, q ≠ x.Key → vs rows q = vs (rows ++ [⟨t, x⟩]) q := fun q hq => by rw [vs_app, vs_one, if_neg (fun h => hq h.symm), List.append_nil]
     have hmk := hI.mark
     obtain ⟨p, h, hnd, H⟩ := sto_open (H.front 1)
     have hend : ∀ (C : ChP) (l1 l2 : List (Int × ChP)) (pm : Nat) (w : World), Rel ⟨pm, l1 ++ (x.Key, C) :: l2⟩ { M with rows := rows ++ [⟨t, x⟩] } → ((l1 ++ (x.Key, C) :: l2).map (·.1)).Nodup → 0 ≤ C.mark ∧ C.mark ≤ M.mark →
       St W (chainA C (vs rows x.Key) :: bigF (vs rows) (l1 ++ l2) :: mapE tPtr .i64 pm (ptrs (l1 ++ (x.Key, C) :: l2)) :: cel b (T168.cells ⟨some pm, M.closed, M.mark⟩) 169 :: cel b1 (T122.cells x) 123 :: l) w →
       F55_j2 t i ⟨b1, 0, none⟩ (some ⟨C.b, 0, none⟩) w (fun s' w' => (0 ≤ s' ∧ s' ≤ xs.length ∧ St W (sto b { M with rows := M.rows ++ news t (xs.take s'.toNat) } :: l) w') ∧ (xs.length - s').toNat < (xs.length - i).toNat) fun r w' => r = 0 ∧ St W (sto b { M with rows := M.rows ++ news t xs } :: l) w' := by
      intro C l1 l2 pm w hR hnd hm H
      unfold F55_j2
      refine ld_st (x := x.V) 4 H rfl rfl rfl ?_
      refine cl_mono (chput_spec (t := t) (v := x.V) (by omega) (by omega) (by omega) (by omega) hlast H) ?_
      rintro r w5 ⟨s2, H⟩
      rw [e1]
      have H := big_set (g' := vs (rows ++ [⟨t, x⟩])) (k := x.Key) hself (fun e he => hother e.1 (others hnd e he)) H
      refine ⟨⟨by omega, by omega, ?_⟩, by omega⟩
      rw [hrows']
      have hp : ptrs (l1 ++ (x.Key, (⟨C.b, s2, C.mark⟩ : ChP)) :: l2) = ptrs (l1 ++ (x.Key, C) :: l2) := by unfold ptrs; simp
      rw [← hp] at H
      refine sto_shut (t := ⟨pm, l1 ++ (x.Key, ⟨C.b, s2, C.mark⟩) :: l2⟩) (M := { M with rows := rows ++ [⟨t, x⟩] }) ⟨fun q => ?_, fun e he => ?_⟩ (((H.front 3).drop).ord [2, 1, 0])
      ·have := hR.keys q
       simpa using this
      ·rcases List.mem_append.1 he with he | he
       ·exact hR.marks e (List.mem_append_left _ he)
       ·rcases List.mem_cons.1 he with rfl | he
        ·exact hm
        ·exact hR.marks e (List.mem_append_right _ (List.mem_cons_of_mem _ he))
     refine ld_st (x := some p.m) 0 H rfl rfl rfl ?_
     refine ld_st (x := x.Key) 3 H rfl rfl rfl ?_
     refine mget_st 1 H rfl rfl ?_
     rw [lookup_ptrs]
     cases hlk : p.chs.lookup x.Key with
     | none =>
      rw [if_pos (by simp)]
      refine cl_mono (chnew_spec H) ?_
      rintro r w5 ⟨cb, rfl, H⟩
      refine dr_st H fun w6 H => ?_
      refine ld_st (x := some p.m) 1 H rfl rfl rfl ?_
      refine ld_st (x := x.Key) 4 H rfl rfl rfl ?_
      refine mput_st 2 H rfl rfl fun w7 H => ?_
      have hlk2 : (ptrs p.chs).lookup x.Key = none := by rw [lookup_ptrs, hlk]; rfl
      have hp : ups x.Key (some ⟨cb, 0, none⟩) (ptrs p.chs) = ptrs (p.chs ++ (x.Key, (⟨cb, nilS, 0⟩ : ChP)) :: []) := by rw [ups_none hlk2]; unfold ptrs; simp
      rw [hp] at H
      have h0v : vs rows x.Key = [] := h.none hlk
      have hnin : x.Key ∉ p.chs.map (·.1) := lookup_none.1 hlk
      refine hend ⟨cb, nilS, 0⟩ p.chs [] p.m w7 ⟨fun q => ?_, fun e he => ?_⟩ ?_ ⟨Int.le_refl 0, hmk.1⟩ ?_
      ·by_cases hq : q = x.Key
       ·subst hq
        simp only [hself]; simp
       ·rw [← hother q hq, h.keys q]; simp [hq]
      ·rcases List.mem_append.1 he with he | he
       ·exact h.marks e he
       ·cases List.mem_singleton.1 he
        exact ⟨Int.le_refl 0, hmk.1⟩
      ·rw [List.map_append]
       refine List.nodup_append.2 ⟨hnd, by simp, ?_⟩
       intro a ha c hc
       simp at hc; subst hc
       intro e; subst e; exact hnin ha
      ·rw [h0v, List.append_nil]
       exact H.ord [1, 3, 0, 2, 4]
     | some C =>
      rw [if_neg (by simp)]
      obtain ⟨l1, l2, e⟩ := look_split hlk
      rw [e] at H hnd
      have hm := h.marks _ (look_mem hlk)
      refine hend C l1 l2 p.m w4 ⟨fun q => ?_, fun e' he => ?_⟩ hnd hm ((big_get (H.front 2)).ord [0, 1, 3, 2, 4])
      ·have := h.keys q
       rw [e] at this
       by_cases hq : q = x.Key
       ·subst hq
        simp only [hself]; simp
       ·rw [← hother q hq]; exact this
      ·exact h.marks _ (by rw [e]; assumption)
    ·rename_i hc3
     have hc3 : i = xs.length := by simp at hc3; omega
     subst hc3
     have e2 : xs.take ((xs.length : Int)).toNat = xs := by simp
     rw [e2] at H
     exact ⟨rfl, H⟩
end
end Go.Proofs.YtehclfjjjiiieaaGreat.Store
namespace Go.Proofs.YtehclfjjjiiieaaGreat.Store
open Go Go.Proofs.YtehclfjjjiiieaaGreat.Cf
set_option linter.unusedVariables false
set_option linter.unusedSimpArgs false
set_option maxRecDepth 100000
def sortI (L : List Int) : List Int := L.mergeSort fun x y => decide (x ≤ y)
theorem sortI_pw (L : List Int) : (sortI L).Pairwise fun x y => x ≤ y := by
 have h1 : (sortI L).Pairwise fun x y => decide (x ≤ y) = true :=
  List.pairwise_mergeSort (fun a b c h1 h2 => by simp at h1 h2 ⊢; omega) (fun a b => by simp; omega) L
 exact h1.imp fun h => by simpa using h
theorem sortI_p (L : List Int) : (sortI L).Perm L := List.mergeSort_perm L _
theorem sortI_perm {L M : List Int} (h : L.Perm M) : sortI L = sortI M :=
 List.Perm.eq_of_pairwise (fun a b _ _ h1 h2 => by omega) (sortI_pw L) (sortI_pw M) ((sortI_p L).trans (h.trans (sortI_p M).symm))
theorem sortI_lt {L : List Int} (h : L.Nodup) : (sortI L).Pairwise fun x y => x < y :=
 ((sortI_pw L).and ((sortI_p L).nodup_iff.2 h)).imp fun {a b} h => by
  have h1 := h.1
  have h2 : a ≠ b := h.2
  omega
theorem Rel.sorted {t : StP} {M : Md} (h : Rel t M) (hn : (t.chs.map (·.1)).Nodup) : Keys M.rows (sortI (t.chs.map (·.1))) :=
 ⟨sortI_lt hn, fun k => by rw [(sortI_p _).mem_iff, h.keys]⟩
theorem keys_ex : ∀ L : List Row, ∃ ks, Keys L ks
 | [] => ⟨[], List.Pairwise.nil, fun k => by simp [vs_nil]⟩
 | r :: L => by
  obtain ⟨ks, h⟩ := keys_ex L
  by_cases hk : r.X.Key ∈ ks
  ·refine ⟨ks, h.rise, fun k => ?_⟩
   rw [vs_cons]
   split
   ·rename_i e; subst e; simp [hk]
   ·exact h.all k
  ·refine ⟨sortI (r.X.Key :: ks), sortI_lt (List.nodup_cons.2 ⟨hk, h.rise.imp fun h => Int.ne_of_lt h⟩), fun k => ?_⟩
   rw [(sortI_p _).mem_iff, vs_cons, List.mem_cons, h.all]
   split
   ·rename_i e; subst e; simp
   ·rename_i e
    constructor
    ·rintro (rfl | h)
     ·exact absurd rfl e
     ·exact h
    ·exact fun h => .inr h
noncomputable def keysOf (L : List Row) : List Int := Classical.choose (keys_ex L)
theorem keysOf_ok (L : List Row) : Keys L (keysOf L) := Classical.choose_spec (keys_ex L)
theorem keysOf_eq {L : List Row} {ks : List Int} (h : Keys L ks) : keysOf L = ks := (keysOf_ok L).uniq h fun _ => Iff.rfl
noncomputable def snapL (M : Md) (t : Int) : List S122 := if timeM M t = 0 then snapK M.rows t (keysOf M.rows) else []
theorem snap_take {L : List Row} {t : Int} {q : List Int} {i : Nat} (h : i < q.length) : snapK L t (q.take (i + 1)) = snapK L t (q.take i) ++ match cnt (vs L q[i]) t with | none => [] | some v => [⟨q[i], v.V⟩] := by
 unfold snapK
 rw [List.take_succ_eq_append_getElem h, List.filterMap_append]
 congr 1
 rw [List.filterMap_cons]
 cases cnt (vs L q[i]) t <;> rfl
theorem timeM_ok {M : Md} {t : Int} (h : timeM M t = 0) : 0 ≤ t ∧ t ≤ 1125899906842624 ∧ t ≤ M.closed ∧ M.mark ≤ t := by
 unfold timeM at h
 split at h
 ·cases h
 ·split at h
  ·cases h
  ·split at h
   ·cases h
   ·omega
theorem fst_ptrs (chs : List (Int × ChP)) : (ptrs chs).map (·.1) = chs.map (·.1) := by unfold ptrs; rw [List.map_map]; rfl
theorem rise_len : ∀ {L : List Int} {lo hi : Int}, L.Pairwise (fun x y => x < y) → (∀ x ∈ L, lo ≤ x ∧ x ≤ hi) → (L.length : Int) ≤ max 0 (hi - lo + 1)
 | [], _, _, _, _ => by simp only [List.length_nil]; omega
 | x :: L, lo, hi, h, hb => by
  have h' := List.pairwise_cons.1 h
  have h1 := hb x (List.mem_cons_self ..)
  have := rise_len (L := L) (lo := x + 1) (hi := hi) h'.2 fun y hy => ⟨by have := h'.1 y hy; omega, (hb y (List.mem_cons_of_mem _ hy)).2⟩
  simp only [List.length_cons]; omega
theorem keys_len {t : StP} {M : Md} (hI : Inv M) (h : Rel t M) (hn : (t.chs.map (·.1)).Nodup) : t.chs.length ≤ 8192 := by
 have h1 := rise_len (L := sortI (t.chs.map (·.1))) (lo := 0) (hi := 8191) (sortI_lt hn) fun x hx => by
  have hx : x ∈ t.chs.map (·.1) := (sortI_p _).mem_iff.1 hx
  obtain ⟨r, hr, hk⟩ := vs_ne.1 ((h.keys x).2 hx)
  have := hI.key r hr
  omega
 rw [(sortI_p _).length_eq, List.length_map] at h1
 omega
section
variable {W w : World} {l l' : List Assn}
theorem snap_spec {b : Nat} {M : Md} {t : Int} (hI : Inv M) (H : St W (sto b M :: l) w) : cl Tryz.prog 80 [.pointer (some ⟨b, 0, none⟩), .int .i64 t] (tTup2 tSlc (tInt .i64)) w fun r w' => r.2 = timeM M t ∧ St W (row T122 123 2 r.1 (snapL M t) :: sto b M :: l) w' := by
 refine F80_ok ?_
 unfold F80
 refine cl_mono (time_spec (t := t) H) ?_
 rintro r w1 ⟨rfl, H⟩
 unfold snapL
 split
 ·rename_i hc
  have hc : timeM M t ≠ 0 := by simpa using hc
  rw [if_neg hc]
  exact ⟨rfl, row_nil T122 123 2 H⟩
 ·rename_i hc
  have hc : timeM M t = 0 := by simpa using hc
  rw [if_pos hc]
  obtain ⟨ht0, ht1, ht2, ht3⟩ := timeM_ok hc
  obtain ⟨p, h, hnd, H⟩ := sto_open H
  have hks := h.sorted hnd
  have hcl := keys_len hI h hnd
  rw [keysOf_eq hks]
  refine nc_st rfl ?_
  refine ld_st (x := some p.m) 0 H rfl rfl rfl ?_
  refine F120_ok ?_
  unfold F120
  refine nw_st H fun bm w2 H => ?_
  have hrange : ∀ e ∈ ptrs p.chs, -9223372036854775808 ≤ e.1 ∧ e.1 ≤ 9223372036854775807 := by
   intro e he
   have : e.1 ∈ p.chs.map (·.1) := by rw [← fst_ptrs]; exact List.mem_map.2 ⟨e, he, rfl⟩
   obtain ⟨r, hr, hk⟩ := vs_ne.1 ((h.keys _).2 this)
   have := hI.key r hr
   omega
  refine cl_mono (sorted_keys hrange (by unfold ptrs; rw [List.length_map]; omega) (H.ord [0, 2])) ?_
  rintro s w3 ⟨ks, hp, H⟩
  have hq : (ks.mergeSort fun x y => decide (x ≤ y)) = sortI (p.chs.map (·.1)) := by rw [fst_ptrs] at hp; exact sortI_perm hp
  rw [hq] at H
  have hs := row_len H
  have hql : (sortI (p.chs.map (·.1))).length ≤ 9000 := by rw [(sortI_p _).length_eq, List.length_map]; omega
  generalize sortI (p.chs.map (·.1)) = q at *
  have H := row_nil T122 123 2 H
  refine lp_i (fun x w => 0 ≤ x.2 ∧ x.2 ≤ q.length ∧ St W (row T122 123 2 x.1 (snapK M.rows t (q.take x.2.toNat)) :: row (tInt .i64) 3 1 s q :: cel bm [.map (some p.m)] 167 :: mapE tPtr .i64 p.m (ptrs p.chs) :: cel b (T168.cells ⟨some p.m, M.closed, M.mark⟩) 169 :: bigF (vs M.rows) p.chs :: l) w) (fun x => (q.length - x.2).toNat)
   ⟨Int.le_refl 0, by simp only; omega, H⟩ ?_
  rintro ⟨out, i⟩ w ⟨h0, h1, H⟩
  simp only at h0 h1
  simp only
  unfold F80_l1
  rw [hs]
  split
  ·rename_i hc2
   have hc2 : i < q.length := by simpa using hc2
   have e1 : IntKind.i64.wrap (i + 1) = i + 1 := wrap_i64 (by omega) (by omega)
   have hx : q[i.toNat]? = some q[i.toNat] := List.getElem?_eq_getElem (by omega)
   have hst := snap_take (L := M.rows) (t := t) (q := q) (i := i.toNat) (by omega)
   have hin : q[i.toNat] ∈ p.chs.map (·.1) := (h.keys _).1 ((hks.all _).1 (List.getElem_mem _))
   have hol : (snapK M.rows t (q.take i.toNat)).length ≤ 9000 := by
    unfold snapK
    refine Nat.le_trans (List.length_filterMap_le _ _) ?_
    rw [List.length_take]; omega
   obtain ⟨a, ha⟩ := row_ix (sz := 1) (i := i) (H.front 1) h0 hc2
   refine ex_i a ha ?_
   refine ex_i q[i.toNat] (rd_row (fun _ => rfl) ha hx (H.front 1)) ?_
   generalize q[i.toNat] = k at *
   refine ld_st (x := some p.m) 4 H rfl rfl rfl ?_
   refine mget_st 3 H rfl rfl ?_
   rw [lookup_ptrs]
   obtain ⟨e, he, hek⟩ := List.mem_map.1 hin
   obtain ⟨k', C⟩ := e
   simp only at hek
   subst hek
   have hlk := mem_look hnd he
   rw [hlk]
   obtain ⟨l1, l2, hsp⟩ := look_split hlk
   have hmk := (h.marks _ he).2
   have H := H.front 5
   rw [hsp] at H
   have H := big_get H
   have hlen : (vs M.rows k').length ≤ 10000 := hI.cap k'
   refine cl_mono (chget_spec (C := C) (at_ := t) (by show (vs M.rows k').length ≤ _; omega) (vs_rise hI.rise k') ht0 ht1 (by simp only at hmk; omega) H) ?_
   rintro r w4 ⟨rfl, H⟩
   have H := big_put (e := (k', C)) H
   rw [← hsp] at H
   refine nw_st H fun b5 w5 H => ?_
   cases hct : cnt (vs M.rows k') t with
   | none =>
    rw [hct] at hst
    dsimp only
    refine vst_st (x := Z117) (y := (⟨0, 0⟩ : S117)) len118 0 H rfl fun w6 H => ?_
    rw [if_neg (by simp)]
    unfold F80_j2
    rw [e1]
    refine ⟨⟨by simp only; omega, by simp only; omega, ?_⟩, by simp only; omega⟩
    simp only
    rw [show (i + 1).toNat = i.toNat + 1 from by omega, hst, List.append_nil]
    exact H.drop.ord [1, 2, 3, 4, 5, 0]
   | some v =>
    rw [hct] at hst
    dsimp only
    refine vst_st (x := Z117) (y := v) len118 0 H rfl fun w6 H => ?_
    rw [if_pos (by simp)]
    refine ld_st (x := v.V) 0 H rfl rfl rfl ?_
    refine apl_row (fun _ => rfl) 2 H rfl (by simp only [List.length_singleton]; omega) fun s2 w7 H => ?_
    unfold F80_j2
    rw [e1]
    refine ⟨⟨by simp only; omega, by simp only; omega, ?_⟩, by simp only; omega⟩
    simp only
    rw [show (i + 1).toNat = i.toNat + 1 from by omega, hst]
    exact ((H.front 1).drop).ord [0, 2, 3, 4, 5, 1]
  ·rename_i hc2
   have hc2 : i = q.length := by simp at hc2; omega
   subst hc2
   have e : q.take ((q.length : Int)).toNat = q := by simp
   rw [e] at H
   refine ⟨hc.symm, ?_⟩
   exact ((sto_shut h (((H.front 1).drop.front 1).drop.ord [2, 1, 3])).front 1)
theorem flt_lt {β : Type} {p : Int × β} {left : List (Int × β)} (hp : p ∈ left) : (left.filter fun q => q.1 != p.1).length < left.length := by
 induction left with
 | nil => cases hp
 | cons x left ih =>
  rw [List.filter_cons]
  by_cases c : (x.1 != p.1) = true
  ·rw [if_pos c]
   rcases List.mem_cons.1 hp with e | hp
   ·rw [e] at c; simp at c
   ·have := ih hp
    simp only [List.length_cons]; omega
  ·rw [if_neg c]
   have := List.length_filter_le (fun q : Int × β => q.1 != p.1) left
   simp only [List.length_cons]; omega
def cut (mark : Int) (rows : List Row) (left : List (Int × Option Addr)) (k : Int) : List S117 := if left.any (fun q => q.1 == k) = true then vs rows k else keepV mark (vs rows k)
theorem prune_spec {b : Nat} {M : Md} {t : Int} (hI : Inv M) (H : St W (sto b M :: l) w) : cl Tryz.prog 87 [.pointer (some ⟨b, 0, none⟩), .int .i64 t] (tInt .i64) w fun r w' => r = pruneE M t ∧ St W (sto b (pruneM M t) :: l) w' := by
 refine F87_ok ?_
 unfold F87
 refine cl_mono (in_spec H) ?_
 rintro r w1 ⟨rfl, H⟩
 unfold pruneM
 split
 ·rename_i hc
  have e : pruneE M t = 120 := by unfold pruneE; rw [if_pos (by simp at hc; omega)]
  rw [e, if_neg (by omega)]
  exact ⟨rfl, H⟩
 ·rename_i hc
  have hc : ¬ (t < 0 ∨ t > 1125899906842624) := by simp at hc; omega
  obtain ⟨p, h, hnd, H⟩ := sto_open H
  refine nc_st rfl ?_
  refine ld_st (x := M.closed) 0 H rfl rfl rfl ?_
  split
  ·rename_i hc2
   have e : pruneE M t = 128 := by unfold pruneE; rw [if_neg hc, if_pos (by simpa using hc2)]
   rw [e, if_neg (by omega)]
   exact ⟨rfl, sto_shut h H⟩
  ·rename_i hc2
   have hc2 : ¬ t > M.closed := by simpa using hc2
   have e : pruneE M t = 0 := by unfold pruneE; rw [if_neg hc, if_neg hc2]
   rw [e, if_pos rfl]
   have hmk := hI.mark
   refine ld_st (x := M.mark) 0 H rfl rfl rfl ?_
   refine st_st (x := max M.mark t) 0 H rfl rfl (Nat.le_of_ble_eq_true rfl) fun w2 H => ?_
   have H : St W (cel b (T168.cells ⟨some p.m, M.closed, max M.mark t⟩) 169 :: mapE tPtr .i64 p.m (ptrs p.chs) :: bigF (vs M.rows) p.chs :: l) w2 := H
   generalize hmm : max M.mark t = mm at *
   have hm0 : M.mark ≤ mm ∧ 0 ≤ mm ∧ mm ≤ 1125899906842624 := by omega
   refine ld_st (x := some p.m) 0 H rfl rfl rfl ?_
   refine rng_st 1 H rfl rfl fun it w3 H => ?_
   have hstart : bigF (vs M.rows) p.chs = bigF (cut mm M.rows (ptrs p.chs)) p.chs := big_congr fun e he => by
    unfold cut
    have : (ptrs p.chs).any (fun q => q.1 == e.1) = true := List.any_eq_true.2 ⟨(e.1, some (⟨e.2.b, 0, none⟩ : Addr)), List.mem_map.2 ⟨e, he, rfl⟩, by simp⟩
    rw [if_pos this]
   rw [hstart] at H
   refine lp_n (fun n _ w => ∃ left cur chs, n = left.length ∧ (∀ q ∈ left, q ∈ ptrs p.chs) ∧ ptrs chs = ptrs p.chs ∧ (∀ e ∈ chs, 0 ≤ e.2.mark ∧ e.2.mark ≤ mm) ∧ St W (ranging tPtr .i64 p.m it (ptrs p.chs) left cur :: cel b (T168.cells ⟨some p.m, M.closed, mm⟩) 169 :: bigF (cut mm M.rows left) chs :: l) w) _ ⟨ptrs p.chs, none, p.chs, rfl, fun _ h => h, rfl, fun e he => by have := h.marks e he; omega, H⟩ ?_
   clear H
   rintro c _ w ⟨left, cur, chs, rfl, h1, h2, h3, H⟩ K hK
   have hkeys : chs.map (·.1) = p.chs.map (·.1) := by rw [← fst_ptrs, ← fst_ptrs, h2]
   unfold F87_l1
   refine nxt_st 0 H rfl rfl (fun he H => ?_) fun q hq w4 H => ?_
   ·rw [if_neg (by simp)]
    subst he
    have hend : bigF (cut mm M.rows []) chs = bigF (vs (keep mm M.rows)) chs := big_congr fun e _ => by
     unfold cut; rw [if_neg (by simp), vs_keep]
    rw [hend] at H
    have H := ranging_done H
    rw [← h2] at H
    refine ⟨rfl, sto_shut (t := ⟨p.m, chs⟩) (M := ⟨keep mm M.rows, M.closed, mm⟩) ⟨fun k => ?_, h3⟩ (H.ord [1, 0])⟩
    rw [hkeys, ← h.keys k, vs_keep, ne_eq, ne_eq, keepV_nil (vs_rise hI.rise k)]
   ·rw [if_pos (by simp)]
    refine ent_st 0 H rfl rfl ?_
    refine ld_st (x := mm) 1 H rfl rfl rfl ?_
    have hq2 := h1 q hq
    rw [← h2] at hq2
    obtain ⟨e, he, rfl⟩ := List.mem_map.1 hq2
    obtain ⟨k, C⟩ := e
    obtain ⟨l1, l2, hsp⟩ := List.append_of_mem he
    have hnd2 : ((l1 ++ (k, C) :: l2).map (·.1)).Nodup := by rw [← hsp, hkeys]; exact hnd
    have hoth := others hnd2
    have H := H.front 2
    rw [hsp] at H
    have H := big_get H
    have hcut : cut mm M.rows left k = vs M.rows k := by
     unfold cut; rw [if_pos (List.any_eq_true.2 ⟨_, hq, by simp⟩)]
    have H : St W (chainA C (vs M.rows k) :: bigF (cut mm M.rows left) (l1 ++ l2) :: ranging tPtr .i64 p.m it (ptrs p.chs) (left.filter fun q => q.1 != k) (some (k, some ⟨C.b, 0, none⟩)) :: cel b (T168.cells ⟨some p.m, M.closed, mm⟩) 169 :: l) w4 := by rw [← hcut]; exact H
    have hlen : (vs M.rows k).length ≤ 10000 := hI.cap k
    refine cl_mono (chprune_spec (C := C) (mark := mm) (by omega) (vs_rise hI.rise k) hm0.2.1 hm0.2.2 (h3 _ he).2 H) ?_
    rintro r w5 ⟨s, H⟩
    have H := big_set (g' := cut mm M.rows (left.filter fun q => q.1 != k)) (k := k) (by
     unfold cut
     rw [if_neg]
     rw [List.any_filter, List.any_eq_true]
     rintro ⟨q, _, h⟩
     simp at h) (fun e' he' => by
     have hne := hoth e' he'
     unfold cut
     have : (left.filter fun q => q.1 != k).any (fun q => q.1 == e'.1) = left.any (fun q => q.1 == e'.1) := by
      rw [List.any_filter]
      congr 1
      funext q
      by_cases c : q.1 = e'.1
      ·simp [c, hne]
      ·simp [c]
     rw [this]) H
    refine hK _ _ _ (flt_lt hq) ⟨_, _, l1 ++ (k, ⟨C.b, s, mm⟩) :: l2, rfl, fun q hq => h1 q (List.mem_filter.1 hq).1, ?_, fun e' he' => ?_, H.ord [1, 2, 0]⟩
    ·rw [← h2, hsp]; unfold ptrs; simp
    ·rcases List.mem_append.1 he' with he' | he'
     ·exact h3 e' (by rw [hsp]; exact List.mem_append_left _ he')
     ·rcases List.mem_cons.1 he' with rfl | he'
      ·exact ⟨hm0.2.1, Int.le_refl _⟩
      ·exact h3 e' (by rw [hsp]; exact List.mem_append_right _ (List.mem_cons_of_mem _ he'))
end
end Go.Proofs.YtehclfjjjiiieaaGreat.Store
namespace Go.Proofs.YtehclfjjjiiieaaGreat.Vault
open Go Go.Proofs.YtehclfjjjiiieaaGreat.Cf Go.Proofs.YtehclfjjjiiieaaGreat.Store Go.Proofs.YtehclfjjjiiieaaGreat.Num
set_option linter.unusedVariables false
set_option linter.unusedSimpArgs false
set_option maxRecDepth 100000
abbrev Part := S113
abbrev Held := S150
abbrev Ft := S156
abbrev Ent := S122
structure Va where
 rate : Nat
 S : Md
 top : Int
 held : List (Int × Held)
 busy : List (Int × Int)
 fates : List (Int × Ft)
def isA (a : Int) : Prop := 0 ≤ a ∧ a < 4096
instance (a : Int) : Decidable (isA a) := by unfold isA; infer_instance
instance (a : Int) : Decidable (okAm a) := by unfold okAm; infer_instance
def nextE (v : Va) (t : Int) : Int := if t < 1 ∨ t > 1125899906842624 then 151 else if t ≤ v.top then 152 else 0
def lastOf (v : Va) (a : Int) : S117 × Bool := lastV (vs v.S.rows a)
def openV (v : Va) (t a n : Int) : Va × Int :=
 if nextE v t ≠ 0 then (v, nextE v t) else if ¬ isA a then (v, 153) else if (lastOf v a).2 = true then (v, 154) else if ¬ okAm n then (v, 155)
 else ({ v with S := putM v.S t [⟨a, n⟩], top := max v.top t }, 0)
def whyV (v : Va) (p : Part) : Int × Int :=
 if p.ID < 1 then (0, 156) else if (v.fates.lookup p.ID).isSome = true then (0, 157) else if 5000 ≤ v.fates.length then (0, 158) else if ¬ isA p.Account then (0, 153)
 else if p.N < 1 ∨ ¬ okAm p.N then (0, 155) else if (lastOf v p.Account).2 = false then (0, 159) else if (v.busy.lookup p.Account).isSome = true then (0, 160)
 else if p.Pays = false then (if okAm (lastOf v p.Account).1.V ∧ (lastOf v p.Account).1.V + p.N ≤ 1000000000000000 then (0, 0) else (0, 162))
 else if (lastOf v p.Account).1.V < p.N + feeF p.N v.rate then (0, 161) else (feeF p.N v.rate, 0)
def heldV (v : Va) (t : Int) (p : Part) (fee : Int) : Va := { v with held := ups p.ID ⟨p, t, fee⟩ v.held, busy := ups p.Account p.ID v.busy, fates := ups p.ID ⟨1, t⟩ v.fates, top := max v.top t }
def holdV (v : Va) (t : Int) (p : Part) : Va × Int :=
 if nextE v t ≠ 0 then (v, nextE v t) else if (whyV v p).2 ≠ 0 then (v, (whyV v p).2) else (heldV v t p (whyV v p).1, 0)
def freeV (v : Va) (h : Held) : Va := { v with held := del h.Part.ID v.held, busy := del h.Part.Account v.busy }
def changeV (v : Va) (h : Held) : List Ent :=
 if h.Part.Pays = false then [⟨h.Part.Account, IntKind.i64.wrap ((lastOf v h.Part.Account).1.V + h.Part.N)⟩]
 else ⟨h.Part.Account, IntKind.i64.wrap (IntKind.i64.wrap ((lastOf v h.Part.Account).1.V - h.Part.N) - h.Fee)⟩ ::
  if h.Fee > 0 then [⟨IntKind.i64.wrap (4096 + h.Part.Account), IntKind.i64.wrap ((lastOf v (IntKind.i64.wrap (4096 + h.Part.Account))).1.V + h.Fee)⟩] else []
def fateV (v : Va) (id : Int) : Ft := (v.fates.lookup id).getD ⟨0, 0⟩
def heldOf (v : Va) (id : Int) : Held := (v.held.lookup id).getD ⟨⟨0, 0, 0, false⟩, 0, 0⟩
def doneV (v : Va) (t id : Int) (h : Held) : Va := { freeV v h with S := putM v.S t (changeV v h), fates := ups id ⟨2, t⟩ v.fates, top := max v.top t }
def commitV (v : Va) (t id : Int) : Va × Int :=
 if t < 1 ∨ t > 1125899906842624 then (v, 151) else if (fateV v id).what = 2 then (if (fateV v id).t_ ≠ t then (v, 157) else (v, 0))
 else if (fateV v id).what = 1 then (if t < (heldOf v id).T_ then (v, 152) else (doneV v t id (heldOf v id), 0)) else (v, 163)
def gone_ (v : Va) (id : Int) : Va := match v.held.lookup id with
 | some h => freeV v h
 | none => v
def dropV (v : Va) (id : Int) : Va × Int :=
 if id < 1 then (v, 156) else if (fateV v id).what = 2 then (v, 157) else if (v.fates.lookup id).isSome = false ∧ 5000 ≤ v.fates.length then (v, 158)
 else ({ gone_ v id with fates := ups id ⟨3, 0⟩ v.fates }, 0)
def closeV (v : Va) (t : Int) : Va × Int :=
 if t < 0 ∨ t > 1125899906842624 then (v, 151) else if v.held.any (fun e => decide (e.2.T_ ≤ t)) = true then (v, 160)
 else ({ v with S := closeM v.S t, top := max v.top t }, 0)
def toldE (e : Int) : Int := if e = 120 then 151 else if e = 128 then 164 else if e = 126 then 165 else if e = 127 then 159 else e
def pruneV (v : Va) (t : Int) : Va × Int := ({ v with S := pruneM v.S t }, toldE (pruneE v.S t))
def heldL (v : Va) : List Held := (sortI (v.held.map (·.1))).map (heldOf v)
theorem ups_len {β : Type} {k : Int} {v : β} (es : List (Int × β)) : (ups k v es).length = if (es.lookup k).isSome = true then es.length else es.length + 1 := by
 have h := congrArg List.length (keys_ups k v es)
 rw [List.length_map] at h
 rw [h]
 split <;> simp
def Bal (v : Va) (h : Held) : Prop := vs v.S.rows h.Part.Account ≠ [] ∧ (h.Part.Pays = true → h.Part.N + h.Fee ≤ (lastOf v h.Part.Account).1.V) ∧ (h.Part.Pays = false → okAm (lastOf v h.Part.Account).1.V ∧ (lastOf v h.Part.Account).1.V + h.Part.N ≤ 1000000000000000)
structure Fit (v : Va) : Prop where
 sto : Inv v.S
 rate : rateOk v.rate
 ids : ∀ id h, v.held.lookup id = some h → h.Part.ID = id ∧ 1 ≤ id ∧ id ≤ 9223372036854775807 ∧ isA h.Part.Account ∧ v.fates.lookup id = some ⟨1, h.T_⟩ ∧ v.busy.lookup h.Part.Account = some id ∧
  v.S.closed < h.T_ ∧ h.T_ ≤ v.top ∧ 1 ≤ h.Part.N ∧ h.Part.N ≤ 1000000000000000 ∧ 0 ≤ h.Fee ∧ h.Fee ≤ 2000000000000000 ∧ Bal v h ∧ ∀ r ∈ v.S.rows, r.X.Key = h.Part.Account ∨ r.X.Key = 4096 + h.Part.Account → r.T_ < h.T_
 busy : ∀ a id, v.busy.lookup a = some id → ∃ h, v.held.lookup id = some h ∧ h.Part.Account = a
 fat : ∀ id f, v.fates.lookup id = some f → 1 ≤ id ∧ ((f.what = 1 ∧ ∃ h, v.held.lookup id = some h ∧ h.T_ = f.t_) ∨ (f.what = 2 ∧ 1 ≤ f.t_ ∧ f.t_ ≤ 1125899906842624) ∨ (f.what = 3 ∧ f.t_ = 0))
 many : v.fates.length ≤ 5000
 nodH : (v.held.map (·.1)).Nodup
 nodB : (v.busy.map (·.1)).Nodup
 nodF : (v.fates.map (·.1)).Nodup
 top : v.S.closed ≤ v.top ∧ v.top ≤ 1125899906842624
 rows : ∀ r ∈ v.S.rows, r.T_ ≤ v.top
theorem held_keys {v : Va} (h : Fit v) : ∀ e ∈ v.held, 1 ≤ e.1 ∧ e.1 ≤ 9223372036854775807 := fun e he => by
 have := h.ids e.1 e.2 (mem_look h.nodH he)
 omega
theorem held_len {v : Va} (h : Fit v) : v.held.length ≤ 5000 := by
 refine Nat.le_trans ?_ h.many
 have h1 : (v.held.map (·.1)) ⊆ (v.fates.map (·.1)) := by
  intro k hk
  obtain ⟨e, he, rfl⟩ := List.mem_map.1 hk
  have := (h.ids e.1 e.2 (mem_look h.nodH he)).2.2.2.2.1
  exact List.mem_map.2 ⟨_, look_mem this, rfl⟩
 have := h.nodH.length_le_of_subset h1
 simpa using this
theorem heldOf_of {v : Va} {id : Int} {h : Held} (e : v.held.lookup id = some h) : heldOf v id = h := by unfold heldOf; rw [e]; rfl
theorem fateV_of {v : Va} {id : Int} {f : Ft} (e : v.fates.lookup id = some f) : fateV v id = f := by unfold fateV; rw [e]; rfl
theorem held_of {v : Va} (F : Fit v) {id : Int} (e : (fateV v id).what = 1) : ∃ h, v.held.lookup id = some h ∧ h.T_ = (fateV v id).t_ ∧ v.fates.lookup id = some (fateV v id) := by
 cases hf : v.fates.lookup id with
 | none => unfold fateV at e; rw [hf] at e; simp at e
 | some f =>
  rw [fateV_of hf] at e ⊢
  rcases (F.fat id f hf).2 with ⟨_, h⟩ | ⟨h, _⟩ | ⟨h, _⟩
  ·obtain ⟨h, h1, h2⟩ := h
   exact ⟨h, h1, h2, rfl⟩
  ·omega
  ·omega
theorem nextE_ok {v : Va} {t : Int} (h : nextE v t = 0) : 1 ≤ t ∧ t ≤ 1125899906842624 ∧ v.top < t := by
 unfold nextE at h
 split at h
 ·omega
 ·split at h
  ·omega
  ·omega
theorem whyV_ok {v : Va} {p : Part} (h : (whyV v p).2 = 0) : 1 ≤ p.ID ∧ v.fates.lookup p.ID = none ∧ v.fates.length < 5000 ∧ isA p.Account ∧ 1 ≤ p.N ∧ p.N ≤ 1000000000000000 ∧ (lastOf v p.Account).2 = true ∧ v.busy.lookup p.Account = none ∧
  ((p.Pays = false ∧ (whyV v p).1 = 0 ∧ okAm (lastOf v p.Account).1.V ∧ (lastOf v p.Account).1.V + p.N ≤ 1000000000000000) ∨ (p.Pays = true ∧ (whyV v p).1 = feeF p.N v.rate ∧ p.N + feeF p.N v.rate ≤ (lastOf v p.Account).1.V)) := by
 unfold whyV at h ⊢
 by_cases c1 : p.ID < 1
 ·rw [if_pos c1] at h; simp at h
 ·rw [if_neg c1] at h ⊢
  by_cases c2 : (v.fates.lookup p.ID).isSome = true
  ·rw [if_pos c2] at h; simp at h
  ·rw [if_neg c2] at h ⊢
   by_cases c3 : 5000 ≤ v.fates.length
   ·rw [if_pos c3] at h; simp at h
   ·rw [if_neg c3] at h ⊢
    by_cases c4 : ¬ isA p.Account
    ·rw [if_pos c4] at h; simp at h
    ·rw [if_neg c4] at h ⊢
     by_cases c5 : p.N < 1 ∨ ¬ okAm p.N
     ·rw [if_pos c5] at h; simp at h
     ·rw [if_neg c5] at h ⊢
      by_cases c6 : (lastOf v p.Account).2 = false
      ·rw [if_pos c6] at h; simp at h
      ·rw [if_neg c6] at h ⊢
       by_cases c7 : (v.busy.lookup p.Account).isSome = true
       ·rw [if_pos c7] at h; simp at h
       ·rw [if_neg c7] at h ⊢
        have e2 : v.fates.lookup p.ID = none := Option.not_isSome_iff_eq_none.1 c2
        have e7 : v.busy.lookup p.Account = none := Option.not_isSome_iff_eq_none.1 c7
        have e5 : okAm p.N := Classical.byContradiction fun hc => c5 (.inr hc)
        refine ⟨by omega, e2, by omega, Classical.not_not.1 c4, by omega, e5.2, by simpa using c6, e7, ?_⟩
        by_cases c8 : p.Pays = false
        ·rw [if_pos c8] at h ⊢
         by_cases c9 : okAm (lastOf v p.Account).1.V ∧ (lastOf v p.Account).1.V + p.N ≤ 1000000000000000
         ·rw [if_pos c9]
          exact .inl ⟨c8, rfl, c9.1, c9.2⟩
         ·rw [if_neg c9] at h; simp at h
        ·rw [if_neg c8] at h ⊢
         by_cases c9 : (lastOf v p.Account).1.V < p.N + feeF p.N v.rate
         ·rw [if_pos c9] at h; simp at h
         ·rw [if_neg c9]
          exact .inr ⟨by simpa using c8, rfl, by omega⟩
theorem Fit.new {r : Nat} (h : rateOk r) : Fit ⟨r, ⟨[], 0, 0⟩, 0, [], [], []⟩ :=
 ⟨⟨fun k => by simp [vs_nil], fun r h => (by cases h), fun r h => (by cases h), List.Pairwise.nil, by simp⟩, h, fun id h e => by simp at e, fun a id e => by simp at e, fun id f e => by simp at e, by simp, by simp, by simp, by simp, by simp, fun r h => by cases h⟩
theorem put_closed (M : Md) (t : Int) (xs : List Ent) : (putM M t xs).closed = M.closed ∧ (putM M t xs).mark = M.mark := by unfold putM; split <;> exact ⟨rfl, rfl⟩
theorem put_rows {M : Md} {t : Int} {xs : List Ent} {r : Row} (h : r ∈ (putM M t xs).rows) : r ∈ M.rows ∨ (r.T_ = t ∧ r.X ∈ xs) := by
 unfold putM at h
 split at h
 ·rcases List.mem_append.1 h with h | h
  ·exact .inl h
  ·obtain ⟨x, hx, rfl⟩ := List.mem_map.1 h
   exact .inr ⟨rfl, hx⟩
 ·exact .inl h
theorem vs_put_no {M : Md} {t k : Int} {xs : List Ent} (h : ∀ x ∈ xs, x.Key ≠ k) : vs (putM M t xs).rows k = vs M.rows k := by
 unfold putM
 split
 ·simp only
  rw [vs_app, vs_news_no, List.append_nil]
  intro hm
  obtain ⟨x, hx, e⟩ := List.mem_map.1 hm
  exact h x hx e
 ·rfl
theorem last_keep (m : Int) : ∀ l : List S117, (keepV m l).getLast? = l.getLast?
 | [] => rfl
 | v :: l => by
  have ih := last_keep m l
  unfold keepV
  split
  ·rename_i hc
   rw [ih]
   cases l with
   | nil => simp at hc
   | cons u us => rw [List.getLast?_cons_cons]
  ·rw [List.getLast?_cons, List.getLast?_cons, ih]
theorem last_of_ne {v : Va} {a : Int} : (lastOf v a).2 = true ↔ vs v.S.rows a ≠ [] := by
 unfold lastOf lastV
 cases hv : vs v.S.rows a with
 | nil => simp
 | cons x xs => simp [List.getLast?_cons]
theorem bal_congr {v u : Va} {h : Held} (e : vs u.S.rows h.Part.Account = vs v.S.rows h.Part.Account) (b : Bal v h) : Bal u h := by
 unfold Bal lastOf at *
 rw [e]; exact b
theorem bal_prune {v : Va} {h : Held} (F : Inv v.S) (t : Int) (b : Bal v h) : Bal { v with S := pruneM v.S t } h := by
 unfold pruneM
 split
 ·unfold Bal lastOf lastV at *
  simp only
  rw [vs_keep, last_keep, ne_eq, keepV_nil (vs_rise F.rise _)]
  exact b
 ·exact b
theorem Fit.puts {v : Va} (F : Fit v) {t : Int} {xs : List Ent} (h0 : t ≤ 1125899906842624) (hx : ∀ id h, v.held.lookup id = some h → ∀ x ∈ xs, x.Key ≠ h.Part.Account ∧ x.Key ≠ 4096 + h.Part.Account) : Fit { v with S := putM v.S t xs, top := max v.top t } := by
 have hc := put_closed v.S t xs
 have ht := F.top
 refine ⟨F.sto.put t _, F.rate, fun id h e => ?_, F.busy, F.fat, F.many, F.nodH, F.nodB, F.nodF, ⟨by show (putM _ _ _).closed ≤ max _ _; rw [hc.1]; omega, by show max _ _ ≤ _; omega⟩, fun r hr => ?_⟩
 ·obtain ⟨g1, g2, g3, g4, g5, g6, g7, g8, g9, g10, g11, g12, g14, g13⟩ := F.ids id h e
  refine ⟨g1, g2, g3, g4, g5, g6, by show (putM _ _ _).closed < _; rw [hc.1]; exact g7, by show _ ≤ max _ _; omega, g9, g10, g11, g12, bal_congr (vs_put_no fun x hx' => (hx id h e x hx').1) g14, fun r hr hk => ?_⟩
  rcases put_rows hr with hr | ⟨_, hr⟩
  ·exact g13 r hr hk
  ·have := hx id h e _ hr
   omega
 ·rcases put_rows hr with hr | ⟨hr, _⟩
  ·have := F.rows r hr
   show _ ≤ max _ _; omega
  ·show _ ≤ max _ _; omega
theorem Fit.open {v : Va} (F : Fit v) (t a n : Int) : Fit (openV v t a n).1 := by
 unfold openV
 split
 ·exact F
 ·rename_i h1
  have h1 : nextE v t = 0 := Classical.not_not.1 h1
  obtain ⟨t0, t1, t2⟩ := nextE_ok h1
  split
  ·exact F
  ·rename_i ha
   have ha : isA a := Classical.not_not.1 ha
   split
   ·exact F
   ·rename_i h2
    split
    ·exact F
    ·refine F.puts t1 fun id h e x hx => ?_
     obtain ⟨_, _, _, g4, _, _, _, _, _, _, _, _, g14, _⟩ := F.ids id h e
     have hx := List.mem_singleton.1 hx
     subst hx
     have h3 := g4.1
     have h4 := ha.2
     refine ⟨fun e => ?_, fun e => ?_⟩
     ·simp only at e
      subst e
      exact h2 (last_of_ne.2 g14.1)
     ·simp only at e
      omega
theorem Fit.free {v : Va} (F : Fit v) {id : Int} {h : Held} (e : v.held.lookup id = some h) {f : Ft} (hf : (f.what = 2 ∧ 1 ≤ f.t_ ∧ f.t_ ≤ 1125899906842624) ∨ (f.what = 3 ∧ f.t_ = 0)) : Fit { freeV v h with fates := ups id f v.fates } := by
 obtain ⟨g1, g2, g3, g4, g5, g6, g7, g8, g9, g10, g11, g12, g14, g13⟩ := F.ids id h e
 have lh : ∀ x, (del h.Part.ID v.held).lookup x = if x == id then none else v.held.lookup x := fun x => by rw [lookup_del _ _ _ F.nodH, g1]
 have lb : ∀ x, (del h.Part.Account v.busy).lookup x = if x == h.Part.Account then none else v.busy.lookup x := fun x => by rw [lookup_del _ _ _ F.nodB]
 refine ⟨F.sto, F.rate, fun x k ex => ?_, fun a x ex => ?_, fun x k ex => ?_, ?_, nodup_del F.nodH, nodup_del F.nodB, nodup_ups F.nodF, F.top, F.rows⟩
 ·have ex : (del h.Part.ID v.held).lookup x = some k := ex
  rw [lh] at ex
  by_cases c : x = id
  ·simp [c] at ex
  ·rw [if_neg (by simpa using c)] at ex
   obtain ⟨k1, k2, k3, k4, k5, k6, k7, k8, k9, k10, k11, k12, k14, k13⟩ := F.ids x k ex
   refine ⟨k1, k2, k3, k4, ?_, ?_, k7, k8, k9, k10, k11, k12, k14, k13⟩
   ·show (ups id f v.fates).lookup x = _
    rw [lookup_ups, if_neg (by simpa using c)]; exact k5
   ·show (del h.Part.Account v.busy).lookup _ = _
    rw [lb, if_neg]
    ·exact k6
    ·intro hc
     have hc : k.Part.Account = h.Part.Account := by simpa using hc
     rw [hc, g6] at k6
     exact c (by injection k6 with k6; exact k6.symm)
 ·have ex : (del h.Part.Account v.busy).lookup a = some x := ex
  rw [lb] at ex
  by_cases c : a = h.Part.Account
  ·simp [c] at ex
  ·rw [if_neg (by simpa using c)] at ex
   obtain ⟨k, hk1, hk2⟩ := F.busy a x ex
   refine ⟨k, ?_, hk2⟩
   show (del h.Part.ID v.held).lookup x = _
   rw [lh, if_neg]
   ·exact hk1
   ·intro hc
    have hc : x = id := by simpa using hc
    rw [hc, e] at hk1
    injection hk1 with hk1
    exact c (by rw [hk1, hk2])
 ·have ex : (ups id f v.fates).lookup x = some k := ex
  rw [lookup_ups] at ex
  by_cases c : x = id
  ·rw [if_pos (by simpa using c)] at ex
   cases ex
   exact ⟨by omega, .inr hf⟩
  ·rw [if_neg (by simpa using c)] at ex
   refine ⟨(F.fat x k ex).1, ?_⟩
   rcases (F.fat x k ex).2 with ⟨k1, h', k2, k3⟩ | k1
   ·refine .inl ⟨k1, h', ?_, k3⟩
    show (del h.Part.ID v.held).lookup x = _
    rw [lh, if_neg (by simpa using c)]; exact k2
   ·exact .inr k1
 ·show (ups id f v.fates).length ≤ 5000
  rw [ups_len, g5, if_pos (by simp)]; exact F.many
theorem whyV_fee {v : Va} (F : Fit v) {p : Part} (h : (whyV v p).2 = 0) : 0 ≤ (whyV v p).1 ∧ (whyV v p).1 ≤ 2000000000000000 := by
 obtain ⟨_, _, _, _, h5, h6, _, _, h9⟩ := whyV_ok h
 rcases h9 with ⟨_, e, _⟩ | ⟨_, e, _⟩
 ·omega
 ·have := feeF_le (n := p.N) (by omega) h6 F.rate
  omega
theorem Fit.hold {v : Va} (F : Fit v) {t : Int} {p : Part} (h0 : p.ID ≤ 9223372036854775807) : Fit (holdV v t p).1 := by
 unfold holdV
 split
 ·exact F
 ·rename_i h1
  have h1 : nextE v t = 0 := Classical.not_not.1 h1
  obtain ⟨t0, t1, t2⟩ := nextE_ok h1
  split
  ·exact F
  ·rename_i h2
   have h2 : (whyV v p).2 = 0 := Classical.not_not.1 h2
   have hfee := whyV_fee F h2
   obtain ⟨a1, a2, a3, a4, a5, a6, a7, a8, a9⟩ := whyV_ok h2
   generalize (whyV v p).1 = fee at hfee a9
   have ht := F.top
   have hnoh : v.held.lookup p.ID = none := by
    cases hh : v.held.lookup p.ID with
    | none => rfl
    | some k => have := (F.ids _ _ hh).2.2.2.2.1; rw [a2] at this; cases this
   have lh : ∀ x, (ups p.ID (⟨p, t, fee⟩ : Held) v.held).lookup x = if x == p.ID then some ⟨p, t, fee⟩ else v.held.lookup x := fun x => lookup_ups _ _ _ _
   have lb : ∀ x, (ups p.Account p.ID v.busy).lookup x = if x == p.Account then some p.ID else v.busy.lookup x := fun x => lookup_ups _ _ _ _
   have lf : ∀ x, (ups p.ID (⟨1, t⟩ : Ft) v.fates).lookup x = if x == p.ID then some ⟨1, t⟩ else v.fates.lookup x := fun x => lookup_ups _ _ _ _
   refine ⟨F.sto, F.rate, fun x k ex => ?_, fun a x ex => ?_, fun x k ex => ?_, ?_, nodup_ups F.nodH, nodup_ups F.nodB, nodup_ups F.nodF, ⟨by show v.S.closed ≤ max v.top t; omega, by show max v.top t ≤ _; omega⟩, fun r hr => by have := F.rows r hr; show _ ≤ max v.top t; omega⟩
   ·have ex : (ups p.ID (⟨p, t, fee⟩ : Held) v.held).lookup x = some k := ex
    rw [lh] at ex
    by_cases c : x = p.ID
    ·rw [if_pos (by simpa using c)] at ex
     cases ex
     subst c
     refine ⟨rfl, a1, h0, a4, ?_, ?_, by show v.S.closed < t; omega, by show t ≤ max v.top t; omega, a5, a6, hfee.1, hfee.2, ⟨last_of_ne.1 a7, fun hp => ?_, fun hp => ?_⟩, fun r hr _ => ?_⟩
     ·show (ups p.ID (⟨1, t⟩ : Ft) v.fates).lookup p.ID = _
      rw [lf, if_pos (by simp)]
     ·show (ups p.Account p.ID v.busy).lookup p.Account = _
      rw [lb, if_pos (by simp)]
     ·rcases a9 with ⟨q, _⟩ | ⟨_, q1, q2⟩
      ·rw [hp] at q; cases q
      ·show p.N + fee ≤ (lastOf v p.Account).1.V
       rw [q1]; exact q2
     ·rcases a9 with ⟨_, _, q1, q2⟩ | ⟨q, _⟩
      ·exact ⟨q1, q2⟩
      ·rw [hp] at q; cases q
     ·have := F.rows r hr
      show r.T_ < t; omega
    ·rw [if_neg (by simpa using c)] at ex
     obtain ⟨k1, k2, k3, k4, k5, k6, k7, k8, k9, k10, k11, k12, k14, k13⟩ := F.ids x k ex
     refine ⟨k1, k2, k3, k4, ?_, ?_, k7, by show _ ≤ max v.top t; omega, k9, k10, k11, k12, k14, k13⟩
     ·show (ups p.ID (⟨1, t⟩ : Ft) v.fates).lookup x = _
      rw [lf, if_neg (by simpa using c)]; exact k5
     ·show (ups p.Account p.ID v.busy).lookup _ = _
      rw [lb, if_neg]
      ·exact k6
      ·intro hc
       have hc : k.Part.Account = p.Account := by simpa using hc
       rw [hc, a8] at k6; cases k6
   ·have ex : (ups p.Account p.ID v.busy).lookup a = some x := ex
    rw [lb] at ex
    by_cases c : a = p.Account
    ·rw [if_pos (by simpa using c)] at ex
     cases ex
     refine ⟨⟨p, t, fee⟩, ?_, c.symm⟩
     show (ups p.ID (⟨p, t, fee⟩ : Held) v.held).lookup p.ID = _
     rw [lh, if_pos (by simp)]
    ·rw [if_neg (by simpa using c)] at ex
     obtain ⟨k, hk1, hk2⟩ := F.busy a x ex
     refine ⟨k, ?_, hk2⟩
     show (ups p.ID (⟨p, t, fee⟩ : Held) v.held).lookup x = _
     rw [lh, if_neg]
     ·exact hk1
     ·intro hc
      have hc : x = p.ID := by simpa using hc
      rw [hc, hnoh] at hk1; cases hk1
   ·have ex : (ups p.ID (⟨1, t⟩ : Ft) v.fates).lookup x = some k := ex
    rw [lf] at ex
    by_cases c : x = p.ID
    ·rw [if_pos (by simpa using c)] at ex
     cases ex
     refine ⟨by omega, .inl ⟨rfl, ⟨p, t, fee⟩, ?_, rfl⟩⟩
     show (ups p.ID (⟨p, t, fee⟩ : Held) v.held).lookup x = _
     rw [lh, if_pos (by simpa using c)]
    ·rw [if_neg (by simpa using c)] at ex
     refine ⟨(F.fat x k ex).1, ?_⟩
     rcases (F.fat x k ex).2 with ⟨k1, h', k2, k3⟩ | k1
     ·refine .inl ⟨k1, h', ?_, k3⟩
      show (ups p.ID (⟨p, t, fee⟩ : Held) v.held).lookup x = _
      rw [lh, if_neg (by simpa using c)]; exact k2
     ·exact .inr k1
   ·show (ups p.ID (⟨1, t⟩ : Ft) v.fates).length ≤ 5000
    rw [ups_len, a2, if_neg (by simp)]; omega
theorem change_keys {v : Va} {h : Held} (ha : isA h.Part.Account) : ∀ x ∈ changeV v h, x.Key = h.Part.Account ∨ x.Key = 4096 + h.Part.Account := by
 have e : IntKind.i64.wrap (4096 + h.Part.Account) = 4096 + h.Part.Account := wrap_i64 (by have := ha.1; omega) (by have := ha.2; omega)
 intro x hx
 unfold changeV at hx
 rw [e] at hx
 split at hx
 ·rw [List.mem_singleton.1 hx]; exact .inl rfl
 ·rcases List.mem_cons.1 hx with rfl | hx
  ·exact .inl rfl
  ·split at hx
   ·rw [List.mem_singleton.1 hx]; exact .inr rfl
   ·cases hx
theorem Fit.done {v : Va} (F : Fit v) {t id : Int} {h : Held} (e : v.held.lookup id = some h) (h0 : h.T_ ≤ t) (h1 : t ≤ 1125899906842624) : Fit (doneV v t id h) := by
 obtain ⟨g1, g2, g3, g4, g5, g6, g7, g8, g9, g10, g11, g12, g14, g13⟩ := F.ids id h e
 have ht := F.top
 have hm := F.sto.mark
 have F1 := F.free e (f := ⟨2, t⟩) (.inl ⟨rfl, by show 1 ≤ t; omega, h1⟩)
 have F2 := F1.puts (t := t) (xs := changeV v h) h1 fun x k ex y hy => by
  have ex : (del h.Part.ID v.held).lookup x = some k := ex
  rw [lookup_del _ _ _ F.nodH, g1] at ex
  by_cases c : x = id
  ·simp [c] at ex
  ·rw [if_neg (by simpa using c)] at ex
   obtain ⟨k1, k2, k3, k4, k5, k6, _⟩ := F.ids x k ex
   have hne : k.Part.Account ≠ h.Part.Account := fun hc => by
    rw [hc, g6] at k6
    exact c (by injection k6 with k6; exact k6.symm)
   have h2 := k4.1
   have h3 := k4.2
   have h4 := g4.1
   have h5 := g4.2
   rcases change_keys g4 y hy with hy | hy <;> omega
 exact F2
theorem Fit.commit {v : Va} (F : Fit v) (t id : Int) : Fit (commitV v t id).1 := by
 unfold commitV
 split
 ·exact F
 ·rename_i h0
  split
  ·split <;> exact F
  ·split
   ·rename_i h1
    obtain ⟨h, e1, e2, e3⟩ := held_of F h1
    rw [heldOf_of e1]
    split
    ·exact F
    ·exact F.done e1 (by omega) (by omega)
   ·exact F
theorem Fit.drop {v : Va} (F : Fit v) (id : Int) : Fit (dropV v id).1 := by
 unfold dropV
 split
 ·exact F
 ·split
  ·exact F
  ·split
   ·exact F
   ·rename_i h1 h2 h3
    cases e : v.held.lookup id with
    | some h =>
     have := F.free e (f := ⟨3, 0⟩) (.inr ⟨rfl, rfl⟩)
     unfold gone_
     rw [e]; exact this
    | none =>
     unfold gone_
     rw [e]
     have lf : ∀ x, (ups id (⟨3, 0⟩ : Ft) v.fates).lookup x = if x == id then some ⟨3, 0⟩ else v.fates.lookup x := fun x => lookup_ups _ _ _ _
     refine ⟨F.sto, F.rate, fun x k ex => ?_, F.busy, fun x k ex => ?_, ?_, F.nodH, F.nodB, nodup_ups F.nodF, F.top, F.rows⟩
     ·obtain ⟨k1, k2, k3, k4, k5, k6, k7, k8, k9, k10, k11, k12, k14, k13⟩ := F.ids x k ex
      refine ⟨k1, k2, k3, k4, ?_, k6, k7, k8, k9, k10, k11, k12, k14, k13⟩
      show (ups id (⟨3, 0⟩ : Ft) v.fates).lookup x = _
      rw [lf, if_neg]
      ·exact k5
      ·intro hc
       have hc : x = id := by simpa using hc
       have ex : v.held.lookup x = some k := ex
       rw [hc, e] at ex; cases ex
     ·have ex : (ups id (⟨3, 0⟩ : Ft) v.fates).lookup x = some k := ex
      rw [lf] at ex
      by_cases c : x = id
      ·rw [if_pos (by simpa using c)] at ex
       cases ex
       exact ⟨by omega, .inr (.inr ⟨rfl, rfl⟩)⟩
      ·rw [if_neg (by simpa using c)] at ex
       exact F.fat x k ex
     ·show (ups id (⟨3, 0⟩ : Ft) v.fates).length ≤ 5000
      rw [ups_len]
      split
      ·exact F.many
      ·rename_i hn
       have hn : (v.fates.lookup id).isSome = false := (Bool.not_eq_true _).mp hn
       have : ¬ 5000 ≤ v.fates.length := fun hc => h3 ⟨hn, hc⟩
       omega
theorem Fit.close {v : Va} (F : Fit v) (t : Int) : Fit (closeV v t).1 := by
 unfold closeV
 split
 ·exact F
 ·rename_i h0
  split
  ·exact F
  ·rename_i h1
   have ht := F.top
   have hcl : (closeM v.S t).rows = v.S.rows ∧ (closeM v.S t).closed ≤ max v.S.closed t := by unfold closeM; split; exact ⟨rfl, Int.le_refl _⟩; exact ⟨rfl, by omega⟩
   refine ⟨F.sto.close t, F.rate, fun x k ex => ?_, F.busy, F.fat, F.many, F.nodH, F.nodB, F.nodF, ⟨by show (closeM v.S t).closed ≤ max v.top t; omega, by show max v.top t ≤ _; omega⟩, fun r hr => ?_⟩
   ·obtain ⟨k1, k2, k3, k4, k5, k6, k7, k8, k9, k10, k11, k12, k14, k13⟩ := F.ids x k ex
    have hgt : t < k.T_ := by
     apply Classical.byContradiction
     intro hc
     exact h1 (List.any_eq_true.2 ⟨(x, k), look_mem ex, by simp; omega⟩)
    refine ⟨k1, k2, k3, k4, k5, k6, by show (closeM v.S t).closed < _; omega, by show _ ≤ max v.top t; omega, k9, k10, k11, k12, bal_congr (by show vs (closeM v.S t).rows _ = _; rw [hcl.1]) k14, fun r hr => k13 r (by rw [← hcl.1]; exact hr)⟩
   ·have := F.rows r (by rw [← hcl.1]; exact hr)
    show _ ≤ max v.top t; omega
theorem prune_same (M : Md) (t : Int) : (pruneM M t).closed = M.closed ∧ ∀ r ∈ (pruneM M t).rows, r ∈ M.rows := by
 unfold pruneM
 split
 ·exact ⟨rfl, fun r hr => (keep_sub _ _).subset hr⟩
 ·exact ⟨rfl, fun r hr => hr⟩
theorem Fit.prune {v : Va} (F : Fit v) (t : Int) : Fit (pruneV v t).1 := by
 have hp := prune_same v.S t
 refine ⟨F.sto.prune t, F.rate, fun x k ex => ?_, F.busy, F.fat, F.many, F.nodH, F.nodB, F.nodF, ⟨by show (pruneM v.S t).closed ≤ _; rw [hp.1]; exact F.top.1, F.top.2⟩, fun r hr => F.rows r (hp.2 r hr)⟩
 obtain ⟨k1, k2, k3, k4, k5, k6, k7, k8, k9, k10, k11, k12, k14, k13⟩ := F.ids x k ex
 exact ⟨k1, k2, k3, k4, k5, k6, by show (pruneM v.S t).closed < _; rw [hp.1]; exact k7, k8, k9, k10, k11, k12, bal_prune F.sto t k14, fun r hr => k13 r (hp.2 r hr)⟩
end Go.Proofs.YtehclfjjjiiieaaGreat.Vault
namespace Go.Proofs.YtehclfjjjiiieaaGreat.Cf
set_option linter.unusedSimpArgs false
set_option linter.unusedVariables false
open Go Go.RowKit Go.Maps Go.Sort Go.Shelf Go.WideElems
section
variable {W w : World} {l : List Assn} {α : Type} {T : Ty α}
theorem sorted_keysB {r bm : Nat} {es : List (Int × α)} (hr : ∀ p ∈ es, -9223372036854775808 ≤ p.1 ∧ p.1 ≤ 9223372036854775807) (hm : es.length ≤ 1000000) (H : St W (cel bm [.map (some r)] 97 :: mapE T .i64 r es :: l) w) :
  cl Tryz.prog 78 [.func (.func 118) #[] #[.pointer (some ⟨bm, 0, none⟩)]] tSlc w fun s w' => ∃ ks : List Int, ks.Perm (es.map (·.1)) ∧
   St W (row (tInt .i64) 3 1 s (ks.mergeSort fun x y => decide (x ≤ y)) :: cel bm [.map (some r)] 97 :: mapE T .i64 r es :: l) w' := by
 obtain ⟨arr, c, h1, hb, h2, H2⟩ := mapE_open (H.front 1)
 have hh := H2.get
 obtain ⟨D0, hown, hperm, hsize⟩ := owns_of (k := 3) Tryz.underlying3 hr (by omega) h1 hb h2 hh
 have hcel := H.get
 have hlt : bm < w.heap.size := (Array.getElem?_eq_some_iff.1 hcel).1
 have hseq := AnyZI.keys_gives (ρ := Tryz.keysB_ren) { Tryz.keysB with } Fence.wide (5 - 1 - 1 - 1) trivial rfl (by omega) bm r arr.size D0 w hlt (by rw [cell_of_blk hcel]; rfl) hown
 have cS := AnyZI.sorted_in Tryz.sortedA Fence.wide 5 trivial trivial trivial trivial rfl (by omega) (sortsA _) (enters_of Tryz.func117 (by kernel_rfl) rfl) 118 #[.pointer (some ⟨bm, 0, none⟩)] trivial (enters_of Tryz.func118 (by kernel_rfl) rfl) _ (Maps.size D0) (by rw [hsize]; exact Nat.le_trans hm (Nat.le_of_ble_eq_true rfl)) (by rw [hsize]; omega) w hseq
 change CallsIn _ _ Tryz.prog 78 _ _ _ at cS
 refine (callsIn_wide (n := 5)).1 (cS.mono ?_)
 rintro e w' ⟨v, ss, rfl, hS, hrow, hnil, hbel⟩
 have hrow : w'.ownsRow w.heap.size 3 1 v ss.length ((ss.mergeSort fun x y => decide (x ≤ y)).flatMap (tInt .i64).cells) := by
  have e : (ss.mergeSort fun x y => decide (x ≤ y)).flatMap (tInt .i64).cells = (ss.mergeSort fun x y => decide (x ≤ y)).map encZ := by
   generalize ss.mergeSort (fun x y => decide (x ≤ y)) = q
   induction q with
   | nil => rfl
   | cons x q ih => rw [List.flatMap_cons, ih]; rfl
  rw [e]; exact hrow
 obtain ⟨s, hs, H3⟩ := H.ownsRow (T := tInt .i64) (fun _ => rfl) (by rw [List.length_mergeSort]) hbel hrow
 exact ⟨s, hs, ss, hS.trans hperm, H3⟩
end
end Go.Proofs.YtehclfjjjiiieaaGreat.Cf
namespace Go.Proofs.YtehclfjjjiiieaaGreat.Vault
open Go Go.Proofs.YtehclfjjjiiieaaGreat.Cf Go.Proofs.YtehclfjjjiiieaaGreat.Store Go.Proofs.YtehclfjjjiiieaaGreat.Num
set_option linter.unusedVariables false
set_option linter.unusedSimpArgs false
set_option maxRecDepth 100000
abbrev TV := T100
abbrev THe := T150
abbrev TFt := T156
structure VaP where
 s : Nat
 m1 : Nat
 m2 : Nat
 m3 : Nat
def vval (v : Va) (p : VaP) : S100 := ⟨(⟨some ⟨p.s, 0, none⟩⟩ : S95), v.rate, v.top, some p.m1, some p.m2, some p.m3⟩
def vaA (b : Nat) (v : Va) : Assn := exA fun p : VaP => sepA [cel b (TV.cells (vval v p)) 101, sto p.s v.S, mapE THe .i64 p.m1 v.held, mapE (tInt .i64) .i64 p.m2 v.busy, mapE TFt .i64 p.m3 v.fates]
section
variable {W w : World} {l l' : List Assn}
theorem va_open {b : Nat} {v : Va} (H : St W (vaA b v :: l) w) : ∃ p : VaP, St W (cel b (TV.cells (vval v p)) 101 :: sto p.s v.S :: mapE THe .i64 p.m1 v.held :: mapE (tInt .i64) .i64 p.m2 v.busy :: mapE TFt .i64 p.m3 v.fates :: l) w := by
 obtain ⟨p, H⟩ := H.ex
 exact ⟨p, H.open_⟩
theorem va_shut {b : Nat} {v : Va} {p : VaP} (H : St W (cel b (TV.cells (vval v p)) 101 :: sto p.s v.S :: mapE THe .i64 p.m1 v.held :: mapE (tInt .i64) .i64 p.m2 v.busy :: mapE TFt .i64 p.m3 v.fates :: l) w) : St W (vaA b v :: l) w :=
 St.toEx p (St.shut (l' := [cel b (TV.cells (vval v p)) 101, sto p.s v.S, mapE THe .i64 p.m1 v.held, mapE (tInt .i64) .i64 p.m2 v.busy, mapE TFt .i64 p.m3 v.fates]) H)
theorem drops : ∀ (j : List Assn) {A : Assn}, St W (j ++ A :: l) w → St W (A :: l) w
 | [], _, H => H
 | _ :: j, _, H => drops j H.drop
theorem mlenG_st {r : Nat} {β : Type} {T : Ty β} {es : List (Int × β)} {K : Nat → Prop} {m : Option Nat} {g : Bool} (i : Nat) (H : St W l w) (hi : front i l = mapE T .i64 r es :: l') (hm : m = some r) (hk : K es.length) : ex (fun x => g = true → (MapLen m w) x) K := by
 obtain ⟨x, hx, hk⟩ := mlen_st (K := K) i H hi hm hk
 exact ⟨x, fun _ => hx, hk⟩
theorem ranging_nodup {r it : Nat} {β : Type} {T : Ty β} {k : IntKind} {es left : List (Int × β)} {cur : Option (Int × β)} (H : St W (ranging T k r it es left cur :: l) w) : (es.map (·.1)).Nodup := mapE_nodup (ranging_done H)
theorem new_spec {f : Nat} (hf : f < 18446744073709551616) (H : St W l w) : cl Tryz.prog 34 [.float .f64 f] (tTup2 tPtr (tInt .i64)) w fun r w' => (rateOk f → r.2 = 0 ∧ ∃ b, r.1 = some ⟨b, 0, none⟩ ∧ St W (vaA b ⟨f, ⟨[], 0, 0⟩, 0, [], [], []⟩ :: l) w') ∧ (¬ rateOk f → r = (none, 150) ∧ St W l w') := by
 refine F34_ok ?_
 unfold F34
 refine cl_mono (rate_spec hf H) ?_
 rintro r w ⟨h1, h2, H⟩
 by_cases c : r = 0
 ·rw [if_neg (by simp [c])]
  refine cl_mono (snew_spec H) ?_
  rintro r' w ⟨s, rfl, H⟩
  refine nwMap_st H fun m1 w H => ?_
  have H := mapE_new THe .i64 H
  refine nwMap_st H fun m2 w H => ?_
  have H := mapE_new (tInt .i64) .i64 H
  refine nwMap_st H fun m3 w H => ?_
  have H := mapE_new TFt .i64 H
  refine nw_st H fun b w H => ?_
  refine ⟨fun _ => ⟨rfl, b, rfl, ?_⟩, fun h => absurd (h1.1 c) h⟩
  exact va_shut (v := ⟨f, ⟨[], 0, 0⟩, 0, [], [], []⟩) (p := ⟨s, m1, m2, m3⟩) (H.ord [0, 4, 3, 2, 1])
 ·rw [if_pos (by simpa using c)]
  exact ⟨fun h => absurd (h1.2 h) c, fun _ => ⟨rfl, H⟩⟩
theorem vis_spec {a : Int} (H : St W l w) : cl Tryz.prog 53 [.int .i64 a] tBool w fun r w' => r = decide (isA a) ∧ St W l w' := by
 refine F53_ok ?_
 unfold F53
 refine ⟨?_, H⟩
 rw [Bool.eq_iff_iff, decide_eq_true_eq]
 unfold isA
 simp
theorem vin_spec {t : Int} (H : St W l w) : cl Tryz.prog 85 [.int .i64 t] tBool w fun r w' => r = (decide (t ≥ 0) && decide (t ≤ 1125899906842624)) ∧ St W l w' := by
 refine F85_ok ?_
 unfold F85
 exact ⟨rfl, H⟩
theorem vnext_spec {b : Nat} {v : Va} {t : Int} (H : St W (vaA b v :: l) w) : cl Tryz.prog 51 [.pointer (some ⟨b, 0, none⟩), .int .i64 t] (tInt .i64) w fun r w' => r = nextE v t ∧ St W (vaA b v :: l) w' := by
 refine F51_ok ?_
 unfold F51 nextE
 by_cases c : t < 1 ∨ t > 1125899906842624
 ·rw [if_pos (by simpa using c), if_pos c]
  exact ⟨rfl, H⟩
 ·rw [if_neg (by simpa using c), if_neg c]
  obtain ⟨p, H⟩ := va_open H
  refine nc_st rfl ?_
  refine ld_st (x := v.top) 0 H rfl rfl rfl ?_
  by_cases d : t ≤ v.top
  ·rw [if_pos (by simpa using d), if_pos d]
   exact ⟨rfl, va_shut H⟩
  ·rw [if_neg (by simpa using d), if_neg d]
   exact ⟨rfl, va_shut H⟩
theorem met_spec {b : Nat} {v : Va} {t : Int} (H : St W (vaA b v :: l) w) : cl Tryz.prog 56 [.pointer (some ⟨b, 0, none⟩), .int .i64 t] tUnit w fun _ w' => St W (vaA b { v with top := max v.top t } :: l) w' := by
 refine F56_ok ?_
 unfold F56
 obtain ⟨p, H⟩ := va_open H
 refine nc_st rfl ?_
 refine ld_st (x := v.top) 0 H rfl rfl rfl ?_
 refine st_st (x := max v.top t) 0 H rfl rfl (Nat.le_of_ble_eq_true rfl) fun w H => ?_
 exact va_shut (v := { v with top := max v.top t }) H
theorem told_spec {e : Int} (H : St W l w) : cl Tryz.prog 81 [.int .i64 e] (tInt .i64) w fun r w' => r = toldE e ∧ St W l w' := by
 refine F81_ok ?_
 unfold F81 toldE
 by_cases c1 : e = 120
 ·rw [if_pos (by simpa using c1), if_pos c1]; exact ⟨rfl, H⟩
 ·rw [if_neg (by simpa using c1), if_neg c1]
  by_cases c2 : e = 128
  ·rw [if_pos (by simpa using c2), if_pos c2]; exact ⟨rfl, H⟩
  ·rw [if_neg (by simpa using c2), if_neg c2]
   by_cases c3 : e = 126
   ·rw [if_pos (by simpa using c3), if_pos c3]; exact ⟨rfl, H⟩
   ·rw [if_neg (by simpa using c3), if_neg c3]
    by_cases c4 : e = 127
    ·rw [if_pos (by simpa using c4), if_pos c4]; exact ⟨rfl, H⟩
    ·rw [if_neg (by simpa using c4), if_neg c4]; exact ⟨rfl, H⟩
theorem vopen_spec {b : Nat} {v : Va} {t a n : Int} (F : Fit v) (H : St W (vaA b v :: l) w) : cl Tryz.prog 26 [.pointer (some ⟨b, 0, none⟩), .int .i64 t, .int .i64 a, .int .i64 n] (tInt .i64) w fun r w' => r = (openV v t a n).2 ∧ St W (vaA b (openV v t a n).1 :: l) w' := by
 refine F26_ok ?_
 unfold F26
 refine cl_mono (vnext_spec (t := t) H) ?_
 rintro r w ⟨rfl, H⟩
 unfold openV
 by_cases c0 : nextE v t = 0
 ·rw [if_neg (by simp [c0]), if_neg (by simp [c0])]
  obtain ⟨p, H⟩ := va_open H
  refine nc_st rfl ?_
  refine ld_st (x := some (⟨p.s, 0, none⟩ : Addr)) 0 H rfl rfl rfl ?_
  refine cl_mono (slast_spec (k := a) F.sto (H.front 1)) ?_
  rintro r w ⟨rfl, H⟩
  refine nw_st H fun b1 w H => ?_
  show st T117 _ (lastV (vs v.S.rows a)).1 _ _
  generalize hq : lastV (vs v.S.rows a) = q
  have hq2 : lastOf v a = q := hq
  rw [hq2]
  refine vst_st (x := Z117) (y := q.1) len118 0 H rfl fun w H => ?_
  refine cl_mono (vis_spec H) ?_
  rintro r w ⟨rfl, H⟩
  have fin : ∀ w, St W (cel b1 (T117.cells q.1) 118 :: sto p.s v.S :: cel b (TV.cells (vval v p)) 101 :: mapE THe .i64 p.m1 v.held :: mapE (tInt .i64) .i64 p.m2 v.busy :: mapE TFt .i64 p.m3 v.fates :: l) w → St W (vaA b v :: l) w := fun w H => va_shut ((H.drop).front 1)
  by_cases c1 : isA a
  ·rw [decide_eq_true c1, if_neg (by simp : ¬ (!true) = true), if_neg (show ¬ ¬ isA a by simp [c1])]
   by_cases c2 : q.2 = true
   ·rw [if_pos c2, if_pos c2]
    exact ⟨rfl, fin _ H⟩
   ·rw [if_neg c2, if_neg c2]
    refine cl_mono (check_spec (n := n) H) ?_
    rintro r w ⟨rfl, H⟩
    by_cases c3 : okAm n
    ·have e : (if 0 ≤ n ∧ n ≤ 1000000000000000 then (0 : Int) else 40) = 0 := if_pos c3
     rw [e, if_neg (by simp), if_neg (by simp [c3])]
     refine ld_st (x := some (⟨p.s, 0, none⟩ : Addr)) 2 H rfl rfl rfl ?_
     refine nwS_st H fun b2 w H => ?_
     have H := row_new (sz := 2) (m := 1) rfl H
     refine cl_mono (put_spec (t := t) (xs := [⟨a, n⟩]) F.sto (by simp) (See.row (fun _ => rfl) 0 rfl) (H.front 2)) ?_
     rintro r w ⟨_, H⟩
     have H := va_shut (v := { v with S := putM v.S t [⟨a, n⟩] }) (p := p) ((H.ord [3, 0, 4, 5, 6]))
     refine cl_mono (met_spec (t := t) H) ?_
     intro r w H
     exact ⟨rfl, (((H.front 1).drop).front 1).drop⟩
    ·have e : (if 0 ≤ n ∧ n ≤ 1000000000000000 then (0 : Int) else 40) = 40 := if_neg c3
     rw [e, if_pos (by simp), if_pos c3]
     exact ⟨rfl, fin _ H⟩
  ·rw [decide_eq_false c1, if_pos (by simp : (!false) = true), if_pos c1]
   exact ⟨rfl, fin _ H⟩
 ·rw [if_pos (by simpa using c0), if_pos c0]
  exact ⟨rfl, H⟩
theorem vwhy_spec {b : Nat} {v : Va} {p : Part} (F : Fit v) (H : St W (vaA b v :: l) w) : cl Tryz.prog 82 [.pointer (some ⟨b, 0, none⟩), T113.enc p] (tTup2 (tInt .i64) (tInt .i64)) w fun r w' => r = whyV v p ∧ St W (vaA b v :: l) w' := by
 refine F82_ok ?_
 unfold F82
 refine nw_st H fun b1 w H => ?_
 refine dr_st H fun w H => ?_
 refine nc_st rfl ?_
 obtain ⟨q, H⟩ := va_open (H.front 1)
 refine ld_st (x := some q.m3) 0 H rfl rfl rfl ?_
 refine ld_st (x := p.ID) 5 H rfl rfl rfl ?_
 refine mget_st 4 H rfl rfl ?_
 refine nw_st H fun b2 w H => ?_
 refine vst_st (x := Z156) (y := (v.fates.lookup p.ID).getD Z156) len157 0 H rfl fun w H => ?_
 refine dr_st H fun w H => ?_
 refine ld_st (x := some (⟨q.s, 0, none⟩ : Addr)) 1 H rfl rfl rfl ?_
 refine ld_st (x := p.Account) 6 H rfl rfl rfl ?_
 have H := H.drop
 have j1 : ∀ (b3 : Nat) (w : World), St W (cel b3 (T117.cells (lastOf v p.Account).1) 118 :: sto q.s v.S :: cel b (TV.cells (vval v q)) 101 :: mapE THe .i64 q.m1 v.held :: mapE (tInt .i64) .i64 q.m2 v.busy :: mapE TFt .i64 q.m3 v.fates :: cel b1 (T113.cells p) 114 :: l) w →
   F82_j1 ⟨b1, 0, none⟩ ⟨b, 0, none⟩ (v.fates.lookup p.ID) ⟨b3, 0, none⟩ (lastOf v p.Account).2 w fun r w' => r = whyV v p ∧ St W (vaA b v :: l) w' := by
  intro b3 w H
  have fin : ∀ w, St W (cel b3 (T117.cells (lastOf v p.Account).1) 118 :: sto q.s v.S :: cel b (TV.cells (vval v q)) 101 :: mapE THe .i64 q.m1 v.held :: mapE (tInt .i64) .i64 q.m2 v.busy :: mapE TFt .i64 q.m3 v.fates :: cel b1 (T113.cells p) 114 :: l) w → St W (vaA b v :: l) w :=
   fun w H => (va_shut (p := q) ((H.drop).front 1) |>.front 1).drop
  unfold F82_j1 whyV
  refine dr_st H fun w H => ?_
  refine ld_st (x := some q.m2) 2 H rfl rfl rfl ?_
  refine ld_st (x := p.Account) 6 H rfl rfl rfl ?_
  refine mget_st 4 H rfl rfl ?_
  refine ld_st (x := p.ID) 6 H rfl rfl rfl ?_
  by_cases c1 : p.ID < 1
  ·rw [if_pos (by simpa using c1), if_pos c1]; exact ⟨rfl, fin _ H⟩
  ·rw [if_neg (by simpa using c1), if_neg c1]
   by_cases c2 : (v.fates.lookup p.ID).isSome = true
   ·rw [if_pos c2, if_pos c2]; exact ⟨rfl, fin _ H⟩
   ·rw [if_neg c2, if_neg c2]
    refine ld_st (x := some q.m3) 2 H rfl rfl rfl ?_
    refine mlen_st 5 H rfl rfl ?_
    by_cases c3 : 5000 ≤ v.fates.length
    ·rw [if_pos (by simp; omega), if_pos c3]; exact ⟨rfl, fin _ H⟩
    ·rw [if_neg (by simp; omega), if_neg c3]
     refine ld_st (x := p.Account) 6 H rfl rfl rfl ?_
     refine cl_mono (vis_spec H) ?_
     rintro r w ⟨rfl, H⟩
     by_cases c4 : isA p.Account
     ·rw [decide_eq_true c4, if_neg (by simp), if_neg (show ¬ ¬ isA p.Account by simp [c4])]
      refine ld_st (x := p.N) 6 H rfl rfl rfl ?_
      have j2 : ∀ (t : Bool) (w : World), (t = true ↔ p.N < 1 ∨ ¬ okAm p.N) → St W (cel b3 (T117.cells (lastOf v p.Account).1) 118 :: sto q.s v.S :: cel b (TV.cells (vval v q)) 101 :: mapE THe .i64 q.m1 v.held :: mapE (tInt .i64) .i64 q.m2 v.busy :: mapE TFt .i64 q.m3 v.fates :: cel b1 (T113.cells p) 114 :: l) w →
        F82_j2 ⟨b1, 0, none⟩ ⟨b, 0, none⟩ ⟨b3, 0, none⟩ (lastOf v p.Account).2 (v.busy.lookup p.Account) t w fun r w' => r = (if p.N < 1 ∨ ¬ okAm p.N then (0, 155) else if (lastOf v p.Account).2 = false then (0, 159) else if (v.busy.lookup p.Account).isSome = true then (0, 160)
         else if p.Pays = false then (if okAm (lastOf v p.Account).1.V ∧ (lastOf v p.Account).1.V + p.N ≤ 1000000000000000 then (0, 0) else (0, 162))
         else if (lastOf v p.Account).1.V < p.N + feeF p.N v.rate then (0, 161) else (feeF p.N v.rate, 0)) ∧ St W (vaA b v :: l) w' := by
       intro t w ht H
       unfold F82_j2
       by_cases c5 : p.N < 1 ∨ ¬ okAm p.N
       ·rw [if_pos (ht.2 c5), if_pos c5]; exact ⟨rfl, fin _ H⟩
       ·rw [if_neg (fun h => c5 (ht.1 h)), if_neg c5]
        have e5 : okAm p.N := Classical.byContradiction fun hc => c5 (.inr hc)
        by_cases c6 : (lastOf v p.Account).2 = false
        ·rw [if_pos (by simp [c6]), if_pos c6]; exact ⟨rfl, fin _ H⟩
        ·rw [if_neg (by simpa using c6), if_neg c6]
         by_cases c7 : (v.busy.lookup p.Account).isSome = true
         ·rw [if_pos c7, if_pos c7]; exact ⟨rfl, fin _ H⟩
         ·rw [if_neg c7, if_neg c7]
          refine ld_st (x := p.Pays) 6 H rfl rfl rfl ?_
          by_cases c8 : p.Pays = false
          ·rw [if_pos (by simp [c8]), if_pos c8]
           refine ld_st (x := (lastOf v p.Account).1.V) 0 H rfl rfl rfl ?_
           refine ld_st (x := p.N) 6 H rfl rfl rfl ?_
           refine cl_mono (add_spec H) ?_
           rintro r w ⟨h1, h2, H⟩
           by_cases c9 : okAm (lastOf v p.Account).1.V ∧ (lastOf v p.Account).1.V + p.N ≤ 1000000000000000
           ·rw [if_neg (by simp [h1.2 ⟨c9.1, e5, c9.2⟩]), if_pos c9]; exact ⟨rfl, fin _ H⟩
           ·rw [if_pos (by simp; exact fun h => c9 ⟨(h1.1 h).1, (h1.1 h).2.2⟩), if_neg c9]; exact ⟨rfl, fin _ H⟩
          ·rw [if_neg (by simpa using c8), if_neg c8]
           refine dr_st H fun w H => ?_
           refine ld_st (x := p.N) 6 H rfl rfl rfl ?_
           refine ld_st (x := v.rate) 2 H rfl rfl rfl ?_
           refine cl_mono (fee_spec e5.1 e5.2 F.rate H) ?_
           rintro r w ⟨rfl, H⟩
           refine ld_st (x := (lastOf v p.Account).1.V) 0 H rfl rfl rfl ?_
           refine ld_st (x := p.N) 6 H rfl rfl rfl ?_
           have hf := feeF_le e5.1 e5.2 F.rate
           have hn := e5.2
           have hn0 := e5.1
           have e : IntKind.i64.wrap (p.N + (feeF p.N v.rate, (0 : Int)).1) = p.N + feeF p.N v.rate := wrap_i64 (by simp only; omega) (by simp only; omega)
           rw [e]
           by_cases c9 : (lastOf v p.Account).1.V < p.N + feeF p.N v.rate
           ·rw [if_pos (by simpa using c9), if_pos c9]; exact ⟨rfl, fin _ H⟩
           ·rw [if_neg (by simpa using c9), if_neg c9]; exact ⟨rfl, fin _ H⟩
      by_cases c5 : p.N < 1
      ·rw [if_pos (by simpa using c5)]
       exact j2 true w ⟨fun _ => .inl c5, fun _ => rfl⟩ H
      ·rw [if_neg (by simpa using c5)]
       refine ld_st (x := p.N) 6 H rfl rfl rfl ?_
       refine cl_mono (check_spec H) ?_
       rintro r w ⟨rfl, H⟩
       refine j2 _ w ?_ H
       by_cases c6 : okAm p.N
       ·have e : (if 0 ≤ p.N ∧ p.N ≤ 1000000000000000 then (0 : Int) else 40) = 0 := if_pos c6
        rw [e]
        simp [c5, c6]
       ·have e : (if 0 ≤ p.N ∧ p.N ≤ 1000000000000000 then (0 : Int) else 40) = 40 := if_neg c6
        rw [e]
        simp [c6]
     ·rw [decide_eq_false c4, if_pos (by simp), if_pos c4]; exact ⟨rfl, fin _ H⟩
 refine ⟨?_, ?_⟩
 ·refine cl_mono (slast_spec (k := p.Account) F.sto (H.front 1)) ?_
  rintro r w ⟨rfl, H⟩
  refine nw_st H fun b3 w H => ?_
  show st T117 _ (lastOf v p.Account).1 _ _
  refine vst_st (x := Z117) (y := (lastOf v p.Account).1) len118 0 H rfl fun w H => ?_
  exact j1 b3 w H
 ·refine nw_st H fun b3 w H => ?_
  refine cl_mono (slast_spec (k := p.Account) F.sto (H.front 2)) ?_
  rintro r w ⟨rfl, H⟩
  show st T117 _ (lastOf v p.Account).1 _ _
  refine vst_st (x := Z117) (y := (lastOf v p.Account).1) len118 1 H rfl fun w H => ?_
  exact j1 b3 w H
theorem vhold_spec {b : Nat} {v : Va} {t : Int} {p : Part} (F : Fit v) (H : St W (vaA b v :: l) w) : cl Tryz.prog 46 [.pointer (some ⟨b, 0, none⟩), .int .i64 t, T113.enc p] (tInt .i64) w fun r w' => r = (holdV v t p).2 ∧ St W (vaA b (holdV v t p).1 :: l) w' := by
 refine F46_ok ?_
 unfold F46 holdV
 refine nw_st H fun b1 w H => ?_
 refine cl_mono (vnext_spec (t := t) (H.front 1)) ?_
 rintro r w ⟨rfl, H⟩
 by_cases c0 : nextE v t = 0
 ·rw [if_neg (by simp [c0]), if_neg (by simp [c0])]
  refine vld_st (x := p) 1 H rfl ?_
  refine cl_mono (vwhy_spec (p := p) F H) ?_
  rintro r w ⟨rfl, H⟩
  by_cases c1 : (whyV v p).2 = 0
  ·rw [if_neg (by simp [c1]), if_neg (by simp [c1])]
   refine dr_st H fun w H => ?_
   refine nc_st rfl ?_
   obtain ⟨q, H⟩ := va_open H
   refine ld_st (x := some q.m1) 0 H rfl rfl rfl ?_
   refine ld_st (x := p.ID) 5 H rfl rfl rfl ?_
   refine vld_st (x := p) 5 H rfl ?_
   refine mput_st 2 H rfl rfl fun w H => ?_
   refine dr_st H fun w H => ?_
   refine ld_st (x := some q.m2) 1 H rfl rfl rfl ?_
   refine ld_st (x := p.Account) 5 H rfl rfl rfl ?_
   refine ld_st (x := p.ID) 5 H rfl rfl rfl ?_
   refine mput_st 3 H rfl rfl fun w H => ?_
   refine dr_st H fun w H => ?_
   refine ld_st (x := some q.m3) 2 H rfl rfl rfl ?_
   refine ld_st (x := p.ID) 5 H rfl rfl rfl ?_
   refine mput_st 4 H rfl rfl fun w H => ?_
   have H := va_shut (v := { v with held := ups p.ID ⟨p, t, (whyV v p).1⟩ v.held, busy := ups p.Account p.ID v.busy, fates := ups p.ID ⟨1, t⟩ v.fates }) (p := q) (H.ord [3, 4, 2, 1, 0])
   refine cl_mono (met_spec (t := t) H) ?_
   intro r w H
   exact ⟨rfl, (H.front 1).drop⟩
  ·rw [if_pos (by simpa using c1), if_pos c1]
   exact ⟨rfl, (H.front 1).drop⟩
 ·rw [if_pos (by simpa using c0), if_pos c0]
  exact ⟨rfl, (H.front 1).drop⟩
theorem free_spec {b : Nat} {v : Va} {h : Held} (H : St W (vaA b v :: l) w) : cl Tryz.prog 84 [.pointer (some ⟨b, 0, none⟩), THe.enc h] tUnit w fun _ w' => St W (vaA b (freeV v h) :: l) w' := by
 refine F84_ok ?_
 unfold F84
 refine nw_st H fun b1 w H => ?_
 refine dr_st H fun w H => ?_
 refine nc_st rfl ?_
 obtain ⟨q, H⟩ := va_open (H.front 1)
 refine ld_st (x := some q.m1) 0 H rfl rfl rfl ?_
 refine ld_st (x := h.Part.ID) 5 H rfl rfl rfl ?_
 refine mdel_st 2 H rfl rfl fun w H => ?_
 refine dr_st H fun w H => ?_
 refine ld_st (x := some q.m2) 1 H rfl rfl rfl ?_
 refine ld_st (x := h.Part.Account) 5 H rfl rfl rfl ?_
 refine mdel_st 3 H rfl rfl fun w H => ?_
 exact (va_shut (v := freeV v h) (p := q) (H.ord [2, 3, 1, 0, 4]) |>.front 1).drop
theorem change_spec {b : Nat} {v : Va} {h : Held} {q : VaP} (F : Fit v) (H : St W (cel b (TV.cells (vval v q)) 101 :: sto q.s v.S :: l) w) : cl Tryz.prog 83 [.pointer (some ⟨b, 0, none⟩), THe.enc h] tSlc w fun r w' => St W (row T122 123 2 r (changeV v h) :: cel b (TV.cells (vval v q)) 101 :: sto q.s v.S :: l) w' := by
 refine F83_ok ?_
 unfold F83 changeV
 refine nw_st H fun b1 w H => ?_
 refine ld_st (x := h.Part.Account) 0 H rfl rfl rfl ?_
 refine nc_st rfl ?_
 refine ld_st (x := some (⟨q.s, 0, none⟩ : Addr)) 1 H rfl rfl rfl ?_
 refine cl_mono (slast_spec (k := h.Part.Account) F.sto (H.front 2)) ?_
 rintro r w ⟨rfl, H⟩
 refine nw_st H fun b2 w H => ?_
 show st T117 _ (lastOf v h.Part.Account).1 _ _
 refine vst_st (x := Z117) (y := (lastOf v h.Part.Account).1) len118 0 H rfl fun w H => ?_
 refine ld_st (x := h.Part.Pays) 2 H rfl rfl rfl ?_
 by_cases c : h.Part.Pays = false
 ·rw [if_pos (by simp [c]), if_pos c]
  refine ld_st (x := (lastOf v h.Part.Account).1.V) 0 H rfl rfl rfl ?_
  refine ld_st (x := h.Part.N) 2 H rfl rfl rfl ?_
  refine nwS_st H fun b3 w H => ?_
  have H := row_new (sz := 2) (m := 1) rfl H
  exact ((((H.front 1).drop.front 2).drop).ord [0, 2, 1])
 ·rw [if_neg (by simpa using c), if_neg c]
  refine ld_st (x := (lastOf v h.Part.Account).1.V) 0 H rfl rfl rfl ?_
  refine ld_st (x := h.Part.N) 2 H rfl rfl rfl ?_
  refine ld_st (x := h.Fee) 2 H rfl rfl rfl ?_
  refine nwS_st H fun b3 w H => ?_
  have H := row_new (sz := 2) (m := 1) rfl H
  refine ld_st (x := h.Fee) 3 H rfl rfl rfl ?_
  unfold F83_j1
  by_cases d : h.Fee > 0
  ·rw [if_pos (by simpa using d), if_pos d]
   refine ld_st (x := some (⟨q.s, 0, none⟩ : Addr)) 4 H rfl rfl rfl ?_
   generalize hpk : IntKind.i64.wrap (4096 + h.Part.Account) = pk
   refine cl_mono (slast_spec (k := pk) F.sto (H.front 2)) ?_
   rintro r w ⟨rfl, H⟩
   refine nw_st H fun b4 w H => ?_
   show st T117 _ (lastOf v pk).1 _ _
   refine vst_st (x := Z117) (y := (lastOf v pk).1) len118 0 H rfl fun w H => ?_
   refine ld_st (x := (lastOf v pk).1.V) 0 H rfl rfl rfl ?_
   refine ld_st (x := h.Fee) 4 H rfl rfl rfl ?_
   refine apl_row (fun _ => rfl) 2 H rfl (by simp) fun r w H => ?_
   have H := ((((H.front 1).drop).front 2).drop.front 2).drop
   exact H.ord [0, 2, 1]
  ·rw [if_neg (by simpa using d), if_neg d]
   have H := (H.front 1).drop
   have H := (H.front 2).drop
   exact H.ord [0, 2, 1]
theorem change_len (v : Va) (h : Held) : (changeV v h).length ≤ 2 := by
 unfold changeV
 split
 ·simp
 ·split <;> simp
theorem commit_spec {b : Nat} {v : Va} {t id : Int} (F : Fit v) (H : St W (vaA b v :: l) w) : cl Tryz.prog 47 [.pointer (some ⟨b, 0, none⟩), .int .i64 t, .int .i64 id] (tInt .i64) w fun r w' => r = (commitV v t id).2 ∧ St W (vaA b (commitV v t id).1 :: l) w' := by
 refine F47_ok ?_
 unfold F47 commitV
 by_cases c0 : t < 1 ∨ t > 1125899906842624
 ·rw [if_pos (by simpa using c0), if_pos c0]; exact ⟨rfl, H⟩
 ·rw [if_neg (by simpa using c0), if_neg c0]
  refine nc_st rfl ?_
  obtain ⟨q, H⟩ := va_open H
  refine ld_st (x := some q.m3) 0 H rfl rfl rfl ?_
  refine mget_st 4 H rfl rfl ?_
  refine nw_st H fun b1 w H => ?_
  show st T156 _ (fateV v id) _ _
  refine vst_st (x := Z156) (y := fateV v id) len157 0 H rfl fun w H => ?_
  refine ld_st (x := (fateV v id).what) 0 H rfl rfl rfl ?_
  by_cases c1 : (fateV v id).what = 2
  ·rw [if_pos (by simpa using c1), if_pos c1]
   refine ld_st (x := (fateV v id).t_) 0 H rfl rfl rfl ?_
   by_cases c2 : (fateV v id).t_ = t
   ·rw [if_neg (by simp [c2]), if_neg (by simp [c2])]
    exact ⟨rfl, va_shut (p := q) H.drop⟩
   ·rw [if_pos (by simpa using c2), if_pos c2]
    exact ⟨rfl, va_shut (p := q) H.drop⟩
  ·rw [if_neg (by simpa using c1), if_neg c1]
   by_cases c2 : (fateV v id).what = 1
   ·rw [if_pos (by simpa using c2), if_pos c2]
    refine ld_st (x := some q.m1) 1 H rfl rfl rfl ?_
    refine mget_st 3 H rfl rfl ?_
    refine nw_st H fun b2 w H => ?_
    show st THe _ (heldOf v id) _ _
    refine vst_st (x := Z150) (y := heldOf v id) len151 0 H rfl fun w H => ?_
    refine ld_st (x := (heldOf v id).T_) 0 H rfl rfl rfl ?_
    by_cases c3 : t < (heldOf v id).T_
    ·rw [if_pos (by simpa using c3), if_pos c3]
     exact ⟨rfl, va_shut (p := q) H.drop.drop⟩
    ·rw [if_neg (by simpa using c3), if_neg c3]
     generalize heldOf v id = h at *
     refine dr_st H fun w H => ?_
     refine ld_st (x := some (⟨q.s, 0, none⟩ : Addr)) 2 H rfl rfl rfl ?_
     refine vld_st (x := h) 0 H rfl ?_
     refine cl_mono (change_spec (h := h) (q := q) F (H.ord [2, 3])) ?_
     intro r w H
     have hcl := change_len v h
     refine ⟨rdat_cel tPtr (H.front 1) rfl rfl, ?_⟩
     refine cl_mono (put_spec (t := t) (xs := changeV v h) F.sto (by omega) (See.row (fun _ => rfl) 0 rfl) (H.front 2)) ?_
     rintro r w ⟨_, H⟩
     have H := (H.front 1).drop
     refine ⟨rdat_cel THe (H.front 2) rfl (at_all _), ?_⟩
     refine vld_st (x := h) 2 H rfl ?_
     have H := va_shut (v := { v with S := putM v.S t (changeV v h) }) (p := q) (H.ord [1, 0, 4, 5, 6])
     refine cl_mono (free_spec (h := h) H) ?_
     intro r w H
     obtain ⟨q', H⟩ := va_open H
     refine ld_st (x := some q'.m3) 0 H rfl rfl rfl ?_
     refine mput_st 4 H rfl rfl fun w H => ?_
     have H := va_shut (v := { freeV v h with S := putM v.S t (changeV v h), fates := ups id ⟨2, t⟩ v.fates }) (p := q') (H.ord [1, 2, 3, 4, 0])
     refine cl_mono (met_spec (t := t) H) ?_
     intro r w H
     exact ⟨rfl, (((H.front 1).drop).front 1).drop⟩
   ·rw [if_neg (by simpa using c2), if_neg c2]
    exact ⟨rfl, va_shut (p := q) H.drop⟩
theorem drop_spec {b : Nat} {v : Va} {id : Int} (H : St W (vaA b v :: l) w) : cl Tryz.prog 48 [.pointer (some ⟨b, 0, none⟩), .int .i64 id] (tInt .i64) w fun r w' => r = (dropV v id).2 ∧ St W (vaA b (dropV v id).1 :: l) w' := by
 refine F48_ok ?_
 unfold F48 dropV
 refine nc_st rfl ?_
 obtain ⟨q, H⟩ := va_open H
 refine ld_st (x := some q.m3) 0 H rfl rfl rfl ?_
 refine mget_st 4 H rfl rfl ?_
 refine nw_st H fun b1 w H => ?_
 show st T156 _ (fateV v id) _ _
 refine vst_st (x := Z156) (y := fateV v id) len157 0 H rfl fun w H => ?_
 by_cases c0 : id < 1
 ·rw [if_pos (by simpa using c0), if_pos c0]
  exact ⟨rfl, va_shut (p := q) H.drop⟩
 ·rw [if_neg (by simpa using c0), if_neg c0]
  refine ld_st (x := (fateV v id).what) 0 H rfl rfl rfl ?_
  by_cases c1 : (fateV v id).what = 2
  ·rw [if_pos (by simpa using c1), if_pos c1]
   exact ⟨rfl, va_shut (p := q) H.drop⟩
  ·rw [if_neg (by simpa using c1), if_neg c1]
   refine ex_i ⟨b, 0, none⟩ (fun _ => rfl) ?_
   refine ex_i (some q.m3) (fun _ => rdat_cel tMap (H.front 1) rfl rfl) ?_
   refine mlenG_st (g := !((v.fates.lookup id).isSome)) 5 H rfl rfl ?_
   have j1 : ∀ (w : World), St W (vaA b (gone_ v id) :: l) w → F48_j1 id ⟨b, 0, none⟩ w fun r w' => r = 0 ∧ St W (vaA b { gone_ v id with fates := ups id ⟨3, 0⟩ v.fates } :: l) w' := by
    intro w H
    have hf : (gone_ v id).fates = v.fates := by unfold gone_; split <;> rfl
    unfold F48_j1
    obtain ⟨q', H⟩ := va_open H
    refine ld_st (x := some q'.m3) 0 H rfl rfl rfl ?_
    refine mput_st 4 H rfl rfl fun w H => ?_
    rw [hf] at H
    exact ⟨rfl, va_shut (v := { gone_ v id with fates := ups id ⟨3, 0⟩ v.fates }) (p := q') (H.ord [1, 2, 3, 4, 0])⟩
   by_cases c2 : (v.fates.lookup id).isSome = false ∧ 5000 ≤ v.fates.length
   ·rw [if_pos (by simp only [c2.1]; simp; omega), if_pos c2]
    exact ⟨rfl, va_shut (p := q) H.drop⟩
   ·rw [if_neg (by
     intro hc
     rw [Bool.and_eq_true] at hc
     refine c2 ⟨by simpa using hc.1, ?_⟩
     have := hc.2
     simp at this
     omega), if_neg c2]
    refine ld_st (x := some q.m1) 1 H rfl rfl rfl ?_
    refine mget_st 3 H rfl rfl ?_
    refine nw_st H fun b2 w H => ?_
    show st THe _ (heldOf v id) _ _
    refine vst_st (x := Z150) (y := heldOf v id) len151 0 H rfl fun w H => ?_
    cases hh : v.held.lookup id with
    | some h =>
     rw [if_pos (by simp)]
     rw [heldOf_of hh] at H
     refine vld_st (x := h) 0 H rfl ?_
     have H := va_shut (p := q) (H.ord [2, 3, 4, 5, 6])
     refine cl_mono (free_spec (h := h) H) ?_
     intro r w H
     have hg : gone_ v id = freeV v h := by unfold gone_; rw [hh]
     exact j1 w (by rw [hg]; exact (((H.front 1).drop).front 1).drop)
    | none =>
     rw [if_neg (by simp)]
     have hg : gone_ v id = v := by unfold gone_; rw [hh]
     have H := va_shut (p := q) (H.ord [2, 3, 4, 5, 6])
     exact j1 w (by rw [hg]; exact (((H.front 1).drop).front 1).drop)
theorem vclose_spec {b : Nat} {v : Va} {t : Int} (H : St W (vaA b v :: l) w) : cl Tryz.prog 49 [.pointer (some ⟨b, 0, none⟩), .int .i64 t] (tInt .i64) w fun r w' => r = (closeV v t).2 ∧ St W (vaA b (closeV v t).1 :: l) w' := by
 refine F49_ok ?_
 unfold F49
 refine cl_mono (vin_spec (t := t) H) ?_
 rintro r w ⟨rfl, H⟩
 by_cases c0 : t < 0 ∨ t > 1125899906842624
 ·have e : closeV v t = (v, 151) := by unfold closeV; rw [if_pos c0]
  rw [e, if_pos (by simp; omega)]
  exact ⟨rfl, H⟩
 ·rw [if_neg (by simp; omega)]
  refine nc_st rfl ?_
  obtain ⟨q, H⟩ := va_open H
  refine ld_st (x := some q.m1) 0 H rfl rfl rfl ?_
  refine rng_st 2 H rfl rfl fun it w H => ?_
  refine lp_n (fun n _ w => ∃ left cur, n = left.length ∧ (∀ x ∈ left, x ∈ v.held) ∧ (v.held.any (fun e => decide (e.2.T_ ≤ t)) = left.any (fun e => decide (e.2.T_ ≤ t))) ∧ (left.map (·.1)).Nodup ∧ ∃ junk, St W (ranging THe .i64 q.m1 it v.held left cur :: cel b (TV.cells (vval v q)) 101 :: sto q.s v.S :: mapE (tInt .i64) .i64 q.m2 v.busy :: mapE TFt .i64 q.m3 v.fates :: (junk ++ l)) w) _ ⟨v.held, none, rfl, fun _ h => h, rfl, ?_, [], H⟩ ?_
  ·exact ranging_nodup H
  clear H
  rintro c _ w ⟨left, cur, rfl, h1, h2, hn, junk, H⟩ K hK
  unfold F49_l1
  refine nxt_st 0 H rfl rfl (fun he H => ?_) fun x hx w H => ?_
  ·subst he
   rw [if_neg (by simp)]
   have e : closeV v t = ({ v with S := closeM v.S t, top := max v.top t }, 0) := by
    unfold closeV; rw [if_neg c0, if_neg (by rw [h2]; simp)]
   rw [e]
   have H := ranging_done H
   refine ld_st (x := some (⟨q.s, 0, none⟩ : Addr)) 1 H rfl rfl rfl ?_
   refine cl_mono (close_spec (t := t) (H.front 2)) ?_
   rintro r w ⟨_, H⟩
   have H := va_shut (v := { v with S := closeM v.S t }) (p := q) (H.ord [2, 0, 1, 3, 4])
   refine cl_mono (met_spec (t := t) H) ?_
   intro r w H
   have H := H.perm (List.perm_middle.symm : (_ :: (junk ++ l)).Perm (junk ++ _ :: l))
   exact ⟨rfl, drops junk H⟩
  ·rw [if_pos (by simp)]
   refine ent_st 0 H rfl rfl ?_
   refine nw_st H fun b1 w H => ?_
   refine vst_st (x := Z150) (y := x.2) len151 0 H rfl fun w H => ?_
   refine ld_st (x := x.2.T_) 0 H rfl rfl rfl ?_
   by_cases c1 : x.2.T_ ≤ t
   ·rw [if_pos (by simpa using c1)]
    have e : closeV v t = (v, 160) := by
     unfold closeV; rw [if_neg c0, if_pos (List.any_eq_true.2 ⟨x, h1 x hx, by simpa using c1⟩)]
    rw [e]
    have H := ranging_done H.drop
    have H := va_shut (v := v) (p := q) (H.ord [1, 2, 0, 3, 4])
    have H := H.perm (List.perm_middle.symm : (_ :: (junk ++ l)).Perm (junk ++ _ :: l))
    exact ⟨rfl, drops junk H⟩
   ·rw [if_neg (by simpa using c1)]
    refine hK _ _ _ (flt_lt hx) ⟨_, _, rfl, fun y hy => h1 y (List.mem_filter.1 hy).1, ?_, (hn.sublist (List.filter_sublist.map _)), junk, H.drop⟩
    rw [h2, List.any_filter, Bool.eq_iff_iff, List.any_eq_true, List.any_eq_true]
    constructor
    ·rintro ⟨y, hy, hd⟩
     refine ⟨y, hy, ?_⟩
     rw [Bool.and_eq_true]
     refine ⟨?_, hd⟩
     rw [bne_iff_ne]
     intro hc
     have : y = x := nodup_inj hn y hy x hx hc
     subst this
     exact c1 (by simpa using hd)
    ·rintro ⟨y, hy, hd⟩
     rw [Bool.and_eq_true] at hd
     exact ⟨y, hy, hd.2⟩
theorem vprune_spec {b : Nat} {v : Va} {t : Int} (F : Fit v) (H : St W (vaA b v :: l) w) : cl Tryz.prog 50 [.pointer (some ⟨b, 0, none⟩), .int .i64 t] (tInt .i64) w fun r w' => r = (pruneV v t).2 ∧ St W (vaA b (pruneV v t).1 :: l) w' := by
 refine F50_ok ?_
 unfold F50
 refine nc_st rfl ?_
 obtain ⟨q, H⟩ := va_open H
 refine ld_st (x := some (⟨q.s, 0, none⟩ : Addr)) 0 H rfl rfl rfl ?_
 refine cl_mono (prune_spec (t := t) F.sto (H.front 1)) ?_
 rintro r w ⟨rfl, H⟩
 refine cl_mono (told_spec H) ?_
 rintro r w ⟨rfl, H⟩
 exact ⟨rfl, va_shut (v := { v with S := pruneM v.S t }) (p := q) (H.front 1)⟩
theorem vsnap_spec {b : Nat} {v : Va} {t : Int} (F : Fit v) (H : St W (vaA b v :: l) w) : cl Tryz.prog 44 [.pointer (some ⟨b, 0, none⟩), .int .i64 t] (tTup2 tSlc (tInt .i64)) w fun r w' => r.2 = toldE (timeM v.S t) ∧ St W (row T122 123 2 r.1 (snapL v.S t) :: vaA b v :: l) w' := by
 refine F44_ok ?_
 unfold F44
 refine nc_st rfl ?_
 obtain ⟨q, H⟩ := va_open H
 refine ld_st (x := some (⟨q.s, 0, none⟩ : Addr)) 0 H rfl rfl rfl ?_
 refine cl_mono (snap_spec (t := t) F.sto (H.front 1)) ?_
 rintro ⟨r1, r2⟩ w ⟨hr, H⟩
 simp only at hr H
 subst hr
 refine cl_mono (told_spec H) ?_
 rintro r w ⟨rfl, H⟩
 exact ⟨rfl, (va_shut (p := q) (H.ord [2, 1, 3, 4, 5])).front 1⟩
theorem fate_spec {b : Nat} {v : Va} {id : Int} (H : St W (vaA b v :: l) w) : cl Tryz.prog 43 [.pointer (some ⟨b, 0, none⟩), .int .i64 id] (tTup2 (tInt .i64) (tInt .i64)) w fun r w' => r = ((fateV v id).what, (fateV v id).t_) ∧ St W (vaA b v :: l) w' := by
 refine F43_ok ?_
 unfold F43
 refine nc_st rfl ?_
 obtain ⟨q, H⟩ := va_open H
 refine ld_st (x := some q.m3) 0 H rfl rfl rfl ?_
 refine mget_st 4 H rfl rfl ?_
 refine nw_st H fun b1 w H => ?_
 show st T156 _ (fateV v id) _ _
 refine vst_st (x := Z156) (y := fateV v id) len157 0 H rfl fun w H => ?_
 refine dr_st H fun w H => ?_
 refine ld_st (x := (fateV v id).what) 0 H rfl rfl rfl ?_
 refine ld_st (x := (fateV v id).t_) 0 H rfl rfl rfl ?_
 exact ⟨rfl, va_shut (p := q) H.drop⟩
theorem top_spec {b : Nat} {v : Va} (H : St W (vaA b v :: l) w) : cl Tryz.prog 25 [.pointer (some ⟨b, 0, none⟩)] (tInt .i64) w fun r w' => r = v.top ∧ St W (vaA b v :: l) w' := by
 refine F25_ok ?_
 unfold F25
 refine nc_st rfl ?_
 obtain ⟨q, H⟩ := va_open H
 refine ld_st (x := v.top) 0 H rfl rfl rfl ?_
 exact ⟨rfl, va_shut (p := q) H⟩
theorem vclosed_spec {s : Nat} {M : Md} (H : St W (sto s M :: l) w) : cl Tryz.prog 39 [T95.enc (⟨some ⟨s, 0, none⟩⟩ : S95)] (tInt .i64) w fun r w' => r = M.closed ∧ St W (sto s M :: l) w' := by
 refine F39_ok ?_
 unfold F39
 refine nw_st H fun b1 w H => ?_
 refine ld_st (x := some (⟨s, 0, none⟩ : Addr)) 0 H rfl rfl rfl ?_
 refine cl_mono (closed_spec (H.front 1)) ?_
 rintro r w ⟨rfl, H⟩
 exact ⟨rfl, (H.front 1).drop⟩
theorem vmark_spec {s : Nat} {M : Md} (H : St W (sto s M :: l) w) : cl Tryz.prog 40 [T95.enc (⟨some ⟨s, 0, none⟩⟩ : S95)] (tInt .i64) w fun r w' => r = M.mark ∧ St W (sto s M :: l) w' := by
 refine F40_ok ?_
 unfold F40
 refine nw_st H fun b1 w H => ?_
 refine ld_st (x := some (⟨s, 0, none⟩ : Addr)) 0 H rfl rfl rfl ?_
 refine cl_mono (mark_spec (H.front 1)) ?_
 rintro r w ⟨rfl, H⟩
 exact ⟨rfl, (H.front 1).drop⟩
theorem heldc_spec {b : Nat} {v : Va} {p : VaP} (F : Fit v) (H : St W (cel b (TV.cells (vval v p)) 101 :: mapE THe .i64 p.m1 v.held :: l) w) : cl Tryz.prog 42 [.pointer (some ⟨b, 0, none⟩)] tSlc w fun r w' => St W (row THe 151 6 r (heldL v) :: cel b (TV.cells (vval v p)) 101 :: mapE THe .i64 p.m1 v.held :: l) w' := by
 refine F42_ok ?_
 unfold F42
 refine nc_st rfl ?_
 refine ld_st (x := some p.m1) 0 H rfl rfl rfl ?_
 refine F79_ok ?_
 unfold F79
 refine nw_st H fun bm w H => ?_
 have hrange : ∀ e ∈ v.held, -9223372036854775808 ≤ e.1 ∧ e.1 ≤ 9223372036854775807 := fun e he => by have := held_keys F e he; omega
 have hlen := held_len F
 refine cl_mono (sorted_keysB hrange (by omega) (H.ord [0, 2])) ?_
 rintro s w ⟨ks, hp, H⟩
 have hq : (ks.mergeSort fun x y => decide (x ≤ y)) = sortI (v.held.map (·.1)) := sortI_perm hp
 rw [hq] at H
 have hs := row_len H
 have hhl : heldL v = (sortI (v.held.map (·.1))).map (heldOf v) := rfl
 rw [hhl]
 have hql : (sortI (v.held.map (·.1))).length ≤ 5000 := by rw [(sortI_p _).length_eq, List.length_map]; omega
 generalize sortI (v.held.map (·.1)) = q at *
 have H := row_nil THe 151 6 H
 refine lp_i (fun x w => 0 ≤ x.2 ∧ x.2 ≤ q.length ∧ St W (row THe 151 6 x.1 ((q.take x.2.toNat).map (heldOf v)) :: row (tInt .i64) 3 1 s q :: cel bm [.map (some p.m1)] 97 :: mapE THe .i64 p.m1 v.held :: cel b (TV.cells (vval v p)) 101 :: l) w) (fun x => (q.length - x.2).toNat)
  ⟨Int.le_refl 0, by simp only; omega, H⟩ ?_
 rintro ⟨out, i⟩ w ⟨h0, h1, H⟩
 simp only at h0 h1
 simp only
 unfold F42_l1
 rw [hs]
 split
 ·rename_i hc2
  have hc2 : i < q.length := by simpa using hc2
  have e1 : IntKind.i64.wrap (i + 1) = i + 1 := wrap_i64 (by omega) (by omega)
  have hx : q[i.toNat]? = some q[i.toNat] := List.getElem?_eq_getElem (by omega)
  have htk : (q.take (i + 1).toNat).map (heldOf v) = (q.take i.toNat).map (heldOf v) ++ [heldOf v q[i.toNat]] := by
   rw [show (i + 1).toNat = i.toNat + 1 from by omega, List.take_succ_eq_append_getElem (by omega), List.map_append]; rfl
  obtain ⟨a, ha⟩ := row_ix (sz := 1) (i := i) (H.front 1) h0 hc2
  refine ex_i a ha ?_
  refine ex_i q[i.toNat] (rd_row (fun _ => rfl) ha hx (H.front 1)) ?_
  generalize q[i.toNat] = k at *
  refine ld_st (x := some p.m1) 4 H rfl rfl rfl ?_
  refine mget_st 3 H rfl rfl ?_
  show apl _ THe 6 48 _ [heldOf v k] _ _
  refine apl_row (fun _ => rfl) 0 H rfl (by simp only [List.length_map, List.length_take, List.length_singleton]; omega) fun s2 w7 H => ?_
  rw [e1]
  refine ⟨⟨by simp only; omega, by simp only; omega, ?_⟩, by simp only; omega⟩
  simp only
  rw [htk]
  exact H
 ·rename_i hc2
  have hc2 : i = q.length := by simp at hc2; omega
  subst hc2
  have e : q.take ((q.length : Int)).toNat = q := by simp
  rw [e] at H
  have H := ((H.front 1).drop.front 1).drop
  exact H.ord [0, 2, 1]
theorem topc_spec {b : Nat} {v : Va} {q : VaP} (H : St W (cel b (TV.cells (vval v q)) 101 :: l) w) : cl Tryz.prog 25 [.pointer (some ⟨b, 0, none⟩)] (tInt .i64) w fun r w' => r = v.top ∧ St W (cel b (TV.cells (vval v q)) 101 :: l) w' := by
 refine F25_ok ?_
 unfold F25
 refine nc_st rfl ?_
 refine ld_st (x := v.top) 0 H rfl rfl rfl ?_
 exact ⟨rfl, H⟩
end
end Go.Proofs.YtehclfjjjiiieaaGreat.Vault
namespace Go.Proofs.YtehclfjjjiiieaaGreat.Shard
open Go Go.Proofs.YtehclfjjjiiieaaGreat.Cf Go.Proofs.YtehclfjjjiiieaaGreat.Wire
set_option linter.unusedVariables false
set_option linter.unusedSimpArgs false
set_option maxRecDepth 100000
abbrev Deed := S22
abbrev TDe := T22
theorem lenD : ∀ x, (TDe.cells x).length = 6 := fun _ => rfl
structure InD (x : Deed) : Prop where
 k : -9223372036854775808 ≤ x.Kind ∧ x.Kind ≤ 9223372036854775807
 t : -9223372036854775808 ≤ x.T_ ∧ x.T_ ≤ 9223372036854775807
 i : -9223372036854775808 ≤ x.ID ∧ x.ID ≤ 9223372036854775807
 a : -9223372036854775808 ≤ x.Account ∧ x.Account ≤ 9223372036854775807
 n : -9223372036854775808 ≤ x.N ∧ x.N ≤ 9223372036854775807
def flag (b : Bool) : Int := if b = true then 1 else 0
def valsD (x : Deed) : List Val := [⟨1, IntKind.u64.wrap x.Kind, 0, 0, []⟩, ⟨2, 0, x.T_, 0, []⟩, ⟨2, 0, x.ID, 0, []⟩, ⟨2, 0, x.Account, 0, []⟩, ⟨2, 0, x.N, 0, []⟩, ⟨1, flag x.Pays, 0, 0, []⟩]
def encD (x : Deed) : List UInt8 := encs (valsD x)
theorem fine_uint {u : Int} (h0 : 0 ≤ u) (h1 : u < 18446744073709551616) : In ⟨1, u, 0, 0, []⟩ ∧ okV ⟨1, u, 0, 0, []⟩ = 0 := ⟨⟨by simp, by simp, h0, h1, by simp, by simp, by simp⟩, by simp [okV, plainB]⟩
theorem fine_int {u : Int} (h0 : -9223372036854775808 ≤ u) (h1 : u ≤ 9223372036854775807) : In ⟨2, 0, u, 0, []⟩ ∧ okV ⟨2, 0, u, 0, []⟩ = 0 := ⟨⟨by simp, by simp, by simp, by simp, h0, h1, by simp⟩, by simp [okV, plainB]⟩
theorem fine_valsD {x : Deed} (h : InD x) : Fine (valsD x) := by
 have h0 := fine_uint (u := IntKind.u64.wrap x.Kind) (by rw [wr_u64]; omega) (by rw [wr_u64]; omega)
 have h1 := fine_int h.t.1 h.t.2
 have h2 := fine_int h.i.1 h.i.2
 have h3 := fine_int h.a.1 h.a.2
 have h4 := fine_int h.n.1 h.n.2
 have h5 := fine_uint (u := flag x.Pays) (by unfold flag; split <;> omega) (by unfold flag; split <;> omega)
 have all : ∀ v ∈ valsD x, In v ∧ okV v = 0 := by
  intro v hv
  unfold valsD at hv
  simp only [List.mem_cons, List.mem_nil_iff, or_false] at hv
  rcases hv with rfl | rfl | rfl | rfl | rfl | rfl
  ·exact h0
  ·exact h1
  ·exact h2
  ·exact h3
  ·exact h4
  ·exact h5
 exact ⟨fun v hv => (all v hv).1, fun v hv => (all v hv).2⟩
theorem canon_valsD (x : Deed) : (valsD x).map canon = valsD x := by simp [valsD, canon, fb_0]
theorem unp_encD {x : Deed} (h : InD x) : unp (encD x) = (valsD x, 0, 0) := by
 unfold encD
 rw [unp_encs (fine_valsD h) (by simp [valsD]), canon_valsD]
theorem encD_len {x : Deed} (h : InD x) : (encD x).length ≤ 6066 := by
 have := encs_len (fine_valsD h).dom (fine_valsD h).ok
 simpa [encD, valsD] using this
def kindD (k : Int) : Prop := 1 ≤ k ∧ k ≤ 6
instance (k : Int) : Decidable (kindD k) := by unfold kindD; infer_instance
def six (a b c d e f : Val) : Option Deed :=
 if a.Kind = 1 ∧ f.Kind = 1 ∧ a.U ≤ 6 ∧ f.U ≤ 1 ∧ b.Kind = 2 ∧ c.Kind = 2 ∧ d.Kind = 2 ∧ e.Kind = 2 ∧ 1 ≤ a.U then some ⟨a.U, b.I, c.I, d.I, e.I, f.U == 1⟩ else none
def ofVals : List Val → Option Deed
 | [a, b, c, d, e, f] => six a b c d e f
 | _ => none
def deedOf (bs : List UInt8) : Option Deed := if (unp bs).2.2 = 0 then ofVals (unp bs).1 else none
theorem deedOf_encD {x : Deed} (h : InD x) (hk : kindD x.Kind) : deedOf (encD x) = some x := by
 unfold deedOf
 rw [unp_encD h]
 have e : IntKind.u64.wrap x.Kind = x.Kind := by have := hk.1; have := hk.2; rw [wr_u64]; omega
 have hk1 := hk.1
 have hk2 := hk.2
 have hf : (flag x.Pays == 1) = x.Pays := by unfold flag; cases x.Pays <;> rfl
 have hf2 : flag x.Pays ≤ 1 := by unfold flag; split <;> omega
 simp only [valsD, ofVals, six, e, if_true]
 rw [if_pos ⟨trivial, trivial, hk2, hf2, trivial, trivial, trivial, trivial, hk1⟩, hf]
theorem val_uint {v : Val} (h : okV v = 0) (hk : v.Kind = 1) : v = ⟨1, v.U, 0, 0, []⟩ := by
 rcases okV_kind h with ⟨_, h1, h2, h3⟩ | ⟨h1, _⟩ | ⟨h1, _⟩ | ⟨h1, _⟩
 ·cases v; simp_all
 ·omega
 ·omega
 ·omega
theorem val_int {v : Val} (h : okV v = 0) (hk : v.Kind = 2) : v = ⟨2, 0, v.I, 0, []⟩ := by
 rcases okV_kind h with ⟨h1, _⟩ | ⟨_, h1, h2, h3⟩ | ⟨h1, _⟩ | ⟨h1, _⟩
 ·omega
 ·cases v; simp_all
 ·omega
 ·omega
theorem deedOf_sound {bs : List UInt8} {x : Deed} (h : deedOf bs = some x) : InD x ∧ kindD x.Kind ∧ bs = encD x := by
 unfold deedOf at h
 split at h
 ·rename_i he
  obtain ⟨F, hc, hb, _⟩ := unp_sound he rfl
  generalize (unp bs).1 = m at *
  match m, h with
  | [a, b, c, d, e, f], h =>
   simp only [ofVals, six] at h
   split at h
   ·rename_i hk
    obtain ⟨k1, k2, k3, k4, k5, k6, k7, k8, k9⟩ := hk
    cases h
    have ea := val_uint (F.ok a (by simp)) k1
    have eb := val_int (F.ok b (by simp)) k5
    have ec := val_int (F.ok c (by simp)) k6
    have ed := val_int (F.ok d (by simp)) k7
    have ee := val_int (F.ok e (by simp)) k8
    have ef := val_uint (F.ok f (by simp)) k2
    have ib := F.dom b (by simp)
    have ic := F.dom c (by simp)
    have id_ := F.dom d (by simp)
    have ie := F.dom e (by simp)
    have jf := F.dom f (by simp)
    have hf : flag (f.U == 1) = f.U := by
     unfold flag
     have := jf.u0
     by_cases c1 : f.U = 1
     ·rw [if_pos (by simp [c1]), c1]
     ·rw [if_neg (by simpa using c1)]; omega
    have hw : IntKind.u64.wrap a.U = a.U := by rw [wr_u64]; omega
    refine ⟨⟨by simp only; omega, ⟨ib.i0, ib.i1⟩, ⟨ic.i0, ic.i1⟩, ⟨id_.i0, id_.i1⟩, ⟨ie.i0, ie.i1⟩⟩, ⟨k9, k3⟩, ?_⟩
    rw [hb]
    unfold encD valsD
    simp only [hw, hf]
    rw [← ea, ← eb, ← ec, ← ed, ← ee, ← ef]
   ·cases h
 ·cases h
section
variable {W w : World} {l l' : List Assn}
theorem lenV5 : ∀ x, (T63.cells x).length = 5 := fun _ => rfl
theorem load_spec {x : Deed} (hx : InD x) (H : St W l w) : cl Tryz.prog 8 [TDe.enc x] tSlc w fun r w' => St W (row (tInt .u8) 5 1 r (B (encD x)) :: l) w' := by
 refine F8_ok ?_
 unfold F8
 refine nw_st H fun b2 w H => ?_
 refine ld_st (x := x.Pays) 0 H rfl rfl rfl ?_
 have j1 : ∀ (p : Int) (w : World), p = flag x.Pays → St W (cel b2 (TDe.cells x) 23 :: l) w → F8_j1 ⟨b2, 0, none⟩ p w fun r w' => St W (row (tInt .u8) 5 1 r (B (encD x)) :: l) w' := by
  intro p w hp H
  subst hp
  unfold F8_j1
  refine ld_st (x := x.Kind) 0 H rfl rfl rfl ?_
  refine nwS_st H fun b7 w H => ?_
  have H := row_new (sz := 5) (m := 1) rfl H
  refine ld_st (x := x.T_) 1 H rfl rfl rfl ?_
  refine ld_st (x := x.ID) 1 H rfl rfl rfl ?_
  refine ld_st (x := x.Account) 1 H rfl rfl rfl ?_
  refine ld_st (x := x.N) 1 H rfl rfl rfl ?_
  refine nwS_st H fun b13 w H => ?_
  have H := row_new (sz := 1) (m := 4) rfl H
  refine lp_p (fun s w => ∃ k : Nat, s.2 = (k : Int) ∧ k ≤ 4 ∧ St W (row T63 64 5 s.1 ((valsD x).take (k + 1)) :: row (tInt .i64) 2 1 ⟨some ⟨b13, 0, none⟩, 4, 4⟩ [x.T_, x.ID, x.Account, x.N] :: l) w) (fun s => (4 - s.2).toNat) ⟨0, rfl, by omega, ((H.front 2).drop).front 1⟩ ?_
  clear H
  rintro ⟨s, t⟩ w ⟨k, hk, hk4, H⟩ K hK
  simp only at hk H
  subst hk
  unfold F8_l2
  simp only
  split
  ·rename_i hc
   have hc : k < 4 := by
    have : (k : Int) < 4 := by simpa using hc
    omega
   have e1 : IntKind.i64.wrap ((k : Int) + 1) = ((k + 1 : Nat) : Int) := by rw [wrap_i64 (by omega) (by omega)]; omega
   obtain ⟨a19, ha⟩ := row_ix (i := (k : Int)) (H.front 1) (by omega) (by simp; omega)
   refine ex_i a19 ha ?_
   have step : ∀ (n : Int), [x.T_, x.ID, x.Account, x.N][k]? = some n → (valsD x).take (k + 1 + 1) = (valsD x).take (k + 1) ++ [⟨2, 0, n, 0, []⟩] := by
    intro n hn
    have h5 : k + 1 < (valsD x).length := by simp [valsD]; omega
    rw [List.take_succ_eq_append_getElem h5]
    congr 2
    match k, hc with
    | 0, _ => simp at hn; subst hn; rfl
    | 1, _ => simp at hn; subst hn; rfl
    | 2, _ => simp at hn; subst hn; rfl
    | 3, _ => simp at hn; subst hn; rfl
   have hx : [x.T_, x.ID, x.Account, x.N][((k : Int)).toNat]? = some ([x.T_, x.ID, x.Account, x.N][k]'(by simp; omega)) := List.getElem?_eq_getElem (by simp; omega)
   have hs := step _ hx
   generalize [x.T_, x.ID, x.Account, x.N][k]'(by simp; omega) = n at hx hs
   refine ex_i n (rd_row (fun _ => rfl) ha hx (H.front 1)) ?_
   refine apl_row lenV5 0 H rfl (by simp; omega) fun r w H => ?_
   rw [e1]
   refine hK _ _ ⟨k + 1, rfl, by omega, ?_⟩ (by simp only; omega)
   simp only
   rw [hs]
   exact H
  ·rename_i hc
   have hc : k = 4 := by simp at hc; omega
   subst hc
   refine apl_row lenV5 0 H rfl (by simp; omega) fun r w H => ?_
   have e : (valsD x).take (4 + 1) ++ [⟨1, flag x.Pays, 0, 0, []⟩] = valsD x := rfl
   rw [e] at H
   have F := fine_valsD hx
   refine cl_mono (pack_spec F.dom (by simp [valsD]) (See.row (fun _ => rfl) 0 rfl) H) ?_
   rintro r w ⟨_, h2, _, _⟩
   have hp : packE (valsD x) = 0 := by
    unfold packE
    rw [if_neg (by simp [valsD])]
    exact bad_of F.ok
   have H := h2 hp
   exact ((H.front 2).drop.front 1).drop
 cases hp : x.Pays with
 | true => rw [if_pos rfl]; exact j1 1 w (by rw [hp]; rfl) H
 | false => rw [if_neg (by simp)]; exact j1 0 w (by rw [hp]; rfl) H
def Z6 : Deed := ⟨0, 0, 0, 0, 0, false⟩
def deedR (o : Option Deed) : Deed × Bool := match o with
 | some x => (x, true)
 | none => (Z6, false)
theorem kind_spec {k : Int} (H : St W l w) : cl Tryz.prog 29 [.int .i64 k] tBool w fun r w' => r = decide (kindD k) ∧ St W l w' := by
 refine F29_ok ?_
 unfold F29
 refine ⟨?_, H⟩
 rw [Bool.eq_iff_iff, decide_eq_true_eq]
 unfold kindD
 simp
theorem deed_spec {s : Slc} {bs : List UInt8} (hcap : s.len ≤ s.cap) (hn : bs.length ≤ 9223372036854775806) (k : See 1 l (tInt .u8) s (B bs)) (H : St W l w) :
  cl Tryz.prog 9 [tSlc.enc s] (tTup2 TDe tBool) w fun r w' => r = deedR (deedOf bs) ∧ St W l w' := by
 refine F9_ok ?_
 unfold F9
 refine nw_st H fun b2 w H => ?_
 refine cl_mono (unpack_spec hcap hn k.tail H) ?_
 rintro ⟨q, p, e⟩ w ⟨_, he, H⟩
 simp only at he H
 subst he
 have hl := row_len H
 have hcq := row_cap H
 have H := row_stay H
 have hsnd : (unp bs).2.2 = 0 → Fine (unp bs).1 := fun h => (unp_sound h rfl).1
 have hdo : deedOf bs = if (unp bs).2.2 = 0 then ofVals (unp bs).1 else none := rfl
 generalize (unp bs).2.2 = e at *
 generalize (unp bs).1 = m at *
 have no : ∀ (o : Option Deed) (w : World), o = none → St W (ro T63 q m :: cel b2 (TDe.cells Z6) 23 :: l) w → st TDe ⟨b2, 0, none⟩ Z6 w fun w14 => ex (RdAt TDe ⟨b2, 0, none⟩ w14) fun x15 => (x15, false) = deedR o ∧ St W l w14 := by
  intro o w ho H
  subst ho
  refine vst_st (x := Z6) (y := Z6) len23 1 H rfl fun w H => ?_
  refine vld_st (x := Z6) 0 H rfl ?_
  exact ⟨rfl, H.drop.drop⟩
 simp only
 by_cases c : e = 0 ∧ m.length = 6
 ·obtain ⟨c1, c2⟩ := c
  have F := hsnd c1
  rw [if_pos c1] at hdo
  match m, c2 with
  | [a, b, c, d, f, g], _ =>
   simp only [List.length_cons, List.length_nil] at hl
   have ko : Know (ro T63 q [a, b, c, d, f, g] :: cel b2 (TDe.cells Z6) 23 :: l) (RoP T63 q [a, b, c, d, f, g]) := Know.here (m := RoP.mono)
   obtain ⟨a0, h0⟩ := ko.ix (sz := 5) (i := 0) H (by omega) (by simp)
   obtain ⟨a5, h5⟩ := ko.ix (sz := 5) (i := 5) H (by omega) (by simp)
   refine ex_i a0 (fun _ => h0) ?_
   refine ex_i a.Kind (fun _ => ko.fld (U := tInt .i64) lenV5 h0 rfl rfl H) ?_
   refine ex_i a5 (fun _ => h5) ?_
   refine ex_i g.Kind (fun _ => ko.fld (U := tInt .i64) lenV5 h5 rfl rfl H) ?_
   refine ex_i a0 (fun _ => h0) ?_
   refine ex_i a.U (fun _ => ko.fld (U := tInt .u64) lenV5 h0 rfl rfl H) ?_
   refine ex_i a5 (fun _ => h5) ?_
   refine ex_i g.U (fun _ => ko.fld (U := tInt .u64) lenV5 h5 rfl rfl H) ?_
   have hdo : deedOf bs = six a b c d f g := hdo
   by_cases c3 : a.Kind = 1 ∧ g.Kind = 1 ∧ a.U ≤ 6 ∧ g.U ≤ 1
   ·rw [if_neg (by simp [c1, hl, c3])]
    refine sub_st (by omega) (by omega) (by omega) (by omega) fun s16 h16 => ?_
    have ks := ko.sub lenV5 h16 (by simp)
    have es : (([a, b, c, d, f, g] : List Val).take (5 : Int).toNat).drop (1 : Int).toNat = [b, c, d, f] := rfl
    rw [es] at ks
    have hs16 : s16.len = 4 := (sub_at h16).1
    have hbad : ∀ (k : Nat) (v : Val), [b, c, d, f][k]? = some v → v.Kind ≠ 2 → deedOf bs = none := by
     intro k v hv hne
     rw [hdo]
     unfold six
     rw [if_neg]
     rintro ⟨_, _, _, _, q1, q2, q3, q4, _⟩
     match k, hv with
     | 0, hv => simp at hv; subst hv; exact hne q1
     | 1, hv => simp at hv; subst hv; exact hne q2
     | 2, hv => simp at hv; subst hv; exact hne q3
     | 3, hv => simp at hv; subst hv; exact hne q4
     | k + 4, hv => simp at hv
    refine lp_p (fun t w => ∃ k : Nat, t = (k : Int) ∧ k ≤ 4 ∧ (∀ (j : Nat) (v : Val), j < k → [b, c, d, f][j]? = some v → v.Kind = 2) ∧ St W (ro T63 q [a, b, c, d, f, g] :: cel b2 (TDe.cells Z6) 23 :: l) w) (fun t => (4 - t).toNat) ⟨0, rfl, by omega, fun j v hj => by omega, H⟩ ?_
    clear H
    rintro t w ⟨k, rfl, hk4, hkk, H⟩ K hK
    unfold F9_l1
    rw [hs16]
    split
    ·rename_i hc
     have hc : k < 4 := by
      have : (k : Int) < 4 := by simpa using hc
      omega
     have e1 : IntKind.i64.wrap ((k : Int) + 1) = ((k + 1 : Nat) : Int) := by rw [wrap_i64 (by omega) (by omega)]; omega
     obtain ⟨a20, h20⟩ := ks.ix (sz := 5) (i := (k : Int)) H (by omega) (by simp; omega)
     have hx : [b, c, d, f][((k : Int)).toNat]? = some ([b, c, d, f][k]'(by simp; omega)) := List.getElem?_eq_getElem (by simp; omega)
     generalize [b, c, d, f][k]'(by simp; omega) = v at hx
     refine ex_i a20 h20 ?_
     refine ex_i v (ks.rd lenV5 h20 hx H) ?_
     refine nw_st H fun b22 w H => ?_
     refine vst_st (x := Z63) (y := v) len64 0 H rfl fun w H => ?_
     refine ld_st (x := v.Kind) 0 H rfl rfl rfl ?_
     by_cases c4 : v.Kind = 2
     ·rw [if_neg (by simp [c4]), e1]
      refine hK _ _ ⟨k + 1, rfl, by omega, fun j u hj hu => ?_, H.drop⟩ (by omega)
      by_cases c5 : j = k
      ·subst c5
       rw [Int.toNat_natCast] at hx
       rw [hx] at hu
       cases hu
       exact c4
      ·exact hkk j u (by omega) hu
     ·rw [if_pos (by simpa using c4)]
      rw [Int.toNat_natCast] at hx
      rw [hbad k v hx c4]
      exact no none w rfl H.drop
    ·rename_i hc
     have hc : k = 4 := by simp at hc; omega
     subst hc
     refine ex_i a0 h0 ?_
     refine ex_i a.U (ko.fld (U := tInt .u64) lenV5 h0 rfl rfl H) ?_
     have ia := F.dom a (by simp)
     have hu0 := ia.u0
     have ew : IntKind.i64.wrap a.U = a.U := wrap_i64 (by omega) (by omega)
     rw [ew]
     refine cl_mono (kind_spec H) ?_
     rintro r w ⟨rfl, H⟩
     by_cases c4 : kindD a.U
     ·rw [decide_eq_true c4, if_neg (by simp : ¬ (!true) = true)]
      refine dr_st H fun w H => ?_
      obtain ⟨a1, h1⟩ := ko.ix (sz := 5) (i := 1) H (by omega) (by simp)
      obtain ⟨a2, h2⟩ := ko.ix (sz := 5) (i := 2) H (by omega) (by simp)
      obtain ⟨a3, h3⟩ := ko.ix (sz := 5) (i := 3) H (by omega) (by simp)
      obtain ⟨a4, h4⟩ := ko.ix (sz := 5) (i := 4) H (by omega) (by simp)
      refine ex_i a0 h0 ?_
      refine ex_i a1 h1 ?_
      refine ex_i a2 h2 ?_
      refine ex_i a3 h3 ?_
      refine ex_i a4 h4 ?_
      refine ex_i a5 h5 ?_
      refine ex_i a.U (ko.fld (U := tInt .u64) lenV5 h0 rfl rfl H) ?_
      refine ex_i b.I (ko.fld (U := tInt .i64) lenV5 h1 rfl rfl H) ?_
      refine ex_i c.I (ko.fld (U := tInt .i64) lenV5 h2 rfl rfl H) ?_
      refine ex_i d.I (ko.fld (U := tInt .i64) lenV5 h3 rfl rfl H) ?_
      refine ex_i f.I (ko.fld (U := tInt .i64) lenV5 h4 rfl rfl H) ?_
      refine ex_i g.U (ko.fld (U := tInt .u64) lenV5 h5 rfl rfl H) ?_
      rw [ew]
      refine vst_st (x := Z6) (y := (⟨a.U, b.I, c.I, d.I, f.I, g.U == 1⟩ : Deed)) len23 1 H rfl fun w H => ?_
      refine vld_st (x := (⟨a.U, b.I, c.I, d.I, f.I, g.U == 1⟩ : Deed)) 0 H rfl ?_
      refine ⟨?_, H.drop.drop⟩
      rw [hdo]
      unfold six
      rw [if_pos ⟨c3.1, c3.2.1, c3.2.2.1, c3.2.2.2, hkk 0 b (by omega) rfl, hkk 1 c (by omega) rfl, hkk 2 d (by omega) rfl, hkk 3 f (by omega) rfl, c4.1⟩]
      rfl
     ·rw [decide_eq_false c4, if_pos (by simp : (!false) = true)]
      refine no _ w ?_ H
      rw [hdo]
      unfold six
      rw [if_neg]
      rintro ⟨_, _, _, _, _, _, _, _, q⟩
      exact c4 ⟨q, c3.2.2.1⟩
   ·rw [if_pos (by
     simp only [Bool.or_eq_true, bne_iff_ne, decide_eq_true_eq]
     apply Classical.byContradiction
     intro hh
     refine c3 ⟨?_, ?_, ?_, ?_⟩
     ·exact Classical.byContradiction fun h => hh (by simp [h])
     ·exact Classical.byContradiction fun h => hh (by simp [h])
     ·exact Classical.byContradiction fun h => hh (.inl (.inr (by omega)))
     ·exact Classical.byContradiction fun h => hh (.inr (by omega)))]
    refine no _ w ?_ H
    rw [hdo]
    unfold six
    rw [if_neg]
    rintro ⟨q1, q2, q3, q4, _⟩
    exact c3 ⟨q1, q2, q3, q4⟩
 ·have hg : ((e != (0 : Int)) || ((q.len : Int) != (6 : Int))) = true := by
   rw [Bool.or_eq_true, bne_iff_ne, bne_iff_ne]
   by_cases h : e = 0
   ·right
    intro h2
    exact c ⟨h, by omega⟩
   ·exact .inl h
  have z : (⟨0, 0, none⟩ : Addr) = ⟨0, 0, none⟩ := rfl
  refine ex_i ⟨0, 0, none⟩ (fun h => absurd h (by simp [hg])) ?_
  refine ex_i 0 (fun h => absurd h (by simp [hg])) ?_
  refine ex_i ⟨0, 0, none⟩ (fun h => absurd h (by simp [hg])) ?_
  refine ex_i 0 (fun h => absurd h (by simp [hg])) ?_
  refine ex_i ⟨0, 0, none⟩ (fun h => absurd h (by simp [hg])) ?_
  refine ex_i 0 (fun h => absurd h (by simp [hg])) ?_
  refine ex_i ⟨0, 0, none⟩ (fun h => absurd h (by simp [hg])) ?_
  refine ex_i 0 (fun h => absurd h (by simp [hg])) ?_
  rw [if_pos (by simp [hg])]
  refine no _ w ?_ H
  rw [hdo]
  by_cases h : e = 0
  ·rw [if_pos h]
   unfold ofVals
   split
   ·exact absurd ⟨h, rfl⟩ c
   ·rfl
  ·rw [if_neg h]
end
end Go.Proofs.YtehclfjjjiiieaaGreat.Shard
namespace Go.Proofs.YtehclfjjjiiieaaGreat.Shard
open Go Go.Proofs.YtehclfjjjiiieaaGreat.Cf Go.Proofs.YtehclfjjjiiieaaGreat.Wire Go.Proofs.YtehclfjjjiiieaaGreat.Disk Go.Proofs.YtehclfjjjiiieaaGreat.Store Go.Proofs.YtehclfjjjiiieaaGreat.Vault Go.Proofs.YtehclfjjjiiieaaGreat.Num
set_option linter.unusedVariables false
set_option linter.unusedSimpArgs false
set_option maxRecDepth 100000
def act3 (v : Va) (k t id : Int) : Va × Int := if k = 3 then commitV v t id else if k = 4 then dropV v id else if k = 5 then closeV v t else pruneV v t
def actV (v : Va) (x : Deed) : Va × Int :=
 if x.Kind = 1 then openV v x.T_ x.Account x.N else if x.Kind = 2 then holdV v x.T_ ⟨x.ID, x.Account, x.N, x.Pays⟩ else act3 v x.Kind x.T_ x.ID
theorem fit3 {v : Va} (F : Fit v) (k t id : Int) : Fit (act3 v k t id).1 := by
 unfold act3
 split
 ·exact F.commit ..
 ·split
  ·exact F.drop ..
  ·split
   ·exact F.close ..
   ·exact F.prune ..
theorem fitA {v : Va} (F : Fit v) {x : Deed} (h : x.ID ≤ 9223372036854775807) : Fit (actV v x).1 := by
 unfold actV
 split
 ·exact F.open ..
 ·split
  ·exact F.hold h
  ·exact fit3 F ..
structure Sh where
 V : Wl
 v : Va
abbrev TSh := T45
def shc (s wb vb : Nat) : Assn := cel s (TSh.cells ⟨some ⟨wb, 0, none⟩, some ⟨vb, 0, none⟩⟩) 46
def shA (s d : Nat) (S : Sh) : Assn := exA fun p : Nat × Nat => sepA [shc s p.1 p.2, walA p.1 d S.V, vaA p.2 S.v]
section
variable {W w : World} {l l' : List Assn}
theorem sh_open {s d : Nat} {S : Sh} (H : St W (shA s d S :: l) w) : ∃ wb vb : Nat, St W (shc s wb vb :: walA wb d S.V :: vaA vb S.v :: l) w := by
 obtain ⟨p, H⟩ := H.ex
 exact ⟨p.1, p.2, H.open_⟩
theorem sh_shut {s d wb vb : Nat} {S : Sh} (H : St W (shc s wb vb :: walA wb d S.V :: vaA vb S.v :: l) w) : St W (shA s d S :: l) w :=
 St.toEx (wb, vb) (St.shut (l' := [shc s wb vb, walA wb d S.V, vaA vb S.v]) H)
theorem at_spec {s wb vb : Nat} {v : Va} {k : Int} (F : Fit v) (H : St W (shc s wb vb :: vaA vb v :: l) w) : cl Tryz.prog 71 [.pointer (some ⟨s, 0, none⟩), .int .i64 k] tFun w fun r w' =>
  ∃ A B C : Assn, St W (A :: B :: C :: shc s wb vb :: vaA vb v :: l) w' ∧ ∀ (w2 : World) (t id : Int), St W (A :: B :: C :: shc s wb vb :: vaA vb v :: l) w2 →
   clw Tryz.prog r [.int .i64 t, .int .i64 id] (tInt .i64) w2 fun e w3 => e = (act3 v k t id).2 ∧ St W (shc s wb vb :: vaA vb (act3 v k t id).1 :: l) w3 := by
 refine F71_ok ?_
 unfold F71
 refine dr_st H fun w H => ?_
 refine nc_st rfl ?_
 refine ld_st (x := some ⟨vb, 0, none⟩) 0 H rfl rfl rfl ?_
 refine ld_st (x := some ⟨vb, 0, none⟩) 0 H rfl rfl rfl ?_
 refine ld_st (x := some ⟨vb, 0, none⟩) 0 H rfl rfl rfl ?_
 generalize hFD : Fv.mk (.func 48) (List.toArray [.pointer (some (⟨vb, 0, none⟩ : Addr))]) (List.toArray []) = FD
 generalize hFS : Fv.mk (.func 49) (List.toArray [.pointer (some (⟨vb, 0, none⟩ : Addr))]) (List.toArray []) = FS
 generalize hFP : Fv.mk (.func 50) (List.toArray [.pointer (some (⟨vb, 0, none⟩ : Addr))]) (List.toArray []) = FP
 have fin : ∀ (bd bs bp : Nat) (w : World), St W (cel bd (tFun.cells FD) 90 :: cel bs (tFun.cells FS) 116 :: cel bp (tFun.cells FP) 116 :: shc s wb vb :: vaA vb v :: l) w →
   F71_j1 (some ⟨s, 0, none⟩) k ⟨bd, 0, none⟩ ⟨bs, 0, none⟩ ⟨bp, 0, none⟩ w fun r w' => ∃ A B C : Assn, St W (A :: B :: C :: shc s wb vb :: vaA vb v :: l) w' ∧ ∀ (w2 : World) (t id : Int), St W (A :: B :: C :: shc s wb vb :: vaA vb v :: l) w2 →
   clw Tryz.prog r [.int .i64 t, .int .i64 id] (tInt .i64) w2 fun e w3 => e = (act3 v k t id).2 ∧ St W (shc s wb vb :: vaA vb (act3 v k t id).1 :: l) w3 := by
  intro bd bs bp w H
  unfold F71_j1
  by_cases c3 : k = 3
  ·rw [if_pos (by simpa using c3)]
   refine nc_st rfl ?_
   refine ld_st (x := some ⟨vb, 0, none⟩) 3 H rfl rfl rfl ?_
   refine ⟨_, _, _, H, fun w2 t id H => ?_⟩
   refine ⟨47, [.pointer (some ⟨vb, 0, none⟩)], [], rfl, ent47, ?_⟩
   have e : act3 v k t id = commitV v t id := by unfold act3; rw [if_pos c3]
   rw [e]
   refine cl_mono (commit_spec F (H.front 4)) ?_
   rintro r w ⟨rfl, H⟩
   exact ⟨rfl, (H.ord [1, 2, 3]).drop.drop.drop.front 1⟩
  ·rw [if_neg (by simpa using c3)]
   by_cases c4 : k = 4
   ·rw [if_pos (by simpa using c4)]
    refine ⟨_, _, _, H, fun w2 t id H => ?_⟩
    refine ⟨110, [], [.pointer (some ⟨bd, 0, none⟩)], rfl, ent110, ?_⟩
    have e : act3 v k t id = dropV v id := by unfold act3; rw [if_neg c3, if_pos c4]
    rw [e]
    refine F110_ok ?_
    unfold F110
    refine vld_st (x := FD) 0 H rfl ?_
    refine ⟨48, [.pointer (some ⟨vb, 0, none⟩)], [], hFD.symm, ent48, ?_⟩
    refine cl_mono (drop_spec (H.front 4)) ?_
    rintro r w ⟨rfl, H⟩
    exact ⟨rfl, (H.ord [1, 2, 3]).drop.drop.drop.front 1⟩
   ·rw [if_neg (by simpa using c4)]
    by_cases c5 : k = 5
    ·rw [if_pos (by simpa using c5)]
     refine ⟨_, _, _, H, fun w2 t id H => ?_⟩
     refine ⟨111, [], [.pointer (some ⟨bs, 0, none⟩)], rfl, ent111, ?_⟩
     have e : act3 v k t id = closeV v t := by unfold act3; rw [if_neg c3, if_neg c4, if_pos c5]
     rw [e]
     refine F111_ok ?_
     unfold F111
     refine vld_st (x := FS) 1 H rfl ?_
     refine ⟨49, [.pointer (some ⟨vb, 0, none⟩)], [], hFS.symm, ent49, ?_⟩
     refine cl_mono (vclose_spec (H.front 4)) ?_
     rintro r w ⟨rfl, H⟩
     exact ⟨rfl, (H.ord [1, 2, 3]).drop.drop.drop.front 1⟩
    ·rw [if_neg (by simpa using c5)]
     refine ⟨_, _, _, H, fun w2 t id H => ?_⟩
     refine ⟨112, [], [.pointer (some ⟨bp, 0, none⟩)], rfl, ent112, ?_⟩
     have e : act3 v k t id = pruneV v t := by unfold act3; rw [if_neg c3, if_neg c4, if_neg c5]
     rw [e]
     refine F112_ok ?_
     unfold F112
     refine vld_st (x := FP) 2 H rfl ?_
     refine ⟨50, [.pointer (some ⟨vb, 0, none⟩)], [], hFP.symm, ent50, ?_⟩
     refine cl_mono (vprune_spec F (H.front 4)) ?_
     rintro r w ⟨rfl, H⟩
     exact ⟨rfl, (H.ord [1, 2, 3]).drop.drop.drop.front 1⟩
 have lenF : ∀ x, (tFun.cells x).length = 1 := fun _ => rfl
 refine ⟨?_, ?_, ?_⟩
 ·refine nw_st H fun bd w H => ?_
  refine ⟨?_, ?_⟩
  ·refine nw_st H fun bs w H => ?_
   refine nw_st H fun bp w H => ?_
   have H := H.ord [2, 1, 0]
   refine vst_st (x := Fv.nil) (y := FD) lenF 0 H rfl fun w H => ?_
   refine ⟨rdat_cel tPtr (H.front 3) rfl rfl, rdat_cel tPtr (H.front 3) rfl rfl, ?_⟩
   refine vst_st (x := Fv.nil) (y := FS) lenF 1 H rfl fun w H => ?_
   refine ⟨rdat_cel tPtr (H.front 3) rfl rfl, ?_⟩
   refine vst_st (x := Fv.nil) (y := FP) lenF 2 H rfl fun w H => ?_
   exact fin bd bs bp w (H.ord [2, 1, 0])
  ·refine nw_st H fun bp w H => ?_
   refine nw_st H fun bs w H => ?_
   have H := H.ord [2, 0, 1]
   refine vst_st (x := Fv.nil) (y := FD) lenF 0 H rfl fun w H => ?_
   refine ⟨rdat_cel tPtr (H.front 3) rfl rfl, rdat_cel tPtr (H.front 3) rfl rfl, ?_⟩
   refine vst_st (x := Fv.nil) (y := FS) lenF 1 H rfl fun w H => ?_
   refine ⟨rdat_cel tPtr (H.front 3) rfl rfl, ?_⟩
   refine vst_st (x := Fv.nil) (y := FP) lenF 2 H rfl fun w H => ?_
   exact fin bd bs bp w (H.ord [2, 1, 0])
 ·refine nw_st H fun bs w H => ?_
  refine ⟨?_, ?_⟩
  ·refine nw_st H fun bd w H => ?_
   refine nw_st H fun bp w H => ?_
   have H := H.ord [1, 2, 0]
   refine vst_st (x := Fv.nil) (y := FD) lenF 0 H rfl fun w H => ?_
   refine ⟨rdat_cel tPtr (H.front 3) rfl rfl, rdat_cel tPtr (H.front 3) rfl rfl, ?_⟩
   refine vst_st (x := Fv.nil) (y := FS) lenF 1 H rfl fun w H => ?_
   refine ⟨rdat_cel tPtr (H.front 3) rfl rfl, ?_⟩
   refine vst_st (x := Fv.nil) (y := FP) lenF 2 H rfl fun w H => ?_
   exact fin bd bs bp w (H.ord [2, 1, 0])
  ·refine nw_st H fun bp w H => ?_
   refine nw_st H fun bd w H => ?_
   have H := H.ord [0, 2, 1]
   refine vst_st (x := Fv.nil) (y := FD) lenF 0 H rfl fun w H => ?_
   refine ⟨rdat_cel tPtr (H.front 3) rfl rfl, rdat_cel tPtr (H.front 3) rfl rfl, ?_⟩
   refine vst_st (x := Fv.nil) (y := FS) lenF 1 H rfl fun w H => ?_
   refine ⟨rdat_cel tPtr (H.front 3) rfl rfl, ?_⟩
   refine vst_st (x := Fv.nil) (y := FP) lenF 2 H rfl fun w H => ?_
   exact fin bd bs bp w (H.ord [2, 1, 0])
 ·refine nw_st H fun bp w H => ?_
  refine ⟨?_, ?_⟩
  ·refine nw_st H fun bd w H => ?_
   refine nw_st H fun bs w H => ?_
   have H := H.ord [1, 0, 2]
   refine vst_st (x := Fv.nil) (y := FD) lenF 0 H rfl fun w H => ?_
   refine ⟨rdat_cel tPtr (H.front 3) rfl rfl, rdat_cel tPtr (H.front 3) rfl rfl, ?_⟩
   refine vst_st (x := Fv.nil) (y := FS) lenF 1 H rfl fun w H => ?_
   refine ⟨rdat_cel tPtr (H.front 3) rfl rfl, ?_⟩
   refine vst_st (x := Fv.nil) (y := FP) lenF 2 H rfl fun w H => ?_
   exact fin bd bs bp w (H.ord [2, 1, 0])
  ·refine nw_st H fun bs w H => ?_
   refine nw_st H fun bd w H => ?_
   have H := H.ord [0, 1, 2]
   refine vst_st (x := Fv.nil) (y := FD) lenF 0 H rfl fun w H => ?_
   refine ⟨rdat_cel tPtr (H.front 3) rfl rfl, rdat_cel tPtr (H.front 3) rfl rfl, ?_⟩
   refine vst_st (x := Fv.nil) (y := FS) lenF 1 H rfl fun w H => ?_
   refine ⟨rdat_cel tPtr (H.front 3) rfl rfl, ?_⟩
   refine vst_st (x := Fv.nil) (y := FP) lenF 2 H rfl fun w H => ?_
   exact fin bd bs bp w (H.ord [2, 1, 0])
theorem done_spec {s wb vb : Nat} {v : Va} {x : Deed} (F : Fit v) (H : St W (shc s wb vb :: vaA vb v :: l) w) : cl Tryz.prog 35 [.pointer (some ⟨s, 0, none⟩), TDe.enc x] (tInt .i64) w fun r w' => r = (actV v x).2 ∧ St W (shc s wb vb :: vaA vb (actV v x).1 :: l) w' := by
 refine F35_ok ?_
 unfold F35 actV
 refine nw_st H fun b3 w H => ?_
 refine ld_st (x := x.Kind) 0 H rfl rfl rfl ?_
 by_cases c1 : x.Kind = 1
 ·rw [if_pos (by simpa using c1), if_pos c1]
  refine dr_st H fun w H => ?_
  refine nc_st rfl ?_
  refine ld_st (x := some ⟨vb, 0, none⟩) 1 H rfl rfl rfl ?_
  refine ld_st (x := x.T_) 0 H rfl rfl rfl ?_
  refine ld_st (x := x.Account) 0 H rfl rfl rfl ?_
  refine ld_st (x := x.N) 0 H rfl rfl rfl ?_
  refine cl_mono (vopen_spec F (H.front 2)) ?_
  rintro r w ⟨rfl, H⟩
  exact ⟨rfl, (H.front 1).drop.front 1⟩
 ·rw [if_neg (by simpa using c1), if_neg c1]
  by_cases c2 : x.Kind = 2
  ·rw [if_pos (by simpa using c2), if_pos c2]
   refine dr_st H fun w H => ?_
   refine nc_st rfl ?_
   refine ld_st (x := some ⟨vb, 0, none⟩) 1 H rfl rfl rfl ?_
   refine ld_st (x := x.T_) 0 H rfl rfl rfl ?_
   refine ld_st (x := x.ID) 0 H rfl rfl rfl ?_
   refine ld_st (x := x.Account) 0 H rfl rfl rfl ?_
   refine ld_st (x := x.N) 0 H rfl rfl rfl ?_
   refine ld_st (x := x.Pays) 0 H rfl rfl rfl ?_
   refine cl_mono (vhold_spec (p := ⟨x.ID, x.Account, x.N, x.Pays⟩) F (H.front 2)) ?_
   rintro r w ⟨rfl, H⟩
   have H := H.front 1
   refine ⟨rdat_cel (tInt .i64) H rfl rfl, rdat_cel (tInt .i64) H rfl rfl, rdat_cel (tInt .i64) H rfl rfl, rdat_cel tBool H rfl rfl, ?_⟩
   exact ⟨rfl, H.drop.front 1⟩
  ·rw [if_neg (by simpa using c2), if_neg c2]
   refine dr_st H fun w H => ?_
   refine ld_st (x := x.Kind) 0 H rfl rfl rfl ?_
   refine ld_st (x := x.T_) 0 H rfl rfl rfl ?_
   refine ld_st (x := x.ID) 0 H rfl rfl rfl ?_
   refine cl_mono (at_spec (k := x.Kind) F (H.ord [1, 2])) ?_
   rintro r w ⟨A, B, C, H, hc⟩
   refine ⟨rdat_cel (tInt .i64) (H.front 5) rfl rfl, rdat_cel (tInt .i64) (H.front 5) rfl rfl, ?_⟩
   refine clw_mono (hc w x.T_ x.ID H) ?_
   rintro e w ⟨rfl, H⟩
   have H := H.front 2
   refine ⟨rdat_cel (tInt .i64) H rfl rfl, ?_⟩
   exact ⟨rfl, H.drop⟩
def doS (D : Dk) (S : Sh) (x : Deed) : Dk × Sh × Int :=
 if kindD x.Kind then
  if (appW D S.V (encD x)).2.2 = 0 then ((appW D S.V (encD x)).1, ⟨(appW D S.V (encD x)).2.1, (actV S.v x).1⟩, (actV S.v x).2)
  else ((appW D S.V (encD x)).1, ⟨(appW D S.V (encD x)).2.1, S.v⟩, (appW D S.V (encD x)).2.2)
 else (D, S, 192)
theorem doc_spec {s d wb vb : Nat} {D : Dk} {S : Sh} {x : Deed} (hok : D.Ok) (F : Fit S.v) (hx : InD x) (H : St W (shc s wb vb :: walA wb d S.V :: vaA vb S.v :: dskA d D :: l) w) :
  cl Tryz.prog 14 [.pointer (some ⟨s, 0, none⟩), TDe.enc x] (tInt .i64) w fun r w' => r = (doS D S x).2.2 ∧ St W (shc s wb vb :: walA wb d (doS D S x).2.1.V :: vaA vb (doS D S x).2.1.v :: dskA d (doS D S x).1 :: l) w' := by
 refine F14_ok ?_
 unfold F14 doS
 refine nw_st H fun b3 w H => ?_
 refine ld_st (x := x.Kind) 0 H rfl rfl rfl ?_
 refine cl_mono (kind_spec H) ?_
 rintro r w ⟨rfl, H⟩
 by_cases c : kindD x.Kind
 ·rw [decide_eq_true c, if_neg (by simp : ¬ (!true) = true), if_pos c]
  refine dr_st H fun w H => ?_
  refine nc_st rfl ?_
  have H := H.ord [1, 2, 3]
  refine ld_st (x := some ⟨wb, 0, none⟩) 0 H rfl rfl rfl ?_
  refine vld_st (x := x) 3 H rfl ?_
  refine cl_mono (load_spec hx H) ?_
  intro r w H
  refine ⟨rdat_cel tPtr (H.front 1) rfl rfl, ?_⟩
  refine cl_mono (appw_spec (x := encD x) hok (by have := encD_len hx; omega) (See.row (fun _ => rfl) 0 rfl) (H.ord [2, 5])) ?_
  rintro e w ⟨rfl, H⟩
  have H := (H.front 2).drop
  generalize appW D S.V (encD x) = q at *
  refine ⟨rdat_cel TDe (H.front 4) rfl (at_all _), ?_⟩
  by_cases c2 : q.2.2 = 0
  ·rw [if_neg (by simp [c2]), if_pos c2]
   refine vld_st (x := x) 4 H rfl ?_
   refine cl_mono (done_spec F (H.ord [2, 3])) ?_
   rintro e w ⟨rfl, H⟩
   exact ⟨rfl, ((H.ord [4, 0, 2, 1]).drop)⟩
  ·rw [if_pos (by simpa using c2), if_neg c2]
   exact ⟨rfl, ((H.ord [4, 2, 0, 3]).drop)⟩
 ·rw [decide_eq_false c, if_pos (by simp : (!false) = true), if_neg c]
  exact ⟨rfl, H.drop⟩
theorem vault_spec {s wb vb : Nat} (H : St W (shc s wb vb :: l) w) : cl Tryz.prog 19 [.pointer (some ⟨s, 0, none⟩)] tPtr w fun r w' => r = some ⟨vb, 0, none⟩ ∧ St W (shc s wb vb :: l) w' := by
 refine F19_ok ?_
 unfold F19
 refine nc_st rfl ?_
 refine ld_st (x := some ⟨vb, 0, none⟩) 0 H rfl rfl rfl ?_
 exact ⟨rfl, H⟩
def playD (v : Va) (xs : List Deed) : Va := xs.foldl (fun v x => (actV v x).1) v
theorem playD_snoc (v : Va) (xs : List Deed) (x : Deed) : playD v (xs ++ [x]) = (actV (playD v xs) x).1 := by unfold playD; rw [List.foldl_append]; rfl
def v00 (f : Nat) : Va := ⟨f, ⟨[], 0, 0⟩, 0, [], [], []⟩
theorem fitP {xs : List Deed} : ∀ {v : Va}, Fit v → (∀ x ∈ xs, x.ID ≤ 9223372036854775807) → Fit (playD v xs) := by
 induction xs with
 | nil => exact fun F _ => F
 | cons x xs ih => exact fun F h => ih (fitA F (h x (List.mem_cons_self ..))) fun y hy => h y (List.mem_cons_of_mem _ hy)
def deedsOf : List (List UInt8) → Option (List Deed)
 | [] => some []
 | b :: bs => match deedOf b with
  | none => none
  | some x => (deedsOf bs).map (x :: ·)
theorem deedsOf_encD : ∀ {xs : List Deed}, (∀ x ∈ xs, InD x ∧ kindD x.Kind) → deedsOf (xs.map encD) = some xs
 | [], _ => rfl
 | x :: xs, h => by
  have h1 := h x (List.mem_cons_self ..)
  simp only [List.map_cons, deedsOf, deedOf_encD h1.1 h1.2, deedsOf_encD fun y hy => h y (List.mem_cons_of_mem _ hy), Option.map_some]
theorem deedsOf_len : ∀ {L : List (List UInt8)} {xs : List Deed}, deedsOf L = some xs → xs.length = L.length
 | [], xs, h => by simp [deedsOf] at h; subst h; rfl
 | b :: L, xs, h => by
  simp only [deedsOf] at h
  split at h
  ·cases h
  ·obtain ⟨ys, hy, rfl⟩ := Option.map_eq_some_iff.1 h
   have := deedsOf_len hy
   simp [this]
theorem deedsOf_at : ∀ {L : List (List UInt8)} {xs : List Deed} {k : Nat} {b : List UInt8} {x : Deed}, deedsOf L = some xs → L[k]? = some b → xs[k]? = some x → deedOf b = some x
 | [], _, _, _, _, _, hb, _ => by simp at hb
 | b0 :: L, xs, k, b, x, h, hb, hx => by
  simp only [deedsOf] at h
  split at h
  ·cases h
  ·rename_i x0 h0
   obtain ⟨ys, hy, rfl⟩ := Option.map_eq_some_iff.1 h
   cases k with
   | zero => simp at hb hx; subst hb; subst hx; exact h0
   | succ k => exact deedsOf_at hy (by simpa using hb) (by simpa using hx)
theorem scan_small (bs : List UInt8) : Small (scan bs).1 := by
 have key : ∀ (f : Nat) (bs : List UInt8) (l : List (List UInt8)) (a : Nat), Small l → Small (scanF f bs l a).1 := by
  intro f
  induction f with
  | zero => intro bs l a h; simpa [scanF] using h
  | succ f ih =>
   intro bs l a h
   simp only [scanF]
   cases ho : opn bs with
   | error e => simpa using h
   | ok p =>
    obtain ⟨x, n⟩ := p
    refine ih _ _ _ fun y hy => ?_
    rcases List.mem_append.1 hy with hy | hy
    ·exact h y hy
    ·rw [List.mem_singleton.1 hy]; exact (opn_ok ho).2.2.2
 exact key _ _ _ _ fun y hy => by cases hy
theorem open_spec {d f : Nat} {D : Dk} {n : Int} {g : Log} {xs : List Deed} (hok : D.Ok) (hr : rateOk f) (h0 : 0 ≤ n) (hdn : D.down = false) (hg : D.logs[n.toNat]? = some g) (hx : deedsOf (scan g.b).1 = some xs) (H : St W (dskA d D :: l) w) :
  cl Tryz.prog 13 [.pointer (some ⟨d, 0, none⟩), .int .i64 n, .float .f64 f] (tTup2 tPtr (tInt .i64)) w fun r w' => ((mendD D n g).2 = 0 → r.2 = 0 ∧ ∃ s : Nat, r.1 = some ⟨s, 0, none⟩ ∧ St W (shA s d ⟨⟨(scan g.b).1.length, (scan g.b).1.length, n, false⟩, playD (v00 f) xs⟩ :: dskA d (mendD D n g).1 :: l) w') ∧
   ((mendD D n g).2 ≠ 0 → r = (none, (mendD D n g).2) ∧ St W (dskA d (mendD D n g).1 :: l) w') := by
 have hf64 : f < 18446744073709551616 := by rcases hr with h | h <;> omega
 refine F13_ok ?_
 unfold F13
 refine cl_mono (rate_spec hf64 H) ?_
 rintro r w ⟨h1, _, H⟩
 have := h1.2 hr
 subst this
 rw [if_neg (by simp)]
 refine cl_mono (openw_spec hok h0 hdn hg H) ?_
 rintro ⟨p, q, e⟩ w ⟨he, h3, h4⟩
 simp only at he h3 h4
 subst he
 by_cases c : (mendD D n g).2 = 0
 ·obtain ⟨wb, qs, hp, H⟩ := h3 c
  subst hp
  rw [if_neg (by simp [c])]
  refine cl_mono (Vault.new_spec hf64 H) ?_
  rintro ⟨p2, e2⟩ w ⟨h5, _⟩
  obtain ⟨_, vb, hp, H⟩ := h5 hr
  simp only at hp
  subst hp
  refine nw_st H fun s w H => ?_
  have hcnt := scan_count g.b
  have hsmall := scan_small g.b
  have hgl := hok.log g (List.mem_of_getElem? hg)
  generalize (scan g.b).1 = L at *
  have hqs : qs.length = L.length := by
   obtain ⟨I, _, hI⟩ := (Know.everI (Know.tail (Know.tail (Know.tail (Know.tail (Know.tail (Know.here (m := LoadsP.mono)))))))) H
   exact hI.1
  have hql := row_len (H.front 4)
  have hxs := deedsOf_len hx
  have hat : ∀ (k : Nat) (b : List UInt8) (x : Deed), L[k]? = some b → xs[k]? = some x → deedOf b = some x := fun k b x => deedsOf_at hx
  have F0 : Fit (v00 f) := Fit.new hr
  refine lp_p (fun t w => ∃ k : Nat, t = (k : Int) ∧ k ≤ L.length ∧ St W (shc s wb vb :: vaA vb (playD (v00 f) (xs.take k)) :: walA wb d ⟨L.length, L.length, n, false⟩ :: dskA d (mendD D n g).1 :: row tSlc 25 1 q qs :: loadsA qs L :: l) w) (fun t => (L.length - t).toNat) ⟨0, rfl, by omega, H⟩ ?_
  clear H
  rintro t w ⟨k, rfl, hk, H⟩ K hK
  unfold F13_l1
  simp only
  rw [hql, hqs]
  split
  ·rename_i hc
   have hc : k < L.length := by
    have : (k : Int) < L.length := by simpa using hc
    omega
   have e1 : IntKind.i64.wrap ((k : Int) + 1) = ((k + 1 : Nat) : Int) := by rw [wrap_i64 (by omega) (by omega)]; omega
   obtain ⟨a15, h15⟩ := row_ix (i := (k : Int)) (H.front 4) (by omega) (by omega)
   have hb : L[k]? = some L[k] := List.getElem?_eq_getElem hc
   have hx1 : xs[k]? = some (xs[k]'(by omega)) := List.getElem?_eq_getElem (by omega)
   have hq1 : qs[((k : Int)).toNat]? = some (qs[k]'(by omega)) := List.getElem?_eq_getElem (by omega)
   have htk : xs.take (k + 1) = xs.take k ++ [xs[k]'(by omega)] := List.take_succ_eq_append_getElem (by omega)
   have hdo := hat k _ _ hb hx1
   have hsm : (L[k]).length ≤ 65536 := hsmall _ (List.getElem_mem _)
   have hk2 : ∀ I, LoadsP qs L I → (qs[k]'(by omega)).len ≤ (qs[k]'(by omega)).cap ∧ RoP (tInt .u8) (qs[k]'(by omega)) (B L[k]) I := fun I hI => hI.2 k _ _ (List.getElem?_eq_getElem (by omega)) hb
   generalize L[k] = b at hb hdo hsm hk2
   generalize xs[k]'(by omega) = x at hx1 hdo htk
   generalize qs[k]'(by omega) = q1 at hq1 hk2
   refine ex_i a15 h15 ?_
   refine ex_i q1 (rd_row (fun _ => rfl) h15 hq1 (H.front 4)) ?_
   have kk : Know (shc s wb vb :: vaA vb (playD (v00 f) (xs.take k)) :: walA wb d ⟨L.length, L.length, n, false⟩ :: dskA d (mendD D n g).1 :: row tSlc 25 1 q qs :: loadsA qs L :: l) (LoadsP qs L) := Know.tail (Know.tail (Know.tail (Know.tail (Know.tail (Know.here (m := LoadsP.mono))))))
   have hcap : q1.len ≤ q1.cap := by
    obtain ⟨I, _, hI⟩ := kk.everI H
    exact (hk2 I hI).1
   refine cl_mono (deed_spec hcap (by omega) (See.ro (fun _ => rfl) (kk.imp fun I hI => (hk2 I hI).2)) H) ?_
   rintro r w ⟨rfl, H⟩
   rw [hdo]
   have hid := (deedOf_sound hdo).1.i.2
   refine nw_st H fun b19 w H => ?_
   refine vst_st (x := Z22) (y := x) len23 0 H rfl fun w H => ?_
   show if (!true) = true then _ else _
   rw [if_neg (by simp)]
   refine vld_st (x := x) 0 H rfl ?_
   have Fk : Fit (playD (v00 f) (xs.take k)) := fitP F0 fun y hy => by
    have hy := List.mem_of_mem_take hy
    obtain ⟨j, hj, rfl⟩ := List.getElem_of_mem hy
    exact (deedOf_sound (hat j _ _ (List.getElem?_eq_getElem (by omega)) (List.getElem?_eq_getElem hj))).1.i.2
   refine cl_mono (done_spec Fk (H.ord [1, 2])) ?_
   rintro e w ⟨_, H⟩
   rw [e1]
   rw [← playD_snoc, ← htk] at H
   exact hK _ _ ⟨k + 1, rfl, by omega, (H.front 2).drop⟩ (by omega)
  ·rename_i hc
   have hc : k = L.length := by
    have : ¬ (k : Int) < L.length := by simpa using hc
    omega
   subst hc
   rw [← hxs, List.take_length] at H
   refine ⟨fun _ => ⟨by trivial, s, rfl, ?_⟩, fun h => absurd c h⟩
   rw [hxs] at H
   have H := sh_shut (S := ⟨⟨L.length, L.length, n, false⟩, playD (v00 f) xs⟩) (H.ord [0, 2, 1])
   exact ((H.front 2).drop.front 2).drop
 ·obtain ⟨hp, H⟩ := h4 c
  subst hp
  rw [if_pos (by simpa using c)]
  exact ⟨fun h => absurd h c, fun _ => ⟨rfl, H⟩⟩
end
end Go.Proofs.YtehclfjjjiiieaaGreat.Shard
namespace Go.Proofs.YtehclfjjjiiieaaGreat.Store
open Go Go.Proofs.YtehclfjjjiiieaaGreat.Cf
set_option linter.unusedVariables false
set_option linter.unusedSimpArgs false
set_option maxRecDepth 100000
theorem keysOf_len {M : Md} (hI : Inv M) : (keysOf M.rows).length ≤ 8192 := by
 have := rise_len (L := keysOf M.rows) (lo := 0) (hi := 8191) (keysOf_ok _).rise fun x hx => by
  obtain ⟨r, hr, e⟩ := vs_ne.1 (((keysOf_ok M.rows).all x).1 hx)
  have := hI.key r hr
  omega
 omega
theorem snap_len {M : Md} {t : Int} (hI : Inv M) : (snapL M t).length ≤ 8192 := by
 unfold snapL
 split
 ·unfold snapK
  exact Nat.le_trans (List.length_filterMap_le _ _) (keysOf_len hI)
 ·exact Nat.zero_le _
theorem ent_eq {x y : S122} (h1 : x.Key = y.Key) (h2 : x.V = y.V) : x = y := by cases x; cases y; simp_all
section
variable {W w : World} {l l' : List Assn}
theorem same_spec {sa sb : Slc} {a b : List S122} (hm : a.length ≤ 1000000) (ka : See 2 l T122 sa a) (kb : See 2 l T122 sb b) (H : St W l w) :
  cl Tryz.prog 45 [tSlc.enc sa, tSlc.enc sb] tBool w fun r w' => (r = true ↔ a = b) ∧ St W l w' := by
 have la := ka.len H
 have lb := kb.len H
 refine F45_ok ?_
 unfold F45
 split
 ·rename_i hne
  have hne : a.length ≠ b.length := by simp at hne; omega
  exact ⟨⟨fun h => (by cases h), fun h => absurd (congrArg List.length h) hne⟩, H⟩
 ·rename_i hne
  have hne : a.length = b.length := by simp at hne; omega
  refine lp_i (fun i w => 0 ≤ i ∧ i ≤ a.length ∧ a.take i.toNat = b.take i.toNat ∧ St W l w) (fun i => (a.length - i).toNat) ⟨Int.le_refl 0, by omega, by simp, H⟩ ?_
  rintro i w ⟨h0, h1, h2, H⟩
  unfold F45_l1
  split
  ·rename_i hc
   have hc : i < a.length := by simp at hc; omega
   have e1 : IntKind.i64.wrap (i + 1) = i + 1 := wrap_i64 (by omega) (by omega)
   have hx : a[i.toNat]? = some a[i.toNat] := List.getElem?_eq_getElem (by omega)
   have hy : b[i.toNat]? = some b[i.toNat] := List.getElem?_eq_getElem (by omega)
   obtain ⟨p, hp⟩ := ka.ix (i := i) H h0 hc
   obtain ⟨q, hq⟩ := kb.ix (i := i) H h0 (by omega)
   have ht : a.take (i.toNat + 1) = a.take i.toNat ++ [a[i.toNat]] := List.take_succ_eq_append_getElem (by omega)
   have ht2 : b.take (i.toNat + 1) = b.take i.toNat ++ [b[i.toNat]] := List.take_succ_eq_append_getElem (by omega)
   generalize a[i.toNat] = x at hx ht
   generalize b[i.toNat] = y at hy ht2
   refine dr_st H fun w1 H => ?_
   refine ex_i p hp ?_
   refine ex_i q hq ?_
   refine ex_i x.Key (ka.fld hp hx rfl H) ?_
   refine ex_i y.Key (kb.fld hq hy rfl H) ?_
   refine ex_i p (fun _ => hp) ?_
   refine ex_i q (fun _ => hq) ?_
   refine ex_i x.V (fun _ => ka.fld hp hx rfl H) ?_
   refine ex_i y.V (fun _ => kb.fld hq hy rfl H) ?_
   split
   ·rename_i hd
    refine ⟨⟨fun h => (by cases h), fun h => ?_⟩, H⟩
    subst h
    rw [hx] at hy; cases hy
    simp at hd
   ·rename_i hd
    rw [e1]
    have hxy : x = y := ent_eq (by simp at hd; exact hd.1) (by simp at hd; exact hd.2)
    refine ⟨⟨by omega, by omega, ?_, H⟩, by omega⟩
    rw [show (i + 1).toNat = i.toNat + 1 from by omega, ht, ht2, h2, hxy]
  ·rename_i hc
   have hc : i = a.length := by simp at hc; omega
   subst hc
   refine ⟨⟨fun _ => ?_, fun _ => rfl⟩, H⟩
   have e1 : a.take ((a.length : Int)).toNat = a := by simp
   have e2 : b.take ((a.length : Int)).toNat = b := by rw [hne]; simp
   rw [e1, e2] at h2; exact h2
end
end Go.Proofs.YtehclfjjjiiieaaGreat.Store
namespace Go.Proofs.YtehclfjjjiiieaaGreat.Shard
open Go Go.Proofs.YtehclfjjjiiieaaGreat.Cf Go.Proofs.YtehclfjjjiiieaaGreat.Wire Go.Proofs.YtehclfjjjiiieaaGreat.Disk Go.Proofs.YtehclfjjjiiieaaGreat.Store Go.Proofs.YtehclfjjjiiieaaGreat.Vault Go.Proofs.YtehclfjjjiiieaaGreat.Num
set_option linter.unusedVariables false
set_option linter.unusedSimpArgs false
set_option maxRecDepth 100000
theorem seeNil {α : Type} {T : Ty α} {sz : Nat} {l : List Assn} : See sz l T nilS [] := fun W l' w H => ⟨rfl, ⟨rfl, rfl⟩, fun i h0 h1 => absurd h1 (by simp only [List.length_nil]; omega)⟩
theorem dropn {W w : World} : ∀ (n : Nat) {l : List Assn}, St W l w → St W (l.drop n) w
 | 0, _, H => H
 | _ + 1, [], H => H
 | n + 1, _ :: _, H => dropn n H.drop
theorem heldL_few {v : Va} (F : Fit v) : (heldL v).length ≤ 5000 := by
 unfold heldL
 rw [List.length_map, (show (sortI (v.held.map (·.1))).Perm (v.held.map (·.1)) from List.mergeSort_perm _ _).length_eq, List.length_map]
 exact held_len F
theorem eqPart (x : S113) : S113.eqb x x = true := by simp [S113.eqb]
def kD (x : Deed) : Bool := decide (kindD x.Kind)
def playU (v : Va) (xs : List Deed) : Va := playD v (xs.filter kD)
theorem playU_snoc (v : Va) (xs : List Deed) (x : Deed) : playU v (xs ++ [x]) = if kindD x.Kind then (actV (playU v xs) x).1 else playU v xs := by
 unfold playU
 rw [List.filter_append]
 by_cases c : kindD x.Kind
 ·rw [if_pos c, List.filter_cons_of_pos (by unfold kD; simpa using c), List.filter_nil, playD_snoc]
 ·rw [if_neg c, List.filter_cons_of_neg (by unfold kD; simpa using c), List.filter_nil, List.append_nil]
theorem fitU {v : Va} {xs : List Deed} (F : Fit v) (h : ∀ x ∈ xs, x.ID ≤ 9223372036854775807) : Fit (playU v xs) := fitP F fun x hx => h x (List.mem_filter.1 hx).1
section
variable {W w : World} {l l' : List Assn}
theorem sameheld_spec {sa sb : Slc} {a : List S150} (ka : See 6 l T150 sa a) (kb : See 6 l T150 sb a) (hm : a.length ≤ 9000000000000000000) (H : St W l w) :
  cl Tryz.prog 41 [tSlc.enc sa, tSlc.enc sb] tBool w fun r w' => r = true ∧ St W l w' := by
 have la := ka.len H
 have lb := kb.len H
 refine F41_ok ?_
 unfold F41
 rw [if_neg (by simp [la, lb])]
 refine lp_i (fun i w => 0 ≤ i ∧ i ≤ a.length ∧ St W l w) (fun i => (a.length - i).toNat) ⟨Int.le_refl 0, by omega, H⟩ ?_
 clear H
 rintro i w ⟨h0, h1, H⟩
 unfold F41_l1
 rw [la]
 split
 ·rename_i hc
  have hc : i < a.length := by simpa using hc
  have e1 : IntKind.i64.wrap (i + 1) = i + 1 := wrap_i64 (by omega) (by omega)
  refine dr_st H fun w H => ?_
  obtain ⟨x1, h1⟩ := ka.ix (i := i) H h0 hc
  obtain ⟨x2, h2⟩ := kb.ix (i := i) H h0 hc
  have hx : a[i.toNat]? = some a[i.toNat] := List.getElem?_eq_getElem (by omega)
  generalize a[i.toNat] = x at hx
  refine ex_i x1 h1 ?_
  refine ex_i x2 h2 ?_
  refine ex_i x.Part (ka.fld (U := T113) h1 hx rfl H) ?_
  refine ex_i x.Part (kb.fld (U := T113) h2 hx rfl H) ?_
  refine ex_i x1 (fun _ => h1) ?_
  refine ex_i x2 (fun _ => h2) ?_
  refine ex_i x.T_ (fun _ => ka.fld (U := tInt .i64) h1 hx rfl H) ?_
  refine ex_i x.T_ (fun _ => kb.fld (U := tInt .i64) h2 hx rfl H) ?_
  refine ex_i x1 (fun _ => h1) ?_
  refine ex_i x2 (fun _ => h2) ?_
  refine ex_i x.Fee (fun _ => ka.fld (U := tInt .i64) h1 hx rfl H) ?_
  refine ex_i x.Fee (fun _ => kb.fld (U := tInt .i64) h2 hx rfl H) ?_
  rw [if_neg (by simp [eqPart]), e1]
  exact ⟨⟨by omega, by omega, H⟩, by omega⟩
 ·exact ⟨rfl, H⟩
theorem alike_spec {x y : Nat} {v : Va} {s : Slc} {xs : List Deed} (F : Fit v) (k : See 6 l TDe s xs) (hm : xs.length ≤ 9000000000000000000) (H : St W (vaA x v :: vaA y v :: l) w) :
  cl Tryz.prog 18 [.pointer (some ⟨x, 0, none⟩), .pointer (some ⟨y, 0, none⟩), tSlc.enc s] tBool w fun r w' => r = true ∧ St W (vaA x v :: vaA y v :: l) w' := by
 refine F18_ok ?_
 unfold F18
 refine dr_st H fun w H => ?_
 rw [if_neg (by simp)]
 obtain ⟨p, H⟩ := va_open H
 obtain ⟨q, H⟩ := va_open (H.ord [5])
 refine cl_mono (topc_spec (H.front 5)) ?_
 rintro r w ⟨rfl, H⟩
 refine cl_mono (topc_spec (H.front 1)) ?_
 rintro r w ⟨rfl, H⟩
 rw [if_neg (by simp)]
 refine nc_st rfl ?_
 refine nc_st rfl ?_
 refine ex_i (⟨some ⟨p.s, 0, none⟩⟩ : S95) (rdat_cel T95 (H.front 1) rfl rfl) ?_
 refine ex_i (⟨some ⟨q.s, 0, none⟩⟩ : S95) (rdat_cel T95 H rfl rfl) ?_
 refine cl_mono (vclosed_spec (H.front 6)) ?_
 rintro r w ⟨rfl, H⟩
 refine ⟨rdat_cel T95 (H.front 1) rfl rfl, ?_⟩
 refine cl_mono (vclosed_spec (H.front 3)) ?_
 rintro r w ⟨rfl, H⟩
 refine ⟨rdat_cel T95 (H.front 3) rfl rfl, ?_⟩
 rw [if_neg (by simp)]
 refine ex_i (⟨some ⟨p.s, 0, none⟩⟩ : S95) (rdat_cel T95 (H.front 3) rfl rfl) ?_
 refine ex_i (⟨some ⟨q.s, 0, none⟩⟩ : S95) (rdat_cel T95 (H.front 2) rfl rfl) ?_
 refine cl_mono (vmark_spec (H.front 1)) ?_
 rintro r w ⟨rfl, H⟩
 refine ⟨rdat_cel T95 (H.front 3) rfl rfl, rdat_cel T95 (H.front 2) rfl rfl, rdat_cel T95 (H.front 2) rfl rfl, ?_⟩
 refine cl_mono (vmark_spec (H.front 1)) ?_
 rintro r w ⟨rfl, H⟩
 refine ⟨rdat_cel T95 (H.front 3) rfl rfl, rdat_cel T95 (H.front 2) rfl rfl, rdat_cel T95 (H.front 3) rfl rfl, ?_⟩
 rw [if_neg (by simp)]
 refine cl_mono (heldc_spec F (H.ord [3, 7])) ?_
 intro r1 w H
 refine ⟨rdat_cel T95 (H.front 1) rfl rfl, rdat_cel T95 (H.front 5) rfl rfl, rdat_cel T95 (H.front 1) rfl rfl, rdat_cel T95 (H.front 5) rfl rfl, ?_⟩
 refine cl_mono (heldc_spec F (H.ord [5, 6])) ?_
 intro r2 w H
 refine ⟨rdat_cel T95 (H.front 4) rfl rfl, rdat_cel T95 (H.front 1) rfl rfl, rdat_cel T95 (H.front 4) rfl rfl, rdat_cel T95 (H.front 1) rfl rfl, ?_⟩
 have hfew := heldL_few F
 refine cl_mono (sameheld_spec (See.row (fun _ => rfl) 3 rfl) (See.row (fun _ => rfl) 0 rfl) (by omega) H) ?_
 rintro r w ⟨rfl, H⟩
 refine ⟨rdat_cel T95 (H.front 4) rfl rfl, rdat_cel T95 (H.front 1) rfl rfl, rdat_cel T95 (H.front 4) rfl rfl, rdat_cel T95 (H.front 1) rfl rfl, ?_⟩
 have H := va_shut (p := p) (H.ord [4, 7, 5, 10, 11])
 have H := va_shut (p := q) (H.ord [2, 5, 3, 6, 7])
 have H := (H.ord [2, 3]).drop.drop
 unfold F18_j1
 rw [if_neg (by simp)]
 have hs := k.tail.tail.len H
 refine lp_i (fun i w => 0 ≤ i ∧ i ≤ xs.length ∧ St W (vaA y v :: vaA x v :: l) w) (fun i => (xs.length - i).toNat) ⟨Int.le_refl 0, by omega, H⟩ ?_
 clear H hfew
 rintro i w ⟨h0, h1, H⟩
 unfold F18_l2
 rw [hs]
 split
 ·rename_i hc
  have hc : i < xs.length := by simpa using hc
  obtain ⟨a, ha⟩ := k.tail.tail.ix (i := i) H h0 hc
  have hx : xs[i.toNat]? = some xs[i.toNat] := List.getElem?_eq_getElem (by omega)
  generalize xs[i.toNat] = z at hx
  refine ex_i a ha ?_
  refine ex_i z.ID (k.tail.tail.fld (U := tInt .i64) ha hx rfl H) ?_
  refine cl_mono (fate_spec (H.front 1)) ?_
  rintro r w ⟨rfl, H⟩
  refine ex_i a ha ?_
  refine ex_i z.ID (k.tail.tail.fld (U := tInt .i64) ha hx rfl H) ?_
  refine cl_mono (fate_spec (H.front 1)) ?_
  rintro r w ⟨rfl, H⟩
  rw [if_neg (by simp)]
  rw [wrap_i64 (by omega) (by omega)]
  exact ⟨⟨by omega, by omega, H⟩, by omega⟩
 ·obtain ⟨q, H⟩ := va_open (H.front 1)
  refine nc_st rfl ?_
  refine ex_i (⟨some ⟨q.s, 0, none⟩⟩ : S95) (rdat_cel T95 H rfl rfl) ?_
  refine cl_mono (vclosed_spec (H.front 1)) ?_
  rintro r w ⟨rfl, H⟩
  have H := va_shut (p := q) (H.ord [1])
  refine cl_mono (vsnap_spec F H) ?_
  rintro r3 w ⟨hr3, H⟩
  obtain ⟨q, H⟩ := va_open (H.front 2)
  refine nc_st rfl ?_
  refine ex_i (⟨some ⟨q.s, 0, none⟩⟩ : S95) (rdat_cel T95 H rfl rfl) ?_
  refine cl_mono (vclosed_spec (H.front 1)) ?_
  rintro r w ⟨rfl, H⟩
  have H := va_shut (p := q) (H.ord [1])
  refine cl_mono (vsnap_spec F H) ?_
  rintro r4 w ⟨hr4, H⟩
  rw [if_pos (by simp [hr3, hr4])]
  refine cl_mono (same_spec (a := snapL v.S v.S.closed) (b := snapL v.S v.S.closed) ?_ (See.row (fun _ => rfl) 2 rfl) (See.row (fun _ => rfl) 0 rfl) H) ?_
  ·have := snap_len (t := v.S.closed) F.sto
   omega
  ·rintro r w ⟨hr, H⟩
   exact ⟨hr.2 rfl, (H.drop.front 1).drop.front 1⟩
theorem vaulted_spec {f : Nat} {s : Slc} {xs : List Deed} (hr : rateOk f) (hi : ∀ x ∈ xs, x.ID ≤ 9223372036854775807) (hm : xs.length ≤ 9000000000000000000) (k : See 6 l TDe s xs) (H : St W l w) :
  cl Tryz.prog 20 [tSlc.enc s, .float .f64 f] tPtr w fun r w' => ∃ b : Nat, r = some ⟨b, 0, none⟩ ∧ St W (vaA b (playU (v00 f) xs) :: l) w' := by
 have hf64 : f < 18446744073709551616 := by rcases hr with h | h <;> omega
 refine F20_ok ?_
 unfold F20
 have hs := k.len H
 refine cl_mono (Vault.new_spec hf64 H) ?_
 rintro ⟨p, e⟩ w ⟨h1, _⟩
 obtain ⟨he, b, hp, H⟩ := h1 hr
 simp only at he hp
 subst he; subst hp
 rw [if_neg (by simp)]
 refine lp_i (fun i w => 0 ≤ i ∧ i ≤ xs.length ∧ St W (vaA b (playU (v00 f) (xs.take i.toNat)) :: l) w) (fun i => (xs.length - i).toNat) ⟨Int.le_refl 0, by omega, H⟩ ?_
 clear H
 rintro i w ⟨h0, h1, H⟩
 have F : Fit (playU (v00 f) (xs.take i.toNat)) := fitU (Fit.new hr) fun y hy => hi y (List.mem_of_mem_take hy)
 unfold F20_l1
 rw [hs]
 split
 ·rename_i hc
  have hc : i < xs.length := by simpa using hc
  have e1 : IntKind.i64.wrap (i + 1) = i + 1 := wrap_i64 (by omega) (by omega)
  obtain ⟨a, ha⟩ := k.tail.ix (i := i) H h0 hc
  have hx : xs[i.toNat]? = some xs[i.toNat] := List.getElem?_eq_getElem (by omega)
  have hpt : playU (v00 f) (xs.take (i + 1).toNat) = if kindD xs[i.toNat].Kind then (actV (playU (v00 f) (xs.take i.toNat)) xs[i.toNat]).1 else playU (v00 f) (xs.take i.toNat) := by
   rw [show (i + 1).toNat = i.toNat + 1 from by omega, List.take_succ_eq_append_getElem (by omega), playU_snoc]
  generalize xs[i.toNat] = x at hx hpt
  generalize playU (v00 f) (xs.take i.toNat) = v at hpt F H
  refine ex_i a ha ?_
  refine ex_i x (k.tail.rd ha hx H) ?_
  refine nw_st H fun b11 w H => ?_
  refine vst_st (x := Z22) (y := x) len23 0 H rfl fun w H => ?_
  have fin : ∀ (w : World), St W (vaA b (if kindD x.Kind then (actV v x).1 else v) :: l) w → F20_j2 i w (fun s w' => (fun (i : Int) w => 0 ≤ i ∧ i ≤ xs.length ∧ St W (vaA b (playU (v00 f) (xs.take i.toNat)) :: l) w) s w' ∧ (fun i : Int => (xs.length - i).toNat) s < (fun i : Int => (xs.length - i).toNat) i) fun r w' => ∃ b : Nat, r = some ⟨b, 0, none⟩ ∧ St W (vaA b (playU (v00 f) xs) :: l) w' := by
   intro w H
   unfold F20_j2
   rw [e1]
   rw [← hpt] at H
   exact ⟨⟨by omega, by omega, H⟩, by simp only; omega⟩
  refine ld_st (x := x.Kind) 0 H rfl rfl rfl ?_
  by_cases c1 : x.Kind = 1
  ·have ek : kindD x.Kind := by unfold kindD; omega
   have ea : actV v x = openV v x.T_ x.Account x.N := by unfold actV; rw [if_pos c1]
   rw [if_pos ek, ea] at fin
   rw [if_pos (by simpa using c1)]
   refine ld_st (x := x.T_) 0 H rfl rfl rfl ?_
   refine ld_st (x := x.Account) 0 H rfl rfl rfl ?_
   refine ld_st (x := x.N) 0 H rfl rfl rfl ?_
   refine cl_mono (vopen_spec F (H.front 1)) ?_
   rintro r w ⟨_, H⟩
   exact fin w (H.front 1).drop
  ·rw [if_neg (by simpa using c1)]
   by_cases c2 : x.Kind = 2
   ·have ek : kindD x.Kind := by unfold kindD; omega
    have ea : actV v x = holdV v x.T_ ⟨x.ID, x.Account, x.N, x.Pays⟩ := by unfold actV; rw [if_neg c1, if_pos c2]
    rw [if_pos ek, ea] at fin
    rw [if_pos (by simpa using c2)]
    refine ld_st (x := x.T_) 0 H rfl rfl rfl ?_
    refine ld_st (x := x.ID) 0 H rfl rfl rfl ?_
    refine ld_st (x := x.Account) 0 H rfl rfl rfl ?_
    refine ld_st (x := x.N) 0 H rfl rfl rfl ?_
    refine ld_st (x := x.Pays) 0 H rfl rfl rfl ?_
    refine cl_mono (vhold_spec (p := ⟨x.ID, x.Account, x.N, x.Pays⟩) F (H.front 1)) ?_
    rintro r w ⟨_, H⟩
    exact fin w (H.front 1).drop
   ·rw [if_neg (by simpa using c2)]
    by_cases c3 : x.Kind = 3
    ·have ek : kindD x.Kind := by unfold kindD; omega
     have ea : actV v x = commitV v x.T_ x.ID := by unfold actV act3; rw [if_neg c1, if_neg c2, if_pos c3]
     rw [if_pos ek, ea] at fin
     rw [if_pos (by simpa using c3)]
     refine ld_st (x := x.T_) 0 H rfl rfl rfl ?_
     refine ld_st (x := x.ID) 0 H rfl rfl rfl ?_
     refine cl_mono (commit_spec F (H.front 1)) ?_
     rintro r w ⟨_, H⟩
     exact fin w (H.front 1).drop
    ·rw [if_neg (by simpa using c3)]
     by_cases c4 : x.Kind = 4
     ·have ek : kindD x.Kind := by unfold kindD; omega
      have ea : actV v x = dropV v x.ID := by unfold actV act3; rw [if_neg c1, if_neg c2, if_neg c3, if_pos c4]
      rw [if_pos ek, ea] at fin
      rw [if_pos (by simpa using c4)]
      refine ld_st (x := x.ID) 0 H rfl rfl rfl ?_
      refine cl_mono (drop_spec (H.front 1)) ?_
      rintro r w ⟨_, H⟩
      exact fin w (H.front 1).drop
     ·rw [if_neg (by simpa using c4)]
      by_cases c5 : x.Kind = 5
      ·have ek : kindD x.Kind := by unfold kindD; omega
       have ea : actV v x = closeV v x.T_ := by unfold actV act3; rw [if_neg c1, if_neg c2, if_neg c3, if_neg c4, if_pos c5]
       rw [if_pos ek, ea] at fin
       rw [if_pos (by simpa using c5)]
       refine ld_st (x := x.T_) 0 H rfl rfl rfl ?_
       refine cl_mono (vclose_spec (H.front 1)) ?_
       rintro r w ⟨_, H⟩
       exact fin w (H.front 1).drop
      ·rw [if_neg (by simpa using c5)]
       by_cases c6 : x.Kind = 6
       ·have ek : kindD x.Kind := by unfold kindD; omega
        have ea : actV v x = pruneV v x.T_ := by unfold actV act3; rw [if_neg c1, if_neg c2, if_neg c3, if_neg c4, if_neg c5]
        rw [if_pos ek, ea] at fin
        rw [if_pos (by simpa using c6)]
        refine ld_st (x := x.T_) 0 H rfl rfl rfl ?_
        refine cl_mono (vprune_spec F (H.front 1)) ?_
        rintro r w ⟨_, H⟩
        exact fin w (H.front 1).drop
       ·have ek : ¬ kindD x.Kind := by unfold kindD; omega
        rw [if_neg ek] at fin
        rw [if_neg (by simpa using c6)]
        exact fin w H.drop
 ·rename_i hc
  have hc : i = xs.length := by
   have : ¬ i < xs.length := by simpa using hc
   omega
  have e : xs.take i.toNat = xs := List.take_of_length_le (by omega)
  rw [e] at H
  exact ⟨b, rfl, H⟩
end
end Go.Proofs.YtehclfjjjiiieaaGreat.Shard
namespace Go.Proofs.YtehclfjjjiiieaaGreat.Shard
open Go Go.Proofs.YtehclfjjjiiieaaGreat.Cf Go.Proofs.YtehclfjjjiiieaaGreat.Wire Go.Proofs.YtehclfjjjiiieaaGreat.Disk Go.Proofs.YtehclfjjjiiieaaGreat.Store Go.Proofs.YtehclfjjjiiieaaGreat.Vault Go.Proofs.YtehclfjjjiiieaaGreat.Num
set_option linter.unusedVariables false
set_option linter.unusedSimpArgs false
set_option maxRecDepth 100000
def logD (xs : List Deed) : List UInt8 := frms (xs.map encD)
def AllD (xs : List Deed) : Prop := ∀ x ∈ xs, InD x ∧ kindD x.Kind
theorem AllD.snoc {xs : List Deed} {x : Deed} (h : AllD xs) (hx : InD x) (hk : kindD x.Kind) : AllD (xs ++ [x]) := by
 intro y hy
 rcases List.mem_append.1 hy with hy | hy
 ·exact h y hy
 ·rw [List.mem_singleton.1 hy]; exact ⟨hx, hk⟩
theorem AllD.take {xs : List Deed} (h : AllD xs) (k : Nat) : AllD (xs.take k) := fun y hy => h y (List.mem_of_mem_take hy)
theorem AllD.id {xs : List Deed} (h : AllD xs) : ∀ x ∈ xs, x.ID ≤ 9223372036854775807 := fun x hx => (h x hx).1.i.2
theorem small_D {xs : List Deed} (h : AllD xs) : Small (xs.map encD) := by
 intro y hy
 obtain ⟨x, hx, rfl⟩ := List.mem_map.1 hy
 have := encD_len (h x hx).1
 omega
theorem logD_snoc (xs : List Deed) (x : Deed) : logD (xs ++ [x]) = logD xs ++ frm (encD x) := by
 unfold logD
 rw [List.map_append, frms_app]
 simp [frms]
theorem logD_len : ∀ {xs : List Deed}, AllD xs → (logD xs).length ≤ 6074 * xs.length
 | [], _ => by simp [logD, frms]
 | x :: xs, h => by
  have h1 := encD_len (h x (List.mem_cons_self ..)).1
  have h2 := logD_len (xs := xs) fun y hy => h y (List.mem_cons_of_mem _ hy)
  have e : logD (x :: xs) = frm (encD x) ++ logD xs := by simp [logD, frms]
  rw [e, List.length_append, frm_len, List.length_cons]
  omega
theorem logD_take (xs : List Deed) (k : Nat) : (xs.map encD).take k = (xs.take k).map encD := by rw [List.map_take]
def shS (f : Nat) (xs : List Deed) (k : Nat) (n : Nat) : Sh := ⟨⟨xs.length, k, n, false⟩, playD (v00 f) xs⟩
structure Lv (D : Dk) (n : Nat) (xs : List Deed) (k : Nat) : Prop where
 ok : D.Ok
 up : D.down = false
 log : D.logs[n]? = some ⟨logD xs, (logD (xs.take k)).length⟩
 all : AllD xs
 le : k ≤ xs.length
 few : xs.length ≤ 600
def nx (D : Dk) (n : Nat) (f : Log → Log) : Dk := { D with armed := if 1 < D.armed then IntKind.i64.wrap (D.armed - 1) else D.armed, acts := IntKind.i64.wrap (D.acts + 1), logs := D.logs.modify n f }
theorem nx_log {D : Dk} {n : Nat} {f : Log → Log} {g : Log} (h : D.logs[n]? = some g) : (nx D n f).logs[n]? = some (f g) := by
 show (D.logs.modify n f)[n]? = _
 rw [List.getElem?_modify, h]
 simp
theorem nx_other {D : Dk} {n m : Nat} {f : Log → Log} (h : m ≠ n) : (nx D n f).logs[m]? = D.logs[m]? := by
 show (D.logs.modify n f)[m]? = _
 rw [List.getElem?_modify]
 cases D.logs[m]? with
 | none => rfl
 | some g =>
  have : ¬ n = m := fun e => h e.symm
  simp [this]
theorem nx_len {D : Dk} {n : Nat} {f : Log → Log} : (nx D n f).logs.length = D.logs.length := by
 show (D.logs.modify n f).length = _
 simp
theorem actD_nx {D : Dk} {n : Nat} {size : Int} {f : Log → Log} (hn : n < D.logs.length) (hd : D.down = false) (hs : size ≤ 4194304) (ha : D.armed ≠ 1) : actD D n size f = (nx D n f, 0) := by
 unfold actD
 rw [if_neg (by omega), if_neg (by simp [hd]), if_neg (by omega), if_neg ha]
 rfl
theorem Lv.lt {D : Dk} {n k : Nat} {xs : List Deed} (L : Lv D n xs k) : n < D.logs.length := (List.getElem?_eq_some_iff.1 L.log).1
theorem Lv.size {D : Dk} {n k : Nat} {xs : List Deed} (L : Lv D n xs k) : Disk.sizeOf D n = (logD xs).length := by
 unfold Disk.sizeOf
 rw [if_pos (by omega), Int.toNat_natCast, L.log]
theorem do_no {D : Dk} {S : Sh} {x : Deed} (h : ¬ kindD x.Kind) : doS D S x = (D, S, 192) := by unfold doS; rw [if_neg h]
theorem app_len {D : Dk} {n k : Nat} {xs : List Deed} {x : Deed} (L : Lv D n xs k) (hx : InD x) (hl : xs.length < 600) : (((frm (encD x)).length + Disk.sizeOf D n : Nat) : Int) ≤ 4194304 := by
 have h1 := logD_len L.all
 have h2 := encD_len hx
 rw [L.size, frm_len]
 omega
theorem nx_ok {D : Dk} {n k : Nat} {xs : List Deed} {x : Deed} (L : Lv D n xs k) (hx : InD x) (hl : xs.length < 600) (ha : D.armed ≠ 1) : (nx D n fun g => ⟨g.b ++ frm (encD x), g.sure⟩).Ok := by
 have e : (actD D n (((frm (encD x)).length + Disk.sizeOf D n : Nat) : Int) fun g => ⟨g.b ++ frm (encD x), g.sure⟩).1 = nx D n fun g => ⟨g.b ++ frm (encD x), g.sure⟩ := by rw [actD_nx L.lt L.up (app_len L hx hl) ha]
 rw [← e]
 refine actD_ok L.ok fun hs g hg => ?_
 have h1 := L.ok.log g (List.mem_of_getElem? hg)
 rw [Int.toNat_natCast, L.log] at hg
 cases hg
 have h2 := logD_len L.all
 have h3 := encD_len hx
 simp only [List.length_append, frm_len] at h1 ⊢
 omega
theorem do_lv {f : Nat} {D : Dk} {n k : Nat} {xs : List Deed} {x : Deed} (L : Lv D n xs k) (hx : InD x) (hk : kindD x.Kind) (hl : xs.length < 600) (ha : D.armed ≠ 1) :
  doS D (shS f xs k n) x = (nx D n fun g => ⟨g.b ++ frm (encD x), g.sure⟩, shS f (xs ++ [x]) k n, (actV (playD (v00 f) xs) x).2) ∧ Lv (nx D n fun g => ⟨g.b ++ frm (encD x), g.sure⟩) n (xs ++ [x]) k := by
 have ho := nx_ok L hx hl ha
 have h1 := app_len L hx hl
 have h2 := encD_len hx
 have e1 : appendD D (n : Int) (frm (encD x)) = (nx D n fun g => ⟨g.b ++ frm (encD x), g.sure⟩, 0) := actD_nx L.lt L.up h1 ha
 have e2 : appW D (shS f xs k n).V (encD x) = (nx D n fun g => ⟨g.b ++ frm (encD x), g.sure⟩, (shS f (xs ++ [x]) k n).V, 0) := by
  unfold appW shS
  simp only
  rw [if_neg (by simp), if_neg (by omega), e1]
  simp only [if_true, List.length_append, List.length_cons, List.length_nil]
  rw [wrap_i64 (by omega) (by omega)]
  simp
 refine ⟨?_, ho, L.up, ?_, L.all.snoc hx hk, ?_, ?_⟩
 ·unfold doS
  rw [if_pos hk, e2, if_pos rfl]
  unfold shS
  rw [playD_snoc]
 ·rw [nx_log L.log, logD_snoc, List.take_append_of_le_length L.le]
 ·have := L.le
  rw [List.length_append]; omega
 ·rw [List.length_append]; simp; omega
theorem syn_lv {D : Dk} {n k : Nat} {xs : List Deed} (L : Lv D n xs k) (ha : D.armed ≠ 1) :
  synW D ⟨xs.length, k, n, false⟩ = (nx D n fun g => ⟨g.b, g.b.length⟩, ⟨xs.length, xs.length, n, false⟩, 0) ∧ Lv (nx D n fun g => ⟨g.b, g.b.length⟩) n xs xs.length := by
 have e1 : syncD D (n : Int) = (nx D n fun g => ⟨g.b, g.b.length⟩, 0) := actD_nx L.lt L.up (by omega) ha
 refine ⟨?_, ?_, L.up, ?_, L.all, Nat.le_refl _, L.few⟩
 ·unfold synW
  simp only
  rw [if_neg (by simp), e1]
  simp
 ·have e : (syncD D (n : Int)).1 = nx D n fun g => ⟨g.b, g.b.length⟩ := by rw [e1]
  rw [← e]
  refine actD_ok L.ok fun hs g hg => ?_
  have h1 := L.ok.log g (List.mem_of_getElem? hg)
  simp only
  omega
 ·rw [nx_log L.log, List.take_length]
theorem mend_lv {D : Dk} {n : Nat} {xs : List Deed} {p : List UInt8} {sure : Nat} (hok : D.Ok) (up : D.down = false) (ha : D.armed = 0) (hlog : D.logs[n]? = some ⟨logD xs ++ p, sure⟩) (hp : ∃ e, opn p = .error e) (all : AllD xs) (few : xs.length ≤ 600) :
  (scan (logD xs ++ p)).1 = xs.map encD ∧ ∃ D2, mendD D n ⟨logD xs ++ p, sure⟩ = (D2, 0) ∧ Lv D2 n xs xs.length ∧ D2.armed = 0 ∧ (∀ m, m ≠ n → D2.logs[m]? = D.logs[m]?) ∧ D2.logs.length = D.logs.length ∧ (p = [] → sure = (logD xs).length → D2 = D) := by
 have hs : scan (logD xs ++ p) = (xs.map encD, (logD xs).length) := scan_frms (small_D all) hp
 have hlt := (List.getElem?_eq_some_iff.1 hlog).1
 have hl := logD_len all
 have hg := hok.log _ (List.mem_of_getElem? hlog)
 simp only [List.length_append] at hg
 refine ⟨by rw [hs], ?_⟩
 unfold mendD
 simp only [hs]
 by_cases c : (logD xs).length < (logD xs ++ p).length
 ·rw [if_pos c]
  have e1 : (logD xs ++ p).take (logD xs).length = logD xs := by simp
  rw [e1]
  have e2 : swapD D (n : Int) (logD xs) = (nx D n fun _ => ⟨logD xs, (logD xs).length⟩, 0) := actD_nx hlt up (by omega) (by omega)
  refine ⟨_, e2, ⟨?_, up, ?_, all, Nat.le_refl _, few⟩, ?_, fun m hm => nx_other hm, nx_len, ?_⟩
  ·have e : (swapD D (n : Int) (logD xs)).1 = nx D n fun _ => ⟨logD xs, (logD xs).length⟩ := by rw [e2]
   rw [← e]
   refine actD_ok hok fun hs g hg => ?_
   simp only
   omega
  ·rw [nx_log hlog, List.take_length]
  ·show (if 1 < D.armed then _ else D.armed) = 0
   rw [if_neg (by omega), ha]
  ·intro h
   rw [h] at c
   simp at c
 ·rw [if_neg c]
  have hp0 : p = [] := by
   rw [List.length_append] at c
   exact List.eq_nil_of_length_eq_zero (by omega)
  subst hp0
  simp only [List.append_nil] at hlog
  by_cases c2 : sure < (logD xs).length
  ·rw [if_pos c2]
   have e2 : syncD D (n : Int) = (nx D n fun g => ⟨g.b, g.b.length⟩, 0) := actD_nx hlt up (by omega) (by omega)
   refine ⟨_, e2, ⟨?_, up, ?_, all, Nat.le_refl _, few⟩, ?_, fun m hm => nx_other hm, nx_len, ?_⟩
   ·have e : (syncD D (n : Int)).1 = nx D n fun g => ⟨g.b, g.b.length⟩ := by rw [e2]
    rw [← e]
    refine actD_ok hok fun hs g hg => ?_
    have h1 := hok.log g (List.mem_of_getElem? hg)
    simp only
    omega
   ·rw [nx_log hlog, List.take_length]
   ·show (if 1 < D.armed then _ else D.armed) = 0
    rw [if_neg (by omega), ha]
   ·intro _ h
    omega
  ·rw [if_neg c2]
   refine ⟨D, rfl, ⟨hok, up, ?_, all, Nat.le_refl _, few⟩, ha, fun m hm => rfl, rfl, fun _ _ => rfl⟩
   simp only [List.length_nil, Nat.add_zero] at hg
   have : sure = (logD xs).length := by omega
   rw [hlog, List.take_length, this]
structure Cut (D : Dk) (n : Nat) (xs : List Deed) (k : Nat) : Prop where
 ok : D.Ok
 off : D.down = true
 arm : D.armed = 0
 log : ∃ i p, k ≤ i ∧ i ≤ xs.length ∧ (∃ e, opn p = .error e) ∧ D.logs[n]? = some ⟨logD (xs.take i) ++ p, (logD (xs.take i) ++ p).length⟩
 all : AllD xs
 few : xs.length ≤ 600
theorem crash_at {D : Dk} {keep : List Int} {n : Nat} {g : Log} (hd : D.down = false) (h : D.logs[n]? = some g) : (crash keep D).logs[n]? = some (cutL keep n g) := by
 unfold crash
 rw [if_neg (by simp [hd])]
 simp [List.getElem?_mapIdx, h]
theorem crash_lv {D : Dk} {n k : Nat} {xs : List Deed} {keep : List Int} (L : Lv D n xs k) : Cut (crash keep D) n xs k := by
 have hg := L.ok.log _ (List.mem_of_getElem? L.log)
 have hkp := kept_le (keep := keep) (i := n) hg.1
 simp only at hkp
 obtain ⟨i, p, h1, h2, h3, h4⟩ := frms_cut (xs.map encD) (kept keep n ⟨logD xs, (logD (xs.take k)).length⟩) (small_D L.all) hkp.2
 have e := crash_at (keep := keep) L.up L.log
 rw [List.length_map] at h1
 rw [logD_take] at h2
 have h5 := h4 k (by rw [logD_take]; exact hkp.1) (by rw [List.length_map]; exact L.le)
 have e1 : (logD xs).take (kept keep n ⟨logD xs, (logD (xs.take k)).length⟩) = logD (xs.take i) ++ p := h2
 refine ⟨crash_ok L.ok, by unfold crash; rw [if_neg (by simp [L.up])], by unfold crash; rw [if_neg (by simp [L.up])], ⟨i, p, h5, h1, h3, ?_⟩, L.all, L.few⟩
 rw [e]
 unfold cutL
 simp only
 rw [e1, ← e1, List.length_take, Nat.min_eq_left hkp.2]
theorem crash_nil {D : Dk} {n k : Nat} {xs : List Deed} (L : Lv D n xs k) : (crash [] D).logs[n]? = some ⟨logD (xs.take k) ++ [], (logD (xs.take k)).length⟩ := by
 rw [crash_at L.up L.log]
 have e : logD xs = logD (xs.take k) ++ logD (xs.drop k) := by
  unfold logD
  rw [← frms_app, ← List.map_append, List.take_append_drop]
 unfold cutL kept
 simp only [List.getElem?_nil, Nat.add_zero, List.append_nil]
 rw [e, List.take_left]
theorem opn_none : ∃ e, opn [] = .error e := ⟨31, rfl⟩
section
variable {W w : World} {l l' : List Assn}
theorem reopen_spec {d f : Nat} {D : Dk} {n : Nat} {xs : List Deed} {p : List UInt8} {sure : Nat} (hr : rateOk f) (hok : D.Ok) (up : D.down = false) (ha : D.armed = 0) (hlog : D.logs[n]? = some ⟨logD xs ++ p, sure⟩) (hp : ∃ e, opn p = .error e) (all : AllD xs) (few : xs.length ≤ 600) (H : St W (dskA d D :: l) w) :
  cl Tryz.prog 13 [.pointer (some ⟨d, 0, none⟩), .int .i64 n, .float .f64 f] (tTup2 tPtr (tInt .i64)) w fun r w' => r.2 = 0 ∧ ∃ s : Nat, r.1 = some ⟨s, 0, none⟩ ∧ ∃ D2, Lv D2 n xs xs.length ∧ D2.armed = 0 ∧ (∀ m, m ≠ n → D2.logs[m]? = D.logs[m]?) ∧ D2.logs.length = D.logs.length ∧ (p = [] → sure = (logD xs).length → D2 = D) ∧ St W (shA s d (shS f xs xs.length n) :: dskA d D2 :: l) w' := by
 obtain ⟨h1, D2, h2, h3, h4, h5, h6, h7⟩ := mend_lv hok up ha hlog hp all few
 refine cl_mono (open_spec (n := (n : Int)) (g := ⟨logD xs ++ p, sure⟩) (xs := xs) hok hr (by omega) up (by rw [Int.toNat_natCast]; exact hlog) (by rw [h1]; exact deedsOf_encD all) H) ?_
 rintro r w ⟨g1, _⟩
 rw [h2, h1] at g1
 obtain ⟨g2, s, g3, H⟩ := g1 rfl
 refine ⟨g2, s, g3, D2, h3, h4, h5, h6, h7, ?_⟩
 have e : shS f xs xs.length n = ⟨⟨(xs.map encD).length, (xs.map encD).length, n, false⟩, playD (v00 f) xs⟩ := by unfold shS; rw [List.length_map]
 rw [e]
 exact H
end
end Go.Proofs.YtehclfjjjiiieaaGreat.Shard
namespace Go.Proofs.YtehclfjjjiiieaaGreat.Shard
open Go Go.Proofs.YtehclfjjjiiieaaGreat.Cf Go.Proofs.YtehclfjjjiiieaaGreat.Wire Go.Proofs.YtehclfjjjiiieaaGreat.Disk Go.Proofs.YtehclfjjjiiieaaGreat.Store Go.Proofs.YtehclfjjjiiieaaGreat.Vault Go.Proofs.YtehclfjjjiiieaaGreat.Num
set_option linter.unusedVariables false
set_option linter.unusedSimpArgs false
set_option maxRecDepth 100000
def D1 : Deed := ⟨1, 1, 0, 7, 1000, false⟩
def D2 : Deed := ⟨5, 5, 0, 0, 0, false⟩
theorem inD1 : InD D1 := ⟨by decide, by decide, by decide, by decide, by decide⟩
theorem inD2 : InD D2 := ⟨by decide, by decide, by decide, by decide, by decide⟩
theorem kD1 : kindD D1.Kind := by decide
theorem kD2 : kindD D2.Kind := by decide
theorem rate0 : rateOk 0 := by unfold rateOk; omega
theorem sa1 : (actV (playD (v00 0) []) D1).2 = 0 := by kernel_rfl
theorem sa2 : (actV (playD (v00 0) [D1]) D1).2 = 152 := by kernel_rfl
theorem sa3 : (actV (playD (v00 0) [D1, D1]) D2).2 = 0 := by kernel_rfl
theorem sa4 : (playD (v00 0) [D1, D1]).top = 1 := by kernel_rfl
theorem sa5 : (openV (playD (v00 0) [D1, D1]) 2 7 1).2 = 154 := by kernel_rfl
theorem fitS {f : Nat} {xs : List Deed} (hr : rateOk f) (h : AllD xs) : Fit (playD (v00 f) xs) := fitP (Fit.new hr) h.id
section
variable {W w : World} {l l' : List Assn}
theorem dol_spec {s d wb vb f n k : Nat} {D : Dk} {xs : List Deed} {x : Deed} (hr : rateOk f) (L : Lv D n xs k) (ha : D.armed ≠ 1) (hl : xs.length < 600) (hx : InD x) (hk : kindD x.Kind)
  (H : St W (shc s wb vb :: walA wb d ⟨xs.length, k, n, false⟩ :: vaA vb (playD (v00 f) xs) :: dskA d D :: l) w) :
  cl Tryz.prog 14 [.pointer (some ⟨s, 0, none⟩), TDe.enc x] (tInt .i64) w fun r w' => r = (actV (playD (v00 f) xs) x).2 ∧ Lv (nx D n fun g => ⟨g.b ++ frm (encD x), g.sure⟩) n (xs ++ [x]) k ∧
   St W (shc s wb vb :: walA wb d ⟨(xs ++ [x]).length, k, n, false⟩ :: vaA vb (playD (v00 f) (xs ++ [x])) :: dskA d (nx D n fun g => ⟨g.b ++ frm (encD x), g.sure⟩) :: l) w' := by
 refine cl_mono (doc_spec (S := shS f xs k n) L.ok (fitS hr L.all) hx H) ?_
 obtain ⟨h1, h2⟩ := do_lv (f := f) L hx hk hl ha
 rw [h1]
 rintro r w ⟨h, H⟩
 exact ⟨h, h2, H⟩
theorem syl_spec {d wb n k : Nat} {D : Dk} {xs : List Deed} (L : Lv D n xs k) (ha : D.armed ≠ 1) (H : St W (walA wb d ⟨xs.length, k, n, false⟩ :: dskA d D :: l) w) :
  cl Tryz.prog 15 [.pointer (some ⟨wb, 0, none⟩)] (tInt .i64) w fun r w' => r = 0 ∧ Lv (nx D n fun g => ⟨g.b, g.b.length⟩) n xs xs.length ∧ St W (walA wb d ⟨xs.length, xs.length, n, false⟩ :: dskA d (nx D n fun g => ⟨g.b, g.b.length⟩) :: l) w' := by
 refine cl_mono (synw_spec L.ok H) ?_
 obtain ⟨h1, h2⟩ := syn_lv L ha
 rw [h1]
 rintro r w ⟨h, H⟩
 exact ⟨h, h2, H⟩
theorem ok1 {n : Nat} (h : n ≤ 16) : (⟨List.replicate n ⟨[], 0⟩, 0, false, 0, []⟩ : Dk).Ok := ⟨by simpa using h, fun g hg => by rw [List.eq_of_mem_replicate hg]; simp⟩
theorem fresh_spec {d f : Nat} {D : Dk} {n : Nat} (hr : rateOk f) (hok : D.Ok) (up : D.down = false) (ha : D.armed = 0) (hlog : D.logs[n]? = some ⟨[], 0⟩) (H : St W (dskA d D :: l) w) :
  cl Tryz.prog 13 [.pointer (some ⟨d, 0, none⟩), .int .i64 n, .float .f64 f] (tTup2 tPtr (tInt .i64)) w fun r w' => r.2 = 0 ∧ ∃ s : Nat, r.1 = some ⟨s, 0, none⟩ ∧ Lv D n [] 0 ∧ ∃ wb vb : Nat, St W (shc s wb vb :: walA wb d ⟨0, 0, n, false⟩ :: vaA vb (v00 f) :: dskA d D :: l) w' := by
 refine cl_mono (reopen_spec (xs := []) (p := []) (sure := 0) hr hok up ha hlog opn_none (by intro x hx; cases hx) (by simp) H) ?_
 rintro r w ⟨h1, s, h2, D2, h3, h4, _, _, h5, H⟩
 have e := h5 rfl rfl
 rw [e] at h3 H
 obtain ⟨wb, vb, H⟩ := sh_open H
 exact ⟨h1, s, h2, h3, wb, vb, H⟩
theorem awake_spec (H : St W l w) : cl Tryz.prog 7 [] tBool w fun r w' => r = true ∧ St W l w' := by
 refine F7_ok ?_
 unfold F7
 refine cl_mono (Disk.new_spec (n := 1) (by omega) (by omega) H) ?_
 rintro ⟨p, e⟩ w ⟨he, d, hp, H⟩
 simp only at he hp
 subst he; subst hp
 refine cl_mono (fresh_spec (n := 0) (f := 0) rate0 (ok1 (n := 1) (by omega)) rfl rfl rfl H) ?_
 rintro ⟨p, e⟩ w ⟨he, s, hp, L0, wb, vb, H⟩
 simp only at he hp
 subst he; subst hp
 rw [if_neg (by simp)]
 refine cl_mono (vault_spec (H.ord [0])) ?_
 rintro r w ⟨rfl, H⟩
 unfold F7_j1
 rw [if_neg (by simp)]
 refine nw_st H fun b7 w H => ?_
 refine vst_st (x := Z22) (y := D1) len23 0 H rfl fun w H => ?_
 refine dr_st H fun w H => ?_
 refine nc_st rfl ?_
 refine vld_st (x := D1) 0 H rfl ?_
 refine vld_st (x := D1) 0 H rfl ?_
 refine ld_st (x := some ⟨wb, 0, none⟩) 1 H rfl rfl rfl ?_
 refine cl_mono (dol_spec (xs := []) (f := 0) (n := 0) (k := 0) rate0 L0 (by simp) (by simp) inD1 kD1 (H.ord [1, 2, 3, 4])) ?_
 rintro r w ⟨hr, L1, H⟩
 rw [sa1] at hr
 subst hr
 refine ⟨rdat_cel TDe (H.front 4) rfl (at_all _), rdat_cel tPtr H rfl rfl, ?_⟩
 refine cl_mono (dol_spec (xs := [D1]) (f := 0) (n := 0) (k := 0) rate0 L1 (by simp [nx]) (by simp) inD1 kD1 H) ?_
 rintro r w ⟨hr, L2, H⟩
 rw [sa2] at hr
 subst hr
 refine ⟨rdat_cel TDe (H.front 4) rfl (at_all _), rdat_cel tPtr H rfl rfl, ?_⟩
 refine cl_mono (syl_spec (xs := [D1, D1]) (n := 0) (k := 0) L2 (by simp [nx]) (H.ord [1, 3])) ?_
 rintro r w ⟨hr, L3, H⟩
 subst hr
 refine ⟨rdat_cel TDe (H.front 4) rfl (at_all _), rdat_cel TDe (H.front 4) rfl (at_all _), ?_⟩
 refine cl_mono (dol_spec (x := D2) (xs := [D1, D1]) (f := 0) (n := 0) (k := 2) rate0 L3 (by simp [nx]) (by simp) inD2 kD2 (H.ord [2, 0, 3, 1])) ?_
 rintro r w ⟨hr, L4, H⟩
 rw [sa3] at hr
 subst hr
 refine ⟨rdat_cel TDe (H.front 4) rfl (at_all _), rdat_cel TDe (H.front 4) rfl (at_all _), rdat_cel tPtr H rfl rfl, ?_⟩
 refine dr_st H fun w H => ?_
 refine ld_st (x := some ⟨wb, 0, none⟩) 0 H rfl rfl rfl ?_
 refine ld_st (x := some ⟨wb, 0, none⟩) 0 H rfl rfl rfl ?_
 refine cl_mono (wlen_spec (H.front 1)) ?_
 rintro r w ⟨rfl, H⟩
 refine ⟨rdat_cel tPtr (H.front 1) rfl rfl, ?_⟩
 refine cl_mono (wsure_spec H) ?_
 rintro r w ⟨rfl, H⟩
 refine ⟨rdat_cel tPtr (H.front 1) rfl rfl, ?_⟩
 have L4 : Lv _ 0 [D1, D1, D2] 2 := L4
 generalize (nx _ 0 _ : Dk) = D at L4 H
 refine cl_mono (crash_spec (keep := []) L4.ok seeNil (H.front 3)) ?_
 intro r w H
 have C := crash_lv (keep := []) L4
 have hc := crash_nil L4
 refine cl_mono (up_spec H) ?_
 intro r w H
 refine cl_mono (reopen_spec (n := 0) (f := 0) (xs := [D1, D1]) (p := []) (sure := (logD [D1, D1]).length) rate0 (D := { crash [] D with down := false }) ⟨C.ok.len, C.ok.log⟩ rfl C.arm hc opn_none (C.all.take 2) (by simp) H) ?_
 rintro ⟨p, e⟩ w ⟨he, t, hp, D2, _, _, _, _, _, H⟩
 simp only at he hp
 subst he; subst hp
 rw [if_neg (by simp)]
 obtain ⟨wc, vc, H⟩ := sh_open H
 refine cl_mono (vault_spec H) ?_
 rintro r w ⟨rfl, H⟩
 unfold F7_j2
 rw [if_neg (by simp), if_pos (by simp)]
 refine nc_st rfl ?_
 refine ld_st (x := some ⟨wc, 0, none⟩) 0 H rfl rfl rfl ?_
 refine cl_mono (wlen_spec (H.front 1)) ?_
 rintro r w ⟨rfl, H⟩
 unfold F7_j3
 rw [if_pos (by simp [shS])]
 refine cl_mono (vault_spec (H.front 1)) ?_
 rintro r w ⟨rfl, H⟩
 refine cl_mono (top_spec (v := playD (v00 0) [D1, D1]) (H.front 2)) ?_
 rintro r w ⟨hr, H⟩
 rw [sa4] at hr
 subst hr
 unfold F7_j4
 rw [if_pos (by simp)]
 refine cl_mono (vault_spec (H.front 1)) ?_
 rintro r w ⟨rfl, H⟩
 refine cl_mono (vopen_spec (v := playD (v00 0) [D1, D1]) (fitS rate0 (C.all.take 2)) (H.front 1)) ?_
 rintro r w ⟨hr, H⟩
 rw [sa5] at hr
 subst hr
 unfold F7_j5
 exact ⟨rfl, H.drop.drop.drop.drop.drop.drop.drop.drop⟩
end
end Go.Proofs.YtehclfjjjiiieaaGreat.Shard
namespace Go.Proofs.YtehclfjjjiiieaaGreat.Shard
open Go Go.Proofs.YtehclfjjjiiieaaGreat Go.Proofs.YtehclfjjjiiieaaGreat.Cf Go.Proofs.YtehclfjjjiiieaaGreat.Wire Go.Proofs.YtehclfjjjiiieaaGreat.Disk Go.Proofs.YtehclfjjjiiieaaGreat.Store Go.Proofs.YtehclfjjjiiieaaGreat.Vault Go.Proofs.YtehclfjjjiiieaaGreat.Num
set_option linter.unusedVariables false
set_option linter.unusedSimpArgs false
set_option maxRecDepth 100000
def pushK (xs : List Deed) (x : Deed) : List Deed := if kindD x.Kind then xs ++ [x] else xs
theorem filter_take {os : List Deed} {i : Nat} {x : Deed} (h : os[i]? = some x) : (os.take (i + 1)).filter kD = pushK ((os.take i).filter kD) x := by
 have hl := (List.getElem?_eq_some_iff.1 h).1
 have e : os.take (i + 1) = os.take i ++ [x] := by
  rw [List.take_succ_eq_append_getElem hl, (List.getElem?_eq_some_iff.1 h).2]
 rw [e, List.filter_append]
 unfold pushK
 by_cases c : kindD x.Kind
 ·rw [if_pos c, List.filter_cons_of_pos (by unfold kD; simpa using c), List.filter_nil]
 ·rw [if_neg c, List.filter_cons_of_neg (by unfold kD; simpa using c), List.filter_nil, List.append_nil]
theorem Lv.other {D D2 : Dk} {n k : Nat} {xs : List Deed} (L : Lv D n xs k) (ok : D2.Ok) (up : D2.down = false) (h : D2.logs[n]? = D.logs[n]?) : Lv D2 n xs k := ⟨ok, up, by rw [h]; exact L.log, L.all, L.le, L.few⟩
section
variable {W w : World} {l l' : List Assn}
theorem doq_spec {s d wb vb f n k : Nat} {D : Dk} {xs : List Deed} {x : Deed} (hr : rateOk f) (L : Lv D n xs k) (ha : D.armed = 0) (hl : xs.length < 600) (hx : InD x)
  (H : St W (shc s wb vb :: walA wb d ⟨xs.length, k, n, false⟩ :: vaA vb (playD (v00 f) xs) :: dskA d D :: l) w) :
  cl Tryz.prog 14 [.pointer (some ⟨s, 0, none⟩), TDe.enc x] (tInt .i64) w fun r w' => ∃ D2, Lv D2 n (pushK xs x) k ∧ D2.armed = 0 ∧ (∀ m, m ≠ n → D2.logs[m]? = D.logs[m]?) ∧
   St W (shc s wb vb :: walA wb d ⟨(pushK xs x).length, k, n, false⟩ :: vaA vb (playD (v00 f) (pushK xs x)) :: dskA d D2 :: l) w' := by
 by_cases hk : kindD x.Kind
 ·refine cl_mono (dol_spec hr L (by omega) hl hx hk H) ?_
  rintro r w ⟨_, L2, H⟩
  have e : pushK xs x = xs ++ [x] := by unfold pushK; rw [if_pos hk]
  rw [e]
  exact ⟨_, L2, by simp [nx, ha], fun m hm => nx_other hm, H⟩
 ·refine cl_mono (doc_spec (S := shS f xs k n) L.ok (fitS hr L.all) hx H) ?_
  rw [do_no hk]
  rintro r w ⟨_, H⟩
  have e : pushK xs x = xs := by unfold pushK; rw [if_neg hk]
  rw [e]
  exact ⟨D, L, ha, fun m hm => rfl, H⟩
end
end Go.Proofs.YtehclfjjjiiieaaGreat.Shard
namespace Go.Proofs.YtehclfjjjiiieaaGreat
open Go Go.Proofs.YtehclfjjjiiieaaGreat.Cf
end Go.Proofs.YtehclfjjjiiieaaGreat
namespace Go.Proofs.YtehclfjjjiiieaaGreat.Shard
open Go Go.Proofs.YtehclfjjjiiieaaGreat Go.Proofs.YtehclfjjjiiieaaGreat.Cf Go.Proofs.YtehclfjjjiiieaaGreat.Wire Go.Proofs.YtehclfjjjiiieaaGreat.Disk Go.Proofs.YtehclfjjjiiieaaGreat.Store Go.Proofs.YtehclfjjjiiieaaGreat.Vault Go.Proofs.YtehclfjjjiiieaaGreat.Num
set_option linter.unusedVariables false
set_option linter.unusedSimpArgs false
set_option maxRecDepth 100000
abbrev RA : Nat := 4576918229304087675
theorem rateA : rateOk RA := .inr (by unfold RA; omega)
theorem take20 {os : List Deed} {n : Nat} (h : n = os.length) : (os.take (min (n : Int) 20).toNat).drop (0 : Int).toNat = os.take 20 := by
 rw [h, show (0 : Int).toNat = 0 from rfl, List.drop_zero]
 rcases Nat.lt_or_ge os.length 20 with h | h
 ·rw [List.take_of_length_le (by omega), List.take_of_length_le (by omega)]
 ·rw [show (min (os.length : Int) 20).toNat = 20 from by omega]
section
variable {W w : World} {l l' : List Assn}
theorem apart_walk (W : World) (s m : Slc) (g1 : G32 W s) (g2 : G32 W m) : cl Tryz.prog 4 [tSlc.enc s, tSlc.enc m] tBool W fun r w' => r = true ∧ RowKit.Below W.heap.size W w' := by
 obtain ⟨⟨hcap, hcap2⟩, os, hI, hro⟩ := g1
 obtain ⟨⟨hcap3, hcap4⟩, more, hJ, hro2⟩ := g2
 have iO : ∀ y ∈ os, InD y := fun y hy => ⟨(hI y hy).1, (hI y hy).2.1, (hI y hy).2.2.1, (hI y hy).2.2.2.1, (hI y hy).2.2.2.2.1⟩
 have iM : ∀ y ∈ more, InD y := fun y hy => ⟨(hJ y hy).1, (hJ y hy).2.1, (hJ y hy).2.2.1, (hJ y hy).2.2.2.1, (hJ y hy).2.2.2.2.1⟩
 have H : St W [ro TDe m more, ro TDe s os, old W] W := (ro_old hro2 ((ro_old hro (St.start W)).front 1)).ord [0, 2, 1]
 generalize hB : ([ro TDe m more, ro TDe s os, old W] : List Assn) = base at *
 have koA : Know base (RoP TDe s os) := by rw [← hB]; exact Know.tail (Know.here (m := RoP.mono))
 have koM : Know base (RoP TDe m more) := by rw [← hB]; exact Know.here (m := RoP.mono)
 have kA : See 6 base TDe s os := See.ro lenD koA
 have kM : See 6 base TDe m more := See.ro lenD koM
 have bel : ∀ w, St W base w → RowKit.Below W.heap.size W w := by
  intro w H
  rw [← hB] at H
  exact H.drop.drop.below
 clear hB
 have hls := kA.len H
 have hlm := kM.len H
 refine F4_ok ?_
 unfold F4
 refine cl_mono (Disk.new_spec (n := 2) (by omega) (by omega) H) ?_
 rintro ⟨p, e⟩ w ⟨he, d, hp, H⟩
 simp only at he hp
 subst he; subst hp
 refine cl_mono (fresh_spec (n := 0) (f := RA) rateA (ok1 (n := 2) (by omega)) rfl rfl rfl H) ?_
 rintro ⟨p, e⟩ w ⟨he, sh, hp, L0, wb, vb, H⟩
 simp only at he hp
 subst he; subst hp
 refine cl_mono (fresh_spec (n := 1) (f := 0) rate0 (ok1 (n := 2) (by omega)) rfl rfl rfl (H.front 3)) ?_
 rintro ⟨p, e⟩ w ⟨he, su, hp, L1, wu, vu, H⟩
 simp only at he hp
 subst he; subst hp
 refine cl_mono (awake_spec H) ?_
 rintro r w ⟨rfl, H⟩
 rw [if_neg (by simp)]
 have L0 : Lv (⟨List.replicate (2 : Int).toNat ⟨[], 0⟩, 0, false, 0, []⟩ : Dk) 0 [] 0 := L0
 have L1 : Lv (⟨List.replicate (2 : Int).toNat ⟨[], 0⟩, 0, false, 0, []⟩ : Dk) 1 [] 0 := L1
 refine lp_p (fun t w => ∃ (D : Dk) (i : Nat), t = (i : Int) ∧ i ≤ 20 ∧ Lv D 0 ((os.take i).filter kD) 0 ∧ Lv D 1 ((more.take i).filter kD) 0 ∧ D.armed = 0 ∧ St W (shc sh wb vb :: walA wb d ⟨((os.take i).filter kD).length, 0, 0, false⟩ :: vaA vb (playD (v00 RA) ((os.take i).filter kD)) :: dskA d D :: shc su wu vu :: walA wu d ⟨((more.take i).filter kD).length, 0, 1, false⟩ :: vaA vu (playD (v00 0) ((more.take i).filter kD)) :: base) w) (fun t => (20 - t).toNat) ⟨_, 0, rfl, by omega, L0, L1, rfl, H.ord [4, 5, 6, 3]⟩ ?_
 clear H L0 L1
 rintro t w ⟨D, i, rfl, hi20, L, M, ha, H⟩ K hK
 unfold F4_l1
 have hxl : ((os.take i).filter kD).length ≤ 20 := Nat.le_trans (List.length_filter_le _ _) (by rw [List.length_take]; omega)
 have hyl : ((more.take i).filter kD).length ≤ 20 := Nat.le_trans (List.length_filter_le _ _) (by rw [List.length_take]; omega)
 split
 ·rename_i hc
  have hc : i < 20 := by
   have : (i : Int) < 20 := by simpa using hc
   omega
  have e1 : IntKind.i64.wrap ((i : Int) + 1) = ((i + 1 : Nat) : Int) := by rw [wrap_i64 (by omega) (by omega)]; omega
  have two : ∀ (D : Dk) (w : World), Lv D 0 ((os.take (i + 1)).filter kD) 0 → Lv D 1 ((more.take i).filter kD) 0 → D.armed = 0 →
    St W (shc sh wb vb :: walA wb d ⟨((os.take (i + 1)).filter kD).length, 0, 0, false⟩ :: vaA vb (playD (v00 RA) ((os.take (i + 1)).filter kD)) :: dskA d D :: shc su wu vu :: walA wu d ⟨((more.take i).filter kD).length, 0, 1, false⟩ :: vaA vu (playD (v00 0) ((more.take i).filter kD)) :: base) w →
    F4_j3 m (some ⟨su, 0, none⟩, 0) (i : Int) w K fun r w' => r = true ∧ RowKit.Below W.heap.size W w' := by
   intro D w L M ha H
   unfold F4_j3 F4_j2
   rw [hlm]
   split
   ·rename_i hc2
    have hc2 : i < more.length := by
     have : (i : Int) < more.length := by simpa using hc2
     omega
    have hft := filter_take (os := more) (i := i) (List.getElem?_eq_getElem hc2)
    have H := H.ord [4, 5, 6, 3]
    have kM7 := kM.app [shc su wu vu, walA wu d ⟨((more.take i).filter kD).length, 0, 1, false⟩, vaA vu (playD (v00 0) ((more.take i).filter kD)), dskA d D, shc sh wb vb, walA wb d ⟨((os.take (i + 1)).filter kD).length, 0, 0, false⟩, vaA vb (playD (v00 RA) ((os.take (i + 1)).filter kD))]
    obtain ⟨a, haI⟩ := kM7.ix (i := (i : Int)) H (by omega) (by omega)
    have hy : more[((i : Int)).toNat]? = some more[i] := by rw [Int.toNat_natCast]; exact List.getElem?_eq_getElem hc2
    have iy := iM _ (List.getElem_mem hc2)
    generalize more[i] = y at hy iy hft
    refine ex_i a haI ?_
    refine ex_i y (kM7.rd haI hy H) ?_
    refine cl_mono (doq_spec (n := 1) (k := 0) rate0 M ha (by omega) iy H) ?_
    rintro r w ⟨D2, M2, ha2, ho, H⟩
    rw [e1]
    rw [← hft] at M2 H
    exact hK _ _ ⟨D2, i + 1, rfl, by omega, L.other M2.ok M2.up (ho 0 (by omega)), M2, ha2, H.ord [4, 5, 6, 3]⟩ (by first | omega | (simp only; omega))
   ·rename_i hc2
    have hc2 : more.length ≤ i := by
     have : ¬ (i : Int) < more.length := by simpa using hc2
     omega
    have e : more.take (i + 1) = more.take i := by rw [List.take_of_length_le hc2, List.take_of_length_le (by omega)]
    rw [e1]
    refine hK _ _ ⟨D, i + 1, rfl, by omega, L, by rw [e]; exact M, ha, by rw [e]; exact H⟩ (by first | omega | (simp only; omega))
  rw [hls]
  split
  ·rename_i hc2
   have hc2 : i < os.length := by
    have : (i : Int) < os.length := by simpa using hc2
    omega
   have hft := filter_take (os := os) (i := i) (List.getElem?_eq_getElem hc2)
   have kA7 := kA.app [shc sh wb vb, walA wb d ⟨((os.take i).filter kD).length, 0, 0, false⟩, vaA vb (playD (v00 RA) ((os.take i).filter kD)), dskA d D, shc su wu vu, walA wu d ⟨((more.take i).filter kD).length, 0, 1, false⟩, vaA vu (playD (v00 0) ((more.take i).filter kD))]
   obtain ⟨a, haI⟩ := kA7.ix (i := (i : Int)) H (by omega) (by omega)
   have hy : os[((i : Int)).toNat]? = some os[i] := by rw [Int.toNat_natCast]; exact List.getElem?_eq_getElem hc2
   have iy := iO _ (List.getElem_mem hc2)
   generalize os[i] = y at hy iy hft
   refine ex_i a haI ?_
   refine ex_i y (kA7.rd haI hy H) ?_
   refine cl_mono (doq_spec (n := 0) (k := 0) rateA L ha (by omega) iy H) ?_
   rintro r w ⟨D2, L2, ha2, ho, H⟩
   rw [← hft] at L2 H
   exact two D2 w L2 (M.other L2.ok L2.up (ho 1 (by omega))) ha2 H
  ·rename_i hc2
   have hc2 : os.length ≤ i := by
    have : ¬ (i : Int) < os.length := by simpa using hc2
    omega
   have e : os.take (i + 1) = os.take i := by rw [List.take_of_length_le hc2, List.take_of_length_le (by omega)]
   exact two D w (by rw [e]; exact L) M ha (by rw [e]; exact H)
 ·rename_i hc
  have hc : i = 20 := by
   have : ¬ (i : Int) < 20 := by simpa using hc
   omega
  subst hc
  clear hK K
  have e0 : playU (v00 RA) (os.take 20) = playD (v00 RA) ((os.take 20).filter kD) := rfl
  generalize (os.take 20).filter kD = xs at *
  generalize (more.take 20).filter kD = ys at *
  refine nc_st rfl ?_
  refine ld_st (x := some ⟨wb, 0, none⟩) 0 H rfl rfl rfl ?_
  refine cl_mono (syl_spec (n := 0) (k := 0) L (by omega) (H.ord [1, 3])) ?_
  rintro r w ⟨rfl, L, H⟩
  have ha : (nx D 0 fun g => ⟨g.b, g.b.length⟩).armed = 0 := by simp [nx, ha]
  have M := M.other L.ok L.up (nx_other (by omega))
  generalize (nx D 0 fun g => ⟨g.b, g.b.length⟩ : Dk) = D at *
  rw [if_neg (by simp)]
  refine cl_mono (crash_spec (keep := []) L.ok seeNil (H.front 1)) ?_
  intro r w H
  have C := crash_lv (keep := []) L
  have c0 := crash_nil L
  have c1 := crash_nil M
  rw [List.take_length] at c0
  generalize crash [] D = D at *
  refine cl_mono (up_spec H) ?_
  intro r w H
  refine cl_mono (reopen_spec (n := 0) (f := RA) (xs := xs) (p := []) (sure := (logD xs).length) rateA (D := { D with down := false }) ⟨C.ok.len, C.ok.log⟩ rfl C.arm c0 opn_none C.all (by omega) H) ?_
  rintro ⟨p, e⟩ w ⟨he, t, hp, D2, L2, ha2, ho2, _, _, H⟩
  simp only at he hp
  subst he; subst hp
  have c1 : D2.logs[1]? = some ⟨logD [] ++ [], (logD []).length⟩ := by
   rw [ho2 1 (by omega)]
   exact c1
  refine cl_mono (reopen_spec (n := 1) (f := 0) (xs := []) (p := []) (sure := (logD []).length) rate0 L2.ok L2.up ha2 c1 opn_none (by intro x hx; cases hx) (by simp) (H.front 1)) ?_
  rintro ⟨p, e⟩ w ⟨he, u, hp, D3, L3, ha3, ho3, _, _, H⟩
  simp only at he hp
  subst he; subst hp
  rw [if_neg (by simp)]
  obtain ⟨wc, vc, H⟩ := sh_open H
  obtain ⟨wt, vt, H⟩ := sh_open (H.front 4)
  refine sub_st (by omega) (by omega) (by omega) (by omega) fun s38 h38 => ?_
  have ks := koA.sub lenD h38 (by omega)
  rw [take20 hls] at ks
  have k38 : See 6 base TDe s38 (os.take 20) := See.ro lenD ks
  have idO : ∀ x ∈ os.take 20, x.ID ≤ 9223372036854775807 := fun x hx => (iO x (List.mem_of_mem_take hx)).i.2
  have hl1 : (os.take 20).length ≤ 20 := by rw [List.length_take]; omega
  have hl2 : (more.take 20).length ≤ 20 := by rw [List.length_take]; omega
  refine dr_st H fun w H => ?_
  refine cl_mono (vault_spec H) ?_
  rintro r w ⟨rfl, H⟩
  refine cl_mono (vaulted_spec (f := RA) rateA idO (by omega) (k38.app [_, _, _, _, _, _, _, _, _, _, _, _, _]) H) ?_
  rintro r w ⟨b1, rfl, H⟩
  rw [e0] at H
  refine cl_mono (alike_spec (x := vt) (y := b1) (v := playD (v00 RA) xs) (xs := os.take 20) (fitS rateA C.all) (k38.app [_, _, _, _, _, _, _, _, _, _, _, _]) (by omega) (H.ord [3, 0])) ?_
  rintro r w ⟨rfl, H⟩
  rw [if_pos rfl]
  refine nc_st rfl ?_
  refine ld_st (x := some ⟨wc, 0, none⟩) 4 H rfl rfl rfl ?_
  refine cl_mono (wlen_spec (H.front 5)) ?_
  rintro r w ⟨rfl, H⟩
  rw [if_pos (by simp [shS])]
  refine sub_st (by omega) (by omega) (by omega) (by omega) fun s54 h54 => ?_
  have ks := koM.sub lenD h54 (by omega)
  rw [take20 hlm] at ks
  have k54 : See 6 base TDe s54 (more.take 20) := See.ro lenD ks
  refine cl_mono (vault_spec (H.ord [5, 6])) ?_
  rintro r w ⟨rfl, H⟩
  refine ⟨rdat_cel tPtr H rfl rfl, ?_⟩
  refine cl_mono (vaulted_spec (f := 0) (xs := []) rate0 (by intro x hx; cases hx) (by simp) seeNil H) ?_
  rintro r w ⟨b2, rfl, H⟩
  refine ⟨rdat_cel tPtr (H.front 1) rfl rfl, ?_⟩
  refine cl_mono (alike_spec (x := vc) (y := b2) (v := playD (v00 0) []) (xs := more.take 20) (fitS rate0 (by intro x hx; cases hx)) (k54.app [_, _, _, _, _, _, _, _, _, _, _, _, _]) (by omega) (H.ord [2, 0])) ?_
  rintro r w ⟨rfl, H⟩
  refine ⟨rdat_cel tPtr (H.front 2) rfl rfl, ?_⟩
  unfold F4_j4
  refine ⟨rfl, bel w ?_⟩
  exact dropn 15 H
end
end Go.Proofs.YtehclfjjjiiieaaGreat.Shard
namespace Go.Proofs.YtehclfjjjiiieaaGreat
open Go Go.Proofs.YtehclfjjjiiieaaGreat.Cf
theorem walkShardApart (W : World) (s m : Slc) (g1 : G32 W s) (g2 : G32 W m) : cl Tryz.prog 4 [tSlc.enc s, tSlc.enc m] tBool W fun r w' => r = true ∧ RowKit.Below W.heap.size W w' := Shard.apart_walk W s m g1 g2
end Go.Proofs.YtehclfjjjiiieaaGreat
