/- maps.DeleteFunc at a map of whole numbers: the entries that the predicate names are gone. -/
import Derived.Test.YtleehieomicicaaIt
import Derived.Test.YtleehieomicicaaIt3
import Derived.Test.YtleehieomicicaaSlG
import Derived.Test.YtleehieomicicaaFs
namespace Go.Proofs.Ytleehieomicicaa.Cf
set_option linter.unusedSimpArgs false
set_option linter.unusedVariables false
open Go Go.RowKit Go.Maps Go.Sort Go.Shelf Go.WideElems
section
variable {W w w' : World} {l : List Assn}
abbrev I64 (x : Int) : Prop := -9223372036854775808 ≤ x ∧ x ≤ 9223372036854775807
theorem int_wf {x : Int} (h : I64 x) : (Lit.int .i64 x).wf = true := by
  show (decide (IntKind.min .i64 ≤ x) && decide (x ≤ IntKind.max .i64)) = true
  rw [decide_eq_true (show IntKind.min .i64 ≤ x from h.1), decide_eq_true (show x ≤ IntKind.max .i64 from h.2)]; rfl
def encP (p : Int × Int) : Lit × DataW Unit := (.int .i64 p.1, .lit (.int .i64 p.2))
theorem encP_inj {p q : Int × Int} (h : encP p = encP q) : p = q := by
  obtain ⟨a, b⟩ := p
  obtain ⟨c, d⟩ := q
  simp only [encP, Prod.mk.injEq, Lit.int.injEq, DataW.lit.injEq, true_and] at h
  rw [h.1, h.2]
theorem owns_val {k e : TypeId} {r : Nat} {es : List (Int × Int)} {arr : Array MapEntry} {c : Nat} (hk : Try.prog.underlying k = some (.int .i64)) (he : Try.prog.underlying e = some (.int .i64)) (hr : ∀ p ∈ es, I64 p.1 ∧ I64 p.2) (hm : es.length ≤ 9223372036854775807)
    (h1 : Reps (tInt .i64) .i64 arr es) (hb : Born arr c) (h2 : (es.map (·.1)).Nodup) (hh : w.heap[r]? = some (.map arr c)) :
    ∃ L, w.ownsMap Try.prog k (plainElem (H := Unit) Try.prog e) r arr.size (.map L) ∧ L.Perm (es.map encP) := by
  have hkeys : arr.toList.map (·.key) = es.map fun p => Value.int .i64 p.1 := by
    have := congrArg (List.map Prod.fst) h1
    simpa [List.map_map, Function.comp_def] using this
  have hlen : arr.size = es.length := by have := congrArg List.length hkeys; simpa using this
  have one : ∀ p ∈ es, ((keyOf Try.prog k (Value.int .i64 p.1)).bind fun key => (plainElem (H := Unit) Try.prog e (Value.int .i64 p.2)).map fun y => (key, y.1)) = some (encP p) := by
    intro p hp
    rw [Maps.keyOf_int_mk hk (int_wf (hr p hp).1), plainElem_int he (int_wf (hr p hp).2)]; rfl
  have hrd : ∀ x ∈ arr.toList, ∃ p ∈ es, x.key = .int .i64 p.1 ∧ WideElems.rd (H := Unit) Try.prog k (plainElem Try.prog e) x = some (encP p) := by
    intro x hx
    have : (x.key, x.val) ∈ arr.toList.map (fun e => (e.key, e.val)) := List.mem_map.2 ⟨x, hx, rfl⟩
    rw [h1] at this
    obtain ⟨p, hp, e1⟩ := List.mem_map.1 this
    have e2 : x.key = .int .i64 p.1 := (congrArg Prod.fst e1).symm
    have e3 : x.val = .int .i64 p.2 := (congrArg Prod.snd e1).symm
    refine ⟨p, hp, e2, ?_⟩
    unfold WideElems.rd
    rw [e2, e3]; exact one p hp
  refine ⟨_, ⟨arr, c, hh, ⟨by rw [hlen]; exact hm, ⟨hb.1, hb.2, ?_⟩, fun x hx => by obtain ⟨p, _, _, h⟩ := hrd x hx; exact ⟨_, h⟩⟩, Nat.le_refl _, rfl⟩, ?_⟩
  · rw [hkeys]
    have e : (es.map fun p => Value.int .i64 p.1) = (es.map (·.1)).map (Value.int .i64) := by simp
    rw [e]
    exact List.Pairwise.map _ (fun a b h e => h (by injection e)) h2
  · refine (foldr_perm _).trans (List.Perm.of_eq ?_)
    have e : arr.toList.map (WideElems.rg (H := Unit) Try.prog k (plainElem Try.prog e)) = (arr.toList.map fun e => (e.key, e.val)).map fun kv => ((keyOf Try.prog k kv.1).bind fun key => (plainElem (H := Unit) Try.prog e kv.2).map fun y => (key, y.1)).getD (.bool false, .nil) := by
      rw [List.map_map]; rfl
    rw [e, h1, List.map_map]
    refine List.map_congr_left fun p hp => ?_
    show (((keyOf Try.prog k (Value.int .i64 p.1)).bind fun key => (plainElem (H := Unit) Try.prog _ (Value.int .i64 p.2)).map fun y => (key, y.1))).getD _ = _
    rw [one p hp]; rfl
theorem owns_back {k e : TypeId} {r n : Nat} {D : DataW Unit} (hk : Try.prog.underlying k = some (.int .i64)) (he : Try.prog.underlying e = some (.int .i64)) (h : w.ownsMap Try.prog k (plainElem (H := Unit) Try.prog e) r n D) :
    ∃ (arr : Array MapEntry) (c : Nat) (es : List (Int × Int)) (L : List (Lit × DataW Unit)), w.heap[r]? = some (.map arr c) ∧ Reps (tInt .i64) .i64 arr es ∧ Born arr c ∧ (es.map (·.1)).Nodup ∧ D = .map L ∧ L.Perm (es.map encP) := by
  obtain ⟨arr, c, hh, hfit, hn, hD⟩ := h
  have hx : ∀ x ∈ arr.toList, x.key = .int .i64 (RowKit.intOf x.key) ∧ x.val = .int .i64 (RowKit.intOf x.val) ∧ WideElems.rd (H := Unit) Try.prog k (plainElem Try.prog e) x = some (encP (RowKit.intOf x.key, RowKit.intOf x.val)) := by
    intro x hx
    obtain ⟨y, hy⟩ := hfit.reads x hx
    have hy0 := hy
    unfold WideElems.rd at hy
    cases hkey : keyOf Try.prog k x.key with
    | none => rw [hkey] at hy; cases hy
    | some kl =>
      obtain ⟨a, ha, hkl, _⟩ := Maps.keyOf_int_inv hk hkey
      rw [hkey] at hy
      cases hval : plainElem (H := Unit) Try.prog e x.val with
      | none => rw [hval] at hy; cases hy
      | some z =>
        obtain ⟨b, hb, hz, _⟩ := plainElem_int_inv he hval
        rw [hval] at hy
        have e2 : (kl, z.1) = y := by simpa using hy
        refine ⟨by rw [ha]; rfl, by rw [hb]; rfl, ?_⟩
        rw [hy0, ← e2, hz, hkl, ha, hb]; rfl
  refine ⟨arr, c, arr.toList.map fun x => (RowKit.intOf x.key, RowKit.intOf x.val), _, hh, ?_, ⟨hfit.stamped.1, hfit.stamped.2.1⟩, ?_, hD, ?_⟩
  · unfold Reps
    rw [List.map_map]
    refine List.map_congr_left fun x hm => ?_
    obtain ⟨h1, h2, _⟩ := hx x hm
    show (x.key, x.val) = (Value.int .i64 (RowKit.intOf x.key), (tInt .i64).enc (RowKit.intOf x.val))
    rw [← h1]
    show (x.key, x.val) = (x.key, Value.int .i64 (RowKit.intOf x.val))
    rw [← h2]
  · have h3 := hfit.stamped.2.2
    have e1 : arr.toList.map (·.key) = (arr.toList.map fun x => RowKit.intOf x.key).map (Value.int .i64) := by
      rw [List.map_map]
      exact List.map_congr_left fun x hm => (hx x hm).1
    rw [e1] at h3
    have e2 : ((arr.toList.map fun x => (RowKit.intOf x.key, RowKit.intOf x.val)).map (·.1)) = arr.toList.map fun x => RowKit.intOf x.key := by rw [List.map_map]; rfl
    rw [e2]
    exact (List.pairwise_map.1 h3).imp fun {a b} h e => h (by rw [e])
  · refine (foldr_perm _).trans (List.Perm.of_eq ?_)
    rw [List.map_map]
    refine List.map_congr_left fun x hm => ?_
    unfold WideElems.rg
    rw [(hx x hm).2.2]; rfl
/-- A block that a call turned, and that alone. -/
theorem St.turned {r : Nat} {o u : Obj} (H : St W (blk r o :: l) w) (hg : w.grownBy w' (some r)) (hu : w'.heap[r]? = some u) : St W (blk r u :: l) w' := by
  have hlt : r < w.heap.size := (Array.getElem?_eq_some_iff.1 H.get).1
  have H1 : St W (blk r u :: l) { w with heap := w.heap.setIfInBounds r u } := H.put rfl rfl rfl rfl
  refine H1.grown ⟨hg.os, hg.tape, hg.output, by simpa using hg.size, fun k hk => ?_⟩
  have hk : k < w.heap.size := by simpa using hk
  show w'.heap[k]? = (w.heap.setIfInBounds r u)[k]?
  rw [Array.getElem?_setIfInBounds]
  by_cases e : r = k
  · subst e; simp [hlt, hu]
  · rw [if_neg e]
    exact hg.block k hk (by simp; exact fun h => e h.symm)
/-- What the predicate says of an entry. -/
def pdOf (pr : Int → Bool) : Lit → DataW Unit → Bool
  | _, .lit (.int _ v) => pr v
  | _, _ => false
theorem filter_enc (pr : Int → Bool) (es : List (Int × Int)) : ((es.map encP).filter fun p => !pdOf pr p.1 p.2) = (es.filter fun p => !pr p.2).map encP := by
  rw [List.filter_map]; rfl
theorem perm_back : ∀ {a b : List (Int × Int)}, (a.map encP).Perm (b.map encP) → a.Perm b := by
  intro a b h
  have inv : ∀ q : List (Int × Int), (q.map encP).map (fun e => ((match e.1 with | .int _ a => a | _ => 0), (match e.2 with | .lit (.int _ a) => a | _ => (0 : Int)))) = q := by
    intro q
    rw [List.map_map]
    conv => rhs; rw [← List.map_id q]
    exact List.map_congr_left fun p _ => rfl
  have := h.map (fun e => ((match e.1 with | .int _ a => a | _ => 0), (match e.2 with | .lit (.int _ a) => a | _ => (0 : Int))))
  rwa [inv, inv] at this
theorem delete_func {r g : Nat} {pr : Int → Bool} {es : List (Int × Int)} (hr : ∀ p ∈ es, I64 p.1 ∧ I64 p.2) (hm : es.length ≤ 1000000) (eg : ∀ args w, (callFunc g args).run Try.prog w = .ok (.enter g args) w)
    (hp : ∀ (W : World) (k v : Int), cl Try.prog g [.int .i64 k, .int .i64 v] tBool W fun q w' => q = pr v ∧ w' = W) (H : St W (mapE (tInt .i64) .i64 r es :: l) w) :
    cl Try.prog 26 [.map (some r), .func (.func g) #[] #[]] tUnit w fun _ w' => ∃ es' : List (Int × Int), es'.Perm (es.filter fun p => !pr p.2) ∧ St W (mapE (tInt .i64) .i64 r es' :: l) w' := by
  obtain ⟨arr, c, h1, hb, h2, H2⟩ := mapE_open H
  obtain ⟨L, hown, hL⟩ := owns_val (k := 3) (e := 2) Try.underlying3 Try.underlying2 hr (by omega) h1 hb h2 H2.get
  have cS := AnyDf.maps_DeleteFunc Try.delA (int_keyed Try.underlying3) (plainElem (H := Unit) Try.prog 2) (pdOf pr) g #[] r arr.size (.map L) w eg hown (by
    intro W' key val kl yd yp hgr hkey hval
    obtain ⟨a, rfl, rfl, _⟩ := Maps.keyOf_int_inv (k := 3) Try.underlying3 hkey
    obtain ⟨b, rfl, hz, _⟩ := plainElem_int_inv (e := 2) Try.underlying2 hval
    cases hz
    refine (calls_of_cl (hp W' a b)).mono ?_
    rintro e w' ⟨q, rfl, rfl, rfl⟩
    exact ⟨rfl, rfl, rfl, rfl, Nat.le_refl _, fun _ _ _ => rfl⟩)
  change Calls Try.prog 26 _ _ _ at cS
  refine cS.mono ?_
  rintro e w' ⟨rfl, hown', hg⟩
  refine ⟨(), rfl, ?_⟩
  obtain ⟨arr', c', es', L', hh', h1', hb', h2', hD', hL'⟩ := owns_back (k := 3) (e := 2) Try.underlying3 Try.underlying2 hown'
  have eL : L' = L.filter fun p => !pdOf pr p.1 p.2 := by
    have : DataW.map (L.filter fun p => !pdOf pr p.1 p.2) = DataW.map L' := hD'
    injection this with this; exact this.symm
  refine ⟨es', perm_back ?_, mapE_shut h1' hb' h2' (H2.turned hg hh')⟩
  rw [← filter_enc]
  exact hL'.symm.trans (by rw [eL]; exact hL.filter _)
end
end Go.Proofs.Ytleehieomicicaa.Cf
