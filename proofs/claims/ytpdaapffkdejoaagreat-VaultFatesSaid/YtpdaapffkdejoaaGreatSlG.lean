/- What is known for ever, wherever it stands among the assertions. -/
import Derived.Test.YtpdaapffkdejoaaGreatSlF
namespace Go.Proofs.YtpdaapffkdejoaaGreat.Cf
set_option linter.unusedSimpArgs false
set_option linter.unusedVariables false
open Go Go.RowKit
section
variable {W w w' : World} {l l' : List Assn} {A B : Assn} {α β : Type} {T : Ty α} {U : Ty β} {φ ψ : PMap → Prop}
/-- These assertions tell so of what stays for ever. -/
def Know (l : List Assn) (φ : PMap → Prop) : Prop := ∀ I h, Seps l I h → φ I
theorem Know.here {m : ∀ {I I' : PMap}, PMap.le I I' → φ I → φ I'} : Know (ever φ m :: l) φ := fun _ _ ⟨_, _, _, _, _, ha, _⟩ => ha
theorem Know.tail (k : Know l φ) : Know (A :: l) φ := fun I _ ⟨_, h2, _, _, _, _, hl⟩ => k I h2 hl
theorem Know.imp (k : Know l φ) (h : ∀ I, φ I → ψ I) : Know l ψ := fun I q hl => h I (k I q hl)
theorem Know.app (k : Know l φ) : ∀ l' : List Assn, Know (l' ++ l) φ
  | [] => k
  | _ :: l' => (Know.app k l').tail
theorem Know.and (k : Know l φ) (k' : Know l ψ) : Know l fun I => φ I ∧ ψ I := fun I q hl => ⟨k I q hl, k' I q hl⟩
theorem St.know {m : ∀ {I I' : PMap}, PMap.le I I' → φ I → φ I'} (k : Know l φ) (H : St W l w) : St W (ever φ m :: l) w :=
  H.imp fun I h hl => ⟨fun _ => none, h, fun _ => .inl rfl, fun _ _ h => (by cases h), PMap.le_refl _, k I h hl, hl⟩
theorem Know.everI (k : Know l φ) (H : St W l w) : ∃ I : PMap, (∀ b o, I b = some o → w.heap[b]? = some o) ∧ φ I := by
  obtain ⟨I, h, a, b, c, hl⟩ := H.mem
  exact ⟨I, b, k I h hl⟩
theorem St.ro {s : Slc} {xs : List α} (k : Know l (RoP T s xs)) (H : St W l w) : St W (ro T s xs :: l) w := H.know (m := RoP.mono) k
theorem Know.len {s : Slc} {xs : List α} (k : Know l (RoP T s xs)) (H : St W l w) : s.len = xs.length := ro_len (H.ro k)
theorem Know.ix {sz : Nat} {s : Slc} {xs : List α} {i : Int} (k : Know l (RoP T s xs)) (H : St W l w) (h0 : 0 ≤ i) (h1 : i < xs.length) : ∃ a, IxA s sz i a := ro_ix (H.ro k) h0 h1
theorem Know.rd {sz : Nat} {s : Slc} {xs : List α} {i : Int} {a : Addr} {x : α} (k : Know l (RoP T s xs)) (hl : ∀ x, (T.cells x).length = sz) (ha : IxA s sz i a) (hx : xs[i.toNat]? = some x) (H : St W l w) : Rd w a (T.cells x) := rd_ro hl ha hx (H.ro k)
theorem Know.fld {sz o : Nat} {s : Slc} {xs : List α} {i : Int} {a : Addr} {x : α} {y : β} (k : Know l (RoP T s xs)) (hl : ∀ x, (T.cells x).length = sz) (ha : IxA s sz i a) (hx : xs[i.toNat]? = some x) (hs : at_ (T.cells x) o (U.cells y).length = U.cells y)
    (H : St W l w) : RdAt U (a.add o) w y := fld_ro hl ha hx hs (H.ro k)
theorem Know.rdS {s : Slc} {xs : List α} (k : Know l (RoP T s xs)) (H : St W l w) : RdS T w s xs := RdO_ro (H.ro k)
theorem RoP.nil : RoP T nilS [] = fun _ => True := by funext I; simp [RoP, nilS]
theorem Know.nil : Know l (RoP T nilS []) := fun _ _ _ => ⟨rfl, .inl rfl⟩
theorem Know.below (k : Know l fun I => PMap.le (fun b => W.heap[b]?) I) (H : St W l w) : Below W.heap.size W w := St.below (H.know (m := fun h k => PMap.le_trans k h) k)
theorem Know.old {s : Slc} {xs : List α} (k : Know l fun I => PMap.le (fun b => W.heap[b]?) I) (h : RoP T s xs fun b => W.heap[b]?) : Know l (RoP T s xs) := k.imp fun _ hI => RoP.mono hI h
end
end Go.Proofs.YtpdaapffkdejoaaGreat.Cf
