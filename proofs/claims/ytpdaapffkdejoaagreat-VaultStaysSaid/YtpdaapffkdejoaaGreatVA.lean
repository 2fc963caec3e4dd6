/- A vault as the document has it, and what stands in it at every time. -/
import Derived.Test.YtpdaapffkdejoaaGreatKF
import Derived.Test.YtpdaapffkdejoaaGreatNE
namespace Go.Proofs.YtpdaapffkdejoaaGreat.Vault
open Go Go.Proofs.YtpdaapffkdejoaaGreat.Cf Go.Proofs.YtpdaapffkdejoaaGreat.Store Go.Proofs.YtpdaapffkdejoaaGreat.Num
set_option linter.unusedVariables false
set_option linter.unusedSimpArgs false
set_option maxRecDepth 100000
abbrev Part := S52
abbrev Held := S54
abbrev Ft := S69
abbrev Ent := S62
structure Va where
  rate : Nat
  S : Md
  top : Int
  held : List (Int × Held)
  busy : List (Int × Int)
  fates : List (Int × Ft)
def isA (a : Int) : Prop := 0 ≤ a ∧ a < 4096
instance (a : Int) : Decidable (isA a) := by unfold isA; infer_instance
instance (a : Int) : Decidable (okAm a) := by unfold okAm; infer_instance
def nextE (v : Va) (t : Int) : Int := if t < 1 ∨ t > 1125899906842624 then 151 else if t ≤ v.top then 152 else 0
def lastOf (v : Va) (a : Int) : S86 × Bool := lastV (vs v.S.rows a)
def openV (v : Va) (t a n : Int) : Va × Int :=
  if nextE v t ≠ 0 then (v, nextE v t) else if ¬ isA a then (v, 153) else if (lastOf v a).2 = true then (v, 154) else if ¬ okAm n then (v, 155)
  else ({ v with S := putM v.S t [⟨a, n⟩], top := max v.top t }, 0)
def whyV (v : Va) (p : Part) : Int × Int :=
  if p.ID < 1 then (0, 156) else if (v.fates.lookup p.ID).isSome = true then (0, 157) else if 5000 ≤ v.fates.length then (0, 158) else if ¬ isA p.Account then (0, 153)
  else if p.N < 1 ∨ ¬ okAm p.N then (0, 155) else if (lastOf v p.Account).2 = false then (0, 159) else if (v.busy.lookup p.Account).isSome = true then (0, 160)
  else if p.Pays = false then (if okAm (lastOf v p.Account).1.V ∧ (lastOf v p.Account).1.V + p.N ≤ 1000000000000000 then (0, 0) else (0, 162))
  else if (lastOf v p.Account).1.V < p.N + feeF p.N v.rate then (0, 161) else (feeF p.N v.rate, 0)
def heldV (v : Va) (t : Int) (p : Part) (fee : Int) : Va := { v with held := ups p.ID ⟨p, t, fee⟩ v.held, busy := ups p.Account p.ID v.busy, fates := ups p.ID ⟨1, t⟩ v.fates, top := max v.top t }
def holdV (v : Va) (t : Int) (p : Part) : Va × Int :=
  if nextE v t ≠ 0 then (v, nextE v t) else if (whyV v p).2 ≠ 0 then (v, (whyV v p).2) else (heldV v t p (whyV v p).1, 0)
def freeV (v : Va) (h : Held) : Va := { v with held := del h.Part.ID v.held, busy := del h.Part.Account v.busy }
def changeV (v : Va) (h : Held) : List Ent :=
  if h.Part.Pays = false then [⟨h.Part.Account, IntKind.i64.wrap ((lastOf v h.Part.Account).1.V + h.Part.N)⟩]
  else ⟨h.Part.Account, IntKind.i64.wrap (IntKind.i64.wrap ((lastOf v h.Part.Account).1.V - h.Part.N) - h.Fee)⟩ ::
    if h.Fee > 0 then [⟨IntKind.i64.wrap (4096 + h.Part.Account), IntKind.i64.wrap ((lastOf v (IntKind.i64.wrap (4096 + h.Part.Account))).1.V + h.Fee)⟩] else []
def fateV (v : Va) (id : Int) : Ft := (v.fates.lookup id).getD ⟨0, 0⟩
def heldOf (v : Va) (id : Int) : Held := (v.held.lookup id).getD ⟨⟨0, 0, 0, false⟩, 0, 0⟩
def doneV (v : Va) (t id : Int) (h : Held) : Va := { freeV v h with S := putM v.S t (changeV v h), fates := ups id ⟨2, t⟩ v.fates, top := max v.top t }
def commitV (v : Va) (t id : Int) : Va × Int :=
  if t < 1 ∨ t > 1125899906842624 then (v, 151) else if (fateV v id).what = 2 then (if (fateV v id).t_ ≠ t then (v, 157) else (v, 0))
  else if (fateV v id).what = 1 then (if t < (heldOf v id).T_ then (v, 152) else (doneV v t id (heldOf v id), 0)) else (v, 163)
def gone_ (v : Va) (id : Int) : Va := match v.held.lookup id with
  | some h => freeV v h
  | none => v
def dropV (v : Va) (id : Int) : Va × Int :=
  if id < 1 then (v, 156) else if (fateV v id).what = 2 then (v, 157) else if (v.fates.lookup id).isSome = false ∧ 5000 ≤ v.fates.length then (v, 158)
  else ({ gone_ v id with fates := ups id ⟨3, 0⟩ v.fates }, 0)
def closeV (v : Va) (t : Int) : Va × Int :=
  if t < 0 ∨ t > 1125899906842624 then (v, 151) else if v.held.any (fun e => decide (e.2.T_ ≤ t)) = true then (v, 160)
  else ({ v with S := closeM v.S t, top := max v.top t }, 0)
def toldE (e : Int) : Int := if e = 120 then 151 else if e = 128 then 164 else if e = 126 then 165 else if e = 127 then 159 else e
def pruneV (v : Va) (t : Int) : Va × Int := ({ v with S := pruneM v.S t }, toldE (pruneE v.S t))
def hasV (v : Va) (a t : Int) : Int × Int := if ¬ isA a then (0, 153) else ((getM v.S a t).1.V, toldE (getM v.S a t).2)
def heldL (v : Va) : List Held := (sortI (v.held.map (·.1))).map (heldOf v)
theorem ups_len {β : Type} {k : Int} {v : β} (es : List (Int × β)) : (ups k v es).length = if (es.lookup k).isSome = true then es.length else es.length + 1 := by
  have h := congrArg List.length (keys_ups k v es)
  rw [List.length_map] at h
  rw [h]
  split <;> simp
/-- What a held part's account has. -/
def Bal (v : Va) (h : Held) : Prop := vs v.S.rows h.Part.Account ≠ [] ∧ (h.Part.Pays = true → h.Part.N + h.Fee ≤ (lastOf v h.Part.Account).1.V) ∧ (h.Part.Pays = false → okAm (lastOf v h.Part.Account).1.V ∧ (lastOf v h.Part.Account).1.V + h.Part.N ≤ 1000000000000000)
/-- What stands in a vault at every time. -/
structure Fit (v : Va) : Prop where
  sto : Inv v.S
  rate : rateOk v.rate
  ids : ∀ id h, v.held.lookup id = some h → h.Part.ID = id ∧ 1 ≤ id ∧ id ≤ 9223372036854775807 ∧ isA h.Part.Account ∧ v.fates.lookup id = some ⟨1, h.T_⟩ ∧ v.busy.lookup h.Part.Account = some id ∧
    v.S.closed < h.T_ ∧ h.T_ ≤ v.top ∧ 1 ≤ h.Part.N ∧ h.Part.N ≤ 1000000000000000 ∧ 0 ≤ h.Fee ∧ h.Fee ≤ 2000000000000000 ∧ Bal v h ∧ ∀ r ∈ v.S.rows, r.X.Key = h.Part.Account ∨ r.X.Key = 4096 + h.Part.Account → r.T_ < h.T_
  busy : ∀ a id, v.busy.lookup a = some id → ∃ h, v.held.lookup id = some h ∧ h.Part.Account = a
  fat : ∀ id f, v.fates.lookup id = some f → 1 ≤ id ∧ ((f.what = 1 ∧ ∃ h, v.held.lookup id = some h ∧ h.T_ = f.t_) ∨ (f.what = 2 ∧ 1 ≤ f.t_ ∧ f.t_ ≤ 1125899906842624) ∨ (f.what = 3 ∧ f.t_ = 0))
  many : v.fates.length ≤ 5000
  nodH : (v.held.map (·.1)).Nodup
  nodB : (v.busy.map (·.1)).Nodup
  nodF : (v.fates.map (·.1)).Nodup
  top : v.S.closed ≤ v.top ∧ v.top ≤ 1125899906842624
  rows : ∀ r ∈ v.S.rows, r.T_ ≤ v.top
theorem held_keys {v : Va} (h : Fit v) : ∀ e ∈ v.held, 1 ≤ e.1 ∧ e.1 ≤ 9223372036854775807 := fun e he => by
  have := h.ids e.1 e.2 (mem_look h.nodH he)
  omega
theorem held_len {v : Va} (h : Fit v) : v.held.length ≤ 5000 := by
  refine Nat.le_trans ?_ h.many
  have h1 : (v.held.map (·.1)) ⊆ (v.fates.map (·.1)) := by
    intro k hk
    obtain ⟨e, he, rfl⟩ := List.mem_map.1 hk
    have := (h.ids e.1 e.2 (mem_look h.nodH he)).2.2.2.2.1
    exact List.mem_map.2 ⟨_, look_mem this, rfl⟩
  have := h.nodH.length_le_of_subset h1
  simpa using this
theorem heldOf_of {v : Va} {id : Int} {h : Held} (e : v.held.lookup id = some h) : heldOf v id = h := by unfold heldOf; rw [e]; rfl
theorem fateV_of {v : Va} {id : Int} {f : Ft} (e : v.fates.lookup id = some f) : fateV v id = f := by unfold fateV; rw [e]; rfl
/-- A fate that is held stands among the parts that are. -/
theorem held_of {v : Va} (F : Fit v) {id : Int} (e : (fateV v id).what = 1) : ∃ h, v.held.lookup id = some h ∧ h.T_ = (fateV v id).t_ ∧ v.fates.lookup id = some (fateV v id) := by
  cases hf : v.fates.lookup id with
  | none => unfold fateV at e; rw [hf] at e; simp at e
  | some f =>
    rw [fateV_of hf] at e ⊢
    rcases (F.fat id f hf).2 with ⟨_, h⟩ | ⟨h, _⟩ | ⟨h, _⟩
    · obtain ⟨h, h1, h2⟩ := h
      exact ⟨h, h1, h2, rfl⟩
    · omega
    · omega
theorem nextE_ok {v : Va} {t : Int} (h : nextE v t = 0) : 1 ≤ t ∧ t ≤ 1125899906842624 ∧ v.top < t := by
  unfold nextE at h
  split at h
  · omega
  · split at h
    · omega
    · omega
theorem whyV_ok {v : Va} {p : Part} (h : (whyV v p).2 = 0) : 1 ≤ p.ID ∧ v.fates.lookup p.ID = none ∧ v.fates.length < 5000 ∧ isA p.Account ∧ 1 ≤ p.N ∧ p.N ≤ 1000000000000000 ∧ (lastOf v p.Account).2 = true ∧ v.busy.lookup p.Account = none ∧
    ((p.Pays = false ∧ (whyV v p).1 = 0 ∧ okAm (lastOf v p.Account).1.V ∧ (lastOf v p.Account).1.V + p.N ≤ 1000000000000000) ∨ (p.Pays = true ∧ (whyV v p).1 = feeF p.N v.rate ∧ p.N + feeF p.N v.rate ≤ (lastOf v p.Account).1.V)) := by
  unfold whyV at h ⊢
  by_cases c1 : p.ID < 1
  · rw [if_pos c1] at h; simp at h
  · rw [if_neg c1] at h ⊢
    by_cases c2 : (v.fates.lookup p.ID).isSome = true
    · rw [if_pos c2] at h; simp at h
    · rw [if_neg c2] at h ⊢
      by_cases c3 : 5000 ≤ v.fates.length
      · rw [if_pos c3] at h; simp at h
      · rw [if_neg c3] at h ⊢
        by_cases c4 : ¬ isA p.Account
        · rw [if_pos c4] at h; simp at h
        · rw [if_neg c4] at h ⊢
          by_cases c5 : p.N < 1 ∨ ¬ okAm p.N
          · rw [if_pos c5] at h; simp at h
          · rw [if_neg c5] at h ⊢
            by_cases c6 : (lastOf v p.Account).2 = false
            · rw [if_pos c6] at h; simp at h
            · rw [if_neg c6] at h ⊢
              by_cases c7 : (v.busy.lookup p.Account).isSome = true
              · rw [if_pos c7] at h; simp at h
              · rw [if_neg c7] at h ⊢
                have e2 : v.fates.lookup p.ID = none := Option.not_isSome_iff_eq_none.1 c2
                have e7 : v.busy.lookup p.Account = none := Option.not_isSome_iff_eq_none.1 c7
                have e5 : okAm p.N := Classical.byContradiction fun hc => c5 (.inr hc)
                refine ⟨by omega, e2, by omega, Classical.not_not.1 c4, by omega, e5.2, by simpa using c6, e7, ?_⟩
                by_cases c8 : p.Pays = false
                · rw [if_pos c8] at h ⊢
                  by_cases c9 : okAm (lastOf v p.Account).1.V ∧ (lastOf v p.Account).1.V + p.N ≤ 1000000000000000
                  · rw [if_pos c9]
                    exact .inl ⟨c8, rfl, c9.1, c9.2⟩
                  · rw [if_neg c9] at h; simp at h
                · rw [if_neg c8] at h ⊢
                  by_cases c9 : (lastOf v p.Account).1.V < p.N + feeF p.N v.rate
                  · rw [if_pos c9] at h; simp at h
                  · rw [if_neg c9]
                    exact .inr ⟨by simpa using c8, rfl, by omega⟩
/-! ### it stays so -/
theorem Fit.new {r : Nat} (h : rateOk r) : Fit ⟨r, ⟨[], 0, 0⟩, 0, [], [], []⟩ :=
  ⟨⟨fun k => by simp [vs_nil], fun r h => (by cases h), fun r h => (by cases h), List.Pairwise.nil, by simp⟩, h, fun id h e => by simp at e, fun a id e => by simp at e, fun id f e => by simp at e, by simp, by simp, by simp, by simp, by simp, fun r h => by cases h⟩
theorem put_closed (M : Md) (t : Int) (xs : List Ent) : (putM M t xs).closed = M.closed ∧ (putM M t xs).mark = M.mark := by unfold putM; split <;> exact ⟨rfl, rfl⟩
theorem put_rows {M : Md} {t : Int} {xs : List Ent} {r : Row} (h : r ∈ (putM M t xs).rows) : r ∈ M.rows ∨ (r.T_ = t ∧ r.X ∈ xs) := by
  unfold putM at h
  split at h
  · rcases List.mem_append.1 h with h | h
    · exact .inl h
    · obtain ⟨x, hx, rfl⟩ := List.mem_map.1 h
      exact .inr ⟨rfl, hx⟩
  · exact .inl h
theorem vs_put_no {M : Md} {t k : Int} {xs : List Ent} (h : ∀ x ∈ xs, x.Key ≠ k) : vs (putM M t xs).rows k = vs M.rows k := by
  unfold putM
  split
  · simp only
    rw [vs_app, vs_news_no, List.append_nil]
    intro hm
    obtain ⟨x, hx, e⟩ := List.mem_map.1 hm
    exact h x hx e
  · rfl
theorem last_keep (m : Int) : ∀ l : List S86, (keepV m l).getLast? = l.getLast?
  | [] => rfl
  | v :: l => by
    have ih := last_keep m l
    unfold keepV
    split
    · rename_i hc
      rw [ih]
      cases l with
      | nil => simp at hc
      | cons u us => rw [List.getLast?_cons_cons]
    · rw [List.getLast?_cons, List.getLast?_cons, ih]
theorem last_of_ne {v : Va} {a : Int} : (lastOf v a).2 = true ↔ vs v.S.rows a ≠ [] := by
  unfold lastOf lastV
  cases hv : vs v.S.rows a with
  | nil => simp
  | cons x xs => simp [List.getLast?_cons]
theorem bal_congr {v u : Va} {h : Held} (e : vs u.S.rows h.Part.Account = vs v.S.rows h.Part.Account) (b : Bal v h) : Bal u h := by
  unfold Bal lastOf at *
  rw [e]; exact b
theorem bal_prune {v : Va} {h : Held} (F : Inv v.S) (t : Int) (b : Bal v h) : Bal { v with S := pruneM v.S t } h := by
  unfold pruneM
  split
  · unfold Bal lastOf lastV at *
    simp only
    rw [vs_keep, last_keep, ne_eq, keepV_nil (vs_rise F.rise _)]
    exact b
  · exact b
/-- A store to which something was put that no held part's account has. -/
theorem Fit.puts {v : Va} (F : Fit v) {t : Int} {xs : List Ent} (h0 : t ≤ 1125899906842624) (hx : ∀ id h, v.held.lookup id = some h → ∀ x ∈ xs, x.Key ≠ h.Part.Account ∧ x.Key ≠ 4096 + h.Part.Account) : Fit { v with S := putM v.S t xs, top := max v.top t } := by
  have hc := put_closed v.S t xs
  have ht := F.top
  refine ⟨F.sto.put t _, F.rate, fun id h e => ?_, F.busy, F.fat, F.many, F.nodH, F.nodB, F.nodF, ⟨by show (putM _ _ _).closed ≤ max _ _; rw [hc.1]; omega, by show max _ _ ≤ _; omega⟩, fun r hr => ?_⟩
  · obtain ⟨g1, g2, g3, g4, g5, g6, g7, g8, g9, g10, g11, g12, g14, g13⟩ := F.ids id h e
    refine ⟨g1, g2, g3, g4, g5, g6, by show (putM _ _ _).closed < _; rw [hc.1]; exact g7, by show _ ≤ max _ _; omega, g9, g10, g11, g12, bal_congr (vs_put_no fun x hx' => (hx id h e x hx').1) g14, fun r hr hk => ?_⟩
    rcases put_rows hr with hr | ⟨_, hr⟩
    · exact g13 r hr hk
    · have := hx id h e _ hr
      omega
  · rcases put_rows hr with hr | ⟨hr, _⟩
    · have := F.rows r hr
      show _ ≤ max _ _; omega
    · show _ ≤ max _ _; omega
theorem Fit.open {v : Va} (F : Fit v) (t a n : Int) : Fit (openV v t a n).1 := by
  unfold openV
  split
  · exact F
  · rename_i h1
    have h1 : nextE v t = 0 := Classical.not_not.1 h1
    obtain ⟨t0, t1, t2⟩ := nextE_ok h1
    split
    · exact F
    · rename_i ha
      have ha : isA a := Classical.not_not.1 ha
      split
      · exact F
      · rename_i h2
        split
        · exact F
        · refine F.puts t1 fun id h e x hx => ?_
          obtain ⟨_, _, _, g4, _, _, _, _, _, _, _, _, g14, _⟩ := F.ids id h e
          have hx := List.mem_singleton.1 hx
          subst hx
          have h3 := g4.1
          have h4 := ha.2
          refine ⟨fun e => ?_, fun e => ?_⟩
          · simp only at e
            subst e
            exact h2 (last_of_ne.2 g14.1)
          · simp only at e
            omega
theorem Fit.free {v : Va} (F : Fit v) {id : Int} {h : Held} (e : v.held.lookup id = some h) {f : Ft} (hf : (f.what = 2 ∧ 1 ≤ f.t_ ∧ f.t_ ≤ 1125899906842624) ∨ (f.what = 3 ∧ f.t_ = 0)) : Fit { freeV v h with fates := ups id f v.fates } := by
  obtain ⟨g1, g2, g3, g4, g5, g6, g7, g8, g9, g10, g11, g12, g14, g13⟩ := F.ids id h e
  have lh : ∀ x, (del h.Part.ID v.held).lookup x = if x == id then none else v.held.lookup x := fun x => by rw [lookup_del _ _ _ F.nodH, g1]
  have lb : ∀ x, (del h.Part.Account v.busy).lookup x = if x == h.Part.Account then none else v.busy.lookup x := fun x => by rw [lookup_del _ _ _ F.nodB]
  refine ⟨F.sto, F.rate, fun x k ex => ?_, fun a x ex => ?_, fun x k ex => ?_, ?_, nodup_del F.nodH, nodup_del F.nodB, nodup_ups F.nodF, F.top, F.rows⟩
  · have ex : (del h.Part.ID v.held).lookup x = some k := ex
    rw [lh] at ex
    by_cases c : x = id
    · simp [c] at ex
    · rw [if_neg (by simpa using c)] at ex
      obtain ⟨k1, k2, k3, k4, k5, k6, k7, k8, k9, k10, k11, k12, k14, k13⟩ := F.ids x k ex
      refine ⟨k1, k2, k3, k4, ?_, ?_, k7, k8, k9, k10, k11, k12, k14, k13⟩
      · show (ups id f v.fates).lookup x = _
        rw [lookup_ups, if_neg (by simpa using c)]; exact k5
      · show (del h.Part.Account v.busy).lookup _ = _
        rw [lb, if_neg]
        · exact k6
        · intro hc
          have hc : k.Part.Account = h.Part.Account := by simpa using hc
          rw [hc, g6] at k6
          exact c (by injection k6 with k6; exact k6.symm)
  · have ex : (del h.Part.Account v.busy).lookup a = some x := ex
    rw [lb] at ex
    by_cases c : a = h.Part.Account
    · simp [c] at ex
    · rw [if_neg (by simpa using c)] at ex
      obtain ⟨k, hk1, hk2⟩ := F.busy a x ex
      refine ⟨k, ?_, hk2⟩
      show (del h.Part.ID v.held).lookup x = _
      rw [lh, if_neg]
      · exact hk1
      · intro hc
        have hc : x = id := by simpa using hc
        rw [hc, e] at hk1
        injection hk1 with hk1
        exact c (by rw [hk1, hk2])
  · have ex : (ups id f v.fates).lookup x = some k := ex
    rw [lookup_ups] at ex
    by_cases c : x = id
    · rw [if_pos (by simpa using c)] at ex
      cases ex
      exact ⟨by omega, .inr hf⟩
    · rw [if_neg (by simpa using c)] at ex
      refine ⟨(F.fat x k ex).1, ?_⟩
      rcases (F.fat x k ex).2 with ⟨k1, h', k2, k3⟩ | k1
      · refine .inl ⟨k1, h', ?_, k3⟩
        show (del h.Part.ID v.held).lookup x = _
        rw [lh, if_neg (by simpa using c)]; exact k2
      · exact .inr k1
  · show (ups id f v.fates).length ≤ 5000
    rw [ups_len, g5, if_pos (by simp)]; exact F.many
theorem whyV_fee {v : Va} (F : Fit v) {p : Part} (h : (whyV v p).2 = 0) : 0 ≤ (whyV v p).1 ∧ (whyV v p).1 ≤ 2000000000000000 := by
  obtain ⟨_, _, _, _, h5, h6, _, _, h9⟩ := whyV_ok h
  rcases h9 with ⟨_, e, _⟩ | ⟨_, e, _⟩
  · omega
  · have := feeF_le (n := p.N) (by omega) h6 F.rate
    omega
theorem Fit.hold {v : Va} (F : Fit v) {t : Int} {p : Part} (h0 : p.ID ≤ 9223372036854775807) : Fit (holdV v t p).1 := by
  unfold holdV
  split
  · exact F
  · rename_i h1
    have h1 : nextE v t = 0 := Classical.not_not.1 h1
    obtain ⟨t0, t1, t2⟩ := nextE_ok h1
    split
    · exact F
    · rename_i h2
      have h2 : (whyV v p).2 = 0 := Classical.not_not.1 h2
      have hfee := whyV_fee F h2
      obtain ⟨a1, a2, a3, a4, a5, a6, a7, a8, a9⟩ := whyV_ok h2
      generalize (whyV v p).1 = fee at hfee a9
      have ht := F.top
      have hnoh : v.held.lookup p.ID = none := by
        cases hh : v.held.lookup p.ID with
        | none => rfl
        | some k => have := (F.ids _ _ hh).2.2.2.2.1; rw [a2] at this; cases this
      have lh : ∀ x, (ups p.ID (⟨p, t, fee⟩ : Held) v.held).lookup x = if x == p.ID then some ⟨p, t, fee⟩ else v.held.lookup x := fun x => lookup_ups _ _ _ _
      have lb : ∀ x, (ups p.Account p.ID v.busy).lookup x = if x == p.Account then some p.ID else v.busy.lookup x := fun x => lookup_ups _ _ _ _
      have lf : ∀ x, (ups p.ID (⟨1, t⟩ : Ft) v.fates).lookup x = if x == p.ID then some ⟨1, t⟩ else v.fates.lookup x := fun x => lookup_ups _ _ _ _
      refine ⟨F.sto, F.rate, fun x k ex => ?_, fun a x ex => ?_, fun x k ex => ?_, ?_, nodup_ups F.nodH, nodup_ups F.nodB, nodup_ups F.nodF, ⟨by show v.S.closed ≤ max v.top t; omega, by show max v.top t ≤ _; omega⟩, fun r hr => by have := F.rows r hr; show _ ≤ max v.top t; omega⟩
      · have ex : (ups p.ID (⟨p, t, fee⟩ : Held) v.held).lookup x = some k := ex
        rw [lh] at ex
        by_cases c : x = p.ID
        · rw [if_pos (by simpa using c)] at ex
          cases ex
          subst c
          refine ⟨rfl, a1, h0, a4, ?_, ?_, by show v.S.closed < t; omega, by show t ≤ max v.top t; omega, a5, a6, hfee.1, hfee.2, ⟨last_of_ne.1 a7, fun hp => ?_, fun hp => ?_⟩, fun r hr _ => ?_⟩
          · show (ups p.ID (⟨1, t⟩ : Ft) v.fates).lookup p.ID = _
            rw [lf, if_pos (by simp)]
          · show (ups p.Account p.ID v.busy).lookup p.Account = _
            rw [lb, if_pos (by simp)]
          · rcases a9 with ⟨q, _⟩ | ⟨_, q1, q2⟩
            · rw [hp] at q; cases q
            · show p.N + fee ≤ (lastOf v p.Account).1.V
              rw [q1]; exact q2
          · rcases a9 with ⟨_, _, q1, q2⟩ | ⟨q, _⟩
            · exact ⟨q1, q2⟩
            · rw [hp] at q; cases q
          · have := F.rows r hr
            show r.T_ < t; omega
        · rw [if_neg (by simpa using c)] at ex
          obtain ⟨k1, k2, k3, k4, k5, k6, k7, k8, k9, k10, k11, k12, k14, k13⟩ := F.ids x k ex
          refine ⟨k1, k2, k3, k4, ?_, ?_, k7, by show _ ≤ max v.top t; omega, k9, k10, k11, k12, k14, k13⟩
          · show (ups p.ID (⟨1, t⟩ : Ft) v.fates).lookup x = _
            rw [lf, if_neg (by simpa using c)]; exact k5
          · show (ups p.Account p.ID v.busy).lookup _ = _
            rw [lb, if_neg]
            · exact k6
            · intro hc
              have hc : k.Part.Account = p.Account := by simpa using hc
              rw [hc, a8] at k6; cases k6
      · have ex : (ups p.Account p.ID v.busy).lookup a = some x := ex
        rw [lb] at ex
        by_cases c : a = p.Account
        · rw [if_pos (by simpa using c)] at ex
          cases ex
          refine ⟨⟨p, t, fee⟩, ?_, c.symm⟩
          show (ups p.ID (⟨p, t, fee⟩ : Held) v.held).lookup p.ID = _
          rw [lh, if_pos (by simp)]
        · rw [if_neg (by simpa using c)] at ex
          obtain ⟨k, hk1, hk2⟩ := F.busy a x ex
          refine ⟨k, ?_, hk2⟩
          show (ups p.ID (⟨p, t, fee⟩ : Held) v.held).lookup x = _
          rw [lh, if_neg]
          · exact hk1
          · intro hc
            have hc : x = p.ID := by simpa using hc
            rw [hc, hnoh] at hk1; cases hk1
      · have ex : (ups p.ID (⟨1, t⟩ : Ft) v.fates).lookup x = some k := ex
        rw [lf] at ex
        by_cases c : x = p.ID
        · rw [if_pos (by simpa using c)] at ex
          cases ex
          refine ⟨by omega, .inl ⟨rfl, ⟨p, t, fee⟩, ?_, rfl⟩⟩
          show (ups p.ID (⟨p, t, fee⟩ : Held) v.held).lookup x = _
          rw [lh, if_pos (by simpa using c)]
        · rw [if_neg (by simpa using c)] at ex
          refine ⟨(F.fat x k ex).1, ?_⟩
          rcases (F.fat x k ex).2 with ⟨k1, h', k2, k3⟩ | k1
          · refine .inl ⟨k1, h', ?_, k3⟩
            show (ups p.ID (⟨p, t, fee⟩ : Held) v.held).lookup x = _
            rw [lh, if_neg (by simpa using c)]; exact k2
          · exact .inr k1
      · show (ups p.ID (⟨1, t⟩ : Ft) v.fates).length ≤ 5000
        rw [ups_len, a2, if_neg (by simp)]; omega
theorem change_keys {v : Va} {h : Held} (ha : isA h.Part.Account) : ∀ x ∈ changeV v h, x.Key = h.Part.Account ∨ x.Key = 4096 + h.Part.Account := by
  have e : IntKind.i64.wrap (4096 + h.Part.Account) = 4096 + h.Part.Account := wrap_i64 (by have := ha.1; omega) (by have := ha.2; omega)
  intro x hx
  unfold changeV at hx
  rw [e] at hx
  split at hx
  · rw [List.mem_singleton.1 hx]; exact .inl rfl
  · rcases List.mem_cons.1 hx with rfl | hx
    · exact .inl rfl
    · split at hx
      · rw [List.mem_singleton.1 hx]; exact .inr rfl
      · cases hx
theorem Fit.done {v : Va} (F : Fit v) {t id : Int} {h : Held} (e : v.held.lookup id = some h) (h0 : h.T_ ≤ t) (h1 : t ≤ 1125899906842624) : Fit (doneV v t id h) := by
  obtain ⟨g1, g2, g3, g4, g5, g6, g7, g8, g9, g10, g11, g12, g14, g13⟩ := F.ids id h e
  have ht := F.top
  have hm := F.sto.mark
  have F1 := F.free e (f := ⟨2, t⟩) (.inl ⟨rfl, by show 1 ≤ t; omega, h1⟩)
  have F2 := F1.puts (t := t) (xs := changeV v h) h1 fun x k ex y hy => by
    have ex : (del h.Part.ID v.held).lookup x = some k := ex
    rw [lookup_del _ _ _ F.nodH, g1] at ex
    by_cases c : x = id
    · simp [c] at ex
    · rw [if_neg (by simpa using c)] at ex
      obtain ⟨k1, k2, k3, k4, k5, k6, _⟩ := F.ids x k ex
      have hne : k.Part.Account ≠ h.Part.Account := fun hc => by
        rw [hc, g6] at k6
        exact c (by injection k6 with k6; exact k6.symm)
      have h2 := k4.1
      have h3 := k4.2
      have h4 := g4.1
      have h5 := g4.2
      rcases change_keys g4 y hy with hy | hy <;> omega
  exact F2
theorem Fit.commit {v : Va} (F : Fit v) (t id : Int) : Fit (commitV v t id).1 := by
  unfold commitV
  split
  · exact F
  · rename_i h0
    split
    · split <;> exact F
    · split
      · rename_i h1
        obtain ⟨h, e1, e2, e3⟩ := held_of F h1
        rw [heldOf_of e1]
        split
        · exact F
        · exact F.done e1 (by omega) (by omega)
      · exact F
theorem Fit.drop {v : Va} (F : Fit v) (id : Int) : Fit (dropV v id).1 := by
  unfold dropV
  split
  · exact F
  · split
    · exact F
    · split
      · exact F
      · rename_i h1 h2 h3
        cases e : v.held.lookup id with
        | some h =>
          have := F.free e (f := ⟨3, 0⟩) (.inr ⟨rfl, rfl⟩)
          unfold gone_
          rw [e]; exact this
        | none =>
          unfold gone_
          rw [e]
          have lf : ∀ x, (ups id (⟨3, 0⟩ : Ft) v.fates).lookup x = if x == id then some ⟨3, 0⟩ else v.fates.lookup x := fun x => lookup_ups _ _ _ _
          refine ⟨F.sto, F.rate, fun x k ex => ?_, F.busy, fun x k ex => ?_, ?_, F.nodH, F.nodB, nodup_ups F.nodF, F.top, F.rows⟩
          · obtain ⟨k1, k2, k3, k4, k5, k6, k7, k8, k9, k10, k11, k12, k14, k13⟩ := F.ids x k ex
            refine ⟨k1, k2, k3, k4, ?_, k6, k7, k8, k9, k10, k11, k12, k14, k13⟩
            show (ups id (⟨3, 0⟩ : Ft) v.fates).lookup x = _
            rw [lf, if_neg]
            · exact k5
            · intro hc
              have hc : x = id := by simpa using hc
              have ex : v.held.lookup x = some k := ex
              rw [hc, e] at ex; cases ex
          · have ex : (ups id (⟨3, 0⟩ : Ft) v.fates).lookup x = some k := ex
            rw [lf] at ex
            by_cases c : x = id
            · rw [if_pos (by simpa using c)] at ex
              cases ex
              exact ⟨by omega, .inr (.inr ⟨rfl, rfl⟩)⟩
            · rw [if_neg (by simpa using c)] at ex
              exact F.fat x k ex
          · show (ups id (⟨3, 0⟩ : Ft) v.fates).length ≤ 5000
            rw [ups_len]
            split
            · exact F.many
            · rename_i hn
              have hn : (v.fates.lookup id).isSome = false := (Bool.not_eq_true _).mp hn
              have : ¬ 5000 ≤ v.fates.length := fun hc => h3 ⟨hn, hc⟩
              omega
theorem Fit.close {v : Va} (F : Fit v) (t : Int) : Fit (closeV v t).1 := by
  unfold closeV
  split
  · exact F
  · rename_i h0
    split
    · exact F
    · rename_i h1
      have ht := F.top
      have hcl : (closeM v.S t).rows = v.S.rows ∧ (closeM v.S t).closed ≤ max v.S.closed t := by unfold closeM; split; exact ⟨rfl, Int.le_refl _⟩; exact ⟨rfl, by omega⟩
      refine ⟨F.sto.close t, F.rate, fun x k ex => ?_, F.busy, F.fat, F.many, F.nodH, F.nodB, F.nodF, ⟨by show (closeM v.S t).closed ≤ max v.top t; omega, by show max v.top t ≤ _; omega⟩, fun r hr => ?_⟩
      · obtain ⟨k1, k2, k3, k4, k5, k6, k7, k8, k9, k10, k11, k12, k14, k13⟩ := F.ids x k ex
        have hgt : t < k.T_ := by
          apply Classical.byContradiction
          intro hc
          exact h1 (List.any_eq_true.2 ⟨(x, k), look_mem ex, by simp; omega⟩)
        refine ⟨k1, k2, k3, k4, k5, k6, by show (closeM v.S t).closed < _; omega, by show _ ≤ max v.top t; omega, k9, k10, k11, k12, bal_congr (by show vs (closeM v.S t).rows _ = _; rw [hcl.1]) k14, fun r hr => k13 r (by rw [← hcl.1]; exact hr)⟩
      · have := F.rows r (by rw [← hcl.1]; exact hr)
        show _ ≤ max v.top t; omega
theorem prune_same (M : Md) (t : Int) : (pruneM M t).closed = M.closed ∧ ∀ r ∈ (pruneM M t).rows, r ∈ M.rows := by
  unfold pruneM
  split
  · exact ⟨rfl, fun r hr => (keep_sub _ _).subset hr⟩
  · exact ⟨rfl, fun r hr => hr⟩
theorem Fit.prune {v : Va} (F : Fit v) (t : Int) : Fit (pruneV v t).1 := by
  have hp := prune_same v.S t
  refine ⟨F.sto.prune t, F.rate, fun x k ex => ?_, F.busy, F.fat, F.many, F.nodH, F.nodB, F.nodF, ⟨by show (pruneM v.S t).closed ≤ _; rw [hp.1]; exact F.top.1, F.top.2⟩, fun r hr => F.rows r (hp.2 r hr)⟩
  obtain ⟨k1, k2, k3, k4, k5, k6, k7, k8, k9, k10, k11, k12, k14, k13⟩ := F.ids x k ex
  exact ⟨k1, k2, k3, k4, k5, k6, by show (pruneM v.S t).closed < _; rw [hp.1]; exact k7, k8, k9, k10, k11, k12, bal_prune F.sto t k14, fun r hr => k13 r (hp.2 r hr)⟩
end Go.Proofs.YtpdaapffkdejoaaGreat.Vault
