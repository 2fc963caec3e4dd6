/- The table of locks in memory; contracts: New, Dead, against, any. -/
import Derived.Test.YtojcgejjdfcaaaaLA
import Derived.Test.YtojcgejjdfcaaaaItB
namespace Go.Proofs.Ytojcgejjdfcaaaa.Locks
open Go Go.Proofs.Ytojcgejjdfcaaaa.Cf
set_option linter.unusedVariables false
set_option linter.unusedSimpArgs false
set_option maxRecDepth 100000
section
variable {W w : World} {l l' : List Assn} {α : Type} {T : Ty α}
/-- A lock in memory: its block, its two maps and what they have. -/
structure LkP where
  b : Nat
  h : Nat
  w : Nat
  hs : List (Int × Bool)
  ws : List (Int × Bool)
def lockA (L : LkP) : Assn := sepA [cel L.b (T67.cells ⟨some L.h, some L.w⟩) 68, mapE tBool .i64 L.h L.hs, mapE tBool .i64 L.w L.ws]
/-- A table in memory. -/
structure TbP where
  b : Nat
  ml : Nat
  mw : Nat
  md : Nat
  locks : List (Int × LkP)
  waits : List (Int × Int)
  dead : List (Int × S77)
def ptrs (locks : List (Int × LkP)) : List (Int × Option Addr) := locks.map fun e => (e.1, some (⟨e.2.b, 0, none⟩ : Addr))
def bigL (locks : List (Int × LkP)) : Assn := sepA (locks.map fun e => lockA e.2)
def tabL (t : TbP) : List Assn := [cel t.b (T61.cells ⟨some t.ml, some t.mw, some t.md⟩) 62, mapE tPtr .i64 t.ml (ptrs t.locks), mapE (tInt .i64) .i64 t.mw t.waits, mapE T77 .i64 t.md t.dead, bigL t.locks]
def tabA (t : TbP) : Assn := sepA (tabL t)
theorem tab_open {t : TbP} (H : St W (tabA t :: l) w) : St W (cel t.b (T61.cells ⟨some t.ml, some t.mw, some t.md⟩) 62 :: mapE tPtr .i64 t.ml (ptrs t.locks) :: mapE (tInt .i64) .i64 t.mw t.waits :: mapE T77 .i64 t.md t.dead :: bigL t.locks :: l) w := H.open_
theorem tab_shut {t : TbP} (H : St W (cel t.b (T61.cells ⟨some t.ml, some t.mw, some t.md⟩) 62 :: mapE tPtr .i64 t.ml (ptrs t.locks) :: mapE (tInt .i64) .i64 t.mw t.waits :: mapE T77 .i64 t.md t.dead :: bigL t.locks :: l) w) : St W (tabA t :: l) w := St.shut (l' := tabL t) H
theorem lock_open {L : LkP} (H : St W (lockA L :: l) w) : St W (cel L.b (T67.cells ⟨some L.h, some L.w⟩) 68 :: mapE tBool .i64 L.h L.hs :: mapE tBool .i64 L.w L.ws :: l) w := H.open_
theorem lock_shut {L : LkP} (H : St W (cel L.b (T67.cells ⟨some L.h, some L.w⟩) 68 :: mapE tBool .i64 L.h L.hs :: mapE tBool .i64 L.w L.ws :: l) w) : St W (lockA L :: l) w :=
  St.shut (l' := [cel L.b (T67.cells ⟨some L.h, some L.w⟩) 68, mapE tBool .i64 L.h L.hs, mapE tBool .i64 L.w L.ws]) H
theorem big_get {l1 l2 : List (Int × LkP)} {e : Int × LkP} (H : St W (bigL (l1 ++ e :: l2) :: l) w) : St W (lockA e.2 :: bigL (l1 ++ l2) :: l) w := big_out (f := fun e : Int × LkP => lockA e.2) H
theorem big_put {l1 l2 : List (Int × LkP)} {e : Int × LkP} (H : St W (lockA e.2 :: bigL (l1 ++ l2) :: l) w) : St W (bigL (l1 ++ e :: l2) :: l) w := big_in (f := fun e : Int × LkP => lockA e.2) H
theorem lookup_ptrs (k : Int) : ∀ locks : List (Int × LkP), (ptrs locks).lookup k = (locks.lookup k).map fun L => some (⟨L.b, 0, none⟩ : Addr)
  | [] => rfl
  | (a, L) :: locks => by
    have ih := lookup_ptrs k locks
    unfold ptrs at ih ⊢
    simp only [List.map_cons, List.lookup]
    by_cases c : (k == a) = true
    · rw [c]; rfl
    · simp only [Bool.not_eq_true] at c
      rw [c]; exact ih
theorem lookup_split {β : Type} {k : Int} {v : β} : ∀ {es : List (Int × β)}, es.lookup k = some v → ∃ l1 l2, es = l1 ++ (k, v) :: l2
  | [], h => by cases h
  | (a, b) :: es, h => by
    simp only [List.lookup] at h
    by_cases c : (k == a) = true
    · rw [c] at h
      have e : k = a := by simpa using c
      cases h; subst e
      exact ⟨[], es, rfl⟩
    · simp only [Bool.not_eq_true] at c
      rw [c] at h
      obtain ⟨l1, l2, e⟩ := lookup_split h
      exact ⟨(a, b) :: l1, l2, by rw [e]; rfl⟩
theorem look_mem {β : Type} {k : Int} {v : β} {es : List (Int × β)} (h : es.lookup k = some v) : (k, v) ∈ es := by
  obtain ⟨l1, l2, e⟩ := lookup_split h
  rw [e]; simp
theorem mem_look {β : Type} {k : Int} {v : β} : ∀ {es : List (Int × β)}, (es.map (·.1)).Nodup → (k, v) ∈ es → es.lookup k = some v
  | [], _, h => by cases h
  | (a, b) :: es, hn, h => by
    have hn' := List.nodup_cons.1 hn
    simp only [List.lookup]
    rcases List.mem_cons.1 h with e | h
    · cases e; simp
    · have : k ≠ a := fun e => hn'.1 (List.mem_map.2 ⟨(k, v), h, e⟩)
      rw [show (k == a) = false from by simpa using this]
      exact mem_look hn'.2 h
theorem mem_del {β : Type} {k : Int} {p : Int × β} : ∀ {es : List (Int × β)}, (es.map (·.1)).Nodup → (p ∈ del k es ↔ p ∈ es ∧ p.1 ≠ k)
  | [], _ => by simp [del]
  | (a, b) :: es, hn => by
    have hn' := List.nodup_cons.1 hn
    simp only [del]
    by_cases c : (k == a) = true
    · rw [if_pos c]
      have e : k = a := by simpa using c
      subst e
      constructor
      · intro h
        exact ⟨List.mem_cons_of_mem _ h, fun e => hn'.1 (List.mem_map.2 ⟨p, h, e⟩)⟩
      · rintro ⟨h, hk⟩
        rcases List.mem_cons.1 h with rfl | h
        · exact absurd rfl hk
        · exact h
    · rw [if_neg c, List.mem_cons, List.mem_cons, mem_del hn'.2]
      have c : k ≠ a := by simpa using c
      constructor
      · rintro (rfl | h)
        · exact ⟨.inl rfl, fun e => c e.symm⟩
        · exact ⟨.inr h.1, h.2⟩
      · rintro ⟨rfl | h, h2⟩
        · exact .inl rfl
        · exact .inr ⟨h, h2⟩
theorem mem_upsE {β : Type} {k : Int} {v : β} {p : Int × β} {es : List (Int × β)} (hn : (es.map (·.1)).Nodup) : p ∈ ups k v es ↔ p = (k, v) ∨ (p ∈ es ∧ p.1 ≠ k) := by
  obtain ⟨a, b⟩ := p
  constructor
  · intro h
    have h1 := mem_look (nodup_ups hn) h
    rw [lookup_ups] at h1
    by_cases c : (a == k) = true
    · rw [if_pos c] at h1
      have e : a = k := by simpa using c
      cases h1; rw [e]; exact .inl rfl
    · rw [if_neg c] at h1
      exact .inr ⟨look_mem h1, by simpa using c⟩
  · intro h
    have : (ups k v es).lookup a = some b := by
      rw [lookup_ups]
      rcases h with h | ⟨h, h2⟩
      · cases h; simp
      · rw [if_neg (by simpa using h2)]; exact mem_look hn h
    exact look_mem this
theorem ups_lenE {β : Type} {k : Int} {v : β} {es : List (Int × β)} : (ups k v es).length ≤ es.length + 1 := by
  have := congrArg List.length (keys_ups k v es)
  rw [List.length_map] at this
  rw [this]; split <;> simp
theorem del_lenE {β : Type} {k : Int} {es : List (Int × β)} : (del k es).length ≤ es.length := by
  have := (keys_del (key := k) (es := es)).length_le
  simpa using this
theorem new_spec (H : St W l w) : cl Try.prog 9 [] tPtr w fun r w' => ∃ t : TbP, r = some ⟨t.b, 0, none⟩ ∧ t.locks = [] ∧ t.waits = [] ∧ t.dead = [] ∧ St W (tabA t :: l) w' := by
  refine F9_ok ?_
  unfold F9
  refine nwMap_st H fun m1 w1 H => ?_
  refine nwMap_st H fun m2 w2 H => ?_
  refine nwMap_st H fun m3 w3 H => ?_
  refine nw_st H fun b w4 H => ?_
  refine ⟨⟨b, m1, m2, m3, [], [], []⟩, rfl, rfl, rfl, rfl, ?_⟩
  have H := mapE_new T77 .i64 (H.front 1)
  have H := mapE_new (tInt .i64) .i64 (H.front 2)
  have H := mapE_new tPtr .i64 (H.front 3)
  have H : St W (cel b (T61.cells ⟨some m1, some m2, some m3⟩) 62 :: mapE tPtr .i64 m1 [] :: mapE (tInt .i64) .i64 m2 [] :: mapE T77 .i64 m3 [] :: l) w4 := H.front 3
  have H : St W (sepA [] :: cel b (T61.cells ⟨some m1, some m2, some m3⟩) 62 :: mapE tPtr .i64 m1 [] :: mapE (tInt .i64) .i64 m2 [] :: mapE T77 .i64 m3 [] :: l) w4 := St.shut (l' := []) H
  exact tab_shut (H.ord [1, 2, 3, 4, 0])
theorem dead_spec {t : TbP} {tx : Int} (H : St W (tabA t :: l) w) : cl Try.prog 18 [.pointer (some ⟨t.b, 0, none⟩), .int .i64 tx] tBool w fun r w' => r = (t.dead.lookup tx).isSome ∧ St W (tabA t :: l) w' := by
  refine F18_ok ?_
  unfold F18
  have H := tab_open H
  refine nc_st rfl ?_
  refine ld_st (x := some t.md) 0 H rfl rfl rfl ?_
  refine mget_st 3 H rfl rfl ?_
  refine nw_st H fun b w1 H => ?_
  refine st_st (x := _) 0 H rfl rfl (Nat.le_of_ble_eq_true rfl) fun w2 H => ?_
  exact ⟨rfl, tab_shut H.drop⟩
/-- What tells of others whether they don't go together with one. -/
def AgP (r : Fv) (tx : Int) (write : Bool) (I : PMap) : Prop := ∃ a b, r = Fv.mk (.func 36) (List.toArray []) (List.toArray [.pointer (some ⟨a, 0, none⟩), .pointer (some ⟨b, 0, none⟩)]) ∧ I a = some (.cells [.int .i64 tx].toArray 3) ∧ I b = some (.cells [.bool write].toArray 4)
theorem AgP.mono {r : Fv} {tx : Int} {write : Bool} {I I' : PMap} (h : PMap.le I I') : AgP r tx write I → AgP r tx write I' := fun ⟨a, b, h1, h2, h3⟩ => ⟨a, b, h1, h _ _ h2, h _ _ h3⟩
def ag (tx : Int) (write : Bool) (other : Int) (writes : Bool) : Bool := (other != tx) && (write || writes)
theorem against_spec {tx : Int} {write : Bool} (H : St W l w) : cl Try.prog 25 [.int .i64 tx, .bool write] tFun w fun r w' => St W (ever (AgP r tx write) AgP.mono :: l) w' := by
  refine F25_ok ?_
  unfold F25
  refine nw_st H fun a w1 H => ?_
  refine nw_st H fun b w2 H => ?_
  have H := (H.stay).front 1
  have H := H.stay
  have H := H.know (φ := AgP (Fv.mk (.func 36) (List.toArray []) (List.toArray [.pointer (some ⟨a, 0, none⟩), .pointer (some ⟨b, 0, none⟩)])) tx write) (m := AgP.mono) fun I h hl => ⟨a, b, rfl, Know.here (m := fun h k => h _ _ k) I h hl, (Know.here (m := fun h k => h _ _ k)).tail I h hl⟩
  exact ((H.front 1).drop.front 1).drop
theorem rd_fix {b : Nat} {v : Value} {x : α} {t : TypeId} {fz : Nat × Nat} (h : w.heap[b]? = some (.cells [v].toArray t fz)) (hx : T.cells x = [v]) : RdAt T ⟨b, 0, none⟩ w x := by
  intro j u hu
  rw [hx] at hu
  rw [add_at, cell_of_blk h, Nat.zero_add]
  simpa using hu
theorem no_spec {r : Fv} {tx : Int} {write : Bool} (k : Know l (AgP r tx write)) (H : St W l w) (other : Int) (writes : Bool) : clv Try.prog r [.int .i64 other, .bool writes] tBool w fun q w' => q = ag tx write other writes ∧ St W l w' := by
  obtain ⟨I, hI, a, b, rfl, ha, hb⟩ := k.everI H
  refine ⟨36, [.pointer (some ⟨a, 0, none⟩), .pointer (some ⟨b, 0, none⟩)], rfl, ent36, ?_⟩
  refine F36_ok ?_
  unfold F36
  refine ex_i tx (rd_fix (T := tInt .i64) (hI _ _ ha) rfl) ?_
  refine ex_i write (fun _ => rd_fix (T := tBool) (hI _ _ hb) rfl) ?_
  exact ⟨rfl, H⟩
theorem flt_lt {β : Type} {p : Int × β} {left : List (Int × β)} (hp : p ∈ left) : (left.filter fun q => q.1 != p.1).length < left.length := by
  induction left with
  | nil => cases hp
  | cons x left ih =>
    rw [List.filter_cons]
    by_cases c : (x.1 != p.1) = true
    · rw [if_pos c]
      rcases List.mem_cons.1 hp with e | hp
      · rw [e] at c; simp at c
      · have := ih hp
        simp only [List.length_cons]; omega
    · rw [if_neg c]
      have := List.length_filter_le (fun q : Int × β => q.1 != p.1) left
      simp only [List.length_cons]; omega
theorem ranging_dup {k : IntKind} {r it : Nat} {es left : List (Int × α)} {cur : Option (Int × α)} (H : St W (ranging T k r it es left cur :: l) w) : (es.map (·.1)).Nodup := by
  obtain ⟨_, _, _, _, _, h, _⟩ := ranging_open H; exact h.dup
theorem key_inj {β : Type} {es : List (Int × β)} (hn : (es.map (·.1)).Nodup) {p q : Int × β} (hp : p ∈ es) (hq : q ∈ es) (h : p.1 = q.1) : p = q := nodup_inj hn p hp q hq h
theorem any_spec {m : Nat} {es : List (Int × Bool)} {fv : Fv} {pr : Int → Bool → Bool} (hfv : ∀ (l' : List Assn) (w : World) (k : Int) (b : Bool), St W (l' ++ l) w → clv Try.prog fv [.int .i64 k, .bool b] tBool w fun r w' => r = pr k b ∧ St W (l' ++ l) w')
    (H : St W (mapE tBool .i64 m es :: l) w) : cl Try.prog 42 [.map (some m), fv.enc] tBool w fun r w' => r = es.any (fun p => pr p.1 p.2) ∧ St W (mapE tBool .i64 m es :: l) w' := by
  refine F42_ok ?_
  unfold F42
  refine rng_st 0 H rfl rfl fun it w1 H => ?_
  refine lp_n (fun n _ w => ∃ left cur, n = left.length ∧ (∀ p ∈ left, p ∈ es) ∧ (∀ p ∈ es, p ∈ left ∨ pr p.1 p.2 = false) ∧ St W (ranging tBool .i64 m it es left cur :: l) w) es.length ⟨es, none, rfl, fun _ h => h, fun _ h => .inl h, H⟩ ?_
  clear H
  rintro n _ w ⟨left, cur, rfl, h1, h2, H⟩ K hK
  unfold F42_l1
  refine nxt_st 0 H rfl rfl (fun he H => ?_) fun p hp w2 H => ?_
  · rw [if_neg (by simp)]
    refine ⟨?_, ranging_done H⟩
    symm
    rw [List.any_eq_false]
    intro p hp
    rcases h2 p hp with h | h
    · rw [he] at h; cases h
    · rw [h]; decide
  · rw [if_pos (by simp)]
    refine ent_st 0 H rfl rfl ?_
    obtain ⟨g, c, hfv', hen, h⟩ := hfv [ranging tBool .i64 m it es (left.filter fun q => q.1 != p.1) (some p)] w2 p.1 p.2 H
    refine ⟨g, c, hfv', hen, cl_mono h ?_⟩
    rintro r w3 ⟨rfl, H⟩
    show if pr p.1 p.2 = true then _ else _
    split
    · rename_i hr
      exact ⟨(List.any_eq_true.2 ⟨p, h1 p hp, hr⟩).symm, ranging_done H⟩
    · rename_i hr
      refine hK _ _ _ (flt_lt hp) ⟨_, _, rfl, fun q hq => h1 q (List.mem_filter.1 hq).1, fun q hq => ?_, H⟩
      rcases h2 q hq with h | h
      · by_cases c : q.1 = p.1
        · have : q = p := key_inj (ranging_dup H) hq (h1 p hp) c
          rw [this]; exact .inr (by simpa using hr)
        · exact .inl (List.mem_filter.2 ⟨h, by simpa using c⟩)
      · exact .inr h
end
end Go.Proofs.Ytojcgejjdfcaaaa.Locks
