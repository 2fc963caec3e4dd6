/- Acceptors: what they do, plainly; contracts of the package but for replay and Open. -/
import Derived.Test.YtjkmeooncmhonaaDE
import Derived.Test.YtjkmeooncmhonaaIt
namespace Go.Proofs.Ytjkmeooncmhonaa.Ballot
open Go Go.Proofs.Ytjkmeooncmhonaa.Cf Go.Proofs.Ytjkmeooncmhonaa.Wire Go.Proofs.Ytjkmeooncmhonaa.Disk
set_option linter.unusedVariables false
set_option linter.unusedSimpArgs false
set_option maxRecDepth 100000
abbrev Vote := S46
abbrev TVo := T46
abbrev TAc := T52
theorem lenVo : ∀ x, (TVo.cells x).length = 3 := fun _ => rfl
/-! ### keys, rising -/
def sortI (L : List Int) : List Int := L.mergeSort fun x y => decide (x ≤ y)
theorem sortI_pw (L : List Int) : (sortI L).Pairwise fun x y => x ≤ y := by
  have h1 : (sortI L).Pairwise fun x y => decide (x ≤ y) = true :=
    List.pairwise_mergeSort (fun a b c h1 h2 => by simp at h1 h2 ⊢; omega) (fun a b => by simp; omega) L
  exact h1.imp fun h => by simpa using h
theorem sortI_p (L : List Int) : (sortI L).Perm L := List.mergeSort_perm L _
theorem sortI_perm {L M : List Int} (h : L.Perm M) : sortI L = sortI M :=
  List.Perm.eq_of_pairwise (fun a b _ _ h1 h2 => by omega) (sortI_pw L) (sortI_pw M) ((sortI_p L).trans (h.trans (sortI_p M).symm))
theorem sortI_lt {L : List Int} (h : L.Nodup) : (sortI L).Pairwise fun x y => x < y :=
  ((sortI_pw L).and ((sortI_p L).nodup_iff.2 h)).imp fun {a b} h => by
    have h1 := h.1
    have h2 : a ≠ b := h.2
    omega
abbrev Es := List (Int × Vote)
/-- Votes by slots. -/
def listV (es : Es) : List Vote := (sortI (es.map (·.1))).map fun k => (es.lookup k).getD Z46
/-! ### records -/
inductive Rec where
  | prom (b : Int)
  | acc (b n : Int) (v : List UInt8)
def numB (b : Int) : Bool := decide (b ≥ 1) && decide (b ≤ 1099511627776)
def slotB (n : Int) : Bool := decide (n ≥ 1) && decide (n ≤ 1000)
def valsR : Rec → List Val
  | .prom b => [⟨1, 1, 0, 0, []⟩, ⟨2, 0, b, 0, []⟩]
  | .acc b n v => [⟨1, 2, 0, 0, []⟩, ⟨2, 0, b, 0, []⟩, ⟨2, 0, n, 0, []⟩, ⟨4, 0, 0, 0, v⟩]
def encR (r : Rec) : List UInt8 := encs (valsR r)
def okR : Rec → Prop
  | .prom b => numB b = true
  | .acc b n v => numB b = true ∧ slotB n = true ∧ v.length ≤ 1000
theorem numB_iff {b : Int} : numB b = true ↔ 1 ≤ b ∧ b ≤ 1099511627776 := by simp [numB]
theorem slotB_iff {b : Int} : slotB b = true ↔ 1 ≤ b ∧ b ≤ 1000 := by simp [slotB]
theorem fine_r {r : Rec} (h : okR r) : Fine (valsR r) := by
  cases r with
  | prom b =>
    have hb := numB_iff.1 h
    refine ⟨fun v hv => ?_, fun v hv => ?_⟩
    · simp only [valsR, List.mem_cons, List.not_mem_nil, or_false] at hv
      rcases hv with rfl | rfl
      · exact ⟨by simp, by simp, by simp, by simp, by simp, by simp, by simp⟩
      · exact ⟨by simp, by simp, by simp, by simp, by simp only; omega, by simp only; omega, by simp⟩
    · simp only [valsR, List.mem_cons, List.not_mem_nil, or_false] at hv
      rcases hv with rfl | rfl <;> simp [okV, plainB]
  | acc b n v =>
    obtain ⟨h1, h2, h3⟩ := h
    have hb := numB_iff.1 h1
    have hn := slotB_iff.1 h2
    refine ⟨fun x hv => ?_, fun x hv => ?_⟩
    · simp only [valsR, List.mem_cons, List.not_mem_nil, or_false] at hv
      rcases hv with rfl | rfl | rfl | rfl
      · exact ⟨by simp, by simp, by simp, by simp, by simp, by simp, by simp⟩
      · exact ⟨by simp, by simp, by simp, by simp, by simp only; omega, by simp only; omega, by simp⟩
      · exact ⟨by simp, by simp, by simp, by simp, by simp only; omega, by simp only; omega, by simp⟩
      · exact ⟨by simp, by simp, by simp, by simp, by simp, by simp, by simp⟩
    · simp only [valsR, List.mem_cons, List.not_mem_nil, or_false] at hv
      rcases hv with rfl | rfl | rfl | rfl
      · simp [okV, plainB]
      · simp [okV, plainB]
      · simp [okV, plainB]
      · simp [okV, plainB]; omega
theorem valsR_len (r : Rec) : (valsR r).length ≤ 4 := by cases r <;> simp [valsR]
theorem encR_len {r : Rec} (h : okR r) : (encR r).length ≤ 4044 := by
  have h1 := encs_len (fine_r h).dom (fine_r h).ok
  have h2 := valsR_len r
  unfold encR; omega
theorem canon_r (r : Rec) : (valsR r).map canon = valsR r := by cases r <;> simp [valsR, canon, fb_0]
theorem unp_encR {r : Rec} (h : okR r) : unp (encR r) = (valsR r, 0, 0) := by
  have := unp_encs (fine_r h) (by have := valsR_len r; omega)
  rw [canon_r] at this
  exact this
/-- What a record makes of the promise and the votes. -/
def stepR (s : Int × Es) : Rec → Int × Es
  | .prom b => (max s.1 b, s.2)
  | .acc b n v => (max s.1 b, ups n ⟨n, b, v⟩ s.2)
/-! ### an acceptor -/
structure Bl where
  D : Dk
  V : Wl
  p : Int
  es : Es
def layB (S : Bl) (r : Rec) : Bl × Int := ({ S with D := (appW S.D S.V (encR r)).1, V := (appW S.D S.V (encR r)).2.1 }, (appW S.D S.V (encR r)).2.2)
def whyB (S : Bl) (b : Int) : Int := if numB b = false then 231 else if b < S.p then 234 else 0
def prepB (S : Bl) (b : Int) : Bl × Int :=
  if whyB S b ≠ 0 then (S, whyB S b)
  else if S.p < b then if (layB S (.prom b)).2 ≠ 0 then layB S (.prom b) else ({ (layB S (.prom b)).1 with p := b }, 0)
  else (S, 0)
def voteB (S : Bl) (x : Vote) : Bl := { S with p := max S.p x.B, es := ups x.Slot x S.es }
def accB (S : Bl) (b n : Int) (v : List UInt8) : Bl × Int :=
  if whyB S b = 231 then (S, 231) else if slotB n = false then (S, 232) else if 1000 < v.length then (S, 233) else if whyB S b ≠ 0 then (S, whyB S b)
  else match S.es.lookup n with
    | some o => if o.B = b then (if o.V = v then (S, 0) else (S, 235)) else
      if (layB S (.acc b n v)).2 = 0 then (voteB (layB S (.acc b n v)).1 ⟨n, b, v⟩, 0) else layB S (.acc b n v)
    | none => if (layB S (.acc b n v)).2 = 0 then (voteB (layB S (.acc b n v)).1 ⟨n, b, v⟩, 0) else layB S (.acc b n v)
section
variable {W w : World} {l l' : List Assn}
def blA (a d : Nat) (S : Bl) : Assn := exA fun b : Nat => exA fun m : Nat => sepA [cel a (TAc.cells ⟨some ⟨b, 0, none⟩, S.p, some m⟩) 53, mapE TVo .i64 m S.es, walA b d S.V, dskA d S.D]
theorem bl_open {a d : Nat} {S : Bl} (H : St W (blA a d S :: l) w) : ∃ b m : Nat, St W (cel a (TAc.cells ⟨some ⟨b, 0, none⟩, S.p, some m⟩) 53 :: mapE TVo .i64 m S.es :: walA b d S.V :: dskA d S.D :: l) w := by
  obtain ⟨b, H⟩ := H.ex
  obtain ⟨m, H⟩ := H.ex
  exact ⟨b, m, H.open_⟩
theorem bl_shut {a d b m : Nat} {S : Bl} (H : St W (cel a (TAc.cells ⟨some ⟨b, 0, none⟩, S.p, some m⟩) 53 :: mapE TVo .i64 m S.es :: walA b d S.V :: dskA d S.D :: l) w) : St W (blA a d S :: l) w :=
  St.toEx b (St.toEx m (St.shut (l' := [_, _, _, _]) H))
theorem numberB_spec {b : Int} (H : St W l w) : cl Try.prog 39 [.int .i64 b] tBool w fun r w' => r = numB b ∧ St W l w' := by
  refine F39_ok ?_
  unfold F39
  exact ⟨rfl, H⟩
theorem slotB_spec {b : Int} (H : St W l w) : cl Try.prog 28 [.int .i64 b] tBool w fun r w' => r = slotB b ∧ St W l w' := by
  refine F28_ok ?_
  unfold F28
  exact ⟨rfl, H⟩
theorem why_spec {a d : Nat} {S : Bl} {b : Int} (H : St W (blA a d S :: l) w) : cl Try.prog 26 [.pointer (some ⟨a, 0, none⟩), .int .i64 b] (tInt .i64) w fun r w' => r = whyB S b ∧ St W (blA a d S :: l) w' := by
  refine F26_ok ?_
  unfold F26 whyB
  refine cl_mono (numberB_spec H) ?_
  rintro r w ⟨rfl, H⟩
  by_cases hb : numB b = false
  · rw [if_pos hb, if_pos (by simp [hb])]
    exact ⟨rfl, H⟩
  · rw [if_neg hb, if_neg (by simpa using hb)]
    obtain ⟨b2, m, H⟩ := bl_open H
    refine nc_st rfl ?_
    refine ld_st (x := S.p) 0 H rfl rfl rfl ?_
    by_cases hp : b < S.p
    · rw [if_pos hp, if_pos (by simpa using hp)]
      exact ⟨rfl, bl_shut H⟩
    · rw [if_neg hp, if_neg (by simpa using hp)]
      exact ⟨rfl, bl_shut H⟩
theorem lay_spec {a d : Nat} {S : Bl} {r : Rec} {q : Slc} (hok : S.D.Ok) (hr : okR r) (k : See 5 l TV q (valsR r)) (H : St W (blA a d S :: l) w) : cl Try.prog 27 [.pointer (some ⟨a, 0, none⟩), tSlc.enc q] (tInt .i64) w fun e w' => e = (layB S r).2 ∧ St W (blA a d (layB S r).1 :: l) w' := by
  have hf := fine_r hr
  have hl := valsR_len r
  refine F27_ok ?_
  unfold F27
  refine cl_mono (pack_spec hf.dom (by omega) k.tail H) ?_
  rintro ⟨b1, e1⟩ w ⟨he, h1, _, _⟩
  have hp : packE (valsR r) = 0 := by
    unfold packE
    rw [if_neg (by omega), bad_of hf.ok]
  have H := h1 hp
  rw [hp] at he
  simp only at he H
  subst he
  rw [if_neg (by simp)]
  obtain ⟨b, m, H⟩ := bl_open (H.front 1)
  refine nc_st rfl ?_
  refine ld_st (x := some ⟨b, 0, none⟩) 0 H rfl rfl rfl ?_
  have hx := encR_len hr
  refine cl_mono (appw_spec (x := encR r) hok (by omega) (See.row (fun _ => rfl) 2 rfl) (H.ord [2, 3])) ?_
  rintro e w ⟨rfl, H⟩
  exact ⟨rfl, bl_shut (S := (layB S r).1) ((H.ord [2, 3, 0, 1]) |> fun H => H.perm (List.Perm.cons _ (List.Perm.cons _ (List.Perm.cons _ (List.Perm.refl _)))) |> fun H => (H.ord [4]).drop)⟩
theorem vote_spec {a d : Nat} {S : Bl} {x : Vote} (H : St W (blA a d S :: l) w) : cl Try.prog 29 [.pointer (some ⟨a, 0, none⟩), TVo.enc x] tUnit w fun _ w' => St W (blA a d (voteB S x) :: l) w' := by
  obtain ⟨b, m, H⟩ := bl_open H
  refine F29_ok ?_
  unfold F29
  refine nw_st H fun b3 w H => ?_
  refine dr_st H fun w H => ?_
  refine nc_st rfl ?_
  refine ld_st (x := S.p) 1 H rfl rfl rfl ?_
  refine ld_st (x := x.B) 0 H rfl rfl rfl ?_
  refine st_st (x := max S.p x.B) 1 H rfl rfl (Nat.le_of_ble_eq_true rfl) fun w H => ?_
  refine dr_st H fun w H => ?_
  refine ld_st (x := some m) 0 H rfl rfl rfl ?_
  refine ld_st (x := x.Slot) 1 H rfl rfl rfl ?_
  refine vld_st (x := x) 1 H rfl ?_
  refine mput_st 2 H rfl rfl fun w H => ?_
  exact bl_shut (S := voteB S x) (H.ord [1, 0, 3, 4] |> fun H => (H.ord [4]).drop)
def Keyed (es : Es) : Prop := es.length ≤ 1000000 ∧ ∀ e ∈ es, -9223372036854775808 ≤ e.1 ∧ e.1 ≤ 9223372036854775807
theorem list_spec {m : Nat} {es : Es} (hk : Keyed es) (H : St W (mapE TVo .i64 m es :: l) w) : cl Try.prog 22 [.map (some m)] tSlc w fun r w' => St W (row TVo 47 3 r (listV es) :: mapE TVo .i64 m es :: l) w' := by
  refine F22_ok ?_
  unfold F22
  refine F33_ok ?_
  unfold F33
  refine nw_st H fun bm w H => ?_
  refine cl_mono (sorted_keys hk.2 hk.1 H) ?_
  rintro s w ⟨ks, hp, H⟩
  have hq : (ks.mergeSort fun x y => decide (x ≤ y)) = sortI (es.map (·.1)) := sortI_perm hp
  rw [hq] at H
  have hs := row_len H
  have hql : (sortI (es.map (·.1))).length = es.length := by
    have := (sortI_p (es.map (·.1))).length_eq
    simpa using this
  have hkl := hk.1
  unfold listV
  generalize sortI (es.map (·.1)) = q at H hs hql
  refine lp_p (fun p w => 0 ≤ p.2 ∧ p.2 ≤ q.length ∧ St W (row TVo 47 3 p.1 ((q.take p.2.toNat).map fun k => (es.lookup k).getD Z46) :: row (tInt .i64) 3 1 s q :: cel bm [.map (some m)] 51 :: mapE TVo .i64 m es :: l) w) (fun p => (q.length - p.2).toNat)
    ⟨Int.le_refl 0, by simp only; omega, row_nil TVo 47 3 H⟩ ?_
  clear H
  rintro ⟨r, i⟩ w ⟨i0, i1, H⟩ K hK
  simp only at i0 i1 H
  unfold F22_l1
  rw [hs]
  split
  · rename_i hi
    have hi : i < q.length := by simpa using hi
    have hx : q[i.toNat]? = some q[i.toNat] := List.getElem?_eq_getElem (by omega)
    have ht : q.take (i.toNat + 1) = q.take i.toNat ++ [q[i.toNat]] := by rw [List.take_succ_eq_append_getElem (by omega)]
    generalize q[i.toNat] = x at hx ht
    obtain ⟨a, ha⟩ := row_ix (i := i) (H.front 1) i0 hi
    refine ex_i a ha ?_
    refine ex_i x (rd_row (fun _ => rfl) ha hx (H.front 1)) ?_
    refine mget_st 3 H rfl rfl ?_
    refine apl_row (fun _ => rfl) 0 H rfl (by simp; omega) fun r w H => ?_
    have e1 : IntKind.i64.wrap (i + 1) = i + 1 := wrap_i64 (by omega) (by omega)
    rw [e1]
    refine hK _ _ ⟨by simp only; omega, by simp only; omega, ?_⟩ (by simp only; omega)
    have e2 : (i + 1).toNat = i.toNat + 1 := by omega
    simp only [e2, ht, List.map_append, List.map_cons, List.map_nil]
    exact H
  · rename_i hi
    have hi : i = q.length := by simp at hi; omega
    subst hi
    have e3 : q.take ((q.length : Int)).toNat = q := by simp
    rw [e3] at H
    exact (H.ord [1, 2]).drop.drop
theorem votes_spec {a d : Nat} {S : Bl} (hk : Keyed S.es) (H : St W (blA a d S :: l) w) : cl Try.prog 17 [.pointer (some ⟨a, 0, none⟩)] tSlc w fun r w' => St W (row TVo 47 3 r (listV S.es) :: blA a d S :: l) w' := by
  obtain ⟨b, m, H⟩ := bl_open H
  refine F17_ok ?_
  unfold F17
  refine nc_st rfl ?_
  refine ld_st (x := some m) 0 H rfl rfl rfl ?_
  refine cl_mono (list_spec hk (H.front 1)) ?_
  intro r w H
  exact (bl_shut (H.ord [2, 1, 3, 4])).front 1
theorem promised_spec {a d : Nat} {S : Bl} (H : St W (blA a d S :: l) w) : cl Try.prog 15 [.pointer (some ⟨a, 0, none⟩)] (tInt .i64) w fun r w' => r = S.p ∧ St W (blA a d S :: l) w' := by
  obtain ⟨b, m, H⟩ := bl_open H
  refine F15_ok ?_
  unfold F15
  refine nc_st rfl ?_
  refine ld_st (x := S.p) 0 H rfl rfl rfl ?_
  exact ⟨rfl, bl_shut H⟩
theorem prep_spec {a d : Nat} {S : Bl} {b : Int} (hok : S.D.Ok) (hk : Keyed S.es) (H : St W (blA a d S :: l) w) : cl Try.prog 14 [.pointer (some ⟨a, 0, none⟩), .int .i64 b] (tTup2 tSlc (tInt .i64)) w fun r w' => r.2 = (prepB S b).2 ∧ ((prepB S b).2 = 0 → St W (row TVo 47 3 r.1 (listV S.es) :: blA a d (prepB S b).1 :: l) w') ∧ ((prepB S b).2 ≠ 0 → r.1 = nilS ∧ St W (blA a d (prepB S b).1 :: l) w') := by
  refine F14_ok ?_
  unfold F14 prepB
  refine cl_mono (why_spec H) ?_
  rintro r w ⟨rfl, H⟩
  by_cases hw : whyB S b ≠ 0
  · rw [if_pos hw, if_pos (by simpa using hw)]
    exact ⟨rfl, fun h => absurd h hw, fun _ => ⟨rfl, H⟩⟩
  · rw [if_neg hw, if_neg (by simpa using hw)]
    have hnum : numB b = true := by
      unfold whyB at hw
      cases h : numB b with
      | true => rfl
      | false => rw [h] at hw; simp at hw
    refine nc_st rfl ?_
    obtain ⟨b2, m, H⟩ := bl_open H
    refine ld_st (x := S.p) 0 H rfl rfl rfl ?_
    have H := bl_shut H
    have fin : ∀ (S' : Bl) (w : World), S'.es = S.es → St W (blA a d S' :: l) w → F14_j1 (some ⟨a, 0, none⟩) w fun r w' => r.2 = 0 ∧ ((0 : Int) = 0 → St W (row TVo 47 3 r.1 (listV S.es) :: blA a d S' :: l) w') ∧ ((0 : Int) ≠ 0 → r.1 = nilS ∧ St W (blA a d S' :: l) w') := by
      intro S' w he H
      unfold F14_j1
      refine cl_mono (votes_spec (by rw [he]; exact hk) H) ?_
      intro r w H
      rw [he] at H
      exact ⟨rfl, fun _ => H, fun h => absurd rfl h⟩
    by_cases hp : S.p < b
    · rw [if_pos hp, if_pos (by simpa using hp)]
      refine nwS_st H fun b10 w H => ?_
      have H := row_new (sz := 5) (m := 2) rfl H
      refine cl_mono (lay_spec (r := .prom b) hok hnum (See.row (fun _ => rfl) 0 rfl) (H.front 1)) ?_
      rintro e w ⟨rfl, H⟩
      have H := (H.front 1).drop
      by_cases hl : (layB S (.prom b)).2 ≠ 0
      · rw [if_pos hl, if_pos (by simpa using hl)]
        exact ⟨rfl, fun h => absurd h hl, fun _ => ⟨rfl, H⟩⟩
      · rw [if_neg hl, if_neg (by simpa using hl)]
        obtain ⟨b2, m, H⟩ := bl_open H
        refine st_st (x := b) 0 H rfl rfl (Nat.le_of_ble_eq_true rfl) fun w H => ?_
        exact fin { (layB S (.prom b)).1 with p := b } w rfl (bl_shut (S := { (layB S (.prom b)).1 with p := b }) H)
    · rw [if_neg hp, if_neg (by simpa using hp)]
      exact fin S w rfl H
theorem acc_spec {a d : Nat} {S : Bl} {b n : Int} {v : List UInt8} (hok : S.D.Ok) (H : St W (blA a d S :: l) w) : cl Try.prog 16 [.pointer (some ⟨a, 0, none⟩), .int .i64 b, .int .i64 n, .string ⟨v.toArray⟩] (tInt .i64) w fun r w' => r = (accB S b n v).2 ∧ St W (blA a d (accB S b n v).1 :: l) w' := by
  refine F16_ok ?_
  unfold F16 accB
  refine cl_mono (why_spec H) ?_
  rintro r w ⟨rfl, H⟩
  refine nc_st rfl ?_
  obtain ⟨b2, m, H⟩ := bl_open H
  refine ld_st (x := some m) 0 H rfl rfl rfl ?_
  refine mget_st 1 H rfl rfl ?_
  refine nw_st H fun b10 w H => ?_
  refine vst_st (x := Z46) (y := (S.es.lookup n).getD Z46) lenVo 0 H rfl fun w H => ?_
  have H := bl_shut (H.ord [1, 2, 3, 4])
  by_cases hw1 : whyB S b = 231
  · rw [if_pos (by simp [hw1]), if_pos hw1]
    exact ⟨hw1, (H.front 1).drop⟩
  · rw [if_neg (by simpa using hw1), if_neg hw1]
    refine cl_mono (slotB_spec H) ?_
    rintro r w ⟨rfl, H⟩
    by_cases hs : slotB n = false
    · rw [if_pos (by simp [hs]), if_pos hs]
      exact ⟨rfl, (H.front 1).drop⟩
    · rw [if_neg (by simpa using hs), if_neg hs]
      by_cases hv : 1000 < v.length
      · rw [if_pos (by simp; omega), if_pos hv]
        exact ⟨rfl, (H.front 1).drop⟩
      · rw [if_neg (by simp; omega), if_neg hv]
        by_cases hw : whyB S b ≠ 0
        · rw [if_pos (by simpa using hw), if_pos hw]
          exact ⟨rfl, (H.front 1).drop⟩
        · rw [if_neg (by simpa using hw), if_neg hw]
          have hnum : numB b = true := by
            unfold whyB at hw
            cases h : numB b with
            | true => rfl
            | false => rw [h] at hw; simp at hw
          have hrec : okR (.acc b n v) := ⟨hnum, by simpa using hs, by omega⟩
          have fin : ∀ (w : World), St W (cel b10 (TVo.cells ((S.es.lookup n).getD Z46)) 47 :: blA a d S :: l) w →
              nwS 91 TV [(⟨(1 : Int), (2 : Int), (0 : Int), (0 : Nat), ([] : List UInt8)⟩ : Val), (⟨(2 : Int), (0 : Int), b, (0 : Nat), ([] : List UInt8)⟩ : Val), (⟨(2 : Int), (0 : Int), n, (0 : Nat), ([] : List UInt8)⟩ : Val), (⟨(4 : Int), (0 : Int), (0 : Int), (0 : Nat), v⟩ : Val)] w fun a18 w19 =>
              cl Try.prog 27 [.pointer (some ⟨a, 0, none⟩), tSlc.enc ((⟨some a18, 4, 4⟩ : Slc))] (tInt .i64) w19 fun r21 w20 =>
              if (r21 == (0 : Int)) = true then (
                cl Try.prog 29 [.pointer (some ⟨a, 0, none⟩), TVo.enc ((⟨n, b, v⟩ : Vote))] tUnit w20 fun r24 w23 =>
                F16_j1 r21 w23 fun r w' => r = (if (layB S (.acc b n v)).2 = 0 then (voteB (layB S (.acc b n v)).1 ⟨n, b, v⟩, (0 : Int)) else layB S (.acc b n v)).2 ∧ St W (blA a d (if (layB S (.acc b n v)).2 = 0 then (voteB (layB S (.acc b n v)).1 ⟨n, b, v⟩, (0 : Int)) else layB S (.acc b n v)).1 :: l) w'
              ) else (
                F16_j1 r21 w20 fun r w' => r = (if (layB S (.acc b n v)).2 = 0 then (voteB (layB S (.acc b n v)).1 ⟨n, b, v⟩, (0 : Int)) else layB S (.acc b n v)).2 ∧ St W (blA a d (if (layB S (.acc b n v)).2 = 0 then (voteB (layB S (.acc b n v)).1 ⟨n, b, v⟩, (0 : Int)) else layB S (.acc b n v)).1 :: l) w'
              ) := by
            intro w H
            unfold F16_j1
            refine nwS_st H fun b18 w H => ?_
            have H := row_new (sz := 5) (m := 4) rfl H
            refine cl_mono (lay_spec (r := .acc b n v) hok hrec (See.row (fun _ => rfl) 0 rfl) (H.front 2)) ?_
            rintro e w ⟨rfl, H⟩
            have H := (H.ord [1, 2]).drop.drop
            by_cases hl : (layB S (.acc b n v)).2 = 0
            · rw [if_pos (by simp [hl]), if_pos hl]
              refine cl_mono (vote_spec (x := ⟨n, b, v⟩) H) ?_
              intro r w H
              exact ⟨hl, H⟩
            · rw [if_neg (by simpa using hl), if_neg hl]
              exact ⟨rfl, H⟩
          have H := H.front 1
          cases hlk : S.es.lookup n with
          | none =>
            rw [hlk] at H fin
            refine ex_i 0 (fun h => by cases h) ?_
            refine ex_i [] (fun h => by simp at h) ?_
            rw [if_neg (by simp)]
            refine ex_i 0 (fun h => by cases h) ?_
            rw [if_neg (by simp)]
            exact fin w H
          | some o =>
            rw [hlk] at H fin
            refine ex_i o.B (fun _ => rdat_cel (tInt .i64) H rfl rfl) ?_
            refine ex_i o.V (fun _ => rdat_cel tStr H rfl rfl) ?_
            by_cases hB : o.B = b
            · simp only [hB, if_true]
              by_cases hV : o.V = v
              · rw [if_neg (by simp [hV]), if_pos hV]
                refine ex_i o.B (fun _ => rdat_cel (tInt .i64) H rfl rfl) ?_
                rw [if_pos (by simp [hB])]
                exact ⟨rfl, H.drop⟩
              · rw [if_pos (by simpa using hV), if_neg hV]
                exact ⟨rfl, H.drop⟩
            · rw [if_neg (by simp [hB])]
              refine ex_i o.B (fun _ => rdat_cel (tInt .i64) H rfl rfl) ?_
              rw [if_neg (by simp [hB])]
              simp only [hB, if_false]
              exact fin w H
end
end Go.Proofs.Ytjkmeooncmhonaa.Ballot
