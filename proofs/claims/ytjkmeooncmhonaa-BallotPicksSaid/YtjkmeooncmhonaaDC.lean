/- Disks: what they are, and what each act makes of them: contracts. -/
import Derived.Test.YtjkmeooncmhonaaDB
namespace Go.Proofs.Ytjkmeooncmhonaa.Disk
open Go Go.Proofs.Ytjkmeooncmhonaa.Cf Go.Proofs.Ytjkmeooncmhonaa.Wire
set_option linter.unusedVariables false
set_option linter.unusedSimpArgs false
set_option maxRecDepth 100000
abbrev SL := S101
abbrev TL := T101
abbrev SD := S79
abbrev TD := T79
structure Log where
  b : List UInt8
  sure : Nat
structure Dk where
  logs : List Log
  acts : Int
  down : Bool
  armed : Int
  keep : List Int
structure Dk.Ok (D : Dk) : Prop where
  len : D.logs.length ≤ 16
  log : ∀ g ∈ D.logs, g.sure ≤ g.b.length ∧ g.b.length ≤ 4194304
def kept (keep : List Int) (i : Nat) (g : Log) : Nat := g.sure + match keep[i]? with
  | none => 0
  | some k => (min (max k 0) ((g.b.length : Int) - g.sure)).toNat
def cutL (keep : List Int) (i : Nat) (g : Log) : Log := ⟨g.b.take (kept keep i g), kept keep i g⟩
def crash (keep : List Int) (D : Dk) : Dk := if D.down then D else { D with down := true, armed := 0, logs := D.logs.mapIdx (cutL keep) }
def actD (D : Dk) (n size : Int) (f : Log → Log) : Dk × Int :=
  if ¬ (0 ≤ n ∧ n < D.logs.length) then (D, 70) else if D.down then (D, 71) else if 4194304 < size then (D, 72)
  else if D.armed = 1 then (crash D.keep D, 71)
  else ({ D with armed := if 1 < D.armed then IntKind.i64.wrap (D.armed - 1) else D.armed, acts := IntKind.i64.wrap (D.acts + 1), logs := D.logs.modify n.toNat f }, 0)
theorem kept_le {keep : List Int} {i : Nat} {g : Log} (h : g.sure ≤ g.b.length) : g.sure ≤ kept keep i g ∧ kept keep i g ≤ g.b.length := by
  unfold kept
  cases keep[i]? with
  | none => simp only; omega
  | some k => simp only; omega
theorem crash_ok {keep : List Int} {D : Dk} (h : D.Ok) : (crash keep D).Ok := by
  unfold crash
  split
  · exact h
  · refine ⟨by simpa using h.len, fun g hg => ?_⟩
    simp only [List.mem_mapIdx] at hg
    obtain ⟨i, hi, rfl⟩ := hg
    have h1 := h.log D.logs[i] (List.getElem_mem _)
    have h2 := kept_le (keep := keep) (i := i) h1.1
    simp only [cutL, List.length_take]
    omega
theorem actD_ok {D : Dk} {n size : Int} {f : Log → Log} (h : D.Ok) (hf : size ≤ 4194304 → ∀ g, D.logs[n.toNat]? = some g → (f g).sure ≤ (f g).b.length ∧ (f g).b.length ≤ 4194304) : (actD D n size f).1.Ok := by
  unfold actD
  split
  · exact h
  · split
    · exact h
    · split
      · exact h
      · rename_i hs
        split
        · exact crash_ok h
        · refine ⟨by simpa using h.len, fun g hg => ?_⟩
          simp only at hg
          obtain ⟨i, hi, rfl⟩ := List.getElem_of_mem hg
          rw [List.getElem_modify]
          split
          · rename_i hin
            subst hin
            have hil : n.toNat < D.logs.length := by simpa using hi
            exact hf (by omega) _ (List.getElem?_eq_getElem hil)
          · exact h.log _ (List.getElem_mem _)
section
variable {W w : World} {l l' : List Assn}
def lrow (p : Slc × Log) : Assn := row (tInt .u8) 5 1 p.1 (B p.2.b)
def lval (p : Slc × Log) : SL := ⟨p.1, p.2.sure⟩
def dskA (d : Nat) (D : Dk) : Assn := exA fun s : Slc => exA fun P : List (Slc × Log) => exA fun kp : Slc => sepA [puA (P.map Prod.snd = D.logs), cel d (TD.cells ⟨s, D.acts, D.down, D.armed, kp⟩) 80, row TL 102 2 s (P.map lval), sepA (P.map lrow), row (tInt .i64) 3 1 kp D.keep]
theorem dsk_open {d : Nat} {D : Dk} (H : St W (dskA d D :: l) w) : ∃ (s : Slc) (P : List (Slc × Log)) (kp : Slc), P.map Prod.snd = D.logs ∧ St W (cel d (TD.cells ⟨s, D.acts, D.down, D.armed, kp⟩) 80 :: row TL 102 2 s (P.map lval) :: sepA (P.map lrow) :: row (tInt .i64) 3 1 kp D.keep :: l) w := by
  obtain ⟨s, H⟩ := H.ex
  obtain ⟨P, H⟩ := H.ex
  obtain ⟨kp, H⟩ := H.ex
  have H := H.open_
  obtain ⟨h, H⟩ := St.pu (φ := P.map Prod.snd = D.logs) H
  exact ⟨s, P, kp, h, H⟩
theorem dsk_shut {d : Nat} {D : Dk} {s kp : Slc} {P : List (Slc × Log)} (h : P.map Prod.snd = D.logs) (H : St W (cel d (TD.cells ⟨s, D.acts, D.down, D.armed, kp⟩) 80 :: row TL 102 2 s (P.map lval) :: sepA (P.map lrow) :: row (tInt .i64) 3 1 kp D.keep :: l) w) : St W (dskA d D :: l) w :=
  St.toEx s (St.toEx P (St.toEx kp (St.shut (l' := [puA _, _, _, _, _]) (St.toPu h H))))
theorem split_at {α : Type} {P : List α} {i : Nat} {p : α} (h : P[i]? = some p) : ∃ P1 P2, P = P1 ++ p :: P2 ∧ P1.length = i := by
  have hi := (List.getElem?_eq_some_iff.1 h).1
  refine ⟨P.take i, P.drop (i + 1), ?_, by rw [List.length_take]; omega⟩
  have := (List.getElem?_eq_some_iff.1 h).2
  rw [← this, ← List.drop_eq_getElem_cons hi, List.take_append_drop]
theorem new_spec {n : Int} (h0 : 1 ≤ n) (h1 : n ≤ 16) (H : St W l w) : cl Try.prog 11 [.int .i64 n] (tTup2 tPtr (tInt .i64)) w fun r w' => r.2 = 0 ∧ ∃ d, r.1 = some ⟨d, 0, none⟩ ∧ St W (dskA d ⟨List.replicate n.toNat ⟨[], 0⟩, 0, false, 0, []⟩ :: l) w' := by
  refine F11_ok ?_
  unfold F11
  rw [if_neg (by simp; omega)]
  refine mkS_st (sz := 2) (by omega) (by omega) (by omega) H fun b w H => ?_
  refine nw_st H fun d w H => ?_
  refine ⟨rfl, d, rfl, ?_⟩
  refine dsk_shut (s := ⟨some ⟨b, 0, none⟩, n.toNat, n.toNat⟩) (P := List.replicate n.toNat (nilS, ⟨[], 0⟩)) (kp := nilS) (by simp) ?_
  have hm : (List.replicate n.toNat (nilS, (⟨[], 0⟩ : Log))).map lval = List.replicate n.toNat (⟨nilS, 0⟩ : SL) := by simp [lval]
  rw [hm]
  have hn : ∀ (m : Nat) {l : List Assn}, St W l w → St W (sepA ((List.replicate m (nilS, (⟨[], 0⟩ : Log))).map lrow) :: l) w := by
    intro m
    induction m with
    | zero => intro l H; exact St.shut (l' := []) H
    | succ m ih =>
      intro l H
      have h2 : (List.replicate (m + 1) (nilS, (⟨[], 0⟩ : Log))).map lrow = lrow (nilS, ⟨[], 0⟩) :: (List.replicate m (nilS, (⟨[], 0⟩ : Log))).map lrow := by rw [List.replicate_succ, List.map_cons]
      rw [h2]
      have H := row_nil (tInt .u8) 5 1 (ih H)
      exact St.shut (l' := lrow (nilS, ⟨[], 0⟩) :: _) ((H.front 1).open_ |> fun H => H.perm (by
        simp only [List.cons_append]
        exact List.perm_middle))
  have H := hn n.toNat (row_nil (tInt .i64) 3 1 H)
  exact H.ord [2, 3, 0, 1]
theorem has_spec {d : Nat} {D : Dk} {n : Int} (H : St W (dskA d D :: l) w) : cl Try.prog 47 [.pointer (some ⟨d, 0, none⟩), .int .i64 n] tBool w fun r w' => r = decide (0 ≤ n ∧ n < D.logs.length) ∧ St W (dskA d D :: l) w' := by
  obtain ⟨s, P, kp, hP, H⟩ := dsk_open H
  refine F47_ok ?_
  unfold F47
  have hs := row_len (H.front 1)
  rw [List.length_map] at hs
  have hl : P.length = D.logs.length := by rw [← hP, List.length_map]
  refine ex_i ⟨d, 0, none⟩ (fun _ => rfl) ?_
  refine ex_i s (fun _ => rdat_cel tSlc H rfl rfl) ?_
  refine ⟨?_, dsk_shut hP H⟩
  rw [hs, hl, Bool.eq_iff_iff, Bool.and_eq_true, decide_eq_true_eq, decide_eq_true_eq, decide_eq_true_eq]
/-- A log within. -/
theorem log_out {P : List (Slc × Log)} {i : Nat} {p : Slc × Log} (h : P[i]? = some p) (H : St W (sepA (P.map lrow) :: l) w) : St W (lrow p :: exA (fun P1 : List (Slc × Log) => exA fun P2 : List (Slc × Log) => sepA [puA (P = P1 ++ p :: P2 ∧ P1.length = i), sepA ((P1 ++ P2).map lrow)]) :: l) w := by
  obtain ⟨P1, P2, h1, h2⟩ := split_at h
  subst h1
  have H := big_out H
  have H := H.front 1
  have H := St.toPu (φ := P1 ++ p :: P2 = P1 ++ p :: P2 ∧ P1.length = i) ⟨rfl, h2⟩ H
  have H := St.shut (l' := [puA _, sepA _]) H
  exact (St.toEx (f := fun P1' : List (Slc × Log) => exA fun P2' : List (Slc × Log) => sepA [puA (P1 ++ p :: P2 = P1' ++ p :: P2' ∧ P1'.length = i), sepA ((P1' ++ P2').map lrow)]) P1 (St.toEx (f := fun P2' : List (Slc × Log) => sepA [puA (P1 ++ p :: P2 = P1 ++ p :: P2' ∧ P1.length = i), sepA ((P1 ++ P2').map lrow)]) P2 H)).front 1
theorem log_in {P : List (Slc × Log)} {i : Nat} {p q : Slc × Log} (H : St W (lrow q :: exA (fun P1 : List (Slc × Log) => exA fun P2 : List (Slc × Log) => sepA [puA (P = P1 ++ p :: P2 ∧ P1.length = i), sepA ((P1 ++ P2).map lrow)]) :: l) w) : St W (sepA ((P.set i q).map lrow) :: l) w := by
  have H := H.front 1
  obtain ⟨P1, H⟩ := H.ex
  obtain ⟨P2, H⟩ := H.ex
  have H := H.open_
  obtain ⟨⟨h1, h2⟩, H2⟩ := St.pu (φ := P = P1 ++ p :: P2 ∧ P1.length = i) H
  clear H
  subst h1; subst h2
  have e : (P1 ++ p :: P2).set P1.length q = P1 ++ q :: P2 := by
    rw [List.set_append_right _ _ (Nat.le_refl _)]; simp
  rw [e]
  exact big_in (H2.front 1)
theorem lrow_cap {p : Slc × Log} (H : St W (lrow p :: l) w) : p.1.len = p.2.b.length ∧ p.1.len ≤ p.1.cap := by
  have h1 := row_len H
  rw [B_len] at h1
  exact ⟨h1, row_cap H⟩
theorem stepTo_zero (keep : List Int) (L : List Log) : (L.mapIdx fun j g => if j < 0 then cutL keep j g else g) = L := by
  apply List.ext_getElem?
  intro j
  rw [List.getElem?_mapIdx]
  cases L[j]? <;> simp
theorem stepTo_all (keep : List Int) (L : List Log) : (L.mapIdx fun j g => if j < L.length then cutL keep j g else g) = L.mapIdx (cutL keep) := by
  apply List.ext_getElem?
  intro j
  rw [List.getElem?_mapIdx, List.getElem?_mapIdx]
  cases h : L[j]? with
  | none => rfl
  | some g =>
    have := (List.getElem?_eq_some_iff.1 h).1
    simp [this]
theorem stepTo_succ {keep : List Int} {L : List Log} {i : Nat} {g : Log} (h : L[i]? = some g) : (L.mapIdx fun j g => if j < i + 1 then cutL keep j g else g) = (L.mapIdx fun j g => if j < i then cutL keep j g else g).set i (cutL keep i g) := by
  apply List.ext_getElem?
  intro j
  have hi := (List.getElem?_eq_some_iff.1 h).1
  rw [List.getElem?_mapIdx, List.getElem?_set, List.length_mapIdx, List.getElem?_mapIdx]
  by_cases e : i = j
  · subst e
    rw [if_pos rfl, if_pos hi, h]; simp
  · rw [if_neg e]
    cases hj : L[j]? with
    | none => rfl
    | some g' =>
      simp only [Option.map_some]
      by_cases c : j < i
      · rw [if_pos c, if_pos (by omega)]
      · rw [if_neg c, if_neg (by omega)]
/-- The loss of power. -/
theorem crash_core {d : Nat} {s kp ks : Slc} {P : List (Slc × Log)} {acts armed : Int} {keep : List Int} (hok : ∀ p ∈ P, p.2.sure ≤ p.2.b.length ∧ p.2.b.length ≤ 4194304) (hp : P.length ≤ 16) (k : See 1 l (tInt .i64) ks keep)
    (H : St W (cel d (TD.cells ⟨s, acts, false, armed, kp⟩) 80 :: row TL 102 2 s (P.map lval) :: sepA (P.map lrow) :: l) w) :
    cl Try.prog 19 [.pointer (some ⟨d, 0, none⟩), tSlc.enc ks] tUnit w fun _ w' => ∃ P' : List (Slc × Log), P'.map Prod.snd = (P.map Prod.snd).mapIdx (cutL keep) ∧ St W (cel d (TD.cells ⟨s, acts, true, 0, kp⟩) 80 :: row TL 102 2 s (P'.map lval) :: sepA (P'.map lrow) :: l) w' := by
  have hkl := k.tail.tail.tail.len H
  refine F19_ok ?_
  unfold F19
  refine nc_st rfl ?_
  refine ld_st (x := false) 0 H rfl rfl rfl ?_
  rw [if_neg (by simp)]
  refine st_st (x := true) 0 H rfl rfl (Nat.le_of_ble_eq_true rfl) fun w H => ?_
  refine st_st (x := (0 : Int)) 0 H rfl rfl (Nat.le_of_ble_eq_true rfl) fun w H => ?_
  refine ld_st (x := s) 0 H rfl rfl rfl ?_
  have hs := row_len (H.front 1)
  rw [List.length_map] at hs
  refine lp_p (fun i w => ∃ (j : Nat) (Q : List (Slc × Log)), i = (j : Int) ∧ j ≤ P.length ∧ Q.map Prod.snd = ((P.map Prod.snd).mapIdx fun m g => if m < j then cutL keep m g else g) ∧ St W (cel d (TD.cells ⟨s, acts, true, 0, kp⟩) 80 :: row TL 102 2 s (Q.map lval) :: sepA (Q.map lrow) :: l) w) (fun i => (P.length - i).toNat)
    ⟨0, P, rfl, by omega, (stepTo_zero _ _).symm, H⟩ ?_
  clear H
  rintro i w ⟨j, Q, rfl, hj, hQ, H⟩ K hK
  have hQl : Q.length = P.length := by
    have := congrArg List.length hQ
    simpa using this
  unfold F19_l1
  rw [hs]
  split
  · rename_i hi
    have hi : j < P.length := by simpa using hi
    refine ld_st (x := s) 0 H rfl rfl rfl ?_
    obtain ⟨a, ha⟩ := row_ix (i := (j : Int)) (H.front 1) (by omega) (by simp; omega)
    refine ex_i a ha ?_
    have hg0 : P[j]? = some P[j] := List.getElem?_eq_getElem hi
    have hq0 : Q[j]? = some Q[j] := List.getElem?_eq_getElem (by omega)
    have hmem : P[j] ∈ P := List.getElem_mem _
    have hsame : Q[j].2 = P[j].2 := by
      have := congrArg (fun l => l[j]?) hQ
      simp only [List.getElem?_map, hq0, List.getElem?_mapIdx, hg0, Option.map_some] at this
      simpa using this
    have hokj := hok _ hmem
    have hqq : (Q.map lval)[((j : Int)).toNat]? = some (lval Q[j]) := by simp [hq0]
    have hstep := stepTo_succ (keep := keep) (L := P.map Prod.snd) (i := j) (g := P[j].2) (by simp [hg0])
    generalize P[j] = p at hg0 hmem hsame hokj hstep
    generalize Q[j] = q at hq0 hqq hsame
    obtain ⟨qs, qg⟩ := q
    obtain ⟨ps, pg⟩ := p
    simp only at hsame hokj hstep
    subst hsame
    have H1 := log_out hq0 (H.front 2)
    have hc := lrow_cap H1
    simp only at hc
    refine ex_i (qg.sure : Int) ?_ ?_
    · exact fld_row (U := tInt .i64) (fun _ => rfl) ha hqq rfl (H.front 1)
    have fin : ∀ (w : World) (n : Int), n = (kept keep j qg : Nat) → St W (cel d (TD.cells ⟨s, acts, true, 0, kp⟩) 80 :: row TL 102 2 s (Q.map lval) :: sepA (Q.map lrow) :: l) w → F19_j2 (j : Int) a n w K fun _ w' => ∃ P' : List (Slc × Log), P'.map Prod.snd = (P.map Prod.snd).mapIdx (cutL keep) ∧ St W (cel d (TD.cells ⟨s, acts, true, 0, kp⟩) 80 :: row TL 102 2 s (P'.map lval) :: sepA (P'.map lrow) :: l) w' := by
      intro w n hn H
      subst hn
      have hk := kept_le (keep := keep) (i := j) hokj.1
      unfold F19_j2
      refine ex_i qs (fld_row (U := tSlc) (fun _ => rfl) ha hqq rfl (H.front 1)) ?_
      refine sub_st (by omega) (by omega) (by omega) (by omega) fun r hr => ?_
      have H := log_out hq0 (H.front 2)
      obtain ⟨hr2, H⟩ := row_cut3 (fun _ => rfl) hr (by rw [B_len]; exact Int.ofNat_le.2 hk.2) H
      refine stf_row (x := lval (qs, qg)) (y := (⟨r, qg.sure⟩ : SL)) (o := 0) (U := tSlc) (z := r) (fun _ => rfl) ha hqq rfl (Nat.le_of_ble_eq_true rfl) (H.front 3) fun w H => ?_
      refine stf_row (x := (⟨r, qg.sure⟩ : SL)) (y := (⟨r, (kept keep j qg : Nat)⟩ : SL)) (o := 1) (U := tInt .i64) (z := ((kept keep j qg : Nat) : Int)) (fun _ => rfl) ha (List.getElem?_set_self (by rw [List.length_map, Int.toNat_natCast]; omega)) rfl (Nat.le_of_ble_eq_true rfl) H fun w H => ?_
      have e1 : IntKind.i64.wrap ((j : Int) + 1) = ((j + 1 : Nat) : Int) := by rw [wr_i64]; omega
      rw [e1]
      have hb : (B qg.b).take ((kept keep j qg : Nat) : Int).toNat = B (cutL keep j qg).b := by
        rw [Int.toNat_natCast]; exact (B_take _ _).symm
      rw [hb] at H
      have H := log_in (q := (r, cutL keep j qg)) (H.ord [1, 2])
      refine hK _ _ ⟨j + 1, Q.set j (r, cutL keep j qg), rfl, by omega, ?_, ?_⟩ (by omega)
      · rw [List.map_set, hQ, hstep]
      · have e2 : (((Q.map lval).set ((j : Int)).toNat (⟨r, qg.sure⟩ : SL)).set ((j : Int)).toNat (⟨r, (kept keep j qg : Nat)⟩ : SL)) = (Q.set j (r, cutL keep j qg)).map lval := by
          rw [List.set_set, List.map_set, Int.toNat_natCast]; rfl
        rw [e2] at H
        exact H.ord [2, 1, 0]
    rw [hkl]
    split
    · rename_i hlt
      have hlt : j < keep.length := by simpa using hlt
      have hkx : keep[((j : Int)).toNat]? = some keep[j] := by rw [Int.toNat_natCast]; exact List.getElem?_eq_getElem hlt
      have hkk : keep[j]? = some keep[j] := List.getElem?_eq_getElem hlt
      generalize keep[j] = kj at hkx hkk
      refine dr_st H fun w H => ?_
      obtain ⟨ka, hka⟩ := k.tail.tail.tail.ix (i := (j : Int)) H (by omega) (by omega)
      refine ex_i ka hka ?_
      refine ex_i kj (k.tail.tail.tail.rd hka hkx H) ?_
      refine ex_i qs (fld_row (U := tSlc) (fun _ => rfl) ha hqq rfl (H.front 1)) ?_
      refine ex_i (qg.sure : Int) (fld_row (U := tInt .i64) (fun _ => rfl) ha hqq rfl (H.front 1)) ?_
      refine fin _ _ ?_ H
      have hkept : kept keep j qg = qg.sure + (min (max kj 0) ((qg.b.length : Int) - qg.sure)).toNat := by unfold kept; rw [hkk]
      rw [hc.1, wrap_i64 (x := (qg.b.length : Int) - (qg.sure : Int)) (by omega) (by omega), hkept, wrap_i64 (by omega) (by omega)]
      omega
    · rename_i hlt
      have hlt : keep.length ≤ j := by simp at hlt; omega
      refine fin _ _ ?_ H
      have hkept : kept keep j qg = qg.sure := by
        unfold kept; rw [List.getElem?_eq_none hlt]; rfl
      rw [hkept]
  · rename_i hi
    have hi : j = P.length := by simp at hi; omega
    subst hi
    refine ⟨Q, ?_, H⟩
    rw [hQ]
    have := stepTo_all keep (P.map Prod.snd)
    rw [List.length_map] at this
    exact this
theorem crash_spec {d : Nat} {D : Dk} {ks : Slc} {keep : List Int} (hok : D.Ok) (k : See 1 l (tInt .i64) ks keep) (H : St W (dskA d D :: l) w) :
    cl Try.prog 19 [.pointer (some ⟨d, 0, none⟩), tSlc.enc ks] tUnit w fun _ w' => St W (dskA d (crash keep D) :: l) w' := by
  obtain ⟨s, P, kp, hP, H⟩ := dsk_open H
  by_cases hd : D.down = true
  · refine F19_ok ?_
    unfold F19 crash
    rw [if_pos hd]
    refine nc_st rfl ?_
    refine ld_st (x := D.down) 0 H rfl rfl rfl ?_
    rw [if_pos hd]
    exact dsk_shut hP H
  · have hdf : D.down = false := by simpa using hd
    rw [hdf] at H
    have hl : P.length = D.logs.length := by rw [← hP, List.length_map]
    refine cl_mono (crash_core (fun p hp => hok.log p.2 (by rw [← hP]; exact List.mem_map_of_mem hp)) (by rw [hl]; exact hok.len) k.tail H) ?_
    rintro r w ⟨P', hP', H⟩
    rw [hP] at hP'
    unfold crash
    rw [if_neg hd]
    exact dsk_shut (D := { D with down := true, armed := 0, logs := D.logs.mapIdx (cutL keep) }) hP' H
end
end Go.Proofs.Ytjkmeooncmhonaa.Disk
