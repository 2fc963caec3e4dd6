/- Own texts of this claim, part 4: short, merged. -/
import Derived.Test.YtehclfjjjiiieaaGreatRows
import Derived.OpenShut
import Derived.ShutString
import Derived.ChangeOld
import Derived.Laws.Cover2
import Derived.Test.YtehclfjjjiiieaaGreatZ3
namespace Go.Proofs.YtehclfjjjiiieaaGreat.Disk
open Go Go.Proofs.YtehclfjjjiiieaaGreat.Cf Go.Proofs.YtehclfjjjiiieaaGreat.Wire
set_option linter.unusedVariables false
set_option linter.unusedSimpArgs false
set_option maxRecDepth 100000
abbrev SL := S92
abbrev TL := T92
abbrev TD := T76
structure Log where
 b : List UInt8
 sure : Nat
structure Dk where
 logs : List Log
 acts : Int
 down : Bool
 armed : Int
 keep : List Int
structure Dk.Ok (D : Dk) : Prop where
 len : D.logs.length ≤ 16
 log : ∀ g ∈ D.logs, g.sure ≤ g.b.length ∧ g.b.length ≤ 4194304
def kept (keep : List Int) (i : Nat) (g : Log) : Nat := g.sure + match keep[i]? with
 | none => 0
 | some k => (min (max k 0) ((g.b.length : Int) - g.sure)).toNat
def cutL (keep : List Int) (i : Nat) (g : Log) : Log := ⟨g.b.take (kept keep i g), kept keep i g⟩
def crash (keep : List Int) (D : Dk) : Dk := if D.down then D else { D with down := true, armed := 0, logs := D.logs.mapIdx (cutL keep) }
def actD (D : Dk) (n size : Int) (f : Log → Log) : Dk × Int :=
 if ¬ (0 ≤ n ∧ n < D.logs.length) then (D, 70) else if D.down then (D, 71) else if 4194304 < size then (D, 72)
 else if D.armed = 1 then (crash D.keep D, 71)
 else ({ D with armed := if 1 < D.armed then IntKind.i64.wrap (D.armed - 1) else D.armed, acts := IntKind.i64.wrap (D.acts + 1), logs := D.logs.modify n.toNat f }, 0)
theorem kept_le {keep : List Int} {i : Nat} {g : Log} (h : g.sure ≤ g.b.length) : g.sure ≤ kept keep i g ∧ kept keep i g ≤ g.b.length := by
 unfold kept
 cases keep[i]? with
 | none => simp only; omega
 | some k => simp only; omega
theorem crash_ok {keep : List Int} {D : Dk} (h : D.Ok) : (crash keep D).Ok := by
 unfold crash
 split
 ·exact h
 ·refine ⟨by simpa using h.len, fun g hg => ?_⟩
  simp only [List.mem_mapIdx] at hg
  obtain ⟨i, hi, rfl⟩ := hg
  have h1 := h.log D.logs[i] (List.getElem_mem _)
  have h2 := kept_le (keep := keep) (i := i) h1.1
  simp only [cutL, List.length_take]
  omega
theorem actD_ok {D : Dk} {n size : Int} {f : Log → Log} (h : D.Ok) (hf : size ≤ 4194304 → ∀ g, D.logs[n.toNat]? = some g → (f g).sure ≤ (f g).b.length ∧ (f g).b.length ≤ 4194304) : (actD D n size f).1.Ok := by
 unfold actD
 split
 ·exact h
 ·split
  ·exact h
  ·split
   ·exact h
   ·rename_i hs
    split
    ·exact crash_ok h
    ·refine ⟨by simpa using h.len, fun g hg => ?_⟩
     simp only at hg
     obtain ⟨i, hi, rfl⟩ := List.getElem_of_mem hg
     rw [List.getElem_modify]
     split
     ·rename_i hin
      subst hin
      have hil : n.toNat < D.logs.length := by simpa using hi
      exact hf (by omega) _ (List.getElem?_eq_getElem hil)
     ·exact h.log _ (List.getElem_mem _)
section
variable {W w : World} {l l' : List Assn}
def lrow (p : Slc × Log) : Assn := row (tInt .u8) 5 1 p.1 (B p.2.b)
def lval (p : Slc × Log) : SL := ⟨p.1, p.2.sure⟩
def dskA (d : Nat) (D : Dk) : Assn := exA fun s : Slc => exA fun P : List (Slc × Log) => exA fun kp : Slc => sepA [puA (P.map Prod.snd = D.logs), cel d (TD.cells ⟨s, D.acts, D.down, D.armed, kp⟩) 77, row TL 93 2 s (P.map lval), sepA (P.map lrow), row (tInt .i64) 3 1 kp D.keep]
theorem dsk_open {d : Nat} {D : Dk} (H : St W (dskA d D :: l) w) : ∃ (s : Slc) (P : List (Slc × Log)) (kp : Slc), P.map Prod.snd = D.logs ∧ St W (cel d (TD.cells ⟨s, D.acts, D.down, D.armed, kp⟩) 77 :: row TL 93 2 s (P.map lval) :: sepA (P.map lrow) :: row (tInt .i64) 3 1 kp D.keep :: l) w := by
 obtain ⟨s, H⟩ := H.ex
 obtain ⟨P, H⟩ := H.ex
 obtain ⟨kp, H⟩ := H.ex
 have H := H.open_
 obtain ⟨h, H⟩ := St.pu (φ := P.map Prod.snd = D.logs) H
 exact ⟨s, P, kp, h, H⟩
theorem dsk_shut {d : Nat} {D : Dk} {s kp : Slc} {P : List (Slc × Log)} (h : P.map Prod.snd = D.logs) (H : St W (cel d (TD.cells ⟨s, D.acts, D.down, D.armed, kp⟩) 77 :: row TL 93 2 s (P.map lval) :: sepA (P.map lrow) :: row (tInt .i64) 3 1 kp D.keep :: l) w) : St W (dskA d D :: l) w :=
 St.toEx s (St.toEx P (St.toEx kp (St.shut (l' := [puA _, _, _, _, _]) (St.toPu h H))))
theorem split_at {α : Type} {P : List α} {i : Nat} {p : α} (h : P[i]? = some p) : ∃ P1 P2, P = P1 ++ p :: P2 ∧ P1.length = i := by
 have hi := (List.getElem?_eq_some_iff.1 h).1
 refine ⟨P.take i, P.drop (i + 1), ?_, by rw [List.length_take]; omega⟩
 have := (List.getElem?_eq_some_iff.1 h).2
 rw [← this, ← List.drop_eq_getElem_cons hi, List.take_append_drop]
theorem new_spec {n : Int} (h0 : 1 ≤ n) (h1 : n ≤ 16) (H : St W l w) : cl Tryz.prog 12 [.int .i64 n] (tTup2 tPtr (tInt .i64)) w fun r w' => r.2 = 0 ∧ ∃ d, r.1 = some ⟨d, 0, none⟩ ∧ St W (dskA d ⟨List.replicate n.toNat ⟨[], 0⟩, 0, false, 0, []⟩ :: l) w' := by
 refine F12_ok ?_
 unfold F12
 rw [if_neg (by simp; omega)]
 refine mkS_st (sz := 2) (by omega) (by omega) (by omega) H fun b w H => ?_
 refine nw_st H fun d w H => ?_
 refine ⟨rfl, d, rfl, ?_⟩
 refine dsk_shut (s := ⟨some ⟨b, 0, none⟩, n.toNat, n.toNat⟩) (P := List.replicate n.toNat (nilS, ⟨[], 0⟩)) (kp := nilS) (by simp) ?_
 have hm : (List.replicate n.toNat (nilS, (⟨[], 0⟩ : Log))).map lval = List.replicate n.toNat (⟨nilS, 0⟩ : SL) := by simp [lval]
 rw [hm]
 have hn : ∀ (m : Nat) {l : List Assn}, St W l w → St W (sepA ((List.replicate m (nilS, (⟨[], 0⟩ : Log))).map lrow) :: l) w := by
  intro m
  induction m with
  | zero => intro l H; exact St.shut (l' := []) H
  | succ m ih =>
   intro l H
   have h2 : (List.replicate (m + 1) (nilS, (⟨[], 0⟩ : Log))).map lrow = lrow (nilS, ⟨[], 0⟩) :: (List.replicate m (nilS, (⟨[], 0⟩ : Log))).map lrow := by rw [List.replicate_succ, List.map_cons]
   rw [h2]
   have H := row_nil (tInt .u8) 5 1 (ih H)
   exact St.shut (l' := lrow (nilS, ⟨[], 0⟩) :: _) ((H.front 1).open_ |> fun H => H.perm (by
    simp only [List.cons_append]
    exact List.perm_middle))
 have H := hn n.toNat (row_nil (tInt .i64) 3 1 H)
 exact H.ord [2, 3, 0, 1]
theorem has_spec {d : Nat} {D : Dk} {n : Int} (H : St W (dskA d D :: l) w) : cl Tryz.prog 107 [.pointer (some ⟨d, 0, none⟩), .int .i64 n] tBool w fun r w' => r = decide (0 ≤ n ∧ n < D.logs.length) ∧ St W (dskA d D :: l) w' := by
 obtain ⟨s, P, kp, hP, H⟩ := dsk_open H
 refine F107_ok ?_
 unfold F107
 have hs := row_len (H.front 1)
 rw [List.length_map] at hs
 have hl : P.length = D.logs.length := by rw [← hP, List.length_map]
 refine ex_i ⟨d, 0, none⟩ (fun _ => rfl) ?_
 refine ex_i s (fun _ => rdat_cel tSlc H rfl rfl) ?_
 refine ⟨?_, dsk_shut hP H⟩
 rw [hs, hl, Bool.eq_iff_iff, Bool.and_eq_true, decide_eq_true_eq, decide_eq_true_eq, decide_eq_true_eq]
theorem log_out {P : List (Slc × Log)} {i : Nat} {p : Slc × Log} (h : P[i]? = some p) (H : St W (sepA (P.map lrow) :: l) w) : St W (lrow p :: exA (fun P1 : List (Slc × Log) => exA fun P2 : List (Slc × Log) => sepA [puA (P = P1 ++ p :: P2 ∧ P1.length = i), sepA ((P1 ++ P2).map lrow)]) :: l) w := by
 obtain ⟨P1, P2, h1, h2⟩ := split_at h
 subst h1
 have H := big_out H
 have H := H.front 1
 have H := St.toPu (φ := P1 ++ p :: P2 = P1 ++ p :: P2 ∧ P1.length = i) ⟨rfl, h2⟩ H
 have H := St.shut (l' := [puA _, sepA _]) H
 exact (St.toEx (f := fun P1' : List (Slc × Log) => exA fun P2' : List (Slc × Log) => sepA [puA (P1 ++ p :: P2 = P1' ++ p :: P2' ∧ P1'.length = i), sepA ((P1' ++ P2').map lrow)]) P1 (St.toEx (f := fun P2' : List (Slc × Log) => sepA [puA (P1 ++ p :: P2 = P1 ++ p :: P2' ∧ P1.length = i), sepA ((P1 ++ P2').map lrow)]) P2 H)).front 1
theorem log_in {P : List (Slc × Log)} {i : Nat} {p q : Slc × Log} (H : St W (lrow q :: exA (fun P1 : List (Slc × Log) => exA fun P2 : List (Slc × Log) => sepA [puA (P = P1 ++ p :: P2 ∧ P1.length = i), sepA ((P1 ++ P2).map lrow)]) :: l) w) : St W (sepA ((P.set i q).map lrow) :: l) w := by
 have H := H.front 1
 obtain ⟨P1, H⟩ := H.ex
 obtain ⟨P2, H⟩ := H.ex
 have H := H.open_
 obtain ⟨⟨h1, h2⟩, H2⟩ := St.pu (φ := P = P1 ++ p :: P2 ∧ P1.length = i) H
 clear H
 subst h1; subst h2
 have e : (P1 ++ p :: P2).set P1.length q = P1 ++ q :: P2 := by
  rw [List.set_append_right _ _ (Nat.le_refl _)]; simp
 rw [e]
 exact big_in (H2.front 1)
theorem lrow_cap {p : Slc × Log} (H : St W (lrow p :: l) w) : p.1.len = p.2.b.length ∧ p.1.len ≤ p.1.cap := by
 have h1 := row_len H
 rw [B_len] at h1
 exact ⟨h1, row_cap H⟩
theorem stepTo_zero (keep : List Int) (L : List Log) : (L.mapIdx fun j g => if j < 0 then cutL keep j g else g) = L := by
 apply List.ext_getElem?
 intro j
 rw [List.getElem?_mapIdx]
 cases L[j]? <;> simp
theorem stepTo_all (keep : List Int) (L : List Log) : (L.mapIdx fun j g => if j < L.length then cutL keep j g else g) = L.mapIdx (cutL keep) := by
 apply List.ext_getElem?
 intro j
 rw [List.getElem?_mapIdx, List.getElem?_mapIdx]
 cases h : L[j]? with
 | none => rfl
 | some g =>
  have := (List.getElem?_eq_some_iff.1 h).1
  simp [this]
theorem stepTo_succ {keep : List Int} {L : List Log} {i : Nat} {g : Log} (h : L[i]? = some g) : (L.mapIdx fun j g => if j < i + 1 then cutL keep j g else g) = (L.mapIdx fun j g => if j < i then cutL keep j g else g).set i (cutL keep i g) := by
 apply List.ext_getElem?
 intro j
 have hi := (List.getElem?_eq_some_iff.1 h).1
 rw [List.getElem?_mapIdx, List.getElem?_set, List.length_mapIdx, List.getElem?_mapIdx]
 by_cases e : i = j
 ·subst e
  rw [if_pos rfl, if_pos hi, h]; simp
 ·rw [if_neg e]
  cases hj : L[j]? with
  | none => rfl
  | some g' =>
   simp only [Option.map_some]
   by_cases c : j < i
   ·rw [if_pos c, if_pos (by omega)]
   ·rw [if_neg c, if_neg (by omega)]
theorem crash_core {d : Nat} {s kp ks : Slc} {P : List (Slc × Log)} {acts armed : Int} {keep : List Int} (hok : ∀ p ∈ P, p.2.sure ≤ p.2.b.length ∧ p.2.b.length ≤ 4194304) (hp : P.length ≤ 16) (k : See 1 l (tInt .i64) ks keep)
  (H : St W (cel d (TD.cells ⟨s, acts, false, armed, kp⟩) 77 :: row TL 93 2 s (P.map lval) :: sepA (P.map lrow) :: l) w) :
  cl Tryz.prog 16 [.pointer (some ⟨d, 0, none⟩), tSlc.enc ks] tUnit w fun _ w' => ∃ P' : List (Slc × Log), P'.map Prod.snd = (P.map Prod.snd).mapIdx (cutL keep) ∧ St W (cel d (TD.cells ⟨s, acts, true, 0, kp⟩) 77 :: row TL 93 2 s (P'.map lval) :: sepA (P'.map lrow) :: l) w' := by
 have hkl := k.tail.tail.tail.len H
 refine F16_ok ?_
 unfold F16
 refine nc_st rfl ?_
 refine ld_st (x := false) 0 H rfl rfl rfl ?_
 rw [if_neg (by simp)]
 refine st_st (x := true) 0 H rfl rfl (Nat.le_of_ble_eq_true rfl) fun w H => ?_
 refine st_st (x := (0 : Int)) 0 H rfl rfl (Nat.le_of_ble_eq_true rfl) fun w H => ?_
 refine ld_st (x := s) 0 H rfl rfl rfl ?_
 have hs := row_len (H.front 1)
 rw [List.length_map] at hs
 refine lp_p (fun i w => ∃ (j : Nat) (Q : List (Slc × Log)), i = (j : Int) ∧ j ≤ P.length ∧ Q.map Prod.snd = ((P.map Prod.snd).mapIdx fun m g => if m < j then cutL keep m g else g) ∧ St W (cel d (TD.cells ⟨s, acts, true, 0, kp⟩) 77 :: row TL 93 2 s (Q.map lval) :: sepA (Q.map lrow) :: l) w) (fun i => (P.length - i).toNat)
  ⟨0, P, rfl, by omega, (stepTo_zero _ _).symm, H⟩ ?_
 clear H
 rintro i w ⟨j, Q, rfl, hj, hQ, H⟩ K hK
 have hQl : Q.length = P.length := by
  have := congrArg List.length hQ
  simpa using this
 unfold F16_l1
 rw [hs]
 split
 ·rename_i hi
  have hi : j < P.length := by simpa using hi
  refine ld_st (x := s) 0 H rfl rfl rfl ?_
  obtain ⟨a, ha⟩ := row_ix (i := (j : Int)) (H.front 1) (by omega) (by simp; omega)
  refine ex_i a ha ?_
  have hg0 : P[j]? = some P[j] := List.getElem?_eq_getElem hi
  have hq0 : Q[j]? = some Q[j] := List.getElem?_eq_getElem (by omega)
  have hmem : P[j] ∈ P := List.getElem_mem _
  have hsame : Q[j].2 = P[j].2 := by
   have := congrArg (fun l => l[j]?) hQ
   simp only [List.getElem?_map, hq0, List.getElem?_mapIdx, hg0, Option.map_some] at this
   simpa using this
  have hokj := hok _ hmem
  have hqq : (Q.map lval)[((j : Int)).toNat]? = some (lval Q[j]) := by simp [hq0]
  have hstep := stepTo_succ (keep := keep) (L := P.map Prod.snd) (i := j) (g := P[j].2) (by simp [hg0])
  generalize P[j] = p at hg0 hmem hsame hokj hstep
  generalize Q[j] = q at hq0 hqq hsame
  obtain ⟨qs, qg⟩ := q
  obtain ⟨ps, pg⟩ := p
  simp only at hsame hokj hstep
  subst hsame
  have H1 := log_out hq0 (H.front 2)
  have hc := lrow_cap H1
  simp only at hc
  refine ex_i (qg.sure : Int) ?_ ?_
  ·exact fld_row (U := tInt .i64) (fun _ => rfl) ha hqq rfl (H.front 1)
  have fin : ∀ (w : World) (n : Int), n = (kept keep j qg : Nat) → St W (cel d (TD.cells ⟨s, acts, true, 0, kp⟩) 77 :: row TL 93 2 s (Q.map lval) :: sepA (Q.map lrow) :: l) w → F16_j2 (j : Int) a n w K fun _ w' => ∃ P' : List (Slc × Log), P'.map Prod.snd = (P.map Prod.snd).mapIdx (cutL keep) ∧ St W (cel d (TD.cells ⟨s, acts, true, 0, kp⟩) 77 :: row TL 93 2 s (P'.map lval) :: sepA (P'.map lrow) :: l) w' := by
   intro w n hn H
   subst hn
   have hk := kept_le (keep := keep) (i := j) hokj.1
   unfold F16_j2
   refine ex_i qs (fld_row (U := tSlc) (fun _ => rfl) ha hqq rfl (H.front 1)) ?_
   refine sub_st (by omega) (by omega) (by omega) (by omega) fun r hr => ?_
   have H := log_out hq0 (H.front 2)
   obtain ⟨hr2, H⟩ := row_cut3 (fun _ => rfl) hr (by rw [B_len]; exact Int.ofNat_le.2 hk.2) H
   refine stf_row (x := lval (qs, qg)) (y := (⟨r, qg.sure⟩ : SL)) (o := 0) (U := tSlc) (z := r) (fun _ => rfl) ha hqq rfl (Nat.le_of_ble_eq_true rfl) (H.front 3) fun w H => ?_
   refine stf_row (x := (⟨r, qg.sure⟩ : SL)) (y := (⟨r, (kept keep j qg : Nat)⟩ : SL)) (o := 1) (U := tInt .i64) (z := ((kept keep j qg : Nat) : Int)) (fun _ => rfl) ha (List.getElem?_set_self (by rw [List.length_map, Int.toNat_natCast]; omega)) rfl (Nat.le_of_ble_eq_true rfl) H fun w H => ?_
   have e1 : IntKind.i64.wrap ((j : Int) + 1) = ((j + 1 : Nat) : Int) := by rw [wr_i64]; omega
   rw [e1]
   have hb : (B qg.b).take ((kept keep j qg : Nat) : Int).toNat = B (cutL keep j qg).b := by
    rw [Int.toNat_natCast]; exact (B_take _ _).symm
   rw [hb] at H
   have H := log_in (q := (r, cutL keep j qg)) (H.ord [1, 2])
   refine hK _ _ ⟨j + 1, Q.set j (r, cutL keep j qg), rfl, by omega, ?_, ?_⟩ (by omega)
   ·rw [List.map_set, hQ, hstep]
   ·have e2 : (((Q.map lval).set ((j : Int)).toNat (⟨r, qg.sure⟩ : SL)).set ((j : Int)).toNat (⟨r, (kept keep j qg : Nat)⟩ : SL)) = (Q.set j (r, cutL keep j qg)).map lval := by
     rw [List.set_set, List.map_set, Int.toNat_natCast]; rfl
    rw [e2] at H
    exact H.ord [2, 1, 0]
  rw [hkl]
  split
  ·rename_i hlt
   have hlt : j < keep.length := by simpa using hlt
   have hkx : keep[((j : Int)).toNat]? = some keep[j] := by rw [Int.toNat_natCast]; exact List.getElem?_eq_getElem hlt
   have hkk : keep[j]? = some keep[j] := List.getElem?_eq_getElem hlt
   generalize keep[j] = kj at hkx hkk
   refine dr_st H fun w H => ?_
   obtain ⟨ka, hka⟩ := k.tail.tail.tail.ix (i := (j : Int)) H (by omega) (by omega)
   refine ex_i ka hka ?_
   refine ex_i kj (k.tail.tail.tail.rd hka hkx H) ?_
   refine ex_i qs (fld_row (U := tSlc) (fun _ => rfl) ha hqq rfl (H.front 1)) ?_
   refine ex_i (qg.sure : Int) (fld_row (U := tInt .i64) (fun _ => rfl) ha hqq rfl (H.front 1)) ?_
   refine fin _ _ ?_ H
   have hkept : kept keep j qg = qg.sure + (min (max kj 0) ((qg.b.length : Int) - qg.sure)).toNat := by unfold kept; rw [hkk]
   rw [hc.1, wrap_i64 (x := (qg.b.length : Int) - (qg.sure : Int)) (by omega) (by omega), hkept, wrap_i64 (by omega) (by omega)]
   omega
  ·rename_i hlt
   have hlt : keep.length ≤ j := by simp at hlt; omega
   refine fin _ _ ?_ H
   have hkept : kept keep j qg = qg.sure := by
    unfold kept; rw [List.getElem?_eq_none hlt]; rfl
   rw [hkept]
 ·rename_i hi
  have hi : j = P.length := by simp at hi; omega
  subst hi
  refine ⟨Q, ?_, H⟩
  rw [hQ]
  have := stepTo_all keep (P.map Prod.snd)
  rw [List.length_map] at this
  exact this
theorem crash_spec {d : Nat} {D : Dk} {ks : Slc} {keep : List Int} (hok : D.Ok) (k : See 1 l (tInt .i64) ks keep) (H : St W (dskA d D :: l) w) :
  cl Tryz.prog 16 [.pointer (some ⟨d, 0, none⟩), tSlc.enc ks] tUnit w fun _ w' => St W (dskA d (crash keep D) :: l) w' := by
 obtain ⟨s, P, kp, hP, H⟩ := dsk_open H
 by_cases hd : D.down = true
 ·refine F16_ok ?_
  unfold F16 crash
  rw [if_pos hd]
  refine nc_st rfl ?_
  refine ld_st (x := D.down) 0 H rfl rfl rfl ?_
  rw [if_pos hd]
  exact dsk_shut hP H
 ·have hdf : D.down = false := by simpa using hd
  rw [hdf] at H
  have hl : P.length = D.logs.length := by rw [← hP, List.length_map]
  refine cl_mono (crash_core (fun p hp => hok.log p.2 (by rw [← hP]; exact List.mem_map_of_mem hp)) (by rw [hl]; exact hok.len) k.tail H) ?_
  rintro r w ⟨P', hP', H⟩
  rw [hP] at hP'
  unfold crash
  rw [if_neg hd]
  exact dsk_shut (D := { D with down := true, armed := 0, logs := D.logs.mapIdx (cutL keep) }) hP' H
end
end Go.Proofs.YtehclfjjjiiieaaGreat.Disk
namespace Go.Proofs.YtehclfjjjiiieaaGreat.Disk
open Go Go.Proofs.YtehclfjjjiiieaaGreat.Cf Go.Proofs.YtehclfjjjiiieaaGreat.Wire
set_option linter.unusedVariables false
set_option linter.unusedSimpArgs false
set_option maxRecDepth 100000
section
variable {W w : World} {l l' : List Assn}
theorem clv_mono {α : Type} {P : Program} {T : Ty α} {fv : Fv} {args : List Value} {K K' : α → World → Prop} (h : clv P fv args T w K) (hk : ∀ r w', K r w' → K' r w') : clv P fv args T w K' := by
 obtain ⟨k, c, h1, h2, h3⟩ := h
 exact ⟨k, c, h1, h2, cl_mono h3 hk⟩
theorem modify_set {L : List Log} {i : Nat} {g : Log} {f : Log → Log} (h : L[i]? = some g) : L.modify i f = L.set i (f g) := by
 apply List.ext_getElem?
 intro j
 rw [List.getElem?_modify, List.getElem?_set]
 by_cases e : i = j
 ·subst e
  have hh := List.getElem?_eq_some_iff.1 h
  rw [if_pos rfl, if_pos hh.1, h]
  simp
 ·simp [e]
theorem act_spec {d : Nat} {D : Dk} {n size : Int} {fv : Fv} {f : Log → Log} (hok : D.Ok) (H : St W (dskA d D :: l) w)
  (hdo : ∀ (s q : Slc) (g : Log) (xs : List SL) (a : Addr) (l0 : List Assn) (w : World), size ≤ 4194304 → D.logs[n.toNat]? = some g → xs[n.toNat]? = some ⟨q, g.sure⟩ → IxA s 2 n a → St W (row TL 93 2 s xs :: lrow (q, g) :: (l0 ++ l)) w →
   clv Tryz.prog fv [.pointer (some a)] tUnit w fun _ w' => ∃ q' : Slc, St W (row TL 93 2 s (xs.set n.toNat ⟨q', (f g).sure⟩) :: lrow (q', f g) :: (l0 ++ l)) w') :
  cl Tryz.prog 74 [.pointer (some ⟨d, 0, none⟩), .int .i64 n, .int .i64 size, fv.enc] (tInt .i64) w fun r w' => r = (actD D n size f).2 ∧ St W (dskA d (actD D n size f).1 :: l) w' := by
 refine F74_ok ?_
 unfold F74 actD
 refine cl_mono (has_spec H) ?_
 rintro r w ⟨rfl, H⟩
 by_cases hh : 0 ≤ n ∧ n < D.logs.length
 ·rw [decide_eq_true hh, if_neg (by simp), if_neg (not_not_intro hh)]
  refine nc_st rfl ?_
  obtain ⟨s, P, kp, hP, H⟩ := dsk_open H
  refine ld_st (x := D.down) 0 H rfl rfl rfl ?_
  by_cases hd : D.down = true
  ·rw [if_pos hd, if_pos hd]
   exact ⟨rfl, dsk_shut hP H⟩
  ·rw [if_neg hd, if_neg hd]
   have hdf : D.down = false := by simpa using hd
   by_cases hs : 4194304 < size
   ·rw [if_pos (by simp; omega), if_pos hs]
    exact ⟨rfl, dsk_shut hP H⟩
   ·rw [if_neg (by simp; omega), if_neg hs]
    refine ld_st (x := D.armed) 0 H rfl rfl rfl ?_
    have hl : P.length = D.logs.length := by rw [← hP, List.length_map]
    by_cases ha : D.armed = 1
    ·rw [if_pos (by simp [ha]), if_pos ha]
     refine ld_st (x := kp) 0 H rfl rfl rfl ?_
     rw [hdf] at H
     refine cl_mono (crash_core (fun p hp => hok.log p.2 (by rw [← hP]; exact List.mem_map_of_mem hp)) (by rw [hl]; exact hok.len) (See.row (fun _ => rfl) 0 rfl) H) ?_
     rintro r w ⟨P', hP', H⟩
     rw [hP] at hP'
     refine ⟨rfl, ?_⟩
     unfold crash
     rw [if_neg hd]
     exact dsk_shut (D := { D with down := true, armed := 0, logs := D.logs.mapIdx (cutL D.keep) }) hP' H
    ·rw [if_neg (by simpa using ha), if_neg ha]
     have j1 : ∀ (arm : Int) (w : World), arm = (if 1 < D.armed then IntKind.i64.wrap (D.armed - 1) else D.armed) → St W (cel d (TD.cells ⟨s, D.acts, D.down, arm, kp⟩) 77 :: row TL 93 2 s (P.map lval) :: sepA (P.map lrow) :: row (tInt .i64) 3 1 kp D.keep :: l) w →
       F74_j1 (some ⟨d, 0, none⟩) n fv w fun r w' => r = 0 ∧ St W (dskA d { D with armed := if 1 < D.armed then IntKind.i64.wrap (D.armed - 1) else D.armed, acts := IntKind.i64.wrap (D.acts + 1), logs := D.logs.modify n.toNat f } :: l) w' := by
      intro arm w harm H
      unfold F74_j1
      refine nc_st rfl ?_
      refine ld_st (x := D.acts) 0 H rfl rfl rfl ?_
      refine st_st (x := IntKind.i64.wrap (D.acts + 1)) 0 H rfl rfl (Nat.le_of_ble_eq_true rfl) fun w H => ?_
      refine ld_st (x := s) 0 H rfl rfl rfl ?_
      obtain ⟨a, hia⟩ := row_ix (i := n) (H.front 1) hh.1 (by rw [List.length_map, hl]; exact hh.2)
      refine ex_i a hia ?_
      have hq0 : P[n.toNat]? = some P[n.toNat] := List.getElem?_eq_getElem (by omega)
      have hg : D.logs[n.toNat]? = some (P[n.toNat]).2 := by rw [← hP, List.getElem?_map, hq0]; rfl
      generalize P[n.toNat] = p at hq0 hg
      obtain ⟨q, g⟩ := p
      simp only at hg
      have H := log_out hq0 (H.front 2)
      refine clv_mono (hdo s q g (P.map lval) a [_, _, _] w (by omega) hg (by rw [List.getElem?_map, hq0]; rfl) hia (H.ord [3, 0])) ?_
      rintro r w ⟨q', H⟩
      have H := log_in (q := (q', f g)) (H.ord [1, 2])
      refine ⟨rfl, ?_⟩
      refine dsk_shut (s := s) (kp := kp) (P := P.set n.toNat (q', f g)) ?_ ?_
      ·simp only
       rw [List.map_set, hP, modify_set hg]
      ·simp only
       rw [← harm, List.map_set]
       exact H.ord [2, 1, 0]
     by_cases hb : 1 < D.armed
     ·refine ld_st (x := D.armed) 0 H rfl rfl rfl ?_
      rw [if_pos (by simpa using hb)]
      refine ld_st (x := D.armed) 0 H rfl rfl rfl ?_
      refine st_st (x := IntKind.i64.wrap (D.armed - 1)) 0 H rfl rfl (Nat.le_of_ble_eq_true rfl) fun w H => ?_
      exact j1 (IntKind.i64.wrap (D.armed - 1)) w (by rw [if_pos hb]) H
     ·refine ld_st (x := D.armed) 0 H rfl rfl rfl ?_
      rw [if_neg (by simpa using hb)]
      exact j1 D.armed w (by rw [if_neg hb]) H
 ·rw [decide_eq_false hh, if_pos (by simp), if_pos hh]
  exact ⟨rfl, H⟩
def sizeOf (D : Dk) (n : Int) : Nat := if 0 ≤ n then match D.logs[n.toNat]? with
 | some g => g.b.length
 | none => 0
 else 0
def appendD (D : Dk) (n : Int) (bs : List UInt8) : Dk × Int := actD D n ((bs.length + sizeOf D n : Nat) : Int) fun g => ⟨g.b ++ bs, g.sure⟩
def syncD (D : Dk) (n : Int) : Dk × Int := actD D n 0 fun g => ⟨g.b, g.b.length⟩
def swapD (D : Dk) (n : Int) (bs : List UInt8) : Dk × Int := actD D n (bs.length : Int) fun _ => ⟨bs, bs.length⟩
theorem append_spec {d : Nat} {D : Dk} {n : Int} {b : Slc} {bs : List UInt8} (hok : D.Ok) (hn : bs.length ≤ 4000000000000000000) (k : See 1 l (tInt .u8) b (B bs)) (H : St W (dskA d D :: l) w) :
  cl Tryz.prog 73 [.pointer (some ⟨d, 0, none⟩), .int .i64 n, tSlc.enc b] (tInt .i64) w fun r w' => r = (appendD D n bs).2 ∧ St W (dskA d (appendD D n bs).1 :: l) w' := by
 have hbl := k.tail.len H
 rw [B_len] at hbl
 refine F73_ok ?_
 unfold F73
 refine nw_st H fun b4 w H => ?_
 refine ld_st (x := b) 0 H rfl rfl rfl ?_
 have j1 : ∀ (z : Int) (w : World), z = ((bs.length + sizeOf D n : Nat) : Int) → St W (cel b4 (tSlc.cells b) 25 :: dskA d D :: l) w → F73_j1 (some ⟨d, 0, none⟩) n ⟨b4, 0, none⟩ z w fun r w' => r = (appendD D n bs).2 ∧ St W (dskA d (appendD D n bs).1 :: l) w' := by
  intro z w hz H
  subst hz
  unfold F73_j1
  refine cl_mono (act_spec (f := fun g => ⟨g.b ++ bs, g.sure⟩) hok (H.front 1) ?_) ?_
  ·intro s q g xs a l0 w hsz hg hx ha H
   refine ⟨115, [.pointer (some ⟨b4, 0, none⟩)], rfl, ent115, ?_⟩
   refine F115_ok ?_
   unfold F115
   refine dr_st H fun w H => ?_
   refine nc_st rfl ?_
   refine ex_i q (fld_row (U := tSlc) (fun _ => rfl) ha hx rfl H) ?_
   have H := (H.perm (show (row TL 93 2 s xs :: lrow (q, g) :: (l0 ++ (cel b4 (tSlc.cells b) 25 :: l))).Perm (cel b4 (tSlc.cells b) 25 :: row TL 93 2 s xs :: lrow (q, g) :: (l0 ++ l)) from by
    have h1 := (List.perm_middle (a := cel b4 (tSlc.cells b) 25) (l₁ := row TL 93 2 s xs :: lrow (q, g) :: l0) (l₂ := l))
    simpa using h1))
   refine ld_st (x := b) 0 H rfl rfl rfl ?_
   have hkk : See 1 (cel b4 (tSlc.cells b) 25 :: row TL 93 2 s xs :: lrow (q, g) :: (l0 ++ l)) (tInt .u8) b (B bs) := ((k.app l0).tail.tail.tail)
   have hgl := (hok.log g (List.mem_of_getElem? hg)).2
   refine apd_row (fun _ => rfl) 2 H rfl (hkk.rdS H) (by rw [B_len, B_len]; simp only; omega) fun r w H => ?_
   refine stf_row (x := (⟨q, g.sure⟩ : SL)) (y := (⟨r, g.sure⟩ : SL)) (o := 0) (U := tSlc) (z := r) (fun _ => rfl) ha hx rfl (Nat.le_of_ble_eq_true rfl) (H.front 2) fun w H => ?_
   refine ⟨r, ?_⟩
   rw [← B_app] at H
   refine H.perm ?_
   refine List.Perm.cons _ (List.Perm.cons _ ?_)
   exact List.perm_middle.symm
  ·rintro r w ⟨rfl, H⟩
   exact ⟨rfl, (H.front 1).drop⟩
 refine cl_mono (has_spec (H.front 1)) ?_
 rintro r w ⟨rfl, H⟩
 by_cases hh : 0 ≤ n ∧ n < D.logs.length
 ·rw [decide_eq_true hh, if_pos rfl]
  refine nc_st rfl ?_
  obtain ⟨s, P, kp, hP, H⟩ := dsk_open H
  have hl : P.length = D.logs.length := by rw [← hP, List.length_map]
  refine ld_st (x := s) 0 H rfl rfl rfl ?_
  obtain ⟨a, hia⟩ := row_ix (i := n) (H.front 1) hh.1 (by rw [List.length_map, hl]; exact hh.2)
  refine ex_i a hia ?_
  have hq0 : P[n.toNat]? = some P[n.toNat] := List.getElem?_eq_getElem (by omega)
  have hg : D.logs[n.toNat]? = some (P[n.toNat]).2 := by rw [← hP, List.getElem?_map, hq0]; rfl
  generalize P[n.toNat] = p at hq0 hg
  have hc := lrow_cap (log_out hq0 (H.front 2))
  obtain ⟨q, g⟩ := p
  simp only at hg hc
  have hgl := (hok.log g (List.mem_of_getElem? hg)).2
  refine ex_i q (fld_row (x := lval (q, g)) (U := tSlc) (fun _ => rfl) hia (by rw [List.getElem?_map, hq0]; rfl) rfl (H.front 1)) ?_
  refine j1 _ w ?_ ((dsk_shut hP H).front 1)
  have e : sizeOf D n = g.b.length := by unfold sizeOf; rw [if_pos hh.1, hg]
  rw [e, hbl, hc.1, wrap_i64 (by omega) (by omega)]
  omega
 ·rw [decide_eq_false hh, if_neg (by simp)]
  refine j1 _ w ?_ (H.front 1)
  have e : sizeOf D n = 0 := by
   unfold sizeOf
   by_cases h0 : 0 ≤ n
   ·rw [if_pos h0, List.getElem?_eq_none (by omega)]
   ·rw [if_neg h0]
  rw [e, hbl]; rfl
theorem sync_spec {d : Nat} {D : Dk} {n : Int} (hok : D.Ok) (H : St W (dskA d D :: l) w) :
  cl Tryz.prog 38 [.pointer (some ⟨d, 0, none⟩), .int .i64 n] (tInt .i64) w fun r w' => r = (syncD D n).2 ∧ St W (dskA d (syncD D n).1 :: l) w' := by
 refine F38_ok ?_
 unfold F38
 refine cl_mono (act_spec (f := fun g => ⟨g.b, g.b.length⟩) hok H ?_) ?_
 ·intro s q g xs a l0 w hsz hg hx ha H
  refine ⟨75, [], rfl, ent75, ?_⟩
  refine F75_ok ?_
  unfold F75
  refine nc_st rfl ?_
  refine ex_i q (fld_row (U := tSlc) (fun _ => rfl) ha hx rfl H) ?_
  have hc := lrow_cap (H.front 1)
  simp only at hc
  rw [hc.1]
  refine stf_row (x := (⟨q, g.sure⟩ : SL)) (y := (⟨q, (g.b.length : Nat)⟩ : SL)) (o := 1) (U := tInt .i64) (z := ((g.b.length : Nat) : Int)) (fun _ => rfl) ha hx rfl (Nat.le_of_ble_eq_true rfl) H fun w H => ?_
  exact ⟨q, H⟩
 ·rintro r w ⟨rfl, H⟩
  exact ⟨rfl, H⟩
theorem swap_spec {d : Nat} {D : Dk} {n : Int} {b : Slc} {bs : List UInt8} (hok : D.Ok) (hn : bs.length ≤ 4000000000000000000) (k : See 1 l (tInt .u8) b (B bs)) (H : St W (dskA d D :: l) w) :
  cl Tryz.prog 68 [.pointer (some ⟨d, 0, none⟩), .int .i64 n, tSlc.enc b] (tInt .i64) w fun r w' => r = (swapD D n bs).2 ∧ St W (dskA d (swapD D n bs).1 :: l) w' := by
 have hbl := k.tail.len H
 rw [B_len] at hbl
 refine F68_ok ?_
 unfold F68
 refine nw_st H fun b4 w H => ?_
 refine ld_st (x := b) 0 H rfl rfl rfl ?_
 rw [hbl]
 refine cl_mono (act_spec (f := fun _ => ⟨bs, bs.length⟩) hok (H.front 1) ?_) ?_
 ·intro s q g xs a l0 w hsz hg hx ha H
  refine ⟨109, [.pointer (some ⟨b4, 0, none⟩)], rfl, ent109, ?_⟩
  refine F109_ok ?_
  unfold F109
  have H := (H.perm (show (row TL 93 2 s xs :: lrow (q, g) :: (l0 ++ (cel b4 (tSlc.cells b) 25 :: l))).Perm (cel b4 (tSlc.cells b) 25 :: row TL 93 2 s xs :: lrow (q, g) :: (l0 ++ l)) from by
   have h1 := (List.perm_middle (a := cel b4 (tSlc.cells b) 25) (l₁ := row TL 93 2 s xs :: lrow (q, g) :: l0) (l₂ := l))
   simpa using h1))
  refine ld_st (x := b) 0 H rfl rfl rfl ?_
  rw [hbl]
  refine mkS_st (sz := 1) (by omega) (by omega) (by omega) H fun b5 w H => ?_
  refine nc_st rfl ?_
  refine stf_row (x := (⟨q, g.sure⟩ : SL)) (y := (⟨⟨some ⟨b5, 0, none⟩, bs.length, bs.length⟩, g.sure⟩ : SL)) (o := 0) (U := tSlc) (z := ⟨some ⟨b5, 0, none⟩, bs.length, bs.length⟩) (fun _ => rfl) ha hx rfl (Nat.le_of_ble_eq_true rfl) (H.front 2) fun w H => ?_
  refine dr_st H fun w H => ?_
  have hx2 : (xs.set n.toNat (⟨⟨some ⟨b5, 0, none⟩, bs.length, bs.length⟩, g.sure⟩ : SL))[n.toNat]? = some ⟨⟨some ⟨b5, 0, none⟩, bs.length, bs.length⟩, g.sure⟩ := List.getElem?_set_self (List.getElem?_eq_some_iff.1 hx).1
  refine ex_i ⟨some ⟨b5, 0, none⟩, bs.length, bs.length⟩ (fld_row (U := tSlc) (fun _ => rfl) ha hx2 rfl H) ?_
  refine ld_st (x := b) 2 H rfl rfl rfl ?_
  have hkk : See 1 (row (tInt .u8) 5 1 ⟨some ⟨b5, 0, none⟩, bs.length, bs.length⟩ (List.replicate bs.length 0) :: row TL 93 2 s (xs.set n.toNat (⟨⟨some ⟨b5, 0, none⟩, bs.length, bs.length⟩, g.sure⟩ : SL)) :: cel b4 (tSlc.cells b) 25 :: lrow (q, g) :: (l0 ++ l)) (tInt .u8) b (B bs) := ((k.app l0).tail.tail.tail.tail)
  refine cpy_st (xs := List.replicate bs.length 0) (fun _ => rfl) (H.front 1) (hkk.rdS (H.front 1)) (by rw [B_len, List.length_replicate]) fun w H => ?_
  rw [B_len]
  refine stf_row (x := (⟨⟨some ⟨b5, 0, none⟩, bs.length, bs.length⟩, g.sure⟩ : SL)) (y := (⟨⟨some ⟨b5, 0, none⟩, bs.length, bs.length⟩, (bs.length : Nat)⟩ : SL)) (o := 1) (U := tInt .i64) (z := ((bs.length : Nat) : Int)) (fun _ => rfl) ha hx2 rfl (Nat.le_of_ble_eq_true rfl) (H.front 1) fun w H => ?_
  refine ⟨⟨some ⟨b5, 0, none⟩, bs.length, bs.length⟩, ?_⟩
  rw [List.set_set] at H
  have H := (H.ord [3]).drop
  refine H.perm ?_
  refine List.Perm.cons _ (List.Perm.cons _ ?_)
  exact List.perm_middle.symm
 ·rintro r w ⟨rfl, H⟩
  exact ⟨rfl, (H.front 1).drop⟩
theorem readD_spec {d : Nat} {D : Dk} {n : Int} (hok : D.Ok) (H : St W (dskA d D :: l) w) :
  cl Tryz.prog 66 [.pointer (some ⟨d, 0, none⟩), .int .i64 n] (tTup2 tSlc (tInt .i64)) w fun r w' => (¬ (0 ≤ n ∧ n < D.logs.length) → r.2 = 70 ∧ St W (dskA d D :: l) w') ∧ ((0 ≤ n ∧ n < D.logs.length) → D.down = true → r.2 = 71 ∧ St W (dskA d D :: l) w') ∧
   ∀ g, 0 ≤ n → D.down = false → D.logs[n.toNat]? = some g → r.2 = 0 ∧ St W (row (tInt .u8) 5 1 r.1 (B g.b) :: dskA d D :: l) w' := by
 refine F66_ok ?_
 unfold F66
 refine cl_mono (has_spec H) ?_
 rintro r w ⟨rfl, H⟩
 by_cases hh : 0 ≤ n ∧ n < D.logs.length
 ·rw [decide_eq_true hh, if_neg (by simp)]
  refine nc_st rfl ?_
  obtain ⟨s, P, kp, hP, H⟩ := dsk_open H
  refine ld_st (x := D.down) 0 H rfl rfl rfl ?_
  by_cases hd : D.down = true
  ·rw [if_pos hd]
   exact ⟨fun h => absurd hh h, fun _ _ => ⟨rfl, dsk_shut hP H⟩, fun g _ h => by rw [hd] at h; cases h⟩
  ·rw [if_neg hd]
   have hl : P.length = D.logs.length := by rw [← hP, List.length_map]
   refine ld_st (x := s) 0 H rfl rfl rfl ?_
   obtain ⟨a, hia⟩ := row_ix (i := n) (H.front 1) hh.1 (by rw [List.length_map, hl]; exact hh.2)
   refine ex_i a hia ?_
   have hq0 : P[n.toNat]? = some P[n.toNat] := List.getElem?_eq_getElem (by omega)
   have hg : D.logs[n.toNat]? = some (P[n.toNat]).2 := by rw [← hP, List.getElem?_map, hq0]; rfl
   generalize P[n.toNat] = p at hq0 hg
   have hc := lrow_cap (log_out hq0 (H.front 2))
   obtain ⟨q, g⟩ := p
   simp only at hg hc
   have hgl := (hok.log g (List.mem_of_getElem? hg)).2
   have hx : (P.map lval)[n.toNat]? = some (lval (q, g)) := by rw [List.getElem?_map, hq0]; rfl
   refine ex_i q (fld_row (x := lval (q, g)) (U := tSlc) (fun _ => rfl) hia hx rfl (H.front 1)) ?_
   rw [hc.1]
   refine mkS_st (sz := 1) (by omega) (by omega) (by omega) H fun b w H => ?_
   refine ld_st (x := s) 1 H rfl rfl rfl ?_
   refine ex_i a hia ?_
   refine ex_i q (fld_row (x := lval (q, g)) (U := tSlc) (fun _ => rfl) hia hx rfl (H.front 2)) ?_
   have hr : RdS (tInt .u8) w q (B g.b) := RdO_row (log_out hq0 (H.front 3))
   refine cpy_st (xs := List.replicate ((g.b.length : Int)).toNat 0) (fun _ => rfl) H hr (by rw [B_len, List.length_replicate]; omega) fun w H => ?_
   refine ⟨fun h => absurd hh h, fun _ h => absurd h hd, fun g' _ _ hg' => ?_⟩
   rw [hg] at hg'
   cases hg'
   exact ⟨rfl, (dsk_shut hP (H.ord [1, 2, 3, 4])).front 1⟩
 ·rw [decide_eq_false hh, if_pos (by simp)]
  refine ⟨fun _ => ⟨rfl, H⟩, fun h => absurd h hh, fun g h0 _ hg => absurd ⟨h0, ?_⟩ hh⟩
  have := (List.getElem?_eq_some_iff.1 hg).1
  omega
theorem sureD_spec {d : Nat} {D : Dk} {n : Int} {g : Log} (h0 : 0 ≤ n) (hg : D.logs[n.toNat]? = some g) (H : St W (dskA d D :: l) w) :
  cl Tryz.prog 69 [.pointer (some ⟨d, 0, none⟩), .int .i64 n] (tInt .i64) w fun r w' => r = (g.sure : Nat) ∧ St W (dskA d D :: l) w' := by
 have hlt := (List.getElem?_eq_some_iff.1 hg).1
 refine F69_ok ?_
 unfold F69
 refine cl_mono (has_spec H) ?_
 rintro r w ⟨rfl, H⟩
 rw [decide_eq_true (by omega), if_neg (by simp)]
 refine nc_st rfl ?_
 obtain ⟨s, P, kp, hP, H⟩ := dsk_open H
 have hl : P.length = D.logs.length := by rw [← hP, List.length_map]
 refine ld_st (x := s) 0 H rfl rfl rfl ?_
 obtain ⟨a, hia⟩ := row_ix (i := n) (H.front 1) h0 (by rw [List.length_map, hl]; omega)
 refine ex_i a hia ?_
 have hq0 : P[n.toNat]? = some P[n.toNat] := List.getElem?_eq_getElem (by omega)
 have hg2 : D.logs[n.toNat]? = some (P[n.toNat]).2 := by rw [← hP, List.getElem?_map, hq0]; rfl
 generalize P[n.toNat] = p at hq0 hg2
 rw [hg] at hg2
 cases hg2
 refine ex_i (p.2.sure : Int) (fld_row (x := lval p) (U := tInt .i64) (fun _ => rfl) hia (by rw [List.getElem?_map, hq0]; rfl) rfl (H.front 1)) ?_
 exact ⟨rfl, dsk_shut hP H⟩
theorem up_spec {d : Nat} {D : Dk} (H : St W (dskA d D :: l) w) : cl Tryz.prog 17 [.pointer (some ⟨d, 0, none⟩)] tUnit w fun _ w' => St W (dskA d { D with down := false } :: l) w' := by
 refine F17_ok ?_
 unfold F17
 refine nc_st rfl ?_
 obtain ⟨s, P, kp, hP, H⟩ := dsk_open H
 refine st_st (x := false) 0 H rfl rfl (Nat.le_of_ble_eq_true rfl) fun w H => ?_
 exact dsk_shut (D := { D with down := false }) hP H
end
end Go.Proofs.YtehclfjjjiiieaaGreat.Disk
namespace Go.Proofs.YtehclfjjjiiieaaGreat.Disk
open Go Go.Proofs.YtehclfjjjiiieaaGreat.Cf Go.Proofs.YtehclfjjjiiieaaGreat.Wire
set_option linter.unusedVariables false
set_option linter.unusedSimpArgs false
set_option maxRecDepth 100000
abbrev TW := T87
section
variable {W w : World} {l l' : List Assn} {s : Slc} {bs : List UInt8}
def LoadsP (qs : List Slc) (xs : List (List UInt8)) (I : PMap) : Prop := qs.length = xs.length ∧ ∀ (i : Nat) (q : Slc) (x : List UInt8), qs[i]? = some q → xs[i]? = some x → q.len ≤ q.cap ∧ RoP (tInt .u8) q (B x) I
theorem LoadsP.mono {qs : List Slc} {xs : List (List UInt8)} {I I' : PMap} (h : PMap.le I I') : LoadsP qs xs I → LoadsP qs xs I' := fun ⟨h1, h2⟩ => ⟨h1, fun i q x hq hx => ⟨(h2 i q x hq hx).1, RoP.mono h (h2 i q x hq hx).2⟩⟩
def loadsA (qs : List Slc) (xs : List (List UInt8)) : Assn := ever (LoadsP qs xs) LoadsP.mono
theorem LoadsP.push {qs : List Slc} {xs : List (List UInt8)} {q : Slc} {x : List UInt8} {I : PMap} (h : LoadsP qs xs I) (hc : q.len ≤ q.cap) (hr : RoP (tInt .u8) q (B x) I) : LoadsP (qs ++ [q]) (xs ++ [x]) I := by
 refine ⟨by simp [h.1], fun i q' x' hq hx => ?_⟩
 by_cases c : i < qs.length
 ·rw [List.getElem?_append_left c] at hq
  rw [List.getElem?_append_left (by rw [← h.1]; exact c)] at hx
  exact h.2 i q' x' hq hx
 ·have hi : i = qs.length := by
   have := (List.getElem?_eq_some_iff.1 hq).1
   simp at this; omega
  subst hi
  rw [List.getElem?_append_right (Nat.le_refl _)] at hq
  rw [List.getElem?_append_right (by rw [h.1]; exact Nat.le_refl _), h.1] at hx
  simp at hq hx
  subst hq; subst hx
  exact ⟨hc, hr⟩
theorem scan_spec (hcap : s.len ≤ s.cap) (hn : bs.length ≤ 1000000000) (k : Know l (RoP (tInt .u8) s (B bs))) (H : St W l w) :
  cl Tryz.prog 67 [tSlc.enc s] (tTup2 tSlc (tInt .i64)) w fun r w' => r.2 = ((scan bs).2 : Nat) ∧ ∃ qs : List Slc, St W (row tSlc 25 1 r.1 qs :: loadsA qs (scan bs).1 :: l) w' := by
 have hs := k.len H
 rw [B_len] at hs
 refine F67_ok ?_
 unfold F67
 refine lp_n (fun m p w => ∃ (a f : Nat) (xs : List (List UInt8)) (qs : List Slc), m = bs.length - a ∧ p.2 = (a : Int) ∧ a ≤ bs.length ∧ bs.length - a < f ∧ xs.length ≤ a ∧ scan bs = scanF f (bs.drop a) xs a ∧ St W (row tSlc 25 1 p.1 qs :: loadsA qs xs :: l) w) bs.length
  ⟨0, bs.length + 1, [], [], by omega, rfl, by omega, by omega, by simp, rfl, row_nil tSlc 25 1 (H.know (m := LoadsP.mono) (fun _ _ _ => ⟨rfl, fun i q x hq => by simp at hq⟩))⟩ ?_
 clear H
 rintro m ⟨r, a⟩ w ⟨a, f, xs, qs, rfl, rfl, ha, hf, hxa, he, H⟩ K hK
 simp only at H
 unfold F67_l1
 rw [hs]
 refine sub_st (by omega) (by omega) (by omega) (by omega) fun s6 h6 => ?_
 have k6 := k.sub (fun _ => rfl) h6 (by rw [B_len]; omega)
 have b6 : ((B bs).take (bs.length : Int).toNat).drop ((a : Int)).toNat = B (bs.drop a) := by
  rw [B_drop, List.take_of_length_le (by rw [B_len]; omega)]; rfl
 rw [b6] at k6
 have hc6 : s6.len ≤ s6.cap := by
  obtain ⟨x1, x2, _⟩ := sub_at h6
  rw [x1, x2]; omega
 refine cl_mono (open_spec hc6 (by simp; omega) k6.tail.tail H) ?_
 rintro ⟨q, n, e⟩ w hres
 obtain ⟨g, rfl⟩ : ∃ g, f = g + 1 := ⟨f - 1, by omega⟩
 simp only [scanF] at he
 cases ho : opn (bs.drop a) with
 | error e' =>
  rw [ho] at hres he
  obtain ⟨h1, h2, H⟩ := hres
  simp only at h1 he
  subst h1
  rw [if_pos (by simpa using h2)]
  rw [he]
  exact ⟨rfl, qs, H⟩
 | ok p =>
  obtain ⟨x, n'⟩ := p
  rw [ho] at hres he
  obtain ⟨h1, h2, h3, H⟩ := hres
  simp only at h1 h2 h3 he H
  subst h1; subst h2
  rw [if_neg (by simp)]
  obtain ⟨g1, g2, g3, g4⟩ := opn_ok ho
  rw [List.length_drop] at g1
  have hql : qs.length = xs.length := by
   obtain ⟨I, _, hI⟩ := (Know.everI (Know.tail (Know.tail (Know.here (m := LoadsP.mono))))) H
   exact hI.1
  refine apl_row (fun _ => rfl) 1 H rfl (by simp; omega) fun r' w H => ?_
  have e1 : IntKind.i64.wrap ((a : Int) + (n' : Int)) = ((a + n' : Nat) : Int) := by rw [wrap_i64 (by omega) (by omega)]; omega
  rw [e1]
  have H2 := H.know (φ := LoadsP (qs ++ [q]) (xs ++ [x])) (m := LoadsP.mono) (by
   intro I h hh
   have p1 : LoadsP qs xs I := (Know.tail (Know.tail (Know.here (m := LoadsP.mono)))) I h hh
   have p2 : RoP (tInt .u8) q (B x) I := (Know.tail (Know.here (m := RoP.mono))) I h hh
   exact p1.push h3 p2)
  refine hK _ _ _ ?_ ⟨a + n', g, xs ++ [x], qs ++ [q], rfl, rfl, by omega, by omega, by simp; omega, by rw [he, List.drop_drop], ?_⟩
  ·omega
  ·exact (H2.ord [2, 3]).drop.drop.front 1
structure Wl where
 all : Int
 sure : Int
 log : Int
 dead : Bool
def walA (b d : Nat) (V : Wl) : Assn := cel b (TW.cells ⟨⟨V.all, V.sure⟩, some ⟨d, 0, none⟩, V.log, V.dead⟩) 88
def appW (D : Dk) (V : Wl) (x : List UInt8) : Dk × Wl × Int :=
 if V.dead then (D, V, 81) else if 65536 < x.length then (D, V, 30)
 else ((appendD D V.log (frm x)).1, { V with all := if (appendD D V.log (frm x)).2 = 0 then IntKind.i64.wrap (V.all + 1) else V.all, dead := V.dead || (appendD D V.log (frm x)).2 == 71 }, (appendD D V.log (frm x)).2)
def synW (D : Dk) (V : Wl) : Dk × Wl × Int :=
 if V.dead then (D, V, 81)
 else ((syncD D V.log).1, { V with sure := if (syncD D V.log).2 = 0 then V.all else V.sure, dead := V.dead || (syncD D V.log).2 == 71 }, (syncD D V.log).2)
theorem met_spec {b d : Nat} {V : Wl} {e : Int} (H : St W (walA b d V :: l) w) : cl Tryz.prog 37 [.pointer (some ⟨b, 0, none⟩), .int .i64 e] (tInt .i64) w fun r w' => r = e ∧ St W (walA b d { V with dead := V.dead || e == 71 } :: l) w' := by
 refine F37_ok ?_
 unfold F37
 refine nc_st rfl ?_
 refine ld_st (x := V.dead) 0 H rfl rfl rfl ?_
 refine st_st (x := V.dead || e == 71) 0 H rfl rfl (Nat.le_of_ble_eq_true rfl) fun w H => ?_
 exact ⟨rfl, H⟩
theorem appw_spec {b d : Nat} {D : Dk} {V : Wl} {q : Slc} {x : List UInt8} (hok : D.Ok) (hn : x.length ≤ 9223372036854775806) (k : See 1 l (tInt .u8) q (B x)) (H : St W (walA b d V :: dskA d D :: l) w) :
  cl Tryz.prog 36 [.pointer (some ⟨b, 0, none⟩), tSlc.enc q] (tInt .i64) w fun r w' => r = (appW D V x).2.2 ∧ St W (walA b d (appW D V x).2.1 :: dskA d (appW D V x).1 :: l) w' := by
 refine F36_ok ?_
 unfold F36 F36_j1 appW
 refine nc_st rfl ?_
 refine ld_st (x := V.dead) 0 H rfl rfl rfl ?_
 by_cases hd : V.dead = true
 ·rw [if_pos hd, if_pos hd]
  exact ⟨rfl, H⟩
 ·rw [if_neg hd, if_neg hd]
  refine cl_mono (seal_spec hn k.tail.tail H) ?_
  rintro ⟨r, e⟩ w ⟨h1, h2⟩
  by_cases hx : 65536 < x.length
  ·obtain ⟨h3, H⟩ := h1 hx
   cases h3
   rw [if_pos (by simp), if_pos hx]
   exact ⟨rfl, H⟩
  ·obtain ⟨h3, H⟩ := h2 (by omega)
   simp only at h3 H
   subst h3
   rw [if_neg (by simp), if_neg hx]
   refine dr_st H fun w H => ?_
   refine ld_st (x := some ⟨d, 0, none⟩) 1 H rfl rfl rfl ?_
   refine ld_st (x := V.log) 1 H rfl rfl rfl ?_
   refine cl_mono (append_spec hok (by rw [frm_len]; omega) (See.row (fun _ => rfl) 0 rfl) (H.front 2)) ?_
   rintro e w ⟨rfl, H⟩
   refine cl_mono (met_spec (H.front 2)) ?_
   rintro e w ⟨rfl, H⟩
   refine ⟨rdat_cel tPtr H rfl rfl, rdat_cel (tInt .i64) H rfl rfl, ?_⟩
   by_cases he : (appendD D V.log (frm x)).2 = 0
   ·rw [if_pos (by simp [he]), if_pos he]
    refine ld_st (x := V.all) 0 H rfl rfl rfl ?_
    refine st_st (x := IntKind.i64.wrap (V.all + 1)) 0 H rfl rfl (Nat.le_of_ble_eq_true rfl) fun w H => ?_
    exact ⟨rfl, (H.ord [2]).drop⟩
   ·rw [if_neg (by simp [he]), if_neg he]
    exact ⟨rfl, (H.ord [2]).drop⟩
theorem synw_spec {b d : Nat} {D : Dk} {V : Wl} (hok : D.Ok) (H : St W (walA b d V :: dskA d D :: l) w) :
  cl Tryz.prog 15 [.pointer (some ⟨b, 0, none⟩)] (tInt .i64) w fun r w' => r = (synW D V).2.2 ∧ St W (walA b d (synW D V).2.1 :: dskA d (synW D V).1 :: l) w' := by
 refine F15_ok ?_
 unfold F15 F15_j1 synW
 refine nc_st rfl ?_
 refine ld_st (x := V.dead) 0 H rfl rfl rfl ?_
 by_cases hd : V.dead = true
 ·rw [if_pos hd, if_pos hd]
  exact ⟨rfl, H⟩
 ·rw [if_neg hd, if_neg hd]
  refine dr_st H fun w H => ?_
  refine ld_st (x := some ⟨d, 0, none⟩) 0 H rfl rfl rfl ?_
  refine ld_st (x := V.log) 0 H rfl rfl rfl ?_
  refine cl_mono (sync_spec hok (H.front 1)) ?_
  rintro e w ⟨rfl, H⟩
  refine cl_mono (met_spec (H.front 1)) ?_
  rintro e w ⟨rfl, H⟩
  refine ⟨rdat_cel tPtr H rfl rfl, rdat_cel (tInt .i64) H rfl rfl, ?_⟩
  by_cases he : (syncD D V.log).2 = 0
  ·rw [if_pos (by simp [he]), if_pos he]
   refine ld_st (x := V.all) 0 H rfl rfl rfl ?_
   refine st_st (x := V.all) 0 H rfl rfl (Nat.le_of_ble_eq_true rfl) fun w H => ?_
   exact ⟨rfl, H⟩
  ·rw [if_neg (by simp [he]), if_neg he]
   exact ⟨rfl, H⟩
def mendD (D : Dk) (n : Int) (g : Log) : Dk × Int :=
 if (scan g.b).2 < g.b.length then swapD D n (g.b.take (scan g.b).2) else if g.sure < (scan g.b).2 then syncD D n else (D, 0)
theorem scan_le (bs : List UInt8) : (scan bs).2 ≤ bs.length := by
 have key : ∀ (f : Nat) (bs : List UInt8) (l : List (List UInt8)) (a : Nat), (scanF f bs l a).2 ≤ a + bs.length := by
  intro f
  induction f with
  | zero => intro bs l a; simp [scanF]
  | succ f ih =>
   intro bs l a
   simp only [scanF]
   cases ho : opn bs with
   | error e => simp
   | ok p =>
    obtain ⟨x, n⟩ := p
    have := ih (bs.drop n) (l ++ [x]) (a + n)
    have h := opn_ok ho
    rw [List.length_drop] at this
    simp only
    omega
 have := key (bs.length + 1) bs [] 0
 unfold scan; omega
theorem scan_count (bs : List UInt8) : (scan bs).1.length ≤ bs.length := by
 have key : ∀ (f : Nat) (bs : List UInt8) (l : List (List UInt8)) (a : Nat), (scanF f bs l a).1.length ≤ l.length + bs.length := by
  intro f
  induction f with
  | zero => intro bs l a; simp [scanF]
  | succ f ih =>
   intro bs l a
   simp only [scanF]
   cases ho : opn bs with
   | error e => simp
   | ok p =>
    obtain ⟨x, n⟩ := p
    have := ih (bs.drop n) (l ++ [x]) (a + n)
    have h := opn_ok ho
    rw [List.length_drop] at this
    simp only [List.length_append, List.length_cons, List.length_nil] at this
    simp only
    omega
 have := key (bs.length + 1) bs [] 0
 unfold scan; simpa using this
theorem openw_spec {d : Nat} {D : Dk} {n : Int} {g : Log} (hok : D.Ok) (h0 : 0 ≤ n) (hdn : D.down = false) (hg : D.logs[n.toNat]? = some g) (H : St W (dskA d D :: l) w) :
  cl Tryz.prog 33 [.pointer (some ⟨d, 0, none⟩), .int .i64 n] (tTup3 tPtr tSlc (tInt .i64)) w fun r w' => r.2.2 = (mendD D n g).2 ∧ ((mendD D n g).2 = 0 → ∃ (b : Nat) (qs : List Slc), r.1 = some ⟨b, 0, none⟩ ∧
   St W (walA b d ⟨(scan g.b).1.length, (scan g.b).1.length, n, false⟩ :: dskA d (mendD D n g).1 :: row tSlc 25 1 r.2.1 qs :: loadsA qs (scan g.b).1 :: l) w') ∧ ((mendD D n g).2 ≠ 0 → r.1 = none ∧ St W (dskA d (mendD D n g).1 :: l) w') := by
 have hlt := (List.getElem?_eq_some_iff.1 hg).1
 have hgl := hok.log g (List.mem_of_getElem? hg)
 refine F33_ok ?_
 unfold F33
 rw [if_neg (by simp)]
 refine cl_mono (readD_spec (n := n) hok H) ?_
 rintro ⟨r, e⟩ w ⟨_, _, h3⟩
 obtain ⟨h4, H⟩ := h3 g h0 hdn hg
 simp only at h4 H
 subst h4
 rw [if_neg (by simp)]
 have hrl := row_len H
 have hrc := row_cap H
 rw [B_len] at hrl
 have H := row_stay H
 have kr : Know [ro (tInt .u8) r (B g.b)] (RoP (tInt .u8) r (B g.b)) := Know.here (m := RoP.mono)
 refine cl_mono (scan_spec hrc (by omega) (Know.here (m := RoP.mono)) H) ?_
 rintro ⟨q, m⟩ w ⟨hm, qs, H⟩
 simp only at hm H
 subst hm
 have hsl := scan_le g.b
 rw [hrl]
 have j1 : ∀ (D' : Dk) (e : Int) (w : World), mendD D n g = (D', e) → St W (dskA d D' :: row tSlc 25 1 q qs :: loadsA qs (scan g.b).1 :: l) w → F33_j1 (some ⟨d, 0, none⟩) n (q, ((scan g.b).2 : Int)) e w fun r w' => r.2.2 = (mendD D n g).2 ∧ ((mendD D n g).2 = 0 → ∃ (b : Nat) (qs : List Slc), r.1 = some ⟨b, 0, none⟩ ∧
   St W (walA b d ⟨(scan g.b).1.length, (scan g.b).1.length, n, false⟩ :: dskA d (mendD D n g).1 :: row tSlc 25 1 r.2.1 qs :: loadsA qs (scan g.b).1 :: l) w') ∧ ((mendD D n g).2 ≠ 0 → r.1 = none ∧ St W (dskA d (mendD D n g).1 :: l) w') := by
  intro D' e w hme H
  rw [hme]
  unfold F33_j1
  by_cases he : e = 0
  ·subst he
   rw [if_neg (by simp)]
   have hql := row_len (H.front 1)
   have hqx : qs.length = (scan g.b).1.length := by
    obtain ⟨I, _, hI⟩ := (Know.everI (Know.tail (Know.tail (Know.here (m := LoadsP.mono))))) H
    exact hI.1
   simp only
   rw [hql, hqx]
   refine nw_st H fun b w H => ?_
   exact ⟨by trivial, fun _ => ⟨b, qs, rfl, H⟩, fun h => absurd rfl h⟩
  ·rw [if_pos (by simpa using he)]
   exact ⟨by trivial, fun h => absurd h he, fun _ => ⟨by trivial, ((H.ord [1, 2]).drop.drop)⟩⟩
 by_cases h1 : (scan g.b).2 < g.b.length
 ·rw [if_pos (by simp; omega)]
  dsimp only
  refine sub_st (by omega) (by omega) (by omega) (by omega) fun s12 h12 => ?_
  have k12 := (Know.tail (Know.tail (Know.here (m := RoP.mono)) : Know (loadsA qs (scan g.b).1 :: ro (tInt .u8) r (B g.b) :: dskA d D :: l) (RoP (tInt .u8) r (B g.b))) : Know (row tSlc 25 1 q qs :: loadsA qs (scan g.b).1 :: ro (tInt .u8) r (B g.b) :: dskA d D :: l) (RoP (tInt .u8) r (B g.b)))
  have H3 := H.ord [3, 2]
  have k13 : Know (ro (tInt .u8) r (B g.b) :: row tSlc 25 1 q qs :: loadsA qs (scan g.b).1 :: l) (RoP (tInt .u8) r (B g.b)) := Know.here (m := RoP.mono)
  have k14 := k13.sub (fun _ => rfl) h12 (by rw [B_len]; omega)
  have b12 : ((B g.b).take (((scan g.b).2 : Nat) : Int).toNat).drop ((0 : Int)).toNat = B (g.b.take (scan g.b).2) := by rw [B_take]; rfl
  rw [b12] at k14
  refine cl_mono (swap_spec (n := n) hok (by rw [List.length_take]; omega) (See.ro (fun _ => rfl) k14) H3) ?_
  rintro e w ⟨rfl, H⟩
  refine j1 _ _ w ?_ ((H.front 1).drop)
  unfold mendD
  rw [if_pos h1]
 ·rw [if_neg (by simp; omega)]
  refine cl_mono (sureD_spec h0 hg (H.ord [3, 2])) ?_
  rintro e w ⟨rfl, H⟩
  by_cases h2 : g.sure < (scan g.b).2
  ·rw [if_pos (by simp; omega)]
   refine cl_mono (sync_spec (n := n) hok H) ?_
   rintro e w ⟨rfl, H⟩
   refine j1 _ _ w ?_ ((H.front 1).drop)
   unfold mendD
   rw [if_neg h1, if_pos h2]
  ·rw [if_neg (by simp; omega)]
   refine j1 D 0 w ?_ ((H.front 1).drop)
   unfold mendD
   rw [if_neg h1, if_neg h2]
end
end Go.Proofs.YtehclfjjjiiieaaGreat.Disk
namespace Go.Proofs.YtehclfjjjiiieaaGreat.Disk
open Go Go.Proofs.YtehclfjjjiiieaaGreat.Cf Go.Proofs.YtehclfjjjiiieaaGreat.Wire
set_option linter.unusedVariables false
set_option linter.unusedSimpArgs false
set_option maxRecDepth 100000
section
variable {W w : World} {l l' : List Assn}
theorem wlen_spec {b d : Nat} {V : Wl} (H : St W (walA b d V :: l) w) : cl Tryz.prog 21 [.pointer (some ⟨b, 0, none⟩)] (tInt .i64) w fun r w' => r = V.all ∧ St W (walA b d V :: l) w' := by
 refine F21_ok ?_
 unfold F21
 refine nc_st rfl ?_
 refine ld_st (x := V.all) 0 H rfl rfl rfl ?_
 exact ⟨rfl, H⟩
theorem wsure_spec {b d : Nat} {V : Wl} (H : St W (walA b d V :: l) w) : cl Tryz.prog 23 [.pointer (some ⟨b, 0, none⟩)] (tInt .i64) w fun r w' => r = V.sure ∧ St W (walA b d V :: l) w' := by
 refine F23_ok ?_
 unfold F23
 refine nc_st rfl ?_
 refine ld_st (x := V.sure) 0 H rfl rfl rfl ?_
 exact ⟨rfl, H⟩
end
end Go.Proofs.YtehclfjjjiiieaaGreat.Disk
namespace Go.Proofs.YtehclfjjjiiieaaGreat.Wire
open Go Go.Proofs.YtehclfjjjiiieaaGreat.Cf
set_option linter.unusedVariables false
set_option linter.unusedSimpArgs false
set_option maxRecDepth 100000
section
variable {W w : World} {l l' : List Assn}
theorem none_spec {f : Nat} (H : St W l w) : cl Tryz.prog 129 [.float .f64 f] tBool w fun r w' => r = isNaN f ∧ St W l w' := by
 refine F129_ok ?_
 unfold F129
 refine shift_i (by omega) ?_
 refine ⟨?_, H⟩
 have e : min (Int.toNat 1) IntKind.u64.bits = 1 := rfl
 rw [e, wr_u64]
 unfold isNaN
 simp only [decide_eq_decide]
 omega
theorem rbits_spec {f : Nat} (H : St W l w) : cl Tryz.prog 100 [.float .f64 f] (tInt .u64) w fun r w' => r = (fb f : Nat) ∧ St W l w' := by
 refine F100_ok ?_
 unfold F100
 refine cl_mono (none_spec H) ?_
 rintro r w ⟨rfl, H⟩
 unfold fb
 split
 ·exact ⟨rfl, H⟩
 ·exact ⟨rfl, H⟩
theorem rvalid_spec {v : Val} (H : St W l w) : cl Tryz.prog 62 [TV.enc v] (tInt .i64) w fun r w' => r = okV v ∧ St W l w' := by
 refine F62_ok ?_
 unfold F62
 refine nw_st H fun b w H => ?_
 refine ld_st (x := v.Kind) 0 H rfl rfl rfl ?_
 refine nw_st H fun b5 w H => ?_
 refine vst_st (x := Z63) (y := (⟨v.Kind, 0, 0, 0, []⟩ : Val)) lenV 0 H rfl fun w H => ?_
 refine ld_st (x := v.Kind) 1 H rfl rfl rfl ?_
 have j1 : ∀ (o : Val) (w : World), St W (cel b5 (TV.cells o) 64 :: cel b (TV.cells v) 64 :: l) w →
   (((!(o.U == v.U) || !(o.I == v.I)) || !(o.S == v.S)) || (!(v.Kind == 3) && !(v.F == 0))) = !plainB v →
   F62_j1 ⟨b, 0, none⟩ ⟨b5, 0, none⟩ w fun r w' => r = okV v ∧ St W l w' := by
  intro o w H hp
  unfold F62_j1
  refine ld_st (x := o.U) 0 H rfl rfl rfl ?_
  refine ld_st (x := v.U) 1 H rfl rfl rfl ?_
  refine ex_i o.I (fun _ => rdat_cel (tInt .i64) H rfl rfl) ?_
  refine ex_i v.I (fun _ => rdat_cel (tInt .i64) (H.front 1) rfl rfl) ?_
  refine ex_i o.S (fun _ => rdat_cel tStr H rfl rfl) ?_
  refine ex_i v.S (fun _ => rdat_cel tStr (H.front 1) rfl rfl) ?_
  refine ex_i v.Kind (fun _ => rdat_cel (tInt .i64) (H.front 1) rfl rfl) ?_
  refine ex_i v.F (fun _ => rdat_cel tFlt (H.front 1) rfl rfl) ?_
  have hf : ((v.F : Int) != 0) = !(v.F == 0) := by rw [Bool.eq_iff_iff]; simp
  have e : ((((o.U != v.U) || (o.I != v.I)) || (!(o.S == v.S))) || ((v.Kind != 3) && ((v.F : Int) != 0))) = !plainB v := by rw [hf, ← hp]; rfl
  rw [e]
  unfold okV
  split
  ·rename_i h; rw [if_pos (by simpa using h)]; exact ⟨rfl, H.drop.drop⟩
  ·rename_i h
   rw [if_neg (by simpa using h)]
   refine ld_st (x := v.S) 1 H rfl rfl rfl ?_
   split
   ·rename_i h; rw [if_pos (by simp at h; omega)]; exact ⟨rfl, H.drop.drop⟩
   ·rename_i h; rw [if_neg (by simp at h; omega)]; exact ⟨rfl, H.drop.drop⟩
 have ej : ∀ a b c d : Bool, (((!a || !b) || !c) || (!d && false)) = !((a && b) && c) := by decide
 split
 ·rename_i h
  have h : v.Kind = 1 := by simpa using h
  refine ld_st (x := v.U) 1 H rfl rfl rfl ?_
  refine st_st (x := v.U) 0 H rfl rfl (Nat.le_of_ble_eq_true rfl) fun w H => ?_
  refine j1 ⟨v.Kind, v.U, 0, 0, []⟩ w H ?_
  have e1 : ((0 : Int) == v.I) = (v.I == 0) := BEq.comm
  have e2 : (([] : List UInt8) == v.S) = (v.S == []) := BEq.comm
  have e3 : ((1 : Int) == 3) = false := rfl
  simp only [plainB, h, if_true, e1, e2, e3]
  cases (v.I == 0) <;> cases (v.S == []) <;> cases (v.F == 0) <;> simp
 ·rename_i h1
  have h1 : ¬ v.Kind = 1 := by simpa using h1
  split
  ·rename_i h
   have h : v.Kind = 2 := by simpa using h
   refine ld_st (x := v.I) 1 H rfl rfl rfl ?_
   refine st_st (x := v.I) 0 H rfl rfl (Nat.le_of_ble_eq_true rfl) fun w H => ?_
   refine j1 ⟨v.Kind, 0, v.I, 0, []⟩ w H ?_
   have e1 : ((0 : Int) == v.U) = (v.U == 0) := BEq.comm
   have e2 : (([] : List UInt8) == v.S) = (v.S == []) := BEq.comm
   have e3 : ((2 : Int) == 3) = false := rfl
   simp only [plainB, h, if_true, e1, e2, e3, show ¬ (2 : Int) = 1 from by decide, if_false]
   cases (v.U == 0) <;> cases (v.S == []) <;> cases (v.F == 0) <;> simp
  ·rename_i h2
   have h2 : ¬ v.Kind = 2 := by simpa using h2
   split
   ·rename_i h
    have h : v.Kind = 3 := by simpa using h
    refine ld_st (x := v.F) 1 H rfl rfl rfl ?_
    refine st_st (x := v.F) 0 H rfl rfl (Nat.le_of_ble_eq_true rfl) fun w H => ?_
    refine j1 ⟨v.Kind, 0, 0, v.F, []⟩ w H ?_
    have e0 : ((0 : Int) == v.U) = (v.U == 0) := BEq.comm
    have e1 : ((0 : Int) == v.I) = (v.I == 0) := BEq.comm
    have e2 : (([] : List UInt8) == v.S) = (v.S == []) := BEq.comm
    have e3 : ((3 : Int) == 3) = true := rfl
    simp only [plainB, h, if_true, e0, e1, e2, e3, show ¬ (3 : Int) = 1 from by decide, show ¬ (3 : Int) = 2 from by decide, if_false]
    cases (v.U == 0) <;> cases (v.I == 0) <;> cases (v.S == []) <;> cases (v.F == 0) <;> simp
   ·rename_i h3
    have h3 : ¬ v.Kind = 3 := by simpa using h3
    split
    ·rename_i h
     have h : v.Kind = 4 := by simpa using h
     refine ld_st (x := v.S) 1 H rfl rfl rfl ?_
     refine st_st (x := v.S) 0 H rfl rfl (Nat.le_of_ble_eq_true rfl) fun w H => ?_
     refine j1 ⟨v.Kind, 0, 0, 0, v.S⟩ w H ?_
     have e0 : ((0 : Int) == v.U) = (v.U == 0) := BEq.comm
     have e1 : ((0 : Int) == v.I) = (v.I == 0) := BEq.comm
     have e3 : ((4 : Int) == 3) = false := rfl
     simp only [plainB, h, if_true, e0, e1, e3, show ¬ (4 : Int) = 1 from by decide, show ¬ (4 : Int) = 2 from by decide, show ¬ (4 : Int) = 3 from by decide, if_false]
     cases (v.U == 0) <;> cases (v.I == 0) <;> cases (v.F == 0) <;> simp
    ·rename_i h4
     have h4 : ¬ v.Kind = 4 := by simpa using h4
     have : okV v = 21 := by simp [okV, plainB, h1, h2, h3, h4]
     exact ⟨this.symm, H.drop.drop⟩
theorem rnum_spec : ∀ {n : Nat} {l : List Assn} {w : World}, n < 18446744073709551616 → St W l w → cl Tryz.prog 103 [.int .u64 n] tStr w fun r w' => r = num n ∧ St W l w' := by
 intro n
 induction n using Nat.strongRecOn with
 | _ n ih =>
  intro l w hn H
  refine F103_ok ?_
  unfold F103 F103_j1
  split
  ·rename_i hc
   have hc : n < 128 := by simp at hc; omega
   refine nwS_st H fun b w H => ?_
   have H := row_new (sz := 1) (m := 1) rfl H
   rw [u8w rfl] at H
   refine b2s_st (r := [UInt8.ofNat n]) (RdO_row H) ?_
   exact ⟨(num_lt hc).symm, H.drop⟩
  ·rename_i hc
   have hc : 128 ≤ n := by simp at hc; omega
   have e1 : Int.tdiv (n : Int) 128 = ((n / 128 : Nat) : Int) := by rw [Int.tdiv_eq_ediv_of_nonneg (by omega)]; omega
   have e2 : Int.tmod (n : Int) 128 = ((n % 128 : Nat) : Int) := by rw [Int.tmod_eq_emod_of_nonneg (by omega)]; omega
   have e3 : IntKind.u64.wrap ((n / 128 : Nat) : Int) = ((n / 128 : Nat) : Int) := by rw [wr_u64]; omega
   have e4 : IntKind.u8.wrap (IntKind.u64.wrap (128 + ((n % 128 : Nat) : Int))) = ((UInt8.ofNat (128 + n % 128)).toNat : Int) := by
    refine u8w ?_
    rw [wr_u64]; omega
   rw [e1, e2, e3, e4]
   have hl := num_len0 (n := n / 128) (by omega)
   refine dr_st H fun w H => ⟨?_, ?_⟩
   ·refine nwS_st H fun b w H => ?_
    have H := row_new (sz := 1) (m := 1) rfl H
    refine b2s_st (r := [UInt8.ofNat (128 + n % 128)]) (RdO_row H) ?_
    refine cl_mono (ih (n / 128) (by omega) (by omega) H) ?_
    rintro r w ⟨rfl, H⟩
    refine ⟨RdO_row H, ?_⟩
    refine cat_i (by simp; omega) ?_
    exact ⟨by rw [num_ge hc]; rfl, H.drop⟩
   ·refine cl_mono (ih (n / 128) (by omega) (by omega) H) ?_
    rintro r w ⟨rfl, H⟩
    refine nwS_st H fun b w H => ?_
    have H := row_new (sz := 1) (m := 1) rfl H
    refine b2s_st (r := [UInt8.ofNat (128 + n % 128)]) (RdO_row H) ?_
    refine cat_i (by simp; omega) ?_
    exact ⟨by rw [num_ge hc]; rfl, H.drop⟩
theorem eight_spec {n : Nat} (hn : n < 18446744073709551616) (H : St W l w) : cl Tryz.prog 104 [.int .u64 n] tStr w fun r w' => r = be 8 n ∧ St W l w' := by
 refine F104_ok ?_
 unfold F104
 refine lp_p (fun p w => ∃ j : Nat, j ≤ 8 ∧ p.2.2 = (j : Int) ∧ p.1 = ((n / 256 ^ j : Nat) : Int) ∧ p.2.1 = be j n ∧ St W l w) (fun p => (8 - p.2.2).toNat) ⟨0, by omega, rfl, by simp, rfl, H⟩ ?_
 clear H
 rintro ⟨m, s, i⟩ w ⟨j, hj, hi, hm, hs, H⟩ K hK
 simp only at hi hm hs
 subst hi; subst hm; subst hs
 unfold F104_l1
 have hle : n / 256 ^ j ≤ n := Nat.div_le_self _ _
 split
 ·rename_i hc
  have hc : j < 8 := by simp at hc; omega
  have e1 : ∀ q : Nat, Int.tmod (q : Int) 256 = ((q % 256 : Nat) : Int) := fun q => by rw [Int.tmod_eq_emod_of_nonneg (by omega)]; omega
  have e2 : ∀ q : Nat, Int.tdiv (q : Int) 256 = ((q / 256 : Nat) : Int) := fun q => by rw [Int.tdiv_eq_ediv_of_nonneg (by omega)]; omega
  have e3 : n / 256 ^ (j + 1) = n / 256 ^ j / 256 := by rw [Nat.pow_succ, Nat.div_div_eq_div_mul]
  have e4 : be (j + 1) n = UInt8.ofNat (n / 256 ^ j % 256) :: be j n := rfl
  rw [e1, e2]
  refine nwS_st H fun b w H => ?_
  have H := row_new (sz := 1) (m := 1) rfl H
  rw [u8w rfl] at H
  refine b2s_st (r := [UInt8.ofNat (n / 256 ^ j % 256)]) (RdO_row H) ?_
  refine cat_i (by simp [be_len]; omega) ?_
  refine hK _ _ ⟨j + 1, by omega, by simp only; rw [wr_i64]; omega, ?_, rfl, H.drop⟩ (by simp only; rw [wr_i64]; omega)
  simp only
  rw [e3, wr_u64]
  generalize n / 256 ^ j = q at hle
  omega
 ·rename_i hc
  have hc : j = 8 := by simp at hc; omega
  subst hc
  exact ⟨rfl, H⟩
theorem one_spec {v : Val} (hI : In v) (hv : okV v = 0) (H : St W l w) : cl Tryz.prog 63 [TV.enc v] tStr w fun r w' => r = enc1 v ∧ St W l w' := by
 have hk := okV_kind hv
 refine F63_ok ?_
 unfold F63
 refine nw_st H fun b w H => ?_
 refine ld_st (x := v.Kind) 0 H rfl rfl rfl ?_
 refine nwS_st H fun b5 w H => ?_
 have H := row_new (sz := 1) (m := 1) rfl H
 have e0 : IntKind.u8.wrap v.Kind = ((UInt8.ofNat v.Kind.toNat).toNat : Int) := u8w (by omega)
 rw [e0] at H
 refine b2s_st (r := [UInt8.ofNat v.Kind.toNat]) (RdO_row H) ?_
 have H := H.drop
 refine ld_st (x := v.Kind) 0 H rfl rfl rfl ?_
 split
 ·rename_i h
  have h : v.Kind = 1 := by simpa using h
  refine ld_st (x := v.U) 0 H rfl rfl rfl ?_
  have e : v.U = ((v.U.toNat : Nat) : Int) := by have := hI.u0; omega
  have hu : v.U.toNat < 18446744073709551616 := by have := hI.u1; have := hI.u0; omega
  have hl := num_len0 hu
  rw [e]
  refine cl_mono (rnum_spec hu H) ?_
  rintro r w ⟨rfl, H⟩
  refine cat_i (by simp; omega) ?_
  exact ⟨by simp [enc1, h], H.drop⟩
 ·rename_i h
  have h1 : ¬ v.Kind = 1 := by simpa using h
  split
  ·rename_i h
   have h : v.Kind = 2 := by simpa using h
   have i0 := hI.i0
   have i1 := hI.i1
   have hz := zig_lt i0 i1
   have hl := num_len0 hz
   refine ld_st (x := v.I) 0 H rfl rfl rfl ?_
   split
   ·rename_i hc
    have hc : v.I < 0 := by simpa using hc
    refine ld_st (x := v.I) 0 H rfl rfl rfl ?_
    have e : IntKind.u64.wrap (IntKind.u64.wrap (2 * IntKind.u64.wrap (IntKind.i64.wrap (0 - IntKind.i64.wrap (v.I + 1)))) + 1) = ((zig v.I : Nat) : Int) := by
     have e1 : IntKind.i64.wrap (v.I + 1) = v.I + 1 := wrap_i64 (by omega) (by omega)
     have e2 : IntKind.i64.wrap (0 - (v.I + 1)) = 0 - (v.I + 1) := wrap_i64 (by omega) (by omega)
     rw [e1, e2, wr_u64, wr_u64, wr_u64]
     unfold zig
     rw [if_pos hc]; omega
    rw [e]
    refine cl_mono (rnum_spec hz H) ?_
    rintro r w ⟨rfl, H⟩
    refine cat_i (by simp; omega) ?_
    exact ⟨by simp [enc1, h], H.drop⟩
   ·rename_i hc
    have hc : ¬ v.I < 0 := by simpa using hc
    refine ld_st (x := v.I) 0 H rfl rfl rfl ?_
    have e : IntKind.u64.wrap (2 * IntKind.u64.wrap v.I) = ((zig v.I : Nat) : Int) := by
     rw [wr_u64, wr_u64]
     unfold zig
     rw [if_neg hc]; omega
    rw [e]
    refine cl_mono (rnum_spec hz H) ?_
    rintro r w ⟨rfl, H⟩
    refine cat_i (by simp; omega) ?_
    exact ⟨by simp [enc1, h], H.drop⟩
  ·rename_i h
   have h2 : ¬ v.Kind = 2 := by simpa using h
   split
   ·rename_i h
    have h : v.Kind = 3 := by simpa using h
    refine ld_st (x := v.F) 0 H rfl rfl rfl ?_
    refine cl_mono (rbits_spec H) ?_
    rintro r w ⟨rfl, H⟩
    refine cl_mono (eight_spec (fb_lt hI.f) H) ?_
    rintro r w ⟨rfl, H⟩
    refine cat_i (by simp [be_len]) ?_
    exact ⟨by simp [enc1, h], H.drop⟩
   ·rename_i h
    have h3 : ¬ v.Kind = 3 := by simpa using h
    have h4 : v.Kind = 4 := by omega
    have hl : v.S.length ≤ 1000 := by
     rcases hk with h | h | h | h
     ·exact absurd h.1 h1
     ·exact absurd h.1 h2
     ·exact absurd h.1 h3
     ·exact h.2.2.2.2
    refine dr_st H fun w H => ?_
    refine ld_st (x := v.S) 0 H rfl rfl rfl ?_
    refine ld_st (x := v.S) 0 H rfl rfl rfl ?_
    have e : IntKind.u64.wrap (v.S.length : Int) = ((v.S.length : Nat) : Int) := by rw [wr_u64]; omega
    rw [e]
    have hn := num_len0 (n := v.S.length) (by omega)
    refine cl_mono (rnum_spec (by omega) H) ?_
    rintro r w ⟨rfl, H⟩
    refine ⟨rdat_cel tStr H rfl rfl, rdat_cel tStr H rfl rfl, ?_⟩
    refine cat_i (by simp; omega) ?_
    refine cat_i (by simp; omega) ?_
    exact ⟨by simp [enc1, h4], H.drop⟩
theorem rpack_spec {s : Slc} {vs : List Val} (hI : ∀ v ∈ vs, In v) (hn : vs.length ≤ 9000000000) (k : See 5 l TV s vs) (H : St W l w) :
  cl Tryz.prog 31 [tSlc.enc s] (tTup2 tStr (tInt .i64)) w fun r w' => r.2 = packE vs ∧ r.1 = (if packE vs = 0 then encs vs else []) ∧ St W l w' := by
 have hs := k.len H
 refine F31_ok ?_
 unfold F31
 rw [hs]
 split
 ·rename_i hc
  have hc : 1000 < vs.length := by simp at hc; omega
  have e : packE vs = 20 := if_pos hc
  exact ⟨e.symm, by rw [e]; rfl, H⟩
 ·rename_i hc
  have hc : vs.length ≤ 1000 := by simp at hc; omega
  have e : packE vs = bad vs := if_neg (by omega)
  rw [e]
  refine lp_p (fun p w => 0 ≤ p.2 ∧ p.2 ≤ vs.length ∧ (∀ v ∈ vs.take p.2.toNat, okV v = 0) ∧ p.1 = encs (vs.take p.2.toNat) ∧ St W l w) (fun p => (vs.length - p.2).toNat)
   ⟨Int.le_refl 0, by simp only; omega, by simp, by simp [encs], H⟩ ?_
  clear H
  rintro ⟨b, i⟩ w ⟨h0, h1, hok, hb0, H⟩ K hK
  simp only at h0 h1 hok hb0
  subst hb0
  unfold F31_l1
  rw [hs]
  split
  ·rename_i hi
   have hi : i < vs.length := by simpa using hi
   have hx : vs[i.toNat]? = some vs[i.toNat] := List.getElem?_eq_getElem (by omega)
   have hm : vs[i.toNat] ∈ vs := List.getElem_mem _
   have ht : vs.take (i.toNat + 1) = vs.take i.toNat ++ [vs[i.toNat]] := by rw [List.take_succ_eq_append_getElem (by omega)]
   have hd : vs = vs.take i.toNat ++ vs[i.toNat] :: vs.drop (i.toNat + 1) := by
    conv => lhs; rw [← List.take_append_drop i.toNat vs]
    rw [List.drop_eq_getElem_cons (by omega)]
   have hbd : okV vs[i.toNat] ≠ 0 → bad vs = okV vs[i.toNat] := by
    intro h
    have hd2 := congrArg bad hd
    rw [hd2, bad_app hok]
    simp only [bad]
    exact if_pos h
   generalize vs[i.toNat] = v at hx hm ht hbd
   have hel := encs_len (vs := vs.take i.toNat) (fun x hx => hI x (List.mem_of_mem_take hx)) hok
   rw [List.length_take] at hel
   obtain ⟨a, ha⟩ := k.ix (i := i) H h0 hi
   refine ex_i a ha ?_
   refine ex_i v (k.rd ha hx H) ?_
   refine cl_mono (rvalid_spec H) ?_
   rintro r w ⟨rfl, H⟩
   split
   ·rename_i hne
    have hne : okV v ≠ 0 := by simpa using hne
    have hb := hbd hne
    refine ⟨hb.symm, ?_, H⟩
    rw [hb, if_neg hne]
   ·rename_i hne
    have hv : okV v = 0 := by simpa using hne
    refine ex_i a ha ?_
    refine ex_i v (k.rd ha hx H) ?_
    refine cl_mono (one_spec (hI v hm) hv H) ?_
    rintro q w ⟨rfl, H⟩
    have hle := enc1_len (hI v hm) hv
    refine cat_i (by simp only; omega) ?_
    have e1 : IntKind.i64.wrap (i + 1) = i + 1 := wrap_i64 (by omega) (by omega)
    rw [e1]
    have e2 : (i + 1).toNat = i.toNat + 1 := by omega
    refine hK _ _ ⟨by simp only; omega, by simp only; omega, ?_, ?_, H⟩ (by simp only; omega)
    ·simp only [e2, ht]
     intro x hx
     rcases List.mem_append.1 hx with hx | hx
     ·exact hok x hx
     ·rw [List.mem_singleton.1 hx]; exact hv
    ·simp only [e2, ht]
     rw [encs_app]
     simp [encs]
  ·rename_i hi
   have hi : i = vs.length := by simp at hi; omega
   subst hi
   have e3 : vs.take ((vs.length : Int)).toNat = vs := by simp
   rw [e3] at hok ⊢
   have hb := bad_of hok
   exact ⟨hb.symm, by rw [hb, if_pos rfl], H⟩
end
end Go.Proofs.YtehclfjjjiiieaaGreat.Wire
namespace Go.Proofs.YtehclfjjjiiieaaGreat.Wire
open Go Go.Proofs.YtehclfjjjiiieaaGreat.Cf
set_option linter.unusedVariables false
set_option linter.unusedSimpArgs false
set_option maxRecDepth 100000
theorem wuN {m : Nat} (h : m < 18446744073709551616) : IntKind.u64.wrap (m : Int) = (m : Int) := by rw [wr_u64]; omega
theorem wiN {m : Nat} (h : m ≤ 9223372036854775807) : IntKind.i64.wrap (m : Int) = (m : Int) := by rw [wrap_i64 (by omega) (by omega)]
theorem tmN (a b : Nat) : Int.tmod (a : Int) (b : Int) = ((a % b : Nat) : Int) := (Int.ofNat_tmod a b).symm
theorem tdN (a b : Nat) : Int.tdiv (a : Int) (b : Int) = ((a / b : Nat) : Int) := (Int.ofNat_tdiv a b).symm
def numR (N : Nat) : Except Int (Nat × List UInt8) → Int × Int × Int
 | .error e => (0, 0, e)
 | .ok (n, rest) => (n, N - rest.length, 0)
def valR (N : Nat) : Except Int (Val × List UInt8) → Val × Int × Int
 | .error e => (⟨0, 0, 0, 0, []⟩, 0, e)
 | .ok (v, rest) => (v, N - rest.length, 0)
section
variable {W w : World} {l l' : List Assn} {bs : List UInt8}
theorem rnumber_spec {a : Nat} (hn : bs.length ≤ 1000000000) (ha : a ≤ bs.length) (H : St W l w) :
  cl Tryz.prog 101 [.string ⟨bs.toArray⟩, .int .i64 a] (tTup3 (tInt .u64) (tInt .i64) (tInt .i64)) w fun r w' => r = numR bs.length (rdNum (bs.drop a) 0 0) ∧ St W l w' := by
 refine F101_ok ?_
 unfold F101
 refine lp_p (fun s w => ∃ (k acc : Nat), k ≤ 9 ∧ s.1 = (acc : Int) ∧ s.2.1 = ((128 ^ k : Nat) : Int) ∧ s.2.2 = ((a + k : Nat) : Int) ∧ acc < 128 ^ k ∧ a + k ≤ bs.length ∧ rdNum (bs.drop a) 0 0 = rdNum (bs.drop (a + k)) k acc ∧ St W l w) (fun s => (bs.length - s.2.2).toNat) ⟨0, 0, by omega, rfl, rfl, rfl, by simp, by omega, rfl, H⟩ ?_
 clear H
 rintro ⟨n, t, i⟩ w ⟨k, acc, hk, h1, h2, h3, hacc, hle, he, H⟩ K hK
 simp only at h1 h2 h3
 subst h1; subst h2; subst h3
 unfold F101_l1
 simp only
 rw [he]
 split
 ·rename_i hc
  have hc : a + k < bs.length := by
   have : ((a + k : Nat) : Int) < bs.length := by simpa using hc
   omega
  have hd : bs.drop (a + k) = bs[a + k] :: bs.drop (a + k + 1) := List.drop_eq_getElem_cons hc
  have hx : bs[a + k]? = some bs[a + k] := List.getElem?_eq_getElem hc
  generalize bs[a + k] = c at hd hx
  refine ex_i (c.toNat : Int) ⟨by omega, c, by rw [Int.toNat_natCast]; exact hx, rfl⟩ ?_
  have hcl := c.toNat_lt
  rw [wuN (m := c.toNat) (by omega), hd, rdNum]
  have e9 : IntKind.i64.wrap ((a : Int) + 9) = ((a + 9 : Nat) : Int) := by rw [wrap_i64 (by omega) (by omega)]; omega
  rw [e9]
  by_cases c1 : (k = 9 ∧ 1 < c.toNat) ∨ (0 < k ∧ c.toNat = 0)
  ·rw [if_pos c1]
   refine (if_pos ?_).mpr ⟨rfl, H⟩
   simp only [Bool.or_eq_true, Bool.and_eq_true, beq_iff_eq, decide_eq_true_eq]
   omega
  ·rw [if_neg c1]
   refine (if_neg ?_).mpr ?_
   ·simp only [Bool.or_eq_true, Bool.and_eq_true, beq_iff_eq, decide_eq_true_eq]
    omega
   ·have hbig : acc + c.toNat % 128 * 128 ^ k < 18446744073709551616 := by
     rcases p9 hk with h | h | h | h | h | h | h | h | h | ⟨h9, h⟩ <;> rw [h] at hacc ⊢ <;> first | omega
    have e1 : Int.tmod ((c.toNat : Nat) : Int) 128 = ((c.toNat % 128 : Nat) : Int) := tmN _ 128
    have e2 : ((c.toNat % 128 : Nat) : Int) * ((128 ^ k : Nat) : Int) = ((c.toNat % 128 * 128 ^ k : Nat) : Int) := (Int.natCast_mul _ _).symm
    have e3 : (acc : Int) + ((c.toNat % 128 * 128 ^ k : Nat) : Int) = ((acc + c.toNat % 128 * 128 ^ k : Nat) : Int) := (Int.natCast_add _ _).symm
    rw [e1, e2, wuN (by omega), e3, wuN hbig]
    have ei : IntKind.i64.wrap (((a + k : Nat) : Int) + 1) = ((a + k + 1 : Nat) : Int) := by rw [wrap_i64 (by omega) (by omega)]; omega
    rw [ei]
    by_cases c2 : c.toNat < 128
    ·rw [if_pos c2]
     refine (if_pos ?_).mpr ?_
     ·simp only [decide_eq_true_eq]; omega
     ·refine ⟨?_, H⟩
      have hdl : (bs.drop (a + k + 1)).length = bs.length - (a + k + 1) := List.length_drop
      unfold numR
      simp only [hdl]
      rw [show ((bs.length : Int) - ((bs.length - (a + k + 1) : Nat) : Int)) = ((a + k + 1 : Nat) : Int) from by omega]
    ·rw [if_neg c2]
     refine (if_neg ?_).mpr ?_
     ·simp only [decide_eq_true_eq]; omega
     ·have hk8 : k ≤ 8 := by omega
      have e4 : IntKind.u64.wrap (((128 ^ k : Nat) : Int) * 128) = ((128 ^ (k + 1) : Nat) : Int) := by
       rw [show ((128 ^ k : Nat) : Int) * 128 = ((128 ^ (k + 1) : Nat) : Int) from by rw [Nat.pow_succ]; push_cast; rfl]
       refine wuN ?_
       rcases p9 (show k + 1 ≤ 9 by omega) with h | h | h | h | h | h | h | h | h | ⟨h9, h⟩ <;> omega
      rw [e4]
      refine hK _ _ ⟨k + 1, acc + c.toNat % 128 * 128 ^ k, by omega, rfl, rfl, by simp only; omega, ?_, by omega, ?_, H⟩ (by simp only; omega)
      ·rw [Nat.pow_succ]
       have : c.toNat % 128 ≤ 127 := by omega
       have := Nat.mul_le_mul_right (128 ^ k) this
       omega
      ·rw [he, hd, rdNum, if_neg c1, if_neg c2, Nat.add_assoc]
 ·rename_i hc
  have hc : bs.length ≤ a + k := by
   have : ¬ ((a + k : Nat) : Int) < bs.length := by simpa using hc
   omega
  rw [List.drop_eq_nil_of_le hc, rdNum]
  exact ⟨rfl, H⟩
theorem rdNum_drop {a n : Nat} {rest : List UInt8} (ha : a ≤ bs.length) (h : rdNum (bs.drop a) 0 0 = .ok (n, rest)) : n < 18446744073709551616 ∧ rest.length ≤ bs.length ∧ bs.drop (bs.length - rest.length) = rest := by
 obtain ⟨h1, h2⟩ := rdNum_ok2 h
 have hl := congrArg List.length h2
 rw [List.length_drop, List.length_append] at hl
 refine ⟨h1, by omega, ?_⟩
 have : bs.drop (bs.length - rest.length) = (bs.drop a).drop (num n).length := by rw [List.drop_drop]; congr 1; omega
 rw [this, h2, List.drop_left]
theorem rvalue_spec {a : Nat} (hn : bs.length ≤ 1000000000) (ha : a < bs.length) (H : St W l w) :
  cl Tryz.prog 61 [.string ⟨bs.toArray⟩, .int .i64 a] (tTup3 TV (tInt .i64) (tInt .i64)) w fun r w' => r = valR bs.length (dec1 (bs.drop a)) ∧ St W l w' := by
 refine F61_ok ?_
 unfold F61
 refine nw_st H fun b3 w H => ?_
 have hd : bs.drop a = bs[a] :: bs.drop (a + 1) := List.drop_eq_getElem_cons ha
 have hx : bs[a]? = some bs[a] := List.getElem?_eq_getElem ha
 generalize bs[a] = c at hd hx
 have hcl := c.toNat_lt
 refine ex_i (c.toNat : Int) ⟨by omega, c, by rw [Int.toNat_natCast]; exact hx, rfl⟩ ?_
 refine nw_st H fun b6 w H => ?_
 have ec : IntKind.i64.wrap (c.toNat : Int) = (c.toNat : Int) := wiN (by omega)
 rw [ec]
 refine vst_st (x := Z63) (y := (⟨(c.toNat : Int), 0, 0, 0, []⟩ : Val)) len64 0 H rfl fun w H => ?_
 refine ld_st (x := (c.toNat : Int)) 0 H rfl rfl rfl ?_
 refine ex_i (c.toNat : Int) (fun _ => rdat_cel (tInt .i64) H rfl rfl) ?_
 have bad : ∀ (cs : Val) (e : Int) (w : World), dec1 (bs.drop a) = .error e → St W (cel b6 (TV.cells cs) 64 :: cel b3 (TV.cells Z63) 64 :: l) w →
   st TV ⟨b3, 0, none⟩ Z63 w fun w' => ex (RdAt TV ⟨b3, 0, none⟩ w') fun x => (x, (0 : Int), e) = valR bs.length (dec1 (bs.drop a)) ∧ St W l w' := by
  intro cs e w he H
  refine vst_st (x := Z63) (y := Z63) len64 1 H rfl fun w H => ?_
  refine vld_st (x := Z63) 0 H rfl ?_
  rw [he]
  exact ⟨rfl, H.drop.drop⟩
 have done : ∀ (v : Val) (rest : List UInt8) (to : Int) (w : World), dec1 (bs.drop a) = .ok (v, rest) → to = bs.length - rest.length → St W (cel b6 (TV.cells v) 64 :: cel b3 (TV.cells Z63) 64 :: l) w →
   F61_j2 ⟨b3, 0, none⟩ ⟨b6, 0, none⟩ to w fun r w' => r = valR bs.length (dec1 (bs.drop a)) ∧ St W l w' := by
  intro v rest to w he ht H
  unfold F61_j2
  refine vld_st (x := v) 0 H rfl ?_
  refine vst_st (x := Z63) (y := v) len64 1 H rfl fun w H => ?_
  refine vld_st (x := v) 0 H rfl ?_
  rw [he]
  exact ⟨by unfold valR; rw [ht], H.drop.drop⟩
 by_cases c0 : c.toNat < 1 ∨ 4 < c.toNat
 ·rw [if_pos (by simp only [Bool.or_eq_true, decide_eq_true_eq]; omega)]
  exact bad _ 21 w (by rw [hd, dec1, if_neg (by omega), if_neg (by omega), if_neg (by omega), if_neg (by omega)]) H
 ·rw [if_neg (by simp only [Bool.or_eq_true, decide_eq_true_eq]; omega)]
  refine ld_st (x := (c.toNat : Int)) 0 H rfl rfl rfl ?_
  by_cases c3 : c.toNat = 3
  ·rw [if_pos (by simp only [beq_iff_eq]; omega)]
   have hde : dec1 (bs.drop a) = match rdBe 8 0 (bs.drop (a + 1)) with
     | .error e => .error e
     | .ok (n, r) => if fb n ≠ n then .error 25 else .ok (⟨3, 0, 0, n, []⟩, r) := by
    rw [hd, dec1, if_neg (by omega), if_neg (by omega), if_pos c3]; rfl
   have el : IntKind.i64.wrap ((bs.length : Int) - a) = ((bs.length - a : Nat) : Int) := by rw [wrap_i64 (by omega) (by omega)]; omega
   rw [el]
   by_cases c9 : bs.length - a < 9
   ·rw [if_pos (by simp only [decide_eq_true_eq]; omega)]
    exact bad _ 22 w (by rw [hde, rdBe_cut 8 0 _ (by rw [List.length_drop]; omega)]) H
   ·rw [if_neg (by simp only [decide_eq_true_eq]; omega)]
    rw [c3] at H
    refine lp_p (fun s w => ∃ (j acc : Nat), j ≤ 8 ∧ s.1 = (acc : Int) ∧ s.2 = ((1 + j : Nat) : Int) ∧ acc < 256 ^ j ∧ rdBe 8 0 (bs.drop (a + 1)) = rdBe (8 - j) acc (bs.drop (a + 1 + j)) ∧ St W (cel b6 (TV.cells ⟨3, 0, 0, 0, []⟩) 64 :: cel b3 (TV.cells Z63) 64 :: l) w) (fun s => (9 - s.2).toNat) ⟨0, 0, by omega, rfl, rfl, by simp, rfl, H⟩ ?_
    clear H
    rintro ⟨n, i⟩ w ⟨j, acc, hj, h1, h2, hacc, he, H⟩ K hK
    simp only at h1 h2
    subst h1; subst h2
    unfold F61_l1
    simp only
    split
    ·rename_i hc
     have hc : j < 8 := by
      have : ((1 + j : Nat) : Int) < 9 := by simpa using hc
      omega
     have hlt : a + 1 + j < bs.length := by omega
     have hdj : bs.drop (a + 1 + j) = bs[a + 1 + j] :: bs.drop (a + 1 + j + 1) := List.drop_eq_getElem_cons hlt
     have hxj : bs[a + 1 + j]? = some bs[a + 1 + j] := List.getElem?_eq_getElem hlt
     generalize bs[a + 1 + j] = g at hdj hxj
     have hgl := g.toNat_lt
     have ei : IntKind.i64.wrap ((a : Int) + ((1 + j : Nat) : Int)) = ((a + 1 + j : Nat) : Int) := by rw [wrap_i64 (by omega) (by omega)]; omega
     rw [ei]
     refine ex_i (g.toNat : Int) ⟨by omega, g, by rw [Int.toNat_natCast]; exact hxj, rfl⟩ ?_
     have hp : 256 ^ (j + 1) ≤ 256 ^ 8 := Nat.pow_le_pow_right (by omega) (by omega)
     have hp2 : 256 ^ (j + 1) = 256 ^ j * 256 := Nat.pow_succ ..
     have h8 : 256 ^ 8 = 18446744073709551616 := by decide
     have en : IntKind.u64.wrap (IntKind.u64.wrap (256 * (acc : Int)) + IntKind.u64.wrap (g.toNat : Int)) = ((acc * 256 + g.toNat : Nat) : Int) := by
      rw [show (256 : Int) * (acc : Int) = ((acc * 256 : Nat) : Int) from by omega, wuN (m := acc * 256) (by omega), wuN (m := g.toNat) (by omega), show ((acc * 256 : Nat) : Int) + (g.toNat : Int) = ((acc * 256 + g.toNat : Nat) : Int) from by omega, wuN (by omega)]
     have e1 : IntKind.i64.wrap (((1 + j : Nat) : Int) + 1) = ((1 + (j + 1) : Nat) : Int) := by rw [wrap_i64 (by omega) (by omega)]; omega
     rw [en, e1]
     refine hK _ _ ⟨j + 1, acc * 256 + g.toNat, by omega, rfl, rfl, by omega, ?_, H⟩ (by simp only; omega)
     rw [he, hdj, show 8 - j = (8 - (j + 1)) + 1 from by omega, rdBe]
     congr 1
    ·rename_i hc
     have hj8 : j = 8 := by
      have : ¬ ((1 + j : Nat) : Int) < 9 := by simpa using hc
      omega
     subst hj8
     have h8 : 256 ^ 8 = 18446744073709551616 := by decide
     rw [h8] at hacc
     rw [show 8 - 8 = 0 from rfl, rdBe] at he
     rw [he] at hde
     simp only at hde
     have hrl : (bs.drop (a + 1 + 8)).length = bs.length - (a + 9) := by rw [List.length_drop]
     generalize bs.drop (a + 1 + 8) = rest at hde hrl
     rw [Int.toNat_natCast]
     refine st_st (x := acc) 0 H rfl rfl (Nat.le_of_ble_eq_true rfl) fun w H => ?_
     refine ld_st (x := acc) 0 H rfl rfl rfl ?_
     refine cl_mono (rbits_spec H) ?_
     rintro r w ⟨rfl, H⟩
     by_cases cf : fb acc = acc
     ·rw [if_neg (by simp [cf])]
      rw [if_neg (by simpa using cf)] at hde
      refine vld_st (x := (⟨3, 0, 0, acc, []⟩ : Val)) 0 H rfl ?_
      refine vst_st (x := Z63) (y := (⟨3, 0, 0, acc, []⟩ : Val)) len64 1 H rfl fun w H => ?_
      refine vld_st (x := (⟨3, 0, 0, acc, []⟩ : Val)) 0 H rfl ?_
      have e9 : IntKind.i64.wrap ((a : Int) + 9) = (bs.length : Int) - ((rest.length : Nat) : Int) := by rw [wrap_i64 (by omega) (by omega), hrl]; omega
      rw [hde, e9]
      exact ⟨rfl, H.drop.drop⟩
     ·rw [if_pos (by simp only [bne_iff_ne, ne_eq]; omega)]
      rw [if_pos (by simpa using cf)] at hde
      refine vst_st (x := Z63) (y := Z63) len64 1 H rfl fun w H => ?_
      refine vld_st (x := Z63) 0 H rfl ?_
      rw [hde]
      exact ⟨rfl, H.drop.drop⟩
  ·rw [if_neg (by simp only [beq_iff_eq]; omega)]
   have e1 : IntKind.i64.wrap ((a : Int) + 1) = ((a + 1 : Nat) : Int) := by rw [wrap_i64 (by omega) (by omega)]; omega
   rw [e1]
   refine cl_mono (rnumber_spec (a := a + 1) hn (by omega) H) ?_
   rintro ⟨r1, r2, r3⟩ w ⟨hrr, H⟩
   have hde : dec1 (bs.drop a) = if c.toNat = 1 then (match rdNum (bs.drop (a + 1)) 0 0 with
     | .error e => .error e
     | .ok (n, r) => .ok (⟨1, n, 0, 0, []⟩, r)) else if c.toNat = 2 then (match rdNum (bs.drop (a + 1)) 0 0 with
     | .error e => .error e
     | .ok (n, r) => .ok (⟨2, 0, zag n, 0, []⟩, r)) else (match rdNum (bs.drop (a + 1)) 0 0 with
     | .error e => .error e
     | .ok (n, r) => if 1000 < n then .error 24 else if r.length < n then .error 22 else .ok (⟨4, 0, 0, 0, r.take n⟩, r.drop n)) := by
    rw [hd, dec1]
    by_cases c1 : c.toNat = 1
    ·rw [if_pos c1, if_pos c1]; rfl
    ·by_cases c2 : c.toNat = 2
     ·rw [if_neg c1, if_pos c2, if_neg c1, if_pos c2]; rfl
     ·rw [if_neg c1, if_neg c2, if_neg c3, if_pos (by omega), if_neg c1, if_neg c2]; rfl
   cases hr : rdNum (bs.drop (a + 1)) 0 0 with
   | error e =>
    have hne := rdNum_err hr
    simp only [hr] at hde
    simp only [hr, numR, Prod.mk.injEq] at hrr
    obtain ⟨h1, h2, h3⟩ := hrr
    subst h1; subst h2; subst r3
    have hde : dec1 (bs.drop a) = .error e := by
     rw [hde]
     split
     ·rfl
     ·split
      ·rfl
      ·rfl
    rw [if_pos (by simpa using hne)]
    exact bad _ e w hde H
   | ok p =>
    obtain ⟨n, rest⟩ := p
    obtain ⟨hn64, hrl, hrest⟩ := rdNum_drop (by omega) hr
    simp only [hr] at hde
    simp only [hr, numR, Prod.mk.injEq] at hrr
    obtain ⟨rfl, rfl, rfl⟩ := hrr
    rw [if_neg (by simp)]
    refine ld_st (x := (c.toNat : Int)) 0 H rfl rfl rfl ?_
    by_cases c1 : c.toNat = 1
    ·rw [if_pos (by simp only [beq_iff_eq]; omega)]
     rw [if_pos c1] at hde
     refine st_st (x := (n : Int)) 0 H rfl rfl (Nat.le_of_ble_eq_true rfl) fun w H => ?_
     rw [c1] at H
     exact done ⟨1, n, 0, 0, []⟩ rest _ w hde rfl H
    ·rw [if_neg (by simp only [beq_iff_eq]; omega)]
     rw [if_neg c1] at hde
     by_cases c2 : c.toNat = 2
     ·rw [if_pos (by simp only [beq_iff_eq]; omega)]
      rw [if_pos c2] at hde
      have e2 : IntKind.i64.wrap (IntKind.u64.wrap (Int.tdiv (n : Int) 2)) = ((n / 2 : Nat) : Int) := by
       rw [show Int.tdiv (n : Int) 2 = ((n / 2 : Nat) : Int) from tdN n 2, wuN (by omega), wiN (by omega)]
      have e3 : Int.tmod (n : Int) 2 = ((n % 2 : Nat) : Int) := tmN n 2
      rw [e2, e3]
      refine st_st (x := ((n / 2 : Nat) : Int)) 0 H rfl rfl (Nat.le_of_ble_eq_true rfl) fun w H => ?_
      rw [c2] at H
      by_cases co : n % 2 = 1
      ·rw [if_pos (by simp only [beq_iff_eq]; omega)]
       refine ld_st (x := ((n / 2 : Nat) : Int)) 0 H rfl rfl rfl ?_
       have e4 : IntKind.i64.wrap (IntKind.i64.wrap (0 - ((n / 2 : Nat) : Int)) - 1) = zag n := by
        unfold zag
        rw [if_pos co, wrap_i64 (x := 0 - ((n / 2 : Nat) : Int)) (by omega) (by omega), wrap_i64 (by omega) (by omega)]
        omega
       rw [e4]
       refine st_st (x := zag n) 0 H rfl rfl (Nat.le_of_ble_eq_true rfl) fun w H => ?_
       exact done ⟨2, 0, zag n, 0, []⟩ rest _ w hde rfl H
      ·rw [if_neg (by simp only [beq_iff_eq]; omega)]
       have e4 : ((n / 2 : Nat) : Int) = zag n := by unfold zag; rw [if_neg co]
       rw [e4] at H
       exact done ⟨2, 0, zag n, 0, []⟩ rest _ w hde rfl H
     ·rw [if_neg (by simp only [beq_iff_eq]; omega)]
      rw [if_neg c2] at hde
      have c4 : c.toNat = 4 := by omega
      by_cases ck : 1000 < n
      ·rw [if_pos (by simp only [decide_eq_true_eq]; omega)]
       rw [if_pos ck] at hde
       exact bad _ 24 w hde H
      ·rw [if_neg (by simp only [decide_eq_true_eq]; omega)]
       rw [if_neg ck] at hde
       have ew : IntKind.i64.wrap (n : Int) = (n : Int) := wiN (by omega)
       have el : IntKind.i64.wrap ((bs.length : Int) - ((bs.length : Int) - (rest.length : Int))) = (rest.length : Int) := by rw [wrap_i64 (by omega) (by omega)]; omega
       rw [ew, el]
       by_cases cl : rest.length < n
       ·rw [if_pos (by simp only [decide_eq_true_eq]; omega)]
        rw [if_pos cl] at hde
        exact bad _ 22 w hde H
       ·rw [if_neg (by simp only [decide_eq_true_eq]; omega)]
        rw [if_neg cl] at hde
        have eh : IntKind.i64.wrap ((bs.length : Int) - (rest.length : Int) + (n : Int)) = ((bs.length - rest.length + n : Nat) : Int) := by rw [wrap_i64 (by omega) (by omega)]; omega
        rw [eh]
        refine ex_i (rest.take n) ⟨by simp only; omega, by simp only; omega, by omega, ?_⟩ ?_
        ·rw [show ((bs.length : Int) - (rest.length : Int)).toNat = bs.length - rest.length from by omega, Int.toNat_natCast]
         have : bs.take (bs.length - rest.length + n) = bs.take (bs.length - rest.length) ++ (bs.drop (bs.length - rest.length)).take n := by rw [List.take_add]
         rw [this, hrest, List.drop_left' (by rw [List.length_take]; omega)]
        ·refine st_st (x := rest.take n) 0 H rfl rfl (Nat.le_of_ble_eq_true rfl) fun w H => ?_
         rw [c4] at H
         exact done ⟨4, 0, 0, 0, rest.take n⟩ (rest.drop n) _ w hde (by rw [List.length_drop]; omega) H
theorem runpack_spec (hn : bs.length ≤ 1000000000) (H : St W l w) :
  cl Tryz.prog 30 [.string ⟨bs.toArray⟩] (tTup3 tSlc (tInt .i64) (tInt .i64)) w fun r w' => r.2.2 = (unp bs).2.2 ∧ St W (row TV 64 5 r.1 (unp bs).1 :: l) w' := by
 refine F30_ok ?_
 unfold F30
 refine nwS_st H fun b2 w H => ?_
 have H := row_new (sz := 5) (m := 0) rfl H
 refine lp_p (fun s w => ∃ (f a : Nat) (vs : List Val), s.2 = (a : Int) ∧ a ≤ bs.length ∧ vs.length ≤ 1000 ∧ bs.length - a < f ∧ unp bs = unpF f (bs.drop a) vs a ∧ St W (row TV 64 5 s.1 vs :: l) w) (fun s => (bs.length - s.2).toNat) ⟨bs.length + 1, 0, [], rfl, by omega, by simp, by omega, rfl, H⟩ ?_
 clear H
 rintro ⟨q, i⟩ w ⟨f, a, vs, h1, ha, hv, hf, he, H⟩ K hK
 simp only at h1 H
 subst h1
 unfold F30_l1
 simp only
 rw [he]
 have hql := row_len H
 split
 ·rename_i hc
  have hc : a < bs.length := by
   have : (a : Int) < bs.length := by simpa using hc
   omega
  have hd : bs.drop a = bs[a] :: bs.drop (a + 1) := List.drop_eq_getElem_cons hc
  obtain ⟨f, rfl⟩ : ∃ g, f = g + 1 := ⟨f - 1, by omega⟩
  by_cases c1 : vs.length = 1000
  ·rw [if_pos (by simp only [beq_iff_eq]; omega)]
   rw [hd, unpF, if_pos c1]
   exact ⟨rfl, row_nil TV 64 5 H.drop⟩
  ·rw [if_neg (by simp only [beq_iff_eq]; omega)]
   refine cl_mono (rvalue_spec hn hc H) ?_
   rintro r w ⟨hr, H⟩
   refine nw_st H fun b10 w H => ?_
   refine vst_st (x := Z63) (y := r.1) len64 0 H rfl fun w H => ?_
   cases hdc : dec1 (bs.drop a) with
   | error e =>
    rw [hdc] at hr
    subst hr
    have hne := dec1_err hdc
    rw [if_pos (by simpa [valR] using hne)]
    have hu : unpF (f + 1) (bs.drop a) vs a = ([], a, e) := by
     rw [hd] at hdc ⊢
     rw [unpF, if_neg c1, hdc]
    rw [hu]
    exact ⟨rfl, row_nil TV 64 5 H.drop.drop⟩
   | ok p =>
    obtain ⟨v, rest⟩ := p
    rw [hdc] at hr
    subst hr
    have hu := unpF_step (f := f) (a := a) hdc c1
    have hless := dec1_less hdc
    obtain ⟨_, _, _, hsd⟩ := dec1_sound hdc
    have hll := congrArg List.length hsd
    rw [List.length_drop, List.length_append] at hll
    rw [List.length_drop] at hless hu
    rw [if_neg (by simp [valR])]
    refine vld_st (x := v) 0 H rfl ?_
    refine apl_row lenV 1 H rfl (by simp; omega) fun r w H => ?_
    have ea : (bs.length : Int) - (rest.length : Int) = ((a + (bs.length - a - rest.length) : Nat) : Int) := by omega
    simp only [valR]
    rw [ea]
    have hdr : bs.drop (a + (bs.length - a - rest.length)) = rest := by
     rw [← List.drop_drop, hsd]
     exact List.drop_left' (by omega)
    refine hK _ _ ⟨f, _, vs ++ [v], rfl, by omega, by simp; omega, by omega, ?_, (H.front 1).drop⟩ (by simp only; omega)
    rw [he, hu, hdr]
 ·rename_i hc
  have hc : bs.length ≤ a := by
   have : ¬ (a : Int) < bs.length := by simpa using hc
   omega
  obtain ⟨f, rfl⟩ : ∃ g, f = g + 1 := ⟨f - 1, by omega⟩
  rw [List.drop_eq_nil_of_le hc, unpF]
  exact ⟨rfl, H⟩
end
end Go.Proofs.YtehclfjjjiiieaaGreat.Wire
namespace Go.Proofs.YtehclfjjjiiieaaGreat
open Go Go.Proofs.YtehclfjjjiiieaaGreat.Cf
set_option linter.unusedVariables false
set_option linter.unusedSimpArgs false
set_option maxRecDepth 100000
theorem ownNone : ownKnob Tryz.prog.godebug = none := by kernel_rfl
theorem laidOutYes : laidOutB Tryz.prog = true := by kernel_rfl
section
variable {H : Type} {enc : TypeId × Value → H} {W : World} {base : Nat} {spare : Nat → Bool} {held : Bool}
def G3 (W : World) (x : Int) : Prop := IntKind.i64.min ≤ x ∧ x ≤ IntKind.i64.max
theorem opn3 : Opn enc Tryz.prog W base spare held 3 (tInt .i64) (G3 W) := opn_int Tryz.underlying3
def G2 (W : World) (x : Int) : Prop := IntKind.i64.min ≤ x ∧ x ≤ IntKind.i64.max
theorem opn2 : Opn enc Tryz.prog W base spare held 2 (tInt .i64) (G2 W) := opn_int Tryz.underlying2
def G4 (W : World) (x : Bool) : Prop := True
theorem opn4 : Opn enc Tryz.prog W base spare held 4 tBool (G4 W) := opn_bool Tryz.underlying4
def G23 (W : World) (x : S22) : Prop := G3 W x.Kind ∧ G2 W x.T_ ∧ G3 W x.ID ∧ G3 W x.Account ∧ G2 W x.N ∧ G4 W x.Pays
theorem opn23 : Opn enc Tryz.prog W base spare held 23 T22 (G23 W) := by
 refine opn_agg Tryz.underlying23 (show Tryz.prog.cellsOf 23 = 6 by kernel_rfl) fun cs hl hf => ?_
 obtain ⟨m0, x0, h0⟩ := hf 0 0 3 1 ⟨_, rfl, rfl, rfl⟩ (by kernel_rfl)
 obtain ⟨y0, e0, g0⟩ := opn3 _ _ _ h0
 obtain ⟨m1, x1, h1⟩ := hf 1 1 2 1 ⟨_, rfl, rfl, rfl⟩ (by kernel_rfl)
 obtain ⟨y1, e1, g1⟩ := opn2 _ _ _ h1
 obtain ⟨m2, x2, h2⟩ := hf 2 2 3 1 ⟨_, rfl, rfl, rfl⟩ (by kernel_rfl)
 obtain ⟨y2, e2, g2⟩ := opn3 _ _ _ h2
 obtain ⟨m3, x3, h3⟩ := hf 3 3 3 1 ⟨_, rfl, rfl, rfl⟩ (by kernel_rfl)
 obtain ⟨y3, e3, g3⟩ := opn3 _ _ _ h3
 obtain ⟨m4, x4, h4⟩ := hf 4 4 2 1 ⟨_, rfl, rfl, rfl⟩ (by kernel_rfl)
 obtain ⟨y4, e4, g4⟩ := opn2 _ _ _ h4
 obtain ⟨m5, x5, h5⟩ := hf 5 5 4 1 ⟨_, rfl, rfl, rfl⟩ (by kernel_rfl)
 obtain ⟨y5, e5, g5⟩ := opn4 _ _ _ h5
 exact ⟨⟨y0, y1, y2, y3, y4, y5⟩, dj (o := 0) (k := 1) e0 (dj (o := 1) (k := 1) e1 (dj (o := 2) (k := 1) e2 (dj (o := 3) (k := 1) e3 (dj (o := 4) (k := 1) e4 (dj (o := 5) (k := 1) e5 (dend hl)))))), g0, g1, g2, g3, g4, g5⟩
def G9 (W : World) (x : (List UInt8)) : Prop := x.length ≤ 9223372036854775807
theorem opn9 : Opn enc Tryz.prog W base spare held 9 tStr (G9 W) := opn_str Tryz.underlying9
end
end Go.Proofs.YtehclfjjjiiieaaGreat
namespace Go.Proofs.YtehclfjjjiiieaaGreat.Cf
open Go
set_option maxRecDepth 100000
set_option maxHeartbeats 1000000
set_option linter.unusedVariables false
set_option linter.unusedSimpArgs false
def F3_j3 (t_34 : Bool) (w35 : World) (R : Bool → World → Prop) : Prop :=
 R t_34 w35
def F3_j2 (s_2 : (List UInt8)) (a3 : Addr) (r13 : (S22 × Bool)) (a14 : Addr) (a25 : Addr) (x28 : Int) (x29 : Int) (t_30 : Bool) (w31 : World) (R : Bool → World → Prop) : Prop :=
 if t_30 = true then (
  R false w31
 ) else (
  ex (fun x => (!(!((decide (x28 ≥ (1 : Int))) && (decide (x29 ≤ (6 : Int)))))) = true → (RdAt T22 a25 w31) x) fun x32 =>
  ex (fun x => (!(!((decide (x28 ≥ (1 : Int))) && (decide (x29 ≤ (6 : Int)))))) = true → (RdAt T22 a3 w31) x) fun x33 =>
  if ((!((decide (x28 ≥ (1 : Int))) && (decide (x29 ≤ (6 : Int))))) || (S22.eqb x32 x33)) = true then (
   if (!r13.2) = true then (
    F3_j3 true w31 R
   ) else (
    ex (RdAt T22 a14 w31) fun x38 =>
    cl Tryz.prog 8 [T22.enc (x38)] tSlc w31 fun r40 w39 =>
    ex (B2S r40 w39) fun s41 =>
    F3_j3 (s41 == s_2) w39 R
   )
  ) else (
   F3_j3 false w31 R
  )
 )
def F3_j1 (s_2 : (List UInt8)) (a3 : Addr) (r9 : Slc) (r13 : (S22 × Bool)) (a14 : Addr) (r18 : (S22 × Bool)) (a19 : Addr) (w22 : World) (R : Bool → World → Prop) : Prop :=
 cl Tryz.prog 9 [tSlc.enc (r9)] (tTup2 T22 tBool) w22 fun r24 w23 =>
 nw 23 T22 Z22 w23 fun a25 w26 =>
 st T22 a25 r24.1 w26 fun w27 =>
 ex (RdAt (tInt .i64) (a3.add 0) w27) fun x28 =>
 ex (fun x => (decide (x28 ≥ (1 : Int))) = true → (RdAt (tInt .i64) (a3.add 0) w27) x) fun x29 =>
 dr w27 fun w43 =>
 cl Tryz.prog 7 [] tBool w43 fun r45 w44 =>
 if (!r45) = true then (
  ex (fun x => (!true) = true → (RdAt T22 a14 w44) x) fun x47 =>
  ex (fun x => (!true) = true → (RdAt T22 a19 w44) x) fun x48 =>
  F3_j2 s_2 a3 r13 a14 a25 x28 x29 (((true || (!(S22.eqb x47 x48))) || (!(r13.2 == r18.2))) || (!(r24.2 == ((decide (x28 ≥ (1 : Int))) && (decide (x29 ≤ (6 : Int))))))) w44 R
 ) else (
  ex (B2S r9 w44) fun s49 =>
  ex (RdAt T22 a3 w44) fun x50 =>
  cl Tryz.prog 11 [T22.enc (x50)] tStr w44 fun r52 w51 =>
  kp ((B2S r9 w51) s49) <|
  ex (fun x => (!(!(s49 == r52))) = true → (RdAt T22 a14 w51) x) fun x54 =>
  ex (fun x => (!(!(s49 == r52))) = true → (RdAt T22 a19 w51) x) fun x55 =>
  F3_j2 s_2 a3 r13 a14 a25 x28 x29 ((((!(s49 == r52)) || (!(S22.eqb x54 x55))) || (!(r13.2 == r18.2))) || (!(r24.2 == ((decide (x28 ≥ (1 : Int))) && (decide (x29 ≤ (6 : Int))))))) w51 R
 )
def F3 (x_1 : S22) (s_2 : (List UInt8)) (w : World) (R : Bool → World → Prop) : Prop :=
 nw 23 T22 x_1 w fun a3 w4 =>
 if (decide ((s_2.length : Int) > (1000 : Int))) = true then (
  cl Tryz.prog 7 [] tBool w4 fun r6 w5 =>
  R r6 w5
 ) else (
  ex (RdAt T22 a3 w4) fun x7 =>
  cl Tryz.prog 8 [T22.enc (x7)] tSlc w4 fun r9 w8 =>
  s2b 5 s_2 w8 fun r11 w10 =>
  cl Tryz.prog 9 [tSlc.enc (r11)] (tTup2 T22 tBool) w10 fun r13 w12 =>
  nw 23 T22 Z22 w12 fun a14 w15 =>
  st T22 a14 r13.1 w15 fun w16 =>
  cl Tryz.prog 10 [.string ⟨(s_2).toArray⟩] (tTup2 T22 tBool) w16 fun r18 w17 =>
  nw 23 T22 Z22 w17 fun a19 w20 =>
  st T22 a19 r18.1 w20 fun w21 =>
  if (!r18.2) = true then (
   st T22 a19 (⟨(0 : Int), (0 : Int), (0 : Int), (0 : Int), (0 : Int), false⟩ : S22) w21 fun w56 =>
   F3_j1 s_2 a3 r9 r13 a14 r18 a19 w56 R
  ) else (
   F3_j1 s_2 a3 r9 r13 a14 r18 a19 w21 R
  )
 )
theorem F3_ok {x_1 : S22} {s_2 : (List UInt8)} {w : World} {R : Bool → World → Prop} (h : F3 x_1 s_2 w R) : cl Tryz.prog 3 [T22.enc (x_1), .string ⟨(s_2).toArray⟩] tBool w R := by
 unfold F3 at h
 refine calls_start 88 Tryz.func3 rfl rfl (Nat.le_of_ble_eq_true rfl) <| wp_seq <| wp_text [0, 1] rfl ?_
 obtain ⟨a3, w4, ha3, hw4, h⟩ := nw_open h
 refine rv 2 rfl rfl rfl (q_box (u := x_1) rfl ok23 rfl ha3 hw4) <| za 4 (.bool (false)) rfl rfl <| ro_nil <| wp_seq <| wp_seq <| wp_text [0, 1, 2] rfl <| zm 13 (.string ⟨(s_2).toArray⟩) rfl rfl <| rv 14 rfl rfl rfl (q_lenS (s := s_2) rfl Tryz.underlying9 rfl) <| rv 15 rfl rfl rfl (q_gtr (a := (s_2.length : Int)) (b := (1000 : Int)) rfl rfl rfl) <| ro_nil <| zi h rfl (fun _ h => ?_) fun _ h => ?_
 ·refine wp_seq <| wp_text [0, 1] rfl <| zc ent7 rfl rfl h fun r6 w5 h => za 4 (.bool (r6)) rfl rfl <| ro_nil <| wp_ret ?_
  exact zr1 h rfl rfl
 ·refine wp_skip <| wp_seq <| wp_text [0, 1, 2] rfl ?_
  obtain ⟨x7, hx7, h⟩ := h
  refine zl 17 hx7 ok23 rfl rfl <| zc ent8 rfl rfl h fun r9 w8 h => za 5 (tSlc.enc (r9)) rfl rfl <| ro_nil <| wp_seq <| wp_text [0, 1, 2, 3, 4, 5, 6, 7, 8] rfl <| zm 20 (.string ⟨(s_2).toArray⟩) rfl rfl <| ro_wp rfl (.free rfl) (wp_s2b (b := s_2) (d := (some 21)) rfl rfl Tryz.underlying9 Tryz.underlying25 Tryz.underlying5 rfl h ?_)
  intro r11 w10 h
  refine zc ent9 rfl rfl h fun r13 w12 h => zm 19 ((tTup2 T22 tBool).enc (r13)) rfl rfl <| ze 23 (T22.enc (r13.1)) rfl rfl rfl <| ze 24 (.bool (r13.2)) rfl rfl rfl ?_
  obtain ⟨a14, w15, ha14, hw15, h⟩ := nw_open h
  refine rv 6 rfl rfl rfl (q_alloc (u := Z22) rfl ok23 inf23 ha14 hw15) ?_
  obtain ⟨w16, hw16, hrw16, h⟩ := st_open h
  refine ro_skip (d := none) rfl (.free rfl) rfl (q_store (T := T22) (u := r13.1) (a := a14) rfl ok23 rfl rfl hrw16 hw16) <| za 7 (.bool (r13.2)) rfl rfl <| ro_nil <| wp_seq <| wp_text [0, 1, 2, 3, 4, 5, 6, 7] rfl <| zm 26 (.string ⟨(s_2).toArray⟩) rfl rfl <| zc ent10 rfl rfl h fun r18 w17 h => zm 25 ((tTup2 T22 tBool).enc (r18)) rfl rfl <| ze 28 (T22.enc (r18.1)) rfl rfl rfl <| ze 29 (.bool (r18.2)) rfl rfl rfl ?_
  obtain ⟨a19, w20, ha19, hw20, h⟩ := nw_open h
  refine rv 8 rfl rfl rfl (q_alloc (u := Z22) rfl ok23 inf23 ha19 hw20) ?_
  obtain ⟨w21, hw21, hrw21, h⟩ := st_open h
  refine ro_skip (d := none) rfl (.free rfl) rfl (q_store (T := T22) (u := r18.1) (a := a19) rfl ok23 rfl rfl hrw21 hw21) <| za 9 (.bool (r18.2)) rfl rfl <| ro_nil <| seq_join (σ := Unit) (J := fun (s : Unit) w => F3_j1 s_2 a3 r9 r13 a14 r18 a19 w R) (fr := fun g (s : Unit) => upd (upd (upd (upd (upd (upd (upd (g) 1 (.string ⟨(s_2).toArray⟩)) 2 (.pointer (some a3))) 5 (tSlc.enc (r9))) 6 (.pointer (some a14))) 7 (.bool (r13.2))) 8 (.pointer (some a19))) 9 (.bool (r18.2))) ?_ ?_
  ·rintro ⟨⟩ g w22 h
   unfold F3_j1 at h
   refine wp_seq <| wp_text [0, 1, 2, 3, 4, 5, 6, 7] rfl <| zm 34 (tSlc.enc (r9)) rfl rfl <| zc ent9 rfl rfl h fun r24 w23 h => zm 33 ((tTup2 T22 tBool).enc (r24)) rfl rfl <| ze 36 (T22.enc (r24.1)) rfl rfl rfl <| ze 37 (.bool (r24.2)) rfl rfl rfl ?_
   obtain ⟨a25, w26, ha25, hw26, h⟩ := nw_open h
   refine rv 10 rfl rfl rfl (q_alloc (u := Z22) rfl ok23 inf23 ha25 hw26) ?_
   obtain ⟨w27, hw27, hrw27, h⟩ := st_open h
   refine ro_skip (d := none) rfl (.free rfl) rfl (q_store (T := T22) (u := r24.1) (a := a25) rfl ok23 rfl rfl hrw27 hw27) <| za 11 (.bool (r24.2)) rfl rfl <| ro_nil <| wp_seq <| wp_text [0, 1, 2, 3, 4, 5, 6, 7, 8] rfl <| zf 38 a3 0 Tryz.underlying23 ok3 rfl rfl rfl ?_
   obtain ⟨x28, hx28, h⟩ := h
   refine zl 39 hx28 ok3 rfl rfl <| rv 40 rfl rfl rfl (q_geq (a := x28) (b := (1 : Int)) rfl rfl rfl) <| zm 41 (.bool ((decide (x28 ≥ (1 : Int))))) rfl rfl <| ro_gval (g := (decide (x28 ≥ (1 : Int)))) (d := (some 42)) rfl (.yes 3 41 true (decide (x28 ≥ (1 : Int))) rfl rfl rfl rfl) rfl (fun hg => q_fieldAddr (a := a3) (off := 0) rfl Tryz.underlying23 rfl rfl ok3 (by decide) rfl) ?_
   obtain ⟨x29, hx29, h⟩ := h
   refine ro_gval (g := (decide (x28 ≥ (1 : Int)))) (d := (some 43)) rfl (.yes 3 41 true (decide (x28 ≥ (1 : Int))) rfl rfl rfl rfl) rfl (fun hg => q_load (T := (tInt .i64)) (u := x29) (a := (a3.add 0)) rfl ok3 (gvb_yes hg) (hx29 hg)) <| ro_gval (g := (decide (x28 ≥ (1 : Int)))) (d := (some 44)) rfl (.yes 3 41 true (decide (x28 ≥ (1 : Int))) rfl rfl rfl rfl) rfl (fun hg => q_leq (k := .i64) (a := x29) (b := (6 : Int)) rfl (gvb_yes hg) rfl) <| rv 45 rfl rfl rfl (q_pickGT (a := (decide (x28 ≥ (1 : Int)))) (b := (decide (x29 ≤ (6 : Int)))) rfl rfl rfl rfl) <| za 12 (.bool (((decide (x28 ≥ (1 : Int))) && (decide (x29 ≤ (6 : Int)))))) rfl rfl <| ro_nil <| wp_seq <| seq_join (σ := Bool) (J := fun (s : Bool) w => F3_j2 s_2 a3 r13 a14 a25 x28 x29 s w R) (fr := fun g (s : Bool) => upd (upd (upd (upd (upd (upd (upd (g) 1 (.string ⟨(s_2).toArray⟩)) 2 (.pointer (some a3))) 6 (.pointer (some a14))) 7 (.bool (r13.2))) 10 (.pointer (some a25))) 12 (.bool (((decide (x28 ≥ (1 : Int))) && (decide (x29 ≤ (6 : Int))))))) 69 (.bool (s))) ?_ ?_
   ·rintro t_30 g w31 h
    unfold F3_j2 at h
    refine zi h rfl (fun _ h => ?_) fun _ h => ?_
    ·refine wp_seq <| wp_text [0] rfl <| za 4 (.bool (false)) rfl rfl <| ro_nil <| wp_ret ?_
     exact zr1 h rfl rfl
    ·refine wp_skip <| wp_seq <| wp_text [0, 1, 2, 3, 4, 5, 6, 7, 8, 9, 10, 11, 12, 13, 14, 15, 16, 17, 18] rfl <| zm 70 (.bool (((decide (x28 ≥ (1 : Int))) && (decide (x29 ≤ (6 : Int)))))) rfl rfl <| rv 71 rfl rfl rfl (q_not (b := ((decide (x28 ≥ (1 : Int))) && (decide (x29 ≤ (6 : Int))))) rfl rfl) <| zm 72 (.bool ((!((decide (x28 ≥ (1 : Int))) && (decide (x29 ≤ (6 : Int))))))) rfl rfl ?_
     obtain ⟨x32, hx32, h⟩ := h
     refine ro_gval (g := (!(!((decide (x28 ≥ (1 : Int))) && (decide (x29 ≤ (6 : Int))))))) (d := (some 73)) rfl (.no 2 72 true (!((decide (x28 ≥ (1 : Int))) && (decide (x29 ≤ (6 : Int))))) rfl rfl rfl rfl) rfl (fun hg => q_load (T := T22) (u := x32) (a := a25) rfl ok23 rfl (hx32 hg)) ?_
     obtain ⟨x33, hx33, h⟩ := h
     refine ro_gval (g := (!(!((decide (x28 ≥ (1 : Int))) && (decide (x29 ≤ (6 : Int))))))) (d := (some 74)) rfl (.no 2 72 true (!((decide (x28 ≥ (1 : Int))) && (decide (x29 ≤ (6 : Int))))) rfl rfl rfl rfl) rfl (fun hg => q_load (T := T22) (u := x33) (a := a3) rfl ok23 rfl (hx33 hg)) <| ro_gval (g := (!(!((decide (x28 ≥ (1 : Int))) && (decide (x29 ≤ (6 : Int))))))) (d := (some 75)) rfl (.no 2 72 true (!((decide (x28 ≥ (1 : Int))) && (decide (x29 ≤ (6 : Int))))) rfl rfl rfl rfl) rfl (fun hg => q_eqT (r := (S22.eqb x32 x33)) rfl (eq23 x32 x33) (gvb_yes hg) (gvb_yes hg)) <| rv 76 rfl rfl rfl (q_pickGF (a := (!((decide (x28 ≥ (1 : Int))) && (decide (x29 ≤ (6 : Int)))))) (c := (S22.eqb x32 x33)) rfl rfl rfl rfl) <| zm 77 (.bool (((!((decide (x28 ≥ (1 : Int))) && (decide (x29 ≤ (6 : Int))))) || (S22.eqb x32 x33)))) rfl rfl <| ro_join (σ := Bool) (J := fun (s : Bool) w => F3_j3 s w R) (fr := fun g (s : Bool) => upd (g) 87 (.bool (s))) [8, 9, 10, 11, 12, 13, 14, 15, 16, 17] [18] ?_ ?_
     ·rintro t_34 g w35 h
      unfold F3_j3 at h
      refine za 4 (.bool (t_34)) rfl rfl <| ro_nil <| wp_ret ?_
      exact zr1 h rfl rfl
     ·refine ro_if (b := ((!((decide (x28 ≥ (1 : Int))) && (decide (x29 ≤ (6 : Int))))) || (S22.eqb x32 x33))) h (fun hb36 h => ?_) (fun hb36 h => ?_)
      ·refine ro_val (d := (some 78)) rfl (.by_ 7 true 77 ((!((decide (x28 ≥ (1 : Int))) && (decide (x29 ≤ (6 : Int))))) || (S22.eqb x32 x33)) rfl rfl rfl hb36) rfl (q_move (v := .bool (r13.2)) rfl rfl) <| ro_val (d := (some 79)) rfl (.by_ 7 true 77 ((!((decide (x28 ≥ (1 : Int))) && (decide (x29 ≤ (6 : Int))))) || (S22.eqb x32 x33)) rfl rfl rfl hb36) rfl (q_not (b := r13.2) rfl rfl) <| ro_val (d := (some 80)) rfl (.by_ 7 true 77 ((!((decide (x28 ≥ (1 : Int))) && (decide (x29 ≤ (6 : Int))))) || (S22.eqb x32 x33)) rfl rfl rfl hb36) rfl (q_move (v := .bool ((!r13.2))) rfl rfl) <| ro_if (b := (!r13.2)) h (fun hb37 h => ?_) (fun hb37 h => ?_)
       ·refine ro_bar (d := (some 81)) rfl (.by_ 10 false 80 (!r13.2) rfl rfl rfl hb37) rfl <| ro_bar (d := (some 82)) rfl (.by_ 10 false 80 (!r13.2) rfl rfl rfl hb37) rfl <| ro_bar (d := (some 83)) rfl (.by_ 10 false 80 (!r13.2) rfl rfl rfl hb37) rfl <| ro_bar (d := (some 84)) rfl (.by_ 10 false 80 (!r13.2) rfl rfl rfl hb37) rfl <| ro_bar (d := (some 85)) rfl (.by_ 10 false 80 (!r13.2) rfl rfl rfl hb37) rfl <| ro_val (d := (some 86)) rfl (.by_ 7 true 77 ((!((decide (x28 ≥ (1 : Int))) && (decide (x29 ≤ (6 : Int))))) || (S22.eqb x32 x33)) rfl rfl rfl hb36) rfl (q_pickT (v := .bool (true)) (b := (!r13.2)) rfl rfl hb37 rfl) <| rv 87 rfl rfl rfl (q_pickT (v := .bool (true)) (b := ((!((decide (x28 ≥ (1 : Int))) && (decide (x29 ≤ (6 : Int))))) || (S22.eqb x32 x33))) rfl rfl hb36 rfl) <| ro_nil ?_
        exact ⟨(true), _, arr (upd_step rfl rfl), h⟩
       ·obtain ⟨x38, hx38, h⟩ := h
        refine ro_val (d := (some 81)) rfl (.by_ 10 false 80 (!r13.2) rfl rfl rfl hb37) rfl (q_load (T := T22) (u := x38) (a := a14) rfl ok23 rfl hx38) <| ro_wp rfl (.by_ 10 false 80 (!r13.2) rfl rfl rfl hb37) (wp_cl (d := (some 82)) rfl (q_call (k := 8) (l := [T22.enc (x38)]) rfl ent8 rfl) h ?_)
        intro r40 w39 h
        obtain ⟨s41, hs41, h⟩ := h
        refine ro_val (d := (some 83)) rfl (.by_ 10 false 80 (!r13.2) rfl rfl rfl hb37) rfl (q_b2s (b := r40) (r := s41) rfl Tryz.underlying25 Tryz.underlying5 Tryz.underlying9 rfl hs41) <| ro_val (d := (some 84)) rfl (.by_ 10 false 80 (!r13.2) rfl rfl rfl hb37) rfl (q_move (v := .string ⟨(s_2).toArray⟩) rfl rfl) <| ro_val (d := (some 85)) rfl (.by_ 10 false 80 (!r13.2) rfl rfl rfl hb37) rfl (q_eqS (a := s41) (b := s_2) rfl rfl rfl) <| ro_val (d := (some 86)) rfl (.by_ 7 true 77 ((!((decide (x28 ≥ (1 : Int))) && (decide (x29 ≤ (6 : Int))))) || (S22.eqb x32 x33)) rfl rfl rfl hb36) rfl (q_pickF (v := .bool ((s41 == s_2))) (b := (!r13.2)) rfl rfl hb37 rfl) <| rv 87 rfl rfl rfl (q_pickT (v := .bool ((s41 == s_2))) (b := ((!((decide (x28 ≥ (1 : Int))) && (decide (x29 ≤ (6 : Int))))) || (S22.eqb x32 x33))) rfl rfl hb36 rfl) <| ro_nil ?_
        exact ⟨((s41 == s_2)), _, arr (upd_step rfl rfl), h⟩
      ·refine ro_bar (d := (some 78)) rfl (.by_ 7 true 77 ((!((decide (x28 ≥ (1 : Int))) && (decide (x29 ≤ (6 : Int))))) || (S22.eqb x32 x33)) rfl rfl rfl hb36) rfl <| ro_bar (d := (some 79)) rfl (.by_ 7 true 77 ((!((decide (x28 ≥ (1 : Int))) && (decide (x29 ≤ (6 : Int))))) || (S22.eqb x32 x33)) rfl rfl rfl hb36) rfl <| ro_bar (d := (some 80)) rfl (.by_ 7 true 77 ((!((decide (x28 ≥ (1 : Int))) && (decide (x29 ≤ (6 : Int))))) || (S22.eqb x32 x33)) rfl rfl rfl hb36) rfl <| ro_bar (d := (some 81)) rfl (.undef 10 false 80 rfl rfl rfl) rfl <| ro_bar (d := (some 82)) rfl (.undef 10 false 80 rfl rfl rfl) rfl <| ro_bar (d := (some 83)) rfl (.undef 10 false 80 rfl rfl rfl) rfl <| ro_bar (d := (some 84)) rfl (.undef 10 false 80 rfl rfl rfl) rfl <| ro_bar (d := (some 85)) rfl (.undef 10 false 80 rfl rfl rfl) rfl <| ro_bar (d := (some 86)) rfl (.by_ 7 true 77 ((!((decide (x28 ≥ (1 : Int))) && (decide (x29 ≤ (6 : Int))))) || (S22.eqb x32 x33)) rfl rfl rfl hb36) rfl <| rv 87 rfl rfl rfl (q_pickF (v := .bool (false)) (b := ((!((decide (x28 ≥ (1 : Int))) && (decide (x29 ≤ (6 : Int))))) || (S22.eqb x32 x33))) rfl rfl hb36 rfl) <| ro_nil ?_
       exact ⟨(false), _, arr (upd_step rfl rfl), h⟩
   ·obtain ⟨w43, hw43, h⟩ := dr_open h
    refine wp_drawn 24 mixed rfl (by kernel_rfl) (by intro c a d v w h; cases d <;> exact h) hw43 (fun hD => ?_)
    refine rd_one (i := 0) (by kernel_rfl) <| po_wp rfl (.free rfl) (wp_cl (d := (some 46)) rfl (q_call (k := 7) (l := []) rfl ent7 rfl) h ?_)
    intro r45 w44 h
    refine ⟨hk_nil, ?_⟩
    refine rp 1 47 hD rfl rfl rfl (fun _ => q_not (b := r45) rfl rfl) <| ym 2 48 (.bool ((!r45))) hD rfl rfl <| ro_if (b := (!r45)) h (fun hb46 h => ?_) (fun hb46 h => ?_)
    ·refine yb 3 49 hD rfl (.by_ 2 false 48 (!r45) rfl rfl rfl hb46) rfl <| yb 4 50 hD rfl (.by_ 2 false 48 (!r45) rfl rfl rfl hb46) rfl <| yb 5 51 hD rfl (.by_ 2 false 48 (!r45) rfl rfl rfl hb46) rfl <| rd_one (i := 6) (by kernel_rfl) <| po_bar (d := (some 52)) rfl (.by_ 2 false 48 (!r45) rfl rfl rfl hb46) rfl ⟨fun _ _ _ h => h, ?_⟩
     refine yb 7 53 hD rfl (.by_ 2 false 48 (!r45) rfl rfl rfl hb46) rfl <| rp 8 54 hD rfl rfl rfl (fun _ => q_pickT (v := .bool (true)) (b := (!r45)) rfl rfl hb46 rfl) <| ym 9 55 (.bool (true)) hD rfl rfl ?_
     obtain ⟨x47, hx47, h⟩ := h
     refine rd_gread (i := 10) (g := (!true)) (d := (some 56)) (fun W => (RdAt T22 a14 W) x47) hD (by kernel_rfl) (by kernel_rfl) rfl (.no 9 55 true true rfl rfl rfl rfl) rfl (fun hg W hr => q_load (T := T22) (u := x47) (a := a14) rfl ok23 rfl hr) hx47 ?_
     obtain ⟨x48, hx48, h⟩ := h
     refine rd_gread (i := 11) (g := (!true)) (d := (some 57)) (fun W => (RdAt T22 a19 W) x48) hD (by kernel_rfl) (by kernel_rfl) rfl (.no 9 55 true true rfl rfl rfl rfl) rfl (fun hg W hr => q_load (T := T22) (u := x48) (a := a19) rfl ok23 rfl hr) hx48 <| rd_gpure (i := 12) (g := (!true)) (d := (some 58)) hD (by kernel_rfl) (by kernel_rfl) rfl (.no 9 55 true true rfl rfl rfl rfl) rfl (fun hg _ => q_neT (r := (S22.eqb x47 x48)) rfl (eq23 x47 x48) (gvb_yes hg) (gvb_yes hg)) <| rp 13 59 hD rfl rfl rfl (fun _ => q_pickGF (a := true) (c := (!(S22.eqb x47 x48))) rfl rfl rfl rfl) <| ym 14 60 (.bool ((true || (!(S22.eqb x47 x48))))) hD rfl rfl <| rd_gpure (i := 15) (g := (!(true || (!(S22.eqb x47 x48))))) (d := (some 61)) hD (by kernel_rfl) (by kernel_rfl) rfl (.no 14 60 true (true || (!(S22.eqb x47 x48))) rfl rfl rfl rfl) rfl (fun hg _ => q_move (v := .bool (r13.2)) rfl rfl) <| rd_gpure (i := 16) (g := (!(true || (!(S22.eqb x47 x48))))) (d := (some 62)) hD (by kernel_rfl) (by kernel_rfl) rfl (.no 14 60 true (true || (!(S22.eqb x47 x48))) rfl rfl rfl rfl) rfl (fun hg _ => q_move (v := .bool (r18.2)) rfl rfl) <| rd_gpure (i := 17) (g := (!(true || (!(S22.eqb x47 x48))))) (d := (some 63)) hD (by kernel_rfl) (by kernel_rfl) rfl (.no 14 60 true (true || (!(S22.eqb x47 x48))) rfl rfl rfl rfl) rfl (fun hg _ => q_neB (a := r13.2) (b := r18.2) rfl Tryz.underlying4 (gvb_yes hg) (gvb_yes hg)) <| rp 18 64 hD rfl rfl rfl (fun _ => q_pickGF (a := (true || (!(S22.eqb x47 x48)))) (c := (!(r13.2 == r18.2))) rfl rfl rfl rfl) <| ym 19 65 (.bool (((true || (!(S22.eqb x47 x48))) || (!(r13.2 == r18.2))))) hD rfl rfl <| rd_gpure (i := 20) (g := (!((true || (!(S22.eqb x47 x48))) || (!(r13.2 == r18.2))))) (d := (some 66)) hD (by kernel_rfl) (by kernel_rfl) rfl (.no 19 65 true ((true || (!(S22.eqb x47 x48))) || (!(r13.2 == r18.2))) rfl rfl rfl rfl) rfl (fun hg _ => q_move (v := .bool (r24.2)) rfl rfl) <| rd_gpure (i := 21) (g := (!((true || (!(S22.eqb x47 x48))) || (!(r13.2 == r18.2))))) (d := (some 67)) hD (by kernel_rfl) (by kernel_rfl) rfl (.no 19 65 true ((true || (!(S22.eqb x47 x48))) || (!(r13.2 == r18.2))) rfl rfl rfl rfl) rfl (fun hg _ => q_move (v := .bool (((decide (x28 ≥ (1 : Int))) && (decide (x29 ≤ (6 : Int)))))) rfl rfl) <| rd_gpure (i := 22) (g := (!((true || (!(S22.eqb x47 x48))) || (!(r13.2 == r18.2))))) (d := (some 68)) hD (by kernel_rfl) (by kernel_rfl) rfl (.no 19 65 true ((true || (!(S22.eqb x47 x48))) || (!(r13.2 == r18.2))) rfl rfl rfl rfl) rfl (fun hg _ => q_neB (a := r24.2) (b := ((decide (x28 ≥ (1 : Int))) && (decide (x29 ≤ (6 : Int))))) rfl Tryz.underlying4 (gvb_yes hg) (gvb_yes hg)) ?_
     refine rp 23 69 hD rfl rfl rfl (fun _ => q_pickGF (a := ((true || (!(S22.eqb x47 x48))) || (!(r13.2 == r18.2)))) (c := (!(r24.2 == ((decide (x28 ≥ (1 : Int))) && (decide (x29 ≤ (6 : Int))))))) rfl rfl rfl rfl) <| rd_nil (by kernel_rfl) ?_
     exact ⟨((((true || (!(S22.eqb x47 x48))) || (!(r13.2 == r18.2))) || (!(r24.2 == ((decide (x28 ≥ (1 : Int))) && (decide (x29 ≤ (6 : Int)))))))), _, arr (upd_step (upd_step (upd_step (upd_step (upd_step (upd_step (upd_step rfl rfl) rfl) rfl) rfl) rfl) rfl) rfl), h⟩
    ·refine rd_pure (i := 3) (d := (some 49)) hD (by kernel_rfl) (by kernel_rfl) rfl (.by_ 2 false 48 (!r45) rfl rfl rfl hb46) rfl (fun _ => q_move (v := tSlc.enc (r9)) rfl rfl) ?_
     obtain ⟨s49, hs49, h⟩ := h
     refine rd_read (i := 4) (d := (some 50)) (fun W => (B2S r9 W) s49) hD (by kernel_rfl) (by kernel_rfl) rfl (.by_ 2 false 48 (!r45) rfl rfl rfl hb46) rfl (fun W hr => q_b2s (b := r9) (r := s49) rfl Tryz.underlying25 Tryz.underlying5 Tryz.underlying9 rfl hr) hs49 ?_
     obtain ⟨x50, hx50, h⟩ := h
     refine rd_read (i := 5) (d := (some 51)) (fun W => (RdAt T22 a3 W) x50) hD (by kernel_rfl) (by kernel_rfl) rfl (.by_ 2 false 48 (!r45) rfl rfl rfl hb46) rfl (fun W hr => q_load (T := T22) (u := x50) (a := a3) rfl ok23 rfl hr) hx50 <| rd_one (i := 6) (by kernel_rfl) <| po_wp rfl (.by_ 2 false 48 (!r45) rfl rfl rfl hb46) (wp_cl (d := (some 52)) rfl (q_call (k := 11) (l := [T22.enc (x50)]) rfl ent11 rfl) h ?_)
     intro r52 w51 h
     obtain ⟨hk53, h⟩ := h
     refine ⟨(hk_wait (by kernel_rfl) (hk_keep (fun _ => hk53) hk_nil)), ?_⟩
     refine rd_pure (i := 7) (d := (some 53)) hD (by kernel_rfl) (by kernel_rfl) rfl (.by_ 2 false 48 (!r45) rfl rfl rfl hb46) rfl (fun _ => q_neS (a := s49) (b := r52) rfl rfl rfl) <| rp 8 54 hD rfl rfl rfl (fun _ => q_pickF (v := .bool ((!(s49 == r52)))) (b := (!r45)) rfl rfl hb46 rfl) <| ym 9 55 (.bool ((!(s49 == r52)))) hD rfl rfl ?_
     obtain ⟨x54, hx54, h⟩ := h
     refine rd_gread (i := 10) (g := (!(!(s49 == r52)))) (d := (some 56)) (fun W => (RdAt T22 a14 W) x54) hD (by kernel_rfl) (by kernel_rfl) rfl (.no 9 55 true (!(s49 == r52)) rfl rfl rfl rfl) rfl (fun hg W hr => q_load (T := T22) (u := x54) (a := a14) rfl ok23 rfl hr) hx54 ?_
     obtain ⟨x55, hx55, h⟩ := h
     refine rd_gread (i := 11) (g := (!(!(s49 == r52)))) (d := (some 57)) (fun W => (RdAt T22 a19 W) x55) hD (by kernel_rfl) (by kernel_rfl) rfl (.no 9 55 true (!(s49 == r52)) rfl rfl rfl rfl) rfl (fun hg W hr => q_load (T := T22) (u := x55) (a := a19) rfl ok23 rfl hr) hx55 <| rd_gpure (i := 12) (g := (!(!(s49 == r52)))) (d := (some 58)) hD (by kernel_rfl) (by kernel_rfl) rfl (.no 9 55 true (!(s49 == r52)) rfl rfl rfl rfl) rfl (fun hg _ => q_neT (r := (S22.eqb x54 x55)) rfl (eq23 x54 x55) (gvb_yes hg) (gvb_yes hg)) <| rp 13 59 hD rfl rfl rfl (fun _ => q_pickGF (a := (!(s49 == r52))) (c := (!(S22.eqb x54 x55))) rfl rfl rfl rfl) <| ym 14 60 (.bool (((!(s49 == r52)) || (!(S22.eqb x54 x55))))) hD rfl rfl <| rd_gpure (i := 15) (g := (!((!(s49 == r52)) || (!(S22.eqb x54 x55))))) (d := (some 61)) hD (by kernel_rfl) (by kernel_rfl) rfl (.no 14 60 true ((!(s49 == r52)) || (!(S22.eqb x54 x55))) rfl rfl rfl rfl) rfl (fun hg _ => q_move (v := .bool (r13.2)) rfl rfl) <| rd_gpure (i := 16) (g := (!((!(s49 == r52)) || (!(S22.eqb x54 x55))))) (d := (some 62)) hD (by kernel_rfl) (by kernel_rfl) rfl (.no 14 60 true ((!(s49 == r52)) || (!(S22.eqb x54 x55))) rfl rfl rfl rfl) rfl (fun hg _ => q_move (v := .bool (r18.2)) rfl rfl) <| rd_gpure (i := 17) (g := (!((!(s49 == r52)) || (!(S22.eqb x54 x55))))) (d := (some 63)) hD (by kernel_rfl) (by kernel_rfl) rfl (.no 14 60 true ((!(s49 == r52)) || (!(S22.eqb x54 x55))) rfl rfl rfl rfl) rfl (fun hg _ => q_neB (a := r13.2) (b := r18.2) rfl Tryz.underlying4 (gvb_yes hg) (gvb_yes hg)) <| rp 18 64 hD rfl rfl rfl (fun _ => q_pickGF (a := ((!(s49 == r52)) || (!(S22.eqb x54 x55)))) (c := (!(r13.2 == r18.2))) rfl rfl rfl rfl) <| ym 19 65 (.bool ((((!(s49 == r52)) || (!(S22.eqb x54 x55))) || (!(r13.2 == r18.2))))) hD rfl rfl <| rd_gpure (i := 20) (g := (!(((!(s49 == r52)) || (!(S22.eqb x54 x55))) || (!(r13.2 == r18.2))))) (d := (some 66)) hD (by kernel_rfl) (by kernel_rfl) rfl (.no 19 65 true (((!(s49 == r52)) || (!(S22.eqb x54 x55))) || (!(r13.2 == r18.2))) rfl rfl rfl rfl) rfl (fun hg _ => q_move (v := .bool (r24.2)) rfl rfl) <| rd_gpure (i := 21) (g := (!(((!(s49 == r52)) || (!(S22.eqb x54 x55))) || (!(r13.2 == r18.2))))) (d := (some 67)) hD (by kernel_rfl) (by kernel_rfl) rfl (.no 19 65 true (((!(s49 == r52)) || (!(S22.eqb x54 x55))) || (!(r13.2 == r18.2))) rfl rfl rfl rfl) rfl (fun hg _ => q_move (v := .bool (((decide (x28 ≥ (1 : Int))) && (decide (x29 ≤ (6 : Int)))))) rfl rfl) <| rd_gpure (i := 22) (g := (!(((!(s49 == r52)) || (!(S22.eqb x54 x55))) || (!(r13.2 == r18.2))))) (d := (some 68)) hD (by kernel_rfl) (by kernel_rfl) rfl (.no 19 65 true (((!(s49 == r52)) || (!(S22.eqb x54 x55))) || (!(r13.2 == r18.2))) rfl rfl rfl rfl) rfl (fun hg _ => q_neB (a := r24.2) (b := ((decide (x28 ≥ (1 : Int))) && (decide (x29 ≤ (6 : Int))))) rfl Tryz.underlying4 (gvb_yes hg) (gvb_yes hg)) ?_
     refine rp 23 69 hD rfl rfl rfl (fun _ => q_pickGF (a := (((!(s49 == r52)) || (!(S22.eqb x54 x55))) || (!(r13.2 == r18.2)))) (c := (!(r24.2 == ((decide (x28 ≥ (1 : Int))) && (decide (x29 ≤ (6 : Int))))))) rfl rfl rfl rfl) <| rd_nil (by kernel_rfl) ?_
     exact ⟨(((((!(s49 == r52)) || (!(S22.eqb x54 x55))) || (!(r13.2 == r18.2))) || (!(r24.2 == ((decide (x28 ≥ (1 : Int))) && (decide (x29 ≤ (6 : Int)))))))), _, arr (upd_step (upd_step (upd_step (upd_step (upd_step (upd_step (upd_step rfl rfl) rfl) rfl) rfl) rfl) rfl) rfl), h⟩
  ·refine wp_seq <| wp_text [0, 1] rfl <| zm 30 (.bool (r18.2)) rfl rfl <| rv 31 rfl rfl rfl (q_not (b := r18.2) rfl rfl) <| ro_nil <| zi h rfl (fun _ h => ?_) fun _ h => ?_
   ·refine wp_text [0, 1] rfl <| rv 32 rfl rfl rfl (q_build23_  rfl ) ?_
    obtain ⟨w56, hw56, hrw56, h⟩ := st_open h
    refine ro_skip (d := none) rfl (.free rfl) rfl (q_store (T := T22) (u := (⟨(0 : Int), (0 : Int), (0 : Int), (0 : Int), (0 : Int), false⟩ : S22)) (a := a19) rfl ok23 rfl rfl hrw56 hw56) <| ro_nil ?_
    exact ⟨(), _, arr (upd_step (upd_step (upd_step (upd_step (upd_step (upd_step (upd_step rfl rfl) rfl) rfl) rfl) rfl) rfl) rfl), h⟩
   ·refine wp_skip ?_
    exact ⟨(), _, arr (upd_step (upd_step (upd_step (upd_step (upd_step (upd_step (upd_step rfl rfl) rfl) rfl) rfl) rfl) rfl) rfl), h⟩
end Go.Proofs.YtehclfjjjiiieaaGreat.Cf
