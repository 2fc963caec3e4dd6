/- Acceptors: replay and Open; what an acceptor on a disk of its own has, record by record. -/
import Derived.Test.YtjkmeooncmhonaaBA
namespace Go.Proofs.Ytjkmeooncmhonaa.Ballot
open Go Go.Proofs.Ytjkmeooncmhonaa.Cf Go.Proofs.Ytjkmeooncmhonaa.Wire Go.Proofs.Ytjkmeooncmhonaa.Disk
set_option linter.unusedVariables false
set_option linter.unusedSimpArgs false
set_option maxRecDepth 100000
def Bl.set (S : Bl) (s : Int × Es) : Bl := { S with p := s.1, es := s.2 }
section
variable {W w : World} {l l' : List Assn}
theorem replay_spec {a d : Nat} {S : Bl} {q : Slc} {r : Rec} (hr : okR r) (hcap : q.len ≤ q.cap) (k : See 1 l (tInt .u8) q (B (encR r))) (H : St W (blA a d S :: l) w) :
    cl Try.prog 25 [.pointer (some ⟨a, 0, none⟩), tSlc.enc q] tBool w fun t w' => t = true ∧ St W (blA a d (S.set (stepR (S.p, S.es) r)) :: l) w' := by
  have hx := encR_len hr
  refine F25_ok ?_
  unfold F25
  refine cl_mono (unpack_spec hcap (by omega) k.tail H) ?_
  rintro ⟨q1, q2, q3⟩ w ⟨h1, h2, H⟩
  rw [unp_encR hr] at h1 h2 H
  simp only at h1 h2 H
  subst h1; subst h2
  have hl := row_len H
  cases r with
  | prom b =>
    simp only [valsR, List.length_cons, List.length_nil] at hl H
    obtain ⟨a0, h0⟩ := row_ix (i := 0) H (by omega) (by simp)
    obtain ⟨a1, h1⟩ := row_ix (i := 1) H (by omega) (by simp)
    simp only [hl]
    refine ex_i a0 (fun _ => h0) ?_
    refine ex_i 1 (fun _ => fld_row (x := (⟨1, 1, 0, 0, []⟩ : Val)) (U := tInt .i64) (fun _ => rfl) h0 rfl rfl H) ?_
    refine ex_i a1 (fun _ => h1) ?_
    refine ex_i 2 (fun _ => fld_row (x := (⟨2, 0, b, 0, []⟩ : Val)) (U := tInt .i64) (fun _ => rfl) h1 rfl rfl H) ?_
    rw [if_neg (by simp)]
    refine ex_i a1 h1 ?_
    refine ex_i b (fld_row (x := (⟨2, 0, b, 0, []⟩ : Val)) (U := tInt .i64) (fun _ => rfl) h1 rfl rfl H) ?_
    refine cl_mono (numberB_spec H) ?_
    rintro t w ⟨rfl, H⟩
    rw [show numB b = true from hr]
    unfold F25_j1
    rw [if_neg (by simp)]
    simp only [hl]
    refine ex_i a0 (fun _ => h0) ?_
    refine ex_i 1 (fun _ => fld_row (x := (⟨1, 1, 0, 0, []⟩ : Val)) (U := tInt .u64) (fun _ => rfl) h0 rfl rfl H) ?_
    rw [if_pos (by simp)]
    refine dr_st H fun w H => ?_
    refine nc_st rfl ?_
    refine ex_i a1 h1 ?_
    obtain ⟨b2, m, H⟩ := bl_open (H.front 1)
    refine ld_st (x := S.p) 0 H rfl rfl rfl ?_
    refine ex_i b (fld_row (x := (⟨2, 0, b, 0, []⟩ : Val)) (U := tInt .i64) (fun _ => rfl) h1 rfl rfl (H.front 4)) ?_
    refine st_st (x := max S.p b) 0 H rfl rfl (Nat.le_of_ble_eq_true rfl) fun w H => ?_
    exact ⟨by trivial, bl_shut (S := S.set (stepR (S.p, S.es) (.prom b))) ((H.ord [4]).drop)⟩
  | acc b n v =>
    simp only [valsR, List.length_cons, List.length_nil] at hl H
    obtain ⟨a0, h0⟩ := row_ix (i := 0) H (by omega) (by simp)
    obtain ⟨a1, h1⟩ := row_ix (i := 1) H (by omega) (by simp)
    obtain ⟨a2, h2⟩ := row_ix (i := 2) H (by omega) (by simp)
    obtain ⟨a3, h3⟩ := row_ix (i := 3) H (by omega) (by simp)
    simp only [hl]
    refine ex_i a0 (fun _ => h0) ?_
    refine ex_i 1 (fun _ => fld_row (x := (⟨1, 2, 0, 0, []⟩ : Val)) (U := tInt .i64) (fun _ => rfl) h0 rfl rfl H) ?_
    refine ex_i a1 (fun _ => h1) ?_
    refine ex_i 2 (fun _ => fld_row (x := (⟨2, 0, b, 0, []⟩ : Val)) (U := tInt .i64) (fun _ => rfl) h1 rfl rfl H) ?_
    rw [if_neg (by simp)]
    refine ex_i a1 h1 ?_
    refine ex_i b (fld_row (x := (⟨2, 0, b, 0, []⟩ : Val)) (U := tInt .i64) (fun _ => rfl) h1 rfl rfl H) ?_
    refine cl_mono (numberB_spec H) ?_
    rintro t w ⟨rfl, H⟩
    rw [show numB b = true from hr.1]
    unfold F25_j1
    rw [if_neg (by simp)]
    simp only [hl]
    refine ex_i a0 (fun h => by simp at h) ?_
    refine ex_i 2 (fun h => by simp at h) ?_
    rw [if_neg (by simp)]
    refine ex_i a0 (fun _ => h0) ?_
    refine ex_i 2 (fun _ => fld_row (x := (⟨1, 2, 0, 0, []⟩ : Val)) (U := tInt .u64) (fun _ => rfl) h0 rfl rfl H) ?_
    refine ex_i a2 (fun _ => h2) ?_
    refine ex_i 2 (fun _ => fld_row (x := (⟨2, 0, n, 0, []⟩ : Val)) (U := tInt .i64) (fun _ => rfl) h2 rfl rfl H) ?_
    rw [if_pos (by simp)]
    refine ex_i a2 h2 ?_
    refine ex_i n (fld_row (x := (⟨2, 0, n, 0, []⟩ : Val)) (U := tInt .i64) (fun _ => rfl) h2 rfl rfl H) ?_
    refine cl_mono (slotB_spec H) ?_
    rintro t w ⟨rfl, H⟩
    rw [show slotB n = true from hr.2.1]
    unfold F25_j2
    refine ex_i a3 (fun _ => h3) ?_
    refine ex_i 4 (fun _ => fld_row (x := (⟨4, 0, 0, 0, v⟩ : Val)) (U := tInt .i64) (fun _ => rfl) h3 rfl rfl H) ?_
    rw [if_pos (by simp)]
    refine dr_st H fun w H => ?_
    have f2 : ∀ {w : World} {l : List Assn}, St W (row TV 91 5 q1 [(⟨1, 2, 0, 0, []⟩ : Val), ⟨2, 0, b, 0, []⟩, ⟨2, 0, n, 0, []⟩, ⟨4, 0, 0, 0, v⟩] :: l) w → RdAt (tInt .i64) (a2.add 2) w n ∧ RdAt (tInt .i64) (a1.add 2) w b ∧ RdAt tStr (a3.add 4) w v := fun H =>
      ⟨fld_row (x := (⟨2, 0, n, 0, []⟩ : Val)) (U := tInt .i64) (fun _ => rfl) h2 rfl rfl H, fld_row (x := (⟨2, 0, b, 0, []⟩ : Val)) (U := tInt .i64) (fun _ => rfl) h1 rfl rfl H, fld_row (x := (⟨4, 0, 0, 0, v⟩ : Val)) (U := tStr) (fun _ => rfl) h3 rfl rfl H⟩
    obtain ⟨g1, g2, g3⟩ := f2 H
    refine ex_i a2 h2 ?_
    refine ex_i a1 h1 ?_
    refine ex_i a3 h3 ?_
    refine ex_i n g1 ?_
    refine ex_i b g2 ?_
    refine ex_i v g3 ?_
    refine cl_mono (vote_spec (x := ⟨n, b, v⟩) (H.front 1)) ?_
    intro t w H
    obtain ⟨g1, g2, g3⟩ := f2 (H.front 1)
    exact ⟨g1, g2, g3, rfl, (H.front 1).drop⟩
theorem open_spec {d : Nat} {D : Dk} {n : Int} {g : Log} {rs : List Rec} (hok : D.Ok) (h0 : 0 ≤ n) (hdn : D.down = false) (hg : D.logs[n.toNat]? = some g) (hl : (scan g.b).1 = rs.map encR) (hr : ∀ r ∈ rs, okR r) (hm : (mendD D n g).2 = 0) (H : St W (dskA d D :: l) w) :
    cl Try.prog 12 [.pointer (some ⟨d, 0, none⟩), .int .i64 n] (tTup2 tPtr (tInt .i64)) w fun r w' => r.2 = 0 ∧ ∃ a : Nat, r.1 = some ⟨a, 0, none⟩ ∧ St W (blA a d ⟨(mendD D n g).1, ⟨rs.length, rs.length, n, false⟩, (rs.foldl stepR (0, [])).1, (rs.foldl stepR (0, [])).2⟩ :: l) w' := by
  refine F12_ok ?_
  unfold F12
  refine cl_mono (openw_spec hok h0 hdn hg H) ?_
  rintro ⟨r1, r2, r3⟩ w ⟨he, h1, _⟩
  obtain ⟨b, qs, hb, H⟩ := h1 hm
  simp only at he hb H
  rw [hm] at he
  subst he; subst hb
  rw [if_neg (by simp)]
  rw [hl, List.length_map] at H
  refine nwMap_st H fun m w H => ?_
  have H := mapE_new TVo .i64 H
  refine nw_st H fun a w H => ?_
  have hql := row_len (H.front 4)
  have kl : Know [loadsA qs (rs.map encR)] (LoadsP qs (rs.map encR)) := Know.here (m := LoadsP.mono)
  have hqx : qs.length = rs.length := by
    obtain ⟨I, _, hI⟩ := (Know.tail (Know.tail (Know.tail (Know.tail (Know.tail (Know.here (m := LoadsP.mono))))))).everI H
    have := hI.1
    rw [List.length_map] at this
    exact this
  have H := bl_shut (S := ⟨(mendD D n g).1, ⟨rs.length, rs.length, n, false⟩, 0, []⟩) H
  have hrl : rs.length ≤ 4194304 := by
    have h2 : rs.length = (scan g.b).1.length := by rw [hl, List.length_map]
    have h3 := scan_count g.b
    have h4 := (hok.log g (List.mem_of_getElem? hg)).2
    omega
  refine lp_p (fun i w => 0 ≤ i ∧ i ≤ rs.length ∧ St W (blA a d ⟨(mendD D n g).1, ⟨rs.length, rs.length, n, false⟩, ((rs.take i.toNat).foldl stepR (0, [])).1, ((rs.take i.toNat).foldl stepR (0, [])).2⟩ :: row tSlc 72 1 r2 qs :: loadsA qs (rs.map encR) :: l) w) (fun i => (rs.length - i).toNat)
    ⟨Int.le_refl 0, by omega, H⟩ ?_
  clear H
  rintro i w ⟨i0, i1, H⟩ K hK
  unfold F12_l1
  simp only
  rw [hql, hqx]
  split
  · rename_i hi
    have hi : i < rs.length := by simpa using hi
    have hx : rs[i.toNat]? = some rs[i.toNat] := List.getElem?_eq_getElem (by omega)
    have hq : qs[i.toNat]? = some qs[i.toNat] := List.getElem?_eq_getElem (by omega)
    have ht : rs.take (i.toNat + 1) = rs.take i.toNat ++ [rs[i.toNat]] := by rw [List.take_succ_eq_append_getElem (by omega)]
    have hmem : rs[i.toNat] ∈ rs := List.getElem_mem _
    generalize rs[i.toNat] = r at hx ht hmem
    generalize qs[i.toNat] = q at hq
    obtain ⟨x, hxa⟩ := row_ix (i := i) (H.front 1) i0 (by omega)
    refine ex_i x hxa ?_
    refine ex_i q (rd_row (T := tSlc) (fun _ => rfl) hxa hq (H.front 1)) ?_
    have kq : ∀ I, LoadsP qs (rs.map encR) I → q.len ≤ q.cap ∧ RoP (tInt .u8) q (B (encR r)) I := fun I h => h.2 i.toNat q (encR r) hq (by rw [List.getElem?_map, hx]; rfl)
    have kk : Know (row tSlc 72 1 r2 qs :: loadsA qs (rs.map encR) :: l) (RoP (tInt .u8) q (B (encR r))) := fun I h hh => (kq I ((Know.tail (Know.here (m := LoadsP.mono))) I h hh)).2
    have hqc : q.len ≤ q.cap := by
      obtain ⟨I, _, hI⟩ := (Know.tail (Know.tail (Know.here (m := LoadsP.mono)))).everI H
      exact (kq I hI).1
    refine cl_mono (replay_spec (hr r hmem) hqc (See.ro (fun _ => rfl) kk) H) ?_
    rintro t w ⟨rfl, H⟩
    rw [if_neg (by simp)]
    have e1 : IntKind.i64.wrap (i + 1) = i + 1 := wrap_i64 (by omega) (by omega)
    rw [e1]
    refine hK _ _ ⟨by omega, by omega, ?_⟩ (by omega)
    have e2 : (i + 1).toNat = i.toNat + 1 := by omega
    rw [e2, ht, List.foldl_append]
    exact H
  · rename_i hi
    have hi : i = rs.length := by simp at hi; omega
    subst hi
    have e3 : rs.take ((rs.length : Int)).toNat = rs := by simp
    rw [e3] at H
    exact ⟨by trivial, a, rfl, (H.ord [1, 2]).drop.drop⟩
end
/-! ### record by record -/
def fold (rs : List Rec) : Int × Es := rs.foldl stepR (0, [])
def logB (rs : List Rec) : List UInt8 := frms (rs.map encR)
/-- An acceptor on a disk of one log, with all these records, so many of which are sure. -/
structure Has (S : Bl) (rs : List Rec) (k : Nat) : Prop where
  disk : ∃ acts, S.D = ⟨[⟨logB rs, (logB (rs.take k)).length⟩], acts, false, 0, []⟩
  wal : ∃ a b, S.V = ⟨a, b, 0, false⟩
  st : (S.p, S.es) = fold rs
  ok : ∀ r ∈ rs, okR r
  le : k ≤ rs.length
theorem logB_len {rs : List Rec} (h : ∀ r ∈ rs, okR r) : (logB rs).length ≤ 4052 * rs.length := by
  induction rs with
  | nil => simp [logB, frms]
  | cons r rs ih =>
    have h1 := ih fun x hx => h x (by simp [hx])
    have h2 := encR_len (h r (by simp))
    have e : logB (r :: rs) = frm (encR r) ++ logB rs := by simp [logB, frms]
    rw [e, List.length_append, frm_len, List.length_cons]
    omega
theorem logB_app (a b : List Rec) : logB (a ++ b) = logB a ++ logB b := by simp [logB, frms]
theorem logB_take_le (rs : List Rec) (k : Nat) : (logB (rs.take k)).length ≤ (logB rs).length := by
  have : logB rs = logB (rs.take k) ++ logB (rs.drop k) := by rw [← logB_app, List.take_append_drop]
  rw [this, List.length_append]; omega
theorem small_r {rs : List Rec} (h : ∀ r ∈ rs, okR r) : Small (rs.map encR) := by
  intro x hx
  obtain ⟨r, hr, rfl⟩ := List.mem_map.1 hx
  have := encR_len (h r hr)
  omega
theorem Has.dOk {S : Bl} {rs : List Rec} {k : Nat} (h : Has S rs k) (hl : rs.length ≤ 1000) : S.D.Ok := by
  obtain ⟨acts, hd⟩ := h.disk
  rw [hd]
  refine ⟨by simp, fun g hg => ?_⟩
  simp only [List.mem_singleton] at hg
  subst hg
  have h1 := logB_len h.ok
  have h2 := logB_take_le rs k
  simp only
  omega
theorem Has.lay {S : Bl} {rs : List Rec} {k : Nat} {r : Rec} (h : Has S rs k) (hr : okR r) (hl : rs.length ≤ 1000) :
    (layB S r).2 = 0 ∧ (layB S r).1.p = S.p ∧ (layB S r).1.es = S.es ∧ (∃ acts, (layB S r).1.D = ⟨[⟨logB (rs ++ [r]), (logB ((rs ++ [r]).take k)).length⟩], acts, false, 0, []⟩) ∧ ∃ a b, (layB S r).1.V = ⟨a, b, 0, false⟩ := by
  obtain ⟨acts, hd⟩ := h.disk
  obtain ⟨a, b, hv⟩ := h.wal
  have h1 := logB_len h.ok
  have h2 := encR_len hr
  have hfl : (frm (encR r)).length ≤ 4052 := by rw [frm_len]; omega
  have hap : appendD S.D 0 (frm (encR r)) = (⟨[⟨logB rs ++ frm (encR r), (logB (rs.take k)).length⟩], IntKind.i64.wrap (acts + 1), false, 0, []⟩, 0) := by
    unfold appendD actD Disk.sizeOf
    rw [hd]
    simp
    omega
  have haw : appW S.D S.V (encR r) = (⟨[⟨logB rs ++ frm (encR r), (logB (rs.take k)).length⟩], IntKind.i64.wrap (acts + 1), false, 0, []⟩, ⟨IntKind.i64.wrap (a + 1), b, 0, false⟩, 0) := by
    unfold appW
    rw [hv]
    simp only [hap]
    rw [if_neg (by simp), if_neg (by omega)]
    simp
  unfold layB
  rw [haw]
  have e1 : logB (rs ++ [r]) = logB rs ++ frm (encR r) := by rw [logB_app]; simp [logB, frms]
  have e2 : (rs ++ [r]).take k = rs.take k := List.take_append_of_le_length h.le
  rw [e1, e2]
  exact ⟨rfl, rfl, rfl, ⟨_, rfl⟩, _, _, rfl⟩
/-- What is done to the records. -/
def whyR (rs : List Rec) (b : Int) : Int := if numB b = false then 231 else if b < (fold rs).1 then 234 else 0
def prepR (rs : List Rec) (b : Int) : List Rec × Int := if whyR rs b ≠ 0 then (rs, whyR rs b) else if (fold rs).1 < b then (rs ++ [.prom b], 0) else (rs, 0)
def accR (rs : List Rec) (b n : Int) (v : List UInt8) : List Rec × Int :=
  if whyR rs b = 231 then (rs, 231) else if slotB n = false then (rs, 232) else if 1000 < v.length then (rs, 233) else if whyR rs b ≠ 0 then (rs, whyR rs b)
  else match (fold rs).2.lookup n with
    | some o => if o.B = b then (if o.V = v then (rs, 0) else (rs, 235)) else (rs ++ [.acc b n v], 0)
    | none => (rs ++ [.acc b n v], 0)
theorem fold_app (rs : List Rec) (r : Rec) : fold (rs ++ [r]) = stepR (fold rs) r := by simp [fold]
theorem Has.why {S : Bl} {rs : List Rec} {k : Nat} (h : Has S rs k) (b : Int) : whyB S b = whyR rs b := by
  have := congrArg Prod.fst h.st
  simp only at this
  unfold whyB whyR
  rw [this]
theorem Has.prep {S : Bl} {rs : List Rec} {k : Nat} (h : Has S rs k) (hl : rs.length ≤ 1000) (b : Int) : Has (prepB S b).1 (prepR rs b).1 k ∧ (prepB S b).2 = (prepR rs b).2 := by
  have hp := congrArg Prod.fst h.st
  have he := congrArg Prod.snd h.st
  simp only at hp he
  unfold prepB prepR
  rw [h.why b]
  by_cases hw : whyR rs b ≠ 0
  · rw [if_pos hw, if_pos hw]; exact ⟨h, rfl⟩
  · rw [if_neg hw, if_neg hw, hp]
    by_cases hb : (fold rs).1 < b
    · rw [if_pos hb, if_pos hb]
      have hnum : numB b = true := by
        unfold whyR at hw
        cases hn : numB b with
        | true => rfl
        | false => rw [hn] at hw; simp at hw
      obtain ⟨g1, g2, g3, g4, g5⟩ := h.lay (r := .prom b) hnum hl
      rw [if_neg (by simpa using g1)]
      refine ⟨⟨g4, g5, ?_, ?_, ?_⟩, rfl⟩
      · rw [fold_app]
        simp only [stepR]
        rw [g3, he, Int.max_eq_right (by omega)]
      · intro r hr
        rcases List.mem_append.1 hr with hr | hr
        · exact h.ok r hr
        · rw [List.mem_singleton.1 hr]; exact hnum
      · have := h.le; simp; omega
    · rw [if_neg hb, if_neg hb]; exact ⟨h, rfl⟩
theorem Has.acc {S : Bl} {rs : List Rec} {k : Nat} (h : Has S rs k) (hl : rs.length ≤ 1000) (b n : Int) (v : List UInt8) : Has (accB S b n v).1 (accR rs b n v).1 k ∧ (accB S b n v).2 = (accR rs b n v).2 := by
  have hp := congrArg Prod.fst h.st
  have he := congrArg Prod.snd h.st
  simp only at hp he
  unfold accB accR
  rw [h.why b]
  by_cases h1 : whyR rs b = 231
  · rw [if_pos h1, if_pos h1]; exact ⟨h, rfl⟩
  · rw [if_neg h1, if_neg h1]
    by_cases h2 : slotB n = false
    · rw [if_pos h2, if_pos h2]; exact ⟨h, rfl⟩
    · rw [if_neg h2, if_neg h2]
      by_cases h3 : 1000 < v.length
      · rw [if_pos h3, if_pos h3]; exact ⟨h, rfl⟩
      · rw [if_neg h3, if_neg h3]
        by_cases hw : whyR rs b ≠ 0
        · rw [if_pos hw, if_pos hw]; exact ⟨h, rfl⟩
        · rw [if_neg hw, if_neg hw]
          have hnum : numB b = true := by
            unfold whyR at hw
            cases hn : numB b with
            | true => rfl
            | false => rw [hn] at hw; simp at hw
          have hrec : okR (.acc b n v) := ⟨hnum, by simpa using h2, by omega⟩
          obtain ⟨g1, g2, g3, g4, g5⟩ := h.lay hrec hl
          have hnew : Has (voteB (layB S (.acc b n v)).1 ⟨n, b, v⟩) (rs ++ [.acc b n v]) k := by
            refine ⟨g4, g5, ?_, ?_, ?_⟩
            · rw [fold_app]
              simp only [stepR, voteB]
              rw [g2, g3, hp, he]
            · intro r hr
              rcases List.mem_append.1 hr with hr | hr
              · exact h.ok r hr
              · rw [List.mem_singleton.1 hr]; exact hrec
            · have := h.le; simp; omega
          rw [he]
          cases (fold rs).2.lookup n with
          | none =>
            simp only
            rw [if_pos g1]
            exact ⟨hnew, rfl⟩
          | some o =>
            simp only
            by_cases hB : o.B = b
            · rw [if_pos hB, if_pos hB]
              by_cases hV : o.V = v
              · rw [if_pos hV, if_pos hV]; exact ⟨h, rfl⟩
              · rw [if_neg hV, if_neg hV]; exact ⟨h, rfl⟩
            · rw [if_neg hB, if_neg hB, if_pos g1]
              exact ⟨hnew, rfl⟩
end Go.Proofs.Ytjkmeooncmhonaa.Ballot
