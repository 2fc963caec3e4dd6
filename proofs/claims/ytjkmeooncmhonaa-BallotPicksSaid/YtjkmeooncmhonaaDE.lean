/- Frames scanned; the log ahead of all: contracts. -/
import Derived.Test.YtjkmeooncmhonaaDD
namespace Go.Proofs.Ytjkmeooncmhonaa.Disk
open Go Go.Proofs.Ytjkmeooncmhonaa.Cf Go.Proofs.Ytjkmeooncmhonaa.Wire
set_option linter.unusedVariables false
set_option linter.unusedSimpArgs false
set_option maxRecDepth 100000
abbrev SW := S96
abbrev TW := T96
section
variable {W w : World} {l l' : List Assn} {s : Slc} {bs : List UInt8}
/-- Loads that can be read for ever. -/
def LoadsP (qs : List Slc) (xs : List (List UInt8)) (I : PMap) : Prop := qs.length = xs.length ∧ ∀ (i : Nat) (q : Slc) (x : List UInt8), qs[i]? = some q → xs[i]? = some x → q.len ≤ q.cap ∧ RoP (tInt .u8) q (B x) I
theorem LoadsP.mono {qs : List Slc} {xs : List (List UInt8)} {I I' : PMap} (h : PMap.le I I') : LoadsP qs xs I → LoadsP qs xs I' := fun ⟨h1, h2⟩ => ⟨h1, fun i q x hq hx => ⟨(h2 i q x hq hx).1, RoP.mono h (h2 i q x hq hx).2⟩⟩
def loadsA (qs : List Slc) (xs : List (List UInt8)) : Assn := ever (LoadsP qs xs) LoadsP.mono
theorem LoadsP.push {qs : List Slc} {xs : List (List UInt8)} {q : Slc} {x : List UInt8} {I : PMap} (h : LoadsP qs xs I) (hc : q.len ≤ q.cap) (hr : RoP (tInt .u8) q (B x) I) : LoadsP (qs ++ [q]) (xs ++ [x]) I := by
  refine ⟨by simp [h.1], fun i q' x' hq hx => ?_⟩
  by_cases c : i < qs.length
  · rw [List.getElem?_append_left c] at hq
    rw [List.getElem?_append_left (by rw [← h.1]; exact c)] at hx
    exact h.2 i q' x' hq hx
  · have hi : i = qs.length := by
      have := (List.getElem?_eq_some_iff.1 hq).1
      simp at this; omega
    subst hi
    rw [List.getElem?_append_right (Nat.le_refl _)] at hq
    rw [List.getElem?_append_right (by rw [h.1]; exact Nat.le_refl _), h.1] at hx
    simp at hq hx
    subst hq; subst hx
    exact ⟨hc, hr⟩
theorem scan_spec (hcap : s.len ≤ s.cap) (hn : bs.length ≤ 1000000000) (k : Know l (RoP (tInt .u8) s (B bs))) (H : St W l w) :
    cl Try.prog 35 [tSlc.enc s] (tTup2 tSlc (tInt .i64)) w fun r w' => r.2 = ((scan bs).2 : Nat) ∧ ∃ qs : List Slc, St W (row tSlc 72 1 r.1 qs :: loadsA qs (scan bs).1 :: l) w' := by
  have hs := k.len H
  rw [B_len] at hs
  refine F35_ok ?_
  unfold F35
  refine lp_n (fun m p w => ∃ (a f : Nat) (xs : List (List UInt8)) (qs : List Slc), m = bs.length - a ∧ p.2 = (a : Int) ∧ a ≤ bs.length ∧ bs.length - a < f ∧ xs.length ≤ a ∧ scan bs = scanF f (bs.drop a) xs a ∧ St W (row tSlc 72 1 p.1 qs :: loadsA qs xs :: l) w) bs.length
    ⟨0, bs.length + 1, [], [], by omega, rfl, by omega, by omega, by simp, rfl, row_nil tSlc 72 1 (H.know (m := LoadsP.mono) (fun _ _ _ => ⟨rfl, fun i q x hq => by simp at hq⟩))⟩ ?_
  clear H
  rintro m ⟨r, a⟩ w ⟨a, f, xs, qs, rfl, rfl, ha, hf, hxa, he, H⟩ K hK
  simp only at H
  unfold F35_l1
  rw [hs]
  refine sub_st (by omega) (by omega) (by omega) (by omega) fun s6 h6 => ?_
  have k6 := k.sub (fun _ => rfl) h6 (by rw [B_len]; omega)
  have b6 : ((B bs).take (bs.length : Int).toNat).drop ((a : Int)).toNat = B (bs.drop a) := by
    rw [B_drop, List.take_of_length_le (by rw [B_len]; omega)]; rfl
  rw [b6] at k6
  have hc6 : s6.len ≤ s6.cap := by
    obtain ⟨x1, x2, _⟩ := sub_at h6
    rw [x1, x2]; omega
  refine cl_mono (open_spec hc6 (by simp; omega) k6.tail.tail H) ?_
  rintro ⟨q, n, e⟩ w hres
  obtain ⟨g, rfl⟩ : ∃ g, f = g + 1 := ⟨f - 1, by omega⟩
  simp only [scanF] at he
  cases ho : opn (bs.drop a) with
  | error e' =>
    rw [ho] at hres he
    obtain ⟨h1, h2, H⟩ := hres
    simp only at h1 he
    subst h1
    rw [if_pos (by simpa using h2)]
    rw [he]
    exact ⟨rfl, qs, H⟩
  | ok p =>
    obtain ⟨x, n'⟩ := p
    rw [ho] at hres he
    obtain ⟨h1, h2, h3, H⟩ := hres
    simp only at h1 h2 h3 he H
    subst h1; subst h2
    rw [if_neg (by simp)]
    obtain ⟨g1, g2, g3, g4⟩ := opn_ok ho
    rw [List.length_drop] at g1
    have hql : qs.length = xs.length := by
      obtain ⟨I, _, hI⟩ := (Know.everI (Know.tail (Know.tail (Know.here (m := LoadsP.mono))))) H
      exact hI.1
    refine apl_row (fun _ => rfl) 1 H rfl (by simp; omega) fun r' w H => ?_
    have e1 : IntKind.i64.wrap ((a : Int) + (n' : Int)) = ((a + n' : Nat) : Int) := by rw [wrap_i64 (by omega) (by omega)]; omega
    rw [e1]
    have H2 := H.know (φ := LoadsP (qs ++ [q]) (xs ++ [x])) (m := LoadsP.mono) (by
      intro I h hh
      have p1 : LoadsP qs xs I := (Know.tail (Know.tail (Know.here (m := LoadsP.mono)))) I h hh
      have p2 : RoP (tInt .u8) q (B x) I := (Know.tail (Know.here (m := RoP.mono))) I h hh
      exact p1.push h3 p2)
    refine hK _ _ _ ?_ ⟨a + n', g, xs ++ [x], qs ++ [q], rfl, rfl, by omega, by omega, by simp; omega, by rw [he, List.drop_drop], ?_⟩
    · omega
    · exact (H2.ord [2, 3]).drop.drop.front 1
/-! ### the log ahead of all -/
structure Wl where
  all : Int
  sure : Int
  log : Int
  dead : Bool
def walA (b d : Nat) (V : Wl) : Assn := cel b (TW.cells ⟨⟨V.all, V.sure⟩, some ⟨d, 0, none⟩, V.log, V.dead⟩) 97
def appW (D : Dk) (V : Wl) (x : List UInt8) : Dk × Wl × Int :=
  if V.dead then (D, V, 81) else if 65536 < x.length then (D, V, 30)
  else ((appendD D V.log (frm x)).1, { V with all := if (appendD D V.log (frm x)).2 = 0 then IntKind.i64.wrap (V.all + 1) else V.all, dead := V.dead || (appendD D V.log (frm x)).2 == 71 }, (appendD D V.log (frm x)).2)
def synW (D : Dk) (V : Wl) : Dk × Wl × Int :=
  if V.dead then (D, V, 81)
  else ((syncD D V.log).1, { V with sure := if (syncD D V.log).2 = 0 then V.all else V.sure, dead := V.dead || (syncD D V.log).2 == 71 }, (syncD D V.log).2)
theorem met_spec {b d : Nat} {V : Wl} {e : Int} (H : St W (walA b d V :: l) w) : cl Try.prog 30 [.pointer (some ⟨b, 0, none⟩), .int .i64 e] (tInt .i64) w fun r w' => r = e ∧ St W (walA b d { V with dead := V.dead || e == 71 } :: l) w' := by
  refine F30_ok ?_
  unfold F30
  refine nc_st rfl ?_
  refine ld_st (x := V.dead) 0 H rfl rfl rfl ?_
  refine st_st (x := V.dead || e == 71) 0 H rfl rfl (Nat.le_of_ble_eq_true rfl) fun w H => ?_
  exact ⟨rfl, H⟩
theorem appw_spec {b d : Nat} {D : Dk} {V : Wl} {q : Slc} {x : List UInt8} (hok : D.Ok) (hn : x.length ≤ 9223372036854775806) (k : See 1 l (tInt .u8) q (B x)) (H : St W (walA b d V :: dskA d D :: l) w) :
    cl Try.prog 41 [.pointer (some ⟨b, 0, none⟩), tSlc.enc q] (tInt .i64) w fun r w' => r = (appW D V x).2.2 ∧ St W (walA b d (appW D V x).2.1 :: dskA d (appW D V x).1 :: l) w' := by
  refine F41_ok ?_
  unfold F41 F41_j1 appW
  refine nc_st rfl ?_
  refine ld_st (x := V.dead) 0 H rfl rfl rfl ?_
  by_cases hd : V.dead = true
  · rw [if_pos hd, if_pos hd]
    exact ⟨rfl, H⟩
  · rw [if_neg hd, if_neg hd]
    refine cl_mono (seal_spec hn k.tail.tail H) ?_
    rintro ⟨r, e⟩ w ⟨h1, h2⟩
    by_cases hx : 65536 < x.length
    · obtain ⟨h3, H⟩ := h1 hx
      cases h3
      rw [if_pos (by simp), if_pos hx]
      exact ⟨rfl, H⟩
    · obtain ⟨h3, H⟩ := h2 (by omega)
      simp only at h3 H
      subst h3
      rw [if_neg (by simp), if_neg hx]
      refine dr_st H fun w H => ?_
      refine ld_st (x := some ⟨d, 0, none⟩) 1 H rfl rfl rfl ?_
      refine ld_st (x := V.log) 1 H rfl rfl rfl ?_
      refine cl_mono (append_spec hok (by rw [frm_len]; omega) (See.row (fun _ => rfl) 0 rfl) (H.front 2)) ?_
      rintro e w ⟨rfl, H⟩
      refine cl_mono (met_spec (H.front 2)) ?_
      rintro e w ⟨rfl, H⟩
      refine ⟨rdat_cel tPtr H rfl rfl, rdat_cel (tInt .i64) H rfl rfl, ?_⟩
      by_cases he : (appendD D V.log (frm x)).2 = 0
      · rw [if_pos (by simp [he]), if_pos he]
        refine ld_st (x := V.all) 0 H rfl rfl rfl ?_
        refine st_st (x := IntKind.i64.wrap (V.all + 1)) 0 H rfl rfl (Nat.le_of_ble_eq_true rfl) fun w H => ?_
        exact ⟨rfl, (H.ord [2]).drop⟩
      · rw [if_neg (by simp [he]), if_neg he]
        exact ⟨rfl, (H.ord [2]).drop⟩
theorem synw_spec {b d : Nat} {D : Dk} {V : Wl} (hok : D.Ok) (H : St W (walA b d V :: dskA d D :: l) w) :
    cl Try.prog 18 [.pointer (some ⟨b, 0, none⟩)] (tInt .i64) w fun r w' => r = (synW D V).2.2 ∧ St W (walA b d (synW D V).2.1 :: dskA d (synW D V).1 :: l) w' := by
  refine F18_ok ?_
  unfold F18 F18_j1 synW
  refine nc_st rfl ?_
  refine ld_st (x := V.dead) 0 H rfl rfl rfl ?_
  by_cases hd : V.dead = true
  · rw [if_pos hd, if_pos hd]
    exact ⟨rfl, H⟩
  · rw [if_neg hd, if_neg hd]
    refine dr_st H fun w H => ?_
    refine ld_st (x := some ⟨d, 0, none⟩) 0 H rfl rfl rfl ?_
    refine ld_st (x := V.log) 0 H rfl rfl rfl ?_
    refine cl_mono (sync_spec hok (H.front 1)) ?_
    rintro e w ⟨rfl, H⟩
    refine cl_mono (met_spec (H.front 1)) ?_
    rintro e w ⟨rfl, H⟩
    refine ⟨rdat_cel tPtr H rfl rfl, rdat_cel (tInt .i64) H rfl rfl, ?_⟩
    by_cases he : (syncD D V.log).2 = 0
    · rw [if_pos (by simp [he]), if_pos he]
      refine ld_st (x := V.all) 0 H rfl rfl rfl ?_
      refine st_st (x := V.all) 0 H rfl rfl (Nat.le_of_ble_eq_true rfl) fun w H => ?_
      exact ⟨rfl, H⟩
    · rw [if_neg (by simp [he]), if_neg he]
      exact ⟨rfl, H⟩
/-- Opening: the disk then, and the loads or the error. -/
def mendD (D : Dk) (n : Int) (g : Log) : Dk × Int :=
  if (scan g.b).2 < g.b.length then swapD D n (g.b.take (scan g.b).2) else if g.sure < (scan g.b).2 then syncD D n else (D, 0)
theorem scan_le (bs : List UInt8) : (scan bs).2 ≤ bs.length := by
  have key : ∀ (f : Nat) (bs : List UInt8) (l : List (List UInt8)) (a : Nat), (scanF f bs l a).2 ≤ a + bs.length := by
    intro f
    induction f with
    | zero => intro bs l a; simp [scanF]
    | succ f ih =>
      intro bs l a
      simp only [scanF]
      cases ho : opn bs with
      | error e => simp
      | ok p =>
        obtain ⟨x, n⟩ := p
        have := ih (bs.drop n) (l ++ [x]) (a + n)
        have h := opn_ok ho
        rw [List.length_drop] at this
        simp only
        omega
  have := key (bs.length + 1) bs [] 0
  unfold scan; omega
theorem scan_count (bs : List UInt8) : (scan bs).1.length ≤ bs.length := by
  have key : ∀ (f : Nat) (bs : List UInt8) (l : List (List UInt8)) (a : Nat), (scanF f bs l a).1.length ≤ l.length + bs.length := by
    intro f
    induction f with
    | zero => intro bs l a; simp [scanF]
    | succ f ih =>
      intro bs l a
      simp only [scanF]
      cases ho : opn bs with
      | error e => simp
      | ok p =>
        obtain ⟨x, n⟩ := p
        have := ih (bs.drop n) (l ++ [x]) (a + n)
        have h := opn_ok ho
        rw [List.length_drop] at this
        simp only [List.length_append, List.length_cons, List.length_nil] at this
        simp only
        omega
  have := key (bs.length + 1) bs [] 0
  unfold scan; simpa using this
theorem openw_spec {d : Nat} {D : Dk} {n : Int} {g : Log} (hok : D.Ok) (h0 : 0 ≤ n) (hdn : D.down = false) (hg : D.logs[n.toNat]? = some g) (H : St W (dskA d D :: l) w) :
    cl Try.prog 24 [.pointer (some ⟨d, 0, none⟩), .int .i64 n] (tTup3 tPtr tSlc (tInt .i64)) w fun r w' => r.2.2 = (mendD D n g).2 ∧ ((mendD D n g).2 = 0 → ∃ (b : Nat) (qs : List Slc), r.1 = some ⟨b, 0, none⟩ ∧
      St W (walA b d ⟨(scan g.b).1.length, (scan g.b).1.length, n, false⟩ :: dskA d (mendD D n g).1 :: row tSlc 72 1 r.2.1 qs :: loadsA qs (scan g.b).1 :: l) w') ∧ ((mendD D n g).2 ≠ 0 → r.1 = none ∧ St W (dskA d (mendD D n g).1 :: l) w') := by
  have hlt := (List.getElem?_eq_some_iff.1 hg).1
  have hgl := hok.log g (List.mem_of_getElem? hg)
  refine F24_ok ?_
  unfold F24
  rw [if_neg (by simp)]
  refine cl_mono (readD_spec (n := n) hok H) ?_
  rintro ⟨r, e⟩ w ⟨_, _, h3⟩
  obtain ⟨h4, H⟩ := h3 g h0 hdn hg
  simp only at h4 H
  subst h4
  rw [if_neg (by simp)]
  have hrl := row_len H
  have hrc := row_cap H
  rw [B_len] at hrl
  have H := row_stay H
  have kr : Know [ro (tInt .u8) r (B g.b)] (RoP (tInt .u8) r (B g.b)) := Know.here (m := RoP.mono)
  refine cl_mono (scan_spec hrc (by omega) (Know.here (m := RoP.mono)) H) ?_
  rintro ⟨q, m⟩ w ⟨hm, qs, H⟩
  simp only at hm H
  subst hm
  have hsl := scan_le g.b
  rw [hrl]
  have j1 : ∀ (D' : Dk) (e : Int) (w : World), mendD D n g = (D', e) → St W (dskA d D' :: row tSlc 72 1 q qs :: loadsA qs (scan g.b).1 :: l) w → F24_j1 (some ⟨d, 0, none⟩) n (q, ((scan g.b).2 : Int)) e w fun r w' => r.2.2 = (mendD D n g).2 ∧ ((mendD D n g).2 = 0 → ∃ (b : Nat) (qs : List Slc), r.1 = some ⟨b, 0, none⟩ ∧
      St W (walA b d ⟨(scan g.b).1.length, (scan g.b).1.length, n, false⟩ :: dskA d (mendD D n g).1 :: row tSlc 72 1 r.2.1 qs :: loadsA qs (scan g.b).1 :: l) w') ∧ ((mendD D n g).2 ≠ 0 → r.1 = none ∧ St W (dskA d (mendD D n g).1 :: l) w') := by
    intro D' e w hme H
    rw [hme]
    unfold F24_j1
    by_cases he : e = 0
    · subst he
      rw [if_neg (by simp)]
      have hql := row_len (H.front 1)
      have hqx : qs.length = (scan g.b).1.length := by
        obtain ⟨I, _, hI⟩ := (Know.everI (Know.tail (Know.tail (Know.here (m := LoadsP.mono))))) H
        exact hI.1
      simp only
      rw [hql, hqx]
      refine nw_st H fun b w H => ?_
      exact ⟨by trivial, fun _ => ⟨b, qs, rfl, H⟩, fun h => absurd rfl h⟩
    · rw [if_pos (by simpa using he)]
      exact ⟨by trivial, fun h => absurd h he, fun _ => ⟨by trivial, ((H.ord [1, 2]).drop.drop)⟩⟩
  by_cases h1 : (scan g.b).2 < g.b.length
  · rw [if_pos (by simp; omega)]
    dsimp only
    refine sub_st (by omega) (by omega) (by omega) (by omega) fun s12 h12 => ?_
    have k12 := (Know.tail (Know.tail (Know.here (m := RoP.mono)) : Know (loadsA qs (scan g.b).1 :: ro (tInt .u8) r (B g.b) :: dskA d D :: l) (RoP (tInt .u8) r (B g.b))) : Know (row tSlc 72 1 q qs :: loadsA qs (scan g.b).1 :: ro (tInt .u8) r (B g.b) :: dskA d D :: l) (RoP (tInt .u8) r (B g.b)))
    have H3 := H.ord [3, 2]
    have k13 : Know (ro (tInt .u8) r (B g.b) :: row tSlc 72 1 q qs :: loadsA qs (scan g.b).1 :: l) (RoP (tInt .u8) r (B g.b)) := Know.here (m := RoP.mono)
    have k14 := k13.sub (fun _ => rfl) h12 (by rw [B_len]; omega)
    have b12 : ((B g.b).take (((scan g.b).2 : Nat) : Int).toNat).drop ((0 : Int)).toNat = B (g.b.take (scan g.b).2) := by rw [B_take]; rfl
    rw [b12] at k14
    refine cl_mono (swap_spec (n := n) hok (by rw [List.length_take]; omega) (See.ro (fun _ => rfl) k14) H3) ?_
    rintro e w ⟨rfl, H⟩
    refine j1 _ _ w ?_ ((H.front 1).drop)
    unfold mendD
    rw [if_pos h1]
  · rw [if_neg (by simp; omega)]
    refine cl_mono (sureD_spec h0 hg (H.ord [3, 2])) ?_
    rintro e w ⟨rfl, H⟩
    by_cases h2 : g.sure < (scan g.b).2
    · rw [if_pos (by simp; omega)]
      refine cl_mono (sync_spec (n := n) hok H) ?_
      rintro e w ⟨rfl, H⟩
      refine j1 _ _ w ?_ ((H.front 1).drop)
      unfold mendD
      rw [if_neg h1, if_pos h2]
    · rw [if_neg (by simp; omega)]
      refine j1 D 0 w ?_ ((H.front 1).drop)
      unfold mendD
      rw [if_neg h1, if_neg h2]
end
end Go.Proofs.Ytjkmeooncmhonaa.Disk
