/- Characteristic formulae of Go functions, and that they are. Printed by gen.py (own tool). -/
import Derived.Test.YtpdaapffkdejoaaGreatTy
namespace Go.Proofs.YtpdaapffkdejoaaGreat.Cf
open Go
set_option maxRecDepth 100000
set_option maxHeartbeats 1000000
set_option linter.unusedVariables false
set_option linter.unusedSimpArgs false

-- (*moiety/vault.Vault).Held
def F17_l1 (a2 : Addr) (r7 : Slc) (l_8 : Slc) (t_9 : Int) (w10 : World) (K11 : Slc × Int → World → Prop) (R : Slc → World → Prop) : Prop :=
  if (decide (t_9 < (r7.len : Int))) = true then (
    ex (IxA r7 1 t_9) fun a12 =>
    ex (RdAt (tInt .i64) a12 w10) fun x13 =>
    ex (RdAt tMap (a2.add 3) w10) fun x14 =>
    ex (MapGet T54 .i64 x14 x13 w10) fun m15 =>
    apl 55 T54 6 48 l_8 [(m15.getD Z54)] w10 fun r19 w18 =>
    K11 (r19, (IntKind.i64.wrap (t_9 + (1 : Int)))) w18
  ) else (
    R l_8 w10
  )
def F17 (v_1 : (Option Addr)) (w : World) (R : Slc → World → Prop) : Prop :=
  ex (NC v_1) fun a2 =>
  ex (RdAt tMap (a2.add 3) w) fun x3 =>
  cl Tryz.prog 35 [.map (x3)] tFun w fun r5 w4 =>
  cl Tryz.prog 34 [(r5).enc] tSlc w4 fun r7 w6 =>
  lp (fun (s : Slc × Int) w K => F17_l1 a2 r7 s.1 s.2 w K R) ((⟨none, 0, 0⟩ : Slc), (0 : Int)) w6
theorem F17_ok {v_1 : (Option Addr)} {w : World} {R : Slc → World → Prop} (h : F17 v_1 w R) : cl Tryz.prog 17 [.pointer (v_1)] tSlc w R := by
  unfold F17 at h
  refine calls_start 28 Tryz.func17 rfl rfl (Nat.le_of_ble_eq_true rfl) ?_
  refine wp_seq ?_
  refine wp_text [0] rfl ?_
  refine rv 2 rfl rfl rfl (q_assign (v := tSlc.enc ((⟨none, 0, 0⟩ : Slc))) rfl rfl) ?_
  refine ro_nil ?_
  refine wp_seq ?_
  refine wp_text [0] rfl ?_
  refine rv 3 rfl rfl rfl (q_assign (v := tSlc.enc ((⟨none, 0, 0⟩ : Slc))) rfl rfl) ?_
  refine ro_nil ?_
  refine wp_seq ?_
  refine wp_seq ?_
  refine wp_text [0, 1, 2, 3, 4, 5, 6, 7] rfl ?_
  refine rv 6 rfl rfl rfl (q_move (v := .pointer (v_1)) rfl rfl) ?_
  obtain ⟨a2, ha2, h⟩ := h
  refine rv 7 rfl rfl rfl (q_nilCheck (a := a2) rfl (congrArg Value.pointer ha2)) ?_
  refine rv 8 rfl rfl rfl (q_fieldAddr (a := a2) (off := 3) rfl Tryz.underlying35 rfl rfl ok31 (by decide) rfl) ?_
  obtain ⟨x3, hx3, h⟩ := h
  refine rv 9 rfl rfl rfl (q_load (T := tMap) (u := x3) (a := (a2.add 3)) rfl ok31 rfl hx3) ?_
  refine ro_wp rfl (.free rfl) (wp_cl (d := (some 10)) rfl (q_call (k := 35) (l := [.map (x3)]) rfl ent35 rfl) h ?_)
  intro r5 w4 h
  refine ro_wp rfl (.free rfl) (wp_cl (d := (some 11)) rfl (q_call (k := 34) (l := [(r5).enc]) rfl ent34 rfl) h ?_)
  intro r7 w6 h
  refine rv 12 rfl rfl rfl (q_len (s := r7) rfl Tryz.underlying77 rfl) ?_
  refine rv 13 rfl rfl rfl (q_move (v := .int .i64 ((0 : Int))) rfl rfl) ?_
  refine ro_nil ?_
  refine wp_block ?_
  refine loop_at (σ := Slc × Int) (fr := fun g (s : Slc × Int) => upd (upd (upd (upd (upd (g) 0 (.pointer (v_1))) 11 (tSlc.enc (r7))) 12 (.int .i64 ((r7.len : Int)))) 3 (tSlc.enc (s.1))) 13 (.int .i64 (s.2))) (s0 := ((⟨none, 0, 0⟩ : Slc), (0 : Int))) (upd_step (upd_step (upd_step (upd_step (upd_step rfl rfl) rfl) rfl) rfl) rfl) h ?_
  rintro ⟨l_8, t_9⟩ g w10 K11 h
  unfold F17_l1 at h
  refine wp_seq ?_
  refine wp_text [0] rfl ?_
  refine rv 14 rfl rfl rfl (q_lss (a := t_9) (b := (r7.len : Int)) rfl rfl rfl) ?_
  refine ro_nil ?_
  refine wp_seq ?_
  refine wp_if (b := (decide (t_9 < (r7.len : Int)))) rfl h (fun hb20 h => ?_) (fun hb20 h => ?_)
  · refine wp_skip ?_
    refine wp_seq ?_
    refine wp_block ?_
    refine wp_seq ?_
    refine wp_text [0, 1, 2] rfl ?_
    obtain ⟨a12, ha12, h⟩ := h
    refine rv 15 rfl rfl rfl (q_indexAddr (s := r7) (k := .i64) (i := t_9) rfl Tryz.underlying77 ok3 rfl rfl ha12) ?_
    obtain ⟨x13, hx13, h⟩ := h
    refine rv 16 rfl rfl rfl (q_load (T := (tInt .i64)) (u := x13) (a := a12) rfl ok3 rfl hx13) ?_
    refine rv 5 rfl rfl rfl (q_assign (v := .int .i64 (x13)) rfl rfl) ?_
    refine ro_nil ?_
    refine wp_text [0, 1, 2, 3, 4, 5, 6, 7, 8, 9] rfl ?_
    refine rv 17 rfl rfl rfl (q_move (v := tSlc.enc (l_8)) rfl rfl) ?_
    refine rv 18 rfl rfl rfl (q_move (v := .pointer (v_1)) rfl rfl) ?_
    refine rv 19 rfl rfl rfl (q_nilCheck (a := a2) rfl (congrArg Value.pointer ha2)) ?_
    refine rv 20 rfl rfl rfl (q_fieldAddr (a := a2) (off := 3) rfl Tryz.underlying35 rfl rfl ok31 (by decide) rfl) ?_
    obtain ⟨x14, hx14, h⟩ := h
    refine rv 21 rfl rfl rfl (q_load (T := tMap) (u := x14) (a := (a2.add 3)) rfl ok31 rfl hx14) ?_
    refine rv 22 rfl rfl rfl (q_move (v := .int .i64 (x13)) rfl rfl) ?_
    obtain ⟨m15, hm15, h⟩ := h
    refine rv 23 rfl rfl rfl (q_lookup (T := T54) (r := x14) (key := x13) (u := m15) (z := Z54) rfl Tryz.underlying31 Tryz.underlying3 (inf55) rfl rfl hm15) ?_
    obtain ⟨a16, w17, ha16, hw17, h⟩ := apl_open h
    refine rv 24 rfl rfl rfl (q_rowOf (T := T54) (xs := [(m15.getD Z54)]) rfl Tryz.underlying50 ok55 inf55 rfl (by decide) (by decide) rfl ha16 hw17) ?_
    refine ro_wp rfl (.free rfl) (wp_append (d := (some 25)) (T := T54) rfl rfl Tryz.underlying50 ⟨_, Tryz.underlying50⟩ ok55 inf55 rfl rfl (Nat.lt_of_lt_of_le Nat.zero_lt_one (Nat.le_of_ble_eq_true rfl)) rfl rfl h ?_)
    intro r19 w18 h
    refine rv 3 rfl rfl rfl (q_assign (v := tSlc.enc (r19)) rfl rfl) ?_
    refine ro_nil ?_
    refine wp_text [0, 1] rfl ?_
    refine rv 26 rfl rfl rfl (q_add (a := t_9) (b := (1 : Int)) rfl rfl rfl) ?_
    refine rv 13 rfl rfl rfl (q_move (v := .int .i64 ((IntKind.i64.wrap (t_9 + (1 : Int))))) rfl rfl) ?_
    refine ro_nil ?_
    exact ⟨(r19, (IntKind.i64.wrap (t_9 + (1 : Int)))), _, arr (upd_step (upd_step (upd_step (upd_step (upd_step rfl rfl) rfl) rfl) rfl) rfl), h⟩
  · refine wp_exit ?_
    refine wp_seq ?_
    refine wp_text [0, 1] rfl ?_
    refine rv 27 rfl rfl rfl (q_move (v := tSlc.enc (l_8)) rfl rfl) ?_
    refine rv 2 rfl rfl rfl (q_assign (v := tSlc.enc (l_8)) rfl rfl) ?_
    refine ro_nil ?_
    refine wp_ret ?_
    exact ret_ok rfl (.cons (.tmp (v := tSlc.enc (l_8)) rfl) .nil) ⟨l_8, rfl, h⟩

-- (*moiety/vault.Vault).Top
def F18 (v_1 : (Option Addr)) (w : World) (R : Int → World → Prop) : Prop :=
  ex (NC v_1) fun a2 =>
  ex (RdAt (tInt .i64) (a2.add 2) w) fun x3 =>
  R x3 w
theorem F18_ok {v_1 : (Option Addr)} {w : World} {R : Int → World → Prop} (h : F18 v_1 w R) : cl Tryz.prog 18 [.pointer (v_1)] (tInt .i64) w R := by
  unfold F18 at h
  refine calls_start 7 Tryz.func18 rfl rfl (Nat.le_of_ble_eq_true rfl) ?_
  refine wp_seq ?_
  refine wp_text [0] rfl ?_
  refine rv 2 rfl rfl rfl (q_assign (v := .int .i64 ((0 : Int))) rfl rfl) ?_
  refine ro_nil ?_
  refine wp_seq ?_
  refine wp_text [0, 1, 2, 3, 4] rfl ?_
  refine rv 3 rfl rfl rfl (q_move (v := .pointer (v_1)) rfl rfl) ?_
  obtain ⟨a2, ha2, h⟩ := h
  refine rv 4 rfl rfl rfl (q_nilCheck (a := a2) rfl (congrArg Value.pointer ha2)) ?_
  refine rv 5 rfl rfl rfl (q_fieldAddr (a := a2) (off := 2) rfl Tryz.underlying35 rfl rfl ok2 (by decide) rfl) ?_
  obtain ⟨x3, hx3, h⟩ := h
  refine rv 6 rfl rfl rfl (q_load (T := (tInt .i64)) (u := x3) (a := (a2.add 2)) rfl ok2 rfl hx3) ?_
  refine rv 2 rfl rfl rfl (q_assign (v := .int .i64 (x3)) rfl rfl) ?_
  refine ro_nil ?_
  refine wp_ret ?_
  exact ret_ok rfl (.cons (.tmp (v := .int .i64 (x3)) rfl) .nil) ⟨x3, rfl, h⟩

-- (*moiety/vault.Vault).Close
def F19_l1 (v_1 : (Option Addr)) (t_2 : Int) (a5 : Addr) (a8 : Addr) (w9 : World) (K10 : Unit → World → Prop) (R : Int → World → Prop) : Prop :=
  nxt a8 w9 fun q12 w11 =>
  if (Option.isSome q12) = true then (
    ex (Ent T54 .i64 a8 w11) fun e13 =>
    nw 55 T54 Z54 w11 fun a14 w15 =>
    st T54 a14 e13.2 w15 fun w16 =>
    ex (RdAt (tInt .i64) (a14.add 4) w16) fun x17 =>
    if (decide (x17 ≤ t_2)) = true then (
      R (160 : Int) w16
    ) else (
      K10 () w16
    )
  ) else (
    ex (RdAt tPtr ((a5.add 0).add 0) w11) fun x19 =>
    cl Tryz.prog 37 [.pointer (x19), .int .i64 (t_2)] (tInt .i64) w11 fun r21 w20 =>
    cl Tryz.prog 33 [.pointer (v_1), .int .i64 (t_2)] tUnit w20 fun r23 w22 =>
    R (0 : Int) w22
  )
def F19 (v_1 : (Option Addr)) (t_2 : Int) (w : World) (R : Int → World → Prop) : Prop :=
  cl Tryz.prog 36 [.int .i64 (t_2)] tBool w fun r4 w3 =>
  if (!r4) = true then (
    R (151 : Int) w3
  ) else (
    ex (NC v_1) fun a5 =>
    ex (RdAt tMap (a5.add 3) w3) fun x6 =>
    rng x6 w3 fun a8 w7 =>
    lp (fun (s : Unit) w K => F19_l1 v_1 t_2 a5 a8 w K R) () w7
  )
theorem F19_ok {v_1 : (Option Addr)} {t_2 : Int} {w : World} {R : Int → World → Prop} (h : F19 v_1 t_2 w R) : cl Tryz.prog 19 [.pointer (v_1), .int .i64 (t_2)] (tInt .i64) w R := by
  unfold F19 at h
  refine calls_start 33 Tryz.func19 rfl rfl (Nat.le_of_ble_eq_true rfl) ?_
  refine wp_seq ?_
  refine wp_text [0] rfl ?_
  refine rv 4 rfl rfl rfl (q_assign (v := .int .i64 ((0 : Int))) rfl rfl) ?_
  refine ro_nil ?_
  refine wp_seq ?_
  refine wp_seq ?_
  refine wp_text [0, 1, 2] rfl ?_
  refine rv 7 rfl rfl rfl (q_move (v := .int .i64 (t_2)) rfl rfl) ?_
  refine ro_wp rfl (.free rfl) (wp_cl (d := (some 8)) rfl (q_call (k := 36) (l := [.int .i64 (t_2)]) rfl ent36 rfl) h ?_)
  intro r4 w3 h
  refine rv 9 rfl rfl rfl (q_not (b := r4) rfl rfl) ?_
  refine ro_nil ?_
  refine wp_if (b := (!r4)) rfl h (fun hb25 h => ?_) (fun hb25 h => ?_)
  · refine wp_seq ?_
    refine wp_text [0] rfl ?_
    refine rv 4 rfl rfl rfl (q_assign (v := .int .i64 ((151 : Int))) rfl rfl) ?_
    refine ro_nil ?_
    refine wp_ret ?_
    exact ret_ok rfl (.cons (.tmp (v := .int .i64 ((151 : Int))) rfl) .nil) ⟨(151 : Int), rfl, h⟩
  · refine wp_skip ?_
    refine wp_seq ?_
    refine wp_seq ?_
    refine wp_text [0, 1, 2, 3, 4] rfl ?_
    refine rv 10 rfl rfl rfl (q_move (v := .pointer (v_1)) rfl rfl) ?_
    obtain ⟨a5, ha5, h⟩ := h
    refine rv 11 rfl rfl rfl (q_nilCheck (a := a5) rfl (congrArg Value.pointer ha5)) ?_
    refine rv 12 rfl rfl rfl (q_fieldAddr (a := a5) (off := 3) rfl Tryz.underlying35 rfl rfl ok31 (by decide) rfl) ?_
    obtain ⟨x6, hx6, h⟩ := h
    refine rv 13 rfl rfl rfl (q_load (T := tMap) (u := x6) (a := (a5.add 3)) rfl ok31 rfl hx6) ?_
    refine ro_wp rfl (.free rfl) (wp_rng (r := x6) (d := (some 14)) rfl rfl Tryz.underlying31 rfl h ?_)
    intro a8 w7 h
    refine ro_nil ?_
    refine wp_block ?_
    refine loop_at (σ := Unit) (fr := fun g (s : Unit) => upd (upd (upd (g) 0 (.pointer (v_1))) 1 (.int .i64 (t_2))) 14 (.pointer (some a8))) (s0 := ()) (upd_step (upd_step (upd_step rfl rfl) rfl) rfl) h ?_
    rintro ⟨⟩ g w9 K10 h
    unfold F19_l1 at h
    refine wp_seq ?_
    refine wp_text [0, 1] rfl ?_
    refine ro_wp rfl (.free rfl) (wp_nxt (a := a8) (d := (some 15)) rfl rfl rfl h ?_)
    intro q12 w11 h
    refine rv 16 rfl rfl rfl (q_extractN (q := q12) rfl rfl) ?_
    refine ro_nil ?_
    refine wp_seq ?_
    refine wp_if (b := (Option.isSome q12)) rfl h (fun hb24 h => ?_) (fun hb24 h => ?_)
    · refine wp_skip ?_
      refine wp_block ?_
      refine wp_seq ?_
      refine wp_text [0, 1, 2, 3] rfl ?_
      obtain ⟨e13, he13, h⟩ := h
      refine rv 17 rfl rfl rfl (q_entry (T := T54) (p := e13) (a := a8) rfl rfl he13) ?_
      refine rv 18 rfl rfl rfl (q_extract (vs := #[.int .i64 (e13.1), T54.enc (e13.2)]) (v := T54.enc (e13.2)) rfl rfl rfl) ?_
      obtain ⟨a14, w15, ha14, hw15, h⟩ := nw_open h
      refine rv 6 rfl rfl rfl (q_alloc (u := Z54) rfl ok55 inf55 ha14 hw15) ?_
      obtain ⟨w16, hw16, hrw16, h⟩ := st_open h
      refine ro_skip (d := none) rfl (.free rfl) rfl (q_store (T := T54) (u := e13.2) (a := a14) rfl ok55 rfl rfl hrw16 hw16) ?_
      refine ro_nil ?_
      refine wp_seq ?_
      refine wp_text [0, 1, 2, 3] rfl ?_
      refine rv 19 rfl rfl rfl (q_fieldAddr (a := a14) (off := 4) rfl Tryz.underlying55 rfl rfl ok2 (by decide) rfl) ?_
      obtain ⟨x17, hx17, h⟩ := h
      refine rv 20 rfl rfl rfl (q_load (T := (tInt .i64)) (u := x17) (a := (a14.add 4)) rfl ok2 rfl hx17) ?_
      refine rv 21 rfl rfl rfl (q_move (v := .int .i64 (t_2)) rfl rfl) ?_
      refine rv 22 rfl rfl rfl (q_leq (a := x17) (b := t_2) rfl rfl rfl) ?_
      refine ro_nil ?_
      refine wp_if (b := (decide (x17 ≤ t_2))) rfl h (fun hb18 h => ?_) (fun hb18 h => ?_)
      · refine wp_seq ?_
        refine wp_text [0] rfl ?_
        refine rv 4 rfl rfl rfl (q_assign (v := .int .i64 ((160 : Int))) rfl rfl) ?_
        refine ro_nil ?_
        refine wp_ret ?_
        exact ret_ok rfl (.cons (.tmp (v := .int .i64 ((160 : Int))) rfl) .nil) ⟨(160 : Int), rfl, h⟩
      · refine wp_skip ?_
        exact ⟨(), _, arr (upd_step (upd_step (upd_step rfl rfl) rfl) rfl), h⟩
    · refine wp_exit ?_
      refine wp_seq ?_
      refine wp_text [0, 1, 2, 3, 4, 5, 6] rfl ?_
      refine rv 23 rfl rfl rfl (q_move (v := .pointer (v_1)) rfl rfl) ?_
      refine rv 24 rfl rfl rfl (q_nilCheck (a := a5) rfl (congrArg Value.pointer ha5)) ?_
      refine rv 25 rfl rfl rfl (q_fieldAddr (a := a5) (off := 0) rfl Tryz.underlying35 rfl rfl ok30 (by decide) rfl) ?_
      refine rv 26 rfl rfl rfl (q_fieldAddr (a := (a5.add 0)) (off := 0) rfl Tryz.underlying30 rfl rfl ok28 (by decide) rfl) ?_
      obtain ⟨x19, hx19, h⟩ := h
      refine rv 27 rfl rfl rfl (q_load (T := tPtr) (u := x19) (a := ((a5.add 0).add 0)) rfl ok28 rfl hx19) ?_
      refine rv 28 rfl rfl rfl (q_move (v := .int .i64 (t_2)) rfl rfl) ?_
      refine ro_wp rfl (.free rfl) (wp_cl (d := (some 29)) rfl (q_call (k := 37) (l := [.pointer (x19), .int .i64 (t_2)]) rfl ent37 rfl) h ?_)
      intro r21 w20 h
      refine ro_nil ?_
      refine wp_seq ?_
      refine wp_text [0, 1, 2] rfl ?_
      refine rv 30 rfl rfl rfl (q_move (v := .pointer (v_1)) rfl rfl) ?_
      refine rv 31 rfl rfl rfl (q_move (v := .int .i64 (t_2)) rfl rfl) ?_
      refine ro_wp rfl (.free rfl) (wp_cl (d := (some 32)) rfl (q_call (k := 33) (l := [.pointer (v_1), .int .i64 (t_2)]) rfl ent33 rfl) h ?_)
      intro r23 w22 h
      refine ro_nil ?_
      refine wp_seq ?_
      refine wp_text [0] rfl ?_
      refine rv 4 rfl rfl rfl (q_assign (v := .int .i64 ((0 : Int))) rfl rfl) ?_
      refine ro_nil ?_
      refine wp_ret ?_
      exact ret_ok rfl (.cons (.tmp (v := .int .i64 ((0 : Int))) rfl) .nil) ⟨(0 : Int), rfl, h⟩

-- moiety/moietylaw15.part
def F20 (o_1 : S41) (w : World) (R : S52 → World → Prop) : Prop :=
  nw 42 T41 o_1 w fun a2 w3 =>
  nw 53 T52 Z52 w3 fun a4 w5 =>
  ex (RdAt (tInt .i64) (a2.add 1) w5) fun x6 =>
  ex (RdAt (tInt .i64) (a2.add 2) w5) fun x7 =>
  ex (RdAt (tInt .i64) (a2.add 4) w5) fun x8 =>
  ex (RdAt tBool (a2.add 5) w5) fun x9 =>
  st T52 a4 (⟨x6, x7, x8, x9⟩ : S52) w5 fun w10 =>
  ex (RdAt T52 a4 w10) fun x11 =>
  R x11 w10
theorem F20_ok {o_1 : S41} {w : World} {R : S52 → World → Prop} (h : F20 o_1 w R) : cl Tryz.prog 20 [T41.enc (o_1)] T52 w R := by
  unfold F20 at h
  refine calls_start 12 Tryz.func20 rfl rfl (Nat.le_of_ble_eq_true rfl) ?_
  refine wp_seq ?_
  refine wp_text [0, 1] rfl ?_
  obtain ⟨a2, w3, ha2, hw3, h⟩ := nw_open h
  refine rv 1 rfl rfl rfl (q_box (u := o_1) rfl ok42 rfl ha2 hw3) ?_
  obtain ⟨a4, w5, ha4, hw5, h⟩ := nw_open h
  refine rv 2 rfl rfl rfl (q_alloc (u := Z52) rfl ok53 inf53 ha4 hw5) ?_
  refine ro_nil ?_
  refine wp_seq ?_
  refine wp_text [0, 1, 2, 3, 4, 5, 6, 7, 8, 9] rfl ?_
  refine rv 3 rfl rfl rfl (q_fieldAddr (a := a2) (off := 1) rfl Tryz.underlying42 rfl rfl ok3 (by decide) rfl) ?_
  obtain ⟨x6, hx6, h⟩ := h
  refine rv 4 rfl rfl rfl (q_load (T := (tInt .i64)) (u := x6) (a := (a2.add 1)) rfl ok3 rfl hx6) ?_
  refine rv 5 rfl rfl rfl (q_fieldAddr (a := a2) (off := 2) rfl Tryz.underlying42 rfl rfl ok3 (by decide) rfl) ?_
  obtain ⟨x7, hx7, h⟩ := h
  refine rv 6 rfl rfl rfl (q_load (T := (tInt .i64)) (u := x7) (a := (a2.add 2)) rfl ok3 rfl hx7) ?_
  refine rv 7 rfl rfl rfl (q_fieldAddr (a := a2) (off := 4) rfl Tryz.underlying42 rfl rfl ok2 (by decide) rfl) ?_
  obtain ⟨x8, hx8, h⟩ := h
  refine rv 8 rfl rfl rfl (q_load (T := (tInt .i64)) (u := x8) (a := (a2.add 4)) rfl ok2 rfl hx8) ?_
  refine rv 9 rfl rfl rfl (q_fieldAddr (a := a2) (off := 5) rfl Tryz.underlying42 rfl rfl ok4 (by decide) rfl) ?_
  obtain ⟨x9, hx9, h⟩ := h
  refine rv 10 rfl rfl rfl (q_load (T := tBool) (u := x9) (a := (a2.add 5)) rfl ok4 rfl hx9) ?_
  refine rv 11 rfl rfl rfl (q_build53_0_1_2_3 (v0 := x6) (v1 := x7) (v2 := x8) (v3 := x9) rfl rfl rfl rfl rfl) ?_
  obtain ⟨w10, hw10, hrw10, h⟩ := st_open h
  refine ro_skip (d := none) rfl (.free rfl) rfl (q_store (T := T52) (u := (⟨x6, x7, x8, x9⟩ : S52)) (a := a4) rfl ok53 rfl rfl hrw10 hw10) ?_
  refine ro_nil ?_
  refine wp_ret ?_
  obtain ⟨x11, hx11, h⟩ := h
  exact ret_ok rfl (.cons (.cell (T := T52) (u := x11) (a := a4) ok53 rfl hx11) .nil) ⟨x11, rfl, h⟩

-- (*moiety/vault.Vault).Hold
def F21 (v_1 : (Option Addr)) (t_2 : Int) (p_3 : S52) (w : World) (R : Int → World → Prop) : Prop :=
  nw 53 T52 p_3 w fun a4 w5 =>
  cl Tryz.prog 38 [.pointer (v_1), .int .i64 (t_2)] (tInt .i64) w5 fun r7 w6 =>
  if (r7 != (0 : Int)) = true then (
    R r7 w6
  ) else (
    ex (RdAt T52 a4 w6) fun x8 =>
    cl Tryz.prog 39 [.pointer (v_1), T52.enc (x8)] (tTup2 (tInt .i64) (tInt .i64)) w6 fun r10 w9 =>
    if (r10.2 != (0 : Int)) = true then (
      R r10.2 w9
    ) else (
      dr w9 fun w11 =>
      ex (NC v_1) fun a12 =>
      ex (RdAt tMap (a12.add 3) w11) fun x13 =>
      ex (RdAt (tInt .i64) (a4.add 0) w11) fun x14 =>
      ex (RdAt T52 a4 w11) fun x15 =>
      mput T54 .i64 x13 x14 (⟨x15, t_2, r10.1⟩ : S54) w11 fun w16 =>
      dr w16 fun w17 =>
      ex (RdAt tMap (a12.add 4) w17) fun x18 =>
      ex (RdAt (tInt .i64) (a4.add 1) w17) fun x19 =>
      ex (RdAt (tInt .i64) (a4.add 0) w17) fun x20 =>
      mput (tInt .i64) .i64 x18 x19 x20 w17 fun w21 =>
      dr w21 fun w22 =>
      ex (RdAt tMap (a12.add 5) w22) fun x23 =>
      ex (RdAt (tInt .i64) (a4.add 0) w22) fun x24 =>
      mput T69 .i64 x23 x24 (⟨(1 : Int), t_2⟩ : S69) w22 fun w25 =>
      cl Tryz.prog 33 [.pointer (v_1), .int .i64 (t_2)] tUnit w25 fun r27 w26 =>
      R (0 : Int) w26
    )
  )
theorem F21_ok {v_1 : (Option Addr)} {t_2 : Int} {p_3 : S52} {w : World} {R : Int → World → Prop} (h : F21 v_1 t_2 p_3 w R) : cl Tryz.prog 21 [.pointer (v_1), .int .i64 (t_2), T52.enc (p_3)] (tInt .i64) w R := by
  unfold F21 at h
  refine calls_start 54 Tryz.func21 rfl rfl (Nat.le_of_ble_eq_true rfl) ?_
  refine wp_seq ?_
  refine wp_text [0, 1] rfl ?_
  obtain ⟨a4, w5, ha4, hw5, h⟩ := nw_open h
  refine rv 5 rfl rfl rfl (q_box (u := p_3) rfl ok53 rfl ha4 hw5) ?_
  refine rv 6 rfl rfl rfl (q_assign (v := .int .i64 ((0 : Int))) rfl rfl) ?_
  refine ro_nil ?_
  refine wp_seq ?_
  refine wp_seq ?_
  refine wp_text [0, 1, 2, 3] rfl ?_
  refine rv 10 rfl rfl rfl (q_move (v := .pointer (v_1)) rfl rfl) ?_
  refine rv 11 rfl rfl rfl (q_move (v := .int .i64 (t_2)) rfl rfl) ?_
  refine ro_wp rfl (.free rfl) (wp_cl (d := (some 12)) rfl (q_call (k := 38) (l := [.pointer (v_1), .int .i64 (t_2)]) rfl ent38 rfl) h ?_)
  intro r7 w6 h
  refine rv 7 rfl rfl rfl (q_assign (v := .int .i64 (r7)) rfl rfl) ?_
  refine ro_nil ?_
  refine wp_seq ?_
  refine wp_text [0, 1] rfl ?_
  refine rv 13 rfl rfl rfl (q_move (v := .int .i64 (r7)) rfl rfl) ?_
  refine rv 14 rfl rfl rfl (q_neq (a := r7) (b := (0 : Int)) rfl rfl rfl) ?_
  refine ro_nil ?_
  refine wp_if (b := (r7 != (0 : Int))) rfl h (fun hb29 h => ?_) (fun hb29 h => ?_)
  · refine wp_seq ?_
    refine wp_text [0, 1] rfl ?_
    refine rv 15 rfl rfl rfl (q_move (v := .int .i64 (r7)) rfl rfl) ?_
    refine rv 6 rfl rfl rfl (q_assign (v := .int .i64 (r7)) rfl rfl) ?_
    refine ro_nil ?_
    refine wp_ret ?_
    exact ret_ok rfl (.cons (.tmp (v := .int .i64 (r7)) rfl) .nil) ⟨r7, rfl, h⟩
  · refine wp_skip ?_
    refine wp_seq ?_
    refine wp_text [0, 1, 2, 3, 4, 5, 6, 7] rfl ?_
    refine rv 17 rfl rfl rfl (q_move (v := .pointer (v_1)) rfl rfl) ?_
    obtain ⟨x8, hx8, h⟩ := h
    refine rv 18 rfl rfl rfl (q_load (T := T52) (u := x8) (a := a4) rfl ok53 rfl hx8) ?_
    refine ro_wp rfl (.free rfl) (wp_cl (d := (some 19)) rfl (q_call (k := 39) (l := [.pointer (v_1), T52.enc (x8)]) rfl ent39 rfl) h ?_)
    intro r10 w9 h
    refine rv 16 rfl rfl rfl (q_move (v := (tTup2 (tInt .i64) (tInt .i64)).enc (r10)) rfl rfl) ?_
    refine rv 20 rfl rfl rfl (q_extract (vs := #[.int .i64 (r10.1), .int .i64 (r10.2)]) (v := .int .i64 (r10.1)) rfl rfl rfl) ?_
    refine rv 21 rfl rfl rfl (q_extract (vs := #[.int .i64 (r10.1), .int .i64 (r10.2)]) (v := .int .i64 (r10.2)) rfl rfl rfl) ?_
    refine rv 8 rfl rfl rfl (q_assign (v := .int .i64 (r10.1)) rfl rfl) ?_
    refine rv 9 rfl rfl rfl (q_assign (v := .int .i64 (r10.2)) rfl rfl) ?_
    refine ro_nil ?_
    refine wp_seq ?_
    refine wp_seq ?_
    refine wp_text [0, 1] rfl ?_
    refine rv 22 rfl rfl rfl (q_move (v := .int .i64 (r10.2)) rfl rfl) ?_
    refine rv 23 rfl rfl rfl (q_neq (a := r10.2) (b := (0 : Int)) rfl rfl rfl) ?_
    refine ro_nil ?_
    refine wp_if (b := (r10.2 != (0 : Int))) rfl h (fun hb28 h => ?_) (fun hb28 h => ?_)
    · refine wp_seq ?_
      refine wp_text [0, 1] rfl ?_
      refine rv 24 rfl rfl rfl (q_move (v := .int .i64 (r10.2)) rfl rfl) ?_
      refine rv 6 rfl rfl rfl (q_assign (v := .int .i64 (r10.2)) rfl rfl) ?_
      refine ro_nil ?_
      refine wp_ret ?_
      exact ret_ok rfl (.cons (.tmp (v := .int .i64 (r10.2)) rfl) .nil) ⟨r10.2, rfl, h⟩
    · refine wp_skip ?_
      refine wp_seq ?_
      obtain ⟨w11, hw11, h⟩ := dr_open h
      refine wp_drawn 11 mixed rfl (by kernel_rfl) (by intro c a d v w h; cases d <;> exact h) hw11 (fun hD => ?_)
      refine rp 0 25 hD rfl rfl rfl (fun _ => q_move (v := .pointer (v_1)) rfl rfl) ?_
      obtain ⟨a12, ha12, h⟩ := h
      refine rp 1 26 hD rfl rfl rfl (fun _ => q_nilCheck (a := a12) rfl (congrArg Value.pointer ha12)) ?_
      refine rp 2 27 hD rfl rfl rfl (fun _ => q_fieldAddr (a := a12) (off := 3) rfl Tryz.underlying35 rfl rfl ok31 (by decide) rfl) ?_
      refine rp 4 29 hD rfl rfl rfl (fun _ => q_fieldAddr (a := a4) (off := 0) rfl Tryz.underlying53 rfl rfl ok3 (by decide) rfl) ?_
      refine rp 7 32 hD rfl rfl rfl (fun _ => q_move (v := .int .i64 (t_2)) rfl rfl) ?_
      refine rp 8 33 hD rfl rfl rfl (fun _ => q_move (v := .int .i64 (r10.1)) rfl rfl) ?_
      obtain ⟨x13, hx13, h⟩ := h
      refine rd_read (i := 3) (d := (some 28)) (fun W => (RdAt tMap (a12.add 3) W) x13) hD (by kernel_rfl) (by kernel_rfl) rfl (.free rfl) rfl (fun W hr => q_load (T := tMap) (u := x13) (a := (a12.add 3)) rfl ok31 rfl hr) hx13 ?_
      obtain ⟨x14, hx14, h⟩ := h
      refine rd_read (i := 5) (d := (some 30)) (fun W => (RdAt (tInt .i64) (a4.add 0) W) x14) hD (by kernel_rfl) (by kernel_rfl) rfl (.free rfl) rfl (fun W hr => q_load (T := (tInt .i64)) (u := x14) (a := (a4.add 0)) rfl ok3 rfl hr) hx14 ?_
      obtain ⟨x15, hx15, h⟩ := h
      refine rd_read (i := 6) (d := (some 31)) (fun W => (RdAt T52 a4 W) x15) hD (by kernel_rfl) (by kernel_rfl) rfl (.free rfl) rfl (fun W hr => q_load (T := T52) (u := x15) (a := a4) rfl ok53 rfl hr) hx15 ?_
      refine rp 9 34 hD rfl rfl rfl (fun _ => q_build55_0_1_2 (v0 := x15) (v1 := t_2) (v2 := r10.1) rfl rfl rfl rfl) ?_
      refine rd_one (i := 10) (by kernel_rfl) ?_
      refine po_wp rfl (.free rfl) (wp_mput (T := T54) (r := x13) (key := x14) (v := (⟨x15, t_2, r10.1⟩ : S54)) (d := none) rfl (.inl rfl) Tryz.underlying31 Tryz.underlying3 rfl rfl rfl h ?_)
      intro w16 h
      refine ⟨(hk_wait (by kernel_rfl) (hk_wait (by kernel_rfl) (hk_wait (by kernel_rfl) hk_nil))), ?_⟩
      refine rd_nil (by kernel_rfl) ?_
      refine wp_seq ?_
      obtain ⟨w17, hw17, h⟩ := dr_open h
      refine wp_drawn 9 mixed rfl (by kernel_rfl) (by intro c a d v w h; cases d <;> exact h) hw17 (fun hD => ?_)
      refine rp 0 35 hD rfl rfl rfl (fun _ => q_move (v := .pointer (v_1)) rfl rfl) ?_
      refine rp 1 36 hD rfl rfl rfl (fun _ => q_nilCheck (a := a12) rfl (congrArg Value.pointer ha12)) ?_
      refine rp 2 37 hD rfl rfl rfl (fun _ => q_fieldAddr (a := a12) (off := 4) rfl Tryz.underlying35 rfl rfl ok32 (by decide) rfl) ?_
      refine rp 4 39 hD rfl rfl rfl (fun _ => q_fieldAddr (a := a4) (off := 1) rfl Tryz.underlying53 rfl rfl ok3 (by decide) rfl) ?_
      refine rp 6 41 hD rfl rfl rfl (fun _ => q_fieldAddr (a := a4) (off := 0) rfl Tryz.underlying53 rfl rfl ok3 (by decide) rfl) ?_
      obtain ⟨x18, hx18, h⟩ := h
      refine rd_read (i := 3) (d := (some 38)) (fun W => (RdAt tMap (a12.add 4) W) x18) hD (by kernel_rfl) (by kernel_rfl) rfl (.free rfl) rfl (fun W hr => q_load (T := tMap) (u := x18) (a := (a12.add 4)) rfl ok32 rfl hr) hx18 ?_
      obtain ⟨x19, hx19, h⟩ := h
      refine rd_read (i := 5) (d := (some 40)) (fun W => (RdAt (tInt .i64) (a4.add 1) W) x19) hD (by kernel_rfl) (by kernel_rfl) rfl (.free rfl) rfl (fun W hr => q_load (T := (tInt .i64)) (u := x19) (a := (a4.add 1)) rfl ok3 rfl hr) hx19 ?_
      obtain ⟨x20, hx20, h⟩ := h
      refine rd_read (i := 7) (d := (some 42)) (fun W => (RdAt (tInt .i64) (a4.add 0) W) x20) hD (by kernel_rfl) (by kernel_rfl) rfl (.free rfl) rfl (fun W hr => q_load (T := (tInt .i64)) (u := x20) (a := (a4.add 0)) rfl ok3 rfl hr) hx20 ?_
      refine rd_one (i := 8) (by kernel_rfl) ?_
      refine po_wp rfl (.free rfl) (wp_mput (T := (tInt .i64)) (r := x18) (key := x19) (v := x20) (d := none) rfl (.inl rfl) Tryz.underlying32 Tryz.underlying3 rfl rfl rfl h ?_)
      intro w21 h
      refine ⟨(hk_wait (by kernel_rfl) (hk_wait (by kernel_rfl) (hk_wait (by kernel_rfl) hk_nil))), ?_⟩
      refine rd_nil (by kernel_rfl) ?_
      refine wp_seq ?_
      obtain ⟨w22, hw22, h⟩ := dr_open h
      refine wp_drawn 9 mixed rfl (by kernel_rfl) (by intro c a d v w h; cases d <;> exact h) hw22 (fun hD => ?_)
      refine rp 0 43 hD rfl rfl rfl (fun _ => q_move (v := .pointer (v_1)) rfl rfl) ?_
      refine rp 1 44 hD rfl rfl rfl (fun _ => q_nilCheck (a := a12) rfl (congrArg Value.pointer ha12)) ?_
      refine rp 2 45 hD rfl rfl rfl (fun _ => q_fieldAddr (a := a12) (off := 5) rfl Tryz.underlying35 rfl rfl ok33 (by decide) rfl) ?_
      refine rp 4 47 hD rfl rfl rfl (fun _ => q_fieldAddr (a := a4) (off := 0) rfl Tryz.underlying53 rfl rfl ok3 (by decide) rfl) ?_
      refine rp 6 49 hD rfl rfl rfl (fun _ => q_move (v := .int .i64 (t_2)) rfl rfl) ?_
      refine rp 7 50 hD rfl rfl rfl (fun _ => q_build70_0_1 (v0 := (1 : Int)) (v1 := t_2) rfl rfl rfl) ?_
      obtain ⟨x23, hx23, h⟩ := h
      refine rd_read (i := 3) (d := (some 46)) (fun W => (RdAt tMap (a12.add 5) W) x23) hD (by kernel_rfl) (by kernel_rfl) rfl (.free rfl) rfl (fun W hr => q_load (T := tMap) (u := x23) (a := (a12.add 5)) rfl ok33 rfl hr) hx23 ?_
      obtain ⟨x24, hx24, h⟩ := h
      refine rd_read (i := 5) (d := (some 48)) (fun W => (RdAt (tInt .i64) (a4.add 0) W) x24) hD (by kernel_rfl) (by kernel_rfl) rfl (.free rfl) rfl (fun W hr => q_load (T := (tInt .i64)) (u := x24) (a := (a4.add 0)) rfl ok3 rfl hr) hx24 ?_
      refine rd_one (i := 8) (by kernel_rfl) ?_
      refine po_wp rfl (.free rfl) (wp_mput (T := T69) (r := x23) (key := x24) (v := (⟨(1 : Int), t_2⟩ : S69)) (d := none) rfl (.inl rfl) Tryz.underlying33 Tryz.underlying3 rfl rfl rfl h ?_)
      intro w25 h
      refine ⟨(hk_wait (by kernel_rfl) (hk_wait (by kernel_rfl) hk_nil)), ?_⟩
      refine rd_nil (by kernel_rfl) ?_
      refine wp_seq ?_
      refine wp_text [0, 1, 2] rfl ?_
      refine rv 51 rfl rfl rfl (q_move (v := .pointer (v_1)) rfl rfl) ?_
      refine rv 52 rfl rfl rfl (q_move (v := .int .i64 (t_2)) rfl rfl) ?_
      refine ro_wp rfl (.free rfl) (wp_cl (d := (some 53)) rfl (q_call (k := 33) (l := [.pointer (v_1), .int .i64 (t_2)]) rfl ent33 rfl) h ?_)
      intro r27 w26 h
      refine ro_nil ?_
      refine wp_seq ?_
      refine wp_text [0] rfl ?_
      refine rv 6 rfl rfl rfl (q_assign (v := .int .i64 ((0 : Int))) rfl rfl) ?_
      refine ro_nil ?_
      refine wp_ret ?_
      exact ret_ok rfl (.cons (.tmp (v := .int .i64 ((0 : Int))) rfl) .nil) ⟨(0 : Int), rfl, h⟩

-- moiety/vault.New
def F22 (rate_1 : Nat) (w : World) (R : ((Option Addr) × Int) → World → Prop) : Prop :=
  cl Tryz.prog 40 [.float .f64 (rate_1)] (tInt .i64) w fun r3 w2 =>
  if (r3 != (0 : Int)) = true then (
    R ((none : Option Addr), (150 : Int)) w2
  ) else (
    cl Tryz.prog 41 [] tPtr w2 fun r5 w4 =>
    nwMap w4 fun m7 w6 =>
    nwMap w6 fun m9 w8 =>
    nwMap w8 fun m11 w10 =>
    nw 35 T34 (⟨(⟨r5⟩ : S29), rate_1, (0 : Int), (some m7), (some m9), (some m11)⟩ : S34) w10 fun a12 w13 =>
    R ((some a12), (0 : Int)) w13
  )
theorem F22_ok {rate_1 : Nat} {w : World} {R : ((Option Addr) × Int) → World → Prop} (h : F22 rate_1 w R) : cl Tryz.prog 22 [.float .f64 (rate_1)] (tTup2 tPtr (tInt .i64)) w R := by
  unfold F22 at h
  refine calls_start 15 Tryz.func22 rfl rfl (Nat.le_of_ble_eq_true rfl) ?_
  refine wp_seq ?_
  refine wp_text [0, 1] rfl ?_
  refine rv 2 rfl rfl rfl (q_assign (v := .pointer ((none : Option Addr))) rfl rfl) ?_
  refine rv 3 rfl rfl rfl (q_assign (v := .int .i64 ((0 : Int))) rfl rfl) ?_
  refine ro_nil ?_
  refine wp_seq ?_
  refine wp_seq ?_
  refine wp_text [0, 1, 2] rfl ?_
  refine rv 4 rfl rfl rfl (q_move (v := .float .f64 (rate_1)) rfl rfl) ?_
  refine ro_wp rfl (.free rfl) (wp_cl (d := (some 5)) rfl (q_call (k := 40) (l := [.float .f64 (rate_1)]) rfl ent40 rfl) h ?_)
  intro r3 w2 h
  refine rv 6 rfl rfl rfl (q_neq (a := r3) (b := (0 : Int)) rfl rfl rfl) ?_
  refine ro_nil ?_
  refine wp_if (b := (r3 != (0 : Int))) rfl h (fun hb14 h => ?_) (fun hb14 h => ?_)
  · refine wp_seq ?_
    refine wp_text [0, 1] rfl ?_
    refine rv 2 rfl rfl rfl (q_assign (v := .pointer ((none : Option Addr))) rfl rfl) ?_
    refine rv 3 rfl rfl rfl (q_assign (v := .int .i64 ((150 : Int))) rfl rfl) ?_
    refine ro_nil ?_
    refine wp_ret ?_
    exact ret_ok rfl (.cons (.tmp (v := .pointer ((none : Option Addr))) rfl) (.cons (.tmp (v := .int .i64 ((150 : Int))) rfl) .nil)) ⟨((none : Option Addr), (150 : Int)), rfl, h⟩
  · refine wp_skip ?_
    refine wp_seq ?_
    refine wp_text [0, 1, 2, 3, 4, 5, 6, 7, 8, 9] rfl ?_
    refine ro_wp rfl (.free rfl) (wp_cl (d := (some 7)) rfl (q_call (k := 41) (l := []) rfl ent41 rfl) h ?_)
    intro r5 w4 h
    refine rv 8 rfl rfl rfl (q_build30_0 (v0 := r5) rfl rfl) ?_
    refine rv 9 rfl rfl rfl (q_move (v := .float .f64 (rate_1)) rfl rfl) ?_
    obtain ⟨m7, w6, hm7, hw6, h⟩ := nwMap_open h
    refine rv 10 rfl rfl rfl (q_makeMap rfl hm7 hw6) ?_
    obtain ⟨m9, w8, hm9, hw8, h⟩ := nwMap_open h
    refine rv 11 rfl rfl rfl (q_makeMap rfl hm9 hw8) ?_
    obtain ⟨m11, w10, hm11, hw10, h⟩ := nwMap_open h
    refine rv 12 rfl rfl rfl (q_makeMap rfl hm11 hw10) ?_
    refine rv 13 rfl rfl rfl (q_build35_0_1_3_4_5 (v0 := (⟨r5⟩ : S29)) (v1 := rate_1) (v3 := (some m7)) (v4 := (some m9)) (v5 := (some m11)) rfl rfl rfl rfl rfl rfl) ?_
    obtain ⟨a12, w13, ha12, hw13, h⟩ := nw_open h
    refine rv 14 rfl rfl rfl (q_box (u := (⟨(⟨r5⟩ : S29), rate_1, (0 : Int), (some m7), (some m9), (some m11)⟩ : S34)) rfl ok35 rfl ha12 hw13) ?_
    refine rv 2 rfl rfl rfl (q_assign (v := .pointer (some a12)) rfl rfl) ?_
    refine rv 3 rfl rfl rfl (q_assign (v := .int .i64 ((0 : Int))) rfl rfl) ?_
    refine ro_nil ?_
    refine wp_ret ?_
    exact ret_ok rfl (.cons (.tmp (v := .pointer ((some a12))) rfl) (.cons (.tmp (v := .int .i64 ((0 : Int))) rfl) .nil)) ⟨((some a12), (0 : Int)), rfl, h⟩

-- (*moiety/vault.Vault).Open
def F23 (v_1 : (Option Addr)) (t_2 : Int) (account_3 : Int) (n_4 : Int) (w : World) (R : Int → World → Prop) : Prop :=
  cl Tryz.prog 38 [.pointer (v_1), .int .i64 (t_2)] (tInt .i64) w fun r6 w5 =>
  if (r6 != (0 : Int)) = true then (
    R r6 w5
  ) else (
    ex (NC v_1) fun a7 =>
    ex (RdAt tPtr ((a7.add 0).add 0) w5) fun x8 =>
    cl Tryz.prog 42 [.pointer (x8), .int .i64 (account_3)] (tTup2 T86 tBool) w5 fun r10 w9 =>
    nw 87 T86 Z86 w9 fun a11 w12 =>
    st T86 a11 r10.1 w12 fun w13 =>
    cl Tryz.prog 43 [.int .i64 (account_3)] tBool w13 fun r15 w14 =>
    if (!r15) = true then (
      R (153 : Int) w14
    ) else (
      if r10.2 = true then (
        R (154 : Int) w14
      ) else (
        cl Tryz.prog 44 [.int .i64 (n_4)] (tInt .i64) w14 fun r17 w16 =>
        if (r17 != (0 : Int)) = true then (
          R (155 : Int) w16
        ) else (
          ex (RdAt tPtr ((a7.add 0).add 0) w16) fun x18 =>
          nwS 63 T62 [(⟨account_3, n_4⟩ : S62)] w16 fun a19 w20 =>
          cl Tryz.prog 30 [.pointer (x18), .int .i64 (t_2), tSlc.enc ((⟨some a19, 1, 1⟩ : Slc))] (tInt .i64) w20 fun r22 w21 =>
          cl Tryz.prog 33 [.pointer (v_1), .int .i64 (t_2)] tUnit w21 fun r24 w23 =>
          R (0 : Int) w23
        )
      )
    )
  )
theorem F23_ok {v_1 : (Option Addr)} {t_2 : Int} {account_3 : Int} {n_4 : Int} {w : World} {R : Int → World → Prop} (h : F23 v_1 t_2 account_3 n_4 w R) : cl Tryz.prog 23 [.pointer (v_1), .int .i64 (t_2), .int .i64 (account_3), .int .i64 (n_4)] (tInt .i64) w R := by
  unfold F23 at h
  refine calls_start 52 Tryz.func23 rfl rfl (Nat.le_of_ble_eq_true rfl) ?_
  refine wp_seq ?_
  refine wp_text [0] rfl ?_
  refine rv 8 rfl rfl rfl (q_assign (v := .int .i64 ((0 : Int))) rfl rfl) ?_
  refine ro_nil ?_
  refine wp_seq ?_
  refine wp_seq ?_
  refine wp_text [0, 1, 2, 3] rfl ?_
  refine rv 12 rfl rfl rfl (q_move (v := .pointer (v_1)) rfl rfl) ?_
  refine rv 13 rfl rfl rfl (q_move (v := .int .i64 (t_2)) rfl rfl) ?_
  refine ro_wp rfl (.free rfl) (wp_cl (d := (some 14)) rfl (q_call (k := 38) (l := [.pointer (v_1), .int .i64 (t_2)]) rfl ent38 rfl) h ?_)
  intro r6 w5 h
  refine rv 9 rfl rfl rfl (q_assign (v := .int .i64 (r6)) rfl rfl) ?_
  refine ro_nil ?_
  refine wp_seq ?_
  refine wp_text [0, 1] rfl ?_
  refine rv 15 rfl rfl rfl (q_move (v := .int .i64 (r6)) rfl rfl) ?_
  refine rv 16 rfl rfl rfl (q_neq (a := r6) (b := (0 : Int)) rfl rfl rfl) ?_
  refine ro_nil ?_
  refine wp_if (b := (r6 != (0 : Int))) rfl h (fun hb28 h => ?_) (fun hb28 h => ?_)
  · refine wp_seq ?_
    refine wp_text [0, 1] rfl ?_
    refine rv 17 rfl rfl rfl (q_move (v := .int .i64 (r6)) rfl rfl) ?_
    refine rv 8 rfl rfl rfl (q_assign (v := .int .i64 (r6)) rfl rfl) ?_
    refine ro_nil ?_
    refine wp_ret ?_
    exact ret_ok rfl (.cons (.tmp (v := .int .i64 (r6)) rfl) .nil) ⟨r6, rfl, h⟩
  · refine wp_skip ?_
    refine wp_seq ?_
    refine wp_text [0, 1, 2, 3, 4, 5, 6, 7, 8, 9, 10, 11, 12] rfl ?_
    refine rv 19 rfl rfl rfl (q_move (v := .pointer (v_1)) rfl rfl) ?_
    obtain ⟨a7, ha7, h⟩ := h
    refine rv 20 rfl rfl rfl (q_nilCheck (a := a7) rfl (congrArg Value.pointer ha7)) ?_
    refine rv 21 rfl rfl rfl (q_fieldAddr (a := a7) (off := 0) rfl Tryz.underlying35 rfl rfl ok30 (by decide) rfl) ?_
    refine rv 22 rfl rfl rfl (q_fieldAddr (a := (a7.add 0)) (off := 0) rfl Tryz.underlying30 rfl rfl ok28 (by decide) rfl) ?_
    obtain ⟨x8, hx8, h⟩ := h
    refine rv 23 rfl rfl rfl (q_load (T := tPtr) (u := x8) (a := ((a7.add 0).add 0)) rfl ok28 rfl hx8) ?_
    refine rv 24 rfl rfl rfl (q_move (v := .int .i64 (account_3)) rfl rfl) ?_
    refine ro_wp rfl (.free rfl) (wp_cl (d := (some 25)) rfl (q_call (k := 42) (l := [.pointer (x8), .int .i64 (account_3)]) rfl ent42 rfl) h ?_)
    intro r10 w9 h
    refine rv 18 rfl rfl rfl (q_move (v := (tTup2 T86 tBool).enc (r10)) rfl rfl) ?_
    refine rv 26 rfl rfl rfl (q_extract (vs := #[T86.enc (r10.1), .bool (r10.2)]) (v := T86.enc (r10.1)) rfl rfl rfl) ?_
    refine rv 27 rfl rfl rfl (q_extract (vs := #[T86.enc (r10.1), .bool (r10.2)]) (v := .bool (r10.2)) rfl rfl rfl) ?_
    obtain ⟨a11, w12, ha11, hw12, h⟩ := nw_open h
    refine rv 10 rfl rfl rfl (q_alloc (u := Z86) rfl ok87 inf87 ha11 hw12) ?_
    obtain ⟨w13, hw13, hrw13, h⟩ := st_open h
    refine ro_skip (d := none) rfl (.free rfl) rfl (q_store (T := T86) (u := r10.1) (a := a11) rfl ok87 rfl rfl hrw13 hw13) ?_
    refine rv 11 rfl rfl rfl (q_assign (v := .bool (r10.2)) rfl rfl) ?_
    refine ro_nil ?_
    refine wp_seq ?_
    refine wp_block ?_
    refine wp_seq ?_
    refine wp_text [0, 1, 2, 3] rfl ?_
    refine rv 29 rfl rfl rfl (q_move (v := .int .i64 (account_3)) rfl rfl) ?_
    refine ro_wp rfl (.free rfl) (wp_cl (d := (some 30)) rfl (q_call (k := 43) (l := [.int .i64 (account_3)]) rfl ent43 rfl) h ?_)
    intro r15 w14 h
    refine rv 31 rfl rfl rfl (q_not (b := r15) rfl rfl) ?_
    refine rv 28 rfl rfl rfl (q_assign (v := .bool ((!r15))) rfl rfl) ?_
    refine ro_nil ?_
    refine wp_if (b := (!r15)) rfl h (fun hb27 h => ?_) (fun hb27 h => ?_)
    · refine wp_seq ?_
      refine wp_text [0] rfl ?_
      refine rv 8 rfl rfl rfl (q_assign (v := .int .i64 ((153 : Int))) rfl rfl) ?_
      refine ro_nil ?_
      refine wp_ret ?_
      exact ret_ok rfl (.cons (.tmp (v := .int .i64 ((153 : Int))) rfl) .nil) ⟨(153 : Int), rfl, h⟩
    · refine wp_seq ?_
      refine wp_text [0, 1] rfl ?_
      refine rv 33 rfl rfl rfl (q_move (v := .bool (r10.2)) rfl rfl) ?_
      refine rv 32 rfl rfl rfl (q_assign (v := .bool (r10.2)) rfl rfl) ?_
      refine ro_nil ?_
      refine wp_if (b := r10.2) rfl h (fun hb26 h => ?_) (fun hb26 h => ?_)
      · refine wp_seq ?_
        refine wp_text [0] rfl ?_
        refine rv 8 rfl rfl rfl (q_assign (v := .int .i64 ((154 : Int))) rfl rfl) ?_
        refine ro_nil ?_
        refine wp_ret ?_
        exact ret_ok rfl (.cons (.tmp (v := .int .i64 ((154 : Int))) rfl) .nil) ⟨(154 : Int), rfl, h⟩
      · refine wp_seq ?_
        refine wp_text [0, 1, 2, 3] rfl ?_
        refine rv 35 rfl rfl rfl (q_move (v := .int .i64 (n_4)) rfl rfl) ?_
        refine ro_wp rfl (.free rfl) (wp_cl (d := (some 36)) rfl (q_call (k := 44) (l := [.int .i64 (n_4)]) rfl ent44 rfl) h ?_)
        intro r17 w16 h
        refine rv 37 rfl rfl rfl (q_neq (a := r17) (b := (0 : Int)) rfl rfl rfl) ?_
        refine rv 34 rfl rfl rfl (q_assign (v := .bool ((r17 != (0 : Int)))) rfl rfl) ?_
        refine ro_nil ?_
        refine wp_if (b := (r17 != (0 : Int))) rfl h (fun hb25 h => ?_) (fun hb25 h => ?_)
        · refine wp_seq ?_
          refine wp_text [0] rfl ?_
          refine rv 8 rfl rfl rfl (q_assign (v := .int .i64 ((155 : Int))) rfl rfl) ?_
          refine ro_nil ?_
          refine wp_ret ?_
          exact ret_ok rfl (.cons (.tmp (v := .int .i64 ((155 : Int))) rfl) .nil) ⟨(155 : Int), rfl, h⟩
        · refine wp_skip ?_
          refine wp_seq ?_
          refine wp_text [0, 1, 2, 3, 4, 5, 6, 7, 8, 9, 10] rfl ?_
          refine rv 38 rfl rfl rfl (q_move (v := .pointer (v_1)) rfl rfl) ?_
          refine rv 39 rfl rfl rfl (q_nilCheck (a := a7) rfl (congrArg Value.pointer ha7)) ?_
          refine rv 40 rfl rfl rfl (q_fieldAddr (a := a7) (off := 0) rfl Tryz.underlying35 rfl rfl ok30 (by decide) rfl) ?_
          refine rv 41 rfl rfl rfl (q_fieldAddr (a := (a7.add 0)) (off := 0) rfl Tryz.underlying30 rfl rfl ok28 (by decide) rfl) ?_
          obtain ⟨x18, hx18, h⟩ := h
          refine rv 42 rfl rfl rfl (q_load (T := tPtr) (u := x18) (a := ((a7.add 0).add 0)) rfl ok28 rfl hx18) ?_
          refine rv 43 rfl rfl rfl (q_move (v := .int .i64 (t_2)) rfl rfl) ?_
          refine rv 44 rfl rfl rfl (q_move (v := .int .i64 (account_3)) rfl rfl) ?_
          refine rv 45 rfl rfl rfl (q_move (v := .int .i64 (n_4)) rfl rfl) ?_
          refine rv 46 rfl rfl rfl (q_build63_0_1 (v0 := account_3) (v1 := n_4) rfl rfl rfl) ?_
          obtain ⟨a19, w20, ha19, hw20, h⟩ := nwS_open h
          refine rv 47 rfl rfl rfl (q_rowOf (T := T62) (xs := [(⟨account_3, n_4⟩ : S62)]) rfl Tryz.underlying36 ok63 inf63 rfl (by decide) (by decide) rfl ha19 hw20) ?_
          refine ro_wp rfl (.free rfl) (wp_cl (d := (some 48)) rfl (q_call (k := 30) (l := [.pointer (x18), .int .i64 (t_2), tSlc.enc ((⟨some a19, 1, 1⟩ : Slc))]) rfl ent30 rfl) h ?_)
          intro r22 w21 h
          refine ro_nil ?_
          refine wp_seq ?_
          refine wp_text [0, 1, 2] rfl ?_
          refine rv 49 rfl rfl rfl (q_move (v := .pointer (v_1)) rfl rfl) ?_
          refine rv 50 rfl rfl rfl (q_move (v := .int .i64 (t_2)) rfl rfl) ?_
          refine ro_wp rfl (.free rfl) (wp_cl (d := (some 51)) rfl (q_call (k := 33) (l := [.pointer (v_1), .int .i64 (t_2)]) rfl ent33 rfl) h ?_)
          intro r24 w23 h
          refine ro_nil ?_
          refine wp_seq ?_
          refine wp_text [0] rfl ?_
          refine rv 8 rfl rfl rfl (q_assign (v := .int .i64 ((0 : Int))) rfl rfl) ?_
          refine ro_nil ?_
          refine wp_ret ?_
          exact ret_ok rfl (.cons (.tmp (v := .int .i64 ((0 : Int))) rfl) .nil) ⟨(0 : Int), rfl, h⟩

-- (*moiety/vault.Vault).Has
def F24 (v_1 : (Option Addr)) (account_2 : Int) (at_3 : Int) (w : World) (R : (Int × Int) → World → Prop) : Prop :=
  cl Tryz.prog 43 [.int .i64 (account_2)] tBool w fun r5 w4 =>
  if (!r5) = true then (
    R ((0 : Int), (153 : Int)) w4
  ) else (
    ex (NC v_1) fun a6 =>
    ex (RdAt tPtr ((a6.add 0).add 0) w4) fun x7 =>
    cl Tryz.prog 45 [.pointer (x7), .int .i64 (account_2), .int .i64 (at_3)] (tTup2 T86 (tInt .i64)) w4 fun r9 w8 =>
    nw 87 T86 Z86 w8 fun a10 w11 =>
    st T86 a10 r9.1 w11 fun w12 =>
    dr w12 fun w13 =>
    ex (RdAt (tInt .i64) (a10.add 1) w13) fun x14 =>
    cl Tryz.prog 28 [.int .i64 (r9.2)] (tInt .i64) w13 fun r16 w15 =>
    kp ((RdAt (tInt .i64) (a10.add 1) w15) x14) <|
    R (x14, r16) w15
  )
theorem F24_ok {v_1 : (Option Addr)} {account_2 : Int} {at_3 : Int} {w : World} {R : (Int × Int) → World → Prop} (h : F24 v_1 account_2 at_3 w R) : cl Tryz.prog 24 [.pointer (v_1), .int .i64 (account_2), .int .i64 (at_3)] (tTup2 (tInt .i64) (tInt .i64)) w R := by
  unfold F24 at h
  refine calls_start 28 Tryz.func24 rfl rfl (Nat.le_of_ble_eq_true rfl) ?_
  refine wp_seq ?_
  refine wp_text [0, 1] rfl ?_
  refine rv 6 rfl rfl rfl (q_assign (v := .int .i64 ((0 : Int))) rfl rfl) ?_
  refine rv 7 rfl rfl rfl (q_assign (v := .int .i64 ((0 : Int))) rfl rfl) ?_
  refine ro_nil ?_
  refine wp_seq ?_
  refine wp_seq ?_
  refine wp_text [0, 1, 2] rfl ?_
  refine rv 10 rfl rfl rfl (q_move (v := .int .i64 (account_2)) rfl rfl) ?_
  refine ro_wp rfl (.free rfl) (wp_cl (d := (some 11)) rfl (q_call (k := 43) (l := [.int .i64 (account_2)]) rfl ent43 rfl) h ?_)
  intro r5 w4 h
  refine rv 12 rfl rfl rfl (q_not (b := r5) rfl rfl) ?_
  refine ro_nil ?_
  refine wp_if (b := (!r5)) rfl h (fun hb18 h => ?_) (fun hb18 h => ?_)
  · refine wp_seq ?_
    refine wp_text [0, 1] rfl ?_
    refine rv 6 rfl rfl rfl (q_assign (v := .int .i64 ((0 : Int))) rfl rfl) ?_
    refine rv 7 rfl rfl rfl (q_assign (v := .int .i64 ((153 : Int))) rfl rfl) ?_
    refine ro_nil ?_
    refine wp_ret ?_
    exact ret_ok rfl (.cons (.tmp (v := .int .i64 ((0 : Int))) rfl) (.cons (.tmp (v := .int .i64 ((153 : Int))) rfl) .nil)) ⟨((0 : Int), (153 : Int)), rfl, h⟩
  · refine wp_skip ?_
    refine wp_seq ?_
    refine wp_text [0, 1, 2, 3, 4, 5, 6, 7, 8, 9, 10, 11, 12, 13] rfl ?_
    refine rv 14 rfl rfl rfl (q_move (v := .pointer (v_1)) rfl rfl) ?_
    obtain ⟨a6, ha6, h⟩ := h
    refine rv 15 rfl rfl rfl (q_nilCheck (a := a6) rfl (congrArg Value.pointer ha6)) ?_
    refine rv 16 rfl rfl rfl (q_fieldAddr (a := a6) (off := 0) rfl Tryz.underlying35 rfl rfl ok30 (by decide) rfl) ?_
    refine rv 17 rfl rfl rfl (q_fieldAddr (a := (a6.add 0)) (off := 0) rfl Tryz.underlying30 rfl rfl ok28 (by decide) rfl) ?_
    obtain ⟨x7, hx7, h⟩ := h
    refine rv 18 rfl rfl rfl (q_load (T := tPtr) (u := x7) (a := ((a6.add 0).add 0)) rfl ok28 rfl hx7) ?_
    refine rv 19 rfl rfl rfl (q_move (v := .int .i64 (account_2)) rfl rfl) ?_
    refine rv 20 rfl rfl rfl (q_move (v := .int .i64 (at_3)) rfl rfl) ?_
    refine ro_wp rfl (.free rfl) (wp_cl (d := (some 21)) rfl (q_call (k := 45) (l := [.pointer (x7), .int .i64 (account_2), .int .i64 (at_3)]) rfl ent45 rfl) h ?_)
    intro r9 w8 h
    refine rv 13 rfl rfl rfl (q_move (v := (tTup2 T86 (tInt .i64)).enc (r9)) rfl rfl) ?_
    refine rv 22 rfl rfl rfl (q_extract (vs := #[T86.enc (r9.1), .int .i64 (r9.2)]) (v := T86.enc (r9.1)) rfl rfl rfl) ?_
    refine rv 23 rfl rfl rfl (q_extract (vs := #[T86.enc (r9.1), .int .i64 (r9.2)]) (v := .int .i64 (r9.2)) rfl rfl rfl) ?_
    obtain ⟨a10, w11, ha10, hw11, h⟩ := nw_open h
    refine rv 8 rfl rfl rfl (q_alloc (u := Z86) rfl ok87 inf87 ha10 hw11) ?_
    obtain ⟨w12, hw12, hrw12, h⟩ := st_open h
    refine ro_skip (d := none) rfl (.free rfl) rfl (q_store (T := T86) (u := r9.1) (a := a10) rfl ok87 rfl rfl hrw12 hw12) ?_
    refine rv 9 rfl rfl rfl (q_assign (v := .int .i64 (r9.2)) rfl rfl) ?_
    refine ro_nil ?_
    refine wp_seq ?_
    obtain ⟨w13, hw13, h⟩ := dr_open h
    refine wp_drawn 6 mixed rfl (by kernel_rfl) (by intro c a d v w h; cases d <;> exact h) hw13 (fun hD => ?_)
    refine rp 0 24 hD rfl rfl rfl (fun _ => q_fieldAddr (a := a10) (off := 1) rfl Tryz.underlying87 rfl rfl ok2 (by decide) rfl) ?_
    refine rp 2 26 hD rfl rfl rfl (fun _ => q_move (v := .int .i64 (r9.2)) rfl rfl) ?_
    obtain ⟨x14, hx14, h⟩ := h
    refine rd_read (i := 1) (d := (some 25)) (fun W => (RdAt (tInt .i64) (a10.add 1) W) x14) hD (by kernel_rfl) (by kernel_rfl) rfl (.free rfl) rfl (fun W hr => q_load (T := (tInt .i64)) (u := x14) (a := (a10.add 1)) rfl ok2 rfl hr) hx14 ?_
    refine rd_one (i := 3) (by kernel_rfl) ?_
    refine po_wp rfl (.free rfl) (wp_cl (d := (some 27)) rfl (q_call (k := 28) (l := [.int .i64 (r9.2)]) rfl ent28 rfl) h ?_)
    intro r16 w15 h
    obtain ⟨hk17, h⟩ := h
    refine ⟨(hk_keep (fun _ => hk17) hk_nil), ?_⟩
    refine rp 4 6 hD rfl rfl rfl (fun _ => q_assign (v := .int .i64 (x14)) rfl rfl) ?_
    refine rp 5 7 hD rfl rfl rfl (fun _ => q_assign (v := .int .i64 (r16)) rfl rfl) ?_
    refine rd_nil (by kernel_rfl) ?_
    refine wp_ret ?_
    exact ret_ok rfl (.cons (.tmp (v := .int .i64 (x14)) rfl) (.cons (.tmp (v := .int .i64 (r16)) rfl) .nil)) ⟨(x14, r16), rfl, h⟩

-- (*moiety/vault.Vault).Prune
def F25 (v_1 : (Option Addr)) (mark_2 : Int) (w : World) (R : Int → World → Prop) : Prop :=
  ex (NC v_1) fun a3 =>
  ex (RdAt tPtr ((a3.add 0).add 0) w) fun x4 =>
  cl Tryz.prog 46 [.pointer (x4), .int .i64 (mark_2)] (tInt .i64) w fun r6 w5 =>
  cl Tryz.prog 28 [.int .i64 (r6)] (tInt .i64) w5 fun r8 w7 =>
  R r8 w7
theorem F25_ok {v_1 : (Option Addr)} {mark_2 : Int} {w : World} {R : Int → World → Prop} (h : F25 v_1 mark_2 w R) : cl Tryz.prog 25 [.pointer (v_1), .int .i64 (mark_2)] (tInt .i64) w R := by
  unfold F25 at h
  refine calls_start 13 Tryz.func25 rfl rfl (Nat.le_of_ble_eq_true rfl) ?_
  refine wp_seq ?_
  refine wp_text [0] rfl ?_
  refine rv 4 rfl rfl rfl (q_assign (v := .int .i64 ((0 : Int))) rfl rfl) ?_
  refine ro_nil ?_
  refine wp_seq ?_
  refine wp_text [0, 1, 2, 3, 4, 5, 6, 7, 8] rfl ?_
  refine rv 5 rfl rfl rfl (q_move (v := .pointer (v_1)) rfl rfl) ?_
  obtain ⟨a3, ha3, h⟩ := h
  refine rv 6 rfl rfl rfl (q_nilCheck (a := a3) rfl (congrArg Value.pointer ha3)) ?_
  refine rv 7 rfl rfl rfl (q_fieldAddr (a := a3) (off := 0) rfl Tryz.underlying35 rfl rfl ok30 (by decide) rfl) ?_
  refine rv 8 rfl rfl rfl (q_fieldAddr (a := (a3.add 0)) (off := 0) rfl Tryz.underlying30 rfl rfl ok28 (by decide) rfl) ?_
  obtain ⟨x4, hx4, h⟩ := h
  refine rv 9 rfl rfl rfl (q_load (T := tPtr) (u := x4) (a := ((a3.add 0).add 0)) rfl ok28 rfl hx4) ?_
  refine rv 10 rfl rfl rfl (q_move (v := .int .i64 (mark_2)) rfl rfl) ?_
  refine ro_wp rfl (.free rfl) (wp_cl (d := (some 11)) rfl (q_call (k := 46) (l := [.pointer (x4), .int .i64 (mark_2)]) rfl ent46 rfl) h ?_)
  intro r6 w5 h
  refine ro_wp rfl (.free rfl) (wp_cl (d := (some 12)) rfl (q_call (k := 28) (l := [.int .i64 (r6)]) rfl ent28 rfl) h ?_)
  intro r8 w7 h
  refine rv 4 rfl rfl rfl (q_assign (v := .int .i64 (r8)) rfl rfl) ?_
  refine ro_nil ?_
  refine wp_ret ?_
  exact ret_ok rfl (.cons (.tmp (v := .int .i64 (r8)) rfl) .nil) ⟨r8, rfl, h⟩

-- (*moiety/store.Store).Closed
def F26 (s_1 : (Option Addr)) (w : World) (R : Int → World → Prop) : Prop :=
  ex (NC s_1) fun a2 =>
  ex (RdAt (tInt .i64) (a2.add 1) w) fun x3 =>
  R x3 w
theorem F26_ok {s_1 : (Option Addr)} {w : World} {R : Int → World → Prop} (h : F26 s_1 w R) : cl Tryz.prog 26 [.pointer (s_1)] (tInt .i64) w R := by
  unfold F26 at h
  refine calls_start 7 Tryz.func26 rfl rfl (Nat.le_of_ble_eq_true rfl) ?_
  refine wp_seq ?_
  refine wp_text [0] rfl ?_
  refine rv 2 rfl rfl rfl (q_assign (v := .int .i64 ((0 : Int))) rfl rfl) ?_
  refine ro_nil ?_
  refine wp_seq ?_
  refine wp_text [0, 1, 2, 3, 4] rfl ?_
  refine rv 3 rfl rfl rfl (q_move (v := .pointer (s_1)) rfl rfl) ?_
  obtain ⟨a2, ha2, h⟩ := h
  refine rv 4 rfl rfl rfl (q_nilCheck (a := a2) rfl (congrArg Value.pointer ha2)) ?_
  refine rv 5 rfl rfl rfl (q_fieldAddr (a := a2) (off := 1) rfl Tryz.underlying95 rfl rfl ok2 (by decide) rfl) ?_
  obtain ⟨x3, hx3, h⟩ := h
  refine rv 6 rfl rfl rfl (q_load (T := (tInt .i64)) (u := x3) (a := (a2.add 1)) rfl ok2 rfl hx3) ?_
  refine rv 2 rfl rfl rfl (q_assign (v := .int .i64 (x3)) rfl rfl) ?_
  refine ro_nil ?_
  refine wp_ret ?_
  exact ret_ok rfl (.cons (.tmp (v := .int .i64 (x3)) rfl) .nil) ⟨x3, rfl, h⟩

-- (*moiety/store.Store).Snap
def F27_j2 (t_12 : Int) (l_15 : Slc) (w16 : World) (K14 : Slc × Int → World → Prop) (R : (Slc × Int) → World → Prop) : Prop :=
  K14 (l_15, (IntKind.i64.wrap (t_12 + (1 : Int)))) w16
def F27_l1 (at_2 : Int) (a5 : Addr) (r10 : Slc) (l_11 : Slc) (t_12 : Int) (w13 : World) (K14 : Slc × Int → World → Prop) (R : (Slc × Int) → World → Prop) : Prop :=
  if (decide (t_12 < (r10.len : Int))) = true then (
    ex (IxA r10 1 t_12) fun a17 =>
    ex (RdAt (tInt .i64) a17 w13) fun x18 =>
    ex (RdAt tMap (a5.add 0) w13) fun x19 =>
    ex (MapGet tPtr .i64 x19 x18 w13) fun m20 =>
    cl Tryz.prog 49 [.pointer ((m20.getD (none : Option Addr))), .int .i64 (at_2)] (tTup2 T86 (tInt .i64)) w13 fun r22 w21 =>
    nw 87 T86 Z86 w21 fun a23 w24 =>
    st T86 a23 r22.1 w24 fun w25 =>
    if (r22.2 == (0 : Int)) = true then (
      ex (RdAt (tInt .i64) (a23.add 1) w25) fun x26 =>
      apl 63 T62 2 16 l_11 [(⟨x18, x26⟩ : S62)] w25 fun r30 w29 =>
      F27_j2 t_12 r30 w29 K14 R
    ) else (
      F27_j2 t_12 l_11 w25 K14 R
    )
  ) else (
    R (l_11, (0 : Int)) w13
  )
def F27 (s_1 : (Option Addr)) (at_2 : Int) (w : World) (R : (Slc × Int) → World → Prop) : Prop :=
  cl Tryz.prog 47 [.pointer (s_1), .int .i64 (at_2)] (tInt .i64) w fun r4 w3 =>
  if (r4 != (0 : Int)) = true then (
    R ((⟨none, 0, 0⟩ : Slc), r4) w3
  ) else (
    ex (NC s_1) fun a5 =>
    ex (RdAt tMap (a5.add 0) w3) fun x6 =>
    cl Tryz.prog 48 [.map (x6)] tFun w3 fun r8 w7 =>
    cl Tryz.prog 34 [(r8).enc] tSlc w7 fun r10 w9 =>
    lp (fun (s : Slc × Int) w K => F27_l1 at_2 a5 r10 s.1 s.2 w K R) ((⟨none, 0, 0⟩ : Slc), (0 : Int)) w9
  )
theorem F27_ok {s_1 : (Option Addr)} {at_2 : Int} {w : World} {R : (Slc × Int) → World → Prop} (h : F27 s_1 at_2 w R) : cl Tryz.prog 27 [.pointer (s_1), .int .i64 (at_2)] (tTup2 tSlc (tInt .i64)) w R := by
  unfold F27 at h
  refine calls_start 51 Tryz.func27 rfl rfl (Nat.le_of_ble_eq_true rfl) ?_
  refine wp_seq ?_
  refine wp_text [0, 1] rfl ?_
  refine rv 4 rfl rfl rfl (q_assign (v := tSlc.enc ((⟨none, 0, 0⟩ : Slc))) rfl rfl) ?_
  refine rv 5 rfl rfl rfl (q_assign (v := .int .i64 ((0 : Int))) rfl rfl) ?_
  refine ro_nil ?_
  refine wp_seq ?_
  refine wp_seq ?_
  refine wp_text [0, 1, 2, 3] rfl ?_
  refine rv 12 rfl rfl rfl (q_move (v := .pointer (s_1)) rfl rfl) ?_
  refine rv 13 rfl rfl rfl (q_move (v := .int .i64 (at_2)) rfl rfl) ?_
  refine ro_wp rfl (.free rfl) (wp_cl (d := (some 14)) rfl (q_call (k := 47) (l := [.pointer (s_1), .int .i64 (at_2)]) rfl ent47 rfl) h ?_)
  intro r4 w3 h
  refine rv 6 rfl rfl rfl (q_assign (v := .int .i64 (r4)) rfl rfl) ?_
  refine ro_nil ?_
  refine wp_seq ?_
  refine wp_text [0, 1] rfl ?_
  refine rv 15 rfl rfl rfl (q_move (v := .int .i64 (r4)) rfl rfl) ?_
  refine rv 16 rfl rfl rfl (q_neq (a := r4) (b := (0 : Int)) rfl rfl rfl) ?_
  refine ro_nil ?_
  refine wp_if (b := (r4 != (0 : Int))) rfl h (fun hb33 h => ?_) (fun hb33 h => ?_)
  · refine wp_seq ?_
    refine wp_text [0, 1, 2] rfl ?_
    refine rv 17 rfl rfl rfl (q_move (v := .int .i64 (r4)) rfl rfl) ?_
    refine rv 4 rfl rfl rfl (q_assign (v := tSlc.enc ((⟨none, 0, 0⟩ : Slc))) rfl rfl) ?_
    refine rv 5 rfl rfl rfl (q_assign (v := .int .i64 (r4)) rfl rfl) ?_
    refine ro_nil ?_
    refine wp_ret ?_
    exact ret_ok rfl (.cons (.tmp (v := tSlc.enc ((⟨none, 0, 0⟩ : Slc))) rfl) (.cons (.tmp (v := .int .i64 (r4)) rfl) .nil)) ⟨((⟨none, 0, 0⟩ : Slc), r4), rfl, h⟩
  · refine wp_skip ?_
    refine wp_seq ?_
    refine wp_text [0] rfl ?_
    refine rv 7 rfl rfl rfl (q_assign (v := tSlc.enc ((⟨none, 0, 0⟩ : Slc))) rfl rfl) ?_
    refine ro_nil ?_
    refine wp_seq ?_
    refine wp_seq ?_
    refine wp_text [0, 1, 2, 3, 4, 5, 6, 7] rfl ?_
    refine rv 18 rfl rfl rfl (q_move (v := .pointer (s_1)) rfl rfl) ?_
    obtain ⟨a5, ha5, h⟩ := h
    refine rv 19 rfl rfl rfl (q_nilCheck (a := a5) rfl (congrArg Value.pointer ha5)) ?_
    refine rv 20 rfl rfl rfl (q_fieldAddr (a := a5) (off := 0) rfl Tryz.underlying95 rfl rfl ok93 (by decide) rfl) ?_
    obtain ⟨x6, hx6, h⟩ := h
    refine rv 21 rfl rfl rfl (q_load (T := tMap) (u := x6) (a := (a5.add 0)) rfl ok93 rfl hx6) ?_
    refine ro_wp rfl (.free rfl) (wp_cl (d := (some 22)) rfl (q_call (k := 48) (l := [.map (x6)]) rfl ent48 rfl) h ?_)
    intro r8 w7 h
    refine ro_wp rfl (.free rfl) (wp_cl (d := (some 23)) rfl (q_call (k := 34) (l := [(r8).enc]) rfl ent34 rfl) h ?_)
    intro r10 w9 h
    refine rv 24 rfl rfl rfl (q_len (s := r10) rfl Tryz.underlying77 rfl) ?_
    refine rv 25 rfl rfl rfl (q_move (v := .int .i64 ((0 : Int))) rfl rfl) ?_
    refine ro_nil ?_
    refine wp_block ?_
    refine loop_at (σ := Slc × Int) (fr := fun g (s : Slc × Int) => upd (upd (upd (upd (upd (upd (g) 0 (.pointer (s_1))) 1 (.int .i64 (at_2))) 23 (tSlc.enc (r10))) 24 (.int .i64 ((r10.len : Int)))) 7 (tSlc.enc (s.1))) 25 (.int .i64 (s.2))) (s0 := ((⟨none, 0, 0⟩ : Slc), (0 : Int))) (upd_step (upd_step (upd_step (upd_step (upd_step (upd_step rfl rfl) rfl) rfl) rfl) rfl) rfl) h ?_
    rintro ⟨l_11, t_12⟩ g w13 K14 h
    unfold F27_l1 at h
    refine wp_seq ?_
    refine wp_text [0] rfl ?_
    refine rv 26 rfl rfl rfl (q_lss (a := t_12) (b := (r10.len : Int)) rfl rfl rfl) ?_
    refine ro_nil ?_
    refine wp_seq ?_
    refine wp_if (b := (decide (t_12 < (r10.len : Int)))) rfl h (fun hb32 h => ?_) (fun hb32 h => ?_)
    · refine wp_skip ?_
      refine seq_join (σ := Slc) (J := fun (s : Slc) w => F27_j2 t_12 s w K14 R) (fr := fun g (s : Slc) => upd (upd (upd (upd (upd (upd (g) 0 (.pointer (s_1))) 1 (.int .i64 (at_2))) 23 (tSlc.enc (r10))) 24 (.int .i64 ((r10.len : Int)))) 25 (.int .i64 (t_12))) 7 (tSlc.enc (s))) ?_ ?_
      · rintro l_15 g w16 h
        unfold F27_j2 at h
        refine wp_text [0, 1] rfl ?_
        refine rv 49 rfl rfl rfl (q_add (a := t_12) (b := (1 : Int)) rfl rfl rfl) ?_
        refine rv 25 rfl rfl rfl (q_move (v := .int .i64 ((IntKind.i64.wrap (t_12 + (1 : Int))))) rfl rfl) ?_
        refine ro_nil ?_
        exact ⟨(l_15, (IntKind.i64.wrap (t_12 + (1 : Int)))), _, arr (upd_step (upd_step (upd_step (upd_step (upd_step (upd_step rfl rfl) rfl) rfl) rfl) rfl) rfl), h⟩
      · refine wp_block ?_
        refine wp_seq ?_
        refine wp_text [0, 1, 2] rfl ?_
        obtain ⟨a17, ha17, h⟩ := h
        refine rv 27 rfl rfl rfl (q_indexAddr (s := r10) (k := .i64) (i := t_12) rfl Tryz.underlying77 ok3 rfl rfl ha17) ?_
        obtain ⟨x18, hx18, h⟩ := h
        refine rv 28 rfl rfl rfl (q_load (T := (tInt .i64)) (u := x18) (a := a17) rfl ok3 rfl hx18) ?_
        refine rv 9 rfl rfl rfl (q_assign (v := .int .i64 (x18)) rfl rfl) ?_
        refine ro_nil ?_
        refine wp_seq ?_
        refine wp_text [0, 1, 2, 3, 4, 5, 6, 7, 8, 9, 10, 11, 12, 13] rfl ?_
        refine rv 30 rfl rfl rfl (q_move (v := .pointer (s_1)) rfl rfl) ?_
        refine rv 31 rfl rfl rfl (q_nilCheck (a := a5) rfl (congrArg Value.pointer ha5)) ?_
        refine rv 32 rfl rfl rfl (q_fieldAddr (a := a5) (off := 0) rfl Tryz.underlying95 rfl rfl ok93 (by decide) rfl) ?_
        obtain ⟨x19, hx19, h⟩ := h
        refine rv 33 rfl rfl rfl (q_load (T := tMap) (u := x19) (a := (a5.add 0)) rfl ok93 rfl hx19) ?_
        refine rv 34 rfl rfl rfl (q_move (v := .int .i64 (x18)) rfl rfl) ?_
        obtain ⟨m20, hm20, h⟩ := h
        refine rv 35 rfl rfl rfl (q_lookup (T := tPtr) (r := x19) (key := x18) (u := m20) (z := (none : Option Addr)) rfl Tryz.underlying93 Tryz.underlying3 (inf97) rfl rfl hm20) ?_
        refine rv 36 rfl rfl rfl (q_move (v := .int .i64 (at_2)) rfl rfl) ?_
        refine ro_wp rfl (.free rfl) (wp_cl (d := (some 37)) rfl (q_call (k := 49) (l := [.pointer ((m20.getD (none : Option Addr))), .int .i64 (at_2)]) rfl ent49 rfl) h ?_)
        intro r22 w21 h
        refine rv 29 rfl rfl rfl (q_move (v := (tTup2 T86 (tInt .i64)).enc (r22)) rfl rfl) ?_
        refine rv 38 rfl rfl rfl (q_extract (vs := #[T86.enc (r22.1), .int .i64 (r22.2)]) (v := T86.enc (r22.1)) rfl rfl rfl) ?_
        refine rv 39 rfl rfl rfl (q_extract (vs := #[T86.enc (r22.1), .int .i64 (r22.2)]) (v := .int .i64 (r22.2)) rfl rfl rfl) ?_
        obtain ⟨a23, w24, ha23, hw24, h⟩ := nw_open h
        refine rv 10 rfl rfl rfl (q_alloc (u := Z86) rfl ok87 inf87 ha23 hw24) ?_
        obtain ⟨w25, hw25, hrw25, h⟩ := st_open h
        refine ro_skip (d := none) rfl (.free rfl) rfl (q_store (T := T86) (u := r22.1) (a := a23) rfl ok87 rfl rfl hrw25 hw25) ?_
        refine rv 11 rfl rfl rfl (q_assign (v := .int .i64 (r22.2)) rfl rfl) ?_
        refine ro_nil ?_
        refine wp_seq ?_
        refine wp_text [0, 1] rfl ?_
        refine rv 40 rfl rfl rfl (q_move (v := .int .i64 (r22.2)) rfl rfl) ?_
        refine rv 41 rfl rfl rfl (q_eql (a := r22.2) (b := (0 : Int)) rfl rfl rfl) ?_
        refine ro_nil ?_
        refine wp_if (b := (r22.2 == (0 : Int))) rfl h (fun hb31 h => ?_) (fun hb31 h => ?_)
        · refine wp_text [0, 1, 2, 3, 4, 5, 6, 7] rfl ?_
          refine rv 42 rfl rfl rfl (q_move (v := tSlc.enc (l_11)) rfl rfl) ?_
          refine rv 43 rfl rfl rfl (q_move (v := .int .i64 (x18)) rfl rfl) ?_
          refine rv 44 rfl rfl rfl (q_fieldAddr (a := a23) (off := 1) rfl Tryz.underlying87 rfl rfl ok2 (by decide) rfl) ?_
          obtain ⟨x26, hx26, h⟩ := h
          refine rv 45 rfl rfl rfl (q_load (T := (tInt .i64)) (u := x26) (a := (a23.add 1)) rfl ok2 rfl hx26) ?_
          refine rv 46 rfl rfl rfl (q_build63_0_1 (v0 := x18) (v1 := x26) rfl rfl rfl) ?_
          obtain ⟨a27, w28, ha27, hw28, h⟩ := apl_open h
          refine rv 47 rfl rfl rfl (q_rowOf (T := T62) (xs := [(⟨x18, x26⟩ : S62)]) rfl Tryz.underlying36 ok63 inf63 rfl (by decide) (by decide) rfl ha27 hw28) ?_
          refine ro_wp rfl (.free rfl) (wp_append (d := (some 48)) (T := T62) rfl rfl Tryz.underlying36 ⟨_, Tryz.underlying36⟩ ok63 inf63 rfl rfl (Nat.lt_of_lt_of_le Nat.zero_lt_one (Nat.le_of_ble_eq_true rfl)) rfl rfl h ?_)
          intro r30 w29 h
          refine rv 7 rfl rfl rfl (q_assign (v := tSlc.enc (r30)) rfl rfl) ?_
          refine ro_nil ?_
          exact ⟨(r30), _, arr (upd_step (upd_step (upd_step (upd_step (upd_step (upd_step rfl rfl) rfl) rfl) rfl) rfl) rfl), h⟩
        · refine wp_skip ?_
          exact ⟨(l_11), _, arr (upd_step (upd_step (upd_step (upd_step (upd_step (upd_step rfl rfl) rfl) rfl) rfl) rfl) rfl), h⟩
    · refine wp_exit ?_
      refine wp_seq ?_
      refine wp_text [0, 1, 2] rfl ?_
      refine rv 50 rfl rfl rfl (q_move (v := tSlc.enc (l_11)) rfl rfl) ?_
      refine rv 4 rfl rfl rfl (q_assign (v := tSlc.enc (l_11)) rfl rfl) ?_
      refine rv 5 rfl rfl rfl (q_assign (v := .int .i64 ((0 : Int))) rfl rfl) ?_
      refine ro_nil ?_
      refine wp_ret ?_
      exact ret_ok rfl (.cons (.tmp (v := tSlc.enc (l_11)) rfl) (.cons (.tmp (v := .int .i64 ((0 : Int))) rfl) .nil)) ⟨(l_11, (0 : Int)), rfl, h⟩

end Go.Proofs.YtpdaapffkdejoaaGreat.Cf
