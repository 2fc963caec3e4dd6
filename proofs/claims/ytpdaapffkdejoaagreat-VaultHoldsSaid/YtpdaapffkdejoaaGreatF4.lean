/- Characteristic formulae of Go functions, and that they are. Printed by gen.py (own tool). -/
import Derived.Test.YtpdaapffkdejoaaGreatTy
namespace Go.Proofs.YtpdaapffkdejoaaGreat.Cf
open Go
set_option maxRecDepth 100000
set_option maxHeartbeats 1000000
set_option linter.unusedVariables false
set_option linter.unusedSimpArgs false

-- moiety/vault.told
def F28 (e_1 : Int) (w : World) (R : Int → World → Prop) : Prop :=
  if (e_1 == (120 : Int)) = true then (
    R (151 : Int) w
  ) else (
    if (e_1 == (128 : Int)) = true then (
      R (164 : Int) w
    ) else (
      if (e_1 == (126 : Int)) = true then (
        R (165 : Int) w
      ) else (
        if (e_1 == (127 : Int)) = true then (
          R (159 : Int) w
        ) else (
          R e_1 w
        )
      )
    )
  )
theorem F28_ok {e_1 : Int} {w : World} {R : Int → World → Prop} (h : F28 e_1 w R) : cl Tryz.prog 28 [.int .i64 (e_1)] (tInt .i64) w R := by
  unfold F28 at h
  refine calls_start 13 Tryz.func28 rfl rfl (Nat.le_of_ble_eq_true rfl) ?_
  refine wp_seq ?_
  refine wp_text [0] rfl ?_
  refine rv 2 rfl rfl rfl (q_assign (v := .int .i64 ((0 : Int))) rfl rfl) ?_
  refine ro_nil ?_
  refine wp_seq ?_
  refine wp_seq ?_
  refine wp_text [0] rfl ?_
  refine rv 3 rfl rfl rfl (q_move (v := .int .i64 (e_1)) rfl rfl) ?_
  refine ro_nil ?_
  refine wp_block ?_
  refine wp_seq ?_
  refine wp_text [0, 1] rfl ?_
  refine rv 5 rfl rfl rfl (q_eql (a := e_1) (b := (120 : Int)) rfl rfl rfl) ?_
  refine rv 4 rfl rfl rfl (q_assign (v := .bool ((e_1 == (120 : Int)))) rfl rfl) ?_
  refine ro_nil ?_
  refine wp_if (b := (e_1 == (120 : Int))) rfl h (fun hb5 h => ?_) (fun hb5 h => ?_)
  · refine wp_seq ?_
    refine wp_text [0] rfl ?_
    refine rv 2 rfl rfl rfl (q_assign (v := .int .i64 ((151 : Int))) rfl rfl) ?_
    refine ro_nil ?_
    refine wp_ret ?_
    exact ret_ok rfl (.cons (.tmp (v := .int .i64 ((151 : Int))) rfl) .nil) ⟨(151 : Int), rfl, h⟩
  · refine wp_seq ?_
    refine wp_text [0, 1] rfl ?_
    refine rv 7 rfl rfl rfl (q_eql (a := e_1) (b := (128 : Int)) rfl rfl rfl) ?_
    refine rv 6 rfl rfl rfl (q_assign (v := .bool ((e_1 == (128 : Int)))) rfl rfl) ?_
    refine ro_nil ?_
    refine wp_if (b := (e_1 == (128 : Int))) rfl h (fun hb4 h => ?_) (fun hb4 h => ?_)
    · refine wp_seq ?_
      refine wp_text [0] rfl ?_
      refine rv 2 rfl rfl rfl (q_assign (v := .int .i64 ((164 : Int))) rfl rfl) ?_
      refine ro_nil ?_
      refine wp_ret ?_
      exact ret_ok rfl (.cons (.tmp (v := .int .i64 ((164 : Int))) rfl) .nil) ⟨(164 : Int), rfl, h⟩
    · refine wp_seq ?_
      refine wp_text [0, 1] rfl ?_
      refine rv 9 rfl rfl rfl (q_eql (a := e_1) (b := (126 : Int)) rfl rfl rfl) ?_
      refine rv 8 rfl rfl rfl (q_assign (v := .bool ((e_1 == (126 : Int)))) rfl rfl) ?_
      refine ro_nil ?_
      refine wp_if (b := (e_1 == (126 : Int))) rfl h (fun hb3 h => ?_) (fun hb3 h => ?_)
      · refine wp_seq ?_
        refine wp_text [0] rfl ?_
        refine rv 2 rfl rfl rfl (q_assign (v := .int .i64 ((165 : Int))) rfl rfl) ?_
        refine ro_nil ?_
        refine wp_ret ?_
        exact ret_ok rfl (.cons (.tmp (v := .int .i64 ((165 : Int))) rfl) .nil) ⟨(165 : Int), rfl, h⟩
      · refine wp_seq ?_
        refine wp_text [0, 1] rfl ?_
        refine rv 11 rfl rfl rfl (q_eql (a := e_1) (b := (127 : Int)) rfl rfl rfl) ?_
        refine rv 10 rfl rfl rfl (q_assign (v := .bool ((e_1 == (127 : Int)))) rfl rfl) ?_
        refine ro_nil ?_
        refine wp_if (b := (e_1 == (127 : Int))) rfl h (fun hb2 h => ?_) (fun hb2 h => ?_)
        · refine wp_seq ?_
          refine wp_text [0] rfl ?_
          refine rv 2 rfl rfl rfl (q_assign (v := .int .i64 ((159 : Int))) rfl rfl) ?_
          refine ro_nil ?_
          refine wp_ret ?_
          exact ret_ok rfl (.cons (.tmp (v := .int .i64 ((159 : Int))) rfl) .nil) ⟨(159 : Int), rfl, h⟩
        · refine wp_skip ?_
          refine wp_seq ?_
          refine wp_text [0, 1] rfl ?_
          refine rv 12 rfl rfl rfl (q_move (v := .int .i64 (e_1)) rfl rfl) ?_
          refine rv 2 rfl rfl rfl (q_assign (v := .int .i64 (e_1)) rfl rfl) ?_
          refine ro_nil ?_
          refine wp_ret ?_
          exact ret_ok rfl (.cons (.tmp (v := .int .i64 (e_1)) rfl) .nil) ⟨e_1, rfl, h⟩

-- (*moiety/store.Store).Mark
def F29 (s_1 : (Option Addr)) (w : World) (R : Int → World → Prop) : Prop :=
  ex (NC s_1) fun a2 =>
  ex (RdAt (tInt .i64) (a2.add 2) w) fun x3 =>
  R x3 w
theorem F29_ok {s_1 : (Option Addr)} {w : World} {R : Int → World → Prop} (h : F29 s_1 w R) : cl Tryz.prog 29 [.pointer (s_1)] (tInt .i64) w R := by
  unfold F29 at h
  refine calls_start 7 Tryz.func29 rfl rfl (Nat.le_of_ble_eq_true rfl) ?_
  refine wp_seq ?_
  refine wp_text [0] rfl ?_
  refine rv 2 rfl rfl rfl (q_assign (v := .int .i64 ((0 : Int))) rfl rfl) ?_
  refine ro_nil ?_
  refine wp_seq ?_
  refine wp_text [0, 1, 2, 3, 4] rfl ?_
  refine rv 3 rfl rfl rfl (q_move (v := .pointer (s_1)) rfl rfl) ?_
  obtain ⟨a2, ha2, h⟩ := h
  refine rv 4 rfl rfl rfl (q_nilCheck (a := a2) rfl (congrArg Value.pointer ha2)) ?_
  refine rv 5 rfl rfl rfl (q_fieldAddr (a := a2) (off := 2) rfl Tryz.underlying95 rfl rfl ok2 (by decide) rfl) ?_
  obtain ⟨x3, hx3, h⟩ := h
  refine rv 6 rfl rfl rfl (q_load (T := (tInt .i64)) (u := x3) (a := (a2.add 2)) rfl ok2 rfl hx3) ?_
  refine rv 2 rfl rfl rfl (q_assign (v := .int .i64 (x3)) rfl rfl) ?_
  refine ro_nil ?_
  refine wp_ret ?_
  exact ret_ok rfl (.cons (.tmp (v := .int .i64 (x3)) rfl) .nil) ⟨x3, rfl, h⟩

-- (*moiety/store.Store).Put
def F30_j2 (t_2 : Int) (t_8 : Int) (a13 : Addr) (c_20 : (Option Addr)) (w21 : World) (K10 : Int → World → Prop) (R : Int → World → Prop) : Prop :=
  ex (RdAt (tInt .i64) (a13.add 1) w21) fun x22 =>
  cl Tryz.prog 52 [.pointer (c_20), .int .i64 (t_2), .int .i64 (x22)] (tInt .i64) w21 fun r24 w23 =>
  K10 ((IntKind.i64.wrap (t_8 + (1 : Int)))) w23
def F30_l1 (t_2 : Int) (l_3 : Slc) (a4 : Addr) (t_8 : Int) (w9 : World) (K10 : Int → World → Prop) (R : Int → World → Prop) : Prop :=
  if (decide (t_8 < (l_3.len : Int))) = true then (
    ex (IxA l_3 2 t_8) fun a11 =>
    ex (RdAt T62 a11 w9) fun x12 =>
    nw 63 T62 Z62 w9 fun a13 w14 =>
    st T62 a13 x12 w14 fun w15 =>
    dr w15 fun w16 =>
    ex (RdAt tMap (a4.add 0) w16) fun x17 =>
    ex (RdAt (tInt .i64) (a13.add 0) w16) fun x18 =>
    ex (MapGet tPtr .i64 x17 x18 w16) fun m19 =>
    if (!(((m19.getD (none : Option Addr), m19.isSome)).2)) = true then (
      cl Tryz.prog 51 [] tPtr w16 fun r26 w25 =>
      dr w25 fun w27 =>
      ex (RdAt tMap (a4.add 0) w27) fun x28 =>
      ex (RdAt (tInt .i64) (a13.add 0) w27) fun x29 =>
      mput tPtr .i64 x28 x29 r26 w27 fun w30 =>
      F30_j2 t_2 t_8 a13 r26 w30 K10 R
    ) else (
      F30_j2 t_2 t_8 a13 (((m19.getD (none : Option Addr), m19.isSome)).1) w16 K10 R
    )
  ) else (
    R (0 : Int) w9
  )
def F30 (s_1 : (Option Addr)) (t_2 : Int) (l_3 : Slc) (w : World) (R : Int → World → Prop) : Prop :=
  if ((decide (t_2 < (1 : Int))) || (decide (t_2 > (1125899906842624 : Int)))) = true then (
    R (120 : Int) w
  ) else (
    ex (NC s_1) fun a4 =>
    ex (RdAt (tInt .i64) (a4.add 1) w) fun x5 =>
    if (decide (t_2 ≤ x5)) = true then (
      R (121 : Int) w
    ) else (
      cl Tryz.prog 50 [.pointer (s_1), .int .i64 (t_2), tSlc.enc (l_3)] (tInt .i64) w fun r7 w6 =>
      if (r7 != (0 : Int)) = true then (
        R r7 w6
      ) else (
        lp (fun (s : Int) w K => F30_l1 t_2 l_3 a4 s w K R) ((0 : Int)) w6
      )
    )
  )
theorem F30_ok {s_1 : (Option Addr)} {t_2 : Int} {l_3 : Slc} {w : World} {R : Int → World → Prop} (h : F30 s_1 t_2 l_3 w R) : cl Tryz.prog 30 [.pointer (s_1), .int .i64 (t_2), tSlc.enc (l_3)] (tInt .i64) w R := by
  unfold F30 at h
  refine calls_start 65 Tryz.func30 rfl rfl (Nat.le_of_ble_eq_true rfl) ?_
  refine wp_seq ?_
  refine wp_text [0] rfl ?_
  refine rv 6 rfl rfl rfl (q_assign (v := .int .i64 ((0 : Int))) rfl rfl) ?_
  refine ro_nil ?_
  refine wp_seq ?_
  refine wp_block ?_
  refine wp_seq ?_
  refine wp_text [0, 1, 2, 3, 4, 5, 6] rfl ?_
  refine rv 13 rfl rfl rfl (q_move (v := .int .i64 (t_2)) rfl rfl) ?_
  refine rv 14 rfl rfl rfl (q_lss (a := t_2) (b := (1 : Int)) rfl rfl rfl) ?_
  refine rv 15 rfl rfl rfl (q_move (v := .bool ((decide (t_2 < (1 : Int))))) rfl rfl) ?_
  refine ro_gval (g := (!(decide (t_2 < (1 : Int))))) (d := (some 16)) rfl (.no 2 15 true (decide (t_2 < (1 : Int))) rfl rfl rfl rfl) rfl (fun hg => q_move (v := .int .i64 (t_2)) rfl rfl) ?_
  refine ro_gval (g := (!(decide (t_2 < (1 : Int))))) (d := (some 17)) rfl (.no 2 15 true (decide (t_2 < (1 : Int))) rfl rfl rfl rfl) rfl (fun hg => q_gtr (k := .i64) (a := t_2) (b := (1125899906842624 : Int)) rfl (gvb_yes hg) rfl) ?_
  refine rv 18 rfl rfl rfl (q_pickGF (a := (decide (t_2 < (1 : Int)))) (c := (decide (t_2 > (1125899906842624 : Int)))) rfl rfl rfl rfl) ?_
  refine rv 12 rfl rfl rfl (q_assign (v := .bool (((decide (t_2 < (1 : Int))) || (decide (t_2 > (1125899906842624 : Int)))))) rfl rfl) ?_
  refine ro_nil ?_
  refine wp_if (b := ((decide (t_2 < (1 : Int))) || (decide (t_2 > (1125899906842624 : Int))))) rfl h (fun hb35 h => ?_) (fun hb35 h => ?_)
  · refine wp_seq ?_
    refine wp_text [0] rfl ?_
    refine rv 6 rfl rfl rfl (q_assign (v := .int .i64 ((120 : Int))) rfl rfl) ?_
    refine ro_nil ?_
    refine wp_ret ?_
    exact ret_ok rfl (.cons (.tmp (v := .int .i64 ((120 : Int))) rfl) .nil) ⟨(120 : Int), rfl, h⟩
  · refine wp_seq ?_
    refine wp_text [0, 1, 2, 3, 4, 5, 6] rfl ?_
    refine rv 20 rfl rfl rfl (q_move (v := .int .i64 (t_2)) rfl rfl) ?_
    refine rv 21 rfl rfl rfl (q_move (v := .pointer (s_1)) rfl rfl) ?_
    obtain ⟨a4, ha4, h⟩ := h
    refine rv 22 rfl rfl rfl (q_nilCheck (a := a4) rfl (congrArg Value.pointer ha4)) ?_
    refine rv 23 rfl rfl rfl (q_fieldAddr (a := a4) (off := 1) rfl Tryz.underlying95 rfl rfl ok2 (by decide) rfl) ?_
    obtain ⟨x5, hx5, h⟩ := h
    refine rv 24 rfl rfl rfl (q_load (T := (tInt .i64)) (u := x5) (a := (a4.add 1)) rfl ok2 rfl hx5) ?_
    refine rv 25 rfl rfl rfl (q_leq (a := t_2) (b := x5) rfl rfl rfl) ?_
    refine rv 19 rfl rfl rfl (q_assign (v := .bool ((decide (t_2 ≤ x5)))) rfl rfl) ?_
    refine ro_nil ?_
    refine wp_if (b := (decide (t_2 ≤ x5))) rfl h (fun hb34 h => ?_) (fun hb34 h => ?_)
    · refine wp_seq ?_
      refine wp_text [0] rfl ?_
      refine rv 6 rfl rfl rfl (q_assign (v := .int .i64 ((121 : Int))) rfl rfl) ?_
      refine ro_nil ?_
      refine wp_ret ?_
      exact ret_ok rfl (.cons (.tmp (v := .int .i64 ((121 : Int))) rfl) .nil) ⟨(121 : Int), rfl, h⟩
    · refine wp_skip ?_
      refine wp_seq ?_
      refine wp_seq ?_
      refine wp_text [0, 1, 2, 3, 4] rfl ?_
      refine rv 26 rfl rfl rfl (q_move (v := .pointer (s_1)) rfl rfl) ?_
      refine rv 27 rfl rfl rfl (q_move (v := .int .i64 (t_2)) rfl rfl) ?_
      refine rv 28 rfl rfl rfl (q_move (v := tSlc.enc (l_3)) rfl rfl) ?_
      refine ro_wp rfl (.free rfl) (wp_cl (d := (some 29)) rfl (q_call (k := 50) (l := [.pointer (s_1), .int .i64 (t_2), tSlc.enc (l_3)]) rfl ent50 rfl) h ?_)
      intro r7 w6 h
      refine rv 7 rfl rfl rfl (q_assign (v := .int .i64 (r7)) rfl rfl) ?_
      refine ro_nil ?_
      refine wp_seq ?_
      refine wp_text [0, 1] rfl ?_
      refine rv 30 rfl rfl rfl (q_move (v := .int .i64 (r7)) rfl rfl) ?_
      refine rv 31 rfl rfl rfl (q_neq (a := r7) (b := (0 : Int)) rfl rfl rfl) ?_
      refine ro_nil ?_
      refine wp_if (b := (r7 != (0 : Int))) rfl h (fun hb33 h => ?_) (fun hb33 h => ?_)
      · refine wp_seq ?_
        refine wp_text [0, 1] rfl ?_
        refine rv 32 rfl rfl rfl (q_move (v := .int .i64 (r7)) rfl rfl) ?_
        refine rv 6 rfl rfl rfl (q_assign (v := .int .i64 (r7)) rfl rfl) ?_
        refine ro_nil ?_
        refine wp_ret ?_
        exact ret_ok rfl (.cons (.tmp (v := .int .i64 (r7)) rfl) .nil) ⟨r7, rfl, h⟩
      · refine wp_skip ?_
        refine wp_seq ?_
        refine wp_seq ?_
        refine wp_text [0, 1, 2] rfl ?_
        refine rv 33 rfl rfl rfl (q_move (v := tSlc.enc (l_3)) rfl rfl) ?_
        refine rv 34 rfl rfl rfl (q_len (s := l_3) rfl Tryz.underlying36 rfl) ?_
        refine rv 35 rfl rfl rfl (q_move (v := .int .i64 ((0 : Int))) rfl rfl) ?_
        refine ro_nil ?_
        refine wp_block ?_
        refine loop_at (σ := Int) (fr := fun g (s : Int) => upd (upd (upd (upd (upd (g) 0 (.pointer (s_1))) 1 (.int .i64 (t_2))) 33 (tSlc.enc (l_3))) 34 (.int .i64 ((l_3.len : Int)))) 35 (.int .i64 (s))) (s0 := ((0 : Int))) (upd_step (upd_step (upd_step (upd_step (upd_step rfl rfl) rfl) rfl) rfl) rfl) h ?_
        rintro t_8 g w9 K10 h
        unfold F30_l1 at h
        refine wp_seq ?_
        refine wp_text [0] rfl ?_
        refine rv 36 rfl rfl rfl (q_lss (a := t_8) (b := (l_3.len : Int)) rfl rfl rfl) ?_
        refine ro_nil ?_
        refine wp_seq ?_
        refine wp_if (b := (decide (t_8 < (l_3.len : Int)))) rfl h (fun hb32 h => ?_) (fun hb32 h => ?_)
        · refine wp_skip ?_
          refine wp_seq ?_
          refine wp_block ?_
          refine wp_seq ?_
          refine wp_text [0, 1, 2, 3] rfl ?_
          obtain ⟨a11, ha11, h⟩ := h
          refine rv 37 rfl rfl rfl (q_indexAddr (s := l_3) (k := .i64) (i := t_8) rfl Tryz.underlying36 ok63 rfl rfl ha11) ?_
          obtain ⟨x12, hx12, h⟩ := h
          refine rv 38 rfl rfl rfl (q_load (T := T62) (u := x12) (a := a11) rfl ok63 rfl hx12) ?_
          obtain ⟨a13, w14, ha13, hw14, h⟩ := nw_open h
          refine rv 9 rfl rfl rfl (q_alloc (u := Z62) rfl ok63 inf63 ha13 hw14) ?_
          obtain ⟨w15, hw15, hrw15, h⟩ := st_open h
          refine ro_skip (d := none) rfl (.free rfl) rfl (q_store (T := T62) (u := x12) (a := a13) rfl ok63 rfl rfl hrw15 hw15) ?_
          refine ro_nil ?_
          refine wp_seq ?_
          obtain ⟨w16, hw16, h⟩ := dr_open h
          refine wp_drawn 12 mixed rfl (by kernel_rfl) (by intro c a d v w h; cases d <;> exact h) hw16 (fun hD => ?_)
          refine rp 0 40 hD rfl rfl rfl (fun _ => q_move (v := .pointer (s_1)) rfl rfl) ?_
          refine rp 1 41 hD rfl rfl rfl (fun _ => q_nilCheck (a := a4) rfl (congrArg Value.pointer ha4)) ?_
          refine rp 2 42 hD rfl rfl rfl (fun _ => q_fieldAddr (a := a4) (off := 0) rfl Tryz.underlying95 rfl rfl ok93 (by decide) rfl) ?_
          refine rp 4 44 hD rfl rfl rfl (fun _ => q_fieldAddr (a := a13) (off := 0) rfl Tryz.underlying63 rfl rfl ok3 (by decide) rfl) ?_
          obtain ⟨x17, hx17, h⟩ := h
          refine rd_read (i := 3) (d := (some 43)) (fun W => (RdAt tMap (a4.add 0) W) x17) hD (by kernel_rfl) (by kernel_rfl) rfl (.free rfl) rfl (fun W hr => q_load (T := tMap) (u := x17) (a := (a4.add 0)) rfl ok93 rfl hr) hx17 ?_
          obtain ⟨x18, hx18, h⟩ := h
          refine rd_read (i := 5) (d := (some 45)) (fun W => (RdAt (tInt .i64) (a13.add 0) W) x18) hD (by kernel_rfl) (by kernel_rfl) rfl (.free rfl) rfl (fun W hr => q_load (T := (tInt .i64)) (u := x18) (a := (a13.add 0)) rfl ok3 rfl hr) hx18 ?_
          obtain ⟨m19, hm19, h⟩ := h
          refine rd_read (i := 6) (d := (some 46)) (fun W => (MapGet tPtr .i64 x17 x18 W) m19) hD (by kernel_rfl) (by kernel_rfl) rfl (.free rfl) rfl (fun W hr => q_lookup2 (T := tPtr) (r := x17) (key := x18) (u := m19) (z := (none : Option Addr)) rfl Tryz.underlying93 Tryz.underlying3 (inf97) rfl rfl hr) hm19 ?_
          refine rp 7 39 hD rfl rfl rfl (fun _ => q_move (v := (tTup2 tPtr tBool).enc (((m19.getD (none : Option Addr), m19.isSome)))) rfl rfl) ?_
          refine rp 8 47 hD rfl rfl rfl (fun _ => q_extract (vs := #[.pointer (((m19.getD (none : Option Addr), m19.isSome)).1), .bool (((m19.getD (none : Option Addr), m19.isSome)).2)]) (v := .pointer (((m19.getD (none : Option Addr), m19.isSome)).1)) rfl rfl rfl) ?_
          refine rp 9 48 hD rfl rfl rfl (fun _ => q_extract (vs := #[.pointer (((m19.getD (none : Option Addr), m19.isSome)).1), .bool (((m19.getD (none : Option Addr), m19.isSome)).2)]) (v := .bool (((m19.getD (none : Option Addr), m19.isSome)).2)) rfl rfl rfl) ?_
          refine rp 10 10 hD rfl rfl rfl (fun _ => q_assign (v := .pointer (((m19.getD (none : Option Addr), m19.isSome)).1)) rfl rfl) ?_
          refine rp 11 11 hD rfl rfl rfl (fun _ => q_assign (v := .bool (((m19.getD (none : Option Addr), m19.isSome)).2)) rfl rfl) ?_
          refine rd_nil (by kernel_rfl) ?_
          refine seq_join (σ := (Option Addr)) (J := fun (s : (Option Addr)) w => F30_j2 t_2 t_8 a13 s w K10 R) (fr := fun g (s : (Option Addr)) => upd (upd (upd (upd (upd (upd (upd (g) 0 (.pointer (s_1))) 1 (.int .i64 (t_2))) 9 (.pointer (some a13))) 33 (tSlc.enc (l_3))) 34 (.int .i64 ((l_3.len : Int)))) 35 (.int .i64 (t_8))) 10 (.pointer (s))) ?_ ?_
          · rintro c_20 g w21 h
            unfold F30_j2 at h
            refine wp_text [0, 1, 2, 3, 4] rfl ?_
            refine rv 59 rfl rfl rfl (q_move (v := .pointer (c_20)) rfl rfl) ?_
            refine rv 60 rfl rfl rfl (q_move (v := .int .i64 (t_2)) rfl rfl) ?_
            refine rv 61 rfl rfl rfl (q_fieldAddr (a := a13) (off := 1) rfl Tryz.underlying63 rfl rfl ok2 (by decide) rfl) ?_
            obtain ⟨x22, hx22, h⟩ := h
            refine rv 62 rfl rfl rfl (q_load (T := (tInt .i64)) (u := x22) (a := (a13.add 1)) rfl ok2 rfl hx22) ?_
            refine ro_wp rfl (.free rfl) (wp_cl (d := (some 63)) rfl (q_call (k := 52) (l := [.pointer (c_20), .int .i64 (t_2), .int .i64 (x22)]) rfl ent52 rfl) h ?_)
            intro r24 w23 h
            refine ro_nil ?_
            refine wp_text [0, 1] rfl ?_
            refine rv 64 rfl rfl rfl (q_add (a := t_8) (b := (1 : Int)) rfl rfl rfl) ?_
            refine rv 35 rfl rfl rfl (q_move (v := .int .i64 ((IntKind.i64.wrap (t_8 + (1 : Int))))) rfl rfl) ?_
            refine ro_nil ?_
            exact ⟨((IntKind.i64.wrap (t_8 + (1 : Int)))), _, arr (upd_step (upd_step (upd_step (upd_step (upd_step rfl rfl) rfl) rfl) rfl) rfl), h⟩
          · refine wp_seq ?_
            refine wp_text [0, 1] rfl ?_
            refine rv 49 rfl rfl rfl (q_move (v := .bool (((m19.getD (none : Option Addr), m19.isSome)).2)) rfl rfl) ?_
            refine rv 50 rfl rfl rfl (q_not (b := ((m19.getD (none : Option Addr), m19.isSome)).2) rfl rfl) ?_
            refine ro_nil ?_
            refine wp_if (b := (!(((m19.getD (none : Option Addr), m19.isSome)).2))) rfl h (fun hb31 h => ?_) (fun hb31 h => ?_)
            · refine wp_seq ?_
              refine wp_text [0, 1] rfl ?_
              refine ro_wp rfl (.free rfl) (wp_cl (d := (some 51)) rfl (q_call (k := 51) (l := []) rfl ent51 rfl) h ?_)
              intro r26 w25 h
              refine rv 10 rfl rfl rfl (q_assign (v := .pointer (r26)) rfl rfl) ?_
              refine ro_nil ?_
              obtain ⟨w27, hw27, h⟩ := dr_open h
              refine wp_drawn 8 mixed rfl (by kernel_rfl) (by intro c a d v w h; cases d <;> exact h) hw27 (fun hD => ?_)
              refine rp 0 52 hD rfl rfl rfl (fun _ => q_move (v := .pointer (s_1)) rfl rfl) ?_
              refine rp 1 53 hD rfl rfl rfl (fun _ => q_nilCheck (a := a4) rfl (congrArg Value.pointer ha4)) ?_
              refine rp 2 54 hD rfl rfl rfl (fun _ => q_fieldAddr (a := a4) (off := 0) rfl Tryz.underlying95 rfl rfl ok93 (by decide) rfl) ?_
              refine rp 4 56 hD rfl rfl rfl (fun _ => q_fieldAddr (a := a13) (off := 0) rfl Tryz.underlying63 rfl rfl ok3 (by decide) rfl) ?_
              refine rp 6 58 hD rfl rfl rfl (fun _ => q_move (v := .pointer (r26)) rfl rfl) ?_
              obtain ⟨x28, hx28, h⟩ := h
              refine rd_read (i := 3) (d := (some 55)) (fun W => (RdAt tMap (a4.add 0) W) x28) hD (by kernel_rfl) (by kernel_rfl) rfl (.free rfl) rfl (fun W hr => q_load (T := tMap) (u := x28) (a := (a4.add 0)) rfl ok93 rfl hr) hx28 ?_
              obtain ⟨x29, hx29, h⟩ := h
              refine rd_read (i := 5) (d := (some 57)) (fun W => (RdAt (tInt .i64) (a13.add 0) W) x29) hD (by kernel_rfl) (by kernel_rfl) rfl (.free rfl) rfl (fun W hr => q_load (T := (tInt .i64)) (u := x29) (a := (a13.add 0)) rfl ok3 rfl hr) hx29 ?_
              refine rd_one (i := 7) (by kernel_rfl) ?_
              refine po_wp rfl (.free rfl) (wp_mput (T := tPtr) (r := x28) (key := x29) (v := r26) (d := none) rfl (.inl rfl) Tryz.underlying93 Tryz.underlying3 rfl rfl rfl h ?_)
              intro w30 h
              refine ⟨(hk_wait (by kernel_rfl) (hk_wait (by kernel_rfl) hk_nil)), ?_⟩
              refine rd_nil (by kernel_rfl) ?_
              exact ⟨(r26), _, arr (upd_step (upd_step (upd_step (upd_step (upd_step (upd_step (upd_step rfl rfl) rfl) rfl) rfl) rfl) rfl) rfl), h⟩
            · refine wp_skip ?_
              exact ⟨(((m19.getD (none : Option Addr), m19.isSome)).1), _, arr (upd_step (upd_step (upd_step (upd_step (upd_step (upd_step (upd_step rfl rfl) rfl) rfl) rfl) rfl) rfl) rfl), h⟩
        · refine wp_exit ?_
          refine wp_seq ?_
          refine wp_text [0] rfl ?_
          refine rv 6 rfl rfl rfl (q_assign (v := .int .i64 ((0 : Int))) rfl rfl) ?_
          refine ro_nil ?_
          refine wp_ret ?_
          exact ret_ok rfl (.cons (.tmp (v := .int .i64 ((0 : Int))) rfl) .nil) ⟨(0 : Int), rfl, h⟩

-- (*moiety/vault.Vault).change
def F31_j1 (l_23 : Slc) (w24 : World) (R : Slc → World → Prop) : Prop :=
  R l_23 w24
def F31 (v_1 : (Option Addr)) (h_2 : S54) (w : World) (R : Slc → World → Prop) : Prop :=
  nw 55 T54 h_2 w fun a3 w4 =>
  ex (RdAt (tInt .i64) ((a3.add 0).add 1) w4) fun x5 =>
  ex (NC v_1) fun a6 =>
  ex (RdAt tPtr ((a6.add 0).add 0) w4) fun x7 =>
  cl Tryz.prog 42 [.pointer (x7), .int .i64 (x5)] (tTup2 T86 tBool) w4 fun r9 w8 =>
  nw 87 T86 Z86 w8 fun a10 w11 =>
  st T86 a10 r9.1 w11 fun w12 =>
  ex (RdAt tBool ((a3.add 0).add 3) w12) fun x13 =>
  if (!x13) = true then (
    ex (RdAt (tInt .i64) (a10.add 1) w12) fun x14 =>
    ex (RdAt (tInt .i64) ((a3.add 0).add 2) w12) fun x15 =>
    nwS 63 T62 [(⟨x5, (IntKind.i64.wrap (x14 + x15))⟩ : S62)] w12 fun a16 w17 =>
    R (⟨some a16, 1, 1⟩ : Slc) w17
  ) else (
    ex (RdAt (tInt .i64) (a10.add 1) w12) fun x18 =>
    ex (RdAt (tInt .i64) ((a3.add 0).add 2) w12) fun x19 =>
    ex (RdAt (tInt .i64) (a3.add 5) w12) fun x20 =>
    nwS 63 T62 [(⟨x5, (IntKind.i64.wrap ((IntKind.i64.wrap (x18 - x19)) - x20))⟩ : S62)] w12 fun a21 w22 =>
    ex (RdAt (tInt .i64) (a3.add 5) w22) fun x25 =>
    if (decide (x25 > (0 : Int))) = true then (
      ex (RdAt tPtr ((a6.add 0).add 0) w22) fun x26 =>
      cl Tryz.prog 42 [.pointer (x26), .int .i64 ((IntKind.i64.wrap ((4096 : Int) + x5)))] (tTup2 T86 tBool) w22 fun r28 w27 =>
      nw 87 T86 Z86 w27 fun a29 w30 =>
      st T86 a29 r28.1 w30 fun w31 =>
      ex (RdAt (tInt .i64) (a29.add 1) w31) fun x32 =>
      ex (RdAt (tInt .i64) (a3.add 5) w31) fun x33 =>
      apl 63 T62 2 16 (⟨some a21, 1, 1⟩ : Slc) [(⟨(IntKind.i64.wrap ((4096 : Int) + x5)), (IntKind.i64.wrap (x32 + x33))⟩ : S62)] w31 fun r37 w36 =>
      F31_j1 r37 w36 R
    ) else (
      F31_j1 (⟨some a21, 1, 1⟩ : Slc) w22 R
    )
  )
theorem F31_ok {v_1 : (Option Addr)} {h_2 : S54} {w : World} {R : Slc → World → Prop} (h : F31 v_1 h_2 w R) : cl Tryz.prog 31 [.pointer (v_1), T54.enc (h_2)] tSlc w R := by
  unfold F31 at h
  refine calls_start 75 Tryz.func31 rfl rfl (Nat.le_of_ble_eq_true rfl) ?_
  refine wp_seq ?_
  refine wp_text [0, 1] rfl ?_
  obtain ⟨a3, w4, ha3, hw4, h⟩ := nw_open h
  refine rv 3 rfl rfl rfl (q_box (u := h_2) rfl ok55 rfl ha3 hw4) ?_
  refine rv 4 rfl rfl rfl (q_assign (v := tSlc.enc ((⟨none, 0, 0⟩ : Slc))) rfl rfl) ?_
  refine ro_nil ?_
  refine wp_seq ?_
  refine wp_text [0, 1, 2, 3] rfl ?_
  refine rv 11 rfl rfl rfl (q_fieldAddr (a := a3) (off := 0) rfl Tryz.underlying55 rfl rfl ok53 (by decide) rfl) ?_
  refine rv 12 rfl rfl rfl (q_fieldAddr (a := (a3.add 0)) (off := 1) rfl Tryz.underlying53 rfl rfl ok3 (by decide) rfl) ?_
  obtain ⟨x5, hx5, h⟩ := h
  refine rv 13 rfl rfl rfl (q_load (T := (tInt .i64)) (u := x5) (a := ((a3.add 0).add 1)) rfl ok3 rfl hx5) ?_
  refine rv 5 rfl rfl rfl (q_assign (v := .int .i64 (x5)) rfl rfl) ?_
  refine ro_nil ?_
  refine wp_seq ?_
  refine wp_text [0, 1, 2, 3, 4, 5, 6, 7, 8, 9, 10, 11, 12] rfl ?_
  refine rv 15 rfl rfl rfl (q_move (v := .pointer (v_1)) rfl rfl) ?_
  obtain ⟨a6, ha6, h⟩ := h
  refine rv 16 rfl rfl rfl (q_nilCheck (a := a6) rfl (congrArg Value.pointer ha6)) ?_
  refine rv 17 rfl rfl rfl (q_fieldAddr (a := a6) (off := 0) rfl Tryz.underlying35 rfl rfl ok30 (by decide) rfl) ?_
  refine rv 18 rfl rfl rfl (q_fieldAddr (a := (a6.add 0)) (off := 0) rfl Tryz.underlying30 rfl rfl ok28 (by decide) rfl) ?_
  obtain ⟨x7, hx7, h⟩ := h
  refine rv 19 rfl rfl rfl (q_load (T := tPtr) (u := x7) (a := ((a6.add 0).add 0)) rfl ok28 rfl hx7) ?_
  refine rv 20 rfl rfl rfl (q_move (v := .int .i64 (x5)) rfl rfl) ?_
  refine ro_wp rfl (.free rfl) (wp_cl (d := (some 21)) rfl (q_call (k := 42) (l := [.pointer (x7), .int .i64 (x5)]) rfl ent42 rfl) h ?_)
  intro r9 w8 h
  refine rv 14 rfl rfl rfl (q_move (v := (tTup2 T86 tBool).enc (r9)) rfl rfl) ?_
  refine rv 22 rfl rfl rfl (q_extract (vs := #[T86.enc (r9.1), .bool (r9.2)]) (v := T86.enc (r9.1)) rfl rfl rfl) ?_
  refine rv 23 rfl rfl rfl (q_extract (vs := #[T86.enc (r9.1), .bool (r9.2)]) (v := .bool (r9.2)) rfl rfl rfl) ?_
  obtain ⟨a10, w11, ha10, hw11, h⟩ := nw_open h
  refine rv 6 rfl rfl rfl (q_alloc (u := Z86) rfl ok87 inf87 ha10 hw11) ?_
  obtain ⟨w12, hw12, hrw12, h⟩ := st_open h
  refine ro_skip (d := none) rfl (.free rfl) rfl (q_store (T := T86) (u := r9.1) (a := a10) rfl ok87 rfl rfl hrw12 hw12) ?_
  refine rv 7 rfl rfl rfl (q_assign (v := .bool (r9.2)) rfl rfl) ?_
  refine ro_nil ?_
  refine wp_seq ?_
  refine wp_seq ?_
  refine wp_text [0, 1, 2, 3] rfl ?_
  refine rv 24 rfl rfl rfl (q_fieldAddr (a := a3) (off := 0) rfl Tryz.underlying55 rfl rfl ok53 (by decide) rfl) ?_
  refine rv 25 rfl rfl rfl (q_fieldAddr (a := (a3.add 0)) (off := 3) rfl Tryz.underlying53 rfl rfl ok4 (by decide) rfl) ?_
  obtain ⟨x13, hx13, h⟩ := h
  refine rv 26 rfl rfl rfl (q_load (T := tBool) (u := x13) (a := ((a3.add 0).add 3)) rfl ok4 rfl hx13) ?_
  refine rv 27 rfl rfl rfl (q_not (b := x13) rfl rfl) ?_
  refine ro_nil ?_
  refine wp_if (b := (!x13)) rfl h (fun hb39 h => ?_) (fun hb39 h => ?_)
  · refine wp_seq ?_
    refine wp_text [0, 1, 2, 3, 4, 5, 6, 7, 8, 9] rfl ?_
    refine rv 28 rfl rfl rfl (q_move (v := .int .i64 (x5)) rfl rfl) ?_
    refine rv 29 rfl rfl rfl (q_fieldAddr (a := a10) (off := 1) rfl Tryz.underlying87 rfl rfl ok2 (by decide) rfl) ?_
    obtain ⟨x14, hx14, h⟩ := h
    refine rv 30 rfl rfl rfl (q_load (T := (tInt .i64)) (u := x14) (a := (a10.add 1)) rfl ok2 rfl hx14) ?_
    refine rv 31 rfl rfl rfl (q_fieldAddr (a := a3) (off := 0) rfl Tryz.underlying55 rfl rfl ok53 (by decide) rfl) ?_
    refine rv 32 rfl rfl rfl (q_fieldAddr (a := (a3.add 0)) (off := 2) rfl Tryz.underlying53 rfl rfl ok2 (by decide) rfl) ?_
    obtain ⟨x15, hx15, h⟩ := h
    refine rv 33 rfl rfl rfl (q_load (T := (tInt .i64)) (u := x15) (a := ((a3.add 0).add 2)) rfl ok2 rfl hx15) ?_
    refine rv 34 rfl rfl rfl (q_add (a := x14) (b := x15) rfl rfl rfl) ?_
    refine rv 35 rfl rfl rfl (q_build63_0_1 (v0 := x5) (v1 := (IntKind.i64.wrap (x14 + x15))) rfl rfl rfl) ?_
    obtain ⟨a16, w17, ha16, hw17, h⟩ := nwS_open h
    refine rv 36 rfl rfl rfl (q_rowOf (T := T62) (xs := [(⟨x5, (IntKind.i64.wrap (x14 + x15))⟩ : S62)]) rfl Tryz.underlying36 ok63 inf63 rfl (by decide) (by decide) rfl ha16 hw17) ?_
    refine rv 4 rfl rfl rfl (q_assign (v := tSlc.enc ((⟨some a16, 1, 1⟩ : Slc))) rfl rfl) ?_
    refine ro_nil ?_
    refine wp_ret ?_
    exact ret_ok rfl (.cons (.tmp (v := tSlc.enc ((⟨some a16, 1, 1⟩ : Slc))) rfl) .nil) ⟨(⟨some a16, 1, 1⟩ : Slc), rfl, h⟩
  · refine wp_skip ?_
    refine wp_seq ?_
    refine wp_text [0, 1, 2, 3, 4, 5, 6, 7, 8, 9, 10, 11, 12] rfl ?_
    refine rv 37 rfl rfl rfl (q_move (v := .int .i64 (x5)) rfl rfl) ?_
    refine rv 38 rfl rfl rfl (q_fieldAddr (a := a10) (off := 1) rfl Tryz.underlying87 rfl rfl ok2 (by decide) rfl) ?_
    obtain ⟨x18, hx18, h⟩ := h
    refine rv 39 rfl rfl rfl (q_load (T := (tInt .i64)) (u := x18) (a := (a10.add 1)) rfl ok2 rfl hx18) ?_
    refine rv 40 rfl rfl rfl (q_fieldAddr (a := a3) (off := 0) rfl Tryz.underlying55 rfl rfl ok53 (by decide) rfl) ?_
    refine rv 41 rfl rfl rfl (q_fieldAddr (a := (a3.add 0)) (off := 2) rfl Tryz.underlying53 rfl rfl ok2 (by decide) rfl) ?_
    obtain ⟨x19, hx19, h⟩ := h
    refine rv 42 rfl rfl rfl (q_load (T := (tInt .i64)) (u := x19) (a := ((a3.add 0).add 2)) rfl ok2 rfl hx19) ?_
    refine rv 43 rfl rfl rfl (q_sub (a := x18) (b := x19) rfl rfl rfl) ?_
    refine rv 44 rfl rfl rfl (q_fieldAddr (a := a3) (off := 5) rfl Tryz.underlying55 rfl rfl ok2 (by decide) rfl) ?_
    obtain ⟨x20, hx20, h⟩ := h
    refine rv 45 rfl rfl rfl (q_load (T := (tInt .i64)) (u := x20) (a := (a3.add 5)) rfl ok2 rfl hx20) ?_
    refine rv 46 rfl rfl rfl (q_sub (a := (IntKind.i64.wrap (x18 - x19))) (b := x20) rfl rfl rfl) ?_
    refine rv 47 rfl rfl rfl (q_build63_0_1 (v0 := x5) (v1 := (IntKind.i64.wrap ((IntKind.i64.wrap (x18 - x19)) - x20))) rfl rfl rfl) ?_
    obtain ⟨a21, w22, ha21, hw22, h⟩ := nwS_open h
    refine rv 48 rfl rfl rfl (q_rowOf (T := T62) (xs := [(⟨x5, (IntKind.i64.wrap ((IntKind.i64.wrap (x18 - x19)) - x20))⟩ : S62)]) rfl Tryz.underlying36 ok63 inf63 rfl (by decide) (by decide) rfl ha21 hw22) ?_
    refine rv 8 rfl rfl rfl (q_assign (v := tSlc.enc ((⟨some a21, 1, 1⟩ : Slc))) rfl rfl) ?_
    refine ro_nil ?_
    refine seq_join (σ := Slc) (J := fun (s : Slc) w => F31_j1 s w R) (fr := fun g (s : Slc) => upd (g) 8 (tSlc.enc (s))) ?_ ?_
    · rintro l_23 g w24 h
      unfold F31_j1 at h
      refine wp_seq ?_
      refine wp_text [0, 1] rfl ?_
      refine rv 74 rfl rfl rfl (q_move (v := tSlc.enc (l_23)) rfl rfl) ?_
      refine rv 4 rfl rfl rfl (q_assign (v := tSlc.enc (l_23)) rfl rfl) ?_
      refine ro_nil ?_
      refine wp_ret ?_
      exact ret_ok rfl (.cons (.tmp (v := tSlc.enc (l_23)) rfl) .nil) ⟨l_23, rfl, h⟩
    · refine wp_seq ?_
      refine wp_text [0, 1, 2] rfl ?_
      refine rv 49 rfl rfl rfl (q_fieldAddr (a := a3) (off := 5) rfl Tryz.underlying55 rfl rfl ok2 (by decide) rfl) ?_
      obtain ⟨x25, hx25, h⟩ := h
      refine rv 50 rfl rfl rfl (q_load (T := (tInt .i64)) (u := x25) (a := (a3.add 5)) rfl ok2 rfl hx25) ?_
      refine rv 51 rfl rfl rfl (q_gtr (a := x25) (b := (0 : Int)) rfl rfl rfl) ?_
      refine ro_nil ?_
      refine wp_if (b := (decide (x25 > (0 : Int)))) rfl h (fun hb38 h => ?_) (fun hb38 h => ?_)
      · refine wp_seq ?_
        refine wp_text [0, 1, 2, 3, 4, 5, 6, 7, 8, 9, 10, 11, 12, 13] rfl ?_
        refine rv 53 rfl rfl rfl (q_move (v := .pointer (v_1)) rfl rfl) ?_
        refine rv 54 rfl rfl rfl (q_nilCheck (a := a6) rfl (congrArg Value.pointer ha6)) ?_
        refine rv 55 rfl rfl rfl (q_fieldAddr (a := a6) (off := 0) rfl Tryz.underlying35 rfl rfl ok30 (by decide) rfl) ?_
        refine rv 56 rfl rfl rfl (q_fieldAddr (a := (a6.add 0)) (off := 0) rfl Tryz.underlying30 rfl rfl ok28 (by decide) rfl) ?_
        obtain ⟨x26, hx26, h⟩ := h
        refine rv 57 rfl rfl rfl (q_load (T := tPtr) (u := x26) (a := ((a6.add 0).add 0)) rfl ok28 rfl hx26) ?_
        refine rv 58 rfl rfl rfl (q_move (v := .int .i64 (x5)) rfl rfl) ?_
        refine rv 59 rfl rfl rfl (q_add (a := (4096 : Int)) (b := x5) rfl rfl rfl) ?_
        refine ro_wp rfl (.free rfl) (wp_cl (d := (some 60)) rfl (q_call (k := 42) (l := [.pointer (x26), .int .i64 ((IntKind.i64.wrap ((4096 : Int) + x5)))]) rfl ent42 rfl) h ?_)
        intro r28 w27 h
        refine rv 52 rfl rfl rfl (q_move (v := (tTup2 T86 tBool).enc (r28)) rfl rfl) ?_
        refine rv 61 rfl rfl rfl (q_extract (vs := #[T86.enc (r28.1), .bool (r28.2)]) (v := T86.enc (r28.1)) rfl rfl rfl) ?_
        refine rv 62 rfl rfl rfl (q_extract (vs := #[T86.enc (r28.1), .bool (r28.2)]) (v := .bool (r28.2)) rfl rfl rfl) ?_
        obtain ⟨a29, w30, ha29, hw30, h⟩ := nw_open h
        refine rv 9 rfl rfl rfl (q_alloc (u := Z86) rfl ok87 inf87 ha29 hw30) ?_
        obtain ⟨w31, hw31, hrw31, h⟩ := st_open h
        refine ro_skip (d := none) rfl (.free rfl) rfl (q_store (T := T86) (u := r28.1) (a := a29) rfl ok87 rfl rfl hrw31 hw31) ?_
        refine rv 10 rfl rfl rfl (q_assign (v := .bool (r28.2)) rfl rfl) ?_
        refine ro_nil ?_
        refine wp_text [0, 1, 2, 3, 4, 5, 6, 7, 8, 9, 10, 11] rfl ?_
        refine rv 63 rfl rfl rfl (q_move (v := tSlc.enc ((⟨some a21, 1, 1⟩ : Slc))) rfl rfl) ?_
        refine rv 64 rfl rfl rfl (q_move (v := .int .i64 (x5)) rfl rfl) ?_
        refine rv 65 rfl rfl rfl (q_add (a := (4096 : Int)) (b := x5) rfl rfl rfl) ?_
        refine rv 66 rfl rfl rfl (q_fieldAddr (a := a29) (off := 1) rfl Tryz.underlying87 rfl rfl ok2 (by decide) rfl) ?_
        obtain ⟨x32, hx32, h⟩ := h
        refine rv 67 rfl rfl rfl (q_load (T := (tInt .i64)) (u := x32) (a := (a29.add 1)) rfl ok2 rfl hx32) ?_
        refine rv 68 rfl rfl rfl (q_fieldAddr (a := a3) (off := 5) rfl Tryz.underlying55 rfl rfl ok2 (by decide) rfl) ?_
        obtain ⟨x33, hx33, h⟩ := h
        refine rv 69 rfl rfl rfl (q_load (T := (tInt .i64)) (u := x33) (a := (a3.add 5)) rfl ok2 rfl hx33) ?_
        refine rv 70 rfl rfl rfl (q_add (a := x32) (b := x33) rfl rfl rfl) ?_
        refine rv 71 rfl rfl rfl (q_build63_0_1 (v0 := (IntKind.i64.wrap ((4096 : Int) + x5))) (v1 := (IntKind.i64.wrap (x32 + x33))) rfl rfl rfl) ?_
        obtain ⟨a34, w35, ha34, hw35, h⟩ := apl_open h
        refine rv 72 rfl rfl rfl (q_rowOf (T := T62) (xs := [(⟨(IntKind.i64.wrap ((4096 : Int) + x5)), (IntKind.i64.wrap (x32 + x33))⟩ : S62)]) rfl Tryz.underlying36 ok63 inf63 rfl (by decide) (by decide) rfl ha34 hw35) ?_
        refine ro_wp rfl (.free rfl) (wp_append (d := (some 73)) (T := T62) rfl rfl Tryz.underlying36 ⟨_, Tryz.underlying36⟩ ok63 inf63 rfl rfl (Nat.lt_of_lt_of_le Nat.zero_lt_one (Nat.le_of_ble_eq_true rfl)) rfl rfl h ?_)
        intro r37 w36 h
        refine rv 8 rfl rfl rfl (q_assign (v := tSlc.enc (r37)) rfl rfl) ?_
        refine ro_nil ?_
        exact ⟨(r37), _, arr (upd_step rfl rfl), h⟩
      · refine wp_skip ?_
        exact ⟨((⟨some a21, 1, 1⟩ : Slc)), _, arr (upd_step rfl rfl), h⟩

-- (*moiety/vault.Vault).free
def F32 (v_1 : (Option Addr)) (h_2 : S54) (w : World) (R : Unit → World → Prop) : Prop :=
  nw 55 T54 h_2 w fun a3 w4 =>
  dr w4 fun w5 =>
  ex (NC v_1) fun a6 =>
  ex (RdAt tMap (a6.add 3) w5) fun x7 =>
  ex (RdAt (tInt .i64) ((a3.add 0).add 0) w5) fun x8 =>
  mdel T54 .i64 x7 x8 w5 fun w9 =>
  dr w9 fun w10 =>
  ex (RdAt tMap (a6.add 4) w10) fun x11 =>
  ex (RdAt (tInt .i64) ((a3.add 0).add 1) w10) fun x12 =>
  mdel (tInt .i64) .i64 x11 x12 w10 fun w13 =>
  R () w13
theorem F32_ok {v_1 : (Option Addr)} {h_2 : S54} {w : World} {R : Unit → World → Prop} (h : F32 v_1 h_2 w R) : cl Tryz.prog 32 [.pointer (v_1), T54.enc (h_2)] tUnit w R := by
  unfold F32 at h
  refine calls_start 18 Tryz.func32 rfl rfl (Nat.le_of_ble_eq_true rfl) ?_
  refine wp_seq ?_
  refine wp_text [0] rfl ?_
  obtain ⟨a3, w4, ha3, hw4, h⟩ := nw_open h
  refine rv 3 rfl rfl rfl (q_box (u := h_2) rfl ok55 rfl ha3 hw4) ?_
  refine ro_nil ?_
  refine wp_seq ?_
  obtain ⟨w5, hw5, h⟩ := dr_open h
  refine wp_drawn 8 mixed rfl (by kernel_rfl) (by intro c a d v w h; cases d <;> exact h) hw5 (fun hD => ?_)
  refine rp 0 4 hD rfl rfl rfl (fun _ => q_move (v := .pointer (v_1)) rfl rfl) ?_
  obtain ⟨a6, ha6, h⟩ := h
  refine rp 1 5 hD rfl rfl rfl (fun _ => q_nilCheck (a := a6) rfl (congrArg Value.pointer ha6)) ?_
  refine rp 2 6 hD rfl rfl rfl (fun _ => q_fieldAddr (a := a6) (off := 3) rfl Tryz.underlying35 rfl rfl ok31 (by decide) rfl) ?_
  refine rp 4 8 hD rfl rfl rfl (fun _ => q_fieldAddr (a := a3) (off := 0) rfl Tryz.underlying55 rfl rfl ok53 (by decide) rfl) ?_
  refine rp 5 9 hD rfl rfl rfl (fun _ => q_fieldAddr (a := (a3.add 0)) (off := 0) rfl Tryz.underlying53 rfl rfl ok3 (by decide) rfl) ?_
  obtain ⟨x7, hx7, h⟩ := h
  refine rd_read (i := 3) (d := (some 7)) (fun W => (RdAt tMap (a6.add 3) W) x7) hD (by kernel_rfl) (by kernel_rfl) rfl (.free rfl) rfl (fun W hr => q_load (T := tMap) (u := x7) (a := (a6.add 3)) rfl ok31 rfl hr) hx7 ?_
  obtain ⟨x8, hx8, h⟩ := h
  refine rd_read (i := 6) (d := (some 10)) (fun W => (RdAt (tInt .i64) ((a3.add 0).add 0) W) x8) hD (by kernel_rfl) (by kernel_rfl) rfl (.free rfl) rfl (fun W hr => q_load (T := (tInt .i64)) (u := x8) (a := ((a3.add 0).add 0)) rfl ok3 rfl hr) hx8 ?_
  refine rd_one (i := 7) (by kernel_rfl) ?_
  refine po_wp rfl (.free rfl) (wp_mdel (T := T54) (r := x7) (key := x8) (d := none) rfl rfl Tryz.underlying31 Tryz.underlying3 rfl rfl h ?_)
  intro w9 h
  refine ⟨(hk_wait (by kernel_rfl) (hk_wait (by kernel_rfl) hk_nil)), ?_⟩
  refine rd_nil (by kernel_rfl) ?_
  obtain ⟨w10, hw10, h⟩ := dr_open h
  refine wp_drawn 8 mixed rfl (by kernel_rfl) (by intro c a d v w h; cases d <;> exact h) hw10 (fun hD => ?_)
  refine rp 0 11 hD rfl rfl rfl (fun _ => q_move (v := .pointer (v_1)) rfl rfl) ?_
  refine rp 1 12 hD rfl rfl rfl (fun _ => q_nilCheck (a := a6) rfl (congrArg Value.pointer ha6)) ?_
  refine rp 2 13 hD rfl rfl rfl (fun _ => q_fieldAddr (a := a6) (off := 4) rfl Tryz.underlying35 rfl rfl ok32 (by decide) rfl) ?_
  refine rp 4 15 hD rfl rfl rfl (fun _ => q_fieldAddr (a := a3) (off := 0) rfl Tryz.underlying55 rfl rfl ok53 (by decide) rfl) ?_
  refine rp 5 16 hD rfl rfl rfl (fun _ => q_fieldAddr (a := (a3.add 0)) (off := 1) rfl Tryz.underlying53 rfl rfl ok3 (by decide) rfl) ?_
  obtain ⟨x11, hx11, h⟩ := h
  refine rd_read (i := 3) (d := (some 14)) (fun W => (RdAt tMap (a6.add 4) W) x11) hD (by kernel_rfl) (by kernel_rfl) rfl (.free rfl) rfl (fun W hr => q_load (T := tMap) (u := x11) (a := (a6.add 4)) rfl ok32 rfl hr) hx11 ?_
  obtain ⟨x12, hx12, h⟩ := h
  refine rd_read (i := 6) (d := (some 17)) (fun W => (RdAt (tInt .i64) ((a3.add 0).add 1) W) x12) hD (by kernel_rfl) (by kernel_rfl) rfl (.free rfl) rfl (fun W hr => q_load (T := (tInt .i64)) (u := x12) (a := ((a3.add 0).add 1)) rfl ok3 rfl hr) hx12 ?_
  refine rd_one (i := 7) (by kernel_rfl) ?_
  refine po_wp rfl (.free rfl) (wp_mdel (T := (tInt .i64)) (r := x11) (key := x12) (d := none) rfl rfl Tryz.underlying32 Tryz.underlying3 rfl rfl h ?_)
  intro w13 h
  refine ⟨(hk_wait (by kernel_rfl) (hk_wait (by kernel_rfl) hk_nil)), ?_⟩
  refine rd_nil (by kernel_rfl) ?_
  exact end_ok rfl .nil ⟨(), rfl, h⟩

-- (*moiety/vault.Vault).met
def F33 (v_1 : (Option Addr)) (t_2 : Int) (w : World) (R : Unit → World → Prop) : Prop :=
  ex (NC v_1) fun a3 =>
  ex (RdAt (tInt .i64) (a3.add 2) w) fun x4 =>
  st (tInt .i64) (a3.add 2) (max x4 t_2) w fun w5 =>
  R () w5
theorem F33_ok {v_1 : (Option Addr)} {t_2 : Int} {w : World} {R : Unit → World → Prop} (h : F33 v_1 t_2 w R) : cl Tryz.prog 33 [.pointer (v_1), .int .i64 (t_2)] tUnit w R := by
  unfold F33 at h
  refine calls_start 13 Tryz.func33 rfl rfl (Nat.le_of_ble_eq_true rfl) ?_
  refine wp_text [0, 1, 2, 3, 4, 5, 6, 7, 8, 9] rfl ?_
  refine rv 4 rfl rfl rfl (q_move (v := .pointer (v_1)) rfl rfl) ?_
  refine rv 5 rfl rfl rfl (q_move (v := .pointer (v_1)) rfl rfl) ?_
  obtain ⟨a3, ha3, h⟩ := h
  refine rv 6 rfl rfl rfl (q_nilCheck (a := a3) rfl (congrArg Value.pointer ha3)) ?_
  refine rv 7 rfl rfl rfl (q_fieldAddr (a := a3) (off := 2) rfl Tryz.underlying35 rfl rfl ok2 (by decide) rfl) ?_
  obtain ⟨x4, hx4, h⟩ := h
  refine rv 8 rfl rfl rfl (q_load (T := (tInt .i64)) (u := x4) (a := (a3.add 2)) rfl ok2 rfl hx4) ?_
  refine rv 9 rfl rfl rfl (q_move (v := .int .i64 (t_2)) rfl rfl) ?_
  refine rv 10 rfl rfl rfl (q_max (a := x4) (b := t_2) rfl rfl rfl) ?_
  refine rv 11 rfl rfl rfl (q_nilCheck (a := a3) rfl (congrArg Value.pointer ha3)) ?_
  refine rv 12 rfl rfl rfl (q_fieldAddr (a := a3) (off := 2) rfl Tryz.underlying35 rfl rfl ok2 (by decide) rfl) ?_
  obtain ⟨w5, hw5, hrw5, h⟩ := st_open h
  refine ro_skip (d := none) rfl (.free rfl) rfl (q_store (T := (tInt .i64)) (u := (max x4 t_2)) (a := (a3.add 2)) rfl ok2 rfl rfl hrw5 hw5) ?_
  refine ro_nil ?_
  exact end_ok rfl .nil ⟨(), rfl, h⟩

-- maps.Keys[map[int]moiety/api.Held,int,moiety/api.Held]
def F35 (m_1 : (Option Nat)) (w : World) (R : Fv → World → Prop) : Prop :=
  nw 31 tMap m_1 w fun a2 w3 =>
  R (Fv.mk (.func 55) (List.toArray []) (List.toArray [.pointer (some a2)])) w3
theorem F35_ok {m_1 : (Option Nat)} {w : World} {R : Fv → World → Prop} (h : F35 m_1 w R) : cl Tryz.prog 35 [.map (m_1)] tFun w R := by
  unfold F35 at h
  refine calls_start 4 Tryz.func35 rfl rfl (Nat.le_of_ble_eq_true rfl) ?_
  refine wp_seq ?_
  refine wp_text [0, 1] rfl ?_
  obtain ⟨a2, w3, ha2, hw3, h⟩ := nw_open h
  refine rv 1 rfl rfl rfl (q_box (u := m_1) rfl ok31 rfl ha2 hw3) ?_
  refine rv 2 rfl rfl rfl (q_assign (v := (Fv.nil).enc) rfl rfl) ?_
  refine ro_nil ?_
  refine wp_seq ?_
  refine wp_text [0, 1] rfl ?_
  refine rv 3 rfl rfl rfl (q_makeFunc (fn := .func 55) (va := []) (vc := [.pointer (some a2)]) rfl rfl rfl) ?_
  refine rv 2 rfl rfl rfl (q_assign (v := ((Fv.mk (.func 55) (List.toArray []) (List.toArray [.pointer (some a2)]))).enc) rfl rfl) ?_
  refine ro_nil ?_
  refine wp_ret ?_
  exact ret_ok rfl (.cons (.tmp (v := ((Fv.mk (.func 55) (List.toArray []) (List.toArray [.pointer (some a2)]))).enc) rfl) .nil) ⟨(Fv.mk (.func 55) (List.toArray []) (List.toArray [.pointer (some a2)])), rfl, h⟩

-- moiety/vault.in
def F36 (t_1 : Int) (w : World) (R : Bool → World → Prop) : Prop :=
  R ((decide (t_1 ≥ (0 : Int))) && (decide (t_1 ≤ (1125899906842624 : Int)))) w
theorem F36_ok {t_1 : Int} {w : World} {R : Bool → World → Prop} (h : F36 t_1 w R) : cl Tryz.prog 36 [.int .i64 (t_1)] tBool w R := by
  unfold F36 at h
  refine calls_start 9 Tryz.func36 rfl rfl (Nat.le_of_ble_eq_true rfl) ?_
  refine wp_seq ?_
  refine wp_text [0] rfl ?_
  refine rv 2 rfl rfl rfl (q_assign (v := .bool (false)) rfl rfl) ?_
  refine ro_nil ?_
  refine wp_seq ?_
  refine wp_text [0, 1, 2, 3, 4, 5, 6] rfl ?_
  refine rv 3 rfl rfl rfl (q_move (v := .int .i64 (t_1)) rfl rfl) ?_
  refine rv 4 rfl rfl rfl (q_geq (a := t_1) (b := (0 : Int)) rfl rfl rfl) ?_
  refine rv 5 rfl rfl rfl (q_move (v := .bool ((decide (t_1 ≥ (0 : Int))))) rfl rfl) ?_
  refine ro_gval (g := (decide (t_1 ≥ (0 : Int)))) (d := (some 6)) rfl (.yes 2 5 true (decide (t_1 ≥ (0 : Int))) rfl rfl rfl rfl) rfl (fun hg => q_move (v := .int .i64 (t_1)) rfl rfl) ?_
  refine ro_gval (g := (decide (t_1 ≥ (0 : Int)))) (d := (some 7)) rfl (.yes 2 5 true (decide (t_1 ≥ (0 : Int))) rfl rfl rfl rfl) rfl (fun hg => q_leq (k := .i64) (a := t_1) (b := (1125899906842624 : Int)) rfl (gvb_yes hg) rfl) ?_
  refine rv 8 rfl rfl rfl (q_pickGT (a := (decide (t_1 ≥ (0 : Int)))) (b := (decide (t_1 ≤ (1125899906842624 : Int)))) rfl rfl rfl rfl) ?_
  refine rv 2 rfl rfl rfl (q_assign (v := .bool (((decide (t_1 ≥ (0 : Int))) && (decide (t_1 ≤ (1125899906842624 : Int)))))) rfl rfl) ?_
  refine ro_nil ?_
  refine wp_ret ?_
  exact ret_ok rfl (.cons (.tmp (v := .bool (((decide (t_1 ≥ (0 : Int))) && (decide (t_1 ≤ (1125899906842624 : Int)))))) rfl) .nil) ⟨((decide (t_1 ≥ (0 : Int))) && (decide (t_1 ≤ (1125899906842624 : Int)))), rfl, h⟩

-- (*moiety/store.Store).Close
def F37 (s_1 : (Option Addr)) (t_2 : Int) (w : World) (R : Int → World → Prop) : Prop :=
  cl Tryz.prog 56 [.int .i64 (t_2)] tBool w fun r4 w3 =>
  if (!r4) = true then (
    R (120 : Int) w3
  ) else (
    ex (NC s_1) fun a5 =>
    ex (RdAt (tInt .i64) (a5.add 1) w3) fun x6 =>
    st (tInt .i64) (a5.add 1) (max x6 t_2) w3 fun w7 =>
    R (0 : Int) w7
  )
theorem F37_ok {s_1 : (Option Addr)} {t_2 : Int} {w : World} {R : Int → World → Prop} (h : F37 s_1 t_2 w R) : cl Tryz.prog 37 [.pointer (s_1), .int .i64 (t_2)] (tInt .i64) w R := by
  unfold F37 at h
  refine calls_start 17 Tryz.func37 rfl rfl (Nat.le_of_ble_eq_true rfl) ?_
  refine wp_seq ?_
  refine wp_text [0] rfl ?_
  refine rv 4 rfl rfl rfl (q_assign (v := .int .i64 ((0 : Int))) rfl rfl) ?_
  refine ro_nil ?_
  refine wp_seq ?_
  refine wp_seq ?_
  refine wp_text [0, 1, 2] rfl ?_
  refine rv 5 rfl rfl rfl (q_move (v := .int .i64 (t_2)) rfl rfl) ?_
  refine ro_wp rfl (.free rfl) (wp_cl (d := (some 6)) rfl (q_call (k := 56) (l := [.int .i64 (t_2)]) rfl ent56 rfl) h ?_)
  intro r4 w3 h
  refine rv 7 rfl rfl rfl (q_not (b := r4) rfl rfl) ?_
  refine ro_nil ?_
  refine wp_if (b := (!r4)) rfl h (fun hb8 h => ?_) (fun hb8 h => ?_)
  · refine wp_seq ?_
    refine wp_text [0] rfl ?_
    refine rv 4 rfl rfl rfl (q_assign (v := .int .i64 ((120 : Int))) rfl rfl) ?_
    refine ro_nil ?_
    refine wp_ret ?_
    exact ret_ok rfl (.cons (.tmp (v := .int .i64 ((120 : Int))) rfl) .nil) ⟨(120 : Int), rfl, h⟩
  · refine wp_skip ?_
    refine wp_seq ?_
    refine wp_text [0, 1, 2, 3, 4, 5, 6, 7, 8, 9] rfl ?_
    refine rv 8 rfl rfl rfl (q_move (v := .pointer (s_1)) rfl rfl) ?_
    refine rv 9 rfl rfl rfl (q_move (v := .pointer (s_1)) rfl rfl) ?_
    obtain ⟨a5, ha5, h⟩ := h
    refine rv 10 rfl rfl rfl (q_nilCheck (a := a5) rfl (congrArg Value.pointer ha5)) ?_
    refine rv 11 rfl rfl rfl (q_fieldAddr (a := a5) (off := 1) rfl Tryz.underlying95 rfl rfl ok2 (by decide) rfl) ?_
    obtain ⟨x6, hx6, h⟩ := h
    refine rv 12 rfl rfl rfl (q_load (T := (tInt .i64)) (u := x6) (a := (a5.add 1)) rfl ok2 rfl hx6) ?_
    refine rv 13 rfl rfl rfl (q_move (v := .int .i64 (t_2)) rfl rfl) ?_
    refine rv 14 rfl rfl rfl (q_max (a := x6) (b := t_2) rfl rfl rfl) ?_
    refine rv 15 rfl rfl rfl (q_nilCheck (a := a5) rfl (congrArg Value.pointer ha5)) ?_
    refine rv 16 rfl rfl rfl (q_fieldAddr (a := a5) (off := 1) rfl Tryz.underlying95 rfl rfl ok2 (by decide) rfl) ?_
    obtain ⟨w7, hw7, hrw7, h⟩ := st_open h
    refine ro_skip (d := none) rfl (.free rfl) rfl (q_store (T := (tInt .i64)) (u := (max x6 t_2)) (a := (a5.add 1)) rfl ok2 rfl rfl hrw7 hw7) ?_
    refine ro_nil ?_
    refine wp_seq ?_
    refine wp_text [0] rfl ?_
    refine rv 4 rfl rfl rfl (q_assign (v := .int .i64 ((0 : Int))) rfl rfl) ?_
    refine ro_nil ?_
    refine wp_ret ?_
    exact ret_ok rfl (.cons (.tmp (v := .int .i64 ((0 : Int))) rfl) .nil) ⟨(0 : Int), rfl, h⟩

-- (*moiety/vault.Vault).next
def F38 (v_1 : (Option Addr)) (t_2 : Int) (w : World) (R : Int → World → Prop) : Prop :=
  if ((decide (t_2 < (1 : Int))) || (decide (t_2 > (1125899906842624 : Int)))) = true then (
    R (151 : Int) w
  ) else (
    ex (NC v_1) fun a3 =>
    ex (RdAt (tInt .i64) (a3.add 2) w) fun x4 =>
    if (decide (t_2 ≤ x4)) = true then (
      R (152 : Int) w
    ) else (
      R (0 : Int) w
    )
  )
theorem F38_ok {v_1 : (Option Addr)} {t_2 : Int} {w : World} {R : Int → World → Prop} (h : F38 v_1 t_2 w R) : cl Tryz.prog 38 [.pointer (v_1), .int .i64 (t_2)] (tInt .i64) w R := by
  unfold F38 at h
  refine calls_start 19 Tryz.func38 rfl rfl (Nat.le_of_ble_eq_true rfl) ?_
  refine wp_seq ?_
  refine wp_text [0] rfl ?_
  refine rv 4 rfl rfl rfl (q_assign (v := .int .i64 ((0 : Int))) rfl rfl) ?_
  refine ro_nil ?_
  refine wp_seq ?_
  refine wp_block ?_
  refine wp_seq ?_
  refine wp_text [0, 1, 2, 3, 4, 5, 6] rfl ?_
  refine rv 6 rfl rfl rfl (q_move (v := .int .i64 (t_2)) rfl rfl) ?_
  refine rv 7 rfl rfl rfl (q_lss (a := t_2) (b := (1 : Int)) rfl rfl rfl) ?_
  refine rv 8 rfl rfl rfl (q_move (v := .bool ((decide (t_2 < (1 : Int))))) rfl rfl) ?_
  refine ro_gval (g := (!(decide (t_2 < (1 : Int))))) (d := (some 9)) rfl (.no 2 8 true (decide (t_2 < (1 : Int))) rfl rfl rfl rfl) rfl (fun hg => q_move (v := .int .i64 (t_2)) rfl rfl) ?_
  refine ro_gval (g := (!(decide (t_2 < (1 : Int))))) (d := (some 10)) rfl (.no 2 8 true (decide (t_2 < (1 : Int))) rfl rfl rfl rfl) rfl (fun hg => q_gtr (k := .i64) (a := t_2) (b := (1125899906842624 : Int)) rfl (gvb_yes hg) rfl) ?_
  refine rv 11 rfl rfl rfl (q_pickGF (a := (decide (t_2 < (1 : Int)))) (c := (decide (t_2 > (1125899906842624 : Int)))) rfl rfl rfl rfl) ?_
  refine rv 5 rfl rfl rfl (q_assign (v := .bool (((decide (t_2 < (1 : Int))) || (decide (t_2 > (1125899906842624 : Int)))))) rfl rfl) ?_
  refine ro_nil ?_
  refine wp_if (b := ((decide (t_2 < (1 : Int))) || (decide (t_2 > (1125899906842624 : Int))))) rfl h (fun hb6 h => ?_) (fun hb6 h => ?_)
  · refine wp_seq ?_
    refine wp_text [0] rfl ?_
    refine rv 4 rfl rfl rfl (q_assign (v := .int .i64 ((151 : Int))) rfl rfl) ?_
    refine ro_nil ?_
    refine wp_ret ?_
    exact ret_ok rfl (.cons (.tmp (v := .int .i64 ((151 : Int))) rfl) .nil) ⟨(151 : Int), rfl, h⟩
  · refine wp_seq ?_
    refine wp_text [0, 1, 2, 3, 4, 5, 6] rfl ?_
    refine rv 13 rfl rfl rfl (q_move (v := .int .i64 (t_2)) rfl rfl) ?_
    refine rv 14 rfl rfl rfl (q_move (v := .pointer (v_1)) rfl rfl) ?_
    obtain ⟨a3, ha3, h⟩ := h
    refine rv 15 rfl rfl rfl (q_nilCheck (a := a3) rfl (congrArg Value.pointer ha3)) ?_
    refine rv 16 rfl rfl rfl (q_fieldAddr (a := a3) (off := 2) rfl Tryz.underlying35 rfl rfl ok2 (by decide) rfl) ?_
    obtain ⟨x4, hx4, h⟩ := h
    refine rv 17 rfl rfl rfl (q_load (T := (tInt .i64)) (u := x4) (a := (a3.add 2)) rfl ok2 rfl hx4) ?_
    refine rv 18 rfl rfl rfl (q_leq (a := t_2) (b := x4) rfl rfl rfl) ?_
    refine rv 12 rfl rfl rfl (q_assign (v := .bool ((decide (t_2 ≤ x4)))) rfl rfl) ?_
    refine ro_nil ?_
    refine wp_if (b := (decide (t_2 ≤ x4))) rfl h (fun hb5 h => ?_) (fun hb5 h => ?_)
    · refine wp_seq ?_
      refine wp_text [0] rfl ?_
      refine rv 4 rfl rfl rfl (q_assign (v := .int .i64 ((152 : Int))) rfl rfl) ?_
      refine ro_nil ?_
      refine wp_ret ?_
      exact ret_ok rfl (.cons (.tmp (v := .int .i64 ((152 : Int))) rfl) .nil) ⟨(152 : Int), rfl, h⟩
    · refine wp_skip ?_
      refine wp_seq ?_
      refine wp_text [0] rfl ?_
      refine rv 4 rfl rfl rfl (q_assign (v := .int .i64 ((0 : Int))) rfl rfl) ?_
      refine ro_nil ?_
      refine wp_ret ?_
      exact ret_ok rfl (.cons (.tmp (v := .int .i64 ((0 : Int))) rfl) .nil) ⟨(0 : Int), rfl, h⟩

end Go.Proofs.YtpdaapffkdejoaaGreat.Cf
