/- Characteristic formulae of Go functions, and that they are. Printed by gen.py (own tool). -/
import Derived.Test.YtdgdkbfigndndaaTy
namespace Go.Proofs.Ytdgdkbfigndndaa.Cf
open Go
set_option maxRecDepth 100000
set_option maxHeartbeats 1000000
set_option linter.unusedVariables false
set_option linter.unusedSimpArgs false

-- (*moiety/store.Store).Put
def F23_j2 (t_2 : Int) (t_8 : Int) (a13 : Addr) (c_20 : (Option Addr)) (w21 : World) (K10 : Int → World → Prop) (R : Int → World → Prop) : Prop :=
  ex (RdAt (tInt .i64) (a13.add 1) w21) fun x22 =>
  cl Try.prog 42 [.pointer (c_20), .int .i64 (t_2), .int .i64 (x22)] (tInt .i64) w21 fun r24 w23 =>
  K10 ((IntKind.i64.wrap (t_8 + (1 : Int)))) w23
def F23_l1 (t_2 : Int) (l_3 : Slc) (a4 : Addr) (t_8 : Int) (w9 : World) (K10 : Int → World → Prop) (R : Int → World → Prop) : Prop :=
  if (decide (t_8 < (l_3.len : Int))) = true then (
    ex (IxA l_3 2 t_8) fun a11 =>
    ex (RdAt T57 a11 w9) fun x12 =>
    nw 58 T57 Z57 w9 fun a13 w14 =>
    st T57 a13 x12 w14 fun w15 =>
    dr w15 fun w16 =>
    ex (RdAt tMap (a4.add 0) w16) fun x17 =>
    ex (RdAt (tInt .i64) (a13.add 0) w16) fun x18 =>
    ex (MapGet tPtr .i64 x17 x18 w16) fun m19 =>
    if (!(((m19.getD (none : Option Addr), m19.isSome)).2)) = true then (
      cl Try.prog 41 [] tPtr w16 fun r26 w25 =>
      dr w25 fun w27 =>
      ex (RdAt tMap (a4.add 0) w27) fun x28 =>
      ex (RdAt (tInt .i64) (a13.add 0) w27) fun x29 =>
      mput tPtr .i64 x28 x29 r26 w27 fun w30 =>
      F23_j2 t_2 t_8 a13 r26 w30 K10 R
    ) else (
      F23_j2 t_2 t_8 a13 (((m19.getD (none : Option Addr), m19.isSome)).1) w16 K10 R
    )
  ) else (
    R (0 : Int) w9
  )
def F23 (s_1 : (Option Addr)) (t_2 : Int) (l_3 : Slc) (w : World) (R : Int → World → Prop) : Prop :=
  if ((decide (t_2 < (1 : Int))) || (decide (t_2 > (1125899906842624 : Int)))) = true then (
    R (120 : Int) w
  ) else (
    ex (NC s_1) fun a4 =>
    ex (RdAt (tInt .i64) (a4.add 1) w) fun x5 =>
    if (decide (t_2 ≤ x5)) = true then (
      R (121 : Int) w
    ) else (
      cl Try.prog 40 [.pointer (s_1), .int .i64 (t_2), tSlc.enc (l_3)] (tInt .i64) w fun r7 w6 =>
      if (r7 != (0 : Int)) = true then (
        R r7 w6
      ) else (
        lp (fun (s : Int) w K => F23_l1 t_2 l_3 a4 s w K R) ((0 : Int)) w6
      )
    )
  )
theorem F23_ok {s_1 : (Option Addr)} {t_2 : Int} {l_3 : Slc} {w : World} {R : Int → World → Prop} (h : F23 s_1 t_2 l_3 w R) : cl Try.prog 23 [.pointer (s_1), .int .i64 (t_2), tSlc.enc (l_3)] (tInt .i64) w R := by
  unfold F23 at h
  refine calls_start 65 Try.func23 rfl rfl (Nat.le_of_ble_eq_true rfl) ?_
  refine wp_seq ?_
  refine wp_text [0] rfl ?_
  refine ro_val (d := (some 6)) rfl (.free rfl) rfl (q_assign (v := .int .i64 ((0 : Int))) rfl rfl) ?_
  refine ro_nil ?_
  refine wp_seq ?_
  refine wp_block ?_
  refine wp_seq ?_
  refine wp_text [0, 1, 2, 3, 4, 5, 6] rfl ?_
  refine ro_val (d := (some 13)) rfl (.free rfl) rfl (q_move (v := .int .i64 (t_2)) rfl rfl) ?_
  refine ro_val (d := (some 14)) rfl (.free rfl) rfl (q_lss (a := t_2) (b := (1 : Int)) rfl rfl rfl) ?_
  refine ro_val (d := (some 15)) rfl (.free rfl) rfl (q_move (v := .bool ((decide (t_2 < (1 : Int))))) rfl rfl) ?_
  refine ro_gval (g := (!(decide (t_2 < (1 : Int))))) (d := (some 16)) rfl (.no 2 15 true (decide (t_2 < (1 : Int))) rfl rfl rfl rfl) rfl (fun hg => q_move (v := .int .i64 (t_2)) rfl rfl) ?_
  refine ro_gval (g := (!(decide (t_2 < (1 : Int))))) (d := (some 17)) rfl (.no 2 15 true (decide (t_2 < (1 : Int))) rfl rfl rfl rfl) rfl (fun hg => q_gtr (a := t_2) (b := (1125899906842624 : Int)) rfl (gvb_yes hg) rfl) ?_
  refine ro_val (d := (some 18)) rfl (.free rfl) rfl (q_pickGF (a := (decide (t_2 < (1 : Int)))) (c := (decide (t_2 > (1125899906842624 : Int)))) rfl rfl rfl rfl) ?_
  refine ro_val (d := (some 12)) rfl (.free rfl) rfl (q_assign (v := .bool (((decide (t_2 < (1 : Int))) || (decide (t_2 > (1125899906842624 : Int)))))) rfl rfl) ?_
  refine ro_nil ?_
  refine wp_if (b := ((decide (t_2 < (1 : Int))) || (decide (t_2 > (1125899906842624 : Int))))) rfl h (fun hb35 h => ?_) (fun hb35 h => ?_)
  · refine wp_seq ?_
    refine wp_text [0] rfl ?_
    refine ro_val (d := (some 6)) rfl (.free rfl) rfl (q_assign (v := .int .i64 ((120 : Int))) rfl rfl) ?_
    refine ro_nil ?_
    refine wp_ret ?_
    exact ret_ok rfl (.cons (.tmp (v := .int .i64 ((120 : Int))) rfl) .nil) ⟨(120 : Int), rfl, h⟩
  · refine wp_seq ?_
    refine wp_text [0, 1, 2, 3, 4, 5, 6] rfl ?_
    refine ro_val (d := (some 20)) rfl (.free rfl) rfl (q_move (v := .int .i64 (t_2)) rfl rfl) ?_
    refine ro_val (d := (some 21)) rfl (.free rfl) rfl (q_move (v := .pointer (s_1)) rfl rfl) ?_
    obtain ⟨a4, ha4, h⟩ := h
    refine ro_val (d := (some 22)) rfl (.free rfl) rfl (q_nilCheck (a := a4) rfl (congrArg Value.pointer ha4)) ?_
    refine ro_val (d := (some 23)) rfl (.free rfl) rfl (q_fieldAddr (a := a4) (off := 1) rfl Try.underlying67 rfl rfl ok2 (by decide) rfl) ?_
    obtain ⟨x5, hx5, h⟩ := h
    refine ro_val (d := (some 24)) rfl (.free rfl) rfl (q_load (T := (tInt .i64)) (u := x5) (a := (a4.add 1)) rfl ok2 rfl hx5) ?_
    refine ro_val (d := (some 25)) rfl (.free rfl) rfl (q_leq (a := t_2) (b := x5) rfl rfl rfl) ?_
    refine ro_val (d := (some 19)) rfl (.free rfl) rfl (q_assign (v := .bool ((decide (t_2 ≤ x5)))) rfl rfl) ?_
    refine ro_nil ?_
    refine wp_if (b := (decide (t_2 ≤ x5))) rfl h (fun hb34 h => ?_) (fun hb34 h => ?_)
    · refine wp_seq ?_
      refine wp_text [0] rfl ?_
      refine ro_val (d := (some 6)) rfl (.free rfl) rfl (q_assign (v := .int .i64 ((121 : Int))) rfl rfl) ?_
      refine ro_nil ?_
      refine wp_ret ?_
      exact ret_ok rfl (.cons (.tmp (v := .int .i64 ((121 : Int))) rfl) .nil) ⟨(121 : Int), rfl, h⟩
    · refine wp_skip ?_
      refine wp_seq ?_
      refine wp_seq ?_
      refine wp_text [0, 1, 2, 3, 4] rfl ?_
      refine ro_val (d := (some 26)) rfl (.free rfl) rfl (q_move (v := .pointer (s_1)) rfl rfl) ?_
      refine ro_val (d := (some 27)) rfl (.free rfl) rfl (q_move (v := .int .i64 (t_2)) rfl rfl) ?_
      refine ro_val (d := (some 28)) rfl (.free rfl) rfl (q_move (v := tSlc.enc (l_3)) rfl rfl) ?_
      refine ro_wp rfl (.free rfl) (wp_cl (d := (some 29)) rfl (q_call (k := 40) (l := [.pointer (s_1), .int .i64 (t_2), tSlc.enc (l_3)]) rfl ent40 rfl) h ?_)
      intro r7 w6 h
      refine ro_val (d := (some 7)) rfl (.free rfl) rfl (q_assign (v := .int .i64 (r7)) rfl rfl) ?_
      refine ro_nil ?_
      refine wp_seq ?_
      refine wp_text [0, 1] rfl ?_
      refine ro_val (d := (some 30)) rfl (.free rfl) rfl (q_move (v := .int .i64 (r7)) rfl rfl) ?_
      refine ro_val (d := (some 31)) rfl (.free rfl) rfl (q_neq (a := r7) (b := (0 : Int)) rfl rfl rfl) ?_
      refine ro_nil ?_
      refine wp_if (b := (r7 != (0 : Int))) rfl h (fun hb33 h => ?_) (fun hb33 h => ?_)
      · refine wp_seq ?_
        refine wp_text [0, 1] rfl ?_
        refine ro_val (d := (some 32)) rfl (.free rfl) rfl (q_move (v := .int .i64 (r7)) rfl rfl) ?_
        refine ro_val (d := (some 6)) rfl (.free rfl) rfl (q_assign (v := .int .i64 (r7)) rfl rfl) ?_
        refine ro_nil ?_
        refine wp_ret ?_
        exact ret_ok rfl (.cons (.tmp (v := .int .i64 (r7)) rfl) .nil) ⟨r7, rfl, h⟩
      · refine wp_skip ?_
        refine wp_seq ?_
        refine wp_seq ?_
        refine wp_text [0, 1, 2] rfl ?_
        refine ro_val (d := (some 33)) rfl (.free rfl) rfl (q_move (v := tSlc.enc (l_3)) rfl rfl) ?_
        refine ro_val (d := (some 34)) rfl (.free rfl) rfl (q_len (s := l_3) rfl Try.underlying31 rfl) ?_
        refine ro_val (d := (some 35)) rfl (.free rfl) rfl (q_move (v := .int .i64 ((0 : Int))) rfl rfl) ?_
        refine ro_nil ?_
        refine wp_block ?_
        refine loop_at (σ := Int) (fr := fun g (s : Int) => upd (upd (upd (upd (upd (g) 0 (.pointer (s_1))) 1 (.int .i64 (t_2))) 33 (tSlc.enc (l_3))) 34 (.int .i64 ((l_3.len : Int)))) 35 (.int .i64 (s))) (s0 := ((0 : Int))) (upd_step (upd_step (upd_step (upd_step (upd_step rfl rfl) rfl) rfl) rfl) rfl) h ?_
        rintro t_8 g w9 K10 h
        unfold F23_l1 at h
        refine wp_seq ?_
        refine wp_text [0] rfl ?_
        refine ro_val (d := (some 36)) rfl (.free rfl) rfl (q_lss (a := t_8) (b := (l_3.len : Int)) rfl rfl rfl) ?_
        refine ro_nil ?_
        refine wp_seq ?_
        refine wp_if (b := (decide (t_8 < (l_3.len : Int)))) rfl h (fun hb32 h => ?_) (fun hb32 h => ?_)
        · refine wp_skip ?_
          refine wp_seq ?_
          refine wp_block ?_
          refine wp_seq ?_
          refine wp_text [0, 1, 2, 3] rfl ?_
          obtain ⟨a11, ha11, h⟩ := h
          refine ro_val (d := (some 37)) rfl (.free rfl) rfl (q_indexAddr (s := l_3) (i := t_8) rfl Try.underlying31 ok58 rfl rfl ha11) ?_
          obtain ⟨x12, hx12, h⟩ := h
          refine ro_val (d := (some 38)) rfl (.free rfl) rfl (q_load (T := T57) (u := x12) (a := a11) rfl ok58 rfl hx12) ?_
          obtain ⟨a13, w14, ha13, hw14, h⟩ := nw_open h
          refine ro_val (d := (some 9)) rfl (.free rfl) rfl (q_alloc (u := Z57) rfl ok58 inf58 ha13 hw14) ?_
          obtain ⟨w15, hw15, hrw15, h⟩ := st_open h
          refine ro_skip (d := none) rfl (.free rfl) rfl (q_store (T := T57) (u := x12) (a := a13) rfl ok58 rfl rfl hrw15 hw15) ?_
          refine ro_nil ?_
          refine wp_seq ?_
          obtain ⟨w16, hw16, h⟩ := dr_open h
          refine wp_drawn 12 mixed rfl (by kernel_rfl) (by intro c a d v w h; cases d <;> exact h) hw16 (fun hD => ?_)
          refine rd_pure (i := 0) (d := (some 40)) hD (by kernel_rfl) (by kernel_rfl) rfl (.free rfl) rfl (fun _ => q_move (v := .pointer (s_1)) rfl rfl) ?_
          refine rd_pure (i := 1) (d := (some 41)) hD (by kernel_rfl) (by kernel_rfl) rfl (.free rfl) rfl (fun _ => q_nilCheck (a := a4) rfl (congrArg Value.pointer ha4)) ?_
          refine rd_pure (i := 2) (d := (some 42)) hD (by kernel_rfl) (by kernel_rfl) rfl (.free rfl) rfl (fun _ => q_fieldAddr (a := a4) (off := 0) rfl Try.underlying67 rfl rfl ok65 (by decide) rfl) ?_
          refine rd_pure (i := 4) (d := (some 44)) hD (by kernel_rfl) (by kernel_rfl) rfl (.free rfl) rfl (fun _ => q_fieldAddr (a := a13) (off := 0) rfl Try.underlying58 rfl rfl ok3 (by decide) rfl) ?_
          obtain ⟨x17, hx17, h⟩ := h
          refine rd_read (i := 3) (d := (some 43)) (fun W => (RdAt tMap (a4.add 0) W) x17) hD (by kernel_rfl) (by kernel_rfl) rfl (.free rfl) rfl (fun W hr => q_load (T := tMap) (u := x17) (a := (a4.add 0)) rfl ok65 rfl hr) hx17 ?_
          obtain ⟨x18, hx18, h⟩ := h
          refine rd_read (i := 5) (d := (some 45)) (fun W => (RdAt (tInt .i64) (a13.add 0) W) x18) hD (by kernel_rfl) (by kernel_rfl) rfl (.free rfl) rfl (fun W hr => q_load (T := (tInt .i64)) (u := x18) (a := (a13.add 0)) rfl ok3 rfl hr) hx18 ?_
          obtain ⟨m19, hm19, h⟩ := h
          refine rd_read (i := 6) (d := (some 46)) (fun W => (MapGet tPtr .i64 x17 x18 W) m19) hD (by kernel_rfl) (by kernel_rfl) rfl (.free rfl) rfl (fun W hr => q_lookup2 (T := tPtr) (r := x17) (key := x18) (u := m19) (z := (none : Option Addr)) rfl Try.underlying65 Try.underlying3 (inf72) rfl rfl hr) hm19 ?_
          refine rd_pure (i := 7) (d := (some 39)) hD (by kernel_rfl) (by kernel_rfl) rfl (.free rfl) rfl (fun _ => q_move (v := (tTup2 tPtr tBool).enc (((m19.getD (none : Option Addr), m19.isSome)))) rfl rfl) ?_
          refine rd_pure (i := 8) (d := (some 47)) hD (by kernel_rfl) (by kernel_rfl) rfl (.free rfl) rfl (fun _ => q_extract (vs := #[.pointer (((m19.getD (none : Option Addr), m19.isSome)).1), .bool (((m19.getD (none : Option Addr), m19.isSome)).2)]) (v := .pointer (((m19.getD (none : Option Addr), m19.isSome)).1)) rfl rfl rfl) ?_
          refine rd_pure (i := 9) (d := (some 48)) hD (by kernel_rfl) (by kernel_rfl) rfl (.free rfl) rfl (fun _ => q_extract (vs := #[.pointer (((m19.getD (none : Option Addr), m19.isSome)).1), .bool (((m19.getD (none : Option Addr), m19.isSome)).2)]) (v := .bool (((m19.getD (none : Option Addr), m19.isSome)).2)) rfl rfl rfl) ?_
          refine rd_pure (i := 10) (d := (some 10)) hD (by kernel_rfl) (by kernel_rfl) rfl (.free rfl) rfl (fun _ => q_assign (v := .pointer (((m19.getD (none : Option Addr), m19.isSome)).1)) rfl rfl) ?_
          refine rd_pure (i := 11) (d := (some 11)) hD (by kernel_rfl) (by kernel_rfl) rfl (.free rfl) rfl (fun _ => q_assign (v := .bool (((m19.getD (none : Option Addr), m19.isSome)).2)) rfl rfl) ?_
          refine rd_nil (by kernel_rfl) ?_
          refine seq_join (σ := (Option Addr)) (J := fun (s : (Option Addr)) w => F23_j2 t_2 t_8 a13 s w K10 R) (fr := fun g (s : (Option Addr)) => upd (upd (upd (upd (upd (upd (upd (g) 0 (.pointer (s_1))) 1 (.int .i64 (t_2))) 9 (.pointer (some a13))) 33 (tSlc.enc (l_3))) 34 (.int .i64 ((l_3.len : Int)))) 35 (.int .i64 (t_8))) 10 (.pointer (s))) ?_ ?_
          · rintro c_20 g w21 h
            unfold F23_j2 at h
            refine wp_text [0, 1, 2, 3, 4] rfl ?_
            refine ro_val (d := (some 59)) rfl (.free rfl) rfl (q_move (v := .pointer (c_20)) rfl rfl) ?_
            refine ro_val (d := (some 60)) rfl (.free rfl) rfl (q_move (v := .int .i64 (t_2)) rfl rfl) ?_
            refine ro_val (d := (some 61)) rfl (.free rfl) rfl (q_fieldAddr (a := a13) (off := 1) rfl Try.underlying58 rfl rfl ok2 (by decide) rfl) ?_
            obtain ⟨x22, hx22, h⟩ := h
            refine ro_val (d := (some 62)) rfl (.free rfl) rfl (q_load (T := (tInt .i64)) (u := x22) (a := (a13.add 1)) rfl ok2 rfl hx22) ?_
            refine ro_wp rfl (.free rfl) (wp_cl (d := (some 63)) rfl (q_call (k := 42) (l := [.pointer (c_20), .int .i64 (t_2), .int .i64 (x22)]) rfl ent42 rfl) h ?_)
            intro r24 w23 h
            refine ro_nil ?_
            refine wp_text [0, 1] rfl ?_
            refine ro_val (d := (some 64)) rfl (.free rfl) rfl (q_add (a := t_8) (b := (1 : Int)) rfl rfl rfl) ?_
            refine ro_val (d := (some 35)) rfl (.free rfl) rfl (q_move (v := .int .i64 ((IntKind.i64.wrap (t_8 + (1 : Int))))) rfl rfl) ?_
            refine ro_nil ?_
            exact ⟨((IntKind.i64.wrap (t_8 + (1 : Int)))), _, arr (upd_step (upd_step (upd_step (upd_step (upd_step rfl rfl) rfl) rfl) rfl) rfl), h⟩
          · refine wp_seq ?_
            refine wp_text [0, 1] rfl ?_
            refine ro_val (d := (some 49)) rfl (.free rfl) rfl (q_move (v := .bool (((m19.getD (none : Option Addr), m19.isSome)).2)) rfl rfl) ?_
            refine ro_val (d := (some 50)) rfl (.free rfl) rfl (q_not (b := ((m19.getD (none : Option Addr), m19.isSome)).2) rfl rfl) ?_
            refine ro_nil ?_
            refine wp_if (b := (!(((m19.getD (none : Option Addr), m19.isSome)).2))) rfl h (fun hb31 h => ?_) (fun hb31 h => ?_)
            · refine wp_seq ?_
              refine wp_text [0, 1] rfl ?_
              refine ro_wp rfl (.free rfl) (wp_cl (d := (some 51)) rfl (q_call (k := 41) (l := []) rfl ent41 rfl) h ?_)
              intro r26 w25 h
              refine ro_val (d := (some 10)) rfl (.free rfl) rfl (q_assign (v := .pointer (r26)) rfl rfl) ?_
              refine ro_nil ?_
              obtain ⟨w27, hw27, h⟩ := dr_open h
              refine wp_drawn 8 mixed rfl (by kernel_rfl) (by intro c a d v w h; cases d <;> exact h) hw27 (fun hD => ?_)
              refine rd_pure (i := 0) (d := (some 52)) hD (by kernel_rfl) (by kernel_rfl) rfl (.free rfl) rfl (fun _ => q_move (v := .pointer (s_1)) rfl rfl) ?_
              refine rd_pure (i := 1) (d := (some 53)) hD (by kernel_rfl) (by kernel_rfl) rfl (.free rfl) rfl (fun _ => q_nilCheck (a := a4) rfl (congrArg Value.pointer ha4)) ?_
              refine rd_pure (i := 2) (d := (some 54)) hD (by kernel_rfl) (by kernel_rfl) rfl (.free rfl) rfl (fun _ => q_fieldAddr (a := a4) (off := 0) rfl Try.underlying67 rfl rfl ok65 (by decide) rfl) ?_
              refine rd_pure (i := 4) (d := (some 56)) hD (by kernel_rfl) (by kernel_rfl) rfl (.free rfl) rfl (fun _ => q_fieldAddr (a := a13) (off := 0) rfl Try.underlying58 rfl rfl ok3 (by decide) rfl) ?_
              refine rd_pure (i := 6) (d := (some 58)) hD (by kernel_rfl) (by kernel_rfl) rfl (.free rfl) rfl (fun _ => q_move (v := .pointer (r26)) rfl rfl) ?_
              obtain ⟨x28, hx28, h⟩ := h
              refine rd_read (i := 3) (d := (some 55)) (fun W => (RdAt tMap (a4.add 0) W) x28) hD (by kernel_rfl) (by kernel_rfl) rfl (.free rfl) rfl (fun W hr => q_load (T := tMap) (u := x28) (a := (a4.add 0)) rfl ok65 rfl hr) hx28 ?_
              obtain ⟨x29, hx29, h⟩ := h
              refine rd_read (i := 5) (d := (some 57)) (fun W => (RdAt (tInt .i64) (a13.add 0) W) x29) hD (by kernel_rfl) (by kernel_rfl) rfl (.free rfl) rfl (fun W hr => q_load (T := (tInt .i64)) (u := x29) (a := (a13.add 0)) rfl ok3 rfl hr) hx29 ?_
              refine rd_one (i := 7) (by kernel_rfl) ?_
              refine po_wp rfl (.free rfl) (wp_mput (T := tPtr) (r := x28) (key := x29) (v := r26) (d := none) rfl (.inl rfl) Try.underlying65 Try.underlying3 rfl rfl rfl h ?_)
              intro w30 h
              refine ⟨(hk_wait (by kernel_rfl) (hk_wait (by kernel_rfl) hk_nil)), ?_⟩
              refine rd_nil (by kernel_rfl) ?_
              exact ⟨(r26), _, arr (upd_step (upd_step (upd_step (upd_step (upd_step (upd_step (upd_step rfl rfl) rfl) rfl) rfl) rfl) rfl) rfl), h⟩
            · refine wp_skip ?_
              exact ⟨(((m19.getD (none : Option Addr), m19.isSome)).1), _, arr (upd_step (upd_step (upd_step (upd_step (upd_step (upd_step (upd_step rfl rfl) rfl) rfl) rfl) rfl) rfl) rfl), h⟩
        · refine wp_exit ?_
          refine wp_seq ?_
          refine wp_text [0] rfl ?_
          refine ro_val (d := (some 6)) rfl (.free rfl) rfl (q_assign (v := .int .i64 ((0 : Int))) rfl rfl) ?_
          refine ro_nil ?_
          refine wp_ret ?_
          exact ret_ok rfl (.cons (.tmp (v := .int .i64 ((0 : Int))) rfl) .nil) ⟨(0 : Int), rfl, h⟩

-- (*moiety/store.Store).Close
def F24 (s_1 : (Option Addr)) (t_2 : Int) (w : World) (R : Int → World → Prop) : Prop :=
  cl Try.prog 43 [.int .i64 (t_2)] tBool w fun r4 w3 =>
  if (!r4) = true then (
    R (120 : Int) w3
  ) else (
    ex (NC s_1) fun a5 =>
    ex (RdAt (tInt .i64) (a5.add 1) w3) fun x6 =>
    st (tInt .i64) (a5.add 1) (max x6 t_2) w3 fun w7 =>
    R (0 : Int) w7
  )
theorem F24_ok {s_1 : (Option Addr)} {t_2 : Int} {w : World} {R : Int → World → Prop} (h : F24 s_1 t_2 w R) : cl Try.prog 24 [.pointer (s_1), .int .i64 (t_2)] (tInt .i64) w R := by
  unfold F24 at h
  refine calls_start 17 Try.func24 rfl rfl (Nat.le_of_ble_eq_true rfl) ?_
  refine wp_seq ?_
  refine wp_text [0] rfl ?_
  refine ro_val (d := (some 4)) rfl (.free rfl) rfl (q_assign (v := .int .i64 ((0 : Int))) rfl rfl) ?_
  refine ro_nil ?_
  refine wp_seq ?_
  refine wp_seq ?_
  refine wp_text [0, 1, 2] rfl ?_
  refine ro_val (d := (some 5)) rfl (.free rfl) rfl (q_move (v := .int .i64 (t_2)) rfl rfl) ?_
  refine ro_wp rfl (.free rfl) (wp_cl (d := (some 6)) rfl (q_call (k := 43) (l := [.int .i64 (t_2)]) rfl ent43 rfl) h ?_)
  intro r4 w3 h
  refine ro_val (d := (some 7)) rfl (.free rfl) rfl (q_not (b := r4) rfl rfl) ?_
  refine ro_nil ?_
  refine wp_if (b := (!r4)) rfl h (fun hb8 h => ?_) (fun hb8 h => ?_)
  · refine wp_seq ?_
    refine wp_text [0] rfl ?_
    refine ro_val (d := (some 4)) rfl (.free rfl) rfl (q_assign (v := .int .i64 ((120 : Int))) rfl rfl) ?_
    refine ro_nil ?_
    refine wp_ret ?_
    exact ret_ok rfl (.cons (.tmp (v := .int .i64 ((120 : Int))) rfl) .nil) ⟨(120 : Int), rfl, h⟩
  · refine wp_skip ?_
    refine wp_seq ?_
    refine wp_text [0, 1, 2, 3, 4, 5, 6, 7, 8, 9] rfl ?_
    refine ro_val (d := (some 8)) rfl (.free rfl) rfl (q_move (v := .pointer (s_1)) rfl rfl) ?_
    refine ro_val (d := (some 9)) rfl (.free rfl) rfl (q_move (v := .pointer (s_1)) rfl rfl) ?_
    obtain ⟨a5, ha5, h⟩ := h
    refine ro_val (d := (some 10)) rfl (.free rfl) rfl (q_nilCheck (a := a5) rfl (congrArg Value.pointer ha5)) ?_
    refine ro_val (d := (some 11)) rfl (.free rfl) rfl (q_fieldAddr (a := a5) (off := 1) rfl Try.underlying67 rfl rfl ok2 (by decide) rfl) ?_
    obtain ⟨x6, hx6, h⟩ := h
    refine ro_val (d := (some 12)) rfl (.free rfl) rfl (q_load (T := (tInt .i64)) (u := x6) (a := (a5.add 1)) rfl ok2 rfl hx6) ?_
    refine ro_val (d := (some 13)) rfl (.free rfl) rfl (q_move (v := .int .i64 (t_2)) rfl rfl) ?_
    refine ro_val (d := (some 14)) rfl (.free rfl) rfl (q_max (a := x6) (b := t_2) rfl rfl rfl) ?_
    refine ro_val (d := (some 15)) rfl (.free rfl) rfl (q_nilCheck (a := a5) rfl (congrArg Value.pointer ha5)) ?_
    refine ro_val (d := (some 16)) rfl (.free rfl) rfl (q_fieldAddr (a := a5) (off := 1) rfl Try.underlying67 rfl rfl ok2 (by decide) rfl) ?_
    obtain ⟨w7, hw7, hrw7, h⟩ := st_open h
    refine ro_skip (d := none) rfl (.free rfl) rfl (q_store (T := (tInt .i64)) (u := (max x6 t_2)) (a := (a5.add 1)) rfl ok2 rfl rfl hrw7 hw7) ?_
    refine ro_nil ?_
    refine wp_seq ?_
    refine wp_text [0] rfl ?_
    refine ro_val (d := (some 4)) rfl (.free rfl) rfl (q_assign (v := .int .i64 ((0 : Int))) rfl rfl) ?_
    refine ro_nil ?_
    refine wp_ret ?_
    exact ret_ok rfl (.cons (.tmp (v := .int .i64 ((0 : Int))) rfl) .nil) ⟨(0 : Int), rfl, h⟩

-- (*moiety/store.Store).Get
def F25 (s_1 : (Option Addr)) (key_2 : Int) (at_3 : Int) (w : World) (R : (S35 × Int) → World → Prop) : Prop :=
  nw 36 T35 Z35 w fun a4 w5 =>
  cl Try.prog 44 [.int .i64 (key_2)] tBool w5 fun r7 w6 =>
  if (!r7) = true then (
    st T35 a4 (⟨(0 : Int), (0 : Int)⟩ : S35) w6 fun w8 =>
    ex (RdAt T35 a4 w8) fun x9 =>
    R (x9, (123 : Int)) w8
  ) else (
    cl Try.prog 33 [.pointer (s_1), .int .i64 (at_3)] (tInt .i64) w6 fun r11 w10 =>
    if (r11 != (0 : Int)) = true then (
      st T35 a4 (⟨(0 : Int), (0 : Int)⟩ : S35) w10 fun w12 =>
      ex (RdAt T35 a4 w12) fun x13 =>
      R (x13, r11) w12
    ) else (
      ex (NC s_1) fun a14 =>
      ex (RdAt tMap (a14.add 0) w10) fun x15 =>
      ex (MapGet tPtr .i64 x15 key_2 w10) fun m16 =>
      if (!(((m16.getD (none : Option Addr), m16.isSome)).2)) = true then (
        st T35 a4 (⟨(0 : Int), (0 : Int)⟩ : S35) w10 fun w17 =>
        ex (RdAt T35 a4 w17) fun x18 =>
        R (x18, (127 : Int)) w17
      ) else (
        cl Try.prog 36 [.pointer (((m16.getD (none : Option Addr), m16.isSome)).1), .int .i64 (at_3)] (tTup2 T35 (tInt .i64)) w10 fun r20 w19 =>
        nw 36 T35 Z35 w19 fun a21 w22 =>
        st T35 a21 r20.1 w22 fun w23 =>
        if (r20.2 != (0 : Int)) = true then (
          st T35 a4 (⟨(0 : Int), (0 : Int)⟩ : S35) w23 fun w24 =>
          ex (RdAt T35 a4 w24) fun x25 =>
          R (x25, (127 : Int)) w24
        ) else (
          ex (RdAt T35 a21 w23) fun x26 =>
          st T35 a4 x26 w23 fun w27 =>
          ex (RdAt T35 a4 w27) fun x28 =>
          R (x28, (0 : Int)) w27
        )
      )
    )
  )
theorem F25_ok {s_1 : (Option Addr)} {key_2 : Int} {at_3 : Int} {w : World} {R : (S35 × Int) → World → Prop} (h : F25 s_1 key_2 at_3 w R) : cl Try.prog 25 [.pointer (s_1), .int .i64 (key_2), .int .i64 (at_3)] (tTup2 T35 (tInt .i64)) w R := by
  unfold F25 at h
  refine calls_start 46 Try.func25 rfl rfl (Nat.le_of_ble_eq_true rfl) ?_
  refine wp_seq ?_
  refine wp_text [0, 1] rfl ?_
  obtain ⟨a4, w5, ha4, hw5, h⟩ := nw_open h
  refine ro_val (d := (some 6)) rfl (.free rfl) rfl (q_alloc (u := Z35) rfl ok36 inf36 ha4 hw5) ?_
  refine ro_val (d := (some 7)) rfl (.free rfl) rfl (q_assign (v := .int .i64 ((0 : Int))) rfl rfl) ?_
  refine ro_nil ?_
  refine wp_seq ?_
  refine wp_seq ?_
  refine wp_text [0, 1, 2] rfl ?_
  refine ro_val (d := (some 13)) rfl (.free rfl) rfl (q_move (v := .int .i64 (key_2)) rfl rfl) ?_
  refine ro_wp rfl (.free rfl) (wp_cl (d := (some 14)) rfl (q_call (k := 44) (l := [.int .i64 (key_2)]) rfl ent44 rfl) h ?_)
  intro r7 w6 h
  refine ro_val (d := (some 15)) rfl (.free rfl) rfl (q_not (b := r7) rfl rfl) ?_
  refine ro_nil ?_
  refine wp_if (b := (!r7)) rfl h (fun hb32 h => ?_) (fun hb32 h => ?_)
  · refine wp_seq ?_
    refine wp_text [0, 1, 2] rfl ?_
    refine ro_val (d := (some 16)) rfl (.free rfl) rfl (q_build36_  rfl ) ?_
    obtain ⟨w8, hw8, hrw8, h⟩ := st_open h
    refine ro_skip (d := none) rfl (.free rfl) rfl (q_store (T := T35) (u := (⟨(0 : Int), (0 : Int)⟩ : S35)) (a := a4) rfl ok36 rfl rfl hrw8 hw8) ?_
    refine ro_val (d := (some 7)) rfl (.free rfl) rfl (q_assign (v := .int .i64 ((123 : Int))) rfl rfl) ?_
    refine ro_nil ?_
    refine wp_ret ?_
    obtain ⟨x9, hx9, h⟩ := h
    exact ret_ok rfl (.cons (.cell (T := T35) (u := x9) (a := a4) ok36 rfl hx9) (.cons (.tmp (v := .int .i64 ((123 : Int))) rfl) .nil)) ⟨(x9, (123 : Int)), rfl, h⟩
  · refine wp_skip ?_
    refine wp_seq ?_
    refine wp_seq ?_
    refine wp_text [0, 1, 2, 3] rfl ?_
    refine ro_val (d := (some 17)) rfl (.free rfl) rfl (q_move (v := .pointer (s_1)) rfl rfl) ?_
    refine ro_val (d := (some 18)) rfl (.free rfl) rfl (q_move (v := .int .i64 (at_3)) rfl rfl) ?_
    refine ro_wp rfl (.free rfl) (wp_cl (d := (some 19)) rfl (q_call (k := 33) (l := [.pointer (s_1), .int .i64 (at_3)]) rfl ent33 rfl) h ?_)
    intro r11 w10 h
    refine ro_val (d := (some 8)) rfl (.free rfl) rfl (q_assign (v := .int .i64 (r11)) rfl rfl) ?_
    refine ro_nil ?_
    refine wp_seq ?_
    refine wp_text [0, 1] rfl ?_
    refine ro_val (d := (some 20)) rfl (.free rfl) rfl (q_move (v := .int .i64 (r11)) rfl rfl) ?_
    refine ro_val (d := (some 21)) rfl (.free rfl) rfl (q_neq (a := r11) (b := (0 : Int)) rfl rfl rfl) ?_
    refine ro_nil ?_
    refine wp_if (b := (r11 != (0 : Int))) rfl h (fun hb31 h => ?_) (fun hb31 h => ?_)
    · refine wp_seq ?_
      refine wp_text [0, 1, 2, 3] rfl ?_
      refine ro_val (d := (some 22)) rfl (.free rfl) rfl (q_build36_  rfl ) ?_
      refine ro_val (d := (some 23)) rfl (.free rfl) rfl (q_move (v := .int .i64 (r11)) rfl rfl) ?_
      obtain ⟨w12, hw12, hrw12, h⟩ := st_open h
      refine ro_skip (d := none) rfl (.free rfl) rfl (q_store (T := T35) (u := (⟨(0 : Int), (0 : Int)⟩ : S35)) (a := a4) rfl ok36 rfl rfl hrw12 hw12) ?_
      refine ro_val (d := (some 7)) rfl (.free rfl) rfl (q_assign (v := .int .i64 (r11)) rfl rfl) ?_
      refine ro_nil ?_
      refine wp_ret ?_
      obtain ⟨x13, hx13, h⟩ := h
      exact ret_ok rfl (.cons (.cell (T := T35) (u := x13) (a := a4) ok36 rfl hx13) (.cons (.tmp (v := .int .i64 (r11)) rfl) .nil)) ⟨(x13, r11), rfl, h⟩
    · refine wp_skip ?_
      refine wp_seq ?_
      refine wp_text [0, 1, 2, 3, 4, 5, 6, 7, 8, 9, 10] rfl ?_
      refine ro_val (d := (some 25)) rfl (.free rfl) rfl (q_move (v := .pointer (s_1)) rfl rfl) ?_
      obtain ⟨a14, ha14, h⟩ := h
      refine ro_val (d := (some 26)) rfl (.free rfl) rfl (q_nilCheck (a := a14) rfl (congrArg Value.pointer ha14)) ?_
      refine ro_val (d := (some 27)) rfl (.free rfl) rfl (q_fieldAddr (a := a14) (off := 0) rfl Try.underlying67 rfl rfl ok65 (by decide) rfl) ?_
      obtain ⟨x15, hx15, h⟩ := h
      refine ro_val (d := (some 28)) rfl (.free rfl) rfl (q_load (T := tMap) (u := x15) (a := (a14.add 0)) rfl ok65 rfl hx15) ?_
      refine ro_val (d := (some 29)) rfl (.free rfl) rfl (q_move (v := .int .i64 (key_2)) rfl rfl) ?_
      obtain ⟨m16, hm16, h⟩ := h
      refine ro_val (d := (some 30)) rfl (.free rfl) rfl (q_lookup2 (T := tPtr) (r := x15) (key := key_2) (u := m16) (z := (none : Option Addr)) rfl Try.underlying65 Try.underlying3 (inf72) rfl rfl hm16) ?_
      refine ro_val (d := (some 24)) rfl (.free rfl) rfl (q_move (v := (tTup2 tPtr tBool).enc (((m16.getD (none : Option Addr), m16.isSome)))) rfl rfl) ?_
      refine ro_val (d := (some 31)) rfl (.free rfl) rfl (q_extract (vs := #[.pointer (((m16.getD (none : Option Addr), m16.isSome)).1), .bool (((m16.getD (none : Option Addr), m16.isSome)).2)]) (v := .pointer (((m16.getD (none : Option Addr), m16.isSome)).1)) rfl rfl rfl) ?_
      refine ro_val (d := (some 32)) rfl (.free rfl) rfl (q_extract (vs := #[.pointer (((m16.getD (none : Option Addr), m16.isSome)).1), .bool (((m16.getD (none : Option Addr), m16.isSome)).2)]) (v := .bool (((m16.getD (none : Option Addr), m16.isSome)).2)) rfl rfl rfl) ?_
      refine ro_val (d := (some 9)) rfl (.free rfl) rfl (q_assign (v := .pointer (((m16.getD (none : Option Addr), m16.isSome)).1)) rfl rfl) ?_
      refine ro_val (d := (some 10)) rfl (.free rfl) rfl (q_assign (v := .bool (((m16.getD (none : Option Addr), m16.isSome)).2)) rfl rfl) ?_
      refine ro_nil ?_
      refine wp_seq ?_
      refine wp_seq ?_
      refine wp_text [0, 1] rfl ?_
      refine ro_val (d := (some 33)) rfl (.free rfl) rfl (q_move (v := .bool (((m16.getD (none : Option Addr), m16.isSome)).2)) rfl rfl) ?_
      refine ro_val (d := (some 34)) rfl (.free rfl) rfl (q_not (b := ((m16.getD (none : Option Addr), m16.isSome)).2) rfl rfl) ?_
      refine ro_nil ?_
      refine wp_if (b := (!(((m16.getD (none : Option Addr), m16.isSome)).2))) rfl h (fun hb30 h => ?_) (fun hb30 h => ?_)
      · refine wp_seq ?_
        refine wp_text [0, 1, 2] rfl ?_
        refine ro_val (d := (some 35)) rfl (.free rfl) rfl (q_build36_  rfl ) ?_
        obtain ⟨w17, hw17, hrw17, h⟩ := st_open h
        refine ro_skip (d := none) rfl (.free rfl) rfl (q_store (T := T35) (u := (⟨(0 : Int), (0 : Int)⟩ : S35)) (a := a4) rfl ok36 rfl rfl hrw17 hw17) ?_
        refine ro_val (d := (some 7)) rfl (.free rfl) rfl (q_assign (v := .int .i64 ((127 : Int))) rfl rfl) ?_
        refine ro_nil ?_
        refine wp_ret ?_
        obtain ⟨x18, hx18, h⟩ := h
        exact ret_ok rfl (.cons (.cell (T := T35) (u := x18) (a := a4) ok36 rfl hx18) (.cons (.tmp (v := .int .i64 ((127 : Int))) rfl) .nil)) ⟨(x18, (127 : Int)), rfl, h⟩
      · refine wp_skip ?_
        refine wp_seq ?_
        refine wp_text [0, 1, 2, 3, 4, 5, 6, 7, 8] rfl ?_
        refine ro_val (d := (some 37)) rfl (.free rfl) rfl (q_move (v := .pointer (((m16.getD (none : Option Addr), m16.isSome)).1)) rfl rfl) ?_
        refine ro_val (d := (some 38)) rfl (.free rfl) rfl (q_move (v := .int .i64 (at_3)) rfl rfl) ?_
        refine ro_wp rfl (.free rfl) (wp_cl (d := (some 39)) rfl (q_call (k := 36) (l := [.pointer (((m16.getD (none : Option Addr), m16.isSome)).1), .int .i64 (at_3)]) rfl ent36 rfl) h ?_)
        intro r20 w19 h
        refine ro_val (d := (some 36)) rfl (.free rfl) rfl (q_move (v := (tTup2 T35 (tInt .i64)).enc (r20)) rfl rfl) ?_
        refine ro_val (d := (some 40)) rfl (.free rfl) rfl (q_extract (vs := #[T35.enc (r20.1), .int .i64 (r20.2)]) (v := T35.enc (r20.1)) rfl rfl rfl) ?_
        refine ro_val (d := (some 41)) rfl (.free rfl) rfl (q_extract (vs := #[T35.enc (r20.1), .int .i64 (r20.2)]) (v := .int .i64 (r20.2)) rfl rfl rfl) ?_
        obtain ⟨a21, w22, ha21, hw22, h⟩ := nw_open h
        refine ro_val (d := (some 11)) rfl (.free rfl) rfl (q_alloc (u := Z35) rfl ok36 inf36 ha21 hw22) ?_
        obtain ⟨w23, hw23, hrw23, h⟩ := st_open h
        refine ro_skip (d := none) rfl (.free rfl) rfl (q_store (T := T35) (u := r20.1) (a := a21) rfl ok36 rfl rfl hrw23 hw23) ?_
        refine ro_val (d := (some 12)) rfl (.free rfl) rfl (q_assign (v := .int .i64 (r20.2)) rfl rfl) ?_
        refine ro_nil ?_
        refine wp_seq ?_
        refine wp_seq ?_
        refine wp_text [0, 1] rfl ?_
        refine ro_val (d := (some 42)) rfl (.free rfl) rfl (q_move (v := .int .i64 (r20.2)) rfl rfl) ?_
        refine ro_val (d := (some 43)) rfl (.free rfl) rfl (q_neq (a := r20.2) (b := (0 : Int)) rfl rfl rfl) ?_
        refine ro_nil ?_
        refine wp_if (b := (r20.2 != (0 : Int))) rfl h (fun hb29 h => ?_) (fun hb29 h => ?_)
        · refine wp_seq ?_
          refine wp_text [0, 1, 2] rfl ?_
          refine ro_val (d := (some 44)) rfl (.free rfl) rfl (q_build36_  rfl ) ?_
          obtain ⟨w24, hw24, hrw24, h⟩ := st_open h
          refine ro_skip (d := none) rfl (.free rfl) rfl (q_store (T := T35) (u := (⟨(0 : Int), (0 : Int)⟩ : S35)) (a := a4) rfl ok36 rfl rfl hrw24 hw24) ?_
          refine ro_val (d := (some 7)) rfl (.free rfl) rfl (q_assign (v := .int .i64 ((127 : Int))) rfl rfl) ?_
          refine ro_nil ?_
          refine wp_ret ?_
          obtain ⟨x25, hx25, h⟩ := h
          exact ret_ok rfl (.cons (.cell (T := T35) (u := x25) (a := a4) ok36 rfl hx25) (.cons (.tmp (v := .int .i64 ((127 : Int))) rfl) .nil)) ⟨(x25, (127 : Int)), rfl, h⟩
        · refine wp_skip ?_
          refine wp_seq ?_
          refine wp_text [0, 1, 2] rfl ?_
          obtain ⟨x26, hx26, h⟩ := h
          refine ro_val (d := (some 45)) rfl (.free rfl) rfl (q_load (T := T35) (u := x26) (a := a21) rfl ok36 rfl hx26) ?_
          obtain ⟨w27, hw27, hrw27, h⟩ := st_open h
          refine ro_skip (d := none) rfl (.free rfl) rfl (q_store (T := T35) (u := x26) (a := a4) rfl ok36 rfl rfl hrw27 hw27) ?_
          refine ro_val (d := (some 7)) rfl (.free rfl) rfl (q_assign (v := .int .i64 ((0 : Int))) rfl rfl) ?_
          refine ro_nil ?_
          refine wp_ret ?_
          obtain ⟨x28, hx28, h⟩ := h
          exact ret_ok rfl (.cons (.cell (T := T35) (u := x28) (a := a4) ok36 rfl hx28) (.cons (.tmp (v := .int .i64 ((0 : Int))) rfl) .nil)) ⟨(x28, (0 : Int)), rfl, h⟩

-- (*moiety/store.Store).Prune
def F26_l1 (a5 : Addr) (a11 : Addr) (w12 : World) (K13 : Unit → World → Prop) (R : Int → World → Prop) : Prop :=
  nxt a11 w12 fun q15 w14 =>
  if (Option.isSome q15) = true then (
    ex (Ent tPtr .i64 a11 w14) fun e16 =>
    ex (RdAt (tInt .i64) (a5.add 2) w14) fun x17 =>
    cl Try.prog 45 [.pointer (e16.2), .int .i64 (x17)] (tInt .i64) w14 fun r19 w18 =>
    K13 () w18
  ) else (
    R (0 : Int) w14
  )
def F26 (s_1 : (Option Addr)) (mark_2 : Int) (w : World) (R : Int → World → Prop) : Prop :=
  cl Try.prog 43 [.int .i64 (mark_2)] tBool w fun r4 w3 =>
  if (!r4) = true then (
    R (120 : Int) w3
  ) else (
    ex (NC s_1) fun a5 =>
    ex (RdAt (tInt .i64) (a5.add 1) w3) fun x6 =>
    if (decide (mark_2 > x6)) = true then (
      R (128 : Int) w3
    ) else (
      ex (RdAt (tInt .i64) (a5.add 2) w3) fun x7 =>
      st (tInt .i64) (a5.add 2) (max x7 mark_2) w3 fun w8 =>
      ex (RdAt tMap (a5.add 0) w8) fun x9 =>
      rng x9 w8 fun a11 w10 =>
      lp (fun (s : Unit) w K => F26_l1 a5 a11 w K R) () w10
    )
  )
theorem F26_ok {s_1 : (Option Addr)} {mark_2 : Int} {w : World} {R : Int → World → Prop} (h : F26 s_1 mark_2 w R) : cl Try.prog 26 [.pointer (s_1), .int .i64 (mark_2)] (tInt .i64) w R := by
  unfold F26 at h
  refine calls_start 42 Try.func26 rfl rfl (Nat.le_of_ble_eq_true rfl) ?_
  refine wp_seq ?_
  refine wp_text [0] rfl ?_
  refine ro_val (d := (some 4)) rfl (.free rfl) rfl (q_assign (v := .int .i64 ((0 : Int))) rfl rfl) ?_
  refine ro_nil ?_
  refine wp_seq ?_
  refine wp_block ?_
  refine wp_seq ?_
  refine wp_text [0, 1, 2, 3] rfl ?_
  refine ro_val (d := (some 8)) rfl (.free rfl) rfl (q_move (v := .int .i64 (mark_2)) rfl rfl) ?_
  refine ro_wp rfl (.free rfl) (wp_cl (d := (some 9)) rfl (q_call (k := 43) (l := [.int .i64 (mark_2)]) rfl ent43 rfl) h ?_)
  intro r4 w3 h
  refine ro_val (d := (some 10)) rfl (.free rfl) rfl (q_not (b := r4) rfl rfl) ?_
  refine ro_val (d := (some 7)) rfl (.free rfl) rfl (q_assign (v := .bool ((!r4))) rfl rfl) ?_
  refine ro_nil ?_
  refine wp_if (b := (!r4)) rfl h (fun hb22 h => ?_) (fun hb22 h => ?_)
  · refine wp_seq ?_
    refine wp_text [0] rfl ?_
    refine ro_val (d := (some 4)) rfl (.free rfl) rfl (q_assign (v := .int .i64 ((120 : Int))) rfl rfl) ?_
    refine ro_nil ?_
    refine wp_ret ?_
    exact ret_ok rfl (.cons (.tmp (v := .int .i64 ((120 : Int))) rfl) .nil) ⟨(120 : Int), rfl, h⟩
  · refine wp_seq ?_
    refine wp_text [0, 1, 2, 3, 4, 5, 6] rfl ?_
    refine ro_val (d := (some 12)) rfl (.free rfl) rfl (q_move (v := .int .i64 (mark_2)) rfl rfl) ?_
    refine ro_val (d := (some 13)) rfl (.free rfl) rfl (q_move (v := .pointer (s_1)) rfl rfl) ?_
    obtain ⟨a5, ha5, h⟩ := h
    refine ro_val (d := (some 14)) rfl (.free rfl) rfl (q_nilCheck (a := a5) rfl (congrArg Value.pointer ha5)) ?_
    refine ro_val (d := (some 15)) rfl (.free rfl) rfl (q_fieldAddr (a := a5) (off := 1) rfl Try.underlying67 rfl rfl ok2 (by decide) rfl) ?_
    obtain ⟨x6, hx6, h⟩ := h
    refine ro_val (d := (some 16)) rfl (.free rfl) rfl (q_load (T := (tInt .i64)) (u := x6) (a := (a5.add 1)) rfl ok2 rfl hx6) ?_
    refine ro_val (d := (some 17)) rfl (.free rfl) rfl (q_gtr (a := mark_2) (b := x6) rfl rfl rfl) ?_
    refine ro_val (d := (some 11)) rfl (.free rfl) rfl (q_assign (v := .bool ((decide (mark_2 > x6)))) rfl rfl) ?_
    refine ro_nil ?_
    refine wp_if (b := (decide (mark_2 > x6))) rfl h (fun hb21 h => ?_) (fun hb21 h => ?_)
    · refine wp_seq ?_
      refine wp_text [0] rfl ?_
      refine ro_val (d := (some 4)) rfl (.free rfl) rfl (q_assign (v := .int .i64 ((128 : Int))) rfl rfl) ?_
      refine ro_nil ?_
      refine wp_ret ?_
      exact ret_ok rfl (.cons (.tmp (v := .int .i64 ((128 : Int))) rfl) .nil) ⟨(128 : Int), rfl, h⟩
    · refine wp_skip ?_
      refine wp_seq ?_
      refine wp_text [0, 1, 2, 3, 4, 5, 6, 7, 8, 9] rfl ?_
      refine ro_val (d := (some 18)) rfl (.free rfl) rfl (q_move (v := .pointer (s_1)) rfl rfl) ?_
      refine ro_val (d := (some 19)) rfl (.free rfl) rfl (q_move (v := .pointer (s_1)) rfl rfl) ?_
      refine ro_val (d := (some 20)) rfl (.free rfl) rfl (q_nilCheck (a := a5) rfl (congrArg Value.pointer ha5)) ?_
      refine ro_val (d := (some 21)) rfl (.free rfl) rfl (q_fieldAddr (a := a5) (off := 2) rfl Try.underlying67 rfl rfl ok2 (by decide) rfl) ?_
      obtain ⟨x7, hx7, h⟩ := h
      refine ro_val (d := (some 22)) rfl (.free rfl) rfl (q_load (T := (tInt .i64)) (u := x7) (a := (a5.add 2)) rfl ok2 rfl hx7) ?_
      refine ro_val (d := (some 23)) rfl (.free rfl) rfl (q_move (v := .int .i64 (mark_2)) rfl rfl) ?_
      refine ro_val (d := (some 24)) rfl (.free rfl) rfl (q_max (a := x7) (b := mark_2) rfl rfl rfl) ?_
      refine ro_val (d := (some 25)) rfl (.free rfl) rfl (q_nilCheck (a := a5) rfl (congrArg Value.pointer ha5)) ?_
      refine ro_val (d := (some 26)) rfl (.free rfl) rfl (q_fieldAddr (a := a5) (off := 2) rfl Try.underlying67 rfl rfl ok2 (by decide) rfl) ?_
      obtain ⟨w8, hw8, hrw8, h⟩ := st_open h
      refine ro_skip (d := none) rfl (.free rfl) rfl (q_store (T := (tInt .i64)) (u := (max x7 mark_2)) (a := (a5.add 2)) rfl ok2 rfl rfl hrw8 hw8) ?_
      refine ro_nil ?_
      refine wp_seq ?_
      refine wp_seq ?_
      refine wp_text [0, 1, 2, 3, 4] rfl ?_
      refine ro_val (d := (some 27)) rfl (.free rfl) rfl (q_move (v := .pointer (s_1)) rfl rfl) ?_
      refine ro_val (d := (some 28)) rfl (.free rfl) rfl (q_nilCheck (a := a5) rfl (congrArg Value.pointer ha5)) ?_
      refine ro_val (d := (some 29)) rfl (.free rfl) rfl (q_fieldAddr (a := a5) (off := 0) rfl Try.underlying67 rfl rfl ok65 (by decide) rfl) ?_
      obtain ⟨x9, hx9, h⟩ := h
      refine ro_val (d := (some 30)) rfl (.free rfl) rfl (q_load (T := tMap) (u := x9) (a := (a5.add 0)) rfl ok65 rfl hx9) ?_
      refine ro_wp rfl (.free rfl) (wp_rng (r := x9) (d := (some 31)) rfl rfl Try.underlying65 rfl h ?_)
      intro a11 w10 h
      refine ro_nil ?_
      refine wp_block ?_
      refine loop_at (σ := Unit) (fr := fun g (s : Unit) => upd (upd (g) 0 (.pointer (s_1))) 31 (.pointer (some a11))) (s0 := ()) (upd_step (upd_step rfl rfl) rfl) h ?_
      rintro ⟨⟩ g w12 K13 h
      unfold F26_l1 at h
      refine wp_seq ?_
      refine wp_text [0, 1] rfl ?_
      refine ro_wp rfl (.free rfl) (wp_nxt (a := a11) (d := (some 32)) rfl rfl rfl h ?_)
      intro q15 w14 h
      refine ro_val (d := (some 33)) rfl (.free rfl) rfl (q_extractN (q := q15) rfl rfl) ?_
      refine ro_nil ?_
      refine wp_seq ?_
      refine wp_if (b := (Option.isSome q15)) rfl h (fun hb20 h => ?_) (fun hb20 h => ?_)
      · refine wp_skip ?_
        refine wp_block ?_
        refine wp_seq ?_
        refine wp_text [0, 1, 2] rfl ?_
        obtain ⟨e16, he16, h⟩ := h
        refine ro_val (d := (some 34)) rfl (.free rfl) rfl (q_entry (T := tPtr) (p := e16) (a := a11) rfl rfl he16) ?_
        refine ro_val (d := (some 35)) rfl (.free rfl) rfl (q_extract (vs := #[.int .i64 (e16.1), .pointer (e16.2)]) (v := .pointer (e16.2)) rfl rfl rfl) ?_
        refine ro_val (d := (some 6)) rfl (.free rfl) rfl (q_assign (v := .pointer (e16.2)) rfl rfl) ?_
        refine ro_nil ?_
        refine wp_text [0, 1, 2, 3, 4, 5] rfl ?_
        refine ro_val (d := (some 36)) rfl (.free rfl) rfl (q_move (v := .pointer (e16.2)) rfl rfl) ?_
        refine ro_val (d := (some 37)) rfl (.free rfl) rfl (q_move (v := .pointer (s_1)) rfl rfl) ?_
        refine ro_val (d := (some 38)) rfl (.free rfl) rfl (q_nilCheck (a := a5) rfl (congrArg Value.pointer ha5)) ?_
        refine ro_val (d := (some 39)) rfl (.free rfl) rfl (q_fieldAddr (a := a5) (off := 2) rfl Try.underlying67 rfl rfl ok2 (by decide) rfl) ?_
        obtain ⟨x17, hx17, h⟩ := h
        refine ro_val (d := (some 40)) rfl (.free rfl) rfl (q_load (T := (tInt .i64)) (u := x17) (a := (a5.add 2)) rfl ok2 rfl hx17) ?_
        refine ro_wp rfl (.free rfl) (wp_cl (d := (some 41)) rfl (q_call (k := 45) (l := [.pointer (e16.2), .int .i64 (x17)]) rfl ent45 rfl) h ?_)
        intro r19 w18 h
        refine ro_nil ?_
        exact ⟨(), _, arr (upd_step (upd_step rfl rfl) rfl), h⟩
      · refine wp_exit ?_
        refine wp_seq ?_
        refine wp_text [0] rfl ?_
        refine ro_val (d := (some 4)) rfl (.free rfl) rfl (q_assign (v := .int .i64 ((0 : Int))) rfl rfl) ?_
        refine ro_nil ?_
        refine wp_ret ?_
        exact ret_ok rfl (.cons (.tmp (v := .int .i64 ((0 : Int))) rfl) .nil) ⟨(0 : Int), rfl, h⟩

end Go.Proofs.Ytdgdkbfigndndaa.Cf
