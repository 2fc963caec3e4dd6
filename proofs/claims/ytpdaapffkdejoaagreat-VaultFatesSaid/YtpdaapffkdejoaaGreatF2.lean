/- Characteristic formulae of Go functions, and that they are. Printed by gen.py (own tool). -/
import Derived.Test.YtpdaapffkdejoaaGreatTy
namespace Go.Proofs.YtpdaapffkdejoaaGreat.Cf
open Go
set_option maxRecDepth 100000
set_option maxHeartbeats 1000000
set_option linter.unusedVariables false
set_option linter.unusedSimpArgs false

-- (moiety/vault.past).Closed
def F9 (p_1 : S29) (w : World) (R : Int → World → Prop) : Prop :=
  nw 30 T29 p_1 w fun a2 w3 =>
  ex (RdAt tPtr (a2.add 0) w3) fun x4 =>
  cl Tryz.prog 26 [.pointer (x4)] (tInt .i64) w3 fun r6 w5 =>
  R r6 w5
theorem F9_ok {p_1 : S29} {w : World} {R : Int → World → Prop} (h : F9 p_1 w R) : cl Tryz.prog 9 [T29.enc (p_1)] (tInt .i64) w R := by
  unfold F9 at h
  refine calls_start 6 Tryz.func9 rfl rfl (Nat.le_of_ble_eq_true rfl) ?_
  refine wp_seq ?_
  refine wp_text [0, 1] rfl ?_
  obtain ⟨a2, w3, ha2, hw3, h⟩ := nw_open h
  refine rv 1 rfl rfl rfl (q_box (u := p_1) rfl ok30 rfl ha2 hw3) ?_
  refine rv 2 rfl rfl rfl (q_assign (v := .int .i64 ((0 : Int))) rfl rfl) ?_
  refine ro_nil ?_
  refine wp_seq ?_
  refine wp_text [0, 1, 2, 3] rfl ?_
  refine rv 3 rfl rfl rfl (q_fieldAddr (a := a2) (off := 0) rfl Tryz.underlying30 rfl rfl ok28 (by decide) rfl) ?_
  obtain ⟨x4, hx4, h⟩ := h
  refine rv 4 rfl rfl rfl (q_load (T := tPtr) (u := x4) (a := (a2.add 0)) rfl ok28 rfl hx4) ?_
  refine ro_wp rfl (.free rfl) (wp_cl (d := (some 5)) rfl (q_call (k := 26) (l := [.pointer (x4)]) rfl ent26 rfl) h ?_)
  intro r6 w5 h
  refine rv 2 rfl rfl rfl (q_assign (v := .int .i64 (r6)) rfl rfl) ?_
  refine ro_nil ?_
  refine wp_ret ?_
  exact ret_ok rfl (.cons (.tmp (v := .int .i64 (r6)) rfl) .nil) ⟨r6, rfl, h⟩

-- (*moiety/vault.Vault).Snap
def F10 (v_1 : (Option Addr)) (at_2 : Int) (w : World) (R : (Slc × Int) → World → Prop) : Prop :=
  ex (NC v_1) fun a3 =>
  ex (RdAt tPtr ((a3.add 0).add 0) w) fun x4 =>
  cl Tryz.prog 27 [.pointer (x4), .int .i64 (at_2)] (tTup2 tSlc (tInt .i64)) w fun r6 w5 =>
  cl Tryz.prog 28 [.int .i64 (r6.2)] (tInt .i64) w5 fun r8 w7 =>
  R (r6.1, r8) w7
theorem F10_ok {v_1 : (Option Addr)} {at_2 : Int} {w : World} {R : (Slc × Int) → World → Prop} (h : F10 v_1 at_2 w R) : cl Tryz.prog 10 [.pointer (v_1), .int .i64 (at_2)] (tTup2 tSlc (tInt .i64)) w R := by
  unfold F10 at h
  refine calls_start 21 Tryz.func10 rfl rfl (Nat.le_of_ble_eq_true rfl) ?_
  refine wp_seq ?_
  refine wp_text [0, 1] rfl ?_
  refine rv 4 rfl rfl rfl (q_assign (v := tSlc.enc ((⟨none, 0, 0⟩ : Slc))) rfl rfl) ?_
  refine rv 5 rfl rfl rfl (q_assign (v := .int .i64 ((0 : Int))) rfl rfl) ?_
  refine ro_nil ?_
  refine wp_seq ?_
  refine wp_text [0, 1, 2, 3, 4, 5, 6, 7, 8, 9, 10, 11] rfl ?_
  refine rv 9 rfl rfl rfl (q_move (v := .pointer (v_1)) rfl rfl) ?_
  obtain ⟨a3, ha3, h⟩ := h
  refine rv 10 rfl rfl rfl (q_nilCheck (a := a3) rfl (congrArg Value.pointer ha3)) ?_
  refine rv 11 rfl rfl rfl (q_fieldAddr (a := a3) (off := 0) rfl Tryz.underlying35 rfl rfl ok30 (by decide) rfl) ?_
  refine rv 12 rfl rfl rfl (q_fieldAddr (a := (a3.add 0)) (off := 0) rfl Tryz.underlying30 rfl rfl ok28 (by decide) rfl) ?_
  obtain ⟨x4, hx4, h⟩ := h
  refine rv 13 rfl rfl rfl (q_load (T := tPtr) (u := x4) (a := ((a3.add 0).add 0)) rfl ok28 rfl hx4) ?_
  refine rv 14 rfl rfl rfl (q_move (v := .int .i64 (at_2)) rfl rfl) ?_
  refine ro_wp rfl (.free rfl) (wp_cl (d := (some 15)) rfl (q_call (k := 27) (l := [.pointer (x4), .int .i64 (at_2)]) rfl ent27 rfl) h ?_)
  intro r6 w5 h
  refine rv 8 rfl rfl rfl (q_move (v := (tTup2 tSlc (tInt .i64)).enc (r6)) rfl rfl) ?_
  refine rv 16 rfl rfl rfl (q_extract (vs := #[tSlc.enc (r6.1), .int .i64 (r6.2)]) (v := tSlc.enc (r6.1)) rfl rfl rfl) ?_
  refine rv 17 rfl rfl rfl (q_extract (vs := #[tSlc.enc (r6.1), .int .i64 (r6.2)]) (v := .int .i64 (r6.2)) rfl rfl rfl) ?_
  refine rv 6 rfl rfl rfl (q_assign (v := tSlc.enc (r6.1)) rfl rfl) ?_
  refine rv 7 rfl rfl rfl (q_assign (v := .int .i64 (r6.2)) rfl rfl) ?_
  refine ro_nil ?_
  refine wp_seq ?_
  refine wp_text [0, 1, 2, 3, 4] rfl ?_
  refine rv 18 rfl rfl rfl (q_move (v := tSlc.enc (r6.1)) rfl rfl) ?_
  refine rv 19 rfl rfl rfl (q_move (v := .int .i64 (r6.2)) rfl rfl) ?_
  refine ro_wp rfl (.free rfl) (wp_cl (d := (some 20)) rfl (q_call (k := 28) (l := [.int .i64 (r6.2)]) rfl ent28 rfl) h ?_)
  intro r8 w7 h
  refine rv 4 rfl rfl rfl (q_assign (v := tSlc.enc (r6.1)) rfl rfl) ?_
  refine rv 5 rfl rfl rfl (q_assign (v := .int .i64 (r8)) rfl rfl) ?_
  refine ro_nil ?_
  refine wp_ret ?_
  exact ret_ok rfl (.cons (.tmp (v := tSlc.enc (r6.1)) rfl) (.cons (.tmp (v := .int .i64 (r8)) rfl) .nil)) ⟨(r6.1, r8), rfl, h⟩

-- moiety/moietylaw15.one
def F11 (v_1 : (Option Addr)) (o_2 : S41) (w : World) (R : Int → World → Prop) : Prop :=
  nw 42 T41 o_2 w fun a3 w4 =>
  ex (RdAt (tInt .i64) (a3.add 0) w4) fun x5 =>
  if (x5 == (0 : Int)) = true then (
    ex (RdAt (tInt .i64) (a3.add 3) w4) fun x6 =>
    ex (RdAt (tInt .i64) (a3.add 2) w4) fun x7 =>
    ex (RdAt (tInt .i64) (a3.add 4) w4) fun x8 =>
    cl Tryz.prog 23 [.pointer (v_1), .int .i64 (x6), .int .i64 (x7), .int .i64 (x8)] (tInt .i64) w4 fun r10 w9 =>
    R r10 w9
  ) else (
    if (x5 == (1 : Int)) = true then (
      dr w4 fun w11 =>
      ex (RdAt (tInt .i64) (a3.add 3) w11) fun x12 =>
      ex (RdAt T41 a3 w11) fun x13 =>
      cl Tryz.prog 20 [T41.enc (x13)] T52 w11 fun r15 w14 =>
      kp ((RdAt (tInt .i64) (a3.add 3) w14) x12) <|
      cl Tryz.prog 21 [.pointer (v_1), .int .i64 (x12), T52.enc (r15)] (tInt .i64) w14 fun r18 w17 =>
      kp ((RdAt T41 a3 w17) x13) <|
      R r18 w17
    ) else (
      if (x5 == (2 : Int)) = true then (
        ex (RdAt (tInt .i64) (a3.add 3) w4) fun x20 =>
        ex (RdAt (tInt .i64) (a3.add 1) w4) fun x21 =>
        cl Tryz.prog 15 [.pointer (v_1), .int .i64 (x20), .int .i64 (x21)] (tInt .i64) w4 fun r23 w22 =>
        R r23 w22
      ) else (
        if (x5 == (3 : Int)) = true then (
          ex (RdAt (tInt .i64) (a3.add 1) w4) fun x24 =>
          cl Tryz.prog 16 [.pointer (v_1), .int .i64 (x24)] (tInt .i64) w4 fun r26 w25 =>
          R r26 w25
        ) else (
          if (x5 == (4 : Int)) = true then (
            ex (RdAt (tInt .i64) (a3.add 3) w4) fun x27 =>
            cl Tryz.prog 19 [.pointer (v_1), .int .i64 (x27)] (tInt .i64) w4 fun r29 w28 =>
            R r29 w28
          ) else (
            if (x5 == (5 : Int)) = true then (
              ex (RdAt (tInt .i64) (a3.add 3) w4) fun x30 =>
              cl Tryz.prog 25 [.pointer (v_1), .int .i64 (x30)] (tInt .i64) w4 fun r32 w31 =>
              R r32 w31
            ) else (
              R (0 : Int) w4
            )
          )
        )
      )
    )
  )
theorem F11_ok {v_1 : (Option Addr)} {o_2 : S41} {w : World} {R : Int → World → Prop} (h : F11 v_1 o_2 w R) : cl Tryz.prog 11 [.pointer (v_1), T41.enc (o_2)] (tInt .i64) w R := by
  unfold F11 at h
  refine calls_start 51 Tryz.func11 rfl rfl (Nat.le_of_ble_eq_true rfl) ?_
  refine wp_seq ?_
  refine wp_text [0, 1] rfl ?_
  obtain ⟨a3, w4, ha3, hw4, h⟩ := nw_open h
  refine rv 3 rfl rfl rfl (q_box (u := o_2) rfl ok42 rfl ha3 hw4) ?_
  refine rv 4 rfl rfl rfl (q_assign (v := .int .i64 ((0 : Int))) rfl rfl) ?_
  refine ro_nil ?_
  refine wp_seq ?_
  refine wp_seq ?_
  refine wp_text [0, 1] rfl ?_
  refine rv 5 rfl rfl rfl (q_fieldAddr (a := a3) (off := 0) rfl Tryz.underlying42 rfl rfl ok3 (by decide) rfl) ?_
  obtain ⟨x5, hx5, h⟩ := h
  refine rv 6 rfl rfl rfl (q_load (T := (tInt .i64)) (u := x5) (a := (a3.add 0)) rfl ok3 rfl hx5) ?_
  refine ro_nil ?_
  refine wp_block ?_
  refine wp_seq ?_
  refine wp_text [0, 1] rfl ?_
  refine rv 8 rfl rfl rfl (q_eql (a := x5) (b := (0 : Int)) rfl rfl rfl) ?_
  refine rv 7 rfl rfl rfl (q_assign (v := .bool ((x5 == (0 : Int)))) rfl rfl) ?_
  refine ro_nil ?_
  refine wp_if (b := (x5 == (0 : Int))) rfl h (fun hb38 h => ?_) (fun hb38 h => ?_)
  · refine wp_seq ?_
    refine wp_text [0, 1, 2, 3, 4, 5, 6, 7, 8] rfl ?_
    refine rv 9 rfl rfl rfl (q_move (v := .pointer (v_1)) rfl rfl) ?_
    refine rv 10 rfl rfl rfl (q_fieldAddr (a := a3) (off := 3) rfl Tryz.underlying42 rfl rfl ok2 (by decide) rfl) ?_
    obtain ⟨x6, hx6, h⟩ := h
    refine rv 11 rfl rfl rfl (q_load (T := (tInt .i64)) (u := x6) (a := (a3.add 3)) rfl ok2 rfl hx6) ?_
    refine rv 12 rfl rfl rfl (q_fieldAddr (a := a3) (off := 2) rfl Tryz.underlying42 rfl rfl ok3 (by decide) rfl) ?_
    obtain ⟨x7, hx7, h⟩ := h
    refine rv 13 rfl rfl rfl (q_load (T := (tInt .i64)) (u := x7) (a := (a3.add 2)) rfl ok3 rfl hx7) ?_
    refine rv 14 rfl rfl rfl (q_fieldAddr (a := a3) (off := 4) rfl Tryz.underlying42 rfl rfl ok2 (by decide) rfl) ?_
    obtain ⟨x8, hx8, h⟩ := h
    refine rv 15 rfl rfl rfl (q_load (T := (tInt .i64)) (u := x8) (a := (a3.add 4)) rfl ok2 rfl hx8) ?_
    refine ro_wp rfl (.free rfl) (wp_cl (d := (some 16)) rfl (q_call (k := 23) (l := [.pointer (v_1), .int .i64 (x6), .int .i64 (x7), .int .i64 (x8)]) rfl ent23 rfl) h ?_)
    intro r10 w9 h
    refine rv 4 rfl rfl rfl (q_assign (v := .int .i64 (r10)) rfl rfl) ?_
    refine ro_nil ?_
    refine wp_ret ?_
    exact ret_ok rfl (.cons (.tmp (v := .int .i64 (r10)) rfl) .nil) ⟨r10, rfl, h⟩
  · refine wp_seq ?_
    refine wp_text [0, 1] rfl ?_
    refine rv 18 rfl rfl rfl (q_eql (a := x5) (b := (1 : Int)) rfl rfl rfl) ?_
    refine rv 17 rfl rfl rfl (q_assign (v := .bool ((x5 == (1 : Int)))) rfl rfl) ?_
    refine ro_nil ?_
    refine wp_if (b := (x5 == (1 : Int))) rfl h (fun hb37 h => ?_) (fun hb37 h => ?_)
    · refine wp_seq ?_
      obtain ⟨w11, hw11, h⟩ := dr_open h
      refine wp_drawn 7 mixed rfl (by kernel_rfl) (by intro c a d v w h; cases d <;> exact h) hw11 (fun hD => ?_)
      refine rp 0 19 hD rfl rfl rfl (fun _ => q_move (v := .pointer (v_1)) rfl rfl) ?_
      refine rp 1 20 hD rfl rfl rfl (fun _ => q_fieldAddr (a := a3) (off := 3) rfl Tryz.underlying42 rfl rfl ok2 (by decide) rfl) ?_
      obtain ⟨x12, hx12, h⟩ := h
      refine rd_read (i := 2) (d := (some 21)) (fun W => (RdAt (tInt .i64) (a3.add 3) W) x12) hD (by kernel_rfl) (by kernel_rfl) rfl (.free rfl) rfl (fun W hr => q_load (T := (tInt .i64)) (u := x12) (a := (a3.add 3)) rfl ok2 rfl hr) hx12 ?_
      obtain ⟨x13, hx13, h⟩ := h
      refine rd_read (i := 3) (d := (some 22)) (fun W => (RdAt T41 a3 W) x13) hD (by kernel_rfl) (by kernel_rfl) rfl (.free rfl) rfl (fun W hr => q_load (T := T41) (u := x13) (a := a3) rfl ok42 rfl hr) hx13 ?_
      refine rd_one (i := 4) (by kernel_rfl) ?_
      refine po_wp rfl (.free rfl) (wp_cl (d := (some 23)) rfl (q_call (k := 20) (l := [T41.enc (x13)]) rfl ent20 rfl) h ?_)
      intro r15 w14 h
      obtain ⟨hk16, h⟩ := h
      refine ⟨(hk_wait (by kernel_rfl) (hk_keep (fun _ => hk16) hk_nil)), ?_⟩
      refine rd_one (i := 5) (by kernel_rfl) ?_
      refine po_wp rfl (.free rfl) (wp_cl (d := (some 24)) rfl (q_call (k := 21) (l := [.pointer (v_1), .int .i64 (x12), T52.enc (r15)]) rfl ent21 rfl) h ?_)
      intro r18 w17 h
      obtain ⟨hk19, h⟩ := h
      refine ⟨(hk_keep (fun _ => hk19) (hk_wait (by kernel_rfl) hk_nil)), ?_⟩
      refine rp 6 4 hD rfl rfl rfl (fun _ => q_assign (v := .int .i64 (r18)) rfl rfl) ?_
      refine rd_nil (by kernel_rfl) ?_
      refine wp_ret ?_
      exact ret_ok rfl (.cons (.tmp (v := .int .i64 (r18)) rfl) .nil) ⟨r18, rfl, h⟩
    · refine wp_seq ?_
      refine wp_text [0, 1] rfl ?_
      refine rv 26 rfl rfl rfl (q_eql (a := x5) (b := (2 : Int)) rfl rfl rfl) ?_
      refine rv 25 rfl rfl rfl (q_assign (v := .bool ((x5 == (2 : Int)))) rfl rfl) ?_
      refine ro_nil ?_
      refine wp_if (b := (x5 == (2 : Int))) rfl h (fun hb36 h => ?_) (fun hb36 h => ?_)
      · refine wp_seq ?_
        refine wp_text [0, 1, 2, 3, 4, 5, 6] rfl ?_
        refine rv 27 rfl rfl rfl (q_move (v := .pointer (v_1)) rfl rfl) ?_
        refine rv 28 rfl rfl rfl (q_fieldAddr (a := a3) (off := 3) rfl Tryz.underlying42 rfl rfl ok2 (by decide) rfl) ?_
        obtain ⟨x20, hx20, h⟩ := h
        refine rv 29 rfl rfl rfl (q_load (T := (tInt .i64)) (u := x20) (a := (a3.add 3)) rfl ok2 rfl hx20) ?_
        refine rv 30 rfl rfl rfl (q_fieldAddr (a := a3) (off := 1) rfl Tryz.underlying42 rfl rfl ok3 (by decide) rfl) ?_
        obtain ⟨x21, hx21, h⟩ := h
        refine rv 31 rfl rfl rfl (q_load (T := (tInt .i64)) (u := x21) (a := (a3.add 1)) rfl ok3 rfl hx21) ?_
        refine ro_wp rfl (.free rfl) (wp_cl (d := (some 32)) rfl (q_call (k := 15) (l := [.pointer (v_1), .int .i64 (x20), .int .i64 (x21)]) rfl ent15 rfl) h ?_)
        intro r23 w22 h
        refine rv 4 rfl rfl rfl (q_assign (v := .int .i64 (r23)) rfl rfl) ?_
        refine ro_nil ?_
        refine wp_ret ?_
        exact ret_ok rfl (.cons (.tmp (v := .int .i64 (r23)) rfl) .nil) ⟨r23, rfl, h⟩
      · refine wp_seq ?_
        refine wp_text [0, 1] rfl ?_
        refine rv 34 rfl rfl rfl (q_eql (a := x5) (b := (3 : Int)) rfl rfl rfl) ?_
        refine rv 33 rfl rfl rfl (q_assign (v := .bool ((x5 == (3 : Int)))) rfl rfl) ?_
        refine ro_nil ?_
        refine wp_if (b := (x5 == (3 : Int))) rfl h (fun hb35 h => ?_) (fun hb35 h => ?_)
        · refine wp_seq ?_
          refine wp_text [0, 1, 2, 3, 4] rfl ?_
          refine rv 35 rfl rfl rfl (q_move (v := .pointer (v_1)) rfl rfl) ?_
          refine rv 36 rfl rfl rfl (q_fieldAddr (a := a3) (off := 1) rfl Tryz.underlying42 rfl rfl ok3 (by decide) rfl) ?_
          obtain ⟨x24, hx24, h⟩ := h
          refine rv 37 rfl rfl rfl (q_load (T := (tInt .i64)) (u := x24) (a := (a3.add 1)) rfl ok3 rfl hx24) ?_
          refine ro_wp rfl (.free rfl) (wp_cl (d := (some 38)) rfl (q_call (k := 16) (l := [.pointer (v_1), .int .i64 (x24)]) rfl ent16 rfl) h ?_)
          intro r26 w25 h
          refine rv 4 rfl rfl rfl (q_assign (v := .int .i64 (r26)) rfl rfl) ?_
          refine ro_nil ?_
          refine wp_ret ?_
          exact ret_ok rfl (.cons (.tmp (v := .int .i64 (r26)) rfl) .nil) ⟨r26, rfl, h⟩
        · refine wp_seq ?_
          refine wp_text [0, 1] rfl ?_
          refine rv 40 rfl rfl rfl (q_eql (a := x5) (b := (4 : Int)) rfl rfl rfl) ?_
          refine rv 39 rfl rfl rfl (q_assign (v := .bool ((x5 == (4 : Int)))) rfl rfl) ?_
          refine ro_nil ?_
          refine wp_if (b := (x5 == (4 : Int))) rfl h (fun hb34 h => ?_) (fun hb34 h => ?_)
          · refine wp_seq ?_
            refine wp_text [0, 1, 2, 3, 4] rfl ?_
            refine rv 41 rfl rfl rfl (q_move (v := .pointer (v_1)) rfl rfl) ?_
            refine rv 42 rfl rfl rfl (q_fieldAddr (a := a3) (off := 3) rfl Tryz.underlying42 rfl rfl ok2 (by decide) rfl) ?_
            obtain ⟨x27, hx27, h⟩ := h
            refine rv 43 rfl rfl rfl (q_load (T := (tInt .i64)) (u := x27) (a := (a3.add 3)) rfl ok2 rfl hx27) ?_
            refine ro_wp rfl (.free rfl) (wp_cl (d := (some 44)) rfl (q_call (k := 19) (l := [.pointer (v_1), .int .i64 (x27)]) rfl ent19 rfl) h ?_)
            intro r29 w28 h
            refine rv 4 rfl rfl rfl (q_assign (v := .int .i64 (r29)) rfl rfl) ?_
            refine ro_nil ?_
            refine wp_ret ?_
            exact ret_ok rfl (.cons (.tmp (v := .int .i64 (r29)) rfl) .nil) ⟨r29, rfl, h⟩
          · refine wp_seq ?_
            refine wp_text [0, 1] rfl ?_
            refine rv 46 rfl rfl rfl (q_eql (a := x5) (b := (5 : Int)) rfl rfl rfl) ?_
            refine rv 45 rfl rfl rfl (q_assign (v := .bool ((x5 == (5 : Int)))) rfl rfl) ?_
            refine ro_nil ?_
            refine wp_if (b := (x5 == (5 : Int))) rfl h (fun hb33 h => ?_) (fun hb33 h => ?_)
            · refine wp_seq ?_
              refine wp_text [0, 1, 2, 3, 4] rfl ?_
              refine rv 47 rfl rfl rfl (q_move (v := .pointer (v_1)) rfl rfl) ?_
              refine rv 48 rfl rfl rfl (q_fieldAddr (a := a3) (off := 3) rfl Tryz.underlying42 rfl rfl ok2 (by decide) rfl) ?_
              obtain ⟨x30, hx30, h⟩ := h
              refine rv 49 rfl rfl rfl (q_load (T := (tInt .i64)) (u := x30) (a := (a3.add 3)) rfl ok2 rfl hx30) ?_
              refine ro_wp rfl (.free rfl) (wp_cl (d := (some 50)) rfl (q_call (k := 25) (l := [.pointer (v_1), .int .i64 (x30)]) rfl ent25 rfl) h ?_)
              intro r32 w31 h
              refine rv 4 rfl rfl rfl (q_assign (v := .int .i64 (r32)) rfl rfl) ?_
              refine ro_nil ?_
              refine wp_ret ?_
              exact ret_ok rfl (.cons (.tmp (v := .int .i64 (r32)) rfl) .nil) ⟨r32, rfl, h⟩
            · refine wp_skip ?_
              refine wp_seq ?_
              refine wp_text [0] rfl ?_
              refine rv 4 rfl rfl rfl (q_assign (v := .int .i64 ((0 : Int))) rfl rfl) ?_
              refine ro_nil ?_
              refine wp_ret ?_
              exact ret_ok rfl (.cons (.tmp (v := .int .i64 ((0 : Int))) rfl) .nil) ⟨(0 : Int), rfl, h⟩

-- moiety/moietyref12.Same
def F12_l1 (a_1 : Slc) (b_2 : Slc) (i_3 : Int) (w4 : World) (K5 : Int → World → Prop) (R : Bool → World → Prop) : Prop :=
  if (decide (i_3 < (a_1.len : Int))) = true then (
    dr w4 fun w6 =>
    ex (IxA a_1 2 i_3) fun a7 =>
    ex (IxA b_2 2 i_3) fun a8 =>
    ex (RdAt (tInt .i64) (a7.add 0) w6) fun x9 =>
    ex (RdAt (tInt .i64) (a8.add 0) w6) fun x10 =>
    ex (fun x => (!(x9 != x10)) = true → (IxA a_1 2 i_3) x) fun a11 =>
    ex (fun x => (!(x9 != x10)) = true → (IxA b_2 2 i_3) x) fun a12 =>
    ex (fun x => (!(x9 != x10)) = true → (RdAt (tInt .i64) (a11.add 1) w6) x) fun x13 =>
    ex (fun x => (!(x9 != x10)) = true → (RdAt (tInt .i64) (a12.add 1) w6) x) fun x14 =>
    if ((x9 != x10) || (x13 != x14)) = true then (
      R false w6
    ) else (
      K5 ((IntKind.i64.wrap (i_3 + (1 : Int)))) w6
    )
  ) else (
    R true w4
  )
def F12 (a_1 : Slc) (b_2 : Slc) (w : World) (R : Bool → World → Prop) : Prop :=
  if ((a_1.len : Int) != (b_2.len : Int)) = true then (
    R false w
  ) else (
    lp (fun (s : Int) w K => F12_l1 a_1 b_2 s w K R) ((0 : Int)) w
  )
theorem F12_ok {a_1 : Slc} {b_2 : Slc} {w : World} {R : Bool → World → Prop} (h : F12 a_1 b_2 w R) : cl Tryz.prog 12 [tSlc.enc (a_1), tSlc.enc (b_2)] tBool w R := by
  unfold F12 at h
  refine calls_start 41 Tryz.func12 rfl rfl (Nat.le_of_ble_eq_true rfl) ?_
  refine wp_seq ?_
  refine wp_text [0] rfl ?_
  refine rv 4 rfl rfl rfl (q_assign (v := .bool (false)) rfl rfl) ?_
  refine ro_nil ?_
  refine wp_seq ?_
  refine wp_seq ?_
  refine wp_text [0, 1, 2, 3, 4] rfl ?_
  refine rv 6 rfl rfl rfl (q_move (v := tSlc.enc (a_1)) rfl rfl) ?_
  refine rv 7 rfl rfl rfl (q_len (s := a_1) rfl Tryz.underlying36 rfl) ?_
  refine rv 8 rfl rfl rfl (q_move (v := tSlc.enc (b_2)) rfl rfl) ?_
  refine rv 9 rfl rfl rfl (q_len (s := b_2) rfl Tryz.underlying36 rfl) ?_
  refine rv 10 rfl rfl rfl (q_neq (a := (a_1.len : Int)) (b := (b_2.len : Int)) rfl rfl rfl) ?_
  refine ro_nil ?_
  refine wp_if (b := ((a_1.len : Int) != (b_2.len : Int))) rfl h (fun hb17 h => ?_) (fun hb17 h => ?_)
  · refine wp_seq ?_
    refine wp_text [0] rfl ?_
    refine rv 4 rfl rfl rfl (q_assign (v := .bool (false)) rfl rfl) ?_
    refine ro_nil ?_
    refine wp_ret ?_
    exact ret_ok rfl (.cons (.tmp (v := .bool (false)) rfl) .nil) ⟨false, rfl, h⟩
  · refine wp_skip ?_
    refine wp_seq ?_
    refine wp_seq ?_
    refine wp_text [0] rfl ?_
    refine rv 5 rfl rfl rfl (q_assign (v := .int .i64 ((0 : Int))) rfl rfl) ?_
    refine ro_nil ?_
    refine wp_block ?_
    refine loop_at (σ := Int) (fr := fun g (s : Int) => upd (upd (upd (g) 0 (tSlc.enc (a_1))) 1 (tSlc.enc (b_2))) 5 (.int .i64 (s))) (s0 := ((0 : Int))) (upd_step (upd_step (upd_step rfl rfl) rfl) rfl) h ?_
    rintro i_3 g w4 K5 h
    unfold F12_l1 at h
    refine wp_seq ?_
    refine wp_seq ?_
    refine wp_text [0, 1, 2, 3] rfl ?_
    refine rv 11 rfl rfl rfl (q_move (v := .int .i64 (i_3)) rfl rfl) ?_
    refine rv 12 rfl rfl rfl (q_move (v := tSlc.enc (a_1)) rfl rfl) ?_
    refine rv 13 rfl rfl rfl (q_len (s := a_1) rfl Tryz.underlying36 rfl) ?_
    refine rv 14 rfl rfl rfl (q_lss (a := i_3) (b := (a_1.len : Int)) rfl rfl rfl) ?_
    refine ro_nil ?_
    refine wp_if (b := (decide (i_3 < (a_1.len : Int)))) rfl h (fun hb16 h => ?_) (fun hb16 h => ?_)
    · refine wp_skip ?_
      refine wp_seq ?_
      refine wp_block ?_
      refine wp_seq ?_
      obtain ⟨w6, hw6, h⟩ := dr_open h
      refine wp_drawn 24 mixed rfl (by kernel_rfl) (by intro c a d v w h; cases d <;> exact h) hw6 (fun hD => ?_)
      refine rp 0 17 hD rfl rfl rfl (fun _ => q_move (v := tSlc.enc (a_1)) rfl rfl) ?_
      refine rp 1 18 hD rfl rfl rfl (fun _ => q_move (v := .int .i64 (i_3)) rfl rfl) ?_
      obtain ⟨a7, ha7, h⟩ := h
      refine rp 2 19 hD rfl rfl rfl (fun _ => q_indexAddr (s := a_1) (k := .i64) (i := i_3) rfl Tryz.underlying36 ok63 rfl rfl ha7) ?_
      refine rp 3 20 hD rfl rfl rfl (fun _ => q_fieldAddr (a := a7) (off := 0) rfl Tryz.underlying63 rfl rfl ok3 (by decide) rfl) ?_
      refine rp 5 22 hD rfl rfl rfl (fun _ => q_move (v := tSlc.enc (b_2)) rfl rfl) ?_
      refine rp 6 23 hD rfl rfl rfl (fun _ => q_move (v := .int .i64 (i_3)) rfl rfl) ?_
      obtain ⟨a8, ha8, h⟩ := h
      refine rp 7 24 hD rfl rfl rfl (fun _ => q_indexAddr (s := b_2) (k := .i64) (i := i_3) rfl Tryz.underlying36 ok63 rfl rfl ha8) ?_
      refine rp 8 25 hD rfl rfl rfl (fun _ => q_fieldAddr (a := a8) (off := 0) rfl Tryz.underlying63 rfl rfl ok3 (by decide) rfl) ?_
      obtain ⟨x9, hx9, h⟩ := h
      refine rd_read (i := 4) (d := (some 21)) (fun W => (RdAt (tInt .i64) (a7.add 0) W) x9) hD (by kernel_rfl) (by kernel_rfl) rfl (.free rfl) rfl (fun W hr => q_load (T := (tInt .i64)) (u := x9) (a := (a7.add 0)) rfl ok3 rfl hr) hx9 ?_
      obtain ⟨x10, hx10, h⟩ := h
      refine rd_read (i := 9) (d := (some 26)) (fun W => (RdAt (tInt .i64) (a8.add 0) W) x10) hD (by kernel_rfl) (by kernel_rfl) rfl (.free rfl) rfl (fun W hr => q_load (T := (tInt .i64)) (u := x10) (a := (a8.add 0)) rfl ok3 rfl hr) hx10 ?_
      refine rp 10 27 hD rfl rfl rfl (fun _ => q_neq (a := x9) (b := x10) rfl rfl rfl) ?_
      refine rp 11 28 hD rfl rfl rfl (fun _ => q_move (v := .bool ((x9 != x10))) rfl rfl) ?_
      refine rd_gpure (i := 12) (g := (!(x9 != x10))) (d := (some 29)) hD (by kernel_rfl) (by kernel_rfl) rfl (.no 11 28 true (x9 != x10) rfl rfl rfl rfl) rfl (fun hg _ => q_move (v := tSlc.enc (a_1)) rfl rfl) ?_
      refine rd_gpure (i := 13) (g := (!(x9 != x10))) (d := (some 30)) hD (by kernel_rfl) (by kernel_rfl) rfl (.no 11 28 true (x9 != x10) rfl rfl rfl rfl) rfl (fun hg _ => q_move (v := .int .i64 (i_3)) rfl rfl) ?_
      obtain ⟨a11, ha11, h⟩ := h
      refine rd_gpure (i := 14) (g := (!(x9 != x10))) (d := (some 31)) hD (by kernel_rfl) (by kernel_rfl) rfl (.no 11 28 true (x9 != x10) rfl rfl rfl rfl) rfl (fun hg _ => q_indexAddr (s := a_1) (k := .i64) (i := i_3) rfl Tryz.underlying36 ok63 (gvb_yes hg) (gvb_yes hg) (ha11 hg)) ?_
      refine rd_gpure (i := 15) (g := (!(x9 != x10))) (d := (some 32)) hD (by kernel_rfl) (by kernel_rfl) rfl (.no 11 28 true (x9 != x10) rfl rfl rfl rfl) rfl (fun hg _ => q_fieldAddr (a := a11) (off := 1) rfl Tryz.underlying63 rfl rfl ok2 (by decide) (gvb_yes hg)) ?_
      refine rd_gpure (i := 17) (g := (!(x9 != x10))) (d := (some 34)) hD (by kernel_rfl) (by kernel_rfl) rfl (.no 11 28 true (x9 != x10) rfl rfl rfl rfl) rfl (fun hg _ => q_move (v := tSlc.enc (b_2)) rfl rfl) ?_
      refine rd_gpure (i := 18) (g := (!(x9 != x10))) (d := (some 35)) hD (by kernel_rfl) (by kernel_rfl) rfl (.no 11 28 true (x9 != x10) rfl rfl rfl rfl) rfl (fun hg _ => q_move (v := .int .i64 (i_3)) rfl rfl) ?_
      obtain ⟨a12, ha12, h⟩ := h
      refine rd_gpure (i := 19) (g := (!(x9 != x10))) (d := (some 36)) hD (by kernel_rfl) (by kernel_rfl) rfl (.no 11 28 true (x9 != x10) rfl rfl rfl rfl) rfl (fun hg _ => q_indexAddr (s := b_2) (k := .i64) (i := i_3) rfl Tryz.underlying36 ok63 (gvb_yes hg) (gvb_yes hg) (ha12 hg)) ?_
      refine rd_gpure (i := 20) (g := (!(x9 != x10))) (d := (some 37)) hD (by kernel_rfl) (by kernel_rfl) rfl (.no 11 28 true (x9 != x10) rfl rfl rfl rfl) rfl (fun hg _ => q_fieldAddr (a := a12) (off := 1) rfl Tryz.underlying63 rfl rfl ok2 (by decide) (gvb_yes hg)) ?_
      obtain ⟨x13, hx13, h⟩ := h
      refine rd_gread (i := 16) (g := (!(x9 != x10))) (d := (some 33)) (fun W => (RdAt (tInt .i64) (a11.add 1) W) x13) hD (by kernel_rfl) (by kernel_rfl) rfl (.no 11 28 true (x9 != x10) rfl rfl rfl rfl) rfl (fun hg W hr => q_load (T := (tInt .i64)) (u := x13) (a := (a11.add 1)) rfl ok2 (gvb_yes hg) hr) hx13 ?_
      obtain ⟨x14, hx14, h⟩ := h
      refine rd_gread (i := 21) (g := (!(x9 != x10))) (d := (some 38)) (fun W => (RdAt (tInt .i64) (a12.add 1) W) x14) hD (by kernel_rfl) (by kernel_rfl) rfl (.no 11 28 true (x9 != x10) rfl rfl rfl rfl) rfl (fun hg W hr => q_load (T := (tInt .i64)) (u := x14) (a := (a12.add 1)) rfl ok2 (gvb_yes hg) hr) hx14 ?_
      refine rd_gpure (i := 22) (g := (!(x9 != x10))) (d := (some 39)) hD (by kernel_rfl) (by kernel_rfl) rfl (.no 11 28 true (x9 != x10) rfl rfl rfl rfl) rfl (fun hg _ => q_neq (k := .i64) (a := x13) (b := x14) rfl (gvb_yes hg) (gvb_yes hg)) ?_
      refine rp 23 40 hD rfl rfl rfl (fun _ => q_pickGF (a := (x9 != x10)) (c := (x13 != x14)) rfl rfl rfl rfl) ?_
      refine rd_nil (by kernel_rfl) ?_
      refine wp_if (b := ((x9 != x10) || (x13 != x14))) rfl h (fun hb15 h => ?_) (fun hb15 h => ?_)
      · refine wp_seq ?_
        refine wp_text [0] rfl ?_
        refine rv 4 rfl rfl rfl (q_assign (v := .bool (false)) rfl rfl) ?_
        refine ro_nil ?_
        refine wp_ret ?_
        exact ret_ok rfl (.cons (.tmp (v := .bool (false)) rfl) .nil) ⟨false, rfl, h⟩
      · refine wp_skip ?_
        refine wp_text [0, 1, 2] rfl ?_
        refine rv 15 rfl rfl rfl (q_move (v := .int .i64 (i_3)) rfl rfl) ?_
        refine rv 16 rfl rfl rfl (q_add (a := i_3) (b := (1 : Int)) rfl rfl rfl) ?_
        refine rv 5 rfl rfl rfl (q_assign (v := .int .i64 ((IntKind.i64.wrap (i_3 + (1 : Int))))) rfl rfl) ?_
        refine ro_nil ?_
        exact ⟨((IntKind.i64.wrap (i_3 + (1 : Int)))), _, arr (upd_step (upd_step (upd_step rfl rfl) rfl) rfl), h⟩
    · refine wp_exit ?_
      refine wp_seq ?_
      refine wp_text [0] rfl ?_
      refine rv 4 rfl rfl rfl (q_assign (v := .bool (true)) rfl rfl) ?_
      refine ro_nil ?_
      refine wp_ret ?_
      exact ret_ok rfl (.cons (.tmp (v := .bool (true)) rfl) .nil) ⟨true, rfl, h⟩

-- (moiety/vault.past).Mark
def F13 (p_1 : S29) (w : World) (R : Int → World → Prop) : Prop :=
  nw 30 T29 p_1 w fun a2 w3 =>
  ex (RdAt tPtr (a2.add 0) w3) fun x4 =>
  cl Tryz.prog 29 [.pointer (x4)] (tInt .i64) w3 fun r6 w5 =>
  R r6 w5
theorem F13_ok {p_1 : S29} {w : World} {R : Int → World → Prop} (h : F13 p_1 w R) : cl Tryz.prog 13 [T29.enc (p_1)] (tInt .i64) w R := by
  unfold F13 at h
  refine calls_start 6 Tryz.func13 rfl rfl (Nat.le_of_ble_eq_true rfl) ?_
  refine wp_seq ?_
  refine wp_text [0, 1] rfl ?_
  obtain ⟨a2, w3, ha2, hw3, h⟩ := nw_open h
  refine rv 1 rfl rfl rfl (q_box (u := p_1) rfl ok30 rfl ha2 hw3) ?_
  refine rv 2 rfl rfl rfl (q_assign (v := .int .i64 ((0 : Int))) rfl rfl) ?_
  refine ro_nil ?_
  refine wp_seq ?_
  refine wp_text [0, 1, 2, 3] rfl ?_
  refine rv 3 rfl rfl rfl (q_fieldAddr (a := a2) (off := 0) rfl Tryz.underlying30 rfl rfl ok28 (by decide) rfl) ?_
  obtain ⟨x4, hx4, h⟩ := h
  refine rv 4 rfl rfl rfl (q_load (T := tPtr) (u := x4) (a := (a2.add 0)) rfl ok28 rfl hx4) ?_
  refine ro_wp rfl (.free rfl) (wp_cl (d := (some 5)) rfl (q_call (k := 29) (l := [.pointer (x4)]) rfl ent29 rfl) h ?_)
  intro r6 w5 h
  refine rv 2 rfl rfl rfl (q_assign (v := .int .i64 (r6)) rfl rfl) ?_
  refine ro_nil ?_
  refine wp_ret ?_
  exact ret_ok rfl (.cons (.tmp (v := .int .i64 (r6)) rfl) .nil) ⟨r6, rfl, h⟩

-- (*moiety/vault.Vault).Fate
def F14 (v_1 : (Option Addr)) (id_2 : Int) (w : World) (R : (Int × Int) → World → Prop) : Prop :=
  ex (NC v_1) fun a3 =>
  ex (RdAt tMap (a3.add 5) w) fun x4 =>
  ex (MapGet T69 .i64 x4 id_2 w) fun m5 =>
  nw 70 T69 Z69 w fun a6 w7 =>
  st T69 a6 (m5.getD Z69) w7 fun w8 =>
  dr w8 fun w9 =>
  ex (RdAt (tInt .i64) (a6.add 0) w9) fun x10 =>
  ex (RdAt (tInt .i64) (a6.add 1) w9) fun x11 =>
  R (x10, x11) w9
theorem F14_ok {v_1 : (Option Addr)} {id_2 : Int} {w : World} {R : (Int × Int) → World → Prop} (h : F14 v_1 id_2 w R) : cl Tryz.prog 14 [.pointer (v_1), .int .i64 (id_2)] (tTup2 (tInt .i64) (tInt .i64)) w R := by
  unfold F14 at h
  refine calls_start 17 Tryz.func14 rfl rfl (Nat.le_of_ble_eq_true rfl) ?_
  refine wp_seq ?_
  refine wp_text [0, 1] rfl ?_
  refine rv 4 rfl rfl rfl (q_assign (v := .int .i64 ((0 : Int))) rfl rfl) ?_
  refine rv 5 rfl rfl rfl (q_assign (v := .int .i64 ((0 : Int))) rfl rfl) ?_
  refine ro_nil ?_
  refine wp_seq ?_
  refine wp_text [0, 1, 2, 3, 4, 5, 6, 7] rfl ?_
  refine rv 7 rfl rfl rfl (q_move (v := .pointer (v_1)) rfl rfl) ?_
  obtain ⟨a3, ha3, h⟩ := h
  refine rv 8 rfl rfl rfl (q_nilCheck (a := a3) rfl (congrArg Value.pointer ha3)) ?_
  refine rv 9 rfl rfl rfl (q_fieldAddr (a := a3) (off := 5) rfl Tryz.underlying35 rfl rfl ok33 (by decide) rfl) ?_
  obtain ⟨x4, hx4, h⟩ := h
  refine rv 10 rfl rfl rfl (q_load (T := tMap) (u := x4) (a := (a3.add 5)) rfl ok33 rfl hx4) ?_
  refine rv 11 rfl rfl rfl (q_move (v := .int .i64 (id_2)) rfl rfl) ?_
  obtain ⟨m5, hm5, h⟩ := h
  refine rv 12 rfl rfl rfl (q_lookup (T := T69) (r := x4) (key := id_2) (u := m5) (z := Z69) rfl Tryz.underlying33 Tryz.underlying3 (inf70) rfl rfl hm5) ?_
  obtain ⟨a6, w7, ha6, hw7, h⟩ := nw_open h
  refine rv 6 rfl rfl rfl (q_alloc (u := Z69) rfl ok70 inf70 ha6 hw7) ?_
  obtain ⟨w8, hw8, hrw8, h⟩ := st_open h
  refine ro_skip (d := none) rfl (.free rfl) rfl (q_store (T := T69) (u := (m5.getD Z69)) (a := a6) rfl ok70 rfl rfl hrw8 hw8) ?_
  refine ro_nil ?_
  refine wp_seq ?_
  obtain ⟨w9, hw9, h⟩ := dr_open h
  refine wp_drawn 6 mixed rfl (by kernel_rfl) (by intro c a d v w h; cases d <;> exact h) hw9 (fun hD => ?_)
  refine rp 0 13 hD rfl rfl rfl (fun _ => q_fieldAddr (a := a6) (off := 0) rfl Tryz.underlying70 rfl rfl ok45 (by decide) rfl) ?_
  refine rp 2 15 hD rfl rfl rfl (fun _ => q_fieldAddr (a := a6) (off := 1) rfl Tryz.underlying70 rfl rfl ok2 (by decide) rfl) ?_
  obtain ⟨x10, hx10, h⟩ := h
  refine rd_read (i := 1) (d := (some 14)) (fun W => (RdAt (tInt .i64) (a6.add 0) W) x10) hD (by kernel_rfl) (by kernel_rfl) rfl (.free rfl) rfl (fun W hr => q_load (T := (tInt .i64)) (u := x10) (a := (a6.add 0)) rfl ok45 rfl hr) hx10 ?_
  refine rp 4 4 hD rfl rfl rfl (fun _ => q_assign (v := .int .i64 (x10)) rfl rfl) ?_
  obtain ⟨x11, hx11, h⟩ := h
  refine rd_read (i := 3) (d := (some 16)) (fun W => (RdAt (tInt .i64) (a6.add 1) W) x11) hD (by kernel_rfl) (by kernel_rfl) rfl (.free rfl) rfl (fun W hr => q_load (T := (tInt .i64)) (u := x11) (a := (a6.add 1)) rfl ok2 rfl hr) hx11 ?_
  refine rp 5 5 hD rfl rfl rfl (fun _ => q_assign (v := .int .i64 (x11)) rfl rfl) ?_
  refine rd_nil (by kernel_rfl) ?_
  refine wp_ret ?_
  exact ret_ok rfl (.cons (.tmp (v := .int .i64 (x10)) rfl) (.cons (.tmp (v := .int .i64 (x11)) rfl) .nil)) ⟨(x10, x11), rfl, h⟩

-- (*moiety/vault.Vault).Commit
def F15 (v_1 : (Option Addr)) (t_2 : Int) (id_3 : Int) (w : World) (R : Int → World → Prop) : Prop :=
  if ((decide (t_2 < (1 : Int))) || (decide (t_2 > (1125899906842624 : Int)))) = true then (
    R (151 : Int) w
  ) else (
    ex (NC v_1) fun a4 =>
    ex (RdAt tMap (a4.add 5) w) fun x5 =>
    ex (MapGet T69 .i64 x5 id_3 w) fun m6 =>
    nw 70 T69 Z69 w fun a7 w8 =>
    st T69 a7 (m6.getD Z69) w8 fun w9 =>
    ex (RdAt (tInt .i64) (a7.add 0) w9) fun x10 =>
    if (x10 == (2 : Int)) = true then (
      ex (RdAt (tInt .i64) (a7.add 1) w9) fun x11 =>
      if (x11 != t_2) = true then (
        R (157 : Int) w9
      ) else (
        R (0 : Int) w9
      )
    ) else (
      if (x10 == (1 : Int)) = true then (
        ex (RdAt tMap (a4.add 3) w9) fun x13 =>
        ex (MapGet T54 .i64 x13 id_3 w9) fun m14 =>
        nw 55 T54 Z54 w9 fun a15 w16 =>
        st T54 a15 (m14.getD Z54) w16 fun w17 =>
        ex (RdAt (tInt .i64) (a15.add 4) w17) fun x18 =>
        if (decide (t_2 < x18)) = true then (
          R (152 : Int) w17
        ) else (
          dr w17 fun w19 =>
          ex (RdAt tPtr ((a4.add 0).add 0) w19) fun x20 =>
          ex (RdAt T54 a15 w19) fun x21 =>
          cl Tryz.prog 31 [.pointer (v_1), T54.enc (x21)] tSlc w19 fun r23 w22 =>
          kp ((RdAt tPtr ((a4.add 0).add 0) w22) x20) <|
          cl Tryz.prog 30 [.pointer (x20), .int .i64 (t_2), tSlc.enc (r23)] (tInt .i64) w22 fun r26 w25 =>
          kp ((RdAt T54 a15 w25) x21) <|
          ex (RdAt T54 a15 w25) fun x28 =>
          cl Tryz.prog 32 [.pointer (v_1), T54.enc (x28)] tUnit w25 fun r30 w29 =>
          ex (RdAt tMap (a4.add 5) w29) fun x31 =>
          mput T69 .i64 x31 id_3 (⟨(2 : Int), t_2⟩ : S69) w29 fun w32 =>
          cl Tryz.prog 33 [.pointer (v_1), .int .i64 (t_2)] tUnit w32 fun r34 w33 =>
          R (0 : Int) w33
        )
      ) else (
        R (163 : Int) w9
      )
    )
  )
theorem F15_ok {v_1 : (Option Addr)} {t_2 : Int} {id_3 : Int} {w : World} {R : Int → World → Prop} (h : F15 v_1 t_2 id_3 w R) : cl Tryz.prog 15 [.pointer (v_1), .int .i64 (t_2), .int .i64 (id_3)] (tInt .i64) w R := by
  unfold F15 at h
  refine calls_start 64 Tryz.func15 rfl rfl (Nat.le_of_ble_eq_true rfl) ?_
  refine wp_seq ?_
  refine wp_text [0] rfl ?_
  refine rv 6 rfl rfl rfl (q_assign (v := .int .i64 ((0 : Int))) rfl rfl) ?_
  refine ro_nil ?_
  refine wp_seq ?_
  refine wp_seq ?_
  refine wp_text [0, 1, 2, 3, 4, 5] rfl ?_
  refine rv 9 rfl rfl rfl (q_move (v := .int .i64 (t_2)) rfl rfl) ?_
  refine rv 10 rfl rfl rfl (q_lss (a := t_2) (b := (1 : Int)) rfl rfl rfl) ?_
  refine rv 11 rfl rfl rfl (q_move (v := .bool ((decide (t_2 < (1 : Int))))) rfl rfl) ?_
  refine ro_gval (g := (!(decide (t_2 < (1 : Int))))) (d := (some 12)) rfl (.no 2 11 true (decide (t_2 < (1 : Int))) rfl rfl rfl rfl) rfl (fun hg => q_move (v := .int .i64 (t_2)) rfl rfl) ?_
  refine ro_gval (g := (!(decide (t_2 < (1 : Int))))) (d := (some 13)) rfl (.no 2 11 true (decide (t_2 < (1 : Int))) rfl rfl rfl rfl) rfl (fun hg => q_gtr (k := .i64) (a := t_2) (b := (1125899906842624 : Int)) rfl (gvb_yes hg) rfl) ?_
  refine rv 14 rfl rfl rfl (q_pickGF (a := (decide (t_2 < (1 : Int)))) (c := (decide (t_2 > (1125899906842624 : Int)))) rfl rfl rfl rfl) ?_
  refine ro_nil ?_
  refine wp_if (b := ((decide (t_2 < (1 : Int))) || (decide (t_2 > (1125899906842624 : Int))))) rfl h (fun hb38 h => ?_) (fun hb38 h => ?_)
  · refine wp_seq ?_
    refine wp_text [0] rfl ?_
    refine rv 6 rfl rfl rfl (q_assign (v := .int .i64 ((151 : Int))) rfl rfl) ?_
    refine ro_nil ?_
    refine wp_ret ?_
    exact ret_ok rfl (.cons (.tmp (v := .int .i64 ((151 : Int))) rfl) .nil) ⟨(151 : Int), rfl, h⟩
  · refine wp_skip ?_
    refine wp_seq ?_
    refine wp_text [0, 1, 2, 3, 4, 5, 6, 7] rfl ?_
    refine rv 15 rfl rfl rfl (q_move (v := .pointer (v_1)) rfl rfl) ?_
    obtain ⟨a4, ha4, h⟩ := h
    refine rv 16 rfl rfl rfl (q_nilCheck (a := a4) rfl (congrArg Value.pointer ha4)) ?_
    refine rv 17 rfl rfl rfl (q_fieldAddr (a := a4) (off := 5) rfl Tryz.underlying35 rfl rfl ok33 (by decide) rfl) ?_
    obtain ⟨x5, hx5, h⟩ := h
    refine rv 18 rfl rfl rfl (q_load (T := tMap) (u := x5) (a := (a4.add 5)) rfl ok33 rfl hx5) ?_
    refine rv 19 rfl rfl rfl (q_move (v := .int .i64 (id_3)) rfl rfl) ?_
    obtain ⟨m6, hm6, h⟩ := h
    refine rv 20 rfl rfl rfl (q_lookup (T := T69) (r := x5) (key := id_3) (u := m6) (z := Z69) rfl Tryz.underlying33 Tryz.underlying3 (inf70) rfl rfl hm6) ?_
    obtain ⟨a7, w8, ha7, hw8, h⟩ := nw_open h
    refine rv 7 rfl rfl rfl (q_alloc (u := Z69) rfl ok70 inf70 ha7 hw8) ?_
    obtain ⟨w9, hw9, hrw9, h⟩ := st_open h
    refine ro_skip (d := none) rfl (.free rfl) rfl (q_store (T := T69) (u := (m6.getD Z69)) (a := a7) rfl ok70 rfl rfl hrw9 hw9) ?_
    refine ro_nil ?_
    refine wp_seq ?_
    refine wp_seq ?_
    refine wp_text [0, 1] rfl ?_
    refine rv 21 rfl rfl rfl (q_fieldAddr (a := a7) (off := 0) rfl Tryz.underlying70 rfl rfl ok45 (by decide) rfl) ?_
    obtain ⟨x10, hx10, h⟩ := h
    refine rv 22 rfl rfl rfl (q_load (T := (tInt .i64)) (u := x10) (a := (a7.add 0)) rfl ok45 rfl hx10) ?_
    refine ro_nil ?_
    refine wp_block ?_
    refine wp_seq ?_
    refine wp_text [0, 1] rfl ?_
    refine rv 24 rfl rfl rfl (q_eql (a := x10) (b := (2 : Int)) rfl rfl rfl) ?_
    refine rv 23 rfl rfl rfl (q_assign (v := .bool ((x10 == (2 : Int)))) rfl rfl) ?_
    refine ro_nil ?_
    refine wp_if (b := (x10 == (2 : Int))) rfl h (fun hb37 h => ?_) (fun hb37 h => ?_)
    · refine wp_seq ?_
      refine wp_seq ?_
      refine wp_text [0, 1, 2, 3] rfl ?_
      refine rv 25 rfl rfl rfl (q_fieldAddr (a := a7) (off := 1) rfl Tryz.underlying70 rfl rfl ok2 (by decide) rfl) ?_
      obtain ⟨x11, hx11, h⟩ := h
      refine rv 26 rfl rfl rfl (q_load (T := (tInt .i64)) (u := x11) (a := (a7.add 1)) rfl ok2 rfl hx11) ?_
      refine rv 27 rfl rfl rfl (q_move (v := .int .i64 (t_2)) rfl rfl) ?_
      refine rv 28 rfl rfl rfl (q_neq (a := x11) (b := t_2) rfl rfl rfl) ?_
      refine ro_nil ?_
      refine wp_if (b := (x11 != t_2)) rfl h (fun hb12 h => ?_) (fun hb12 h => ?_)
      · refine wp_seq ?_
        refine wp_text [0] rfl ?_
        refine rv 6 rfl rfl rfl (q_assign (v := .int .i64 ((157 : Int))) rfl rfl) ?_
        refine ro_nil ?_
        refine wp_ret ?_
        exact ret_ok rfl (.cons (.tmp (v := .int .i64 ((157 : Int))) rfl) .nil) ⟨(157 : Int), rfl, h⟩
      · refine wp_skip ?_
        refine wp_seq ?_
        refine wp_text [0] rfl ?_
        refine rv 6 rfl rfl rfl (q_assign (v := .int .i64 ((0 : Int))) rfl rfl) ?_
        refine ro_nil ?_
        refine wp_ret ?_
        exact ret_ok rfl (.cons (.tmp (v := .int .i64 ((0 : Int))) rfl) .nil) ⟨(0 : Int), rfl, h⟩
    · refine wp_seq ?_
      refine wp_text [0, 1] rfl ?_
      refine rv 30 rfl rfl rfl (q_eql (a := x10) (b := (1 : Int)) rfl rfl rfl) ?_
      refine rv 29 rfl rfl rfl (q_assign (v := .bool ((x10 == (1 : Int)))) rfl rfl) ?_
      refine ro_nil ?_
      refine wp_if (b := (x10 == (1 : Int))) rfl h (fun hb36 h => ?_) (fun hb36 h => ?_)
      · refine wp_skip ?_
        refine wp_seq ?_
        refine wp_text [0, 1, 2, 3, 4, 5, 6, 7] rfl ?_
        refine rv 31 rfl rfl rfl (q_move (v := .pointer (v_1)) rfl rfl) ?_
        refine rv 32 rfl rfl rfl (q_nilCheck (a := a4) rfl (congrArg Value.pointer ha4)) ?_
        refine rv 33 rfl rfl rfl (q_fieldAddr (a := a4) (off := 3) rfl Tryz.underlying35 rfl rfl ok31 (by decide) rfl) ?_
        obtain ⟨x13, hx13, h⟩ := h
        refine rv 34 rfl rfl rfl (q_load (T := tMap) (u := x13) (a := (a4.add 3)) rfl ok31 rfl hx13) ?_
        refine rv 35 rfl rfl rfl (q_move (v := .int .i64 (id_3)) rfl rfl) ?_
        obtain ⟨m14, hm14, h⟩ := h
        refine rv 36 rfl rfl rfl (q_lookup (T := T54) (r := x13) (key := id_3) (u := m14) (z := Z54) rfl Tryz.underlying31 Tryz.underlying3 (inf55) rfl rfl hm14) ?_
        obtain ⟨a15, w16, ha15, hw16, h⟩ := nw_open h
        refine rv 8 rfl rfl rfl (q_alloc (u := Z54) rfl ok55 inf55 ha15 hw16) ?_
        obtain ⟨w17, hw17, hrw17, h⟩ := st_open h
        refine ro_skip (d := none) rfl (.free rfl) rfl (q_store (T := T54) (u := (m14.getD Z54)) (a := a15) rfl ok55 rfl rfl hrw17 hw17) ?_
        refine ro_nil ?_
        refine wp_seq ?_
        refine wp_seq ?_
        refine wp_text [0, 1, 2, 3] rfl ?_
        refine rv 37 rfl rfl rfl (q_move (v := .int .i64 (t_2)) rfl rfl) ?_
        refine rv 38 rfl rfl rfl (q_fieldAddr (a := a15) (off := 4) rfl Tryz.underlying55 rfl rfl ok2 (by decide) rfl) ?_
        obtain ⟨x18, hx18, h⟩ := h
        refine rv 39 rfl rfl rfl (q_load (T := (tInt .i64)) (u := x18) (a := (a15.add 4)) rfl ok2 rfl hx18) ?_
        refine rv 40 rfl rfl rfl (q_lss (a := t_2) (b := x18) rfl rfl rfl) ?_
        refine ro_nil ?_
        refine wp_if (b := (decide (t_2 < x18))) rfl h (fun hb35 h => ?_) (fun hb35 h => ?_)
        · refine wp_seq ?_
          refine wp_text [0] rfl ?_
          refine rv 6 rfl rfl rfl (q_assign (v := .int .i64 ((152 : Int))) rfl rfl) ?_
          refine ro_nil ?_
          refine wp_ret ?_
          exact ret_ok rfl (.cons (.tmp (v := .int .i64 ((152 : Int))) rfl) .nil) ⟨(152 : Int), rfl, h⟩
        · refine wp_skip ?_
          refine wp_seq ?_
          obtain ⟨w19, hw19, h⟩ := dr_open h
          refine wp_drawn 10 mixed rfl (by kernel_rfl) (by intro c a d v w h; cases d <;> exact h) hw19 (fun hD => ?_)
          refine rp 0 41 hD rfl rfl rfl (fun _ => q_move (v := .pointer (v_1)) rfl rfl) ?_
          refine rp 1 42 hD rfl rfl rfl (fun _ => q_nilCheck (a := a4) rfl (congrArg Value.pointer ha4)) ?_
          refine rp 2 43 hD rfl rfl rfl (fun _ => q_fieldAddr (a := a4) (off := 0) rfl Tryz.underlying35 rfl rfl ok30 (by decide) rfl) ?_
          refine rp 3 44 hD rfl rfl rfl (fun _ => q_fieldAddr (a := (a4.add 0)) (off := 0) rfl Tryz.underlying30 rfl rfl ok28 (by decide) rfl) ?_
          refine rp 5 46 hD rfl rfl rfl (fun _ => q_move (v := .int .i64 (t_2)) rfl rfl) ?_
          refine rp 6 47 hD rfl rfl rfl (fun _ => q_move (v := .pointer (v_1)) rfl rfl) ?_
          obtain ⟨x20, hx20, h⟩ := h
          refine rd_read (i := 4) (d := (some 45)) (fun W => (RdAt tPtr ((a4.add 0).add 0) W) x20) hD (by kernel_rfl) (by kernel_rfl) rfl (.free rfl) rfl (fun W hr => q_load (T := tPtr) (u := x20) (a := ((a4.add 0).add 0)) rfl ok28 rfl hr) hx20 ?_
          obtain ⟨x21, hx21, h⟩ := h
          refine rd_read (i := 7) (d := (some 48)) (fun W => (RdAt T54 a15 W) x21) hD (by kernel_rfl) (by kernel_rfl) rfl (.free rfl) rfl (fun W hr => q_load (T := T54) (u := x21) (a := a15) rfl ok55 rfl hr) hx21 ?_
          refine rd_one (i := 8) (by kernel_rfl) ?_
          refine po_wp rfl (.free rfl) (wp_cl (d := (some 49)) rfl (q_call (k := 31) (l := [.pointer (v_1), T54.enc (x21)]) rfl ent31 rfl) h ?_)
          intro r23 w22 h
          obtain ⟨hk24, h⟩ := h
          refine ⟨(hk_wait (by kernel_rfl) (hk_keep (fun _ => hk24) hk_nil)), ?_⟩
          refine rd_one (i := 9) (by kernel_rfl) ?_
          refine po_wp rfl (.free rfl) (wp_cl (d := (some 50)) rfl (q_call (k := 30) (l := [.pointer (x20), .int .i64 (t_2), tSlc.enc (r23)]) rfl ent30 rfl) h ?_)
          intro r26 w25 h
          obtain ⟨hk27, h⟩ := h
          refine ⟨(hk_keep (fun _ => hk27) (hk_wait (by kernel_rfl) hk_nil)), ?_⟩
          refine rd_nil (by kernel_rfl) ?_
          refine wp_seq ?_
          refine wp_text [0, 1, 2] rfl ?_
          refine rv 51 rfl rfl rfl (q_move (v := .pointer (v_1)) rfl rfl) ?_
          obtain ⟨x28, hx28, h⟩ := h
          refine rv 52 rfl rfl rfl (q_load (T := T54) (u := x28) (a := a15) rfl ok55 rfl hx28) ?_
          refine ro_wp rfl (.free rfl) (wp_cl (d := (some 53)) rfl (q_call (k := 32) (l := [.pointer (v_1), T54.enc (x28)]) rfl ent32 rfl) h ?_)
          intro r30 w29 h
          refine ro_nil ?_
          refine wp_seq ?_
          refine wp_text [0, 1, 2, 3, 4, 5, 6, 7] rfl ?_
          refine rv 54 rfl rfl rfl (q_move (v := .pointer (v_1)) rfl rfl) ?_
          refine rv 55 rfl rfl rfl (q_nilCheck (a := a4) rfl (congrArg Value.pointer ha4)) ?_
          refine rv 56 rfl rfl rfl (q_fieldAddr (a := a4) (off := 5) rfl Tryz.underlying35 rfl rfl ok33 (by decide) rfl) ?_
          obtain ⟨x31, hx31, h⟩ := h
          refine rv 57 rfl rfl rfl (q_load (T := tMap) (u := x31) (a := (a4.add 5)) rfl ok33 rfl hx31) ?_
          refine rv 58 rfl rfl rfl (q_move (v := .int .i64 (id_3)) rfl rfl) ?_
          refine rv 59 rfl rfl rfl (q_move (v := .int .i64 (t_2)) rfl rfl) ?_
          refine rv 60 rfl rfl rfl (q_build70_0_1 (v0 := (2 : Int)) (v1 := t_2) rfl rfl rfl) ?_
          refine ro_wp rfl (.free rfl) (wp_mput (T := T69) (r := x31) (key := id_3) (v := (⟨(2 : Int), t_2⟩ : S69)) (d := none) rfl (.inl rfl) Tryz.underlying33 Tryz.underlying3 rfl rfl rfl h ?_)
          intro w32 h
          refine ro_nil ?_
          refine wp_seq ?_
          refine wp_text [0, 1, 2] rfl ?_
          refine rv 61 rfl rfl rfl (q_move (v := .pointer (v_1)) rfl rfl) ?_
          refine rv 62 rfl rfl rfl (q_move (v := .int .i64 (t_2)) rfl rfl) ?_
          refine ro_wp rfl (.free rfl) (wp_cl (d := (some 63)) rfl (q_call (k := 33) (l := [.pointer (v_1), .int .i64 (t_2)]) rfl ent33 rfl) h ?_)
          intro r34 w33 h
          refine ro_nil ?_
          refine wp_seq ?_
          refine wp_text [0] rfl ?_
          refine rv 6 rfl rfl rfl (q_assign (v := .int .i64 ((0 : Int))) rfl rfl) ?_
          refine ro_nil ?_
          refine wp_ret ?_
          exact ret_ok rfl (.cons (.tmp (v := .int .i64 ((0 : Int))) rfl) .nil) ⟨(0 : Int), rfl, h⟩
      · refine wp_seq ?_
        refine wp_text [0] rfl ?_
        refine rv 6 rfl rfl rfl (q_assign (v := .int .i64 ((163 : Int))) rfl rfl) ?_
        refine ro_nil ?_
        refine wp_ret ?_
        exact ret_ok rfl (.cons (.tmp (v := .int .i64 ((163 : Int))) rfl) .nil) ⟨(163 : Int), rfl, h⟩

-- (*moiety/vault.Vault).Drop
def F16_j1 (id_2 : Int) (a3 : Addr) (w13 : World) (R : Int → World → Prop) : Prop :=
  ex (RdAt tMap (a3.add 5) w13) fun x14 =>
  mput T69 .i64 x14 id_2 (⟨(3 : Int), (0 : Int)⟩ : S69) w13 fun w15 =>
  R (0 : Int) w15
def F16 (v_1 : (Option Addr)) (id_2 : Int) (w : World) (R : Int → World → Prop) : Prop :=
  ex (NC v_1) fun a3 =>
  ex (RdAt tMap (a3.add 5) w) fun x4 =>
  ex (MapGet T69 .i64 x4 id_2 w) fun m5 =>
  nw 70 T69 Z69 w fun a6 w7 =>
  st T69 a6 (((m5.getD Z69, m5.isSome)).1) w7 fun w8 =>
  if (decide (id_2 < (1 : Int))) = true then (
    R (156 : Int) w8
  ) else (
    ex (RdAt (tInt .i64) (a6.add 0) w8) fun x9 =>
    if (x9 == (2 : Int)) = true then (
      R (157 : Int) w8
    ) else (
      ex (fun x => (!(((m5.getD Z69, m5.isSome)).2)) = true → (NC v_1) x) fun a10 =>
      ex (fun x => (!(((m5.getD Z69, m5.isSome)).2)) = true → (RdAt tMap (a10.add 5) w8) x) fun x11 =>
      ex (fun x => (!(((m5.getD Z69, m5.isSome)).2)) = true → (MapLen x11 w8) x) fun l12 =>
      if ((!(((m5.getD Z69, m5.isSome)).2)) && (decide ((l12 : Int) ≥ (5000 : Int)))) = true then (
        R (158 : Int) w8
      ) else (
        ex (RdAt tMap (a3.add 3) w8) fun x16 =>
        ex (MapGet T54 .i64 x16 id_2 w8) fun m17 =>
        nw 55 T54 Z54 w8 fun a18 w19 =>
        st T54 a18 (((m17.getD Z54, m17.isSome)).1) w19 fun w20 =>
        if ((m17.getD Z54, m17.isSome)).2 = true then (
          ex (RdAt T54 a18 w20) fun x21 =>
          cl Tryz.prog 32 [.pointer (v_1), T54.enc (x21)] tUnit w20 fun r23 w22 =>
          F16_j1 id_2 a3 w22 R
        ) else (
          F16_j1 id_2 a3 w20 R
        )
      )
    )
  )
theorem F16_ok {v_1 : (Option Addr)} {id_2 : Int} {w : World} {R : Int → World → Prop} (h : F16 v_1 id_2 w R) : cl Tryz.prog 16 [.pointer (v_1), .int .i64 (id_2)] (tInt .i64) w R := by
  unfold F16 at h
  refine calls_start 55 Tryz.func16 rfl rfl (Nat.le_of_ble_eq_true rfl) ?_
  refine wp_seq ?_
  refine wp_text [0] rfl ?_
  refine rv 4 rfl rfl rfl (q_assign (v := .int .i64 ((0 : Int))) rfl rfl) ?_
  refine ro_nil ?_
  refine wp_seq ?_
  refine wp_text [0, 1, 2, 3, 4, 5, 6, 7, 8, 9, 10, 11] rfl ?_
  refine rv 10 rfl rfl rfl (q_move (v := .pointer (v_1)) rfl rfl) ?_
  obtain ⟨a3, ha3, h⟩ := h
  refine rv 11 rfl rfl rfl (q_nilCheck (a := a3) rfl (congrArg Value.pointer ha3)) ?_
  refine rv 12 rfl rfl rfl (q_fieldAddr (a := a3) (off := 5) rfl Tryz.underlying35 rfl rfl ok33 (by decide) rfl) ?_
  obtain ⟨x4, hx4, h⟩ := h
  refine rv 13 rfl rfl rfl (q_load (T := tMap) (u := x4) (a := (a3.add 5)) rfl ok33 rfl hx4) ?_
  refine rv 14 rfl rfl rfl (q_move (v := .int .i64 (id_2)) rfl rfl) ?_
  obtain ⟨m5, hm5, h⟩ := h
  refine rv 15 rfl rfl rfl (q_lookup2 (T := T69) (r := x4) (key := id_2) (u := m5) (z := Z69) rfl Tryz.underlying33 Tryz.underlying3 (inf70) rfl rfl hm5) ?_
  refine rv 9 rfl rfl rfl (q_move (v := (tTup2 T69 tBool).enc (((m5.getD Z69, m5.isSome)))) rfl rfl) ?_
  refine rv 16 rfl rfl rfl (q_extract (vs := #[T69.enc (((m5.getD Z69, m5.isSome)).1), .bool (((m5.getD Z69, m5.isSome)).2)]) (v := T69.enc (((m5.getD Z69, m5.isSome)).1)) rfl rfl rfl) ?_
  refine rv 17 rfl rfl rfl (q_extract (vs := #[T69.enc (((m5.getD Z69, m5.isSome)).1), .bool (((m5.getD Z69, m5.isSome)).2)]) (v := .bool (((m5.getD Z69, m5.isSome)).2)) rfl rfl rfl) ?_
  obtain ⟨a6, w7, ha6, hw7, h⟩ := nw_open h
  refine rv 5 rfl rfl rfl (q_alloc (u := Z69) rfl ok70 inf70 ha6 hw7) ?_
  obtain ⟨w8, hw8, hrw8, h⟩ := st_open h
  refine ro_skip (d := none) rfl (.free rfl) rfl (q_store (T := T69) (u := ((m5.getD Z69, m5.isSome)).1) (a := a6) rfl ok70 rfl rfl hrw8 hw8) ?_
  refine rv 6 rfl rfl rfl (q_assign (v := .bool (((m5.getD Z69, m5.isSome)).2)) rfl rfl) ?_
  refine ro_nil ?_
  refine wp_seq ?_
  refine wp_block ?_
  refine wp_seq ?_
  refine wp_text [0, 1, 2] rfl ?_
  refine rv 19 rfl rfl rfl (q_move (v := .int .i64 (id_2)) rfl rfl) ?_
  refine rv 20 rfl rfl rfl (q_lss (a := id_2) (b := (1 : Int)) rfl rfl rfl) ?_
  refine rv 18 rfl rfl rfl (q_assign (v := .bool ((decide (id_2 < (1 : Int))))) rfl rfl) ?_
  refine ro_nil ?_
  refine wp_if (b := (decide (id_2 < (1 : Int)))) rfl h (fun hb27 h => ?_) (fun hb27 h => ?_)
  · refine wp_seq ?_
    refine wp_text [0] rfl ?_
    refine rv 4 rfl rfl rfl (q_assign (v := .int .i64 ((156 : Int))) rfl rfl) ?_
    refine ro_nil ?_
    refine wp_ret ?_
    exact ret_ok rfl (.cons (.tmp (v := .int .i64 ((156 : Int))) rfl) .nil) ⟨(156 : Int), rfl, h⟩
  · refine wp_seq ?_
    refine wp_text [0, 1, 2, 3] rfl ?_
    refine rv 22 rfl rfl rfl (q_fieldAddr (a := a6) (off := 0) rfl Tryz.underlying70 rfl rfl ok45 (by decide) rfl) ?_
    obtain ⟨x9, hx9, h⟩ := h
    refine rv 23 rfl rfl rfl (q_load (T := (tInt .i64)) (u := x9) (a := (a6.add 0)) rfl ok45 rfl hx9) ?_
    refine rv 24 rfl rfl rfl (q_eql (a := x9) (b := (2 : Int)) rfl rfl rfl) ?_
    refine rv 21 rfl rfl rfl (q_assign (v := .bool ((x9 == (2 : Int)))) rfl rfl) ?_
    refine ro_nil ?_
    refine wp_if (b := (x9 == (2 : Int))) rfl h (fun hb26 h => ?_) (fun hb26 h => ?_)
    · refine wp_seq ?_
      refine wp_text [0] rfl ?_
      refine rv 4 rfl rfl rfl (q_assign (v := .int .i64 ((157 : Int))) rfl rfl) ?_
      refine ro_nil ?_
      refine wp_ret ?_
      exact ret_ok rfl (.cons (.tmp (v := .int .i64 ((157 : Int))) rfl) .nil) ⟨(157 : Int), rfl, h⟩
    · refine wp_seq ?_
      refine wp_text [0, 1, 2, 3, 4, 5, 6, 7, 8, 9, 10] rfl ?_
      refine rv 26 rfl rfl rfl (q_move (v := .bool (((m5.getD Z69, m5.isSome)).2)) rfl rfl) ?_
      refine rv 27 rfl rfl rfl (q_not (b := ((m5.getD Z69, m5.isSome)).2) rfl rfl) ?_
      refine rv 28 rfl rfl rfl (q_move (v := .bool ((!(((m5.getD Z69, m5.isSome)).2)))) rfl rfl) ?_
      refine ro_gval (g := (!(((m5.getD Z69, m5.isSome)).2))) (d := (some 29)) rfl (.yes 2 28 true (!(((m5.getD Z69, m5.isSome)).2)) rfl rfl rfl rfl) rfl (fun hg => q_move (v := .pointer (v_1)) rfl rfl) ?_
      obtain ⟨a10, ha10, h⟩ := h
      refine ro_gval (g := (!(((m5.getD Z69, m5.isSome)).2))) (d := (some 30)) rfl (.yes 2 28 true (!(((m5.getD Z69, m5.isSome)).2)) rfl rfl rfl rfl) rfl (fun hg => q_nilCheck (a := a10) rfl ((gvb_yes hg).trans (congrArg Value.pointer (ha10 hg)))) ?_
      refine ro_gval (g := (!(((m5.getD Z69, m5.isSome)).2))) (d := (some 31)) rfl (.yes 2 28 true (!(((m5.getD Z69, m5.isSome)).2)) rfl rfl rfl rfl) rfl (fun hg => q_fieldAddr (a := a10) (off := 5) rfl Tryz.underlying35 rfl rfl ok33 (by decide) (gvb_yes hg)) ?_
      obtain ⟨x11, hx11, h⟩ := h
      refine ro_gval (g := (!(((m5.getD Z69, m5.isSome)).2))) (d := (some 32)) rfl (.yes 2 28 true (!(((m5.getD Z69, m5.isSome)).2)) rfl rfl rfl rfl) rfl (fun hg => q_load (T := tMap) (u := x11) (a := (a10.add 5)) rfl ok33 (gvb_yes hg) (hx11 hg)) ?_
      obtain ⟨l12, hl12, h⟩ := h
      refine ro_gval (g := (!(((m5.getD Z69, m5.isSome)).2))) (d := (some 33)) rfl (.yes 2 28 true (!(((m5.getD Z69, m5.isSome)).2)) rfl rfl rfl rfl) rfl (fun hg => q_lenM (r := x11) (l := l12) rfl Tryz.underlying33 (gvb_yes hg) (hl12 hg)) ?_
      refine ro_gval (g := (!(((m5.getD Z69, m5.isSome)).2))) (d := (some 34)) rfl (.yes 2 28 true (!(((m5.getD Z69, m5.isSome)).2)) rfl rfl rfl rfl) rfl (fun hg => q_geq (k := .i64) (a := (l12 : Int)) (b := (5000 : Int)) rfl (gvb_yes hg) rfl) ?_
      refine rv 35 rfl rfl rfl (q_pickGT (a := (!(((m5.getD Z69, m5.isSome)).2))) (b := (decide ((l12 : Int) ≥ (5000 : Int)))) rfl rfl rfl rfl) ?_
      refine rv 25 rfl rfl rfl (q_assign (v := .bool (((!(((m5.getD Z69, m5.isSome)).2)) && (decide ((l12 : Int) ≥ (5000 : Int)))))) rfl rfl) ?_
      refine ro_nil ?_
      refine wp_if (b := ((!(((m5.getD Z69, m5.isSome)).2)) && (decide ((l12 : Int) ≥ (5000 : Int))))) rfl h (fun hb25 h => ?_) (fun hb25 h => ?_)
      · refine wp_seq ?_
        refine wp_text [0] rfl ?_
        refine rv 4 rfl rfl rfl (q_assign (v := .int .i64 ((158 : Int))) rfl rfl) ?_
        refine ro_nil ?_
        refine wp_ret ?_
        exact ret_ok rfl (.cons (.tmp (v := .int .i64 ((158 : Int))) rfl) .nil) ⟨(158 : Int), rfl, h⟩
      · refine wp_skip ?_
        refine seq_join (σ := Unit) (J := fun (s : Unit) w => F16_j1 id_2 a3 w R) (fr := fun g (s : Unit) => upd (upd (g) 0 (.pointer (v_1))) 1 (.int .i64 (id_2))) ?_ ?_
        · rintro ⟨⟩ g w13 h
          unfold F16_j1 at h
          refine wp_seq ?_
          refine wp_text [0, 1, 2, 3, 4, 5, 6] rfl ?_
          refine rv 49 rfl rfl rfl (q_move (v := .pointer (v_1)) rfl rfl) ?_
          refine rv 50 rfl rfl rfl (q_nilCheck (a := a3) rfl (congrArg Value.pointer ha3)) ?_
          refine rv 51 rfl rfl rfl (q_fieldAddr (a := a3) (off := 5) rfl Tryz.underlying35 rfl rfl ok33 (by decide) rfl) ?_
          obtain ⟨x14, hx14, h⟩ := h
          refine rv 52 rfl rfl rfl (q_load (T := tMap) (u := x14) (a := (a3.add 5)) rfl ok33 rfl hx14) ?_
          refine rv 53 rfl rfl rfl (q_move (v := .int .i64 (id_2)) rfl rfl) ?_
          refine rv 54 rfl rfl rfl (q_build70_0 (v0 := (3 : Int)) rfl rfl) ?_
          refine ro_wp rfl (.free rfl) (wp_mput (T := T69) (r := x14) (key := id_2) (v := (⟨(3 : Int), (0 : Int)⟩ : S69)) (d := none) rfl (.inl rfl) Tryz.underlying33 Tryz.underlying3 rfl rfl rfl h ?_)
          intro w15 h
          refine ro_nil ?_
          refine wp_seq ?_
          refine wp_text [0] rfl ?_
          refine rv 4 rfl rfl rfl (q_assign (v := .int .i64 ((0 : Int))) rfl rfl) ?_
          refine ro_nil ?_
          refine wp_ret ?_
          exact ret_ok rfl (.cons (.tmp (v := .int .i64 ((0 : Int))) rfl) .nil) ⟨(0 : Int), rfl, h⟩
        · refine wp_seq ?_
          refine wp_text [0, 1, 2, 3, 4, 5, 6, 7, 8, 9, 10, 11] rfl ?_
          refine rv 37 rfl rfl rfl (q_move (v := .pointer (v_1)) rfl rfl) ?_
          refine rv 38 rfl rfl rfl (q_nilCheck (a := a3) rfl (congrArg Value.pointer ha3)) ?_
          refine rv 39 rfl rfl rfl (q_fieldAddr (a := a3) (off := 3) rfl Tryz.underlying35 rfl rfl ok31 (by decide) rfl) ?_
          obtain ⟨x16, hx16, h⟩ := h
          refine rv 40 rfl rfl rfl (q_load (T := tMap) (u := x16) (a := (a3.add 3)) rfl ok31 rfl hx16) ?_
          refine rv 41 rfl rfl rfl (q_move (v := .int .i64 (id_2)) rfl rfl) ?_
          obtain ⟨m17, hm17, h⟩ := h
          refine rv 42 rfl rfl rfl (q_lookup2 (T := T54) (r := x16) (key := id_2) (u := m17) (z := Z54) rfl Tryz.underlying31 Tryz.underlying3 (inf55) rfl rfl hm17) ?_
          refine rv 36 rfl rfl rfl (q_move (v := (tTup2 T54 tBool).enc (((m17.getD Z54, m17.isSome)))) rfl rfl) ?_
          refine rv 43 rfl rfl rfl (q_extract (vs := #[T54.enc (((m17.getD Z54, m17.isSome)).1), .bool (((m17.getD Z54, m17.isSome)).2)]) (v := T54.enc (((m17.getD Z54, m17.isSome)).1)) rfl rfl rfl) ?_
          refine rv 44 rfl rfl rfl (q_extract (vs := #[T54.enc (((m17.getD Z54, m17.isSome)).1), .bool (((m17.getD Z54, m17.isSome)).2)]) (v := .bool (((m17.getD Z54, m17.isSome)).2)) rfl rfl rfl) ?_
          obtain ⟨a18, w19, ha18, hw19, h⟩ := nw_open h
          refine rv 7 rfl rfl rfl (q_alloc (u := Z54) rfl ok55 inf55 ha18 hw19) ?_
          obtain ⟨w20, hw20, hrw20, h⟩ := st_open h
          refine ro_skip (d := none) rfl (.free rfl) rfl (q_store (T := T54) (u := ((m17.getD Z54, m17.isSome)).1) (a := a18) rfl ok55 rfl rfl hrw20 hw20) ?_
          refine rv 8 rfl rfl rfl (q_assign (v := .bool (((m17.getD Z54, m17.isSome)).2)) rfl rfl) ?_
          refine ro_nil ?_
          refine wp_seq ?_
          refine wp_text [0] rfl ?_
          refine rv 45 rfl rfl rfl (q_move (v := .bool (((m17.getD Z54, m17.isSome)).2)) rfl rfl) ?_
          refine ro_nil ?_
          refine wp_if (b := ((m17.getD Z54, m17.isSome)).2) rfl h (fun hb24 h => ?_) (fun hb24 h => ?_)
          · refine wp_text [0, 1, 2] rfl ?_
            refine rv 46 rfl rfl rfl (q_move (v := .pointer (v_1)) rfl rfl) ?_
            obtain ⟨x21, hx21, h⟩ := h
            refine rv 47 rfl rfl rfl (q_load (T := T54) (u := x21) (a := a18) rfl ok55 rfl hx21) ?_
            refine ro_wp rfl (.free rfl) (wp_cl (d := (some 48)) rfl (q_call (k := 32) (l := [.pointer (v_1), T54.enc (x21)]) rfl ent32 rfl) h ?_)
            intro r23 w22 h
            refine ro_nil ?_
            exact ⟨(), _, arr (upd_step (upd_step rfl rfl) rfl), h⟩
          · refine wp_skip ?_
            exact ⟨(), _, arr (upd_step (upd_step rfl rfl) rfl), h⟩

end Go.Proofs.YtpdaapffkdejoaaGreat.Cf
