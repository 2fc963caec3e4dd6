/- Characteristic formulae of Go functions, and that they are. Printed by gen.py (own tool). -/
import Derived.Test.YtpdaapffkdejoaaGreatTy
namespace Go.Proofs.YtpdaapffkdejoaaGreat.Cf
open Go
set_option maxRecDepth 100000
set_option maxHeartbeats 1000000
set_option linter.unusedVariables false
set_option linter.unusedSimpArgs false

-- (*moiety/vault.Vault).why
def F39_j2 (a3 : Addr) (a6 : Addr) (has_13 : Addr) (open_14 : Bool) (m19 : (Option Int)) (t_27 : Bool) (w28 : World) (R : (Int × Int) → World → Prop) : Prop :=
  if t_27 = true then (
    R ((0 : Int), (155 : Int)) w28
  ) else (
    if (!open_14) = true then (
      R ((0 : Int), (159 : Int)) w28
    ) else (
      if ((m19.getD (0 : Int), m19.isSome)).2 = true then (
        R ((0 : Int), (160 : Int)) w28
      ) else (
        ex (RdAt tBool (a3.add 3) w28) fun x29 =>
        if (!x29) = true then (
          ex (RdAt (tInt .i64) (has_13.add 1) w28) fun x30 =>
          ex (RdAt (tInt .i64) (a3.add 2) w28) fun x31 =>
          cl Tryz.prog 57 [.int .i64 (x30), .int .i64 (x31)] (tTup2 (tInt .i64) (tInt .i64)) w28 fun r33 w32 =>
          if (r33.2 != (0 : Int)) = true then (
            R ((0 : Int), (162 : Int)) w32
          ) else (
            R ((0 : Int), (0 : Int)) w32
          )
        ) else (
          dr w28 fun w35 =>
          ex (RdAt (tInt .i64) (a3.add 2) w35) fun x36 =>
          ex (RdAt tFlt (a6.add 1) w35) fun x37 =>
          cl Tryz.prog 58 [.int .i64 (x36), .float .f64 (x37)] (tTup2 (tInt .i64) (tInt .i64)) w35 fun r39 w38 =>
          ex (RdAt (tInt .i64) (has_13.add 1) w38) fun x40 =>
          ex (RdAt (tInt .i64) (a3.add 2) w38) fun x41 =>
          if (decide (x40 < (IntKind.i64.wrap (x41 + r39.1)))) = true then (
            R ((0 : Int), (161 : Int)) w38
          ) else (
            R (r39.1, (0 : Int)) w38
          )
        )
      )
    )
  )
def F39_j1 (a3 : Addr) (a6 : Addr) (m9 : (Option S69)) (has_13 : Addr) (open_14 : Bool) (w15 : World) (R : (Int × Int) → World → Prop) : Prop :=
  dr w15 fun w16 =>
  ex (RdAt tMap (a6.add 4) w16) fun x17 =>
  ex (RdAt (tInt .i64) (a3.add 1) w16) fun x18 =>
  ex (MapGet (tInt .i64) .i64 x17 x18 w16) fun m19 =>
  ex (RdAt (tInt .i64) (a3.add 0) w16) fun x20 =>
  if (decide (x20 < (1 : Int))) = true then (
    R ((0 : Int), (156 : Int)) w16
  ) else (
    if ((m9.getD Z69, m9.isSome)).2 = true then (
      R ((0 : Int), (157 : Int)) w16
    ) else (
      ex (RdAt tMap (a6.add 5) w16) fun x21 =>
      ex (MapLen x21 w16) fun l22 =>
      if (decide ((l22 : Int) ≥ (5000 : Int))) = true then (
        R ((0 : Int), (158 : Int)) w16
      ) else (
        ex (RdAt (tInt .i64) (a3.add 1) w16) fun x23 =>
        cl Tryz.prog 43 [.int .i64 (x23)] tBool w16 fun r25 w24 =>
        if (!r25) = true then (
          R ((0 : Int), (153 : Int)) w24
        ) else (
          ex (RdAt (tInt .i64) (a3.add 2) w24) fun x26 =>
          if (decide (x26 < (1 : Int))) = true then (
            F39_j2 a3 a6 has_13 open_14 m19 true w24 R
          ) else (
            ex (RdAt (tInt .i64) (a3.add 2) w24) fun x48 =>
            cl Tryz.prog 44 [.int .i64 (x48)] (tInt .i64) w24 fun r50 w49 =>
            F39_j2 a3 a6 has_13 open_14 m19 (r50 != (0 : Int)) w49 R
          )
        )
      )
    )
  )
def F39 (v_1 : (Option Addr)) (p_2 : S52) (w : World) (R : (Int × Int) → World → Prop) : Prop :=
  nw 53 T52 p_2 w fun a3 w4 =>
  dr w4 fun w5 =>
  ex (NC v_1) fun a6 =>
  ex (RdAt tMap (a6.add 5) w5) fun x7 =>
  ex (RdAt (tInt .i64) (a3.add 0) w5) fun x8 =>
  ex (MapGet T69 .i64 x7 x8 w5) fun m9 =>
  nw 70 T69 Z69 w5 fun a10 w11 =>
  st T69 a10 (((m9.getD Z69, m9.isSome)).1) w11 fun w12 =>
  dr w12 fun w55 =>
  ex (RdAt tPtr ((a6.add 0).add 0) w55) fun x56 =>
  ex (RdAt (tInt .i64) (a3.add 1) w55) fun x57 =>
  bth (
    cl Tryz.prog 42 [.pointer (x56), .int .i64 (x57)] (tTup2 T86 tBool) w55 fun r59 w58 =>
    nw 87 T86 Z86 w58 fun a60 w61 =>
    st T86 a60 r59.1 w61 fun w62 =>
    F39_j1 a3 a6 m9 a60 r59.2 w62 R
  ) (
    nw 87 T86 Z86 w55 fun a63 w64 =>
    cl Tryz.prog 42 [.pointer (x56), .int .i64 (x57)] (tTup2 T86 tBool) w64 fun r66 w65 =>
    st T86 a63 r66.1 w65 fun w67 =>
    F39_j1 a3 a6 m9 a63 r66.2 w67 R
  )
theorem F39_ok {v_1 : (Option Addr)} {p_2 : S52} {w : World} {R : (Int × Int) → World → Prop} (h : F39 v_1 p_2 w R) : cl Tryz.prog 39 [.pointer (v_1), T52.enc (p_2)] (tTup2 (tInt .i64) (tInt .i64)) w R := by
  unfold F39 at h
  refine calls_start 111 Tryz.func39 rfl rfl (Nat.le_of_ble_eq_true rfl) ?_
  refine wp_seq ?_
  refine wp_text [0, 1, 2] rfl ?_
  obtain ⟨a3, w4, ha3, hw4, h⟩ := nw_open h
  refine rv 3 rfl rfl rfl (q_box (u := p_2) rfl ok53 rfl ha3 hw4) ?_
  refine rv 4 rfl rfl rfl (q_assign (v := .int .i64 ((0 : Int))) rfl rfl) ?_
  refine rv 5 rfl rfl rfl (q_assign (v := .int .i64 ((0 : Int))) rfl rfl) ?_
  refine ro_nil ?_
  refine wp_seq ?_
  obtain ⟨w5, hw5, h⟩ := dr_open h
  refine wp_drawn 13 mixed rfl (by kernel_rfl) (by intro c a d v w h; cases d <;> exact h) hw5 (fun hD => ?_)
  refine rp 0 17 hD rfl rfl rfl (fun _ => q_move (v := .pointer (v_1)) rfl rfl) ?_
  obtain ⟨a6, ha6, h⟩ := h
  refine rp 1 18 hD rfl rfl rfl (fun _ => q_nilCheck (a := a6) rfl (congrArg Value.pointer ha6)) ?_
  refine rp 2 19 hD rfl rfl rfl (fun _ => q_fieldAddr (a := a6) (off := 5) rfl Tryz.underlying35 rfl rfl ok33 (by decide) rfl) ?_
  refine rp 4 21 hD rfl rfl rfl (fun _ => q_fieldAddr (a := a3) (off := 0) rfl Tryz.underlying53 rfl rfl ok3 (by decide) rfl) ?_
  obtain ⟨x7, hx7, h⟩ := h
  refine rd_read (i := 3) (d := (some 20)) (fun W => (RdAt tMap (a6.add 5) W) x7) hD (by kernel_rfl) (by kernel_rfl) rfl (.free rfl) rfl (fun W hr => q_load (T := tMap) (u := x7) (a := (a6.add 5)) rfl ok33 rfl hr) hx7 ?_
  obtain ⟨x8, hx8, h⟩ := h
  refine rd_read (i := 5) (d := (some 22)) (fun W => (RdAt (tInt .i64) (a3.add 0) W) x8) hD (by kernel_rfl) (by kernel_rfl) rfl (.free rfl) rfl (fun W hr => q_load (T := (tInt .i64)) (u := x8) (a := (a3.add 0)) rfl ok3 rfl hr) hx8 ?_
  obtain ⟨m9, hm9, h⟩ := h
  refine rd_read (i := 6) (d := (some 23)) (fun W => (MapGet T69 .i64 x7 x8 W) m9) hD (by kernel_rfl) (by kernel_rfl) rfl (.free rfl) rfl (fun W hr => q_lookup2 (T := T69) (r := x7) (key := x8) (u := m9) (z := Z69) rfl Tryz.underlying33 Tryz.underlying3 (inf70) rfl rfl hr) hm9 ?_
  refine rp 7 16 hD rfl rfl rfl (fun _ => q_move (v := (tTup2 T69 tBool).enc (((m9.getD Z69, m9.isSome)))) rfl rfl) ?_
  refine rp 8 24 hD rfl rfl rfl (fun _ => q_extract (vs := #[T69.enc (((m9.getD Z69, m9.isSome)).1), .bool (((m9.getD Z69, m9.isSome)).2)]) (v := T69.enc (((m9.getD Z69, m9.isSome)).1)) rfl rfl rfl) ?_
  refine rp 9 25 hD rfl rfl rfl (fun _ => q_extract (vs := #[T69.enc (((m9.getD Z69, m9.isSome)).1), .bool (((m9.getD Z69, m9.isSome)).2)]) (v := .bool (((m9.getD Z69, m9.isSome)).2)) rfl rfl rfl) ?_
  refine rd_one (i := 10) (by kernel_rfl) ?_
  obtain ⟨a10, w11, ha10, hw11, h⟩ := nw_open h
  refine po_val (d := (some 6)) rfl (.free rfl) rfl (q_alloc (u := Z69) rfl ok70 inf70 ha10 hw11) ⟨(hk_keep (fun h => keep_MapGet hw11 h) (hk_keep (fun h => keep_RdAt hw11 h) (hk_keep (fun h => keep_RdAt hw11 h) hk_nil))), ?_⟩
  refine rd_one (i := 11) (by kernel_rfl) ?_
  obtain ⟨w12, hw12, hrw12, h⟩ := st_open h
  refine po_skip (d := none) rfl (.free rfl) rfl (q_store (T := T69) (u := ((m9.getD Z69, m9.isSome)).1) (a := a10) rfl ok70 rfl rfl hrw12 hw12) ⟨(hk_wait (by kernel_rfl) (hk_wait (by kernel_rfl) (hk_wait (by kernel_rfl) hk_nil))), ?_⟩
  refine rp 12 7 hD rfl rfl rfl (fun _ => q_assign (v := .bool (((m9.getD Z69, m9.isSome)).2)) rfl rfl) ?_
  refine rd_nil (by kernel_rfl) ?_
  refine seq_join (σ := Addr × Bool) (J := fun (s : Addr × Bool) w => F39_j1 a3 a6 m9 s.1 s.2 w R) (fr := fun g (s : Addr × Bool) => upd (upd (upd (upd (upd (g) 0 (.pointer (v_1))) 3 (.pointer (some a3))) 7 (.bool (((m9.getD Z69, m9.isSome)).2))) 8 (.pointer (some s.1))) 9 (.bool (s.2))) ?_ ?_
  · rintro ⟨has_13, open_14⟩ g w15 h
    unfold F39_j1 at h
    refine wp_seq ?_
    obtain ⟨w16, hw16, h⟩ := dr_open h
    refine wp_drawn 12 mixed rfl (by kernel_rfl) (by intro c a d v w h; cases d <;> exact h) hw16 (fun hD => ?_)
    refine rp 0 38 hD rfl rfl rfl (fun _ => q_move (v := .pointer (v_1)) rfl rfl) ?_
    refine rp 1 39 hD rfl rfl rfl (fun _ => q_nilCheck (a := a6) rfl (congrArg Value.pointer ha6)) ?_
    refine rp 2 40 hD rfl rfl rfl (fun _ => q_fieldAddr (a := a6) (off := 4) rfl Tryz.underlying35 rfl rfl ok32 (by decide) rfl) ?_
    refine rp 4 42 hD rfl rfl rfl (fun _ => q_fieldAddr (a := a3) (off := 1) rfl Tryz.underlying53 rfl rfl ok3 (by decide) rfl) ?_
    obtain ⟨x17, hx17, h⟩ := h
    refine rd_read (i := 3) (d := (some 41)) (fun W => (RdAt tMap (a6.add 4) W) x17) hD (by kernel_rfl) (by kernel_rfl) rfl (.free rfl) rfl (fun W hr => q_load (T := tMap) (u := x17) (a := (a6.add 4)) rfl ok32 rfl hr) hx17 ?_
    obtain ⟨x18, hx18, h⟩ := h
    refine rd_read (i := 5) (d := (some 43)) (fun W => (RdAt (tInt .i64) (a3.add 1) W) x18) hD (by kernel_rfl) (by kernel_rfl) rfl (.free rfl) rfl (fun W hr => q_load (T := (tInt .i64)) (u := x18) (a := (a3.add 1)) rfl ok3 rfl hr) hx18 ?_
    obtain ⟨m19, hm19, h⟩ := h
    refine rd_read (i := 6) (d := (some 44)) (fun W => (MapGet (tInt .i64) .i64 x17 x18 W) m19) hD (by kernel_rfl) (by kernel_rfl) rfl (.free rfl) rfl (fun W hr => q_lookup2 (T := (tInt .i64)) (r := x17) (key := x18) (u := m19) (z := (0 : Int)) rfl Tryz.underlying32 Tryz.underlying3 (inf3) rfl rfl hr) hm19 ?_
    refine rp 7 37 hD rfl rfl rfl (fun _ => q_move (v := (tTup2 (tInt .i64) tBool).enc (((m19.getD (0 : Int), m19.isSome)))) rfl rfl) ?_
    refine rp 8 45 hD rfl rfl rfl (fun _ => q_extract (vs := #[.int .i64 (((m19.getD (0 : Int), m19.isSome)).1), .bool (((m19.getD (0 : Int), m19.isSome)).2)]) (v := .int .i64 (((m19.getD (0 : Int), m19.isSome)).1)) rfl rfl rfl) ?_
    refine rp 9 46 hD rfl rfl rfl (fun _ => q_extract (vs := #[.int .i64 (((m19.getD (0 : Int), m19.isSome)).1), .bool (((m19.getD (0 : Int), m19.isSome)).2)]) (v := .bool (((m19.getD (0 : Int), m19.isSome)).2)) rfl rfl rfl) ?_
    refine rp 10 10 hD rfl rfl rfl (fun _ => q_assign (v := .int .i64 (((m19.getD (0 : Int), m19.isSome)).1)) rfl rfl) ?_
    refine rp 11 11 hD rfl rfl rfl (fun _ => q_assign (v := .bool (((m19.getD (0 : Int), m19.isSome)).2)) rfl rfl) ?_
    refine rd_nil (by kernel_rfl) ?_
    refine wp_seq ?_
    refine wp_block ?_
    refine wp_seq ?_
    refine wp_text [0, 1, 2, 3] rfl ?_
    refine rv 48 rfl rfl rfl (q_fieldAddr (a := a3) (off := 0) rfl Tryz.underlying53 rfl rfl ok3 (by decide) rfl) ?_
    obtain ⟨x20, hx20, h⟩ := h
    refine rv 49 rfl rfl rfl (q_load (T := (tInt .i64)) (u := x20) (a := (a3.add 0)) rfl ok3 rfl hx20) ?_
    refine rv 50 rfl rfl rfl (q_lss (a := x20) (b := (1 : Int)) rfl rfl rfl) ?_
    refine rv 47 rfl rfl rfl (q_assign (v := .bool ((decide (x20 < (1 : Int))))) rfl rfl) ?_
    refine ro_nil ?_
    refine wp_if (b := (decide (x20 < (1 : Int)))) rfl h (fun hb54 h => ?_) (fun hb54 h => ?_)
    · refine wp_seq ?_
      refine wp_text [0, 1] rfl ?_
      refine rv 4 rfl rfl rfl (q_assign (v := .int .i64 ((0 : Int))) rfl rfl) ?_
      refine rv 5 rfl rfl rfl (q_assign (v := .int .i64 ((156 : Int))) rfl rfl) ?_
      refine ro_nil ?_
      refine wp_ret ?_
      exact ret_ok rfl (.cons (.tmp (v := .int .i64 ((0 : Int))) rfl) (.cons (.tmp (v := .int .i64 ((156 : Int))) rfl) .nil)) ⟨((0 : Int), (156 : Int)), rfl, h⟩
    · refine wp_seq ?_
      refine wp_text [0, 1] rfl ?_
      refine rv 52 rfl rfl rfl (q_move (v := .bool (((m9.getD Z69, m9.isSome)).2)) rfl rfl) ?_
      refine rv 51 rfl rfl rfl (q_assign (v := .bool (((m9.getD Z69, m9.isSome)).2)) rfl rfl) ?_
      refine ro_nil ?_
      refine wp_if (b := ((m9.getD Z69, m9.isSome)).2) rfl h (fun hb53 h => ?_) (fun hb53 h => ?_)
      · refine wp_seq ?_
        refine wp_text [0, 1] rfl ?_
        refine rv 4 rfl rfl rfl (q_assign (v := .int .i64 ((0 : Int))) rfl rfl) ?_
        refine rv 5 rfl rfl rfl (q_assign (v := .int .i64 ((157 : Int))) rfl rfl) ?_
        refine ro_nil ?_
        refine wp_ret ?_
        exact ret_ok rfl (.cons (.tmp (v := .int .i64 ((0 : Int))) rfl) (.cons (.tmp (v := .int .i64 ((157 : Int))) rfl) .nil)) ⟨((0 : Int), (157 : Int)), rfl, h⟩
      · refine wp_seq ?_
        refine wp_text [0, 1, 2, 3, 4, 5, 6] rfl ?_
        refine rv 54 rfl rfl rfl (q_move (v := .pointer (v_1)) rfl rfl) ?_
        refine rv 55 rfl rfl rfl (q_nilCheck (a := a6) rfl (congrArg Value.pointer ha6)) ?_
        refine rv 56 rfl rfl rfl (q_fieldAddr (a := a6) (off := 5) rfl Tryz.underlying35 rfl rfl ok33 (by decide) rfl) ?_
        obtain ⟨x21, hx21, h⟩ := h
        refine rv 57 rfl rfl rfl (q_load (T := tMap) (u := x21) (a := (a6.add 5)) rfl ok33 rfl hx21) ?_
        obtain ⟨l22, hl22, h⟩ := h
        refine rv 58 rfl rfl rfl (q_lenM (r := x21) (l := l22) rfl Tryz.underlying33 rfl hl22) ?_
        refine rv 59 rfl rfl rfl (q_geq (a := (l22 : Int)) (b := (5000 : Int)) rfl rfl rfl) ?_
        refine rv 53 rfl rfl rfl (q_assign (v := .bool ((decide ((l22 : Int) ≥ (5000 : Int))))) rfl rfl) ?_
        refine ro_nil ?_
        refine wp_if (b := (decide ((l22 : Int) ≥ (5000 : Int)))) rfl h (fun hb52 h => ?_) (fun hb52 h => ?_)
        · refine wp_seq ?_
          refine wp_text [0, 1] rfl ?_
          refine rv 4 rfl rfl rfl (q_assign (v := .int .i64 ((0 : Int))) rfl rfl) ?_
          refine rv 5 rfl rfl rfl (q_assign (v := .int .i64 ((158 : Int))) rfl rfl) ?_
          refine ro_nil ?_
          refine wp_ret ?_
          exact ret_ok rfl (.cons (.tmp (v := .int .i64 ((0 : Int))) rfl) (.cons (.tmp (v := .int .i64 ((158 : Int))) rfl) .nil)) ⟨((0 : Int), (158 : Int)), rfl, h⟩
        · refine wp_seq ?_
          refine wp_text [0, 1, 2, 3, 4] rfl ?_
          refine rv 61 rfl rfl rfl (q_fieldAddr (a := a3) (off := 1) rfl Tryz.underlying53 rfl rfl ok3 (by decide) rfl) ?_
          obtain ⟨x23, hx23, h⟩ := h
          refine rv 62 rfl rfl rfl (q_load (T := (tInt .i64)) (u := x23) (a := (a3.add 1)) rfl ok3 rfl hx23) ?_
          refine ro_wp rfl (.free rfl) (wp_cl (d := (some 63)) rfl (q_call (k := 43) (l := [.int .i64 (x23)]) rfl ent43 rfl) h ?_)
          intro r25 w24 h
          refine rv 64 rfl rfl rfl (q_not (b := r25) rfl rfl) ?_
          refine rv 60 rfl rfl rfl (q_assign (v := .bool ((!r25))) rfl rfl) ?_
          refine ro_nil ?_
          refine wp_if (b := (!r25)) rfl h (fun hb51 h => ?_) (fun hb51 h => ?_)
          · refine wp_seq ?_
            refine wp_text [0, 1] rfl ?_
            refine rv 4 rfl rfl rfl (q_assign (v := .int .i64 ((0 : Int))) rfl rfl) ?_
            refine rv 5 rfl rfl rfl (q_assign (v := .int .i64 ((153 : Int))) rfl rfl) ?_
            refine ro_nil ?_
            refine wp_ret ?_
            exact ret_ok rfl (.cons (.tmp (v := .int .i64 ((0 : Int))) rfl) (.cons (.tmp (v := .int .i64 ((153 : Int))) rfl) .nil)) ⟨((0 : Int), (153 : Int)), rfl, h⟩
          · refine wp_seq ?_
            refine wp_text [0, 1, 2, 3, 4, 5, 6, 7, 8, 9] rfl ?_
            refine rv 66 rfl rfl rfl (q_fieldAddr (a := a3) (off := 2) rfl Tryz.underlying53 rfl rfl ok2 (by decide) rfl) ?_
            obtain ⟨x26, hx26, h⟩ := h
            refine rv 67 rfl rfl rfl (q_load (T := (tInt .i64)) (u := x26) (a := (a3.add 2)) rfl ok2 rfl hx26) ?_
            refine rv 68 rfl rfl rfl (q_lss (a := x26) (b := (1 : Int)) rfl rfl rfl) ?_
            refine rv 69 rfl rfl rfl (q_move (v := .bool ((decide (x26 < (1 : Int))))) rfl rfl) ?_
            refine ro_join (σ := Bool) (J := fun (s : Bool) w => F39_j2 a3 a6 has_13 open_14 m19 s w R) (fr := fun g (s : Bool) => upd (upd (upd (upd (upd (upd (g) 0 (.pointer (v_1))) 3 (.pointer (some a3))) 8 (.pointer (some has_13))) 9 (.bool (open_14))) 11 (.bool (((m19.getD (0 : Int), m19.isSome)).2))) 74 (.bool (s))) [4, 5, 6, 7, 8] [9] ?_ ?_
            · rintro t_27 g w28 h
              unfold F39_j2 at h
              refine rv 65 rfl rfl rfl (q_assign (v := .bool (t_27)) rfl rfl) ?_
              refine ro_nil ?_
              refine wp_if (b := t_27) rfl h (fun hb46 h => ?_) (fun hb46 h => ?_)
              · refine wp_seq ?_
                refine wp_text [0, 1] rfl ?_
                refine rv 4 rfl rfl rfl (q_assign (v := .int .i64 ((0 : Int))) rfl rfl) ?_
                refine rv 5 rfl rfl rfl (q_assign (v := .int .i64 ((155 : Int))) rfl rfl) ?_
                refine ro_nil ?_
                refine wp_ret ?_
                exact ret_ok rfl (.cons (.tmp (v := .int .i64 ((0 : Int))) rfl) (.cons (.tmp (v := .int .i64 ((155 : Int))) rfl) .nil)) ⟨((0 : Int), (155 : Int)), rfl, h⟩
              · refine wp_seq ?_
                refine wp_text [0, 1, 2] rfl ?_
                refine rv 76 rfl rfl rfl (q_move (v := .bool (open_14)) rfl rfl) ?_
                refine rv 77 rfl rfl rfl (q_not (b := open_14) rfl rfl) ?_
                refine rv 75 rfl rfl rfl (q_assign (v := .bool ((!open_14))) rfl rfl) ?_
                refine ro_nil ?_
                refine wp_if (b := (!open_14)) rfl h (fun hb45 h => ?_) (fun hb45 h => ?_)
                · refine wp_seq ?_
                  refine wp_text [0, 1] rfl ?_
                  refine rv 4 rfl rfl rfl (q_assign (v := .int .i64 ((0 : Int))) rfl rfl) ?_
                  refine rv 5 rfl rfl rfl (q_assign (v := .int .i64 ((159 : Int))) rfl rfl) ?_
                  refine ro_nil ?_
                  refine wp_ret ?_
                  exact ret_ok rfl (.cons (.tmp (v := .int .i64 ((0 : Int))) rfl) (.cons (.tmp (v := .int .i64 ((159 : Int))) rfl) .nil)) ⟨((0 : Int), (159 : Int)), rfl, h⟩
                · refine wp_seq ?_
                  refine wp_text [0, 1] rfl ?_
                  refine rv 79 rfl rfl rfl (q_move (v := .bool (((m19.getD (0 : Int), m19.isSome)).2)) rfl rfl) ?_
                  refine rv 78 rfl rfl rfl (q_assign (v := .bool (((m19.getD (0 : Int), m19.isSome)).2)) rfl rfl) ?_
                  refine ro_nil ?_
                  refine wp_if (b := ((m19.getD (0 : Int), m19.isSome)).2) rfl h (fun hb44 h => ?_) (fun hb44 h => ?_)
                  · refine wp_seq ?_
                    refine wp_text [0, 1] rfl ?_
                    refine rv 4 rfl rfl rfl (q_assign (v := .int .i64 ((0 : Int))) rfl rfl) ?_
                    refine rv 5 rfl rfl rfl (q_assign (v := .int .i64 ((160 : Int))) rfl rfl) ?_
                    refine ro_nil ?_
                    refine wp_ret ?_
                    exact ret_ok rfl (.cons (.tmp (v := .int .i64 ((0 : Int))) rfl) (.cons (.tmp (v := .int .i64 ((160 : Int))) rfl) .nil)) ⟨((0 : Int), (160 : Int)), rfl, h⟩
                  · refine wp_skip ?_
                    refine wp_seq ?_
                    refine wp_seq ?_
                    refine wp_text [0, 1, 2] rfl ?_
                    refine rv 80 rfl rfl rfl (q_fieldAddr (a := a3) (off := 3) rfl Tryz.underlying53 rfl rfl ok4 (by decide) rfl) ?_
                    obtain ⟨x29, hx29, h⟩ := h
                    refine rv 81 rfl rfl rfl (q_load (T := tBool) (u := x29) (a := (a3.add 3)) rfl ok4 rfl hx29) ?_
                    refine rv 82 rfl rfl rfl (q_not (b := x29) rfl rfl) ?_
                    refine ro_nil ?_
                    refine wp_if (b := (!x29)) rfl h (fun hb43 h => ?_) (fun hb43 h => ?_)
                    · refine wp_seq ?_
                      refine wp_seq ?_
                      refine wp_text [0, 1, 2, 3, 4, 5, 6, 7, 8, 9] rfl ?_
                      refine rv 84 rfl rfl rfl (q_fieldAddr (a := has_13) (off := 1) rfl Tryz.underlying87 rfl rfl ok2 (by decide) rfl) ?_
                      obtain ⟨x30, hx30, h⟩ := h
                      refine rv 85 rfl rfl rfl (q_load (T := (tInt .i64)) (u := x30) (a := (has_13.add 1)) rfl ok2 rfl hx30) ?_
                      refine rv 86 rfl rfl rfl (q_fieldAddr (a := a3) (off := 2) rfl Tryz.underlying53 rfl rfl ok2 (by decide) rfl) ?_
                      obtain ⟨x31, hx31, h⟩ := h
                      refine rv 87 rfl rfl rfl (q_load (T := (tInt .i64)) (u := x31) (a := (a3.add 2)) rfl ok2 rfl hx31) ?_
                      refine ro_wp rfl (.free rfl) (wp_cl (d := (some 88)) rfl (q_call (k := 57) (l := [.int .i64 (x30), .int .i64 (x31)]) rfl ent57 rfl) h ?_)
                      intro r33 w32 h
                      refine rv 83 rfl rfl rfl (q_move (v := (tTup2 (tInt .i64) (tInt .i64)).enc (r33)) rfl rfl) ?_
                      refine rv 89 rfl rfl rfl (q_extract (vs := #[.int .i64 (r33.1), .int .i64 (r33.2)]) (v := .int .i64 (r33.1)) rfl rfl rfl) ?_
                      refine rv 90 rfl rfl rfl (q_extract (vs := #[.int .i64 (r33.1), .int .i64 (r33.2)]) (v := .int .i64 (r33.2)) rfl rfl rfl) ?_
                      refine rv 12 rfl rfl rfl (q_assign (v := .int .i64 (r33.1)) rfl rfl) ?_
                      refine rv 13 rfl rfl rfl (q_assign (v := .int .i64 (r33.2)) rfl rfl) ?_
                      refine ro_nil ?_
                      refine wp_seq ?_
                      refine wp_text [0, 1] rfl ?_
                      refine rv 91 rfl rfl rfl (q_move (v := .int .i64 (r33.2)) rfl rfl) ?_
                      refine rv 92 rfl rfl rfl (q_neq (a := r33.2) (b := (0 : Int)) rfl rfl rfl) ?_
                      refine ro_nil ?_
                      refine wp_if (b := (r33.2 != (0 : Int))) rfl h (fun hb34 h => ?_) (fun hb34 h => ?_)
                      · refine wp_seq ?_
                        refine wp_text [0, 1] rfl ?_
                        refine rv 4 rfl rfl rfl (q_assign (v := .int .i64 ((0 : Int))) rfl rfl) ?_
                        refine rv 5 rfl rfl rfl (q_assign (v := .int .i64 ((162 : Int))) rfl rfl) ?_
                        refine ro_nil ?_
                        refine wp_ret ?_
                        exact ret_ok rfl (.cons (.tmp (v := .int .i64 ((0 : Int))) rfl) (.cons (.tmp (v := .int .i64 ((162 : Int))) rfl) .nil)) ⟨((0 : Int), (162 : Int)), rfl, h⟩
                      · refine wp_skip ?_
                        refine wp_seq ?_
                        refine wp_text [0, 1] rfl ?_
                        refine rv 4 rfl rfl rfl (q_assign (v := .int .i64 ((0 : Int))) rfl rfl) ?_
                        refine rv 5 rfl rfl rfl (q_assign (v := .int .i64 ((0 : Int))) rfl rfl) ?_
                        refine ro_nil ?_
                        refine wp_ret ?_
                        exact ret_ok rfl (.cons (.tmp (v := .int .i64 ((0 : Int))) rfl) (.cons (.tmp (v := .int .i64 ((0 : Int))) rfl) .nil)) ⟨((0 : Int), (0 : Int)), rfl, h⟩
                    · refine wp_skip ?_
                      refine wp_seq ?_
                      obtain ⟨w35, hw35, h⟩ := dr_open h
                      refine wp_drawn 12 mixed rfl (by kernel_rfl) (by intro c a d v w h; cases d <;> exact h) hw35 (fun hD => ?_)
                      refine rp 0 94 hD rfl rfl rfl (fun _ => q_fieldAddr (a := a3) (off := 2) rfl Tryz.underlying53 rfl rfl ok2 (by decide) rfl) ?_
                      refine rp 2 96 hD rfl rfl rfl (fun _ => q_move (v := .pointer (v_1)) rfl rfl) ?_
                      refine rp 3 97 hD rfl rfl rfl (fun _ => q_nilCheck (a := a6) rfl (congrArg Value.pointer ha6)) ?_
                      refine rp 4 98 hD rfl rfl rfl (fun _ => q_fieldAddr (a := a6) (off := 1) rfl Tryz.underlying35 rfl rfl ok22 (by decide) rfl) ?_
                      obtain ⟨x36, hx36, h⟩ := h
                      refine rd_read (i := 1) (d := (some 95)) (fun W => (RdAt (tInt .i64) (a3.add 2) W) x36) hD (by kernel_rfl) (by kernel_rfl) rfl (.free rfl) rfl (fun W hr => q_load (T := (tInt .i64)) (u := x36) (a := (a3.add 2)) rfl ok2 rfl hr) hx36 ?_
                      obtain ⟨x37, hx37, h⟩ := h
                      refine rd_read (i := 5) (d := (some 99)) (fun W => (RdAt tFlt (a6.add 1) W) x37) hD (by kernel_rfl) (by kernel_rfl) rfl (.free rfl) rfl (fun W hr => q_load (T := tFlt) (u := x37) (a := (a6.add 1)) rfl ok22 rfl hr) hx37 ?_
                      refine rd_one (i := 6) (by kernel_rfl) ?_
                      refine po_wp rfl (.free rfl) (wp_cl (d := (some 100)) rfl (q_call (k := 58) (l := [.int .i64 (x36), .float .f64 (x37)]) rfl ent58 rfl) h ?_)
                      intro r39 w38 h
                      refine ⟨(hk_wait (by kernel_rfl) (hk_wait (by kernel_rfl) hk_nil)), ?_⟩
                      refine rp 7 93 hD rfl rfl rfl (fun _ => q_move (v := (tTup2 (tInt .i64) (tInt .i64)).enc (r39)) rfl rfl) ?_
                      refine rp 8 101 hD rfl rfl rfl (fun _ => q_extract (vs := #[.int .i64 (r39.1), .int .i64 (r39.2)]) (v := .int .i64 (r39.1)) rfl rfl rfl) ?_
                      refine rp 9 102 hD rfl rfl rfl (fun _ => q_extract (vs := #[.int .i64 (r39.1), .int .i64 (r39.2)]) (v := .int .i64 (r39.2)) rfl rfl rfl) ?_
                      refine rp 10 14 hD rfl rfl rfl (fun _ => q_assign (v := .int .i64 (r39.1)) rfl rfl) ?_
                      refine rp 11 15 hD rfl rfl rfl (fun _ => q_assign (v := .int .i64 (r39.2)) rfl rfl) ?_
                      refine rd_nil (by kernel_rfl) ?_
                      refine wp_seq ?_
                      refine wp_seq ?_
                      refine wp_text [0, 1, 2, 3, 4, 5, 6] rfl ?_
                      refine rv 103 rfl rfl rfl (q_fieldAddr (a := has_13) (off := 1) rfl Tryz.underlying87 rfl rfl ok2 (by decide) rfl) ?_
                      obtain ⟨x40, hx40, h⟩ := h
                      refine rv 104 rfl rfl rfl (q_load (T := (tInt .i64)) (u := x40) (a := (has_13.add 1)) rfl ok2 rfl hx40) ?_
                      refine rv 105 rfl rfl rfl (q_fieldAddr (a := a3) (off := 2) rfl Tryz.underlying53 rfl rfl ok2 (by decide) rfl) ?_
                      obtain ⟨x41, hx41, h⟩ := h
                      refine rv 106 rfl rfl rfl (q_load (T := (tInt .i64)) (u := x41) (a := (a3.add 2)) rfl ok2 rfl hx41) ?_
                      refine rv 107 rfl rfl rfl (q_move (v := .int .i64 (r39.1)) rfl rfl) ?_
                      refine rv 108 rfl rfl rfl (q_add (a := x41) (b := r39.1) rfl rfl rfl) ?_
                      refine rv 109 rfl rfl rfl (q_lss (a := x40) (b := (IntKind.i64.wrap (x41 + r39.1))) rfl rfl rfl) ?_
                      refine ro_nil ?_
                      refine wp_if (b := (decide (x40 < (IntKind.i64.wrap (x41 + r39.1))))) rfl h (fun hb42 h => ?_) (fun hb42 h => ?_)
                      · refine wp_seq ?_
                        refine wp_text [0, 1] rfl ?_
                        refine rv 4 rfl rfl rfl (q_assign (v := .int .i64 ((0 : Int))) rfl rfl) ?_
                        refine rv 5 rfl rfl rfl (q_assign (v := .int .i64 ((161 : Int))) rfl rfl) ?_
                        refine ro_nil ?_
                        refine wp_ret ?_
                        exact ret_ok rfl (.cons (.tmp (v := .int .i64 ((0 : Int))) rfl) (.cons (.tmp (v := .int .i64 ((161 : Int))) rfl) .nil)) ⟨((0 : Int), (161 : Int)), rfl, h⟩
                      · refine wp_skip ?_
                        refine wp_seq ?_
                        refine wp_text [0, 1, 2] rfl ?_
                        refine rv 110 rfl rfl rfl (q_move (v := .int .i64 (r39.1)) rfl rfl) ?_
                        refine rv 4 rfl rfl rfl (q_assign (v := .int .i64 (r39.1)) rfl rfl) ?_
                        refine rv 5 rfl rfl rfl (q_assign (v := .int .i64 ((0 : Int))) rfl rfl) ?_
                        refine ro_nil ?_
                        refine wp_ret ?_
                        exact ret_ok rfl (.cons (.tmp (v := .int .i64 (r39.1)) rfl) (.cons (.tmp (v := .int .i64 ((0 : Int))) rfl) .nil)) ⟨(r39.1, (0 : Int)), rfl, h⟩
            · refine ro_if (b := (decide (x26 < (1 : Int)))) h (fun hb47 h => ?_) (fun hb47 h => ?_)
              · refine ro_bar (d := (some 70)) rfl (.by_ 3 false 69 (decide (x26 < (1 : Int))) rfl rfl rfl hb47) rfl ?_
                refine ro_bar (d := (some 71)) rfl (.by_ 3 false 69 (decide (x26 < (1 : Int))) rfl rfl rfl hb47) rfl ?_
                refine ro_bar (d := (some 72)) rfl (.by_ 3 false 69 (decide (x26 < (1 : Int))) rfl rfl rfl hb47) rfl ?_
                refine ro_bar (d := (some 73)) rfl (.by_ 3 false 69 (decide (x26 < (1 : Int))) rfl rfl rfl hb47) rfl ?_
                refine rv 74 rfl rfl rfl (q_pickT (v := .bool (true)) (b := (decide (x26 < (1 : Int)))) rfl rfl hb47 rfl) ?_
                refine ro_nil ?_
                exact ⟨(true), _, arr (upd_step (upd_step (upd_step (upd_step (upd_step (upd_step rfl rfl) rfl) rfl) rfl) rfl) rfl), h⟩
              · refine ro_val (d := (some 70)) rfl (.by_ 3 false 69 (decide (x26 < (1 : Int))) rfl rfl rfl hb47) rfl (q_fieldAddr (a := a3) (off := 2) rfl Tryz.underlying53 rfl rfl ok2 (by decide) rfl) ?_
                obtain ⟨x48, hx48, h⟩ := h
                refine ro_val (d := (some 71)) rfl (.by_ 3 false 69 (decide (x26 < (1 : Int))) rfl rfl rfl hb47) rfl (q_load (T := (tInt .i64)) (u := x48) (a := (a3.add 2)) rfl ok2 rfl hx48) ?_
                refine ro_wp rfl (.by_ 3 false 69 (decide (x26 < (1 : Int))) rfl rfl rfl hb47) (wp_cl (d := (some 72)) rfl (q_call (k := 44) (l := [.int .i64 (x48)]) rfl ent44 rfl) h ?_)
                intro r50 w49 h
                refine ro_val (d := (some 73)) rfl (.by_ 3 false 69 (decide (x26 < (1 : Int))) rfl rfl rfl hb47) rfl (q_neq (a := r50) (b := (0 : Int)) rfl rfl rfl) ?_
                refine rv 74 rfl rfl rfl (q_pickF (v := .bool ((r50 != (0 : Int)))) (b := (decide (x26 < (1 : Int)))) rfl rfl hb47 rfl) ?_
                refine ro_nil ?_
                exact ⟨((r50 != (0 : Int))), _, arr (upd_step (upd_step (upd_step (upd_step (upd_step (upd_step rfl rfl) rfl) rfl) rfl) rfl) rfl), h⟩
  · obtain ⟨w55, hw55, h⟩ := dr_open h
    refine wp_drawn 14 mixed rfl (by kernel_rfl) (by intro c a d v w h; cases d <;> exact h) hw55 (fun hD => ?_)
    refine rp 0 27 hD rfl rfl rfl (fun _ => q_move (v := .pointer (v_1)) rfl rfl) ?_
    refine rp 1 28 hD rfl rfl rfl (fun _ => q_nilCheck (a := a6) rfl (congrArg Value.pointer ha6)) ?_
    refine rp 2 29 hD rfl rfl rfl (fun _ => q_fieldAddr (a := a6) (off := 0) rfl Tryz.underlying35 rfl rfl ok30 (by decide) rfl) ?_
    refine rp 3 30 hD rfl rfl rfl (fun _ => q_fieldAddr (a := (a6.add 0)) (off := 0) rfl Tryz.underlying30 rfl rfl ok28 (by decide) rfl) ?_
    refine rp 5 32 hD rfl rfl rfl (fun _ => q_fieldAddr (a := a3) (off := 1) rfl Tryz.underlying53 rfl rfl ok3 (by decide) rfl) ?_
    obtain ⟨x56, hx56, h⟩ := h
    refine rd_read (i := 4) (d := (some 31)) (fun W => (RdAt tPtr ((a6.add 0).add 0) W) x56) hD (by kernel_rfl) (by kernel_rfl) rfl (.free rfl) rfl (fun W hr => q_load (T := tPtr) (u := x56) (a := ((a6.add 0).add 0)) rfl ok28 rfl hr) hx56 ?_
    obtain ⟨x57, hx57, h⟩ := h
    refine rd_read (i := 6) (d := (some 33)) (fun W => (RdAt (tInt .i64) (a3.add 1) W) x57) hD (by kernel_rfl) (by kernel_rfl) rfl (.free rfl) rfl (fun W hr => q_load (T := (tInt .i64)) (u := x57) (a := (a3.add 1)) rfl ok3 rfl hr) hx57 ?_
    obtain ⟨h, h'⟩ := h
    refine rd_two (i := 7) (j := 11) (by kernel_rfl) ?_ ?_
    · clear h'
      refine po_wp rfl (.free rfl) (wp_cl (d := (some 34)) rfl (q_call (k := 42) (l := [.pointer (x56), .int .i64 (x57)]) rfl ent42 rfl) h ?_)
      intro r59 w58 h
      refine ⟨(hk_wait (by kernel_rfl) (hk_wait (by kernel_rfl) hk_nil)), ?_⟩
      refine rp 8 26 hD rfl rfl rfl (fun _ => q_move (v := (tTup2 T86 tBool).enc (r59)) rfl rfl) ?_
      refine rp 9 35 hD rfl rfl rfl (fun _ => q_extract (vs := #[T86.enc (r59.1), .bool (r59.2)]) (v := T86.enc (r59.1)) rfl rfl rfl) ?_
      refine rp 10 36 hD rfl rfl rfl (fun _ => q_extract (vs := #[T86.enc (r59.1), .bool (r59.2)]) (v := .bool (r59.2)) rfl rfl rfl) ?_
      refine rd_one (i := 11) (by kernel_rfl) ?_
      obtain ⟨a60, w61, ha60, hw61, h⟩ := nw_open h
      refine po_val (d := (some 8)) rfl (.free rfl) rfl (q_alloc (u := Z86) rfl ok87 inf87 ha60 hw61) ⟨(hk_keep (fun h => keep_RdAt hw61 h) (hk_keep (fun h => keep_RdAt hw61 h) hk_nil)), ?_⟩
      refine rd_one (i := 12) (by kernel_rfl) ?_
      obtain ⟨w62, hw62, hrw62, h⟩ := st_open h
      refine po_skip (d := none) rfl (.free rfl) rfl (q_store (T := T86) (u := r59.1) (a := a60) rfl ok87 rfl rfl hrw62 hw62) ⟨(hk_wait (by kernel_rfl) (hk_wait (by kernel_rfl) hk_nil)), ?_⟩
      refine rp 13 9 hD rfl rfl rfl (fun _ => q_assign (v := .bool (r59.2)) rfl rfl) ?_
      refine rd_nil (by kernel_rfl) ?_
      exact ⟨(a60, r59.2), _, arr (upd_step (upd_step (upd_step (upd_step (upd_step rfl rfl) rfl) rfl) rfl) rfl), h⟩
    · replace h := h'; clear h'
      obtain ⟨a63, w64, ha63, hw64, h⟩ := nw_open h
      refine po_val (d := (some 8)) rfl (.free rfl) rfl (q_alloc (u := Z86) rfl ok87 inf87 ha63 hw64) ⟨(hk_keep (fun h => keep_RdAt hw64 h) (hk_keep (fun h => keep_RdAt hw64 h) hk_nil)), ?_⟩
      refine rd_one (i := 7) (by kernel_rfl) ?_
      refine po_wp rfl (.free rfl) (wp_cl (d := (some 34)) rfl (q_call (k := 42) (l := [.pointer (x56), .int .i64 (x57)]) rfl ent42 rfl) h ?_)
      intro r66 w65 h
      refine ⟨(hk_wait (by kernel_rfl) (hk_wait (by kernel_rfl) hk_nil)), ?_⟩
      refine rp 8 26 hD rfl rfl rfl (fun _ => q_move (v := (tTup2 T86 tBool).enc (r66)) rfl rfl) ?_
      refine rp 9 35 hD rfl rfl rfl (fun _ => q_extract (vs := #[T86.enc (r66.1), .bool (r66.2)]) (v := T86.enc (r66.1)) rfl rfl rfl) ?_
      refine rp 10 36 hD rfl rfl rfl (fun _ => q_extract (vs := #[T86.enc (r66.1), .bool (r66.2)]) (v := .bool (r66.2)) rfl rfl rfl) ?_
      refine rd_one (i := 12) (by kernel_rfl) ?_
      obtain ⟨w67, hw67, hrw67, h⟩ := st_open h
      refine po_skip (d := none) rfl (.free rfl) rfl (q_store (T := T86) (u := r66.1) (a := a63) rfl ok87 rfl rfl hrw67 hw67) ⟨(hk_wait (by kernel_rfl) (hk_wait (by kernel_rfl) hk_nil)), ?_⟩
      refine rp 13 9 hD rfl rfl rfl (fun _ => q_assign (v := .bool (r66.2)) rfl rfl) ?_
      refine rd_nil (by kernel_rfl) ?_
      exact ⟨(a63, r66.2), _, arr (upd_step (upd_step (upd_step (upd_step (upd_step rfl rfl) rfl) rfl) rfl) rfl), h⟩

-- moiety/amount.Rate
def F40_j1 (t_4 : Bool) (w5 : World) (R : Int → World → Prop) : Prop :=
  if t_4 = true then (
    R (43 : Int) w5
  ) else (
    R (0 : Int) w5
  )
def F40 (f_1 : Nat) (w : World) (R : Int → World → Prop) : Prop :=
  cl Tryz.prog 59 [.float .f64 (f_1)] (tInt .i64) w fun r3 w2 =>
  if (decide (r3 < (3 : Int))) = true then (
    F40_j1 true w2 R
  ) else (
    cl Tryz.prog 60 [.float .f64 (f_1), .float .f64 ((4607182418800017408 : Nat))] (tInt .i64) w2 fun r9 w8 =>
    F40_j1 (decide (r9 > (0 : Int))) w8 R
  )
theorem F40_ok {f_1 : Nat} {w : World} {R : Int → World → Prop} (h : F40 f_1 w R) : cl Tryz.prog 40 [.float .f64 (f_1)] (tInt .i64) w R := by
  unfold F40 at h
  refine calls_start 11 Tryz.func40 rfl rfl (Nat.le_of_ble_eq_true rfl) ?_
  refine wp_seq ?_
  refine wp_text [0] rfl ?_
  refine rv 2 rfl rfl rfl (q_assign (v := .int .i64 ((0 : Int))) rfl rfl) ?_
  refine ro_nil ?_
  refine wp_seq ?_
  refine wp_seq ?_
  refine wp_text [0, 1, 2, 3, 4, 5, 6, 7] rfl ?_
  refine rv 3 rfl rfl rfl (q_move (v := .float .f64 (f_1)) rfl rfl) ?_
  refine ro_wp rfl (.free rfl) (wp_cl (d := (some 4)) rfl (q_call (k := 59) (l := [.float .f64 (f_1)]) rfl ent59 rfl) h ?_)
  intro r3 w2 h
  refine rv 5 rfl rfl rfl (q_lss (a := r3) (b := (3 : Int)) rfl rfl rfl) ?_
  refine rv 6 rfl rfl rfl (q_move (v := .bool ((decide (r3 < (3 : Int))))) rfl rfl) ?_
  refine ro_join (σ := Bool) (J := fun (s : Bool) w => F40_j1 s w R) (fr := fun g (s : Bool) => upd (g) 10 (.bool (s))) [4, 5, 6, 7] [] ?_ ?_
  · rintro t_4 g w5 h
    unfold F40_j1 at h
    refine ro_nil ?_
    refine wp_if (b := t_4) rfl h (fun hb6 h => ?_) (fun hb6 h => ?_)
    · refine wp_seq ?_
      refine wp_text [0] rfl ?_
      refine rv 2 rfl rfl rfl (q_assign (v := .int .i64 ((43 : Int))) rfl rfl) ?_
      refine ro_nil ?_
      refine wp_ret ?_
      exact ret_ok rfl (.cons (.tmp (v := .int .i64 ((43 : Int))) rfl) .nil) ⟨(43 : Int), rfl, h⟩
    · refine wp_skip ?_
      refine wp_seq ?_
      refine wp_text [0] rfl ?_
      refine rv 2 rfl rfl rfl (q_assign (v := .int .i64 ((0 : Int))) rfl rfl) ?_
      refine ro_nil ?_
      refine wp_ret ?_
      exact ret_ok rfl (.cons (.tmp (v := .int .i64 ((0 : Int))) rfl) .nil) ⟨(0 : Int), rfl, h⟩
  · refine ro_if (b := (decide (r3 < (3 : Int)))) h (fun hb7 h => ?_) (fun hb7 h => ?_)
    · refine ro_bar (d := (some 7)) rfl (.by_ 3 false 6 (decide (r3 < (3 : Int))) rfl rfl rfl hb7) rfl ?_
      refine ro_bar (d := (some 8)) rfl (.by_ 3 false 6 (decide (r3 < (3 : Int))) rfl rfl rfl hb7) rfl ?_
      refine ro_bar (d := (some 9)) rfl (.by_ 3 false 6 (decide (r3 < (3 : Int))) rfl rfl rfl hb7) rfl ?_
      refine rv 10 rfl rfl rfl (q_pickT (v := .bool (true)) (b := (decide (r3 < (3 : Int)))) rfl rfl hb7 rfl) ?_
      refine ro_nil ?_
      exact ⟨(true), _, arr (upd_step rfl rfl), h⟩
    · refine ro_val (d := (some 7)) rfl (.by_ 3 false 6 (decide (r3 < (3 : Int))) rfl rfl rfl hb7) rfl (q_move (v := .float .f64 (f_1)) rfl rfl) ?_
      refine ro_wp rfl (.by_ 3 false 6 (decide (r3 < (3 : Int))) rfl rfl rfl hb7) (wp_cl (d := (some 8)) rfl (q_call (k := 60) (l := [.float .f64 (f_1), .float .f64 ((4607182418800017408 : Nat))]) rfl ent60 rfl) h ?_)
      intro r9 w8 h
      refine ro_val (d := (some 9)) rfl (.by_ 3 false 6 (decide (r3 < (3 : Int))) rfl rfl rfl hb7) rfl (q_gtr (a := r9) (b := (0 : Int)) rfl rfl rfl) ?_
      refine rv 10 rfl rfl rfl (q_pickF (v := .bool ((decide (r9 > (0 : Int))))) (b := (decide (r3 < (3 : Int)))) rfl rfl hb7 rfl) ?_
      refine ro_nil ?_
      exact ⟨((decide (r9 > (0 : Int)))), _, arr (upd_step rfl rfl), h⟩

-- moiety/store.New
def F41 (w : World) (R : (Option Addr) → World → Prop) : Prop :=
  nwMap w fun m2 w1 =>
  nw 95 T94 (⟨(some m2), (0 : Int), (0 : Int)⟩ : S94) w1 fun a3 w4 =>
  R (some a3) w4
theorem F41_ok {w : World} {R : (Option Addr) → World → Prop} (h : F41 w R) : cl Tryz.prog 41 [] tPtr w R := by
  unfold F41 at h
  refine calls_start 4 Tryz.func41 rfl rfl (Nat.le_of_ble_eq_true rfl) ?_
  refine wp_seq ?_
  refine wp_text [0] rfl ?_
  refine rv 0 rfl rfl rfl (q_assign (v := .pointer ((none : Option Addr))) rfl rfl) ?_
  refine ro_nil ?_
  refine wp_seq ?_
  refine wp_text [0, 1, 2, 3] rfl ?_
  obtain ⟨m2, w1, hm2, hw1, h⟩ := nwMap_open h
  refine rv 1 rfl rfl rfl (q_makeMap rfl hm2 hw1) ?_
  refine rv 2 rfl rfl rfl (q_build95_0 (v0 := (some m2)) rfl rfl) ?_
  obtain ⟨a3, w4, ha3, hw4, h⟩ := nw_open h
  refine rv 3 rfl rfl rfl (q_box (u := (⟨(some m2), (0 : Int), (0 : Int)⟩ : S94)) rfl ok95 rfl ha3 hw4) ?_
  refine rv 0 rfl rfl rfl (q_assign (v := .pointer (some a3)) rfl rfl) ?_
  refine ro_nil ?_
  refine wp_ret ?_
  exact ret_ok rfl (.cons (.tmp (v := .pointer ((some a3))) rfl) .nil) ⟨(some a3), rfl, h⟩

-- (*moiety/store.Store).Last
def F42 (s_1 : (Option Addr)) (key_2 : Int) (w : World) (R : (S86 × Bool) → World → Prop) : Prop :=
  nw 87 T86 Z86 w fun a3 w4 =>
  ex (NC s_1) fun a5 =>
  ex (RdAt tMap (a5.add 0) w4) fun x6 =>
  ex (MapGet tPtr .i64 x6 key_2 w4) fun m7 =>
  if (!(((m7.getD (none : Option Addr), m7.isSome)).2)) = true then (
    st T86 a3 (⟨(0 : Int), (0 : Int)⟩ : S86) w4 fun w8 =>
    ex (RdAt T86 a3 w8) fun x9 =>
    R (x9, false) w8
  ) else (
    cl Tryz.prog 61 [.pointer (((m7.getD (none : Option Addr), m7.isSome)).1)] (tTup2 T86 tBool) w4 fun r11 w10 =>
    st T86 a3 r11.1 w10 fun w12 =>
    ex (RdAt T86 a3 w12) fun x13 =>
    R (x13, r11.2) w12
  )
theorem F42_ok {s_1 : (Option Addr)} {key_2 : Int} {w : World} {R : (S86 × Bool) → World → Prop} (h : F42 s_1 key_2 w R) : cl Tryz.prog 42 [.pointer (s_1), .int .i64 (key_2)] (tTup2 T86 tBool) w R := by
  unfold F42 at h
  refine calls_start 24 Tryz.func42 rfl rfl (Nat.le_of_ble_eq_true rfl) ?_
  refine wp_seq ?_
  refine wp_text [0, 1] rfl ?_
  obtain ⟨a3, w4, ha3, hw4, h⟩ := nw_open h
  refine rv 4 rfl rfl rfl (q_alloc (u := Z86) rfl ok87 inf87 ha3 hw4) ?_
  refine rv 5 rfl rfl rfl (q_assign (v := .bool (false)) rfl rfl) ?_
  refine ro_nil ?_
  refine wp_seq ?_
  refine wp_text [0, 1, 2, 3, 4, 5, 6, 7, 8, 9, 10] rfl ?_
  refine rv 9 rfl rfl rfl (q_move (v := .pointer (s_1)) rfl rfl) ?_
  obtain ⟨a5, ha5, h⟩ := h
  refine rv 10 rfl rfl rfl (q_nilCheck (a := a5) rfl (congrArg Value.pointer ha5)) ?_
  refine rv 11 rfl rfl rfl (q_fieldAddr (a := a5) (off := 0) rfl Tryz.underlying95 rfl rfl ok93 (by decide) rfl) ?_
  obtain ⟨x6, hx6, h⟩ := h
  refine rv 12 rfl rfl rfl (q_load (T := tMap) (u := x6) (a := (a5.add 0)) rfl ok93 rfl hx6) ?_
  refine rv 13 rfl rfl rfl (q_move (v := .int .i64 (key_2)) rfl rfl) ?_
  obtain ⟨m7, hm7, h⟩ := h
  refine rv 14 rfl rfl rfl (q_lookup2 (T := tPtr) (r := x6) (key := key_2) (u := m7) (z := (none : Option Addr)) rfl Tryz.underlying93 Tryz.underlying3 (inf97) rfl rfl hm7) ?_
  refine rv 8 rfl rfl rfl (q_move (v := (tTup2 tPtr tBool).enc (((m7.getD (none : Option Addr), m7.isSome)))) rfl rfl) ?_
  refine rv 15 rfl rfl rfl (q_extract (vs := #[.pointer (((m7.getD (none : Option Addr), m7.isSome)).1), .bool (((m7.getD (none : Option Addr), m7.isSome)).2)]) (v := .pointer (((m7.getD (none : Option Addr), m7.isSome)).1)) rfl rfl rfl) ?_
  refine rv 16 rfl rfl rfl (q_extract (vs := #[.pointer (((m7.getD (none : Option Addr), m7.isSome)).1), .bool (((m7.getD (none : Option Addr), m7.isSome)).2)]) (v := .bool (((m7.getD (none : Option Addr), m7.isSome)).2)) rfl rfl rfl) ?_
  refine rv 6 rfl rfl rfl (q_assign (v := .pointer (((m7.getD (none : Option Addr), m7.isSome)).1)) rfl rfl) ?_
  refine rv 7 rfl rfl rfl (q_assign (v := .bool (((m7.getD (none : Option Addr), m7.isSome)).2)) rfl rfl) ?_
  refine ro_nil ?_
  refine wp_seq ?_
  refine wp_seq ?_
  refine wp_text [0, 1] rfl ?_
  refine rv 17 rfl rfl rfl (q_move (v := .bool (((m7.getD (none : Option Addr), m7.isSome)).2)) rfl rfl) ?_
  refine rv 18 rfl rfl rfl (q_not (b := ((m7.getD (none : Option Addr), m7.isSome)).2) rfl rfl) ?_
  refine ro_nil ?_
  refine wp_if (b := (!(((m7.getD (none : Option Addr), m7.isSome)).2))) rfl h (fun hb14 h => ?_) (fun hb14 h => ?_)
  · refine wp_seq ?_
    refine wp_text [0, 1, 2] rfl ?_
    refine rv 19 rfl rfl rfl (q_build87_  rfl ) ?_
    obtain ⟨w8, hw8, hrw8, h⟩ := st_open h
    refine ro_skip (d := none) rfl (.free rfl) rfl (q_store (T := T86) (u := (⟨(0 : Int), (0 : Int)⟩ : S86)) (a := a3) rfl ok87 rfl rfl hrw8 hw8) ?_
    refine rv 5 rfl rfl rfl (q_assign (v := .bool (false)) rfl rfl) ?_
    refine ro_nil ?_
    refine wp_ret ?_
    obtain ⟨x9, hx9, h⟩ := h
    exact ret_ok rfl (.cons (.cell (T := T86) (u := x9) (a := a3) ok87 rfl hx9) (.cons (.tmp (v := .bool (false)) rfl) .nil)) ⟨(x9, false), rfl, h⟩
  · refine wp_skip ?_
    refine wp_seq ?_
    refine wp_text [0, 1, 2, 3, 4, 5] rfl ?_
    refine rv 20 rfl rfl rfl (q_move (v := .pointer (((m7.getD (none : Option Addr), m7.isSome)).1)) rfl rfl) ?_
    refine ro_wp rfl (.free rfl) (wp_cl (d := (some 21)) rfl (q_call (k := 61) (l := [.pointer (((m7.getD (none : Option Addr), m7.isSome)).1)]) rfl ent61 rfl) h ?_)
    intro r11 w10 h
    refine rv 22 rfl rfl rfl (q_extract (vs := #[T86.enc (r11.1), .bool (r11.2)]) (v := T86.enc (r11.1)) rfl rfl rfl) ?_
    refine rv 23 rfl rfl rfl (q_extract (vs := #[T86.enc (r11.1), .bool (r11.2)]) (v := .bool (r11.2)) rfl rfl rfl) ?_
    obtain ⟨w12, hw12, hrw12, h⟩ := st_open h
    refine ro_skip (d := none) rfl (.free rfl) rfl (q_store (T := T86) (u := r11.1) (a := a3) rfl ok87 rfl rfl hrw12 hw12) ?_
    refine rv 5 rfl rfl rfl (q_assign (v := .bool (r11.2)) rfl rfl) ?_
    refine ro_nil ?_
    refine wp_ret ?_
    obtain ⟨x13, hx13, h⟩ := h
    exact ret_ok rfl (.cons (.cell (T := T86) (u := x13) (a := a3) ok87 rfl hx13) (.cons (.tmp (v := .bool (r11.2)) rfl) .nil)) ⟨(x13, r11.2), rfl, h⟩

-- moiety/vault.is
def F43 (a_1 : Int) (w : World) (R : Bool → World → Prop) : Prop :=
  R ((decide (a_1 ≥ (0 : Int))) && (decide (a_1 < (4096 : Int)))) w
theorem F43_ok {a_1 : Int} {w : World} {R : Bool → World → Prop} (h : F43 a_1 w R) : cl Tryz.prog 43 [.int .i64 (a_1)] tBool w R := by
  unfold F43 at h
  refine calls_start 9 Tryz.func43 rfl rfl (Nat.le_of_ble_eq_true rfl) ?_
  refine wp_seq ?_
  refine wp_text [0] rfl ?_
  refine rv 2 rfl rfl rfl (q_assign (v := .bool (false)) rfl rfl) ?_
  refine ro_nil ?_
  refine wp_seq ?_
  refine wp_text [0, 1, 2, 3, 4, 5, 6] rfl ?_
  refine rv 3 rfl rfl rfl (q_move (v := .int .i64 (a_1)) rfl rfl) ?_
  refine rv 4 rfl rfl rfl (q_geq (a := a_1) (b := (0 : Int)) rfl rfl rfl) ?_
  refine rv 5 rfl rfl rfl (q_move (v := .bool ((decide (a_1 ≥ (0 : Int))))) rfl rfl) ?_
  refine ro_gval (g := (decide (a_1 ≥ (0 : Int)))) (d := (some 6)) rfl (.yes 2 5 true (decide (a_1 ≥ (0 : Int))) rfl rfl rfl rfl) rfl (fun hg => q_move (v := .int .i64 (a_1)) rfl rfl) ?_
  refine ro_gval (g := (decide (a_1 ≥ (0 : Int)))) (d := (some 7)) rfl (.yes 2 5 true (decide (a_1 ≥ (0 : Int))) rfl rfl rfl rfl) rfl (fun hg => q_lss (k := .i64) (a := a_1) (b := (4096 : Int)) rfl (gvb_yes hg) rfl) ?_
  refine rv 8 rfl rfl rfl (q_pickGT (a := (decide (a_1 ≥ (0 : Int)))) (b := (decide (a_1 < (4096 : Int)))) rfl rfl rfl rfl) ?_
  refine rv 2 rfl rfl rfl (q_assign (v := .bool (((decide (a_1 ≥ (0 : Int))) && (decide (a_1 < (4096 : Int)))))) rfl rfl) ?_
  refine ro_nil ?_
  refine wp_ret ?_
  exact ret_ok rfl (.cons (.tmp (v := .bool (((decide (a_1 ≥ (0 : Int))) && (decide (a_1 < (4096 : Int)))))) rfl) .nil) ⟨((decide (a_1 ≥ (0 : Int))) && (decide (a_1 < (4096 : Int)))), rfl, h⟩

-- moiety/amount.Check
def F44 (n_1 : Int) (w : World) (R : Int → World → Prop) : Prop :=
  if ((decide (n_1 < (0 : Int))) || (decide (n_1 > (1000000000000000 : Int)))) = true then (
    R (40 : Int) w
  ) else (
    R (0 : Int) w
  )
theorem F44_ok {n_1 : Int} {w : World} {R : Int → World → Prop} (h : F44 n_1 w R) : cl Tryz.prog 44 [.int .i64 (n_1)] (tInt .i64) w R := by
  unfold F44 at h
  refine calls_start 9 Tryz.func44 rfl rfl (Nat.le_of_ble_eq_true rfl) ?_
  refine wp_seq ?_
  refine wp_text [0] rfl ?_
  refine rv 2 rfl rfl rfl (q_assign (v := .int .i64 ((0 : Int))) rfl rfl) ?_
  refine ro_nil ?_
  refine wp_seq ?_
  refine wp_seq ?_
  refine wp_text [0, 1, 2, 3, 4, 5] rfl ?_
  refine rv 3 rfl rfl rfl (q_move (v := .int .i64 (n_1)) rfl rfl) ?_
  refine rv 4 rfl rfl rfl (q_lss (a := n_1) (b := (0 : Int)) rfl rfl rfl) ?_
  refine rv 5 rfl rfl rfl (q_move (v := .bool ((decide (n_1 < (0 : Int))))) rfl rfl) ?_
  refine ro_gval (g := (!(decide (n_1 < (0 : Int))))) (d := (some 6)) rfl (.no 2 5 true (decide (n_1 < (0 : Int))) rfl rfl rfl rfl) rfl (fun hg => q_move (v := .int .i64 (n_1)) rfl rfl) ?_
  refine ro_gval (g := (!(decide (n_1 < (0 : Int))))) (d := (some 7)) rfl (.no 2 5 true (decide (n_1 < (0 : Int))) rfl rfl rfl rfl) rfl (fun hg => q_gtr (k := .i64) (a := n_1) (b := (1000000000000000 : Int)) rfl (gvb_yes hg) rfl) ?_
  refine rv 8 rfl rfl rfl (q_pickGF (a := (decide (n_1 < (0 : Int)))) (c := (decide (n_1 > (1000000000000000 : Int)))) rfl rfl rfl rfl) ?_
  refine ro_nil ?_
  refine wp_if (b := ((decide (n_1 < (0 : Int))) || (decide (n_1 > (1000000000000000 : Int))))) rfl h (fun hb2 h => ?_) (fun hb2 h => ?_)
  · refine wp_seq ?_
    refine wp_text [0] rfl ?_
    refine rv 2 rfl rfl rfl (q_assign (v := .int .i64 ((40 : Int))) rfl rfl) ?_
    refine ro_nil ?_
    refine wp_ret ?_
    exact ret_ok rfl (.cons (.tmp (v := .int .i64 ((40 : Int))) rfl) .nil) ⟨(40 : Int), rfl, h⟩
  · refine wp_skip ?_
    refine wp_seq ?_
    refine wp_text [0] rfl ?_
    refine rv 2 rfl rfl rfl (q_assign (v := .int .i64 ((0 : Int))) rfl rfl) ?_
    refine ro_nil ?_
    refine wp_ret ?_
    exact ret_ok rfl (.cons (.tmp (v := .int .i64 ((0 : Int))) rfl) .nil) ⟨(0 : Int), rfl, h⟩

-- (*moiety/store.Store).Get
def F45 (s_1 : (Option Addr)) (key_2 : Int) (at_3 : Int) (w : World) (R : (S86 × Int) → World → Prop) : Prop :=
  nw 87 T86 Z86 w fun a4 w5 =>
  cl Tryz.prog 62 [.int .i64 (key_2)] tBool w5 fun r7 w6 =>
  if (!r7) = true then (
    st T86 a4 (⟨(0 : Int), (0 : Int)⟩ : S86) w6 fun w8 =>
    ex (RdAt T86 a4 w8) fun x9 =>
    R (x9, (123 : Int)) w8
  ) else (
    cl Tryz.prog 47 [.pointer (s_1), .int .i64 (at_3)] (tInt .i64) w6 fun r11 w10 =>
    if (r11 != (0 : Int)) = true then (
      st T86 a4 (⟨(0 : Int), (0 : Int)⟩ : S86) w10 fun w12 =>
      ex (RdAt T86 a4 w12) fun x13 =>
      R (x13, r11) w12
    ) else (
      ex (NC s_1) fun a14 =>
      ex (RdAt tMap (a14.add 0) w10) fun x15 =>
      ex (MapGet tPtr .i64 x15 key_2 w10) fun m16 =>
      if (!(((m16.getD (none : Option Addr), m16.isSome)).2)) = true then (
        st T86 a4 (⟨(0 : Int), (0 : Int)⟩ : S86) w10 fun w17 =>
        ex (RdAt T86 a4 w17) fun x18 =>
        R (x18, (127 : Int)) w17
      ) else (
        cl Tryz.prog 49 [.pointer (((m16.getD (none : Option Addr), m16.isSome)).1), .int .i64 (at_3)] (tTup2 T86 (tInt .i64)) w10 fun r20 w19 =>
        nw 87 T86 Z86 w19 fun a21 w22 =>
        st T86 a21 r20.1 w22 fun w23 =>
        if (r20.2 != (0 : Int)) = true then (
          st T86 a4 (⟨(0 : Int), (0 : Int)⟩ : S86) w23 fun w24 =>
          ex (RdAt T86 a4 w24) fun x25 =>
          R (x25, (127 : Int)) w24
        ) else (
          ex (RdAt T86 a21 w23) fun x26 =>
          st T86 a4 x26 w23 fun w27 =>
          ex (RdAt T86 a4 w27) fun x28 =>
          R (x28, (0 : Int)) w27
        )
      )
    )
  )
theorem F45_ok {s_1 : (Option Addr)} {key_2 : Int} {at_3 : Int} {w : World} {R : (S86 × Int) → World → Prop} (h : F45 s_1 key_2 at_3 w R) : cl Tryz.prog 45 [.pointer (s_1), .int .i64 (key_2), .int .i64 (at_3)] (tTup2 T86 (tInt .i64)) w R := by
  unfold F45 at h
  refine calls_start 46 Tryz.func45 rfl rfl (Nat.le_of_ble_eq_true rfl) ?_
  refine wp_seq ?_
  refine wp_text [0, 1] rfl ?_
  obtain ⟨a4, w5, ha4, hw5, h⟩ := nw_open h
  refine rv 6 rfl rfl rfl (q_alloc (u := Z86) rfl ok87 inf87 ha4 hw5) ?_
  refine rv 7 rfl rfl rfl (q_assign (v := .int .i64 ((0 : Int))) rfl rfl) ?_
  refine ro_nil ?_
  refine wp_seq ?_
  refine wp_seq ?_
  refine wp_text [0, 1, 2] rfl ?_
  refine rv 13 rfl rfl rfl (q_move (v := .int .i64 (key_2)) rfl rfl) ?_
  refine ro_wp rfl (.free rfl) (wp_cl (d := (some 14)) rfl (q_call (k := 62) (l := [.int .i64 (key_2)]) rfl ent62 rfl) h ?_)
  intro r7 w6 h
  refine rv 15 rfl rfl rfl (q_not (b := r7) rfl rfl) ?_
  refine ro_nil ?_
  refine wp_if (b := (!r7)) rfl h (fun hb32 h => ?_) (fun hb32 h => ?_)
  · refine wp_seq ?_
    refine wp_text [0, 1, 2] rfl ?_
    refine rv 16 rfl rfl rfl (q_build87_  rfl ) ?_
    obtain ⟨w8, hw8, hrw8, h⟩ := st_open h
    refine ro_skip (d := none) rfl (.free rfl) rfl (q_store (T := T86) (u := (⟨(0 : Int), (0 : Int)⟩ : S86)) (a := a4) rfl ok87 rfl rfl hrw8 hw8) ?_
    refine rv 7 rfl rfl rfl (q_assign (v := .int .i64 ((123 : Int))) rfl rfl) ?_
    refine ro_nil ?_
    refine wp_ret ?_
    obtain ⟨x9, hx9, h⟩ := h
    exact ret_ok rfl (.cons (.cell (T := T86) (u := x9) (a := a4) ok87 rfl hx9) (.cons (.tmp (v := .int .i64 ((123 : Int))) rfl) .nil)) ⟨(x9, (123 : Int)), rfl, h⟩
  · refine wp_skip ?_
    refine wp_seq ?_
    refine wp_seq ?_
    refine wp_text [0, 1, 2, 3] rfl ?_
    refine rv 17 rfl rfl rfl (q_move (v := .pointer (s_1)) rfl rfl) ?_
    refine rv 18 rfl rfl rfl (q_move (v := .int .i64 (at_3)) rfl rfl) ?_
    refine ro_wp rfl (.free rfl) (wp_cl (d := (some 19)) rfl (q_call (k := 47) (l := [.pointer (s_1), .int .i64 (at_3)]) rfl ent47 rfl) h ?_)
    intro r11 w10 h
    refine rv 8 rfl rfl rfl (q_assign (v := .int .i64 (r11)) rfl rfl) ?_
    refine ro_nil ?_
    refine wp_seq ?_
    refine wp_text [0, 1] rfl ?_
    refine rv 20 rfl rfl rfl (q_move (v := .int .i64 (r11)) rfl rfl) ?_
    refine rv 21 rfl rfl rfl (q_neq (a := r11) (b := (0 : Int)) rfl rfl rfl) ?_
    refine ro_nil ?_
    refine wp_if (b := (r11 != (0 : Int))) rfl h (fun hb31 h => ?_) (fun hb31 h => ?_)
    · refine wp_seq ?_
      refine wp_text [0, 1, 2, 3] rfl ?_
      refine rv 22 rfl rfl rfl (q_build87_  rfl ) ?_
      refine rv 23 rfl rfl rfl (q_move (v := .int .i64 (r11)) rfl rfl) ?_
      obtain ⟨w12, hw12, hrw12, h⟩ := st_open h
      refine ro_skip (d := none) rfl (.free rfl) rfl (q_store (T := T86) (u := (⟨(0 : Int), (0 : Int)⟩ : S86)) (a := a4) rfl ok87 rfl rfl hrw12 hw12) ?_
      refine rv 7 rfl rfl rfl (q_assign (v := .int .i64 (r11)) rfl rfl) ?_
      refine ro_nil ?_
      refine wp_ret ?_
      obtain ⟨x13, hx13, h⟩ := h
      exact ret_ok rfl (.cons (.cell (T := T86) (u := x13) (a := a4) ok87 rfl hx13) (.cons (.tmp (v := .int .i64 (r11)) rfl) .nil)) ⟨(x13, r11), rfl, h⟩
    · refine wp_skip ?_
      refine wp_seq ?_
      refine wp_text [0, 1, 2, 3, 4, 5, 6, 7, 8, 9, 10] rfl ?_
      refine rv 25 rfl rfl rfl (q_move (v := .pointer (s_1)) rfl rfl) ?_
      obtain ⟨a14, ha14, h⟩ := h
      refine rv 26 rfl rfl rfl (q_nilCheck (a := a14) rfl (congrArg Value.pointer ha14)) ?_
      refine rv 27 rfl rfl rfl (q_fieldAddr (a := a14) (off := 0) rfl Tryz.underlying95 rfl rfl ok93 (by decide) rfl) ?_
      obtain ⟨x15, hx15, h⟩ := h
      refine rv 28 rfl rfl rfl (q_load (T := tMap) (u := x15) (a := (a14.add 0)) rfl ok93 rfl hx15) ?_
      refine rv 29 rfl rfl rfl (q_move (v := .int .i64 (key_2)) rfl rfl) ?_
      obtain ⟨m16, hm16, h⟩ := h
      refine rv 30 rfl rfl rfl (q_lookup2 (T := tPtr) (r := x15) (key := key_2) (u := m16) (z := (none : Option Addr)) rfl Tryz.underlying93 Tryz.underlying3 (inf97) rfl rfl hm16) ?_
      refine rv 24 rfl rfl rfl (q_move (v := (tTup2 tPtr tBool).enc (((m16.getD (none : Option Addr), m16.isSome)))) rfl rfl) ?_
      refine rv 31 rfl rfl rfl (q_extract (vs := #[.pointer (((m16.getD (none : Option Addr), m16.isSome)).1), .bool (((m16.getD (none : Option Addr), m16.isSome)).2)]) (v := .pointer (((m16.getD (none : Option Addr), m16.isSome)).1)) rfl rfl rfl) ?_
      refine rv 32 rfl rfl rfl (q_extract (vs := #[.pointer (((m16.getD (none : Option Addr), m16.isSome)).1), .bool (((m16.getD (none : Option Addr), m16.isSome)).2)]) (v := .bool (((m16.getD (none : Option Addr), m16.isSome)).2)) rfl rfl rfl) ?_
      refine rv 9 rfl rfl rfl (q_assign (v := .pointer (((m16.getD (none : Option Addr), m16.isSome)).1)) rfl rfl) ?_
      refine rv 10 rfl rfl rfl (q_assign (v := .bool (((m16.getD (none : Option Addr), m16.isSome)).2)) rfl rfl) ?_
      refine ro_nil ?_
      refine wp_seq ?_
      refine wp_seq ?_
      refine wp_text [0, 1] rfl ?_
      refine rv 33 rfl rfl rfl (q_move (v := .bool (((m16.getD (none : Option Addr), m16.isSome)).2)) rfl rfl) ?_
      refine rv 34 rfl rfl rfl (q_not (b := ((m16.getD (none : Option Addr), m16.isSome)).2) rfl rfl) ?_
      refine ro_nil ?_
      refine wp_if (b := (!(((m16.getD (none : Option Addr), m16.isSome)).2))) rfl h (fun hb30 h => ?_) (fun hb30 h => ?_)
      · refine wp_seq ?_
        refine wp_text [0, 1, 2] rfl ?_
        refine rv 35 rfl rfl rfl (q_build87_  rfl ) ?_
        obtain ⟨w17, hw17, hrw17, h⟩ := st_open h
        refine ro_skip (d := none) rfl (.free rfl) rfl (q_store (T := T86) (u := (⟨(0 : Int), (0 : Int)⟩ : S86)) (a := a4) rfl ok87 rfl rfl hrw17 hw17) ?_
        refine rv 7 rfl rfl rfl (q_assign (v := .int .i64 ((127 : Int))) rfl rfl) ?_
        refine ro_nil ?_
        refine wp_ret ?_
        obtain ⟨x18, hx18, h⟩ := h
        exact ret_ok rfl (.cons (.cell (T := T86) (u := x18) (a := a4) ok87 rfl hx18) (.cons (.tmp (v := .int .i64 ((127 : Int))) rfl) .nil)) ⟨(x18, (127 : Int)), rfl, h⟩
      · refine wp_skip ?_
        refine wp_seq ?_
        refine wp_text [0, 1, 2, 3, 4, 5, 6, 7, 8] rfl ?_
        refine rv 37 rfl rfl rfl (q_move (v := .pointer (((m16.getD (none : Option Addr), m16.isSome)).1)) rfl rfl) ?_
        refine rv 38 rfl rfl rfl (q_move (v := .int .i64 (at_3)) rfl rfl) ?_
        refine ro_wp rfl (.free rfl) (wp_cl (d := (some 39)) rfl (q_call (k := 49) (l := [.pointer (((m16.getD (none : Option Addr), m16.isSome)).1), .int .i64 (at_3)]) rfl ent49 rfl) h ?_)
        intro r20 w19 h
        refine rv 36 rfl rfl rfl (q_move (v := (tTup2 T86 (tInt .i64)).enc (r20)) rfl rfl) ?_
        refine rv 40 rfl rfl rfl (q_extract (vs := #[T86.enc (r20.1), .int .i64 (r20.2)]) (v := T86.enc (r20.1)) rfl rfl rfl) ?_
        refine rv 41 rfl rfl rfl (q_extract (vs := #[T86.enc (r20.1), .int .i64 (r20.2)]) (v := .int .i64 (r20.2)) rfl rfl rfl) ?_
        obtain ⟨a21, w22, ha21, hw22, h⟩ := nw_open h
        refine rv 11 rfl rfl rfl (q_alloc (u := Z86) rfl ok87 inf87 ha21 hw22) ?_
        obtain ⟨w23, hw23, hrw23, h⟩ := st_open h
        refine ro_skip (d := none) rfl (.free rfl) rfl (q_store (T := T86) (u := r20.1) (a := a21) rfl ok87 rfl rfl hrw23 hw23) ?_
        refine rv 12 rfl rfl rfl (q_assign (v := .int .i64 (r20.2)) rfl rfl) ?_
        refine ro_nil ?_
        refine wp_seq ?_
        refine wp_seq ?_
        refine wp_text [0, 1] rfl ?_
        refine rv 42 rfl rfl rfl (q_move (v := .int .i64 (r20.2)) rfl rfl) ?_
        refine rv 43 rfl rfl rfl (q_neq (a := r20.2) (b := (0 : Int)) rfl rfl rfl) ?_
        refine ro_nil ?_
        refine wp_if (b := (r20.2 != (0 : Int))) rfl h (fun hb29 h => ?_) (fun hb29 h => ?_)
        · refine wp_seq ?_
          refine wp_text [0, 1, 2] rfl ?_
          refine rv 44 rfl rfl rfl (q_build87_  rfl ) ?_
          obtain ⟨w24, hw24, hrw24, h⟩ := st_open h
          refine ro_skip (d := none) rfl (.free rfl) rfl (q_store (T := T86) (u := (⟨(0 : Int), (0 : Int)⟩ : S86)) (a := a4) rfl ok87 rfl rfl hrw24 hw24) ?_
          refine rv 7 rfl rfl rfl (q_assign (v := .int .i64 ((127 : Int))) rfl rfl) ?_
          refine ro_nil ?_
          refine wp_ret ?_
          obtain ⟨x25, hx25, h⟩ := h
          exact ret_ok rfl (.cons (.cell (T := T86) (u := x25) (a := a4) ok87 rfl hx25) (.cons (.tmp (v := .int .i64 ((127 : Int))) rfl) .nil)) ⟨(x25, (127 : Int)), rfl, h⟩
        · refine wp_skip ?_
          refine wp_seq ?_
          refine wp_text [0, 1, 2] rfl ?_
          obtain ⟨x26, hx26, h⟩ := h
          refine rv 45 rfl rfl rfl (q_load (T := T86) (u := x26) (a := a21) rfl ok87 rfl hx26) ?_
          obtain ⟨w27, hw27, hrw27, h⟩ := st_open h
          refine ro_skip (d := none) rfl (.free rfl) rfl (q_store (T := T86) (u := x26) (a := a4) rfl ok87 rfl rfl hrw27 hw27) ?_
          refine rv 7 rfl rfl rfl (q_assign (v := .int .i64 ((0 : Int))) rfl rfl) ?_
          refine ro_nil ?_
          refine wp_ret ?_
          obtain ⟨x28, hx28, h⟩ := h
          exact ret_ok rfl (.cons (.cell (T := T86) (u := x28) (a := a4) ok87 rfl hx28) (.cons (.tmp (v := .int .i64 ((0 : Int))) rfl) .nil)) ⟨(x28, (0 : Int)), rfl, h⟩

end Go.Proofs.YtpdaapffkdejoaaGreat.Cf
