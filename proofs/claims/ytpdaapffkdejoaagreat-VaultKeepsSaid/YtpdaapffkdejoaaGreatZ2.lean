/- Own texts of this claim, part 2: short, merged. -/
import Derived.Test.YtpdaapffkdejoaaGreatZ1
namespace Go.Proofs.YtpdaapffkdejoaaGreat.Cf
open Go
set_option maxRecDepth 100000
set_option maxHeartbeats 1000000
set_option linter.unusedVariables false
set_option linter.unusedSimpArgs false
def F39_j2 (a3 : Addr) (a6 : Addr) (has_13 : Addr) (open_14 : Bool) (m19 : (Option Int)) (t_27 : Bool) (w28 : World) (R : (Int × Int) → World → Prop) : Prop :=
  if t_27 = true then (
    R ((0 : Int), (155 : Int)) w28
  ) else (
    if (!open_14) = true then (
      R ((0 : Int), (159 : Int)) w28
    ) else (
      if ((m19.getD (0 : Int), m19.isSome)).2 = true then (
        R ((0 : Int), (160 : Int)) w28
      ) else (
        ex (RdAt tBool (a3.add 3) w28) fun x29 =>
        if (!x29) = true then (
          ex (RdAt (tInt .i64) (has_13.add 1) w28) fun x30 =>
          ex (RdAt (tInt .i64) (a3.add 2) w28) fun x31 =>
          cl Tryz.prog 57 [.int .i64 (x30), .int .i64 (x31)] (tTup2 (tInt .i64) (tInt .i64)) w28 fun r33 w32 =>
          if (r33.2 != (0 : Int)) = true then (
            R ((0 : Int), (162 : Int)) w32
          ) else (
            R ((0 : Int), (0 : Int)) w32
          )
        ) else (
          dr w28 fun w35 =>
          ex (RdAt (tInt .i64) (a3.add 2) w35) fun x36 =>
          ex (RdAt tFlt (a6.add 1) w35) fun x37 =>
          cl Tryz.prog 58 [.int .i64 (x36), .float .f64 (x37)] (tTup2 (tInt .i64) (tInt .i64)) w35 fun r39 w38 =>
          ex (RdAt (tInt .i64) (has_13.add 1) w38) fun x40 =>
          ex (RdAt (tInt .i64) (a3.add 2) w38) fun x41 =>
          if (decide (x40 < (IntKind.i64.wrap (x41 + r39.1)))) = true then (
            R ((0 : Int), (161 : Int)) w38
          ) else (
            R (r39.1, (0 : Int)) w38
          )
        )
      )
    )
  )
def F39_j1 (a3 : Addr) (a6 : Addr) (m9 : (Option S69)) (has_13 : Addr) (open_14 : Bool) (w15 : World) (R : (Int × Int) → World → Prop) : Prop :=
  dr w15 fun w16 =>
  ex (RdAt tMap (a6.add 4) w16) fun x17 =>
  ex (RdAt (tInt .i64) (a3.add 1) w16) fun x18 =>
  ex (MapGet (tInt .i64) .i64 x17 x18 w16) fun m19 =>
  ex (RdAt (tInt .i64) (a3.add 0) w16) fun x20 =>
  if (decide (x20 < (1 : Int))) = true then (
    R ((0 : Int), (156 : Int)) w16
  ) else (
    if ((m9.getD Z69, m9.isSome)).2 = true then (
      R ((0 : Int), (157 : Int)) w16
    ) else (
      ex (RdAt tMap (a6.add 5) w16) fun x21 =>
      ex (MapLen x21 w16) fun l22 =>
      if (decide ((l22 : Int) ≥ (5000 : Int))) = true then (
        R ((0 : Int), (158 : Int)) w16
      ) else (
        ex (RdAt (tInt .i64) (a3.add 1) w16) fun x23 =>
        cl Tryz.prog 43 [.int .i64 (x23)] tBool w16 fun r25 w24 =>
        if (!r25) = true then (
          R ((0 : Int), (153 : Int)) w24
        ) else (
          ex (RdAt (tInt .i64) (a3.add 2) w24) fun x26 =>
          if (decide (x26 < (1 : Int))) = true then (
            F39_j2 a3 a6 has_13 open_14 m19 true w24 R
          ) else (
            ex (RdAt (tInt .i64) (a3.add 2) w24) fun x48 =>
            cl Tryz.prog 44 [.int .i64 (x48)] (tInt .i64) w24 fun r50 w49 =>
            F39_j2 a3 a6 has_13 open_14 m19 (r50 != (0 : Int)) w49 R
          )
        )
      )
    )
  )
def F39 (v_1 : (Option Addr)) (p_2 : S52) (w : World) (R : (Int × Int) → World → Prop) : Prop :=
  nw 53 T52 p_2 w fun a3 w4 =>
  dr w4 fun w5 =>
  ex (NC v_1) fun a6 =>
  ex (RdAt tMap (a6.add 5) w5) fun x7 =>
  ex (RdAt (tInt .i64) (a3.add 0) w5) fun x8 =>
  ex (MapGet T69 .i64 x7 x8 w5) fun m9 =>
  nw 70 T69 Z69 w5 fun a10 w11 =>
  st T69 a10 (((m9.getD Z69, m9.isSome)).1) w11 fun w12 =>
  dr w12 fun w55 =>
  ex (RdAt tPtr ((a6.add 0).add 0) w55) fun x56 =>
  ex (RdAt (tInt .i64) (a3.add 1) w55) fun x57 =>
  bth (
    cl Tryz.prog 42 [.pointer (x56), .int .i64 (x57)] (tTup2 T86 tBool) w55 fun r59 w58 =>
    nw 87 T86 Z86 w58 fun a60 w61 =>
    st T86 a60 r59.1 w61 fun w62 =>
    F39_j1 a3 a6 m9 a60 r59.2 w62 R
  ) (
    nw 87 T86 Z86 w55 fun a63 w64 =>
    cl Tryz.prog 42 [.pointer (x56), .int .i64 (x57)] (tTup2 T86 tBool) w64 fun r66 w65 =>
    st T86 a63 r66.1 w65 fun w67 =>
    F39_j1 a3 a6 m9 a63 r66.2 w67 R
  )
theorem F39_ok {v_1 : (Option Addr)} {p_2 : S52} {w : World} {R : (Int × Int) → World → Prop} (h : F39 v_1 p_2 w R) : cl Tryz.prog 39 [.pointer (v_1), T52.enc (p_2)] (tTup2 (tInt .i64) (tInt .i64)) w R := by
  unfold F39 at h
  refine calls_start 111 Tryz.func39 rfl rfl (Nat.le_of_ble_eq_true rfl) ?_
  refine wp_seq ?_
  refine wp_text [0, 1, 2] rfl ?_
  obtain ⟨a3, w4, ha3, hw4, h⟩ := nw_open h
  refine rv 3 rfl rfl rfl (q_box (u := p_2) rfl ok53 rfl ha3 hw4) ?_
  refine rv 4 rfl rfl rfl (q_assign (v := .int .i64 ((0 : Int))) rfl rfl) ?_
  refine rv 5 rfl rfl rfl (q_assign (v := .int .i64 ((0 : Int))) rfl rfl) ?_
  refine ro_nil ?_
  refine wp_seq ?_
  obtain ⟨w5, hw5, h⟩ := dr_open h
  refine wp_drawn 13 mixed rfl (by kernel_rfl) (by intro c a d v w h; cases d <;> exact h) hw5 (fun hD => ?_)
  refine rp 0 17 hD rfl rfl rfl (fun _ => q_move (v := .pointer (v_1)) rfl rfl) ?_
  obtain ⟨a6, ha6, h⟩ := h
  refine rp 1 18 hD rfl rfl rfl (fun _ => q_nilCheck (a := a6) rfl (congrArg Value.pointer ha6)) ?_
  refine rp 2 19 hD rfl rfl rfl (fun _ => q_fieldAddr (a := a6) (off := 5) rfl Tryz.underlying35 rfl rfl ok33 (by decide) rfl) ?_
  refine rp 4 21 hD rfl rfl rfl (fun _ => q_fieldAddr (a := a3) (off := 0) rfl Tryz.underlying53 rfl rfl ok3 (by decide) rfl) ?_
  obtain ⟨x7, hx7, h⟩ := h
  refine rd_read (i := 3) (d := (some 20)) (fun W => (RdAt tMap (a6.add 5) W) x7) hD (by kernel_rfl) (by kernel_rfl) rfl (.free rfl) rfl (fun W hr => q_load (T := tMap) (u := x7) (a := (a6.add 5)) rfl ok33 rfl hr) hx7 ?_
  obtain ⟨x8, hx8, h⟩ := h
  refine rd_read (i := 5) (d := (some 22)) (fun W => (RdAt (tInt .i64) (a3.add 0) W) x8) hD (by kernel_rfl) (by kernel_rfl) rfl (.free rfl) rfl (fun W hr => q_load (T := (tInt .i64)) (u := x8) (a := (a3.add 0)) rfl ok3 rfl hr) hx8 ?_
  obtain ⟨m9, hm9, h⟩ := h
  refine rd_read (i := 6) (d := (some 23)) (fun W => (MapGet T69 .i64 x7 x8 W) m9) hD (by kernel_rfl) (by kernel_rfl) rfl (.free rfl) rfl (fun W hr => q_lookup2 (T := T69) (r := x7) (key := x8) (u := m9) (z := Z69) rfl Tryz.underlying33 Tryz.underlying3 (inf70) rfl rfl hr) hm9 ?_
  refine rp 7 16 hD rfl rfl rfl (fun _ => q_move (v := (tTup2 T69 tBool).enc (((m9.getD Z69, m9.isSome)))) rfl rfl) ?_
  refine rp 8 24 hD rfl rfl rfl (fun _ => q_extract (vs := #[T69.enc (((m9.getD Z69, m9.isSome)).1), .bool (((m9.getD Z69, m9.isSome)).2)]) (v := T69.enc (((m9.getD Z69, m9.isSome)).1)) rfl rfl rfl) ?_
  refine rp 9 25 hD rfl rfl rfl (fun _ => q_extract (vs := #[T69.enc (((m9.getD Z69, m9.isSome)).1), .bool (((m9.getD Z69, m9.isSome)).2)]) (v := .bool (((m9.getD Z69, m9.isSome)).2)) rfl rfl rfl) ?_
  refine rd_one (i := 10) (by kernel_rfl) ?_
  obtain ⟨a10, w11, ha10, hw11, h⟩ := nw_open h
  refine po_val (d := (some 6)) rfl (.free rfl) rfl (q_alloc (u := Z69) rfl ok70 inf70 ha10 hw11) ⟨(hk_keep (fun h => keep_MapGet hw11 h) (hk_keep (fun h => keep_RdAt hw11 h) (hk_keep (fun h => keep_RdAt hw11 h) hk_nil))), ?_⟩
  refine rd_one (i := 11) (by kernel_rfl) ?_
  obtain ⟨w12, hw12, hrw12, h⟩ := st_open h
  refine po_skip (d := none) rfl (.free rfl) rfl (q_store (T := T69) (u := ((m9.getD Z69, m9.isSome)).1) (a := a10) rfl ok70 rfl rfl hrw12 hw12) ⟨(hk_wait (by kernel_rfl) (hk_wait (by kernel_rfl) (hk_wait (by kernel_rfl) hk_nil))), ?_⟩
  refine rp 12 7 hD rfl rfl rfl (fun _ => q_assign (v := .bool (((m9.getD Z69, m9.isSome)).2)) rfl rfl) ?_
  refine rd_nil (by kernel_rfl) ?_
  refine seq_join (σ := Addr × Bool) (J := fun (s : Addr × Bool) w => F39_j1 a3 a6 m9 s.1 s.2 w R) (fr := fun g (s : Addr × Bool) => upd (upd (upd (upd (upd (g) 0 (.pointer (v_1))) 3 (.pointer (some a3))) 7 (.bool (((m9.getD Z69, m9.isSome)).2))) 8 (.pointer (some s.1))) 9 (.bool (s.2))) ?_ ?_
  · rintro ⟨has_13, open_14⟩ g w15 h
    unfold F39_j1 at h
    refine wp_seq ?_
    obtain ⟨w16, hw16, h⟩ := dr_open h
    refine wp_drawn 12 mixed rfl (by kernel_rfl) (by intro c a d v w h; cases d <;> exact h) hw16 (fun hD => ?_)
    refine rp 0 38 hD rfl rfl rfl (fun _ => q_move (v := .pointer (v_1)) rfl rfl) ?_
    refine rp 1 39 hD rfl rfl rfl (fun _ => q_nilCheck (a := a6) rfl (congrArg Value.pointer ha6)) ?_
    refine rp 2 40 hD rfl rfl rfl (fun _ => q_fieldAddr (a := a6) (off := 4) rfl Tryz.underlying35 rfl rfl ok32 (by decide) rfl) ?_
    refine rp 4 42 hD rfl rfl rfl (fun _ => q_fieldAddr (a := a3) (off := 1) rfl Tryz.underlying53 rfl rfl ok3 (by decide) rfl) ?_
    obtain ⟨x17, hx17, h⟩ := h
    refine rd_read (i := 3) (d := (some 41)) (fun W => (RdAt tMap (a6.add 4) W) x17) hD (by kernel_rfl) (by kernel_rfl) rfl (.free rfl) rfl (fun W hr => q_load (T := tMap) (u := x17) (a := (a6.add 4)) rfl ok32 rfl hr) hx17 ?_
    obtain ⟨x18, hx18, h⟩ := h
    refine rd_read (i := 5) (d := (some 43)) (fun W => (RdAt (tInt .i64) (a3.add 1) W) x18) hD (by kernel_rfl) (by kernel_rfl) rfl (.free rfl) rfl (fun W hr => q_load (T := (tInt .i64)) (u := x18) (a := (a3.add 1)) rfl ok3 rfl hr) hx18 ?_
    obtain ⟨m19, hm19, h⟩ := h
    refine rd_read (i := 6) (d := (some 44)) (fun W => (MapGet (tInt .i64) .i64 x17 x18 W) m19) hD (by kernel_rfl) (by kernel_rfl) rfl (.free rfl) rfl (fun W hr => q_lookup2 (T := (tInt .i64)) (r := x17) (key := x18) (u := m19) (z := (0 : Int)) rfl Tryz.underlying32 Tryz.underlying3 (inf3) rfl rfl hr) hm19 ?_
    refine rp 7 37 hD rfl rfl rfl (fun _ => q_move (v := (tTup2 (tInt .i64) tBool).enc (((m19.getD (0 : Int), m19.isSome)))) rfl rfl) ?_
    refine rp 8 45 hD rfl rfl rfl (fun _ => q_extract (vs := #[.int .i64 (((m19.getD (0 : Int), m19.isSome)).1), .bool (((m19.getD (0 : Int), m19.isSome)).2)]) (v := .int .i64 (((m19.getD (0 : Int), m19.isSome)).1)) rfl rfl rfl) ?_
    refine rp 9 46 hD rfl rfl rfl (fun _ => q_extract (vs := #[.int .i64 (((m19.getD (0 : Int), m19.isSome)).1), .bool (((m19.getD (0 : Int), m19.isSome)).2)]) (v := .bool (((m19.getD (0 : Int), m19.isSome)).2)) rfl rfl rfl) ?_
    refine rp 10 10 hD rfl rfl rfl (fun _ => q_assign (v := .int .i64 (((m19.getD (0 : Int), m19.isSome)).1)) rfl rfl) ?_
    refine rp 11 11 hD rfl rfl rfl (fun _ => q_assign (v := .bool (((m19.getD (0 : Int), m19.isSome)).2)) rfl rfl) ?_
    refine rd_nil (by kernel_rfl) ?_
    refine wp_seq ?_
    refine wp_block ?_
    refine wp_seq ?_
    refine wp_text [0, 1, 2, 3] rfl ?_
    refine rv 48 rfl rfl rfl (q_fieldAddr (a := a3) (off := 0) rfl Tryz.underlying53 rfl rfl ok3 (by decide) rfl) ?_
    obtain ⟨x20, hx20, h⟩ := h
    refine rv 49 rfl rfl rfl (q_load (T := (tInt .i64)) (u := x20) (a := (a3.add 0)) rfl ok3 rfl hx20) ?_
    refine rv 50 rfl rfl rfl (q_lss (a := x20) (b := (1 : Int)) rfl rfl rfl) ?_
    refine rv 47 rfl rfl rfl (q_assign (v := .bool ((decide (x20 < (1 : Int))))) rfl rfl) ?_
    refine ro_nil ?_
    refine wp_if (b := (decide (x20 < (1 : Int)))) rfl h (fun hb54 h => ?_) (fun hb54 h => ?_)
    · refine wp_seq ?_
      refine wp_text [0, 1] rfl ?_
      refine rv 4 rfl rfl rfl (q_assign (v := .int .i64 ((0 : Int))) rfl rfl) ?_
      refine rv 5 rfl rfl rfl (q_assign (v := .int .i64 ((156 : Int))) rfl rfl) ?_
      refine ro_nil ?_
      refine wp_ret ?_
      exact ret_ok rfl (.cons (.tmp (v := .int .i64 ((0 : Int))) rfl) (.cons (.tmp (v := .int .i64 ((156 : Int))) rfl) .nil)) ⟨((0 : Int), (156 : Int)), rfl, h⟩
    · refine wp_seq ?_
      refine wp_text [0, 1] rfl ?_
      refine rv 52 rfl rfl rfl (q_move (v := .bool (((m9.getD Z69, m9.isSome)).2)) rfl rfl) ?_
      refine rv 51 rfl rfl rfl (q_assign (v := .bool (((m9.getD Z69, m9.isSome)).2)) rfl rfl) ?_
      refine ro_nil ?_
      refine wp_if (b := ((m9.getD Z69, m9.isSome)).2) rfl h (fun hb53 h => ?_) (fun hb53 h => ?_)
      · refine wp_seq ?_
        refine wp_text [0, 1] rfl ?_
        refine rv 4 rfl rfl rfl (q_assign (v := .int .i64 ((0 : Int))) rfl rfl) ?_
        refine rv 5 rfl rfl rfl (q_assign (v := .int .i64 ((157 : Int))) rfl rfl) ?_
        refine ro_nil ?_
        refine wp_ret ?_
        exact ret_ok rfl (.cons (.tmp (v := .int .i64 ((0 : Int))) rfl) (.cons (.tmp (v := .int .i64 ((157 : Int))) rfl) .nil)) ⟨((0 : Int), (157 : Int)), rfl, h⟩
      · refine wp_seq ?_
        refine wp_text [0, 1, 2, 3, 4, 5, 6] rfl ?_
        refine rv 54 rfl rfl rfl (q_move (v := .pointer (v_1)) rfl rfl) ?_
        refine rv 55 rfl rfl rfl (q_nilCheck (a := a6) rfl (congrArg Value.pointer ha6)) ?_
        refine rv 56 rfl rfl rfl (q_fieldAddr (a := a6) (off := 5) rfl Tryz.underlying35 rfl rfl ok33 (by decide) rfl) ?_
        obtain ⟨x21, hx21, h⟩ := h
        refine rv 57 rfl rfl rfl (q_load (T := tMap) (u := x21) (a := (a6.add 5)) rfl ok33 rfl hx21) ?_
        obtain ⟨l22, hl22, h⟩ := h
        refine rv 58 rfl rfl rfl (q_lenM (r := x21) (l := l22) rfl Tryz.underlying33 rfl hl22) ?_
        refine rv 59 rfl rfl rfl (q_geq (a := (l22 : Int)) (b := (5000 : Int)) rfl rfl rfl) ?_
        refine rv 53 rfl rfl rfl (q_assign (v := .bool ((decide ((l22 : Int) ≥ (5000 : Int))))) rfl rfl) ?_
        refine ro_nil ?_
        refine wp_if (b := (decide ((l22 : Int) ≥ (5000 : Int)))) rfl h (fun hb52 h => ?_) (fun hb52 h => ?_)
        · refine wp_seq ?_
          refine wp_text [0, 1] rfl ?_
          refine rv 4 rfl rfl rfl (q_assign (v := .int .i64 ((0 : Int))) rfl rfl) ?_
          refine rv 5 rfl rfl rfl (q_assign (v := .int .i64 ((158 : Int))) rfl rfl) ?_
          refine ro_nil ?_
          refine wp_ret ?_
          exact ret_ok rfl (.cons (.tmp (v := .int .i64 ((0 : Int))) rfl) (.cons (.tmp (v := .int .i64 ((158 : Int))) rfl) .nil)) ⟨((0 : Int), (158 : Int)), rfl, h⟩
        · refine wp_seq ?_
          refine wp_text [0, 1, 2, 3, 4] rfl ?_
          refine rv 61 rfl rfl rfl (q_fieldAddr (a := a3) (off := 1) rfl Tryz.underlying53 rfl rfl ok3 (by decide) rfl) ?_
          obtain ⟨x23, hx23, h⟩ := h
          refine rv 62 rfl rfl rfl (q_load (T := (tInt .i64)) (u := x23) (a := (a3.add 1)) rfl ok3 rfl hx23) ?_
          refine ro_wp rfl (.free rfl) (wp_cl (d := (some 63)) rfl (q_call (k := 43) (l := [.int .i64 (x23)]) rfl ent43 rfl) h ?_)
          intro r25 w24 h
          refine rv 64 rfl rfl rfl (q_not (b := r25) rfl rfl) ?_
          refine rv 60 rfl rfl rfl (q_assign (v := .bool ((!r25))) rfl rfl) ?_
          refine ro_nil ?_
          refine wp_if (b := (!r25)) rfl h (fun hb51 h => ?_) (fun hb51 h => ?_)
          · refine wp_seq ?_
            refine wp_text [0, 1] rfl ?_
            refine rv 4 rfl rfl rfl (q_assign (v := .int .i64 ((0 : Int))) rfl rfl) ?_
            refine rv 5 rfl rfl rfl (q_assign (v := .int .i64 ((153 : Int))) rfl rfl) ?_
            refine ro_nil ?_
            refine wp_ret ?_
            exact ret_ok rfl (.cons (.tmp (v := .int .i64 ((0 : Int))) rfl) (.cons (.tmp (v := .int .i64 ((153 : Int))) rfl) .nil)) ⟨((0 : Int), (153 : Int)), rfl, h⟩
          · refine wp_seq ?_
            refine wp_text [0, 1, 2, 3, 4, 5, 6, 7, 8, 9] rfl ?_
            refine rv 66 rfl rfl rfl (q_fieldAddr (a := a3) (off := 2) rfl Tryz.underlying53 rfl rfl ok2 (by decide) rfl) ?_
            obtain ⟨x26, hx26, h⟩ := h
            refine rv 67 rfl rfl rfl (q_load (T := (tInt .i64)) (u := x26) (a := (a3.add 2)) rfl ok2 rfl hx26) ?_
            refine rv 68 rfl rfl rfl (q_lss (a := x26) (b := (1 : Int)) rfl rfl rfl) ?_
            refine rv 69 rfl rfl rfl (q_move (v := .bool ((decide (x26 < (1 : Int))))) rfl rfl) ?_
            refine ro_join (σ := Bool) (J := fun (s : Bool) w => F39_j2 a3 a6 has_13 open_14 m19 s w R) (fr := fun g (s : Bool) => upd (upd (upd (upd (upd (upd (g) 0 (.pointer (v_1))) 3 (.pointer (some a3))) 8 (.pointer (some has_13))) 9 (.bool (open_14))) 11 (.bool (((m19.getD (0 : Int), m19.isSome)).2))) 74 (.bool (s))) [4, 5, 6, 7, 8] [9] ?_ ?_
            · rintro t_27 g w28 h
              unfold F39_j2 at h
              refine rv 65 rfl rfl rfl (q_assign (v := .bool (t_27)) rfl rfl) ?_
              refine ro_nil ?_
              refine wp_if (b := t_27) rfl h (fun hb46 h => ?_) (fun hb46 h => ?_)
              · refine wp_seq ?_
                refine wp_text [0, 1] rfl ?_
                refine rv 4 rfl rfl rfl (q_assign (v := .int .i64 ((0 : Int))) rfl rfl) ?_
                refine rv 5 rfl rfl rfl (q_assign (v := .int .i64 ((155 : Int))) rfl rfl) ?_
                refine ro_nil ?_
                refine wp_ret ?_
                exact ret_ok rfl (.cons (.tmp (v := .int .i64 ((0 : Int))) rfl) (.cons (.tmp (v := .int .i64 ((155 : Int))) rfl) .nil)) ⟨((0 : Int), (155 : Int)), rfl, h⟩
              · refine wp_seq ?_
                refine wp_text [0, 1, 2] rfl ?_
                refine rv 76 rfl rfl rfl (q_move (v := .bool (open_14)) rfl rfl) ?_
                refine rv 77 rfl rfl rfl (q_not (b := open_14) rfl rfl) ?_
                refine rv 75 rfl rfl rfl (q_assign (v := .bool ((!open_14))) rfl rfl) ?_
                refine ro_nil ?_
                refine wp_if (b := (!open_14)) rfl h (fun hb45 h => ?_) (fun hb45 h => ?_)
                · refine wp_seq ?_
                  refine wp_text [0, 1] rfl ?_
                  refine rv 4 rfl rfl rfl (q_assign (v := .int .i64 ((0 : Int))) rfl rfl) ?_
                  refine rv 5 rfl rfl rfl (q_assign (v := .int .i64 ((159 : Int))) rfl rfl) ?_
                  refine ro_nil ?_
                  refine wp_ret ?_
                  exact ret_ok rfl (.cons (.tmp (v := .int .i64 ((0 : Int))) rfl) (.cons (.tmp (v := .int .i64 ((159 : Int))) rfl) .nil)) ⟨((0 : Int), (159 : Int)), rfl, h⟩
                · refine wp_seq ?_
                  refine wp_text [0, 1] rfl ?_
                  refine rv 79 rfl rfl rfl (q_move (v := .bool (((m19.getD (0 : Int), m19.isSome)).2)) rfl rfl) ?_
                  refine rv 78 rfl rfl rfl (q_assign (v := .bool (((m19.getD (0 : Int), m19.isSome)).2)) rfl rfl) ?_
                  refine ro_nil ?_
                  refine wp_if (b := ((m19.getD (0 : Int), m19.isSome)).2) rfl h (fun hb44 h => ?_) (fun hb44 h => ?_)
                  · refine wp_seq ?_
                    refine wp_text [0, 1] rfl ?_
                    refine rv 4 rfl rfl rfl (q_assign (v := .int .i64 ((0 : Int))) rfl rfl) ?_
                    refine rv 5 rfl rfl rfl (q_assign (v := .int .i64 ((160 : Int))) rfl rfl) ?_
                    refine ro_nil ?_
                    refine wp_ret ?_
                    exact ret_ok rfl (.cons (.tmp (v := .int .i64 ((0 : Int))) rfl) (.cons (.tmp (v := .int .i64 ((160 : Int))) rfl) .nil)) ⟨((0 : Int), (160 : Int)), rfl, h⟩
                  · refine wp_skip ?_
                    refine wp_seq ?_
                    refine wp_seq ?_
                    refine wp_text [0, 1, 2] rfl ?_
                    refine rv 80 rfl rfl rfl (q_fieldAddr (a := a3) (off := 3) rfl Tryz.underlying53 rfl rfl ok4 (by decide) rfl) ?_
                    obtain ⟨x29, hx29, h⟩ := h
                    refine rv 81 rfl rfl rfl (q_load (T := tBool) (u := x29) (a := (a3.add 3)) rfl ok4 rfl hx29) ?_
                    refine rv 82 rfl rfl rfl (q_not (b := x29) rfl rfl) ?_
                    refine ro_nil ?_
                    refine wp_if (b := (!x29)) rfl h (fun hb43 h => ?_) (fun hb43 h => ?_)
                    · refine wp_seq ?_
                      refine wp_seq ?_
                      refine wp_text [0, 1, 2, 3, 4, 5, 6, 7, 8, 9] rfl ?_
                      refine rv 84 rfl rfl rfl (q_fieldAddr (a := has_13) (off := 1) rfl Tryz.underlying87 rfl rfl ok2 (by decide) rfl) ?_
                      obtain ⟨x30, hx30, h⟩ := h
                      refine rv 85 rfl rfl rfl (q_load (T := (tInt .i64)) (u := x30) (a := (has_13.add 1)) rfl ok2 rfl hx30) ?_
                      refine rv 86 rfl rfl rfl (q_fieldAddr (a := a3) (off := 2) rfl Tryz.underlying53 rfl rfl ok2 (by decide) rfl) ?_
                      obtain ⟨x31, hx31, h⟩ := h
                      refine rv 87 rfl rfl rfl (q_load (T := (tInt .i64)) (u := x31) (a := (a3.add 2)) rfl ok2 rfl hx31) ?_
                      refine ro_wp rfl (.free rfl) (wp_cl (d := (some 88)) rfl (q_call (k := 57) (l := [.int .i64 (x30), .int .i64 (x31)]) rfl ent57 rfl) h ?_)
                      intro r33 w32 h
                      refine rv 83 rfl rfl rfl (q_move (v := (tTup2 (tInt .i64) (tInt .i64)).enc (r33)) rfl rfl) ?_
                      refine rv 89 rfl rfl rfl (q_extract (vs := #[.int .i64 (r33.1), .int .i64 (r33.2)]) (v := .int .i64 (r33.1)) rfl rfl rfl) ?_
                      refine rv 90 rfl rfl rfl (q_extract (vs := #[.int .i64 (r33.1), .int .i64 (r33.2)]) (v := .int .i64 (r33.2)) rfl rfl rfl) ?_
                      refine rv 12 rfl rfl rfl (q_assign (v := .int .i64 (r33.1)) rfl rfl) ?_
                      refine rv 13 rfl rfl rfl (q_assign (v := .int .i64 (r33.2)) rfl rfl) ?_
                      refine ro_nil ?_
                      refine wp_seq ?_
                      refine wp_text [0, 1] rfl ?_
                      refine rv 91 rfl rfl rfl (q_move (v := .int .i64 (r33.2)) rfl rfl) ?_
                      refine rv 92 rfl rfl rfl (q_neq (a := r33.2) (b := (0 : Int)) rfl rfl rfl) ?_
                      refine ro_nil ?_
                      refine wp_if (b := (r33.2 != (0 : Int))) rfl h (fun hb34 h => ?_) (fun hb34 h => ?_)
                      · refine wp_seq ?_
                        refine wp_text [0, 1] rfl ?_
                        refine rv 4 rfl rfl rfl (q_assign (v := .int .i64 ((0 : Int))) rfl rfl) ?_
                        refine rv 5 rfl rfl rfl (q_assign (v := .int .i64 ((162 : Int))) rfl rfl) ?_
                        refine ro_nil ?_
                        refine wp_ret ?_
                        exact ret_ok rfl (.cons (.tmp (v := .int .i64 ((0 : Int))) rfl) (.cons (.tmp (v := .int .i64 ((162 : Int))) rfl) .nil)) ⟨((0 : Int), (162 : Int)), rfl, h⟩
                      · refine wp_skip ?_
                        refine wp_seq ?_
                        refine wp_text [0, 1] rfl ?_
                        refine rv 4 rfl rfl rfl (q_assign (v := .int .i64 ((0 : Int))) rfl rfl) ?_
                        refine rv 5 rfl rfl rfl (q_assign (v := .int .i64 ((0 : Int))) rfl rfl) ?_
                        refine ro_nil ?_
                        refine wp_ret ?_
                        exact ret_ok rfl (.cons (.tmp (v := .int .i64 ((0 : Int))) rfl) (.cons (.tmp (v := .int .i64 ((0 : Int))) rfl) .nil)) ⟨((0 : Int), (0 : Int)), rfl, h⟩
                    · refine wp_skip ?_
                      refine wp_seq ?_
                      obtain ⟨w35, hw35, h⟩ := dr_open h
                      refine wp_drawn 12 mixed rfl (by kernel_rfl) (by intro c a d v w h; cases d <;> exact h) hw35 (fun hD => ?_)
                      refine rp 0 94 hD rfl rfl rfl (fun _ => q_fieldAddr (a := a3) (off := 2) rfl Tryz.underlying53 rfl rfl ok2 (by decide) rfl) ?_
                      refine rp 2 96 hD rfl rfl rfl (fun _ => q_move (v := .pointer (v_1)) rfl rfl) ?_
                      refine rp 3 97 hD rfl rfl rfl (fun _ => q_nilCheck (a := a6) rfl (congrArg Value.pointer ha6)) ?_
                      refine rp 4 98 hD rfl rfl rfl (fun _ => q_fieldAddr (a := a6) (off := 1) rfl Tryz.underlying35 rfl rfl ok22 (by decide) rfl) ?_
                      obtain ⟨x36, hx36, h⟩ := h
                      refine rd_read (i := 1) (d := (some 95)) (fun W => (RdAt (tInt .i64) (a3.add 2) W) x36) hD (by kernel_rfl) (by kernel_rfl) rfl (.free rfl) rfl (fun W hr => q_load (T := (tInt .i64)) (u := x36) (a := (a3.add 2)) rfl ok2 rfl hr) hx36 ?_
                      obtain ⟨x37, hx37, h⟩ := h
                      refine rd_read (i := 5) (d := (some 99)) (fun W => (RdAt tFlt (a6.add 1) W) x37) hD (by kernel_rfl) (by kernel_rfl) rfl (.free rfl) rfl (fun W hr => q_load (T := tFlt) (u := x37) (a := (a6.add 1)) rfl ok22 rfl hr) hx37 ?_
                      refine rd_one (i := 6) (by kernel_rfl) ?_
                      refine po_wp rfl (.free rfl) (wp_cl (d := (some 100)) rfl (q_call (k := 58) (l := [.int .i64 (x36), .float .f64 (x37)]) rfl ent58 rfl) h ?_)
                      intro r39 w38 h
                      refine ⟨(hk_wait (by kernel_rfl) (hk_wait (by kernel_rfl) hk_nil)), ?_⟩
                      refine rp 7 93 hD rfl rfl rfl (fun _ => q_move (v := (tTup2 (tInt .i64) (tInt .i64)).enc (r39)) rfl rfl) ?_
                      refine rp 8 101 hD rfl rfl rfl (fun _ => q_extract (vs := #[.int .i64 (r39.1), .int .i64 (r39.2)]) (v := .int .i64 (r39.1)) rfl rfl rfl) ?_
                      refine rp 9 102 hD rfl rfl rfl (fun _ => q_extract (vs := #[.int .i64 (r39.1), .int .i64 (r39.2)]) (v := .int .i64 (r39.2)) rfl rfl rfl) ?_
                      refine rp 10 14 hD rfl rfl rfl (fun _ => q_assign (v := .int .i64 (r39.1)) rfl rfl) ?_
                      refine rp 11 15 hD rfl rfl rfl (fun _ => q_assign (v := .int .i64 (r39.2)) rfl rfl) ?_
                      refine rd_nil (by kernel_rfl) ?_
                      refine wp_seq ?_
                      refine wp_seq ?_
                      refine wp_text [0, 1, 2, 3, 4, 5, 6] rfl ?_
                      refine rv 103 rfl rfl rfl (q_fieldAddr (a := has_13) (off := 1) rfl Tryz.underlying87 rfl rfl ok2 (by decide) rfl) ?_
                      obtain ⟨x40, hx40, h⟩ := h
                      refine rv 104 rfl rfl rfl (q_load (T := (tInt .i64)) (u := x40) (a := (has_13.add 1)) rfl ok2 rfl hx40) ?_
                      refine rv 105 rfl rfl rfl (q_fieldAddr (a := a3) (off := 2) rfl Tryz.underlying53 rfl rfl ok2 (by decide) rfl) ?_
                      obtain ⟨x41, hx41, h⟩ := h
                      refine rv 106 rfl rfl rfl (q_load (T := (tInt .i64)) (u := x41) (a := (a3.add 2)) rfl ok2 rfl hx41) ?_
                      refine rv 107 rfl rfl rfl (q_move (v := .int .i64 (r39.1)) rfl rfl) ?_
                      refine rv 108 rfl rfl rfl (q_add (a := x41) (b := r39.1) rfl rfl rfl) ?_
                      refine rv 109 rfl rfl rfl (q_lss (a := x40) (b := (IntKind.i64.wrap (x41 + r39.1))) rfl rfl rfl) ?_
                      refine ro_nil ?_
                      refine wp_if (b := (decide (x40 < (IntKind.i64.wrap (x41 + r39.1))))) rfl h (fun hb42 h => ?_) (fun hb42 h => ?_)
                      · refine wp_seq ?_
                        refine wp_text [0, 1] rfl ?_
                        refine rv 4 rfl rfl rfl (q_assign (v := .int .i64 ((0 : Int))) rfl rfl) ?_
                        refine rv 5 rfl rfl rfl (q_assign (v := .int .i64 ((161 : Int))) rfl rfl) ?_
                        refine ro_nil ?_
                        refine wp_ret ?_
                        exact ret_ok rfl (.cons (.tmp (v := .int .i64 ((0 : Int))) rfl) (.cons (.tmp (v := .int .i64 ((161 : Int))) rfl) .nil)) ⟨((0 : Int), (161 : Int)), rfl, h⟩
                      · refine wp_skip ?_
                        refine wp_seq ?_
                        refine wp_text [0, 1, 2] rfl ?_
                        refine rv 110 rfl rfl rfl (q_move (v := .int .i64 (r39.1)) rfl rfl) ?_
                        refine rv 4 rfl rfl rfl (q_assign (v := .int .i64 (r39.1)) rfl rfl) ?_
                        refine rv 5 rfl rfl rfl (q_assign (v := .int .i64 ((0 : Int))) rfl rfl) ?_
                        refine ro_nil ?_
                        refine wp_ret ?_
                        exact ret_ok rfl (.cons (.tmp (v := .int .i64 (r39.1)) rfl) (.cons (.tmp (v := .int .i64 ((0 : Int))) rfl) .nil)) ⟨(r39.1, (0 : Int)), rfl, h⟩
            · refine ro_if (b := (decide (x26 < (1 : Int)))) h (fun hb47 h => ?_) (fun hb47 h => ?_)
              · refine ro_bar (d := (some 70)) rfl (.by_ 3 false 69 (decide (x26 < (1 : Int))) rfl rfl rfl hb47) rfl ?_
                refine ro_bar (d := (some 71)) rfl (.by_ 3 false 69 (decide (x26 < (1 : Int))) rfl rfl rfl hb47) rfl ?_
                refine ro_bar (d := (some 72)) rfl (.by_ 3 false 69 (decide (x26 < (1 : Int))) rfl rfl rfl hb47) rfl ?_
                refine ro_bar (d := (some 73)) rfl (.by_ 3 false 69 (decide (x26 < (1 : Int))) rfl rfl rfl hb47) rfl ?_
                refine rv 74 rfl rfl rfl (q_pickT (v := .bool (true)) (b := (decide (x26 < (1 : Int)))) rfl rfl hb47 rfl) ?_
                refine ro_nil ?_
                exact ⟨(true), _, arr (upd_step (upd_step (upd_step (upd_step (upd_step (upd_step rfl rfl) rfl) rfl) rfl) rfl) rfl), h⟩
              · refine ro_val (d := (some 70)) rfl (.by_ 3 false 69 (decide (x26 < (1 : Int))) rfl rfl rfl hb47) rfl (q_fieldAddr (a := a3) (off := 2) rfl Tryz.underlying53 rfl rfl ok2 (by decide) rfl) ?_
                obtain ⟨x48, hx48, h⟩ := h
                refine ro_val (d := (some 71)) rfl (.by_ 3 false 69 (decide (x26 < (1 : Int))) rfl rfl rfl hb47) rfl (q_load (T := (tInt .i64)) (u := x48) (a := (a3.add 2)) rfl ok2 rfl hx48) ?_
                refine ro_wp rfl (.by_ 3 false 69 (decide (x26 < (1 : Int))) rfl rfl rfl hb47) (wp_cl (d := (some 72)) rfl (q_call (k := 44) (l := [.int .i64 (x48)]) rfl ent44 rfl) h ?_)
                intro r50 w49 h
                refine ro_val (d := (some 73)) rfl (.by_ 3 false 69 (decide (x26 < (1 : Int))) rfl rfl rfl hb47) rfl (q_neq (a := r50) (b := (0 : Int)) rfl rfl rfl) ?_
                refine rv 74 rfl rfl rfl (q_pickF (v := .bool ((r50 != (0 : Int)))) (b := (decide (x26 < (1 : Int)))) rfl rfl hb47 rfl) ?_
                refine ro_nil ?_
                exact ⟨((r50 != (0 : Int))), _, arr (upd_step (upd_step (upd_step (upd_step (upd_step (upd_step rfl rfl) rfl) rfl) rfl) rfl) rfl), h⟩
  · obtain ⟨w55, hw55, h⟩ := dr_open h
    refine wp_drawn 14 mixed rfl (by kernel_rfl) (by intro c a d v w h; cases d <;> exact h) hw55 (fun hD => ?_)
    refine rp 0 27 hD rfl rfl rfl (fun _ => q_move (v := .pointer (v_1)) rfl rfl) ?_
    refine rp 1 28 hD rfl rfl rfl (fun _ => q_nilCheck (a := a6) rfl (congrArg Value.pointer ha6)) ?_
    refine rp 2 29 hD rfl rfl rfl (fun _ => q_fieldAddr (a := a6) (off := 0) rfl Tryz.underlying35 rfl rfl ok30 (by decide) rfl) ?_
    refine rp 3 30 hD rfl rfl rfl (fun _ => q_fieldAddr (a := (a6.add 0)) (off := 0) rfl Tryz.underlying30 rfl rfl ok28 (by decide) rfl) ?_
    refine rp 5 32 hD rfl rfl rfl (fun _ => q_fieldAddr (a := a3) (off := 1) rfl Tryz.underlying53 rfl rfl ok3 (by decide) rfl) ?_
    obtain ⟨x56, hx56, h⟩ := h
    refine rd_read (i := 4) (d := (some 31)) (fun W => (RdAt tPtr ((a6.add 0).add 0) W) x56) hD (by kernel_rfl) (by kernel_rfl) rfl (.free rfl) rfl (fun W hr => q_load (T := tPtr) (u := x56) (a := ((a6.add 0).add 0)) rfl ok28 rfl hr) hx56 ?_
    obtain ⟨x57, hx57, h⟩ := h
    refine rd_read (i := 6) (d := (some 33)) (fun W => (RdAt (tInt .i64) (a3.add 1) W) x57) hD (by kernel_rfl) (by kernel_rfl) rfl (.free rfl) rfl (fun W hr => q_load (T := (tInt .i64)) (u := x57) (a := (a3.add 1)) rfl ok3 rfl hr) hx57 ?_
    obtain ⟨h, h'⟩ := h
    refine rd_two (i := 7) (j := 11) (by kernel_rfl) ?_ ?_
    · clear h'
      refine po_wp rfl (.free rfl) (wp_cl (d := (some 34)) rfl (q_call (k := 42) (l := [.pointer (x56), .int .i64 (x57)]) rfl ent42 rfl) h ?_)
      intro r59 w58 h
      refine ⟨(hk_wait (by kernel_rfl) (hk_wait (by kernel_rfl) hk_nil)), ?_⟩
      refine rp 8 26 hD rfl rfl rfl (fun _ => q_move (v := (tTup2 T86 tBool).enc (r59)) rfl rfl) ?_
      refine rp 9 35 hD rfl rfl rfl (fun _ => q_extract (vs := #[T86.enc (r59.1), .bool (r59.2)]) (v := T86.enc (r59.1)) rfl rfl rfl) ?_
      refine rp 10 36 hD rfl rfl rfl (fun _ => q_extract (vs := #[T86.enc (r59.1), .bool (r59.2)]) (v := .bool (r59.2)) rfl rfl rfl) ?_
      refine rd_one (i := 11) (by kernel_rfl) ?_
      obtain ⟨a60, w61, ha60, hw61, h⟩ := nw_open h
      refine po_val (d := (some 8)) rfl (.free rfl) rfl (q_alloc (u := Z86) rfl ok87 inf87 ha60 hw61) ⟨(hk_keep (fun h => keep_RdAt hw61 h) (hk_keep (fun h => keep_RdAt hw61 h) hk_nil)), ?_⟩
      refine rd_one (i := 12) (by kernel_rfl) ?_
      obtain ⟨w62, hw62, hrw62, h⟩ := st_open h
      refine po_skip (d := none) rfl (.free rfl) rfl (q_store (T := T86) (u := r59.1) (a := a60) rfl ok87 rfl rfl hrw62 hw62) ⟨(hk_wait (by kernel_rfl) (hk_wait (by kernel_rfl) hk_nil)), ?_⟩
      refine rp 13 9 hD rfl rfl rfl (fun _ => q_assign (v := .bool (r59.2)) rfl rfl) ?_
      refine rd_nil (by kernel_rfl) ?_
      exact ⟨(a60, r59.2), _, arr (upd_step (upd_step (upd_step (upd_step (upd_step rfl rfl) rfl) rfl) rfl) rfl), h⟩
    · replace h := h'; clear h'
      obtain ⟨a63, w64, ha63, hw64, h⟩ := nw_open h
      refine po_val (d := (some 8)) rfl (.free rfl) rfl (q_alloc (u := Z86) rfl ok87 inf87 ha63 hw64) ⟨(hk_keep (fun h => keep_RdAt hw64 h) (hk_keep (fun h => keep_RdAt hw64 h) hk_nil)), ?_⟩
      refine rd_one (i := 7) (by kernel_rfl) ?_
      refine po_wp rfl (.free rfl) (wp_cl (d := (some 34)) rfl (q_call (k := 42) (l := [.pointer (x56), .int .i64 (x57)]) rfl ent42 rfl) h ?_)
      intro r66 w65 h
      refine ⟨(hk_wait (by kernel_rfl) (hk_wait (by kernel_rfl) hk_nil)), ?_⟩
      refine rp 8 26 hD rfl rfl rfl (fun _ => q_move (v := (tTup2 T86 tBool).enc (r66)) rfl rfl) ?_
      refine rp 9 35 hD rfl rfl rfl (fun _ => q_extract (vs := #[T86.enc (r66.1), .bool (r66.2)]) (v := T86.enc (r66.1)) rfl rfl rfl) ?_
      refine rp 10 36 hD rfl rfl rfl (fun _ => q_extract (vs := #[T86.enc (r66.1), .bool (r66.2)]) (v := .bool (r66.2)) rfl rfl rfl) ?_
      refine rd_one (i := 12) (by kernel_rfl) ?_
      obtain ⟨w67, hw67, hrw67, h⟩ := st_open h
      refine po_skip (d := none) rfl (.free rfl) rfl (q_store (T := T86) (u := r66.1) (a := a63) rfl ok87 rfl rfl hrw67 hw67) ⟨(hk_wait (by kernel_rfl) (hk_wait (by kernel_rfl) hk_nil)), ?_⟩
      refine rp 13 9 hD rfl rfl rfl (fun _ => q_assign (v := .bool (r66.2)) rfl rfl) ?_
      refine rd_nil (by kernel_rfl) ?_
      exact ⟨(a63, r66.2), _, arr (upd_step (upd_step (upd_step (upd_step (upd_step rfl rfl) rfl) rfl) rfl) rfl), h⟩
def F40_j1 (t_4 : Bool) (w5 : World) (R : Int → World → Prop) : Prop :=
  if t_4 = true then (
    R (43 : Int) w5
  ) else (
    R (0 : Int) w5
  )
def F40 (f_1 : Nat) (w : World) (R : Int → World → Prop) : Prop :=
  cl Tryz.prog 59 [.float .f64 (f_1)] (tInt .i64) w fun r3 w2 =>
  if (decide (r3 < (3 : Int))) = true then (
    F40_j1 true w2 R
  ) else (
    cl Tryz.prog 60 [.float .f64 (f_1), .float .f64 ((4607182418800017408 : Nat))] (tInt .i64) w2 fun r9 w8 =>
    F40_j1 (decide (r9 > (0 : Int))) w8 R
  )
theorem F40_ok {f_1 : Nat} {w : World} {R : Int → World → Prop} (h : F40 f_1 w R) : cl Tryz.prog 40 [.float .f64 (f_1)] (tInt .i64) w R := by
  unfold F40 at h
  refine calls_start 11 Tryz.func40 rfl rfl (Nat.le_of_ble_eq_true rfl) ?_
  refine wp_seq ?_
  refine wp_text [0] rfl ?_
  refine rv 2 rfl rfl rfl (q_assign (v := .int .i64 ((0 : Int))) rfl rfl) ?_
  refine ro_nil ?_
  refine wp_seq ?_
  refine wp_seq ?_
  refine wp_text [0, 1, 2, 3, 4, 5, 6, 7] rfl ?_
  refine rv 3 rfl rfl rfl (q_move (v := .float .f64 (f_1)) rfl rfl) ?_
  refine ro_wp rfl (.free rfl) (wp_cl (d := (some 4)) rfl (q_call (k := 59) (l := [.float .f64 (f_1)]) rfl ent59 rfl) h ?_)
  intro r3 w2 h
  refine rv 5 rfl rfl rfl (q_lss (a := r3) (b := (3 : Int)) rfl rfl rfl) ?_
  refine rv 6 rfl rfl rfl (q_move (v := .bool ((decide (r3 < (3 : Int))))) rfl rfl) ?_
  refine ro_join (σ := Bool) (J := fun (s : Bool) w => F40_j1 s w R) (fr := fun g (s : Bool) => upd (g) 10 (.bool (s))) [4, 5, 6, 7] [] ?_ ?_
  · rintro t_4 g w5 h
    unfold F40_j1 at h
    refine ro_nil ?_
    refine wp_if (b := t_4) rfl h (fun hb6 h => ?_) (fun hb6 h => ?_)
    · refine wp_seq ?_
      refine wp_text [0] rfl ?_
      refine rv 2 rfl rfl rfl (q_assign (v := .int .i64 ((43 : Int))) rfl rfl) ?_
      refine ro_nil ?_
      refine wp_ret ?_
      exact ret_ok rfl (.cons (.tmp (v := .int .i64 ((43 : Int))) rfl) .nil) ⟨(43 : Int), rfl, h⟩
    · refine wp_skip ?_
      refine wp_seq ?_
      refine wp_text [0] rfl ?_
      refine rv 2 rfl rfl rfl (q_assign (v := .int .i64 ((0 : Int))) rfl rfl) ?_
      refine ro_nil ?_
      refine wp_ret ?_
      exact ret_ok rfl (.cons (.tmp (v := .int .i64 ((0 : Int))) rfl) .nil) ⟨(0 : Int), rfl, h⟩
  · refine ro_if (b := (decide (r3 < (3 : Int)))) h (fun hb7 h => ?_) (fun hb7 h => ?_)
    · refine ro_bar (d := (some 7)) rfl (.by_ 3 false 6 (decide (r3 < (3 : Int))) rfl rfl rfl hb7) rfl ?_
      refine ro_bar (d := (some 8)) rfl (.by_ 3 false 6 (decide (r3 < (3 : Int))) rfl rfl rfl hb7) rfl ?_
      refine ro_bar (d := (some 9)) rfl (.by_ 3 false 6 (decide (r3 < (3 : Int))) rfl rfl rfl hb7) rfl ?_
      refine rv 10 rfl rfl rfl (q_pickT (v := .bool (true)) (b := (decide (r3 < (3 : Int)))) rfl rfl hb7 rfl) ?_
      refine ro_nil ?_
      exact ⟨(true), _, arr (upd_step rfl rfl), h⟩
    · refine ro_val (d := (some 7)) rfl (.by_ 3 false 6 (decide (r3 < (3 : Int))) rfl rfl rfl hb7) rfl (q_move (v := .float .f64 (f_1)) rfl rfl) ?_
      refine ro_wp rfl (.by_ 3 false 6 (decide (r3 < (3 : Int))) rfl rfl rfl hb7) (wp_cl (d := (some 8)) rfl (q_call (k := 60) (l := [.float .f64 (f_1), .float .f64 ((4607182418800017408 : Nat))]) rfl ent60 rfl) h ?_)
      intro r9 w8 h
      refine ro_val (d := (some 9)) rfl (.by_ 3 false 6 (decide (r3 < (3 : Int))) rfl rfl rfl hb7) rfl (q_gtr (a := r9) (b := (0 : Int)) rfl rfl rfl) ?_
      refine rv 10 rfl rfl rfl (q_pickF (v := .bool ((decide (r9 > (0 : Int))))) (b := (decide (r3 < (3 : Int)))) rfl rfl hb7 rfl) ?_
      refine ro_nil ?_
      exact ⟨((decide (r9 > (0 : Int)))), _, arr (upd_step rfl rfl), h⟩
def F41 (w : World) (R : (Option Addr) → World → Prop) : Prop :=
  nwMap w fun m2 w1 =>
  nw 95 T94 (⟨(some m2), (0 : Int), (0 : Int)⟩ : S94) w1 fun a3 w4 =>
  R (some a3) w4
theorem F41_ok {w : World} {R : (Option Addr) → World → Prop} (h : F41 w R) : cl Tryz.prog 41 [] tPtr w R := by
  unfold F41 at h
  refine calls_start 4 Tryz.func41 rfl rfl (Nat.le_of_ble_eq_true rfl) ?_
  refine wp_seq ?_
  refine wp_text [0] rfl ?_
  refine rv 0 rfl rfl rfl (q_assign (v := .pointer ((none : Option Addr))) rfl rfl) ?_
  refine ro_nil ?_
  refine wp_seq ?_
  refine wp_text [0, 1, 2, 3] rfl ?_
  obtain ⟨m2, w1, hm2, hw1, h⟩ := nwMap_open h
  refine rv 1 rfl rfl rfl (q_makeMap rfl hm2 hw1) ?_
  refine rv 2 rfl rfl rfl (q_build95_0 (v0 := (some m2)) rfl rfl) ?_
  obtain ⟨a3, w4, ha3, hw4, h⟩ := nw_open h
  refine rv 3 rfl rfl rfl (q_box (u := (⟨(some m2), (0 : Int), (0 : Int)⟩ : S94)) rfl ok95 rfl ha3 hw4) ?_
  refine rv 0 rfl rfl rfl (q_assign (v := .pointer (some a3)) rfl rfl) ?_
  refine ro_nil ?_
  refine wp_ret ?_
  exact ret_ok rfl (.cons (.tmp (v := .pointer ((some a3))) rfl) .nil) ⟨(some a3), rfl, h⟩
def F42 (s_1 : (Option Addr)) (key_2 : Int) (w : World) (R : (S86 × Bool) → World → Prop) : Prop :=
  nw 87 T86 Z86 w fun a3 w4 =>
  ex (NC s_1) fun a5 =>
  ex (RdAt tMap (a5.add 0) w4) fun x6 =>
  ex (MapGet tPtr .i64 x6 key_2 w4) fun m7 =>
  if (!(((m7.getD (none : Option Addr), m7.isSome)).2)) = true then (
    st T86 a3 (⟨(0 : Int), (0 : Int)⟩ : S86) w4 fun w8 =>
    ex (RdAt T86 a3 w8) fun x9 =>
    R (x9, false) w8
  ) else (
    cl Tryz.prog 61 [.pointer (((m7.getD (none : Option Addr), m7.isSome)).1)] (tTup2 T86 tBool) w4 fun r11 w10 =>
    st T86 a3 r11.1 w10 fun w12 =>
    ex (RdAt T86 a3 w12) fun x13 =>
    R (x13, r11.2) w12
  )
theorem F42_ok {s_1 : (Option Addr)} {key_2 : Int} {w : World} {R : (S86 × Bool) → World → Prop} (h : F42 s_1 key_2 w R) : cl Tryz.prog 42 [.pointer (s_1), .int .i64 (key_2)] (tTup2 T86 tBool) w R := by
  unfold F42 at h
  refine calls_start 24 Tryz.func42 rfl rfl (Nat.le_of_ble_eq_true rfl) ?_
  refine wp_seq ?_
  refine wp_text [0, 1] rfl ?_
  obtain ⟨a3, w4, ha3, hw4, h⟩ := nw_open h
  refine rv 4 rfl rfl rfl (q_alloc (u := Z86) rfl ok87 inf87 ha3 hw4) ?_
  refine rv 5 rfl rfl rfl (q_assign (v := .bool (false)) rfl rfl) ?_
  refine ro_nil ?_
  refine wp_seq ?_
  refine wp_text [0, 1, 2, 3, 4, 5, 6, 7, 8, 9, 10] rfl ?_
  refine rv 9 rfl rfl rfl (q_move (v := .pointer (s_1)) rfl rfl) ?_
  obtain ⟨a5, ha5, h⟩ := h
  refine rv 10 rfl rfl rfl (q_nilCheck (a := a5) rfl (congrArg Value.pointer ha5)) ?_
  refine rv 11 rfl rfl rfl (q_fieldAddr (a := a5) (off := 0) rfl Tryz.underlying95 rfl rfl ok93 (by decide) rfl) ?_
  obtain ⟨x6, hx6, h⟩ := h
  refine rv 12 rfl rfl rfl (q_load (T := tMap) (u := x6) (a := (a5.add 0)) rfl ok93 rfl hx6) ?_
  refine rv 13 rfl rfl rfl (q_move (v := .int .i64 (key_2)) rfl rfl) ?_
  obtain ⟨m7, hm7, h⟩ := h
  refine rv 14 rfl rfl rfl (q_lookup2 (T := tPtr) (r := x6) (key := key_2) (u := m7) (z := (none : Option Addr)) rfl Tryz.underlying93 Tryz.underlying3 (inf97) rfl rfl hm7) ?_
  refine rv 8 rfl rfl rfl (q_move (v := (tTup2 tPtr tBool).enc (((m7.getD (none : Option Addr), m7.isSome)))) rfl rfl) ?_
  refine rv 15 rfl rfl rfl (q_extract (vs := #[.pointer (((m7.getD (none : Option Addr), m7.isSome)).1), .bool (((m7.getD (none : Option Addr), m7.isSome)).2)]) (v := .pointer (((m7.getD (none : Option Addr), m7.isSome)).1)) rfl rfl rfl) ?_
  refine rv 16 rfl rfl rfl (q_extract (vs := #[.pointer (((m7.getD (none : Option Addr), m7.isSome)).1), .bool (((m7.getD (none : Option Addr), m7.isSome)).2)]) (v := .bool (((m7.getD (none : Option Addr), m7.isSome)).2)) rfl rfl rfl) ?_
  refine rv 6 rfl rfl rfl (q_assign (v := .pointer (((m7.getD (none : Option Addr), m7.isSome)).1)) rfl rfl) ?_
  refine rv 7 rfl rfl rfl (q_assign (v := .bool (((m7.getD (none : Option Addr), m7.isSome)).2)) rfl rfl) ?_
  refine ro_nil ?_
  refine wp_seq ?_
  refine wp_seq ?_
  refine wp_text [0, 1] rfl ?_
  refine rv 17 rfl rfl rfl (q_move (v := .bool (((m7.getD (none : Option Addr), m7.isSome)).2)) rfl rfl) ?_
  refine rv 18 rfl rfl rfl (q_not (b := ((m7.getD (none : Option Addr), m7.isSome)).2) rfl rfl) ?_
  refine ro_nil ?_
  refine wp_if (b := (!(((m7.getD (none : Option Addr), m7.isSome)).2))) rfl h (fun hb14 h => ?_) (fun hb14 h => ?_)
  · refine wp_seq ?_
    refine wp_text [0, 1, 2] rfl ?_
    refine rv 19 rfl rfl rfl (q_build87_  rfl ) ?_
    obtain ⟨w8, hw8, hrw8, h⟩ := st_open h
    refine ro_skip (d := none) rfl (.free rfl) rfl (q_store (T := T86) (u := (⟨(0 : Int), (0 : Int)⟩ : S86)) (a := a3) rfl ok87 rfl rfl hrw8 hw8) ?_
    refine rv 5 rfl rfl rfl (q_assign (v := .bool (false)) rfl rfl) ?_
    refine ro_nil ?_
    refine wp_ret ?_
    obtain ⟨x9, hx9, h⟩ := h
    exact ret_ok rfl (.cons (.cell (T := T86) (u := x9) (a := a3) ok87 rfl hx9) (.cons (.tmp (v := .bool (false)) rfl) .nil)) ⟨(x9, false), rfl, h⟩
  · refine wp_skip ?_
    refine wp_seq ?_
    refine wp_text [0, 1, 2, 3, 4, 5] rfl ?_
    refine rv 20 rfl rfl rfl (q_move (v := .pointer (((m7.getD (none : Option Addr), m7.isSome)).1)) rfl rfl) ?_
    refine ro_wp rfl (.free rfl) (wp_cl (d := (some 21)) rfl (q_call (k := 61) (l := [.pointer (((m7.getD (none : Option Addr), m7.isSome)).1)]) rfl ent61 rfl) h ?_)
    intro r11 w10 h
    refine rv 22 rfl rfl rfl (q_extract (vs := #[T86.enc (r11.1), .bool (r11.2)]) (v := T86.enc (r11.1)) rfl rfl rfl) ?_
    refine rv 23 rfl rfl rfl (q_extract (vs := #[T86.enc (r11.1), .bool (r11.2)]) (v := .bool (r11.2)) rfl rfl rfl) ?_
    obtain ⟨w12, hw12, hrw12, h⟩ := st_open h
    refine ro_skip (d := none) rfl (.free rfl) rfl (q_store (T := T86) (u := r11.1) (a := a3) rfl ok87 rfl rfl hrw12 hw12) ?_
    refine rv 5 rfl rfl rfl (q_assign (v := .bool (r11.2)) rfl rfl) ?_
    refine ro_nil ?_
    refine wp_ret ?_
    obtain ⟨x13, hx13, h⟩ := h
    exact ret_ok rfl (.cons (.cell (T := T86) (u := x13) (a := a3) ok87 rfl hx13) (.cons (.tmp (v := .bool (r11.2)) rfl) .nil)) ⟨(x13, r11.2), rfl, h⟩
def F43 (a_1 : Int) (w : World) (R : Bool → World → Prop) : Prop :=
  R ((decide (a_1 ≥ (0 : Int))) && (decide (a_1 < (4096 : Int)))) w
theorem F43_ok {a_1 : Int} {w : World} {R : Bool → World → Prop} (h : F43 a_1 w R) : cl Tryz.prog 43 [.int .i64 (a_1)] tBool w R := by
  unfold F43 at h
  refine calls_start 9 Tryz.func43 rfl rfl (Nat.le_of_ble_eq_true rfl) ?_
  refine wp_seq ?_
  refine wp_text [0] rfl ?_
  refine rv 2 rfl rfl rfl (q_assign (v := .bool (false)) rfl rfl) ?_
  refine ro_nil ?_
  refine wp_seq ?_
  refine wp_text [0, 1, 2, 3, 4, 5, 6] rfl ?_
  refine rv 3 rfl rfl rfl (q_move (v := .int .i64 (a_1)) rfl rfl) ?_
  refine rv 4 rfl rfl rfl (q_geq (a := a_1) (b := (0 : Int)) rfl rfl rfl) ?_
  refine rv 5 rfl rfl rfl (q_move (v := .bool ((decide (a_1 ≥ (0 : Int))))) rfl rfl) ?_
  refine ro_gval (g := (decide (a_1 ≥ (0 : Int)))) (d := (some 6)) rfl (.yes 2 5 true (decide (a_1 ≥ (0 : Int))) rfl rfl rfl rfl) rfl (fun hg => q_move (v := .int .i64 (a_1)) rfl rfl) ?_
  refine ro_gval (g := (decide (a_1 ≥ (0 : Int)))) (d := (some 7)) rfl (.yes 2 5 true (decide (a_1 ≥ (0 : Int))) rfl rfl rfl rfl) rfl (fun hg => q_lss (k := .i64) (a := a_1) (b := (4096 : Int)) rfl (gvb_yes hg) rfl) ?_
  refine rv 8 rfl rfl rfl (q_pickGT (a := (decide (a_1 ≥ (0 : Int)))) (b := (decide (a_1 < (4096 : Int)))) rfl rfl rfl rfl) ?_
  refine rv 2 rfl rfl rfl (q_assign (v := .bool (((decide (a_1 ≥ (0 : Int))) && (decide (a_1 < (4096 : Int)))))) rfl rfl) ?_
  refine ro_nil ?_
  refine wp_ret ?_
  exact ret_ok rfl (.cons (.tmp (v := .bool (((decide (a_1 ≥ (0 : Int))) && (decide (a_1 < (4096 : Int)))))) rfl) .nil) ⟨((decide (a_1 ≥ (0 : Int))) && (decide (a_1 < (4096 : Int)))), rfl, h⟩
def F44 (n_1 : Int) (w : World) (R : Int → World → Prop) : Prop :=
  if ((decide (n_1 < (0 : Int))) || (decide (n_1 > (1000000000000000 : Int)))) = true then (
    R (40 : Int) w
  ) else (
    R (0 : Int) w
  )
theorem F44_ok {n_1 : Int} {w : World} {R : Int → World → Prop} (h : F44 n_1 w R) : cl Tryz.prog 44 [.int .i64 (n_1)] (tInt .i64) w R := by
  unfold F44 at h
  refine calls_start 9 Tryz.func44 rfl rfl (Nat.le_of_ble_eq_true rfl) ?_
  refine wp_seq ?_
  refine wp_text [0] rfl ?_
  refine rv 2 rfl rfl rfl (q_assign (v := .int .i64 ((0 : Int))) rfl rfl) ?_
  refine ro_nil ?_
  refine wp_seq ?_
  refine wp_seq ?_
  refine wp_text [0, 1, 2, 3, 4, 5] rfl ?_
  refine rv 3 rfl rfl rfl (q_move (v := .int .i64 (n_1)) rfl rfl) ?_
  refine rv 4 rfl rfl rfl (q_lss (a := n_1) (b := (0 : Int)) rfl rfl rfl) ?_
  refine rv 5 rfl rfl rfl (q_move (v := .bool ((decide (n_1 < (0 : Int))))) rfl rfl) ?_
  refine ro_gval (g := (!(decide (n_1 < (0 : Int))))) (d := (some 6)) rfl (.no 2 5 true (decide (n_1 < (0 : Int))) rfl rfl rfl rfl) rfl (fun hg => q_move (v := .int .i64 (n_1)) rfl rfl) ?_
  refine ro_gval (g := (!(decide (n_1 < (0 : Int))))) (d := (some 7)) rfl (.no 2 5 true (decide (n_1 < (0 : Int))) rfl rfl rfl rfl) rfl (fun hg => q_gtr (k := .i64) (a := n_1) (b := (1000000000000000 : Int)) rfl (gvb_yes hg) rfl) ?_
  refine rv 8 rfl rfl rfl (q_pickGF (a := (decide (n_1 < (0 : Int)))) (c := (decide (n_1 > (1000000000000000 : Int)))) rfl rfl rfl rfl) ?_
  refine ro_nil ?_
  refine wp_if (b := ((decide (n_1 < (0 : Int))) || (decide (n_1 > (1000000000000000 : Int))))) rfl h (fun hb2 h => ?_) (fun hb2 h => ?_)
  · refine wp_seq ?_
    refine wp_text [0] rfl ?_
    refine rv 2 rfl rfl rfl (q_assign (v := .int .i64 ((40 : Int))) rfl rfl) ?_
    refine ro_nil ?_
    refine wp_ret ?_
    exact ret_ok rfl (.cons (.tmp (v := .int .i64 ((40 : Int))) rfl) .nil) ⟨(40 : Int), rfl, h⟩
  · refine wp_skip ?_
    refine wp_seq ?_
    refine wp_text [0] rfl ?_
    refine rv 2 rfl rfl rfl (q_assign (v := .int .i64 ((0 : Int))) rfl rfl) ?_
    refine ro_nil ?_
    refine wp_ret ?_
    exact ret_ok rfl (.cons (.tmp (v := .int .i64 ((0 : Int))) rfl) .nil) ⟨(0 : Int), rfl, h⟩
def F45 (s_1 : (Option Addr)) (key_2 : Int) (at_3 : Int) (w : World) (R : (S86 × Int) → World → Prop) : Prop :=
  nw 87 T86 Z86 w fun a4 w5 =>
  cl Tryz.prog 62 [.int .i64 (key_2)] tBool w5 fun r7 w6 =>
  if (!r7) = true then (
    st T86 a4 (⟨(0 : Int), (0 : Int)⟩ : S86) w6 fun w8 =>
    ex (RdAt T86 a4 w8) fun x9 =>
    R (x9, (123 : Int)) w8
  ) else (
    cl Tryz.prog 47 [.pointer (s_1), .int .i64 (at_3)] (tInt .i64) w6 fun r11 w10 =>
    if (r11 != (0 : Int)) = true then (
      st T86 a4 (⟨(0 : Int), (0 : Int)⟩ : S86) w10 fun w12 =>
      ex (RdAt T86 a4 w12) fun x13 =>
      R (x13, r11) w12
    ) else (
      ex (NC s_1) fun a14 =>
      ex (RdAt tMap (a14.add 0) w10) fun x15 =>
      ex (MapGet tPtr .i64 x15 key_2 w10) fun m16 =>
      if (!(((m16.getD (none : Option Addr), m16.isSome)).2)) = true then (
        st T86 a4 (⟨(0 : Int), (0 : Int)⟩ : S86) w10 fun w17 =>
        ex (RdAt T86 a4 w17) fun x18 =>
        R (x18, (127 : Int)) w17
      ) else (
        cl Tryz.prog 49 [.pointer (((m16.getD (none : Option Addr), m16.isSome)).1), .int .i64 (at_3)] (tTup2 T86 (tInt .i64)) w10 fun r20 w19 =>
        nw 87 T86 Z86 w19 fun a21 w22 =>
        st T86 a21 r20.1 w22 fun w23 =>
        if (r20.2 != (0 : Int)) = true then (
          st T86 a4 (⟨(0 : Int), (0 : Int)⟩ : S86) w23 fun w24 =>
          ex (RdAt T86 a4 w24) fun x25 =>
          R (x25, (127 : Int)) w24
        ) else (
          ex (RdAt T86 a21 w23) fun x26 =>
          st T86 a4 x26 w23 fun w27 =>
          ex (RdAt T86 a4 w27) fun x28 =>
          R (x28, (0 : Int)) w27
        )
      )
    )
  )
theorem F45_ok {s_1 : (Option Addr)} {key_2 : Int} {at_3 : Int} {w : World} {R : (S86 × Int) → World → Prop} (h : F45 s_1 key_2 at_3 w R) : cl Tryz.prog 45 [.pointer (s_1), .int .i64 (key_2), .int .i64 (at_3)] (tTup2 T86 (tInt .i64)) w R := by
  unfold F45 at h
  refine calls_start 46 Tryz.func45 rfl rfl (Nat.le_of_ble_eq_true rfl) ?_
  refine wp_seq ?_
  refine wp_text [0, 1] rfl ?_
  obtain ⟨a4, w5, ha4, hw5, h⟩ := nw_open h
  refine rv 6 rfl rfl rfl (q_alloc (u := Z86) rfl ok87 inf87 ha4 hw5) ?_
  refine rv 7 rfl rfl rfl (q_assign (v := .int .i64 ((0 : Int))) rfl rfl) ?_
  refine ro_nil ?_
  refine wp_seq ?_
  refine wp_seq ?_
  refine wp_text [0, 1, 2] rfl ?_
  refine rv 13 rfl rfl rfl (q_move (v := .int .i64 (key_2)) rfl rfl) ?_
  refine ro_wp rfl (.free rfl) (wp_cl (d := (some 14)) rfl (q_call (k := 62) (l := [.int .i64 (key_2)]) rfl ent62 rfl) h ?_)
  intro r7 w6 h
  refine rv 15 rfl rfl rfl (q_not (b := r7) rfl rfl) ?_
  refine ro_nil ?_
  refine wp_if (b := (!r7)) rfl h (fun hb32 h => ?_) (fun hb32 h => ?_)
  · refine wp_seq ?_
    refine wp_text [0, 1, 2] rfl ?_
    refine rv 16 rfl rfl rfl (q_build87_  rfl ) ?_
    obtain ⟨w8, hw8, hrw8, h⟩ := st_open h
    refine ro_skip (d := none) rfl (.free rfl) rfl (q_store (T := T86) (u := (⟨(0 : Int), (0 : Int)⟩ : S86)) (a := a4) rfl ok87 rfl rfl hrw8 hw8) ?_
    refine rv 7 rfl rfl rfl (q_assign (v := .int .i64 ((123 : Int))) rfl rfl) ?_
    refine ro_nil ?_
    refine wp_ret ?_
    obtain ⟨x9, hx9, h⟩ := h
    exact ret_ok rfl (.cons (.cell (T := T86) (u := x9) (a := a4) ok87 rfl hx9) (.cons (.tmp (v := .int .i64 ((123 : Int))) rfl) .nil)) ⟨(x9, (123 : Int)), rfl, h⟩
  · refine wp_skip ?_
    refine wp_seq ?_
    refine wp_seq ?_
    refine wp_text [0, 1, 2, 3] rfl ?_
    refine rv 17 rfl rfl rfl (q_move (v := .pointer (s_1)) rfl rfl) ?_
    refine rv 18 rfl rfl rfl (q_move (v := .int .i64 (at_3)) rfl rfl) ?_
    refine ro_wp rfl (.free rfl) (wp_cl (d := (some 19)) rfl (q_call (k := 47) (l := [.pointer (s_1), .int .i64 (at_3)]) rfl ent47 rfl) h ?_)
    intro r11 w10 h
    refine rv 8 rfl rfl rfl (q_assign (v := .int .i64 (r11)) rfl rfl) ?_
    refine ro_nil ?_
    refine wp_seq ?_
    refine wp_text [0, 1] rfl ?_
    refine rv 20 rfl rfl rfl (q_move (v := .int .i64 (r11)) rfl rfl) ?_
    refine rv 21 rfl rfl rfl (q_neq (a := r11) (b := (0 : Int)) rfl rfl rfl) ?_
    refine ro_nil ?_
    refine wp_if (b := (r11 != (0 : Int))) rfl h (fun hb31 h => ?_) (fun hb31 h => ?_)
    · refine wp_seq ?_
      refine wp_text [0, 1, 2, 3] rfl ?_
      refine rv 22 rfl rfl rfl (q_build87_  rfl ) ?_
      refine rv 23 rfl rfl rfl (q_move (v := .int .i64 (r11)) rfl rfl) ?_
      obtain ⟨w12, hw12, hrw12, h⟩ := st_open h
      refine ro_skip (d := none) rfl (.free rfl) rfl (q_store (T := T86) (u := (⟨(0 : Int), (0 : Int)⟩ : S86)) (a := a4) rfl ok87 rfl rfl hrw12 hw12) ?_
      refine rv 7 rfl rfl rfl (q_assign (v := .int .i64 (r11)) rfl rfl) ?_
      refine ro_nil ?_
      refine wp_ret ?_
      obtain ⟨x13, hx13, h⟩ := h
      exact ret_ok rfl (.cons (.cell (T := T86) (u := x13) (a := a4) ok87 rfl hx13) (.cons (.tmp (v := .int .i64 (r11)) rfl) .nil)) ⟨(x13, r11), rfl, h⟩
    · refine wp_skip ?_
      refine wp_seq ?_
      refine wp_text [0, 1, 2, 3, 4, 5, 6, 7, 8, 9, 10] rfl ?_
      refine rv 25 rfl rfl rfl (q_move (v := .pointer (s_1)) rfl rfl) ?_
      obtain ⟨a14, ha14, h⟩ := h
      refine rv 26 rfl rfl rfl (q_nilCheck (a := a14) rfl (congrArg Value.pointer ha14)) ?_
      refine rv 27 rfl rfl rfl (q_fieldAddr (a := a14) (off := 0) rfl Tryz.underlying95 rfl rfl ok93 (by decide) rfl) ?_
      obtain ⟨x15, hx15, h⟩ := h
      refine rv 28 rfl rfl rfl (q_load (T := tMap) (u := x15) (a := (a14.add 0)) rfl ok93 rfl hx15) ?_
      refine rv 29 rfl rfl rfl (q_move (v := .int .i64 (key_2)) rfl rfl) ?_
      obtain ⟨m16, hm16, h⟩ := h
      refine rv 30 rfl rfl rfl (q_lookup2 (T := tPtr) (r := x15) (key := key_2) (u := m16) (z := (none : Option Addr)) rfl Tryz.underlying93 Tryz.underlying3 (inf97) rfl rfl hm16) ?_
      refine rv 24 rfl rfl rfl (q_move (v := (tTup2 tPtr tBool).enc (((m16.getD (none : Option Addr), m16.isSome)))) rfl rfl) ?_
      refine rv 31 rfl rfl rfl (q_extract (vs := #[.pointer (((m16.getD (none : Option Addr), m16.isSome)).1), .bool (((m16.getD (none : Option Addr), m16.isSome)).2)]) (v := .pointer (((m16.getD (none : Option Addr), m16.isSome)).1)) rfl rfl rfl) ?_
      refine rv 32 rfl rfl rfl (q_extract (vs := #[.pointer (((m16.getD (none : Option Addr), m16.isSome)).1), .bool (((m16.getD (none : Option Addr), m16.isSome)).2)]) (v := .bool (((m16.getD (none : Option Addr), m16.isSome)).2)) rfl rfl rfl) ?_
      refine rv 9 rfl rfl rfl (q_assign (v := .pointer (((m16.getD (none : Option Addr), m16.isSome)).1)) rfl rfl) ?_
      refine rv 10 rfl rfl rfl (q_assign (v := .bool (((m16.getD (none : Option Addr), m16.isSome)).2)) rfl rfl) ?_
      refine ro_nil ?_
      refine wp_seq ?_
      refine wp_seq ?_
      refine wp_text [0, 1] rfl ?_
      refine rv 33 rfl rfl rfl (q_move (v := .bool (((m16.getD (none : Option Addr), m16.isSome)).2)) rfl rfl) ?_
      refine rv 34 rfl rfl rfl (q_not (b := ((m16.getD (none : Option Addr), m16.isSome)).2) rfl rfl) ?_
      refine ro_nil ?_
      refine wp_if (b := (!(((m16.getD (none : Option Addr), m16.isSome)).2))) rfl h (fun hb30 h => ?_) (fun hb30 h => ?_)
      · refine wp_seq ?_
        refine wp_text [0, 1, 2] rfl ?_
        refine rv 35 rfl rfl rfl (q_build87_  rfl ) ?_
        obtain ⟨w17, hw17, hrw17, h⟩ := st_open h
        refine ro_skip (d := none) rfl (.free rfl) rfl (q_store (T := T86) (u := (⟨(0 : Int), (0 : Int)⟩ : S86)) (a := a4) rfl ok87 rfl rfl hrw17 hw17) ?_
        refine rv 7 rfl rfl rfl (q_assign (v := .int .i64 ((127 : Int))) rfl rfl) ?_
        refine ro_nil ?_
        refine wp_ret ?_
        obtain ⟨x18, hx18, h⟩ := h
        exact ret_ok rfl (.cons (.cell (T := T86) (u := x18) (a := a4) ok87 rfl hx18) (.cons (.tmp (v := .int .i64 ((127 : Int))) rfl) .nil)) ⟨(x18, (127 : Int)), rfl, h⟩
      · refine wp_skip ?_
        refine wp_seq ?_
        refine wp_text [0, 1, 2, 3, 4, 5, 6, 7, 8] rfl ?_
        refine rv 37 rfl rfl rfl (q_move (v := .pointer (((m16.getD (none : Option Addr), m16.isSome)).1)) rfl rfl) ?_
        refine rv 38 rfl rfl rfl (q_move (v := .int .i64 (at_3)) rfl rfl) ?_
        refine ro_wp rfl (.free rfl) (wp_cl (d := (some 39)) rfl (q_call (k := 49) (l := [.pointer (((m16.getD (none : Option Addr), m16.isSome)).1), .int .i64 (at_3)]) rfl ent49 rfl) h ?_)
        intro r20 w19 h
        refine rv 36 rfl rfl rfl (q_move (v := (tTup2 T86 (tInt .i64)).enc (r20)) rfl rfl) ?_
        refine rv 40 rfl rfl rfl (q_extract (vs := #[T86.enc (r20.1), .int .i64 (r20.2)]) (v := T86.enc (r20.1)) rfl rfl rfl) ?_
        refine rv 41 rfl rfl rfl (q_extract (vs := #[T86.enc (r20.1), .int .i64 (r20.2)]) (v := .int .i64 (r20.2)) rfl rfl rfl) ?_
        obtain ⟨a21, w22, ha21, hw22, h⟩ := nw_open h
        refine rv 11 rfl rfl rfl (q_alloc (u := Z86) rfl ok87 inf87 ha21 hw22) ?_
        obtain ⟨w23, hw23, hrw23, h⟩ := st_open h
        refine ro_skip (d := none) rfl (.free rfl) rfl (q_store (T := T86) (u := r20.1) (a := a21) rfl ok87 rfl rfl hrw23 hw23) ?_
        refine rv 12 rfl rfl rfl (q_assign (v := .int .i64 (r20.2)) rfl rfl) ?_
        refine ro_nil ?_
        refine wp_seq ?_
        refine wp_seq ?_
        refine wp_text [0, 1] rfl ?_
        refine rv 42 rfl rfl rfl (q_move (v := .int .i64 (r20.2)) rfl rfl) ?_
        refine rv 43 rfl rfl rfl (q_neq (a := r20.2) (b := (0 : Int)) rfl rfl rfl) ?_
        refine ro_nil ?_
        refine wp_if (b := (r20.2 != (0 : Int))) rfl h (fun hb29 h => ?_) (fun hb29 h => ?_)
        · refine wp_seq ?_
          refine wp_text [0, 1, 2] rfl ?_
          refine rv 44 rfl rfl rfl (q_build87_  rfl ) ?_
          obtain ⟨w24, hw24, hrw24, h⟩ := st_open h
          refine ro_skip (d := none) rfl (.free rfl) rfl (q_store (T := T86) (u := (⟨(0 : Int), (0 : Int)⟩ : S86)) (a := a4) rfl ok87 rfl rfl hrw24 hw24) ?_
          refine rv 7 rfl rfl rfl (q_assign (v := .int .i64 ((127 : Int))) rfl rfl) ?_
          refine ro_nil ?_
          refine wp_ret ?_
          obtain ⟨x25, hx25, h⟩ := h
          exact ret_ok rfl (.cons (.cell (T := T86) (u := x25) (a := a4) ok87 rfl hx25) (.cons (.tmp (v := .int .i64 ((127 : Int))) rfl) .nil)) ⟨(x25, (127 : Int)), rfl, h⟩
        · refine wp_skip ?_
          refine wp_seq ?_
          refine wp_text [0, 1, 2] rfl ?_
          obtain ⟨x26, hx26, h⟩ := h
          refine rv 45 rfl rfl rfl (q_load (T := T86) (u := x26) (a := a21) rfl ok87 rfl hx26) ?_
          obtain ⟨w27, hw27, hrw27, h⟩ := st_open h
          refine ro_skip (d := none) rfl (.free rfl) rfl (q_store (T := T86) (u := x26) (a := a4) rfl ok87 rfl rfl hrw27 hw27) ?_
          refine rv 7 rfl rfl rfl (q_assign (v := .int .i64 ((0 : Int))) rfl rfl) ?_
          refine ro_nil ?_
          refine wp_ret ?_
          obtain ⟨x28, hx28, h⟩ := h
          exact ret_ok rfl (.cons (.cell (T := T86) (u := x28) (a := a4) ok87 rfl hx28) (.cons (.tmp (v := .int .i64 ((0 : Int))) rfl) .nil)) ⟨(x28, (0 : Int)), rfl, h⟩
end Go.Proofs.YtpdaapffkdejoaaGreat.Cf
namespace Go.Proofs.YtpdaapffkdejoaaGreat.Cf
open Go
set_option maxRecDepth 100000
set_option maxHeartbeats 1000000
set_option linter.unusedVariables false
set_option linter.unusedSimpArgs false
def F46_l1 (a5 : Addr) (a11 : Addr) (w12 : World) (K13 : Unit → World → Prop) (R : Int → World → Prop) : Prop :=
  nxt a11 w12 fun q15 w14 =>
  if (Option.isSome q15) = true then (
    ex (Ent tPtr .i64 a11 w14) fun e16 =>
    ex (RdAt (tInt .i64) (a5.add 2) w14) fun x17 =>
    cl Tryz.prog 63 [.pointer (e16.2), .int .i64 (x17)] (tInt .i64) w14 fun r19 w18 =>
    K13 () w18
  ) else (
    R (0 : Int) w14
  )
def F46 (s_1 : (Option Addr)) (mark_2 : Int) (w : World) (R : Int → World → Prop) : Prop :=
  cl Tryz.prog 56 [.int .i64 (mark_2)] tBool w fun r4 w3 =>
  if (!r4) = true then (
    R (120 : Int) w3
  ) else (
    ex (NC s_1) fun a5 =>
    ex (RdAt (tInt .i64) (a5.add 1) w3) fun x6 =>
    if (decide (mark_2 > x6)) = true then (
      R (128 : Int) w3
    ) else (
      ex (RdAt (tInt .i64) (a5.add 2) w3) fun x7 =>
      st (tInt .i64) (a5.add 2) (max x7 mark_2) w3 fun w8 =>
      ex (RdAt tMap (a5.add 0) w8) fun x9 =>
      rng x9 w8 fun a11 w10 =>
      lp (fun (s : Unit) w K => F46_l1 a5 a11 w K R) () w10
    )
  )
theorem F46_ok {s_1 : (Option Addr)} {mark_2 : Int} {w : World} {R : Int → World → Prop} (h : F46 s_1 mark_2 w R) : cl Tryz.prog 46 [.pointer (s_1), .int .i64 (mark_2)] (tInt .i64) w R := by
  unfold F46 at h
  refine calls_start 42 Tryz.func46 rfl rfl (Nat.le_of_ble_eq_true rfl) ?_
  refine wp_seq ?_
  refine wp_text [0] rfl ?_
  refine rv 4 rfl rfl rfl (q_assign (v := .int .i64 ((0 : Int))) rfl rfl) ?_
  refine ro_nil ?_
  refine wp_seq ?_
  refine wp_block ?_
  refine wp_seq ?_
  refine wp_text [0, 1, 2, 3] rfl ?_
  refine rv 8 rfl rfl rfl (q_move (v := .int .i64 (mark_2)) rfl rfl) ?_
  refine ro_wp rfl (.free rfl) (wp_cl (d := (some 9)) rfl (q_call (k := 56) (l := [.int .i64 (mark_2)]) rfl ent56 rfl) h ?_)
  intro r4 w3 h
  refine rv 10 rfl rfl rfl (q_not (b := r4) rfl rfl) ?_
  refine rv 7 rfl rfl rfl (q_assign (v := .bool ((!r4))) rfl rfl) ?_
  refine ro_nil ?_
  refine wp_if (b := (!r4)) rfl h (fun hb22 h => ?_) (fun hb22 h => ?_)
  · refine wp_seq ?_
    refine wp_text [0] rfl ?_
    refine rv 4 rfl rfl rfl (q_assign (v := .int .i64 ((120 : Int))) rfl rfl) ?_
    refine ro_nil ?_
    refine wp_ret ?_
    exact ret_ok rfl (.cons (.tmp (v := .int .i64 ((120 : Int))) rfl) .nil) ⟨(120 : Int), rfl, h⟩
  · refine wp_seq ?_
    refine wp_text [0, 1, 2, 3, 4, 5, 6] rfl ?_
    refine rv 12 rfl rfl rfl (q_move (v := .int .i64 (mark_2)) rfl rfl) ?_
    refine rv 13 rfl rfl rfl (q_move (v := .pointer (s_1)) rfl rfl) ?_
    obtain ⟨a5, ha5, h⟩ := h
    refine rv 14 rfl rfl rfl (q_nilCheck (a := a5) rfl (congrArg Value.pointer ha5)) ?_
    refine rv 15 rfl rfl rfl (q_fieldAddr (a := a5) (off := 1) rfl Tryz.underlying95 rfl rfl ok2 (by decide) rfl) ?_
    obtain ⟨x6, hx6, h⟩ := h
    refine rv 16 rfl rfl rfl (q_load (T := (tInt .i64)) (u := x6) (a := (a5.add 1)) rfl ok2 rfl hx6) ?_
    refine rv 17 rfl rfl rfl (q_gtr (a := mark_2) (b := x6) rfl rfl rfl) ?_
    refine rv 11 rfl rfl rfl (q_assign (v := .bool ((decide (mark_2 > x6)))) rfl rfl) ?_
    refine ro_nil ?_
    refine wp_if (b := (decide (mark_2 > x6))) rfl h (fun hb21 h => ?_) (fun hb21 h => ?_)
    · refine wp_seq ?_
      refine wp_text [0] rfl ?_
      refine rv 4 rfl rfl rfl (q_assign (v := .int .i64 ((128 : Int))) rfl rfl) ?_
      refine ro_nil ?_
      refine wp_ret ?_
      exact ret_ok rfl (.cons (.tmp (v := .int .i64 ((128 : Int))) rfl) .nil) ⟨(128 : Int), rfl, h⟩
    · refine wp_skip ?_
      refine wp_seq ?_
      refine wp_text [0, 1, 2, 3, 4, 5, 6, 7, 8, 9] rfl ?_
      refine rv 18 rfl rfl rfl (q_move (v := .pointer (s_1)) rfl rfl) ?_
      refine rv 19 rfl rfl rfl (q_move (v := .pointer (s_1)) rfl rfl) ?_
      refine rv 20 rfl rfl rfl (q_nilCheck (a := a5) rfl (congrArg Value.pointer ha5)) ?_
      refine rv 21 rfl rfl rfl (q_fieldAddr (a := a5) (off := 2) rfl Tryz.underlying95 rfl rfl ok2 (by decide) rfl) ?_
      obtain ⟨x7, hx7, h⟩ := h
      refine rv 22 rfl rfl rfl (q_load (T := (tInt .i64)) (u := x7) (a := (a5.add 2)) rfl ok2 rfl hx7) ?_
      refine rv 23 rfl rfl rfl (q_move (v := .int .i64 (mark_2)) rfl rfl) ?_
      refine rv 24 rfl rfl rfl (q_max (a := x7) (b := mark_2) rfl rfl rfl) ?_
      refine rv 25 rfl rfl rfl (q_nilCheck (a := a5) rfl (congrArg Value.pointer ha5)) ?_
      refine rv 26 rfl rfl rfl (q_fieldAddr (a := a5) (off := 2) rfl Tryz.underlying95 rfl rfl ok2 (by decide) rfl) ?_
      obtain ⟨w8, hw8, hrw8, h⟩ := st_open h
      refine ro_skip (d := none) rfl (.free rfl) rfl (q_store (T := (tInt .i64)) (u := (max x7 mark_2)) (a := (a5.add 2)) rfl ok2 rfl rfl hrw8 hw8) ?_
      refine ro_nil ?_
      refine wp_seq ?_
      refine wp_seq ?_
      refine wp_text [0, 1, 2, 3, 4] rfl ?_
      refine rv 27 rfl rfl rfl (q_move (v := .pointer (s_1)) rfl rfl) ?_
      refine rv 28 rfl rfl rfl (q_nilCheck (a := a5) rfl (congrArg Value.pointer ha5)) ?_
      refine rv 29 rfl rfl rfl (q_fieldAddr (a := a5) (off := 0) rfl Tryz.underlying95 rfl rfl ok93 (by decide) rfl) ?_
      obtain ⟨x9, hx9, h⟩ := h
      refine rv 30 rfl rfl rfl (q_load (T := tMap) (u := x9) (a := (a5.add 0)) rfl ok93 rfl hx9) ?_
      refine ro_wp rfl (.free rfl) (wp_rng (r := x9) (d := (some 31)) rfl rfl Tryz.underlying93 rfl h ?_)
      intro a11 w10 h
      refine ro_nil ?_
      refine wp_block ?_
      refine loop_at (σ := Unit) (fr := fun g (s : Unit) => upd (upd (g) 0 (.pointer (s_1))) 31 (.pointer (some a11))) (s0 := ()) (upd_step (upd_step rfl rfl) rfl) h ?_
      rintro ⟨⟩ g w12 K13 h
      unfold F46_l1 at h
      refine wp_seq ?_
      refine wp_text [0, 1] rfl ?_
      refine ro_wp rfl (.free rfl) (wp_nxt (a := a11) (d := (some 32)) rfl rfl rfl h ?_)
      intro q15 w14 h
      refine rv 33 rfl rfl rfl (q_extractN (q := q15) rfl rfl) ?_
      refine ro_nil ?_
      refine wp_seq ?_
      refine wp_if (b := (Option.isSome q15)) rfl h (fun hb20 h => ?_) (fun hb20 h => ?_)
      · refine wp_skip ?_
        refine wp_block ?_
        refine wp_seq ?_
        refine wp_text [0, 1, 2] rfl ?_
        obtain ⟨e16, he16, h⟩ := h
        refine rv 34 rfl rfl rfl (q_entry (T := tPtr) (p := e16) (a := a11) rfl rfl he16) ?_
        refine rv 35 rfl rfl rfl (q_extract (vs := #[.int .i64 (e16.1), .pointer (e16.2)]) (v := .pointer (e16.2)) rfl rfl rfl) ?_
        refine rv 6 rfl rfl rfl (q_assign (v := .pointer (e16.2)) rfl rfl) ?_
        refine ro_nil ?_
        refine wp_text [0, 1, 2, 3, 4, 5] rfl ?_
        refine rv 36 rfl rfl rfl (q_move (v := .pointer (e16.2)) rfl rfl) ?_
        refine rv 37 rfl rfl rfl (q_move (v := .pointer (s_1)) rfl rfl) ?_
        refine rv 38 rfl rfl rfl (q_nilCheck (a := a5) rfl (congrArg Value.pointer ha5)) ?_
        refine rv 39 rfl rfl rfl (q_fieldAddr (a := a5) (off := 2) rfl Tryz.underlying95 rfl rfl ok2 (by decide) rfl) ?_
        obtain ⟨x17, hx17, h⟩ := h
        refine rv 40 rfl rfl rfl (q_load (T := (tInt .i64)) (u := x17) (a := (a5.add 2)) rfl ok2 rfl hx17) ?_
        refine ro_wp rfl (.free rfl) (wp_cl (d := (some 41)) rfl (q_call (k := 63) (l := [.pointer (e16.2), .int .i64 (x17)]) rfl ent63 rfl) h ?_)
        intro r19 w18 h
        refine ro_nil ?_
        exact ⟨(), _, arr (upd_step (upd_step rfl rfl) rfl), h⟩
      · refine wp_exit ?_
        refine wp_seq ?_
        refine wp_text [0] rfl ?_
        refine rv 4 rfl rfl rfl (q_assign (v := .int .i64 ((0 : Int))) rfl rfl) ?_
        refine ro_nil ?_
        refine wp_ret ?_
        exact ret_ok rfl (.cons (.tmp (v := .int .i64 ((0 : Int))) rfl) .nil) ⟨(0 : Int), rfl, h⟩
def F47 (s_1 : (Option Addr)) (at_2 : Int) (w : World) (R : Int → World → Prop) : Prop :=
  cl Tryz.prog 56 [.int .i64 (at_2)] tBool w fun r4 w3 =>
  if (!r4) = true then (
    R (120 : Int) w3
  ) else (
    ex (NC s_1) fun a5 =>
    ex (RdAt (tInt .i64) (a5.add 1) w3) fun x6 =>
    if (decide (at_2 > x6)) = true then (
      R (128 : Int) w3
    ) else (
      ex (RdAt (tInt .i64) (a5.add 2) w3) fun x7 =>
      if (decide (at_2 < x7)) = true then (
        R (126 : Int) w3
      ) else (
        R (0 : Int) w3
      )
    )
  )
theorem F47_ok {s_1 : (Option Addr)} {at_2 : Int} {w : World} {R : Int → World → Prop} (h : F47 s_1 at_2 w R) : cl Tryz.prog 47 [.pointer (s_1), .int .i64 (at_2)] (tInt .i64) w R := by
  unfold F47 at h
  refine calls_start 23 Tryz.func47 rfl rfl (Nat.le_of_ble_eq_true rfl) ?_
  refine wp_seq ?_
  refine wp_text [0] rfl ?_
  refine rv 4 rfl rfl rfl (q_assign (v := .int .i64 ((0 : Int))) rfl rfl) ?_
  refine ro_nil ?_
  refine wp_seq ?_
  refine wp_block ?_
  refine wp_seq ?_
  refine wp_text [0, 1, 2, 3] rfl ?_
  refine rv 6 rfl rfl rfl (q_move (v := .int .i64 (at_2)) rfl rfl) ?_
  refine ro_wp rfl (.free rfl) (wp_cl (d := (some 7)) rfl (q_call (k := 56) (l := [.int .i64 (at_2)]) rfl ent56 rfl) h ?_)
  intro r4 w3 h
  refine rv 8 rfl rfl rfl (q_not (b := r4) rfl rfl) ?_
  refine rv 5 rfl rfl rfl (q_assign (v := .bool ((!r4))) rfl rfl) ?_
  refine ro_nil ?_
  refine wp_if (b := (!r4)) rfl h (fun hb10 h => ?_) (fun hb10 h => ?_)
  · refine wp_seq ?_
    refine wp_text [0] rfl ?_
    refine rv 4 rfl rfl rfl (q_assign (v := .int .i64 ((120 : Int))) rfl rfl) ?_
    refine ro_nil ?_
    refine wp_ret ?_
    exact ret_ok rfl (.cons (.tmp (v := .int .i64 ((120 : Int))) rfl) .nil) ⟨(120 : Int), rfl, h⟩
  · refine wp_seq ?_
    refine wp_text [0, 1, 2, 3, 4, 5, 6] rfl ?_
    refine rv 10 rfl rfl rfl (q_move (v := .int .i64 (at_2)) rfl rfl) ?_
    refine rv 11 rfl rfl rfl (q_move (v := .pointer (s_1)) rfl rfl) ?_
    obtain ⟨a5, ha5, h⟩ := h
    refine rv 12 rfl rfl rfl (q_nilCheck (a := a5) rfl (congrArg Value.pointer ha5)) ?_
    refine rv 13 rfl rfl rfl (q_fieldAddr (a := a5) (off := 1) rfl Tryz.underlying95 rfl rfl ok2 (by decide) rfl) ?_
    obtain ⟨x6, hx6, h⟩ := h
    refine rv 14 rfl rfl rfl (q_load (T := (tInt .i64)) (u := x6) (a := (a5.add 1)) rfl ok2 rfl hx6) ?_
    refine rv 15 rfl rfl rfl (q_gtr (a := at_2) (b := x6) rfl rfl rfl) ?_
    refine rv 9 rfl rfl rfl (q_assign (v := .bool ((decide (at_2 > x6)))) rfl rfl) ?_
    refine ro_nil ?_
    refine wp_if (b := (decide (at_2 > x6))) rfl h (fun hb9 h => ?_) (fun hb9 h => ?_)
    · refine wp_seq ?_
      refine wp_text [0] rfl ?_
      refine rv 4 rfl rfl rfl (q_assign (v := .int .i64 ((128 : Int))) rfl rfl) ?_
      refine ro_nil ?_
      refine wp_ret ?_
      exact ret_ok rfl (.cons (.tmp (v := .int .i64 ((128 : Int))) rfl) .nil) ⟨(128 : Int), rfl, h⟩
    · refine wp_seq ?_
      refine wp_text [0, 1, 2, 3, 4, 5, 6] rfl ?_
      refine rv 17 rfl rfl rfl (q_move (v := .int .i64 (at_2)) rfl rfl) ?_
      refine rv 18 rfl rfl rfl (q_move (v := .pointer (s_1)) rfl rfl) ?_
      refine rv 19 rfl rfl rfl (q_nilCheck (a := a5) rfl (congrArg Value.pointer ha5)) ?_
      refine rv 20 rfl rfl rfl (q_fieldAddr (a := a5) (off := 2) rfl Tryz.underlying95 rfl rfl ok2 (by decide) rfl) ?_
      obtain ⟨x7, hx7, h⟩ := h
      refine rv 21 rfl rfl rfl (q_load (T := (tInt .i64)) (u := x7) (a := (a5.add 2)) rfl ok2 rfl hx7) ?_
      refine rv 22 rfl rfl rfl (q_lss (a := at_2) (b := x7) rfl rfl rfl) ?_
      refine rv 16 rfl rfl rfl (q_assign (v := .bool ((decide (at_2 < x7)))) rfl rfl) ?_
      refine ro_nil ?_
      refine wp_if (b := (decide (at_2 < x7))) rfl h (fun hb8 h => ?_) (fun hb8 h => ?_)
      · refine wp_seq ?_
        refine wp_text [0] rfl ?_
        refine rv 4 rfl rfl rfl (q_assign (v := .int .i64 ((126 : Int))) rfl rfl) ?_
        refine ro_nil ?_
        refine wp_ret ?_
        exact ret_ok rfl (.cons (.tmp (v := .int .i64 ((126 : Int))) rfl) .nil) ⟨(126 : Int), rfl, h⟩
      · refine wp_skip ?_
        refine wp_seq ?_
        refine wp_text [0] rfl ?_
        refine rv 4 rfl rfl rfl (q_assign (v := .int .i64 ((0 : Int))) rfl rfl) ?_
        refine ro_nil ?_
        refine wp_ret ?_
        exact ret_ok rfl (.cons (.tmp (v := .int .i64 ((0 : Int))) rfl) .nil) ⟨(0 : Int), rfl, h⟩
def F48 (m_1 : (Option Nat)) (w : World) (R : Fv → World → Prop) : Prop :=
  nw 93 tMap m_1 w fun a2 w3 =>
  R (Fv.mk (.func 64) (List.toArray []) (List.toArray [.pointer (some a2)])) w3
theorem F48_ok {m_1 : (Option Nat)} {w : World} {R : Fv → World → Prop} (h : F48 m_1 w R) : cl Tryz.prog 48 [.map (m_1)] tFun w R := by
  unfold F48 at h
  refine calls_start 4 Tryz.func48 rfl rfl (Nat.le_of_ble_eq_true rfl) ?_
  refine wp_seq ?_
  refine wp_text [0, 1] rfl ?_
  obtain ⟨a2, w3, ha2, hw3, h⟩ := nw_open h
  refine rv 1 rfl rfl rfl (q_box (u := m_1) rfl ok93 rfl ha2 hw3) ?_
  refine rv 2 rfl rfl rfl (q_assign (v := (Fv.nil).enc) rfl rfl) ?_
  refine ro_nil ?_
  refine wp_seq ?_
  refine wp_text [0, 1] rfl ?_
  refine rv 3 rfl rfl rfl (q_makeFunc (fn := .func 64) (va := []) (vc := [.pointer (some a2)]) rfl rfl rfl) ?_
  refine rv 2 rfl rfl rfl (q_assign (v := ((Fv.mk (.func 64) (List.toArray []) (List.toArray [.pointer (some a2)]))).enc) rfl rfl) ?_
  refine ro_nil ?_
  refine wp_ret ?_
  exact ret_ok rfl (.cons (.tmp (v := ((Fv.mk (.func 64) (List.toArray []) (List.toArray [.pointer (some a2)]))).enc) rfl) .nil) ⟨(Fv.mk (.func 64) (List.toArray []) (List.toArray [.pointer (some a2)])), rfl, h⟩
def F49 (c_1 : (Option Addr)) (at_2 : Int) (w : World) (R : (S86 × Int) → World → Prop) : Prop :=
  nw 87 T86 Z86 w fun a3 w4 =>
  if ((decide (at_2 < (0 : Int))) || (decide (at_2 > (1125899906842624 : Int)))) = true then (
    st T86 a3 (⟨(0 : Int), (0 : Int)⟩ : S86) w4 fun w5 =>
    ex (RdAt T86 a3 w5) fun x6 =>
    R (x6, (110 : Int)) w5
  ) else (
    ex (NC c_1) fun a7 =>
    ex (RdAt (tInt .i64) (a7.add 1) w4) fun x8 =>
    if (decide (at_2 < x8)) = true then (
      st T86 a3 (⟨(0 : Int), (0 : Int)⟩ : S86) w4 fun w9 =>
      ex (RdAt T86 a3 w9) fun x10 =>
      R (x10, (113 : Int)) w9
    ) else (
      cl Tryz.prog 65 [.pointer (c_1), .int .i64 (at_2)] (tInt .i64) w4 fun r12 w11 =>
      if (r12 == (0 : Int)) = true then (
        st T86 a3 (⟨(0 : Int), (0 : Int)⟩ : S86) w11 fun w13 =>
        ex (RdAt T86 a3 w13) fun x14 =>
        R (x14, (114 : Int)) w13
      ) else (
        ex (RdAt tSlc (a7.add 0) w11) fun x15 =>
        ex (IxA x15 2 (IntKind.i64.wrap (r12 - (1 : Int)))) fun a16 =>
        ex (RdAt T86 a16 w11) fun x17 =>
        st T86 a3 x17 w11 fun w18 =>
        ex (RdAt T86 a3 w18) fun x19 =>
        R (x19, (0 : Int)) w18
      )
    )
  )
theorem F49_ok {c_1 : (Option Addr)} {at_2 : Int} {w : World} {R : (S86 × Int) → World → Prop} (h : F49 c_1 at_2 w R) : cl Tryz.prog 49 [.pointer (c_1), .int .i64 (at_2)] (tTup2 T86 (tInt .i64)) w R := by
  unfold F49 at h
  refine calls_start 37 Tryz.func49 rfl rfl (Nat.le_of_ble_eq_true rfl) ?_
  refine wp_seq ?_
  refine wp_text [0, 1] rfl ?_
  obtain ⟨a3, w4, ha3, hw4, h⟩ := nw_open h
  refine rv 4 rfl rfl rfl (q_alloc (u := Z86) rfl ok87 inf87 ha3 hw4) ?_
  refine rv 5 rfl rfl rfl (q_assign (v := .int .i64 ((0 : Int))) rfl rfl) ?_
  refine ro_nil ?_
  refine wp_seq ?_
  refine wp_block ?_
  refine wp_seq ?_
  refine wp_text [0, 1, 2, 3, 4, 5, 6] rfl ?_
  refine rv 8 rfl rfl rfl (q_move (v := .int .i64 (at_2)) rfl rfl) ?_
  refine rv 9 rfl rfl rfl (q_lss (a := at_2) (b := (0 : Int)) rfl rfl rfl) ?_
  refine rv 10 rfl rfl rfl (q_move (v := .bool ((decide (at_2 < (0 : Int))))) rfl rfl) ?_
  refine ro_gval (g := (!(decide (at_2 < (0 : Int))))) (d := (some 11)) rfl (.no 2 10 true (decide (at_2 < (0 : Int))) rfl rfl rfl rfl) rfl (fun hg => q_move (v := .int .i64 (at_2)) rfl rfl) ?_
  refine ro_gval (g := (!(decide (at_2 < (0 : Int))))) (d := (some 12)) rfl (.no 2 10 true (decide (at_2 < (0 : Int))) rfl rfl rfl rfl) rfl (fun hg => q_gtr (k := .i64) (a := at_2) (b := (1125899906842624 : Int)) rfl (gvb_yes hg) rfl) ?_
  refine rv 13 rfl rfl rfl (q_pickGF (a := (decide (at_2 < (0 : Int)))) (c := (decide (at_2 > (1125899906842624 : Int)))) rfl rfl rfl rfl) ?_
  refine rv 7 rfl rfl rfl (q_assign (v := .bool (((decide (at_2 < (0 : Int))) || (decide (at_2 > (1125899906842624 : Int)))))) rfl rfl) ?_
  refine ro_nil ?_
  refine wp_if (b := ((decide (at_2 < (0 : Int))) || (decide (at_2 > (1125899906842624 : Int))))) rfl h (fun hb22 h => ?_) (fun hb22 h => ?_)
  · refine wp_seq ?_
    refine wp_text [0, 1, 2] rfl ?_
    refine rv 14 rfl rfl rfl (q_build87_  rfl ) ?_
    obtain ⟨w5, hw5, hrw5, h⟩ := st_open h
    refine ro_skip (d := none) rfl (.free rfl) rfl (q_store (T := T86) (u := (⟨(0 : Int), (0 : Int)⟩ : S86)) (a := a3) rfl ok87 rfl rfl hrw5 hw5) ?_
    refine rv 5 rfl rfl rfl (q_assign (v := .int .i64 ((110 : Int))) rfl rfl) ?_
    refine ro_nil ?_
    refine wp_ret ?_
    obtain ⟨x6, hx6, h⟩ := h
    exact ret_ok rfl (.cons (.cell (T := T86) (u := x6) (a := a3) ok87 rfl hx6) (.cons (.tmp (v := .int .i64 ((110 : Int))) rfl) .nil)) ⟨(x6, (110 : Int)), rfl, h⟩
  · refine wp_seq ?_
    refine wp_text [0, 1, 2, 3, 4, 5, 6] rfl ?_
    refine rv 16 rfl rfl rfl (q_move (v := .int .i64 (at_2)) rfl rfl) ?_
    refine rv 17 rfl rfl rfl (q_move (v := .pointer (c_1)) rfl rfl) ?_
    obtain ⟨a7, ha7, h⟩ := h
    refine rv 18 rfl rfl rfl (q_nilCheck (a := a7) rfl (congrArg Value.pointer ha7)) ?_
    refine rv 19 rfl rfl rfl (q_fieldAddr (a := a7) (off := 1) rfl Tryz.underlying112 rfl rfl ok2 (by decide) rfl) ?_
    obtain ⟨x8, hx8, h⟩ := h
    refine rv 20 rfl rfl rfl (q_load (T := (tInt .i64)) (u := x8) (a := (a7.add 1)) rfl ok2 rfl hx8) ?_
    refine rv 21 rfl rfl rfl (q_lss (a := at_2) (b := x8) rfl rfl rfl) ?_
    refine rv 15 rfl rfl rfl (q_assign (v := .bool ((decide (at_2 < x8)))) rfl rfl) ?_
    refine ro_nil ?_
    refine wp_if (b := (decide (at_2 < x8))) rfl h (fun hb21 h => ?_) (fun hb21 h => ?_)
    · refine wp_seq ?_
      refine wp_text [0, 1, 2] rfl ?_
      refine rv 22 rfl rfl rfl (q_build87_  rfl ) ?_
      obtain ⟨w9, hw9, hrw9, h⟩ := st_open h
      refine ro_skip (d := none) rfl (.free rfl) rfl (q_store (T := T86) (u := (⟨(0 : Int), (0 : Int)⟩ : S86)) (a := a3) rfl ok87 rfl rfl hrw9 hw9) ?_
      refine rv 5 rfl rfl rfl (q_assign (v := .int .i64 ((113 : Int))) rfl rfl) ?_
      refine ro_nil ?_
      refine wp_ret ?_
      obtain ⟨x10, hx10, h⟩ := h
      exact ret_ok rfl (.cons (.cell (T := T86) (u := x10) (a := a3) ok87 rfl hx10) (.cons (.tmp (v := .int .i64 ((113 : Int))) rfl) .nil)) ⟨(x10, (113 : Int)), rfl, h⟩
    · refine wp_skip ?_
      refine wp_seq ?_
      refine wp_text [0, 1, 2, 3] rfl ?_
      refine rv 23 rfl rfl rfl (q_move (v := .pointer (c_1)) rfl rfl) ?_
      refine rv 24 rfl rfl rfl (q_move (v := .int .i64 (at_2)) rfl rfl) ?_
      refine ro_wp rfl (.free rfl) (wp_cl (d := (some 25)) rfl (q_call (k := 65) (l := [.pointer (c_1), .int .i64 (at_2)]) rfl ent65 rfl) h ?_)
      intro r12 w11 h
      refine rv 6 rfl rfl rfl (q_assign (v := .int .i64 (r12)) rfl rfl) ?_
      refine ro_nil ?_
      refine wp_seq ?_
      refine wp_seq ?_
      refine wp_text [0, 1] rfl ?_
      refine rv 26 rfl rfl rfl (q_move (v := .int .i64 (r12)) rfl rfl) ?_
      refine rv 27 rfl rfl rfl (q_eql (a := r12) (b := (0 : Int)) rfl rfl rfl) ?_
      refine ro_nil ?_
      refine wp_if (b := (r12 == (0 : Int))) rfl h (fun hb20 h => ?_) (fun hb20 h => ?_)
      · refine wp_seq ?_
        refine wp_text [0, 1, 2] rfl ?_
        refine rv 28 rfl rfl rfl (q_build87_  rfl ) ?_
        obtain ⟨w13, hw13, hrw13, h⟩ := st_open h
        refine ro_skip (d := none) rfl (.free rfl) rfl (q_store (T := T86) (u := (⟨(0 : Int), (0 : Int)⟩ : S86)) (a := a3) rfl ok87 rfl rfl hrw13 hw13) ?_
        refine rv 5 rfl rfl rfl (q_assign (v := .int .i64 ((114 : Int))) rfl rfl) ?_
        refine ro_nil ?_
        refine wp_ret ?_
        obtain ⟨x14, hx14, h⟩ := h
        exact ret_ok rfl (.cons (.cell (T := T86) (u := x14) (a := a3) ok87 rfl hx14) (.cons (.tmp (v := .int .i64 ((114 : Int))) rfl) .nil)) ⟨(x14, (114 : Int)), rfl, h⟩
      · refine wp_skip ?_
        refine wp_seq ?_
        refine wp_text [0, 1, 2, 3, 4, 5, 6, 7, 8, 9] rfl ?_
        refine rv 29 rfl rfl rfl (q_move (v := .pointer (c_1)) rfl rfl) ?_
        refine rv 30 rfl rfl rfl (q_nilCheck (a := a7) rfl (congrArg Value.pointer ha7)) ?_
        refine rv 31 rfl rfl rfl (q_fieldAddr (a := a7) (off := 0) rfl Tryz.underlying112 rfl rfl ok110 (by decide) rfl) ?_
        obtain ⟨x15, hx15, h⟩ := h
        refine rv 32 rfl rfl rfl (q_load (T := tSlc) (u := x15) (a := (a7.add 0)) rfl ok110 rfl hx15) ?_
        refine rv 33 rfl rfl rfl (q_move (v := .int .i64 (r12)) rfl rfl) ?_
        refine rv 34 rfl rfl rfl (q_sub (a := r12) (b := (1 : Int)) rfl rfl rfl) ?_
        obtain ⟨a16, ha16, h⟩ := h
        refine rv 35 rfl rfl rfl (q_indexAddr (s := x15) (k := .i64) (i := (IntKind.i64.wrap (r12 - (1 : Int)))) rfl Tryz.underlying110 ok87 rfl rfl ha16) ?_
        obtain ⟨x17, hx17, h⟩ := h
        refine rv 36 rfl rfl rfl (q_load (T := T86) (u := x17) (a := a16) rfl ok87 rfl hx17) ?_
        obtain ⟨w18, hw18, hrw18, h⟩ := st_open h
        refine ro_skip (d := none) rfl (.free rfl) rfl (q_store (T := T86) (u := x17) (a := a3) rfl ok87 rfl rfl hrw18 hw18) ?_
        refine rv 5 rfl rfl rfl (q_assign (v := .int .i64 ((0 : Int))) rfl rfl) ?_
        refine ro_nil ?_
        refine wp_ret ?_
        obtain ⟨x19, hx19, h⟩ := h
        exact ret_ok rfl (.cons (.cell (T := T86) (u := x19) (a := a3) ok87 rfl hx19) (.cons (.tmp (v := .int .i64 ((0 : Int))) rfl) .nil)) ⟨(x19, (0 : Int)), rfl, h⟩
def F50_l1 (s_1 : (Option Addr)) (t_2 : Int) (l_3 : Slc) (m5 : Nat) (t_6 : Int) (w7 : World) (K8 : Int → World → Prop) (R : Int → World → Prop) : Prop :=
  if (decide (t_6 < (l_3.len : Int))) = true then (
    ex (IxA l_3 2 t_6) fun a9 =>
    ex (RdAt T62 a9 w7) fun x10 =>
    nw 63 T62 Z62 w7 fun a11 w12 =>
    st T62 a11 x10 w12 fun w13 =>
    ex (RdAt (tInt .i64) (a11.add 0) w13) fun x14 =>
    ex (MapGet T115 .i64 (some m5) x14 w13) fun m15 =>
    nw 115 T115 Z115 w13 fun a16 w17 =>
    st T115 a16 (((m15.getD Z115, m15.isSome)).1) w17 fun w18 =>
    ex (RdAt (tInt .i64) (a11.add 0) w18) fun x19 =>
    cl Tryz.prog 42 [.pointer (s_1), .int .i64 (x19)] (tTup2 T86 tBool) w18 fun r21 w20 =>
    nw 87 T86 Z86 w20 fun a22 w23 =>
    st T86 a22 r21.1 w23 fun w24 =>
    ex (RdAt (tInt .i64) (a11.add 0) w24) fun x25 =>
    cl Tryz.prog 62 [.int .i64 (x25)] tBool w24 fun r27 w26 =>
    if (!r27) = true then (
      R (123 : Int) w26
    ) else (
      if ((m15.getD Z115, m15.isSome)).2 = true then (
        R (124 : Int) w26
      ) else (
        ex (RdAt (tInt .i64) (a22.add 0) w26) fun x28 =>
        if (decide (x28 ≥ t_2)) = true then (
          R (121 : Int) w26
        ) else (
          ex (RdAt (tInt .i64) (a11.add 0) w26) fun x29 =>
          cl Tryz.prog 66 [.pointer (s_1), .int .i64 (x29)] tBool w26 fun r31 w30 =>
          if r31 = true then (
            R (125 : Int) w30
          ) else (
            ex (RdAt (tInt .i64) (a11.add 0) w30) fun x32 =>
            mput T115 .i64 (some m5) x32 (⟨⟩ : S115) w30 fun w33 =>
            K8 ((IntKind.i64.wrap (t_6 + (1 : Int)))) w33
          )
        )
      )
    )
  ) else (
    R (0 : Int) w7
  )
def F50 (s_1 : (Option Addr)) (t_2 : Int) (l_3 : Slc) (w : World) (R : Int → World → Prop) : Prop :=
  if (decide ((l_3.len : Int) > (100 : Int))) = true then (
    R (122 : Int) w
  ) else (
    nwMap w fun m5 w4 =>
    lp (fun (s : Int) w K => F50_l1 s_1 t_2 l_3 m5 s w K R) ((0 : Int)) w4
  )
theorem F50_ok {s_1 : (Option Addr)} {t_2 : Int} {l_3 : Slc} {w : World} {R : Int → World → Prop} (h : F50 s_1 t_2 l_3 w R) : cl Tryz.prog 50 [.pointer (s_1), .int .i64 (t_2), tSlc.enc (l_3)] (tInt .i64) w R := by
  unfold F50 at h
  refine calls_start 60 Tryz.func50 rfl rfl (Nat.le_of_ble_eq_true rfl) ?_
  refine wp_seq ?_
  refine wp_text [0] rfl ?_
  refine rv 6 rfl rfl rfl (q_assign (v := .int .i64 ((0 : Int))) rfl rfl) ?_
  refine ro_nil ?_
  refine wp_seq ?_
  refine wp_seq ?_
  refine wp_text [0, 1, 2] rfl ?_
  refine rv 14 rfl rfl rfl (q_move (v := tSlc.enc (l_3)) rfl rfl) ?_
  refine rv 15 rfl rfl rfl (q_len (s := l_3) rfl Tryz.underlying36 rfl) ?_
  refine rv 16 rfl rfl rfl (q_gtr (a := (l_3.len : Int)) (b := (100 : Int)) rfl rfl rfl) ?_
  refine ro_nil ?_
  refine wp_if (b := (decide ((l_3.len : Int) > (100 : Int)))) rfl h (fun hb39 h => ?_) (fun hb39 h => ?_)
  · refine wp_seq ?_
    refine wp_text [0] rfl ?_
    refine rv 6 rfl rfl rfl (q_assign (v := .int .i64 ((122 : Int))) rfl rfl) ?_
    refine ro_nil ?_
    refine wp_ret ?_
    exact ret_ok rfl (.cons (.tmp (v := .int .i64 ((122 : Int))) rfl) .nil) ⟨(122 : Int), rfl, h⟩
  · refine wp_skip ?_
    refine wp_seq ?_
    refine wp_text [0, 1] rfl ?_
    obtain ⟨m5, w4, hm5, hw4, h⟩ := nwMap_open h
    refine rv 17 rfl rfl rfl (q_makeMap rfl hm5 hw4) ?_
    refine rv 7 rfl rfl rfl (q_assign (v := .map ((some m5))) rfl rfl) ?_
    refine ro_nil ?_
    refine wp_seq ?_
    refine wp_seq ?_
    refine wp_text [0, 1, 2] rfl ?_
    refine rv 18 rfl rfl rfl (q_move (v := tSlc.enc (l_3)) rfl rfl) ?_
    refine rv 19 rfl rfl rfl (q_len (s := l_3) rfl Tryz.underlying36 rfl) ?_
    refine rv 20 rfl rfl rfl (q_move (v := .int .i64 ((0 : Int))) rfl rfl) ?_
    refine ro_nil ?_
    refine wp_block ?_
    refine loop_at (σ := Int) (fr := fun g (s : Int) => upd (upd (upd (upd (upd (upd (g) 0 (.pointer (s_1))) 1 (.int .i64 (t_2))) 7 (.map ((some m5)))) 18 (tSlc.enc (l_3))) 19 (.int .i64 ((l_3.len : Int)))) 20 (.int .i64 (s))) (s0 := ((0 : Int))) (upd_step (upd_step (upd_step (upd_step (upd_step (upd_step rfl rfl) rfl) rfl) rfl) rfl) rfl) h ?_
    rintro t_6 g w7 K8 h
    unfold F50_l1 at h
    refine wp_seq ?_
    refine wp_text [0] rfl ?_
    refine rv 21 rfl rfl rfl (q_lss (a := t_6) (b := (l_3.len : Int)) rfl rfl rfl) ?_
    refine ro_nil ?_
    refine wp_seq ?_
    refine wp_if (b := (decide (t_6 < (l_3.len : Int)))) rfl h (fun hb38 h => ?_) (fun hb38 h => ?_)
    · refine wp_skip ?_
      refine wp_seq ?_
      refine wp_block ?_
      refine wp_seq ?_
      refine wp_text [0, 1, 2, 3] rfl ?_
      obtain ⟨a9, ha9, h⟩ := h
      refine rv 22 rfl rfl rfl (q_indexAddr (s := l_3) (k := .i64) (i := t_6) rfl Tryz.underlying36 ok63 rfl rfl ha9) ?_
      obtain ⟨x10, hx10, h⟩ := h
      refine rv 23 rfl rfl rfl (q_load (T := T62) (u := x10) (a := a9) rfl ok63 rfl hx10) ?_
      obtain ⟨a11, w12, ha11, hw12, h⟩ := nw_open h
      refine rv 9 rfl rfl rfl (q_alloc (u := Z62) rfl ok63 inf63 ha11 hw12) ?_
      obtain ⟨w13, hw13, hrw13, h⟩ := st_open h
      refine ro_skip (d := none) rfl (.free rfl) rfl (q_store (T := T62) (u := x10) (a := a11) rfl ok63 rfl rfl hrw13 hw13) ?_
      refine ro_nil ?_
      refine wp_seq ?_
      refine wp_text [0, 1, 2, 3, 4, 5, 6, 7, 8, 9] rfl ?_
      refine rv 25 rfl rfl rfl (q_move (v := .map ((some m5))) rfl rfl) ?_
      refine rv 26 rfl rfl rfl (q_fieldAddr (a := a11) (off := 0) rfl Tryz.underlying63 rfl rfl ok3 (by decide) rfl) ?_
      obtain ⟨x14, hx14, h⟩ := h
      refine rv 27 rfl rfl rfl (q_load (T := (tInt .i64)) (u := x14) (a := (a11.add 0)) rfl ok3 rfl hx14) ?_
      obtain ⟨m15, hm15, h⟩ := h
      refine rv 28 rfl rfl rfl (q_lookup2 (T := T115) (r := (some m5)) (key := x14) (u := m15) (z := Z115) rfl Tryz.underlying114 Tryz.underlying3 (inf115) rfl rfl hm15) ?_
      refine rv 24 rfl rfl rfl (q_move (v := (tTup2 T115 tBool).enc (((m15.getD Z115, m15.isSome)))) rfl rfl) ?_
      refine rv 29 rfl rfl rfl (q_extract (vs := #[T115.enc (((m15.getD Z115, m15.isSome)).1), .bool (((m15.getD Z115, m15.isSome)).2)]) (v := T115.enc (((m15.getD Z115, m15.isSome)).1)) rfl rfl rfl) ?_
      refine rv 30 rfl rfl rfl (q_extract (vs := #[T115.enc (((m15.getD Z115, m15.isSome)).1), .bool (((m15.getD Z115, m15.isSome)).2)]) (v := .bool (((m15.getD Z115, m15.isSome)).2)) rfl rfl rfl) ?_
      obtain ⟨a16, w17, ha16, hw17, h⟩ := nw_open h
      refine rv 10 rfl rfl rfl (q_alloc (u := Z115) rfl ok115 inf115 ha16 hw17) ?_
      obtain ⟨w18, hw18, hrw18, h⟩ := st_open h
      refine ro_skip (d := none) rfl (.free rfl) rfl (q_store (T := T115) (u := ((m15.getD Z115, m15.isSome)).1) (a := a16) rfl ok115 rfl rfl hrw18 hw18) ?_
      refine rv 11 rfl rfl rfl (q_assign (v := .bool (((m15.getD Z115, m15.isSome)).2)) rfl rfl) ?_
      refine ro_nil ?_
      refine wp_seq ?_
      refine wp_text [0, 1, 2, 3, 4, 5, 6, 7, 8, 9] rfl ?_
      refine rv 32 rfl rfl rfl (q_move (v := .pointer (s_1)) rfl rfl) ?_
      refine rv 33 rfl rfl rfl (q_fieldAddr (a := a11) (off := 0) rfl Tryz.underlying63 rfl rfl ok3 (by decide) rfl) ?_
      obtain ⟨x19, hx19, h⟩ := h
      refine rv 34 rfl rfl rfl (q_load (T := (tInt .i64)) (u := x19) (a := (a11.add 0)) rfl ok3 rfl hx19) ?_
      refine ro_wp rfl (.free rfl) (wp_cl (d := (some 35)) rfl (q_call (k := 42) (l := [.pointer (s_1), .int .i64 (x19)]) rfl ent42 rfl) h ?_)
      intro r21 w20 h
      refine rv 31 rfl rfl rfl (q_move (v := (tTup2 T86 tBool).enc (r21)) rfl rfl) ?_
      refine rv 36 rfl rfl rfl (q_extract (vs := #[T86.enc (r21.1), .bool (r21.2)]) (v := T86.enc (r21.1)) rfl rfl rfl) ?_
      refine rv 37 rfl rfl rfl (q_extract (vs := #[T86.enc (r21.1), .bool (r21.2)]) (v := .bool (r21.2)) rfl rfl rfl) ?_
      obtain ⟨a22, w23, ha22, hw23, h⟩ := nw_open h
      refine rv 12 rfl rfl rfl (q_alloc (u := Z86) rfl ok87 inf87 ha22 hw23) ?_
      obtain ⟨w24, hw24, hrw24, h⟩ := st_open h
      refine ro_skip (d := none) rfl (.free rfl) rfl (q_store (T := T86) (u := r21.1) (a := a22) rfl ok87 rfl rfl hrw24 hw24) ?_
      refine rv 13 rfl rfl rfl (q_assign (v := .bool (r21.2)) rfl rfl) ?_
      refine ro_nil ?_
      refine wp_seq ?_
      refine wp_block ?_
      refine wp_seq ?_
      refine wp_text [0, 1, 2, 3, 4] rfl ?_
      refine rv 39 rfl rfl rfl (q_fieldAddr (a := a11) (off := 0) rfl Tryz.underlying63 rfl rfl ok3 (by decide) rfl) ?_
      obtain ⟨x25, hx25, h⟩ := h
      refine rv 40 rfl rfl rfl (q_load (T := (tInt .i64)) (u := x25) (a := (a11.add 0)) rfl ok3 rfl hx25) ?_
      refine ro_wp rfl (.free rfl) (wp_cl (d := (some 41)) rfl (q_call (k := 62) (l := [.int .i64 (x25)]) rfl ent62 rfl) h ?_)
      intro r27 w26 h
      refine rv 42 rfl rfl rfl (q_not (b := r27) rfl rfl) ?_
      refine rv 38 rfl rfl rfl (q_assign (v := .bool ((!r27))) rfl rfl) ?_
      refine ro_nil ?_
      refine wp_if (b := (!r27)) rfl h (fun hb37 h => ?_) (fun hb37 h => ?_)
      · refine wp_seq ?_
        refine wp_text [0] rfl ?_
        refine rv 6 rfl rfl rfl (q_assign (v := .int .i64 ((123 : Int))) rfl rfl) ?_
        refine ro_nil ?_
        refine wp_ret ?_
        exact ret_ok rfl (.cons (.tmp (v := .int .i64 ((123 : Int))) rfl) .nil) ⟨(123 : Int), rfl, h⟩
      · refine wp_seq ?_
        refine wp_text [0, 1] rfl ?_
        refine rv 44 rfl rfl rfl (q_move (v := .bool (((m15.getD Z115, m15.isSome)).2)) rfl rfl) ?_
        refine rv 43 rfl rfl rfl (q_assign (v := .bool (((m15.getD Z115, m15.isSome)).2)) rfl rfl) ?_
        refine ro_nil ?_
        refine wp_if (b := ((m15.getD Z115, m15.isSome)).2) rfl h (fun hb36 h => ?_) (fun hb36 h => ?_)
        · refine wp_seq ?_
          refine wp_text [0] rfl ?_
          refine rv 6 rfl rfl rfl (q_assign (v := .int .i64 ((124 : Int))) rfl rfl) ?_
          refine ro_nil ?_
          refine wp_ret ?_
          exact ret_ok rfl (.cons (.tmp (v := .int .i64 ((124 : Int))) rfl) .nil) ⟨(124 : Int), rfl, h⟩
        · refine wp_seq ?_
          refine wp_text [0, 1, 2, 3, 4] rfl ?_
          refine rv 46 rfl rfl rfl (q_fieldAddr (a := a22) (off := 0) rfl Tryz.underlying87 rfl rfl ok2 (by decide) rfl) ?_
          obtain ⟨x28, hx28, h⟩ := h
          refine rv 47 rfl rfl rfl (q_load (T := (tInt .i64)) (u := x28) (a := (a22.add 0)) rfl ok2 rfl hx28) ?_
          refine rv 48 rfl rfl rfl (q_move (v := .int .i64 (t_2)) rfl rfl) ?_
          refine rv 49 rfl rfl rfl (q_geq (a := x28) (b := t_2) rfl rfl rfl) ?_
          refine rv 45 rfl rfl rfl (q_assign (v := .bool ((decide (x28 ≥ t_2)))) rfl rfl) ?_
          refine ro_nil ?_
          refine wp_if (b := (decide (x28 ≥ t_2))) rfl h (fun hb35 h => ?_) (fun hb35 h => ?_)
          · refine wp_seq ?_
            refine wp_text [0] rfl ?_
            refine rv 6 rfl rfl rfl (q_assign (v := .int .i64 ((121 : Int))) rfl rfl) ?_
            refine ro_nil ?_
            refine wp_ret ?_
            exact ret_ok rfl (.cons (.tmp (v := .int .i64 ((121 : Int))) rfl) .nil) ⟨(121 : Int), rfl, h⟩
          · refine wp_seq ?_
            refine wp_text [0, 1, 2, 3, 4] rfl ?_
            refine rv 51 rfl rfl rfl (q_move (v := .pointer (s_1)) rfl rfl) ?_
            refine rv 52 rfl rfl rfl (q_fieldAddr (a := a11) (off := 0) rfl Tryz.underlying63 rfl rfl ok3 (by decide) rfl) ?_
            obtain ⟨x29, hx29, h⟩ := h
            refine rv 53 rfl rfl rfl (q_load (T := (tInt .i64)) (u := x29) (a := (a11.add 0)) rfl ok3 rfl hx29) ?_
            refine ro_wp rfl (.free rfl) (wp_cl (d := (some 54)) rfl (q_call (k := 66) (l := [.pointer (s_1), .int .i64 (x29)]) rfl ent66 rfl) h ?_)
            intro r31 w30 h
            refine rv 50 rfl rfl rfl (q_assign (v := .bool (r31)) rfl rfl) ?_
            refine ro_nil ?_
            refine wp_if (b := r31) rfl h (fun hb34 h => ?_) (fun hb34 h => ?_)
            · refine wp_seq ?_
              refine wp_text [0] rfl ?_
              refine rv 6 rfl rfl rfl (q_assign (v := .int .i64 ((125 : Int))) rfl rfl) ?_
              refine ro_nil ?_
              refine wp_ret ?_
              exact ret_ok rfl (.cons (.tmp (v := .int .i64 ((125 : Int))) rfl) .nil) ⟨(125 : Int), rfl, h⟩
            · refine wp_skip ?_
              refine wp_text [0, 1, 2, 3, 4] rfl ?_
              refine rv 55 rfl rfl rfl (q_move (v := .map ((some m5))) rfl rfl) ?_
              refine rv 56 rfl rfl rfl (q_fieldAddr (a := a11) (off := 0) rfl Tryz.underlying63 rfl rfl ok3 (by decide) rfl) ?_
              obtain ⟨x32, hx32, h⟩ := h
              refine rv 57 rfl rfl rfl (q_load (T := (tInt .i64)) (u := x32) (a := (a11.add 0)) rfl ok3 rfl hx32) ?_
              refine rv 58 rfl rfl rfl (q_build115_  rfl ) ?_
              refine ro_wp rfl (.free rfl) (wp_mput (T := T115) (r := (some m5)) (key := x32) (v := (⟨⟩ : S115)) (d := none) rfl (.inl rfl) Tryz.underlying114 Tryz.underlying3 rfl rfl rfl h ?_)
              intro w33 h
              refine ro_nil ?_
              refine wp_text [0, 1] rfl ?_
              refine rv 59 rfl rfl rfl (q_add (a := t_6) (b := (1 : Int)) rfl rfl rfl) ?_
              refine rv 20 rfl rfl rfl (q_move (v := .int .i64 ((IntKind.i64.wrap (t_6 + (1 : Int))))) rfl rfl) ?_
              refine ro_nil ?_
              exact ⟨((IntKind.i64.wrap (t_6 + (1 : Int)))), _, arr (upd_step (upd_step (upd_step (upd_step (upd_step (upd_step rfl rfl) rfl) rfl) rfl) rfl) rfl), h⟩
    · refine wp_exit ?_
      refine wp_seq ?_
      refine wp_text [0] rfl ?_
      refine rv 6 rfl rfl rfl (q_assign (v := .int .i64 ((0 : Int))) rfl rfl) ?_
      refine ro_nil ?_
      refine wp_ret ?_
      exact ret_ok rfl (.cons (.tmp (v := .int .i64 ((0 : Int))) rfl) .nil) ⟨(0 : Int), rfl, h⟩
def F51 (w : World) (R : (Option Addr) → World → Prop) : Prop :=
  nw 112 T111 (⟨(⟨none, 0, 0⟩ : Slc), (0 : Int)⟩ : S111) w fun a1 w2 =>
  R (some a1) w2
theorem F51_ok {w : World} {R : (Option Addr) → World → Prop} (h : F51 w R) : cl Tryz.prog 51 [] tPtr w R := by
  unfold F51 at h
  refine calls_start 3 Tryz.func51 rfl rfl (Nat.le_of_ble_eq_true rfl) ?_
  refine wp_seq ?_
  refine wp_text [0] rfl ?_
  refine rv 0 rfl rfl rfl (q_assign (v := .pointer ((none : Option Addr))) rfl rfl) ?_
  refine ro_nil ?_
  refine wp_seq ?_
  refine wp_text [0, 1, 2] rfl ?_
  refine rv 1 rfl rfl rfl (q_build112_  rfl ) ?_
  obtain ⟨a1, w2, ha1, hw2, h⟩ := nw_open h
  refine rv 2 rfl rfl rfl (q_box (u := (⟨(⟨none, 0, 0⟩ : Slc), (0 : Int)⟩ : S111)) rfl ok112 rfl ha1 hw2) ?_
  refine rv 0 rfl rfl rfl (q_assign (v := .pointer (some a1)) rfl rfl) ?_
  refine ro_nil ?_
  refine wp_ret ?_
  exact ret_ok rfl (.cons (.tmp (v := .pointer ((some a1))) rfl) .nil) ⟨(some a1), rfl, h⟩
def F52 (c_1 : (Option Addr)) (t_2 : Int) (v_3 : Int) (w : World) (R : Int → World → Prop) : Prop :=
  if ((decide (t_2 < (1 : Int))) || (decide (t_2 > (1125899906842624 : Int)))) = true then (
    R (110 : Int) w
  ) else (
    cl Tryz.prog 61 [.pointer (c_1)] (tTup2 T86 tBool) w fun r5 w4 =>
    nw 87 T86 Z86 w4 fun a6 w7 =>
    st T86 a6 r5.1 w7 fun w8 =>
    ex (fun x => r5.2 = true → (RdAt (tInt .i64) (a6.add 0) w8) x) fun x9 =>
    ex (fun x => (!(r5.2 && (decide (t_2 ≤ x9)))) = true → (NC c_1) x) fun a10 =>
    ex (fun x => (!(r5.2 && (decide (t_2 ≤ x9)))) = true → (RdAt (tInt .i64) (a10.add 1) w8) x) fun x11 =>
    if ((r5.2 && (decide (t_2 ≤ x9))) || (decide (t_2 ≤ x11))) = true then (
      R (111 : Int) w8
    ) else (
      ex (NC c_1) fun a12 =>
      ex (RdAt tSlc (a12.add 0) w8) fun x13 =>
      if (decide ((x13.len : Int) ≥ (10000 : Int))) = true then (
        R (112 : Int) w8
      ) else (
        ex (RdAt tSlc (a12.add 0) w8) fun x14 =>
        apl 87 T86 2 16 x14 [(⟨t_2, v_3⟩ : S86)] w8 fun r18 w17 =>
        st tSlc (a12.add 0) r18 w17 fun w19 =>
        R (0 : Int) w19
      )
    )
  )
theorem F52_ok {c_1 : (Option Addr)} {t_2 : Int} {v_3 : Int} {w : World} {R : Int → World → Prop} (h : F52 c_1 t_2 v_3 w R) : cl Tryz.prog 52 [.pointer (c_1), .int .i64 (t_2), .int .i64 (v_3)] (tInt .i64) w R := by
  unfold F52 at h
  refine calls_start 53 Tryz.func52 rfl rfl (Nat.le_of_ble_eq_true rfl) ?_
  refine wp_seq ?_
  refine wp_text [0] rfl ?_
  refine rv 6 rfl rfl rfl (q_assign (v := .int .i64 ((0 : Int))) rfl rfl) ?_
  refine ro_nil ?_
  refine wp_seq ?_
  refine wp_seq ?_
  refine wp_text [0, 1, 2, 3, 4, 5] rfl ?_
  refine rv 9 rfl rfl rfl (q_move (v := .int .i64 (t_2)) rfl rfl) ?_
  refine rv 10 rfl rfl rfl (q_lss (a := t_2) (b := (1 : Int)) rfl rfl rfl) ?_
  refine rv 11 rfl rfl rfl (q_move (v := .bool ((decide (t_2 < (1 : Int))))) rfl rfl) ?_
  refine ro_gval (g := (!(decide (t_2 < (1 : Int))))) (d := (some 12)) rfl (.no 2 11 true (decide (t_2 < (1 : Int))) rfl rfl rfl rfl) rfl (fun hg => q_move (v := .int .i64 (t_2)) rfl rfl) ?_
  refine ro_gval (g := (!(decide (t_2 < (1 : Int))))) (d := (some 13)) rfl (.no 2 11 true (decide (t_2 < (1 : Int))) rfl rfl rfl rfl) rfl (fun hg => q_gtr (k := .i64) (a := t_2) (b := (1125899906842624 : Int)) rfl (gvb_yes hg) rfl) ?_
  refine rv 14 rfl rfl rfl (q_pickGF (a := (decide (t_2 < (1 : Int)))) (c := (decide (t_2 > (1125899906842624 : Int)))) rfl rfl rfl rfl) ?_
  refine ro_nil ?_
  refine wp_if (b := ((decide (t_2 < (1 : Int))) || (decide (t_2 > (1125899906842624 : Int))))) rfl h (fun hb22 h => ?_) (fun hb22 h => ?_)
  · refine wp_seq ?_
    refine wp_text [0] rfl ?_
    refine rv 6 rfl rfl rfl (q_assign (v := .int .i64 ((110 : Int))) rfl rfl) ?_
    refine ro_nil ?_
    refine wp_ret ?_
    exact ret_ok rfl (.cons (.tmp (v := .int .i64 ((110 : Int))) rfl) .nil) ⟨(110 : Int), rfl, h⟩
  · refine wp_skip ?_
    refine wp_seq ?_
    refine wp_seq ?_
    refine wp_text [0, 1, 2, 3, 4, 5, 6, 7] rfl ?_
    refine rv 16 rfl rfl rfl (q_move (v := .pointer (c_1)) rfl rfl) ?_
    refine ro_wp rfl (.free rfl) (wp_cl (d := (some 17)) rfl (q_call (k := 61) (l := [.pointer (c_1)]) rfl ent61 rfl) h ?_)
    intro r5 w4 h
    refine rv 15 rfl rfl rfl (q_move (v := (tTup2 T86 tBool).enc (r5)) rfl rfl) ?_
    refine rv 18 rfl rfl rfl (q_extract (vs := #[T86.enc (r5.1), .bool (r5.2)]) (v := T86.enc (r5.1)) rfl rfl rfl) ?_
    refine rv 19 rfl rfl rfl (q_extract (vs := #[T86.enc (r5.1), .bool (r5.2)]) (v := .bool (r5.2)) rfl rfl rfl) ?_
    obtain ⟨a6, w7, ha6, hw7, h⟩ := nw_open h
    refine rv 7 rfl rfl rfl (q_alloc (u := Z86) rfl ok87 inf87 ha6 hw7) ?_
    obtain ⟨w8, hw8, hrw8, h⟩ := st_open h
    refine ro_skip (d := none) rfl (.free rfl) rfl (q_store (T := T86) (u := r5.1) (a := a6) rfl ok87 rfl rfl hrw8 hw8) ?_
    refine rv 8 rfl rfl rfl (q_assign (v := .bool (r5.2)) rfl rfl) ?_
    refine ro_nil ?_
    refine wp_seq ?_
    refine wp_text [0, 1, 2, 3, 4, 5, 6, 7, 8, 9, 10, 11, 12, 13, 14] rfl ?_
    refine rv 20 rfl rfl rfl (q_move (v := .bool (r5.2)) rfl rfl) ?_
    refine rv 21 rfl rfl rfl (q_move (v := .bool (r5.2)) rfl rfl) ?_
    refine ro_gval (g := r5.2) (d := (some 22)) rfl (.yes 1 21 true r5.2 rfl rfl rfl rfl) rfl (fun hg => q_move (v := .int .i64 (t_2)) rfl rfl) ?_
    refine ro_gval (g := r5.2) (d := (some 23)) rfl (.yes 1 21 true r5.2 rfl rfl rfl rfl) rfl (fun hg => q_fieldAddr (a := a6) (off := 0) rfl Tryz.underlying87 rfl rfl ok2 (by decide) rfl) ?_
    obtain ⟨x9, hx9, h⟩ := h
    refine ro_gval (g := r5.2) (d := (some 24)) rfl (.yes 1 21 true r5.2 rfl rfl rfl rfl) rfl (fun hg => q_load (T := (tInt .i64)) (u := x9) (a := (a6.add 0)) rfl ok2 (gvb_yes hg) (hx9 hg)) ?_
    refine ro_gval (g := r5.2) (d := (some 25)) rfl (.yes 1 21 true r5.2 rfl rfl rfl rfl) rfl (fun hg => q_leq (k := .i64) (a := t_2) (b := x9) rfl (gvb_yes hg) (gvb_yes hg)) ?_
    refine rv 26 rfl rfl rfl (q_pickGT (a := r5.2) (b := (decide (t_2 ≤ x9))) rfl rfl rfl rfl) ?_
    refine rv 27 rfl rfl rfl (q_move (v := .bool ((r5.2 && (decide (t_2 ≤ x9))))) rfl rfl) ?_
    refine ro_gval (g := (!(r5.2 && (decide (t_2 ≤ x9))))) (d := (some 28)) rfl (.no 7 27 true (r5.2 && (decide (t_2 ≤ x9))) rfl rfl rfl rfl) rfl (fun hg => q_move (v := .int .i64 (t_2)) rfl rfl) ?_
    refine ro_gval (g := (!(r5.2 && (decide (t_2 ≤ x9))))) (d := (some 29)) rfl (.no 7 27 true (r5.2 && (decide (t_2 ≤ x9))) rfl rfl rfl rfl) rfl (fun hg => q_move (v := .pointer (c_1)) rfl rfl) ?_
    obtain ⟨a10, ha10, h⟩ := h
    refine ro_gval (g := (!(r5.2 && (decide (t_2 ≤ x9))))) (d := (some 30)) rfl (.no 7 27 true (r5.2 && (decide (t_2 ≤ x9))) rfl rfl rfl rfl) rfl (fun hg => q_nilCheck (a := a10) rfl ((gvb_yes hg).trans (congrArg Value.pointer (ha10 hg)))) ?_
    refine ro_gval (g := (!(r5.2 && (decide (t_2 ≤ x9))))) (d := (some 31)) rfl (.no 7 27 true (r5.2 && (decide (t_2 ≤ x9))) rfl rfl rfl rfl) rfl (fun hg => q_fieldAddr (a := a10) (off := 1) rfl Tryz.underlying112 rfl rfl ok2 (by decide) (gvb_yes hg)) ?_
    obtain ⟨x11, hx11, h⟩ := h
    refine ro_gval (g := (!(r5.2 && (decide (t_2 ≤ x9))))) (d := (some 32)) rfl (.no 7 27 true (r5.2 && (decide (t_2 ≤ x9))) rfl rfl rfl rfl) rfl (fun hg => q_load (T := (tInt .i64)) (u := x11) (a := (a10.add 1)) rfl ok2 (gvb_yes hg) (hx11 hg)) ?_
    refine ro_gval (g := (!(r5.2 && (decide (t_2 ≤ x9))))) (d := (some 33)) rfl (.no 7 27 true (r5.2 && (decide (t_2 ≤ x9))) rfl rfl rfl rfl) rfl (fun hg => q_leq (k := .i64) (a := t_2) (b := x11) rfl (gvb_yes hg) (gvb_yes hg)) ?_
    refine rv 34 rfl rfl rfl (q_pickGF (a := (r5.2 && (decide (t_2 ≤ x9)))) (c := (decide (t_2 ≤ x11))) rfl rfl rfl rfl) ?_
    refine ro_nil ?_
    refine wp_if (b := ((r5.2 && (decide (t_2 ≤ x9))) || (decide (t_2 ≤ x11)))) rfl h (fun hb21 h => ?_) (fun hb21 h => ?_)
    · refine wp_seq ?_
      refine wp_text [0] rfl ?_
      refine rv 6 rfl rfl rfl (q_assign (v := .int .i64 ((111 : Int))) rfl rfl) ?_
      refine ro_nil ?_
      refine wp_ret ?_
      exact ret_ok rfl (.cons (.tmp (v := .int .i64 ((111 : Int))) rfl) .nil) ⟨(111 : Int), rfl, h⟩
    · refine wp_skip ?_
      refine wp_seq ?_
      refine wp_seq ?_
      refine wp_text [0, 1, 2, 3, 4, 5] rfl ?_
      refine rv 35 rfl rfl rfl (q_move (v := .pointer (c_1)) rfl rfl) ?_
      obtain ⟨a12, ha12, h⟩ := h
      refine rv 36 rfl rfl rfl (q_nilCheck (a := a12) rfl (congrArg Value.pointer ha12)) ?_
      refine rv 37 rfl rfl rfl (q_fieldAddr (a := a12) (off := 0) rfl Tryz.underlying112 rfl rfl ok110 (by decide) rfl) ?_
      obtain ⟨x13, hx13, h⟩ := h
      refine rv 38 rfl rfl rfl (q_load (T := tSlc) (u := x13) (a := (a12.add 0)) rfl ok110 rfl hx13) ?_
      refine rv 39 rfl rfl rfl (q_len (s := x13) rfl Tryz.underlying110 rfl) ?_
      refine rv 40 rfl rfl rfl (q_geq (a := (x13.len : Int)) (b := (10000 : Int)) rfl rfl rfl) ?_
      refine ro_nil ?_
      refine wp_if (b := (decide ((x13.len : Int) ≥ (10000 : Int)))) rfl h (fun hb20 h => ?_) (fun hb20 h => ?_)
      · refine wp_seq ?_
        refine wp_text [0] rfl ?_
        refine rv 6 rfl rfl rfl (q_assign (v := .int .i64 ((112 : Int))) rfl rfl) ?_
        refine ro_nil ?_
        refine wp_ret ?_
        exact ret_ok rfl (.cons (.tmp (v := .int .i64 ((112 : Int))) rfl) .nil) ⟨(112 : Int), rfl, h⟩
      · refine wp_skip ?_
        refine wp_seq ?_
        refine wp_text [0, 1, 2, 3, 4, 5, 6, 7, 8, 9, 10, 11, 12] rfl ?_
        refine rv 41 rfl rfl rfl (q_move (v := .pointer (c_1)) rfl rfl) ?_
        refine rv 42 rfl rfl rfl (q_move (v := .pointer (c_1)) rfl rfl) ?_
        refine rv 43 rfl rfl rfl (q_nilCheck (a := a12) rfl (congrArg Value.pointer ha12)) ?_
        refine rv 44 rfl rfl rfl (q_fieldAddr (a := a12) (off := 0) rfl Tryz.underlying112 rfl rfl ok110 (by decide) rfl) ?_
        obtain ⟨x14, hx14, h⟩ := h
        refine rv 45 rfl rfl rfl (q_load (T := tSlc) (u := x14) (a := (a12.add 0)) rfl ok110 rfl hx14) ?_
        refine rv 46 rfl rfl rfl (q_move (v := .int .i64 (t_2)) rfl rfl) ?_
        refine rv 47 rfl rfl rfl (q_move (v := .int .i64 (v_3)) rfl rfl) ?_
        refine rv 48 rfl rfl rfl (q_build87_0_1 (v0 := t_2) (v1 := v_3) rfl rfl rfl) ?_
        obtain ⟨a15, w16, ha15, hw16, h⟩ := apl_open h
        refine rv 49 rfl rfl rfl (q_rowOf (T := T86) (xs := [(⟨t_2, v_3⟩ : S86)]) rfl Tryz.underlying110 ok87 inf87 rfl (by decide) (by decide) rfl ha15 hw16) ?_
        refine ro_wp rfl (.free rfl) (wp_append (d := (some 50)) (T := T86) rfl rfl Tryz.underlying110 ⟨_, Tryz.underlying110⟩ ok87 inf87 rfl rfl (Nat.lt_of_lt_of_le Nat.zero_lt_one (Nat.le_of_ble_eq_true rfl)) rfl rfl h ?_)
        intro r18 w17 h
        refine rv 51 rfl rfl rfl (q_nilCheck (a := a12) rfl (congrArg Value.pointer ha12)) ?_
        refine rv 52 rfl rfl rfl (q_fieldAddr (a := a12) (off := 0) rfl Tryz.underlying112 rfl rfl ok110 (by decide) rfl) ?_
        obtain ⟨w19, hw19, hrw19, h⟩ := st_open h
        refine ro_skip (d := none) rfl (.free rfl) rfl (q_store (T := tSlc) (u := r18) (a := (a12.add 0)) rfl ok110 rfl rfl hrw19 hw19) ?_
        refine ro_nil ?_
        refine wp_seq ?_
        refine wp_text [0] rfl ?_
        refine rv 6 rfl rfl rfl (q_assign (v := .int .i64 ((0 : Int))) rfl rfl) ?_
        refine ro_nil ?_
        refine wp_ret ?_
        exact ret_ok rfl (.cons (.tmp (v := .int .i64 ((0 : Int))) rfl) .nil) ⟨(0 : Int), rfl, h⟩
def F56 (t_1 : Int) (w : World) (R : Bool → World → Prop) : Prop :=
  R ((decide (t_1 ≥ (0 : Int))) && (decide (t_1 ≤ (1125899906842624 : Int)))) w
theorem F56_ok {t_1 : Int} {w : World} {R : Bool → World → Prop} (h : F56 t_1 w R) : cl Tryz.prog 56 [.int .i64 (t_1)] tBool w R := by
  unfold F56 at h
  refine calls_start 9 Tryz.func56 rfl rfl (Nat.le_of_ble_eq_true rfl) ?_
  refine wp_seq ?_
  refine wp_text [0] rfl ?_
  refine rv 2 rfl rfl rfl (q_assign (v := .bool (false)) rfl rfl) ?_
  refine ro_nil ?_
  refine wp_seq ?_
  refine wp_text [0, 1, 2, 3, 4, 5, 6] rfl ?_
  refine rv 3 rfl rfl rfl (q_move (v := .int .i64 (t_1)) rfl rfl) ?_
  refine rv 4 rfl rfl rfl (q_geq (a := t_1) (b := (0 : Int)) rfl rfl rfl) ?_
  refine rv 5 rfl rfl rfl (q_move (v := .bool ((decide (t_1 ≥ (0 : Int))))) rfl rfl) ?_
  refine ro_gval (g := (decide (t_1 ≥ (0 : Int)))) (d := (some 6)) rfl (.yes 2 5 true (decide (t_1 ≥ (0 : Int))) rfl rfl rfl rfl) rfl (fun hg => q_move (v := .int .i64 (t_1)) rfl rfl) ?_
  refine ro_gval (g := (decide (t_1 ≥ (0 : Int)))) (d := (some 7)) rfl (.yes 2 5 true (decide (t_1 ≥ (0 : Int))) rfl rfl rfl rfl) rfl (fun hg => q_leq (k := .i64) (a := t_1) (b := (1125899906842624 : Int)) rfl (gvb_yes hg) rfl) ?_
  refine rv 8 rfl rfl rfl (q_pickGT (a := (decide (t_1 ≥ (0 : Int)))) (b := (decide (t_1 ≤ (1125899906842624 : Int)))) rfl rfl rfl rfl) ?_
  refine rv 2 rfl rfl rfl (q_assign (v := .bool (((decide (t_1 ≥ (0 : Int))) && (decide (t_1 ≤ (1125899906842624 : Int)))))) rfl rfl) ?_
  refine ro_nil ?_
  refine wp_ret ?_
  exact ret_ok rfl (.cons (.tmp (v := .bool (((decide (t_1 ≥ (0 : Int))) && (decide (t_1 ≤ (1125899906842624 : Int)))))) rfl) .nil) ⟨((decide (t_1 ≥ (0 : Int))) && (decide (t_1 ≤ (1125899906842624 : Int)))), rfl, h⟩
def F57 (a_1 : Int) (b_2 : Int) (w : World) (R : (Int × Int) → World → Prop) : Prop :=
  nwS 2 (tInt .i64) [a_1, b_2] w fun a3 w4 =>
  cl Tryz.prog 70 [tSlc.enc ((⟨some a3, 2, 2⟩ : Slc))] (tTup2 (tInt .i64) (tInt .i64)) w4 fun r6 w5 =>
  R (r6.1, r6.2) w5
theorem F57_ok {a_1 : Int} {b_2 : Int} {w : World} {R : (Int × Int) → World → Prop} (h : F57 a_1 b_2 w R) : cl Tryz.prog 57 [.int .i64 (a_1), .int .i64 (b_2)] (tTup2 (tInt .i64) (tInt .i64)) w R := by
  unfold F57 at h
  refine calls_start 12 Tryz.func57 rfl rfl (Nat.le_of_ble_eq_true rfl) ?_
  refine wp_seq ?_
  refine wp_text [0, 1] rfl ?_
  refine rv 4 rfl rfl rfl (q_assign (v := .int .i64 ((0 : Int))) rfl rfl) ?_
  refine rv 5 rfl rfl rfl (q_assign (v := .int .i64 ((0 : Int))) rfl rfl) ?_
  refine ro_nil ?_
  refine wp_seq ?_
  refine wp_text [0, 1, 2, 3, 4, 5, 6, 7] rfl ?_
  refine rv 6 rfl rfl rfl (q_move (v := .int .i64 (a_1)) rfl rfl) ?_
  refine rv 7 rfl rfl rfl (q_move (v := .int .i64 (b_2)) rfl rfl) ?_
  obtain ⟨a3, w4, ha3, hw4, h⟩ := nwS_open h
  refine rv 8 rfl rfl rfl (q_rowOf (T := (tInt .i64)) (xs := [a_1, b_2]) rfl Tryz.underlying138 ok2 inf2 rfl (by decide) (by decide) rfl ha3 hw4) ?_
  refine ro_wp rfl (.free rfl) (wp_cl (d := (some 9)) rfl (q_call (k := 70) (l := [tSlc.enc ((⟨some a3, 2, 2⟩ : Slc))]) rfl ent70 rfl) h ?_)
  intro r6 w5 h
  refine rv 10 rfl rfl rfl (q_extract (vs := #[.int .i64 (r6.1), .int .i64 (r6.2)]) (v := .int .i64 (r6.1)) rfl rfl rfl) ?_
  refine rv 11 rfl rfl rfl (q_extract (vs := #[.int .i64 (r6.1), .int .i64 (r6.2)]) (v := .int .i64 (r6.2)) rfl rfl rfl) ?_
  refine rv 4 rfl rfl rfl (q_assign (v := .int .i64 (r6.1)) rfl rfl) ?_
  refine rv 5 rfl rfl rfl (q_assign (v := .int .i64 (r6.2)) rfl rfl) ?_
  refine ro_nil ?_
  refine wp_ret ?_
  exact ret_ok rfl (.cons (.tmp (v := .int .i64 (r6.1)) rfl) (.cons (.tmp (v := .int .i64 (r6.2)) rfl) .nil)) ⟨(r6.1, r6.2), rfl, h⟩
def F58 (n_1 : Int) (rate_2 : Nat) (w : World) (R : (Int × Int) → World → Prop) : Prop :=
  cl Tryz.prog 44 [.int .i64 (n_1)] (tInt .i64) w fun r4 w3 =>
  if (r4 != (0 : Int)) = true then (
    R ((0 : Int), r4) w3
  ) else (
    cl Tryz.prog 40 [.float .f64 (rate_2)] (tInt .i64) w3 fun r6 w5 =>
    if (r6 != (0 : Int)) = true then (
      R ((0 : Int), r6) w5
    ) else (
      cl Tryz.prog 71 [.int .i64 (n_1), .float .f64 (rate_2)] (tTup2 (tInt .i64) (tInt .i64)) w5 fun r8 w7 =>
      R (r8.1, r8.2) w7
    )
  )
theorem F58_ok {n_1 : Int} {rate_2 : Nat} {w : World} {R : (Int × Int) → World → Prop} (h : F58 n_1 rate_2 w R) : cl Tryz.prog 58 [.int .i64 (n_1), .float .f64 (rate_2)] (tTup2 (tInt .i64) (tInt .i64)) w R := by
  unfold F58 at h
  refine calls_start 23 Tryz.func58 rfl rfl (Nat.le_of_ble_eq_true rfl) ?_
  refine wp_seq ?_
  refine wp_text [0, 1] rfl ?_
  refine rv 4 rfl rfl rfl (q_assign (v := .int .i64 ((0 : Int))) rfl rfl) ?_
  refine rv 5 rfl rfl rfl (q_assign (v := .int .i64 ((0 : Int))) rfl rfl) ?_
  refine ro_nil ?_
  refine wp_seq ?_
  refine wp_seq ?_
  refine wp_text [0, 1, 2] rfl ?_
  refine rv 8 rfl rfl rfl (q_move (v := .int .i64 (n_1)) rfl rfl) ?_
  refine ro_wp rfl (.free rfl) (wp_cl (d := (some 9)) rfl (q_call (k := 44) (l := [.int .i64 (n_1)]) rfl ent44 rfl) h ?_)
  intro r4 w3 h
  refine rv 6 rfl rfl rfl (q_assign (v := .int .i64 (r4)) rfl rfl) ?_
  refine ro_nil ?_
  refine wp_seq ?_
  refine wp_text [0, 1] rfl ?_
  refine rv 10 rfl rfl rfl (q_move (v := .int .i64 (r4)) rfl rfl) ?_
  refine rv 11 rfl rfl rfl (q_neq (a := r4) (b := (0 : Int)) rfl rfl rfl) ?_
  refine ro_nil ?_
  refine wp_if (b := (r4 != (0 : Int))) rfl h (fun hb10 h => ?_) (fun hb10 h => ?_)
  · refine wp_seq ?_
    refine wp_text [0, 1, 2] rfl ?_
    refine rv 12 rfl rfl rfl (q_move (v := .int .i64 (r4)) rfl rfl) ?_
    refine rv 4 rfl rfl rfl (q_assign (v := .int .i64 ((0 : Int))) rfl rfl) ?_
    refine rv 5 rfl rfl rfl (q_assign (v := .int .i64 (r4)) rfl rfl) ?_
    refine ro_nil ?_
    refine wp_ret ?_
    exact ret_ok rfl (.cons (.tmp (v := .int .i64 ((0 : Int))) rfl) (.cons (.tmp (v := .int .i64 (r4)) rfl) .nil)) ⟨((0 : Int), r4), rfl, h⟩
  · refine wp_skip ?_
    refine wp_seq ?_
    refine wp_seq ?_
    refine wp_text [0, 1, 2] rfl ?_
    refine rv 13 rfl rfl rfl (q_move (v := .float .f64 (rate_2)) rfl rfl) ?_
    refine ro_wp rfl (.free rfl) (wp_cl (d := (some 14)) rfl (q_call (k := 40) (l := [.float .f64 (rate_2)]) rfl ent40 rfl) h ?_)
    intro r6 w5 h
    refine rv 7 rfl rfl rfl (q_assign (v := .int .i64 (r6)) rfl rfl) ?_
    refine ro_nil ?_
    refine wp_seq ?_
    refine wp_text [0, 1] rfl ?_
    refine rv 15 rfl rfl rfl (q_move (v := .int .i64 (r6)) rfl rfl) ?_
    refine rv 16 rfl rfl rfl (q_neq (a := r6) (b := (0 : Int)) rfl rfl rfl) ?_
    refine ro_nil ?_
    refine wp_if (b := (r6 != (0 : Int))) rfl h (fun hb9 h => ?_) (fun hb9 h => ?_)
    · refine wp_seq ?_
      refine wp_text [0, 1, 2] rfl ?_
      refine rv 17 rfl rfl rfl (q_move (v := .int .i64 (r6)) rfl rfl) ?_
      refine rv 4 rfl rfl rfl (q_assign (v := .int .i64 ((0 : Int))) rfl rfl) ?_
      refine rv 5 rfl rfl rfl (q_assign (v := .int .i64 (r6)) rfl rfl) ?_
      refine ro_nil ?_
      refine wp_ret ?_
      exact ret_ok rfl (.cons (.tmp (v := .int .i64 ((0 : Int))) rfl) (.cons (.tmp (v := .int .i64 (r6)) rfl) .nil)) ⟨((0 : Int), r6), rfl, h⟩
    · refine wp_skip ?_
      refine wp_seq ?_
      refine wp_text [0, 1, 2, 3, 4, 5, 6] rfl ?_
      refine rv 18 rfl rfl rfl (q_move (v := .int .i64 (n_1)) rfl rfl) ?_
      refine rv 19 rfl rfl rfl (q_move (v := .float .f64 (rate_2)) rfl rfl) ?_
      refine ro_wp rfl (.free rfl) (wp_cl (d := (some 20)) rfl (q_call (k := 71) (l := [.int .i64 (n_1), .float .f64 (rate_2)]) rfl ent71 rfl) h ?_)
      intro r8 w7 h
      refine rv 21 rfl rfl rfl (q_extract (vs := #[.int .i64 (r8.1), .int .i64 (r8.2)]) (v := .int .i64 (r8.1)) rfl rfl rfl) ?_
      refine rv 22 rfl rfl rfl (q_extract (vs := #[.int .i64 (r8.1), .int .i64 (r8.2)]) (v := .int .i64 (r8.2)) rfl rfl rfl) ?_
      refine rv 4 rfl rfl rfl (q_assign (v := .int .i64 (r8.1)) rfl rfl) ?_
      refine rv 5 rfl rfl rfl (q_assign (v := .int .i64 (r8.2)) rfl rfl) ?_
      refine ro_nil ?_
      refine wp_ret ?_
      exact ret_ok rfl (.cons (.tmp (v := .int .i64 (r8.1)) rfl) (.cons (.tmp (v := .int .i64 (r8.2)) rfl) .nil)) ⟨(r8.1, r8.2), rfl, h⟩
end Go.Proofs.YtpdaapffkdejoaaGreat.Cf
namespace Go.Proofs.YtpdaapffkdejoaaGreat.Cf
open Go
set_option maxRecDepth 100000
set_option maxHeartbeats 1000000
set_option linter.unusedVariables false
set_option linter.unusedSimpArgs false
def F59 (f_1 : Nat) (w : World) (R : Int → World → Prop) : Prop :=
  if (fcmp .neq f_1 f_1) = true then (
    R (0 : Int) w
  ) else (
    if ((f_1 : Int) == (0 : Int)) = true then (
      R (4 : Int) w
    ) else (
      if ((f_1 : Int) == (9223372036854775808 : Int)) = true then (
        R (3 : Int) w
      ) else (
        cl Tryz.prog 73 [.float .f64 (f_1), .int .i64 ((-1 : Int))] tBool w fun r3 w2 =>
        if r3 = true then (
          R (1 : Int) w2
        ) else (
          cl Tryz.prog 73 [.float .f64 (f_1), .int .i64 ((1 : Int))] tBool w2 fun r5 w4 =>
          if r5 = true then (
            R (6 : Int) w4
          ) else (
            if (fcmp .lss f_1 (0 : Nat)) = true then (
              R (2 : Int) w4
            ) else (
              R (5 : Int) w4
            )
          )
        )
      )
    )
  )
theorem F59_ok {f_1 : Nat} {w : World} {R : Int → World → Prop} (h : F59 f_1 w R) : cl Tryz.prog 59 [.float .f64 (f_1)] (tInt .i64) w R := by
  unfold F59 at h
  refine calls_start 25 Tryz.func59 rfl rfl (Nat.le_of_ble_eq_true rfl) ?_
  refine wp_seq ?_
  refine wp_text [0] rfl ?_
  refine rv 2 rfl rfl rfl (q_assign (v := .int .i64 ((0 : Int))) rfl rfl) ?_
  refine ro_nil ?_
  refine wp_seq ?_
  refine wp_text [0, 1, 2] rfl ?_
  refine rv 4 rfl rfl rfl (q_move (v := .float .f64 (f_1)) rfl rfl) ?_
  refine rv 5 rfl rfl rfl (q_f64bits (b := f_1) rfl ext72 rfl) ?_
  refine rv 3 rfl rfl rfl (q_assign (v := .int .u64 ((f_1 : Int))) rfl rfl) ?_
  refine ro_nil ?_
  refine wp_seq ?_
  refine wp_block ?_
  refine wp_seq ?_
  refine wp_text [0, 1, 2, 3] rfl ?_
  refine rv 7 rfl rfl rfl (q_move (v := .float .f64 (f_1)) rfl rfl) ?_
  refine rv 8 rfl rfl rfl (q_move (v := .float .f64 (f_1)) rfl rfl) ?_
  refine rv 9 rfl rfl rfl (q_fcmp (op := .neq) (a := f_1) (b := f_1) rfl (by decide) rfl rfl) ?_
  refine rv 6 rfl rfl rfl (q_assign (v := .bool ((fcmp .neq f_1 f_1))) rfl rfl) ?_
  refine ro_nil ?_
  refine wp_if (b := (fcmp .neq f_1 f_1)) rfl h (fun hb11 h => ?_) (fun hb11 h => ?_)
  · refine wp_seq ?_
    refine wp_text [0] rfl ?_
    refine rv 2 rfl rfl rfl (q_assign (v := .int .i64 ((0 : Int))) rfl rfl) ?_
    refine ro_nil ?_
    refine wp_ret ?_
    exact ret_ok rfl (.cons (.tmp (v := .int .i64 ((0 : Int))) rfl) .nil) ⟨(0 : Int), rfl, h⟩
  · refine wp_seq ?_
    refine wp_text [0, 1, 2] rfl ?_
    refine rv 11 rfl rfl rfl (q_move (v := .int .u64 ((f_1 : Int))) rfl rfl) ?_
    refine rv 12 rfl rfl rfl (q_eql (a := (f_1 : Int)) (b := (0 : Int)) rfl rfl rfl) ?_
    refine rv 10 rfl rfl rfl (q_assign (v := .bool (((f_1 : Int) == (0 : Int)))) rfl rfl) ?_
    refine ro_nil ?_
    refine wp_if (b := ((f_1 : Int) == (0 : Int))) rfl h (fun hb10 h => ?_) (fun hb10 h => ?_)
    · refine wp_seq ?_
      refine wp_text [0] rfl ?_
      refine rv 2 rfl rfl rfl (q_assign (v := .int .i64 ((4 : Int))) rfl rfl) ?_
      refine ro_nil ?_
      refine wp_ret ?_
      exact ret_ok rfl (.cons (.tmp (v := .int .i64 ((4 : Int))) rfl) .nil) ⟨(4 : Int), rfl, h⟩
    · refine wp_seq ?_
      refine wp_text [0, 1, 2] rfl ?_
      refine rv 14 rfl rfl rfl (q_move (v := .int .u64 ((f_1 : Int))) rfl rfl) ?_
      refine rv 15 rfl rfl rfl (q_eql (a := (f_1 : Int)) (b := (9223372036854775808 : Int)) rfl rfl rfl) ?_
      refine rv 13 rfl rfl rfl (q_assign (v := .bool (((f_1 : Int) == (9223372036854775808 : Int)))) rfl rfl) ?_
      refine ro_nil ?_
      refine wp_if (b := ((f_1 : Int) == (9223372036854775808 : Int))) rfl h (fun hb9 h => ?_) (fun hb9 h => ?_)
      · refine wp_seq ?_
        refine wp_text [0] rfl ?_
        refine rv 2 rfl rfl rfl (q_assign (v := .int .i64 ((3 : Int))) rfl rfl) ?_
        refine ro_nil ?_
        refine wp_ret ?_
        exact ret_ok rfl (.cons (.tmp (v := .int .i64 ((3 : Int))) rfl) .nil) ⟨(3 : Int), rfl, h⟩
      · refine wp_seq ?_
        refine wp_text [0, 1, 2] rfl ?_
        refine rv 17 rfl rfl rfl (q_move (v := .float .f64 (f_1)) rfl rfl) ?_
        refine ro_wp rfl (.free rfl) (wp_cl (d := (some 18)) rfl (q_call (k := 73) (l := [.float .f64 (f_1), .int .i64 ((-1 : Int))]) rfl ent73 rfl) h ?_)
        intro r3 w2 h
        refine rv 16 rfl rfl rfl (q_assign (v := .bool (r3)) rfl rfl) ?_
        refine ro_nil ?_
        refine wp_if (b := r3) rfl h (fun hb8 h => ?_) (fun hb8 h => ?_)
        · refine wp_seq ?_
          refine wp_text [0] rfl ?_
          refine rv 2 rfl rfl rfl (q_assign (v := .int .i64 ((1 : Int))) rfl rfl) ?_
          refine ro_nil ?_
          refine wp_ret ?_
          exact ret_ok rfl (.cons (.tmp (v := .int .i64 ((1 : Int))) rfl) .nil) ⟨(1 : Int), rfl, h⟩
        · refine wp_seq ?_
          refine wp_text [0, 1, 2] rfl ?_
          refine rv 20 rfl rfl rfl (q_move (v := .float .f64 (f_1)) rfl rfl) ?_
          refine ro_wp rfl (.free rfl) (wp_cl (d := (some 21)) rfl (q_call (k := 73) (l := [.float .f64 (f_1), .int .i64 ((1 : Int))]) rfl ent73 rfl) h ?_)
          intro r5 w4 h
          refine rv 19 rfl rfl rfl (q_assign (v := .bool (r5)) rfl rfl) ?_
          refine ro_nil ?_
          refine wp_if (b := r5) rfl h (fun hb7 h => ?_) (fun hb7 h => ?_)
          · refine wp_seq ?_
            refine wp_text [0] rfl ?_
            refine rv 2 rfl rfl rfl (q_assign (v := .int .i64 ((6 : Int))) rfl rfl) ?_
            refine ro_nil ?_
            refine wp_ret ?_
            exact ret_ok rfl (.cons (.tmp (v := .int .i64 ((6 : Int))) rfl) .nil) ⟨(6 : Int), rfl, h⟩
          · refine wp_seq ?_
            refine wp_text [0, 1, 2] rfl ?_
            refine rv 23 rfl rfl rfl (q_move (v := .float .f64 (f_1)) rfl rfl) ?_
            refine rv 24 rfl rfl rfl (q_fcmp (op := .lss) (a := f_1) (b := (0 : Nat)) rfl (by decide) rfl rfl) ?_
            refine rv 22 rfl rfl rfl (q_assign (v := .bool ((fcmp .lss f_1 (0 : Nat)))) rfl rfl) ?_
            refine ro_nil ?_
            refine wp_if (b := (fcmp .lss f_1 (0 : Nat))) rfl h (fun hb6 h => ?_) (fun hb6 h => ?_)
            · refine wp_seq ?_
              refine wp_text [0] rfl ?_
              refine rv 2 rfl rfl rfl (q_assign (v := .int .i64 ((2 : Int))) rfl rfl) ?_
              refine ro_nil ?_
              refine wp_ret ?_
              exact ret_ok rfl (.cons (.tmp (v := .int .i64 ((2 : Int))) rfl) .nil) ⟨(2 : Int), rfl, h⟩
            · refine wp_skip ?_
              refine wp_seq ?_
              refine wp_text [0] rfl ?_
              refine rv 2 rfl rfl rfl (q_assign (v := .int .i64 ((5 : Int))) rfl rfl) ?_
              refine ro_nil ?_
              refine wp_ret ?_
              exact ret_ok rfl (.cons (.tmp (v := .int .i64 ((5 : Int))) rfl) .nil) ⟨(5 : Int), rfl, h⟩
def F60 (a_1 : Nat) (b_2 : Nat) (w : World) (R : Int → World → Prop) : Prop :=
  cl Tryz.prog 74 [.float .f64 (a_1)] (tInt .u64) w fun r4 w3 =>
  cl Tryz.prog 74 [.float .f64 (b_2)] (tInt .u64) w3 fun r6 w5 =>
  if (decide (r4 < r6)) = true then (
    R (-1 : Int) w5
  ) else (
    if (decide (r4 > r6)) = true then (
      R (1 : Int) w5
    ) else (
      R (0 : Int) w5
    )
  )
theorem F60_ok {a_1 : Nat} {b_2 : Nat} {w : World} {R : Int → World → Prop} (h : F60 a_1 b_2 w R) : cl Tryz.prog 60 [.float .f64 (a_1), .float .f64 (b_2)] (tInt .i64) w R := by
  unfold F60 at h
  refine calls_start 19 Tryz.func60 rfl rfl (Nat.le_of_ble_eq_true rfl) ?_
  refine wp_seq ?_
  refine wp_text [0] rfl ?_
  refine rv 4 rfl rfl rfl (q_assign (v := .int .i64 ((0 : Int))) rfl rfl) ?_
  refine ro_nil ?_
  refine wp_seq ?_
  refine wp_text [0, 1, 2, 3, 4, 5] rfl ?_
  refine rv 7 rfl rfl rfl (q_move (v := .float .f64 (a_1)) rfl rfl) ?_
  refine ro_wp rfl (.free rfl) (wp_cl (d := (some 8)) rfl (q_call (k := 74) (l := [.float .f64 (a_1)]) rfl ent74 rfl) h ?_)
  intro r4 w3 h
  refine rv 9 rfl rfl rfl (q_move (v := .float .f64 (b_2)) rfl rfl) ?_
  refine ro_wp rfl (.free rfl) (wp_cl (d := (some 10)) rfl (q_call (k := 74) (l := [.float .f64 (b_2)]) rfl ent74 rfl) h ?_)
  intro r6 w5 h
  refine rv 5 rfl rfl rfl (q_assign (v := .int .u64 (r4)) rfl rfl) ?_
  refine rv 6 rfl rfl rfl (q_assign (v := .int .u64 (r6)) rfl rfl) ?_
  refine ro_nil ?_
  refine wp_seq ?_
  refine wp_block ?_
  refine wp_seq ?_
  refine wp_text [0, 1, 2, 3] rfl ?_
  refine rv 12 rfl rfl rfl (q_move (v := .int .u64 (r4)) rfl rfl) ?_
  refine rv 13 rfl rfl rfl (q_move (v := .int .u64 (r6)) rfl rfl) ?_
  refine rv 14 rfl rfl rfl (q_lss (a := r4) (b := r6) rfl rfl rfl) ?_
  refine rv 11 rfl rfl rfl (q_assign (v := .bool ((decide (r4 < r6)))) rfl rfl) ?_
  refine ro_nil ?_
  refine wp_if (b := (decide (r4 < r6))) rfl h (fun hb8 h => ?_) (fun hb8 h => ?_)
  · refine wp_seq ?_
    refine wp_text [0] rfl ?_
    refine rv 4 rfl rfl rfl (q_assign (v := .int .i64 ((-1 : Int))) rfl rfl) ?_
    refine ro_nil ?_
    refine wp_ret ?_
    exact ret_ok rfl (.cons (.tmp (v := .int .i64 ((-1 : Int))) rfl) .nil) ⟨(-1 : Int), rfl, h⟩
  · refine wp_seq ?_
    refine wp_text [0, 1, 2, 3] rfl ?_
    refine rv 16 rfl rfl rfl (q_move (v := .int .u64 (r4)) rfl rfl) ?_
    refine rv 17 rfl rfl rfl (q_move (v := .int .u64 (r6)) rfl rfl) ?_
    refine rv 18 rfl rfl rfl (q_gtr (a := r4) (b := r6) rfl rfl rfl) ?_
    refine rv 15 rfl rfl rfl (q_assign (v := .bool ((decide (r4 > r6)))) rfl rfl) ?_
    refine ro_nil ?_
    refine wp_if (b := (decide (r4 > r6))) rfl h (fun hb7 h => ?_) (fun hb7 h => ?_)
    · refine wp_seq ?_
      refine wp_text [0] rfl ?_
      refine rv 4 rfl rfl rfl (q_assign (v := .int .i64 ((1 : Int))) rfl rfl) ?_
      refine ro_nil ?_
      refine wp_ret ?_
      exact ret_ok rfl (.cons (.tmp (v := .int .i64 ((1 : Int))) rfl) .nil) ⟨(1 : Int), rfl, h⟩
    · refine wp_skip ?_
      refine wp_seq ?_
      refine wp_text [0] rfl ?_
      refine rv 4 rfl rfl rfl (q_assign (v := .int .i64 ((0 : Int))) rfl rfl) ?_
      refine ro_nil ?_
      refine wp_ret ?_
      exact ret_ok rfl (.cons (.tmp (v := .int .i64 ((0 : Int))) rfl) .nil) ⟨(0 : Int), rfl, h⟩
def F61 (c_1 : (Option Addr)) (w : World) (R : (S86 × Bool) → World → Prop) : Prop :=
  nw 87 T86 Z86 w fun a2 w3 =>
  ex (NC c_1) fun a4 =>
  ex (RdAt tSlc (a4.add 0) w3) fun x5 =>
  if ((x5.len : Int) == (0 : Int)) = true then (
    st T86 a2 (⟨(0 : Int), (0 : Int)⟩ : S86) w3 fun w6 =>
    ex (RdAt T86 a2 w6) fun x7 =>
    R (x7, false) w6
  ) else (
    dr w3 fun w8 =>
    ex (RdAt tSlc (a4.add 0) w8) fun x9 =>
    ex (RdAt tSlc (a4.add 0) w8) fun x10 =>
    ex (IxA x9 2 (IntKind.i64.wrap ((x10.len : Int) - (1 : Int)))) fun a11 =>
    ex (RdAt T86 a11 w8) fun x12 =>
    st T86 a2 x12 w8 fun w13 =>
    ex (RdAt T86 a2 w13) fun x14 =>
    R (x14, true) w13
  )
theorem F61_ok {c_1 : (Option Addr)} {w : World} {R : (S86 × Bool) → World → Prop} (h : F61 c_1 w R) : cl Tryz.prog 61 [.pointer (c_1)] (tTup2 T86 tBool) w R := by
  unfold F61 at h
  refine calls_start 23 Tryz.func61 rfl rfl (Nat.le_of_ble_eq_true rfl) ?_
  refine wp_seq ?_
  refine wp_text [0, 1] rfl ?_
  obtain ⟨a2, w3, ha2, hw3, h⟩ := nw_open h
  refine rv 2 rfl rfl rfl (q_alloc (u := Z86) rfl ok87 inf87 ha2 hw3) ?_
  refine rv 3 rfl rfl rfl (q_assign (v := .bool (false)) rfl rfl) ?_
  refine ro_nil ?_
  refine wp_seq ?_
  refine wp_seq ?_
  refine wp_text [0, 1, 2, 3, 4, 5] rfl ?_
  refine rv 4 rfl rfl rfl (q_move (v := .pointer (c_1)) rfl rfl) ?_
  obtain ⟨a4, ha4, h⟩ := h
  refine rv 5 rfl rfl rfl (q_nilCheck (a := a4) rfl (congrArg Value.pointer ha4)) ?_
  refine rv 6 rfl rfl rfl (q_fieldAddr (a := a4) (off := 0) rfl Tryz.underlying112 rfl rfl ok110 (by decide) rfl) ?_
  obtain ⟨x5, hx5, h⟩ := h
  refine rv 7 rfl rfl rfl (q_load (T := tSlc) (u := x5) (a := (a4.add 0)) rfl ok110 rfl hx5) ?_
  refine rv 8 rfl rfl rfl (q_len (s := x5) rfl Tryz.underlying110 rfl) ?_
  refine rv 9 rfl rfl rfl (q_eql (a := (x5.len : Int)) (b := (0 : Int)) rfl rfl rfl) ?_
  refine ro_nil ?_
  refine wp_if (b := ((x5.len : Int) == (0 : Int))) rfl h (fun hb15 h => ?_) (fun hb15 h => ?_)
  · refine wp_seq ?_
    refine wp_text [0, 1, 2] rfl ?_
    refine rv 10 rfl rfl rfl (q_build87_  rfl ) ?_
    obtain ⟨w6, hw6, hrw6, h⟩ := st_open h
    refine ro_skip (d := none) rfl (.free rfl) rfl (q_store (T := T86) (u := (⟨(0 : Int), (0 : Int)⟩ : S86)) (a := a2) rfl ok87 rfl rfl hrw6 hw6) ?_
    refine rv 3 rfl rfl rfl (q_assign (v := .bool (false)) rfl rfl) ?_
    refine ro_nil ?_
    refine wp_ret ?_
    obtain ⟨x7, hx7, h⟩ := h
    exact ret_ok rfl (.cons (.cell (T := T86) (u := x7) (a := a2) ok87 rfl hx7) (.cons (.tmp (v := .bool (false)) rfl) .nil)) ⟨(x7, false), rfl, h⟩
  · refine wp_skip ?_
    refine wp_seq ?_
    obtain ⟨w8, hw8, h⟩ := dr_open h
    refine wp_drawn 14 mixed rfl (by kernel_rfl) (by intro c a d v w h; cases d <;> exact h) hw8 (fun hD => ?_)
    refine rp 0 11 hD rfl rfl rfl (fun _ => q_move (v := .pointer (c_1)) rfl rfl) ?_
    refine rp 1 12 hD rfl rfl rfl (fun _ => q_nilCheck (a := a4) rfl (congrArg Value.pointer ha4)) ?_
    refine rp 2 13 hD rfl rfl rfl (fun _ => q_fieldAddr (a := a4) (off := 0) rfl Tryz.underlying112 rfl rfl ok110 (by decide) rfl) ?_
    refine rp 4 15 hD rfl rfl rfl (fun _ => q_move (v := .pointer (c_1)) rfl rfl) ?_
    refine rp 5 16 hD rfl rfl rfl (fun _ => q_nilCheck (a := a4) rfl (congrArg Value.pointer ha4)) ?_
    refine rp 6 17 hD rfl rfl rfl (fun _ => q_fieldAddr (a := a4) (off := 0) rfl Tryz.underlying112 rfl rfl ok110 (by decide) rfl) ?_
    obtain ⟨x9, hx9, h⟩ := h
    refine rd_read (i := 3) (d := (some 14)) (fun W => (RdAt tSlc (a4.add 0) W) x9) hD (by kernel_rfl) (by kernel_rfl) rfl (.free rfl) rfl (fun W hr => q_load (T := tSlc) (u := x9) (a := (a4.add 0)) rfl ok110 rfl hr) hx9 ?_
    obtain ⟨x10, hx10, h⟩ := h
    refine rd_read (i := 7) (d := (some 18)) (fun W => (RdAt tSlc (a4.add 0) W) x10) hD (by kernel_rfl) (by kernel_rfl) rfl (.free rfl) rfl (fun W hr => q_load (T := tSlc) (u := x10) (a := (a4.add 0)) rfl ok110 rfl hr) hx10 ?_
    refine rp 8 19 hD rfl rfl rfl (fun _ => q_len (s := x10) rfl Tryz.underlying110 rfl) ?_
    refine rp 9 20 hD rfl rfl rfl (fun _ => q_sub (a := (x10.len : Int)) (b := (1 : Int)) rfl rfl rfl) ?_
    obtain ⟨a11, ha11, h⟩ := h
    refine rp 10 21 hD rfl rfl rfl (fun _ => q_indexAddr (s := x9) (k := .i64) (i := (IntKind.i64.wrap ((x10.len : Int) - (1 : Int)))) rfl Tryz.underlying110 ok87 rfl rfl ha11) ?_
    obtain ⟨x12, hx12, h⟩ := h
    refine rd_read (i := 11) (d := (some 22)) (fun W => (RdAt T86 a11 W) x12) hD (by kernel_rfl) (by kernel_rfl) rfl (.free rfl) rfl (fun W hr => q_load (T := T86) (u := x12) (a := a11) rfl ok87 rfl hr) hx12 ?_
    refine rd_one (i := 12) (by kernel_rfl) ?_
    obtain ⟨w13, hw13, hrw13, h⟩ := st_open h
    refine po_skip (d := none) rfl (.free rfl) rfl (q_store (T := T86) (u := x12) (a := a2) rfl ok87 rfl rfl hrw13 hw13) ⟨(hk_wait (by kernel_rfl) (hk_wait (by kernel_rfl) (hk_wait (by kernel_rfl) hk_nil))), ?_⟩
    refine rp 13 3 hD rfl rfl rfl (fun _ => q_assign (v := .bool (true)) rfl rfl) ?_
    refine rd_nil (by kernel_rfl) ?_
    refine wp_ret ?_
    obtain ⟨x14, hx14, h⟩ := h
    exact ret_ok rfl (.cons (.cell (T := T86) (u := x14) (a := a2) ok87 rfl hx14) (.cons (.tmp (v := .bool (true)) rfl) .nil)) ⟨(x14, true), rfl, h⟩
def F62 (key_1 : Int) (w : World) (R : Bool → World → Prop) : Prop :=
  R ((decide (key_1 ≥ (0 : Int))) && (decide (key_1 < (8192 : Int)))) w
theorem F62_ok {key_1 : Int} {w : World} {R : Bool → World → Prop} (h : F62 key_1 w R) : cl Tryz.prog 62 [.int .i64 (key_1)] tBool w R := by
  unfold F62 at h
  refine calls_start 9 Tryz.func62 rfl rfl (Nat.le_of_ble_eq_true rfl) ?_
  refine wp_seq ?_
  refine wp_text [0] rfl ?_
  refine rv 2 rfl rfl rfl (q_assign (v := .bool (false)) rfl rfl) ?_
  refine ro_nil ?_
  refine wp_seq ?_
  refine wp_text [0, 1, 2, 3, 4, 5, 6] rfl ?_
  refine rv 3 rfl rfl rfl (q_move (v := .int .i64 (key_1)) rfl rfl) ?_
  refine rv 4 rfl rfl rfl (q_geq (a := key_1) (b := (0 : Int)) rfl rfl rfl) ?_
  refine rv 5 rfl rfl rfl (q_move (v := .bool ((decide (key_1 ≥ (0 : Int))))) rfl rfl) ?_
  refine ro_gval (g := (decide (key_1 ≥ (0 : Int)))) (d := (some 6)) rfl (.yes 2 5 true (decide (key_1 ≥ (0 : Int))) rfl rfl rfl rfl) rfl (fun hg => q_move (v := .int .i64 (key_1)) rfl rfl) ?_
  refine ro_gval (g := (decide (key_1 ≥ (0 : Int)))) (d := (some 7)) rfl (.yes 2 5 true (decide (key_1 ≥ (0 : Int))) rfl rfl rfl rfl) rfl (fun hg => q_lss (k := .i64) (a := key_1) (b := (8192 : Int)) rfl (gvb_yes hg) rfl) ?_
  refine rv 8 rfl rfl rfl (q_pickGT (a := (decide (key_1 ≥ (0 : Int)))) (b := (decide (key_1 < (8192 : Int)))) rfl rfl rfl rfl) ?_
  refine rv 2 rfl rfl rfl (q_assign (v := .bool (((decide (key_1 ≥ (0 : Int))) && (decide (key_1 < (8192 : Int)))))) rfl rfl) ?_
  refine ro_nil ?_
  refine wp_ret ?_
  exact ret_ok rfl (.cons (.tmp (v := .bool (((decide (key_1 ≥ (0 : Int))) && (decide (key_1 < (8192 : Int)))))) rfl) .nil) ⟨((decide (key_1 ≥ (0 : Int))) && (decide (key_1 < (8192 : Int)))), rfl, h⟩
def F63 (c_1 : (Option Addr)) (mark_2 : Int) (w : World) (R : Int → World → Prop) : Prop :=
  if ((decide (mark_2 < (0 : Int))) || (decide (mark_2 > (1125899906842624 : Int)))) = true then (
    R (110 : Int) w
  ) else (
    ex (NC c_1) fun a3 =>
    ex (RdAt (tInt .i64) (a3.add 1) w) fun x4 =>
    st (tInt .i64) (a3.add 1) (max x4 mark_2) w fun w5 =>
    ex (RdAt (tInt .i64) (a3.add 1) w5) fun x6 =>
    cl Tryz.prog 65 [.pointer (c_1), .int .i64 (x6)] (tInt .i64) w5 fun r8 w7 =>
    ex (RdAt tSlc (a3.add 0) w7) fun x9 =>
    mkS 87 T86 16 Z86 (IntKind.i64.wrap ((x9.len : Int) - (max (IntKind.i64.wrap (r8 - (1 : Int))) (0 : Int)))) (IntKind.i64.wrap ((x9.len : Int) - (max (IntKind.i64.wrap (r8 - (1 : Int))) (0 : Int)))) w7 fun r11 w10 =>
    ex (RdAt tSlc (a3.add 0) w10) fun x12 =>
    ex (Sub x12 2 (max (IntKind.i64.wrap (r8 - (1 : Int))) (0 : Int)) ((x12).len : Int) ((x12).cap : Int)) fun s13 =>
    cpy T86 2 r11 s13 w10 fun r15 w14 =>
    ex (Sub r11 2 0 (r11.len : Int) (r11.len : Int)) fun s16 =>
    st tSlc (a3.add 0) s16 w14 fun w17 =>
    R (0 : Int) w17
  )
theorem F63_ok {c_1 : (Option Addr)} {mark_2 : Int} {w : World} {R : Int → World → Prop} (h : F63 c_1 mark_2 w R) : cl Tryz.prog 63 [.pointer (c_1), .int .i64 (mark_2)] (tInt .i64) w R := by
  unfold F63 at h
  refine calls_start 55 Tryz.func63 rfl rfl (Nat.le_of_ble_eq_true rfl) ?_
  refine wp_seq ?_
  refine wp_text [0] rfl ?_
  refine rv 4 rfl rfl rfl (q_assign (v := .int .i64 ((0 : Int))) rfl rfl) ?_
  refine ro_nil ?_
  refine wp_seq ?_
  refine wp_seq ?_
  refine wp_text [0, 1, 2, 3, 4, 5] rfl ?_
  refine rv 7 rfl rfl rfl (q_move (v := .int .i64 (mark_2)) rfl rfl) ?_
  refine rv 8 rfl rfl rfl (q_lss (a := mark_2) (b := (0 : Int)) rfl rfl rfl) ?_
  refine rv 9 rfl rfl rfl (q_move (v := .bool ((decide (mark_2 < (0 : Int))))) rfl rfl) ?_
  refine ro_gval (g := (!(decide (mark_2 < (0 : Int))))) (d := (some 10)) rfl (.no 2 9 true (decide (mark_2 < (0 : Int))) rfl rfl rfl rfl) rfl (fun hg => q_move (v := .int .i64 (mark_2)) rfl rfl) ?_
  refine ro_gval (g := (!(decide (mark_2 < (0 : Int))))) (d := (some 11)) rfl (.no 2 9 true (decide (mark_2 < (0 : Int))) rfl rfl rfl rfl) rfl (fun hg => q_gtr (k := .i64) (a := mark_2) (b := (1125899906842624 : Int)) rfl (gvb_yes hg) rfl) ?_
  refine rv 12 rfl rfl rfl (q_pickGF (a := (decide (mark_2 < (0 : Int)))) (c := (decide (mark_2 > (1125899906842624 : Int)))) rfl rfl rfl rfl) ?_
  refine ro_nil ?_
  refine wp_if (b := ((decide (mark_2 < (0 : Int))) || (decide (mark_2 > (1125899906842624 : Int))))) rfl h (fun hb18 h => ?_) (fun hb18 h => ?_)
  · refine wp_seq ?_
    refine wp_text [0] rfl ?_
    refine rv 4 rfl rfl rfl (q_assign (v := .int .i64 ((110 : Int))) rfl rfl) ?_
    refine ro_nil ?_
    refine wp_ret ?_
    exact ret_ok rfl (.cons (.tmp (v := .int .i64 ((110 : Int))) rfl) .nil) ⟨(110 : Int), rfl, h⟩
  · refine wp_skip ?_
    refine wp_seq ?_
    refine wp_text [0, 1, 2, 3, 4, 5, 6, 7, 8, 9] rfl ?_
    refine rv 13 rfl rfl rfl (q_move (v := .pointer (c_1)) rfl rfl) ?_
    refine rv 14 rfl rfl rfl (q_move (v := .pointer (c_1)) rfl rfl) ?_
    obtain ⟨a3, ha3, h⟩ := h
    refine rv 15 rfl rfl rfl (q_nilCheck (a := a3) rfl (congrArg Value.pointer ha3)) ?_
    refine rv 16 rfl rfl rfl (q_fieldAddr (a := a3) (off := 1) rfl Tryz.underlying112 rfl rfl ok2 (by decide) rfl) ?_
    obtain ⟨x4, hx4, h⟩ := h
    refine rv 17 rfl rfl rfl (q_load (T := (tInt .i64)) (u := x4) (a := (a3.add 1)) rfl ok2 rfl hx4) ?_
    refine rv 18 rfl rfl rfl (q_move (v := .int .i64 (mark_2)) rfl rfl) ?_
    refine rv 19 rfl rfl rfl (q_max (a := x4) (b := mark_2) rfl rfl rfl) ?_
    refine rv 20 rfl rfl rfl (q_nilCheck (a := a3) rfl (congrArg Value.pointer ha3)) ?_
    refine rv 21 rfl rfl rfl (q_fieldAddr (a := a3) (off := 1) rfl Tryz.underlying112 rfl rfl ok2 (by decide) rfl) ?_
    obtain ⟨w5, hw5, hrw5, h⟩ := st_open h
    refine ro_skip (d := none) rfl (.free rfl) rfl (q_store (T := (tInt .i64)) (u := (max x4 mark_2)) (a := (a3.add 1)) rfl ok2 rfl rfl hrw5 hw5) ?_
    refine ro_nil ?_
    refine wp_seq ?_
    refine wp_text [0, 1, 2, 3, 4, 5, 6, 7, 8] rfl ?_
    refine rv 22 rfl rfl rfl (q_move (v := .pointer (c_1)) rfl rfl) ?_
    refine rv 23 rfl rfl rfl (q_move (v := .pointer (c_1)) rfl rfl) ?_
    refine rv 24 rfl rfl rfl (q_nilCheck (a := a3) rfl (congrArg Value.pointer ha3)) ?_
    refine rv 25 rfl rfl rfl (q_fieldAddr (a := a3) (off := 1) rfl Tryz.underlying112 rfl rfl ok2 (by decide) rfl) ?_
    obtain ⟨x6, hx6, h⟩ := h
    refine rv 26 rfl rfl rfl (q_load (T := (tInt .i64)) (u := x6) (a := (a3.add 1)) rfl ok2 rfl hx6) ?_
    refine ro_wp rfl (.free rfl) (wp_cl (d := (some 27)) rfl (q_call (k := 65) (l := [.pointer (c_1), .int .i64 (x6)]) rfl ent65 rfl) h ?_)
    intro r8 w7 h
    refine rv 28 rfl rfl rfl (q_sub (a := r8) (b := (1 : Int)) rfl rfl rfl) ?_
    refine rv 29 rfl rfl rfl (q_max (a := (IntKind.i64.wrap (r8 - (1 : Int)))) (b := (0 : Int)) rfl rfl rfl) ?_
    refine rv 5 rfl rfl rfl (q_assign (v := .int .i64 ((max (IntKind.i64.wrap (r8 - (1 : Int))) (0 : Int)))) rfl rfl) ?_
    refine ro_nil ?_
    refine wp_seq ?_
    refine wp_text [0, 1, 2, 3, 4, 5, 6, 7, 8] rfl ?_
    refine rv 30 rfl rfl rfl (q_move (v := .pointer (c_1)) rfl rfl) ?_
    refine rv 31 rfl rfl rfl (q_nilCheck (a := a3) rfl (congrArg Value.pointer ha3)) ?_
    refine rv 32 rfl rfl rfl (q_fieldAddr (a := a3) (off := 0) rfl Tryz.underlying112 rfl rfl ok110 (by decide) rfl) ?_
    obtain ⟨x9, hx9, h⟩ := h
    refine rv 33 rfl rfl rfl (q_load (T := tSlc) (u := x9) (a := (a3.add 0)) rfl ok110 rfl hx9) ?_
    refine rv 34 rfl rfl rfl (q_len (s := x9) rfl Tryz.underlying110 rfl) ?_
    refine rv 35 rfl rfl rfl (q_move (v := .int .i64 ((max (IntKind.i64.wrap (r8 - (1 : Int))) (0 : Int)))) rfl rfl) ?_
    refine rv 36 rfl rfl rfl (q_sub (a := (x9.len : Int)) (b := (max (IntKind.i64.wrap (r8 - (1 : Int))) (0 : Int))) rfl rfl rfl) ?_
    refine ro_wp rfl (.free rfl) (wp_mkS (T := T86) (z := Z86) (l := (IntKind.i64.wrap ((x9.len : Int) - (max (IntKind.i64.wrap (r8 - (1 : Int))) (0 : Int))))) (c := (IntKind.i64.wrap ((x9.len : Int) - (max (IntKind.i64.wrap (r8 - (1 : Int))) (0 : Int))))) (d := (some 37)) rfl rfl Tryz.underlying110 ok87 inf87 rfl rfl h ?_)
    intro r11 w10 h
    refine rv 6 rfl rfl rfl (q_assign (v := tSlc.enc (r11)) rfl rfl) ?_
    refine ro_nil ?_
    refine wp_seq ?_
    refine wp_text [0, 1, 2, 3, 4, 5, 6, 7] rfl ?_
    refine rv 38 rfl rfl rfl (q_move (v := tSlc.enc (r11)) rfl rfl) ?_
    refine rv 39 rfl rfl rfl (q_move (v := .pointer (c_1)) rfl rfl) ?_
    refine rv 40 rfl rfl rfl (q_nilCheck (a := a3) rfl (congrArg Value.pointer ha3)) ?_
    refine rv 41 rfl rfl rfl (q_fieldAddr (a := a3) (off := 0) rfl Tryz.underlying112 rfl rfl ok110 (by decide) rfl) ?_
    obtain ⟨x12, hx12, h⟩ := h
    refine rv 42 rfl rfl rfl (q_load (T := tSlc) (u := x12) (a := (a3.add 0)) rfl ok110 rfl hx12) ?_
    refine rv 43 rfl rfl rfl (q_move (v := .int .i64 ((max (IntKind.i64.wrap (r8 - (1 : Int))) (0 : Int)))) rfl rfl) ?_
    obtain ⟨s13, hs13, h⟩ := h
    refine rv 44 rfl rfl rfl (q_sliceL (s := x12) (l := (max (IntKind.i64.wrap (r8 - (1 : Int))) (0 : Int))) rfl Tryz.underlying110 ok87 rfl rfl hs13) ?_
    refine ro_wp rfl (.free rfl) (wp_cpy (T := T86) (s := r11) (b := s13) (d := (some 45)) rfl rfl Tryz.underlying110 ok87 rfl rfl h ?_)
    intro r15 w14 h
    refine ro_nil ?_
    refine wp_seq ?_
    refine wp_text [0, 1, 2, 3, 4, 5, 6, 7, 8, 9] rfl ?_
    refine rv 46 rfl rfl rfl (q_move (v := .pointer (c_1)) rfl rfl) ?_
    refine rv 47 rfl rfl rfl (q_move (v := tSlc.enc (r11)) rfl rfl) ?_
    refine rv 48 rfl rfl rfl (q_move (v := tSlc.enc (r11)) rfl rfl) ?_
    refine rv 49 rfl rfl rfl (q_len (s := r11) rfl Tryz.underlying110 rfl) ?_
    refine rv 50 rfl rfl rfl (q_move (v := tSlc.enc (r11)) rfl rfl) ?_
    refine rv 51 rfl rfl rfl (q_len (s := r11) rfl Tryz.underlying110 rfl) ?_
    obtain ⟨s16, hs16, h⟩ := h
    refine rv 52 rfl rfl rfl (q_sliceHM (s := r11) (h := (r11.len : Int)) (m := (r11.len : Int)) rfl Tryz.underlying110 ok87 rfl rfl rfl hs16) ?_
    refine rv 53 rfl rfl rfl (q_nilCheck (a := a3) rfl (congrArg Value.pointer ha3)) ?_
    refine rv 54 rfl rfl rfl (q_fieldAddr (a := a3) (off := 0) rfl Tryz.underlying112 rfl rfl ok110 (by decide) rfl) ?_
    obtain ⟨w17, hw17, hrw17, h⟩ := st_open h
    refine ro_skip (d := none) rfl (.free rfl) rfl (q_store (T := tSlc) (u := s16) (a := (a3.add 0)) rfl ok110 rfl rfl hrw17 hw17) ?_
    refine ro_nil ?_
    refine wp_seq ?_
    refine wp_text [0] rfl ?_
    refine rv 4 rfl rfl rfl (q_assign (v := .int .i64 ((0 : Int))) rfl rfl) ?_
    refine ro_nil ?_
    refine wp_ret ?_
    exact ret_ok rfl (.cons (.tmp (v := .int .i64 ((0 : Int))) rfl) .nil) ⟨(0 : Int), rfl, h⟩
def F65 (c_1 : (Option Addr)) (at_2 : Int) (w : World) (R : Int → World → Prop) : Prop :=
  nw 97 tPtr c_1 w fun a3 w4 =>
  nw 2 (tInt .i64) at_2 w4 fun a5 w6 =>
  ex (RdAt tPtr a3 w6) fun x7 =>
  ex (NC x7) fun a8 =>
  ex (RdAt tSlc (a8.add 0) w6) fun x9 =>
  cl Tryz.prog 75 [.int .i64 ((x9.len : Int)), ((Fv.mk (.func 76) (List.toArray []) (List.toArray [.pointer (some a3), .pointer (some a5)]))).enc] (tInt .i64) w6 fun r11 w10 =>
  R r11 w10
theorem F65_ok {c_1 : (Option Addr)} {at_2 : Int} {w : World} {R : Int → World → Prop} (h : F65 c_1 at_2 w R) : cl Tryz.prog 65 [.pointer (c_1), .int .i64 (at_2)] (tInt .i64) w R := by
  unfold F65 at h
  refine calls_start 12 Tryz.func65 rfl rfl (Nat.le_of_ble_eq_true rfl) ?_
  refine wp_seq ?_
  refine wp_text [0, 1, 2] rfl ?_
  obtain ⟨a3, w4, ha3, hw4, h⟩ := nw_open h
  refine rv 2 rfl rfl rfl (q_box (u := c_1) rfl ok97 rfl ha3 hw4) ?_
  obtain ⟨a5, w6, ha5, hw6, h⟩ := nw_open h
  refine rv 3 rfl rfl rfl (q_box (u := at_2) rfl ok2 rfl ha5 hw6) ?_
  refine rv 4 rfl rfl rfl (q_assign (v := .int .i64 ((0 : Int))) rfl rfl) ?_
  refine ro_nil ?_
  refine wp_seq ?_
  refine wp_text [0, 1, 2, 3, 4, 5, 6, 7] rfl ?_
  obtain ⟨x7, hx7, h⟩ := h
  refine rv 5 rfl rfl rfl (q_load (T := tPtr) (u := x7) (a := a3) rfl ok97 rfl hx7) ?_
  obtain ⟨a8, ha8, h⟩ := h
  refine rv 6 rfl rfl rfl (q_nilCheck (a := a8) rfl (congrArg Value.pointer ha8)) ?_
  refine rv 7 rfl rfl rfl (q_fieldAddr (a := a8) (off := 0) rfl Tryz.underlying112 rfl rfl ok110 (by decide) rfl) ?_
  obtain ⟨x9, hx9, h⟩ := h
  refine rv 8 rfl rfl rfl (q_load (T := tSlc) (u := x9) (a := (a8.add 0)) rfl ok110 rfl hx9) ?_
  refine rv 9 rfl rfl rfl (q_len (s := x9) rfl Tryz.underlying110 rfl) ?_
  refine rv 10 rfl rfl rfl (q_makeFunc (fn := .func 76) (va := []) (vc := [.pointer (some a3), .pointer (some a5)]) rfl rfl rfl) ?_
  refine ro_wp rfl (.free rfl) (wp_cl (d := (some 11)) rfl (q_call (k := 75) (l := [.int .i64 ((x9.len : Int)), ((Fv.mk (.func 76) (List.toArray []) (List.toArray [.pointer (some a3), .pointer (some a5)]))).enc]) rfl ent75 rfl) h ?_)
  intro r11 w10 h
  refine rv 4 rfl rfl rfl (q_assign (v := .int .i64 (r11)) rfl rfl) ?_
  refine ro_nil ?_
  refine wp_ret ?_
  exact ret_ok rfl (.cons (.tmp (v := .int .i64 (r11)) rfl) .nil) ⟨r11, rfl, h⟩
def F66_j1 (t_6 : Bool) (w7 : World) (R : Bool → World → Prop) : Prop :=
  R t_6 w7
def F66 (s_1 : (Option Addr)) (key_2 : Int) (w : World) (R : Bool → World → Prop) : Prop :=
  ex (NC s_1) fun a3 =>
  ex (RdAt tMap (a3.add 0) w) fun x4 =>
  ex (MapGet tPtr .i64 x4 key_2 w) fun m5 =>
  if ((m5.getD (none : Option Addr), m5.isSome)).2 = true then (
    cl Tryz.prog 77 [.pointer (((m5.getD (none : Option Addr), m5.isSome)).1)] tSlc w fun r10 w9 =>
    F66_j1 (decide ((r10.len : Int) ≥ (10000 : Int))) w9 R
  ) else (
    F66_j1 false w R
  )
theorem F66_ok {s_1 : (Option Addr)} {key_2 : Int} {w : World} {R : Bool → World → Prop} (h : F66 s_1 key_2 w R) : cl Tryz.prog 66 [.pointer (s_1), .int .i64 (key_2)] tBool w R := by
  unfold F66 at h
  refine calls_start 23 Tryz.func66 rfl rfl (Nat.le_of_ble_eq_true rfl) ?_
  refine wp_seq ?_
  refine wp_text [0] rfl ?_
  refine rv 4 rfl rfl rfl (q_assign (v := .bool (false)) rfl rfl) ?_
  refine ro_nil ?_
  refine wp_seq ?_
  refine wp_text [0, 1, 2, 3, 4, 5, 6, 7, 8, 9, 10] rfl ?_
  refine rv 8 rfl rfl rfl (q_move (v := .pointer (s_1)) rfl rfl) ?_
  obtain ⟨a3, ha3, h⟩ := h
  refine rv 9 rfl rfl rfl (q_nilCheck (a := a3) rfl (congrArg Value.pointer ha3)) ?_
  refine rv 10 rfl rfl rfl (q_fieldAddr (a := a3) (off := 0) rfl Tryz.underlying95 rfl rfl ok93 (by decide) rfl) ?_
  obtain ⟨x4, hx4, h⟩ := h
  refine rv 11 rfl rfl rfl (q_load (T := tMap) (u := x4) (a := (a3.add 0)) rfl ok93 rfl hx4) ?_
  refine rv 12 rfl rfl rfl (q_move (v := .int .i64 (key_2)) rfl rfl) ?_
  obtain ⟨m5, hm5, h⟩ := h
  refine rv 13 rfl rfl rfl (q_lookup2 (T := tPtr) (r := x4) (key := key_2) (u := m5) (z := (none : Option Addr)) rfl Tryz.underlying93 Tryz.underlying3 (inf97) rfl rfl hm5) ?_
  refine rv 7 rfl rfl rfl (q_move (v := (tTup2 tPtr tBool).enc (((m5.getD (none : Option Addr), m5.isSome)))) rfl rfl) ?_
  refine rv 14 rfl rfl rfl (q_extract (vs := #[.pointer (((m5.getD (none : Option Addr), m5.isSome)).1), .bool (((m5.getD (none : Option Addr), m5.isSome)).2)]) (v := .pointer (((m5.getD (none : Option Addr), m5.isSome)).1)) rfl rfl rfl) ?_
  refine rv 15 rfl rfl rfl (q_extract (vs := #[.pointer (((m5.getD (none : Option Addr), m5.isSome)).1), .bool (((m5.getD (none : Option Addr), m5.isSome)).2)]) (v := .bool (((m5.getD (none : Option Addr), m5.isSome)).2)) rfl rfl rfl) ?_
  refine rv 5 rfl rfl rfl (q_assign (v := .pointer (((m5.getD (none : Option Addr), m5.isSome)).1)) rfl rfl) ?_
  refine rv 6 rfl rfl rfl (q_assign (v := .bool (((m5.getD (none : Option Addr), m5.isSome)).2)) rfl rfl) ?_
  refine ro_nil ?_
  refine wp_seq ?_
  refine wp_text [0, 1, 2, 3, 4, 5, 6, 7] rfl ?_
  refine rv 16 rfl rfl rfl (q_move (v := .bool (((m5.getD (none : Option Addr), m5.isSome)).2)) rfl rfl) ?_
  refine rv 17 rfl rfl rfl (q_move (v := .bool (((m5.getD (none : Option Addr), m5.isSome)).2)) rfl rfl) ?_
  refine ro_join (σ := Bool) (J := fun (s : Bool) w => F66_j1 s w R) (fr := fun g (s : Bool) => upd (g) 22 (.bool (s))) [2, 3, 4, 5, 6] [7] ?_ ?_
  · rintro t_6 g w7 h
    unfold F66_j1 at h
    refine rv 4 rfl rfl rfl (q_assign (v := .bool (t_6)) rfl rfl) ?_
    refine ro_nil ?_
    refine wp_ret ?_
    exact ret_ok rfl (.cons (.tmp (v := .bool (t_6)) rfl) .nil) ⟨t_6, rfl, h⟩
  · refine ro_if (b := ((m5.getD (none : Option Addr), m5.isSome)).2) h (fun hb8 h => ?_) (fun hb8 h => ?_)
    · refine ro_val (d := (some 18)) rfl (.by_ 1 true 17 (((m5.getD (none : Option Addr), m5.isSome)).2) rfl rfl rfl hb8) rfl (q_move (v := .pointer (((m5.getD (none : Option Addr), m5.isSome)).1)) rfl rfl) ?_
      refine ro_wp rfl (.by_ 1 true 17 (((m5.getD (none : Option Addr), m5.isSome)).2) rfl rfl rfl hb8) (wp_cl (d := (some 19)) rfl (q_call (k := 77) (l := [.pointer (((m5.getD (none : Option Addr), m5.isSome)).1)]) rfl ent77 rfl) h ?_)
      intro r10 w9 h
      refine ro_val (d := (some 20)) rfl (.by_ 1 true 17 (((m5.getD (none : Option Addr), m5.isSome)).2) rfl rfl rfl hb8) rfl (q_len (s := r10) rfl Tryz.underlying110 rfl) ?_
      refine ro_val (d := (some 21)) rfl (.by_ 1 true 17 (((m5.getD (none : Option Addr), m5.isSome)).2) rfl rfl rfl hb8) rfl (q_geq (a := (r10.len : Int)) (b := (10000 : Int)) rfl rfl rfl) ?_
      refine rv 22 rfl rfl rfl (q_pickT (v := .bool ((decide ((r10.len : Int) ≥ (10000 : Int))))) (b := ((m5.getD (none : Option Addr), m5.isSome)).2) rfl rfl hb8 rfl) ?_
      refine ro_nil ?_
      exact ⟨((decide ((r10.len : Int) ≥ (10000 : Int)))), _, arr (upd_step rfl rfl), h⟩
    · refine ro_bar (d := (some 18)) rfl (.by_ 1 true 17 (((m5.getD (none : Option Addr), m5.isSome)).2) rfl rfl rfl hb8) rfl ?_
      refine ro_bar (d := (some 19)) rfl (.by_ 1 true 17 (((m5.getD (none : Option Addr), m5.isSome)).2) rfl rfl rfl hb8) rfl ?_
      refine ro_bar (d := (some 20)) rfl (.by_ 1 true 17 (((m5.getD (none : Option Addr), m5.isSome)).2) rfl rfl rfl hb8) rfl ?_
      refine ro_bar (d := (some 21)) rfl (.by_ 1 true 17 (((m5.getD (none : Option Addr), m5.isSome)).2) rfl rfl rfl hb8) rfl ?_
      refine rv 22 rfl rfl rfl (q_pickF (v := .bool (false)) (b := ((m5.getD (none : Option Addr), m5.isSome)).2) rfl rfl hb8 rfl) ?_
      refine ro_nil ?_
      exact ⟨(false), _, arr (upd_step rfl rfl), h⟩
def F70_j2 (t_3 : Int) (sum_6 : Int) (w7 : World) (K5 : Int × Int → World → Prop) (R : (Int × Int) → World → Prop) : Prop :=
  K5 (sum_6, (IntKind.i64.wrap (t_3 + (1 : Int)))) w7
def F70_l1 (l_1 : Slc) (sum_2 : Int) (t_3 : Int) (w4 : World) (K5 : Int × Int → World → Prop) (R : (Int × Int) → World → Prop) : Prop :=
  if (decide (t_3 < (l_1.len : Int))) = true then (
    ex (IxA l_1 1 t_3) fun a8 =>
    ex (RdAt (tInt .i64) a8 w4) fun x9 =>
    cl Tryz.prog 44 [.int .i64 (x9)] (tInt .i64) w4 fun r11 w10 =>
    if (r11 != (0 : Int)) = true then (
      R ((0 : Int), (40 : Int)) w10
    ) else (
      if (decide (sum_2 ≤ (1000000000000000 : Int))) = true then (
        F70_j2 t_3 (IntKind.i64.wrap (sum_2 + x9)) w10 K5 R
      ) else (
        F70_j2 t_3 sum_2 w10 K5 R
      )
    )
  ) else (
    cl Tryz.prog 44 [.int .i64 (sum_2)] (tInt .i64) w4 fun r15 w14 =>
    if (r15 != (0 : Int)) = true then (
      R ((0 : Int), (40 : Int)) w14
    ) else (
      R (sum_2, (0 : Int)) w14
    )
  )
def F70 (l_1 : Slc) (w : World) (R : (Int × Int) → World → Prop) : Prop :=
  lp (fun (s : Int × Int) w K => F70_l1 l_1 s.1 s.2 w K R) ((0 : Int), (0 : Int)) w
theorem F70_ok {l_1 : Slc} {w : World} {R : (Int × Int) → World → Prop} (h : F70 l_1 w R) : cl Tryz.prog 70 [tSlc.enc (l_1)] (tTup2 (tInt .i64) (tInt .i64)) w R := by
  unfold F70 at h
  refine calls_start 26 Tryz.func70 rfl rfl (Nat.le_of_ble_eq_true rfl) ?_
  refine wp_seq ?_
  refine wp_text [0, 1] rfl ?_
  refine rv 2 rfl rfl rfl (q_assign (v := .int .i64 ((0 : Int))) rfl rfl) ?_
  refine rv 3 rfl rfl rfl (q_assign (v := .int .i64 ((0 : Int))) rfl rfl) ?_
  refine ro_nil ?_
  refine wp_seq ?_
  refine wp_text [0] rfl ?_
  refine rv 4 rfl rfl rfl (q_assign (v := .int .i64 ((0 : Int))) rfl rfl) ?_
  refine ro_nil ?_
  refine wp_seq ?_
  refine wp_seq ?_
  refine wp_text [0, 1, 2] rfl ?_
  refine rv 7 rfl rfl rfl (q_move (v := tSlc.enc (l_1)) rfl rfl) ?_
  refine rv 8 rfl rfl rfl (q_len (s := l_1) rfl Tryz.underlying138 rfl) ?_
  refine rv 9 rfl rfl rfl (q_move (v := .int .i64 ((0 : Int))) rfl rfl) ?_
  refine ro_nil ?_
  refine wp_block ?_
  refine loop_at (σ := Int × Int) (fr := fun g (s : Int × Int) => upd (upd (upd (upd (g) 7 (tSlc.enc (l_1))) 8 (.int .i64 ((l_1.len : Int)))) 4 (.int .i64 (s.1))) 9 (.int .i64 (s.2))) (s0 := ((0 : Int), (0 : Int))) (upd_step (upd_step (upd_step (upd_step rfl rfl) rfl) rfl) rfl) h ?_
  rintro ⟨sum_2, t_3⟩ g w4 K5 h
  unfold F70_l1 at h
  refine wp_seq ?_
  refine wp_text [0] rfl ?_
  refine rv 10 rfl rfl rfl (q_lss (a := t_3) (b := (l_1.len : Int)) rfl rfl rfl) ?_
  refine ro_nil ?_
  refine wp_seq ?_
  refine wp_if (b := (decide (t_3 < (l_1.len : Int)))) rfl h (fun hb17 h => ?_) (fun hb17 h => ?_)
  · refine wp_skip ?_
    refine seq_join (σ := Int) (J := fun (s : Int) w => F70_j2 t_3 s w K5 R) (fr := fun g (s : Int) => upd (upd (upd (upd (g) 7 (tSlc.enc (l_1))) 8 (.int .i64 ((l_1.len : Int)))) 9 (.int .i64 (t_3))) 4 (.int .i64 (s))) ?_ ?_
    · rintro sum_6 g w7 h
      unfold F70_j2 at h
      refine wp_text [0, 1] rfl ?_
      refine rv 21 rfl rfl rfl (q_add (a := t_3) (b := (1 : Int)) rfl rfl rfl) ?_
      refine rv 9 rfl rfl rfl (q_move (v := .int .i64 ((IntKind.i64.wrap (t_3 + (1 : Int))))) rfl rfl) ?_
      refine ro_nil ?_
      exact ⟨(sum_6, (IntKind.i64.wrap (t_3 + (1 : Int)))), _, arr (upd_step (upd_step (upd_step (upd_step rfl rfl) rfl) rfl) rfl), h⟩
    · refine wp_block ?_
      refine wp_seq ?_
      refine wp_text [0, 1, 2] rfl ?_
      obtain ⟨a8, ha8, h⟩ := h
      refine rv 11 rfl rfl rfl (q_indexAddr (s := l_1) (k := .i64) (i := t_3) rfl Tryz.underlying138 ok2 rfl rfl ha8) ?_
      obtain ⟨x9, hx9, h⟩ := h
      refine rv 12 rfl rfl rfl (q_load (T := (tInt .i64)) (u := x9) (a := a8) rfl ok2 rfl hx9) ?_
      refine rv 6 rfl rfl rfl (q_assign (v := .int .i64 (x9)) rfl rfl) ?_
      refine ro_nil ?_
      refine wp_seq ?_
      refine wp_seq ?_
      refine wp_text [0, 1, 2] rfl ?_
      refine rv 13 rfl rfl rfl (q_move (v := .int .i64 (x9)) rfl rfl) ?_
      refine ro_wp rfl (.free rfl) (wp_cl (d := (some 14)) rfl (q_call (k := 44) (l := [.int .i64 (x9)]) rfl ent44 rfl) h ?_)
      intro r11 w10 h
      refine rv 15 rfl rfl rfl (q_neq (a := r11) (b := (0 : Int)) rfl rfl rfl) ?_
      refine ro_nil ?_
      refine wp_if (b := (r11 != (0 : Int))) rfl h (fun hb13 h => ?_) (fun hb13 h => ?_)
      · refine wp_seq ?_
        refine wp_text [0, 1] rfl ?_
        refine rv 2 rfl rfl rfl (q_assign (v := .int .i64 ((0 : Int))) rfl rfl) ?_
        refine rv 3 rfl rfl rfl (q_assign (v := .int .i64 ((40 : Int))) rfl rfl) ?_
        refine ro_nil ?_
        refine wp_ret ?_
        exact ret_ok rfl (.cons (.tmp (v := .int .i64 ((0 : Int))) rfl) (.cons (.tmp (v := .int .i64 ((40 : Int))) rfl) .nil)) ⟨((0 : Int), (40 : Int)), rfl, h⟩
      · refine wp_skip ?_
        refine wp_seq ?_
        refine wp_text [0, 1] rfl ?_
        refine rv 16 rfl rfl rfl (q_move (v := .int .i64 (sum_2)) rfl rfl) ?_
        refine rv 17 rfl rfl rfl (q_leq (a := sum_2) (b := (1000000000000000 : Int)) rfl rfl rfl) ?_
        refine ro_nil ?_
        refine wp_if (b := (decide (sum_2 ≤ (1000000000000000 : Int)))) rfl h (fun hb12 h => ?_) (fun hb12 h => ?_)
        · refine wp_text [0, 1, 2, 3] rfl ?_
          refine rv 18 rfl rfl rfl (q_move (v := .int .i64 (sum_2)) rfl rfl) ?_
          refine rv 19 rfl rfl rfl (q_move (v := .int .i64 (x9)) rfl rfl) ?_
          refine rv 20 rfl rfl rfl (q_add (a := sum_2) (b := x9) rfl rfl rfl) ?_
          refine rv 4 rfl rfl rfl (q_assign (v := .int .i64 ((IntKind.i64.wrap (sum_2 + x9)))) rfl rfl) ?_
          refine ro_nil ?_
          exact ⟨((IntKind.i64.wrap (sum_2 + x9))), _, arr (upd_step (upd_step (upd_step (upd_step rfl rfl) rfl) rfl) rfl), h⟩
        · refine wp_skip ?_
          exact ⟨(sum_2), _, arr (upd_step (upd_step (upd_step (upd_step rfl rfl) rfl) rfl) rfl), h⟩
  · refine wp_exit ?_
    refine wp_seq ?_
    refine wp_seq ?_
    refine wp_text [0, 1, 2] rfl ?_
    refine rv 22 rfl rfl rfl (q_move (v := .int .i64 (sum_2)) rfl rfl) ?_
    refine ro_wp rfl (.free rfl) (wp_cl (d := (some 23)) rfl (q_call (k := 44) (l := [.int .i64 (sum_2)]) rfl ent44 rfl) h ?_)
    intro r15 w14 h
    refine rv 24 rfl rfl rfl (q_neq (a := r15) (b := (0 : Int)) rfl rfl rfl) ?_
    refine ro_nil ?_
    refine wp_if (b := (r15 != (0 : Int))) rfl h (fun hb16 h => ?_) (fun hb16 h => ?_)
    · refine wp_seq ?_
      refine wp_text [0, 1] rfl ?_
      refine rv 2 rfl rfl rfl (q_assign (v := .int .i64 ((0 : Int))) rfl rfl) ?_
      refine rv 3 rfl rfl rfl (q_assign (v := .int .i64 ((40 : Int))) rfl rfl) ?_
      refine ro_nil ?_
      refine wp_ret ?_
      exact ret_ok rfl (.cons (.tmp (v := .int .i64 ((0 : Int))) rfl) (.cons (.tmp (v := .int .i64 ((40 : Int))) rfl) .nil)) ⟨((0 : Int), (40 : Int)), rfl, h⟩
    · refine wp_skip ?_
      refine wp_seq ?_
      refine wp_text [0, 1, 2] rfl ?_
      refine rv 25 rfl rfl rfl (q_move (v := .int .i64 (sum_2)) rfl rfl) ?_
      refine rv 2 rfl rfl rfl (q_assign (v := .int .i64 (sum_2)) rfl rfl) ?_
      refine rv 3 rfl rfl rfl (q_assign (v := .int .i64 ((0 : Int))) rfl rfl) ?_
      refine ro_nil ?_
      refine wp_ret ?_
      exact ret_ok rfl (.cons (.tmp (v := .int .i64 (sum_2)) rfl) (.cons (.tmp (v := .int .i64 ((0 : Int))) rfl) .nil)) ⟨(sum_2, (0 : Int)), rfl, h⟩
end Go.Proofs.YtpdaapffkdejoaaGreat.Cf
namespace Go.Proofs.YtpdaapffkdejoaaGreat.Cf
open Go
set_option maxRecDepth 100000
set_option maxHeartbeats 1000000
set_option linter.unusedVariables false
set_option linter.unusedSimpArgs false
def F71_j2 (n_1 : Int) (r9 : (Nat × Int)) (d12 : Int) (r18 : (Int × Int)) (t_19 : Bool) (w20 : World) (R : (Int × Int) → World → Prop) : Prop :=
  if t_19 = true then (
    R ((0 : Int), (11 : Int)) w20
  ) else (
    ex (Shift (IntKind.u64.wrap (IntKind.i64.wrap (r9.2 - (53 : Int)))) (IntKind.u64.wrap (r18.2 * 2 ^ (min ((IntKind.u64.wrap (IntKind.i64.wrap (r9.2 - (53 : Int))))).toNat IntKind.u64.bits)))) fun d21 =>
    cl Tryz.prog 93 [.bool ((!((decide (n_1 < (0 : Int))) == (decide (d12 < (0 : Int)))))), .int .u64 (d21)] (tTup2 (tInt .i64) (tInt .i64)) w20 fun r23 w22 =>
    R (r23.1, r23.2) w22
  )
def F71_j3 (n_1 : Int) (d12 : Int) (q_30 : Int) (w31 : World) (R : (Int × Int) → World → Prop) : Prop :=
  cl Tryz.prog 93 [.bool ((!((decide (n_1 < (0 : Int))) == (decide (d12 < (0 : Int)))))), .int .u64 (q_30)] (tTup2 (tInt .i64) (tInt .i64)) w31 fun r33 w32 =>
  R (r33.1, r33.2) w32
def F71_j1 (n_1 : Int) (f_2 : Nat) (t_5 : Bool) (w6 : World) (R : (Int × Int) → World → Prop) : Prop :=
  if t_5 = true then (
    if (n_1 == (0 : Int)) = true then (
      R ((0 : Int), (10 : Int)) w6
    ) else (
      R ((0 : Int), (11 : Int)) w6
    )
  ) else (
    cl Tryz.prog 89 [.float .f64 (f_2)] (tTup2 tFlt (tInt .i64)) w6 fun r9 w8 =>
    cl Tryz.prog 90 [.float .f64 (r9.1), .int .i64 ((53 : Int))] tFlt w8 fun r11 w10 =>
    ex (F2I .i64 r11) fun d12 =>
    cl Tryz.prog 92 [.int .i64 (n_1)] (tInt .u64) w10 fun r14 w13 =>
    cl Tryz.prog 92 [.int .i64 (d12)] (tInt .u64) w13 fun r16 w15 =>
    cl Tryz.prog 91 [.int .u64 (r14), .int .u64 (r16)] (tTup2 (tInt .u64) (tInt .u64)) w15 fun r18 w17 =>
    if ((r18.1 == (0 : Int)) && (r18.2 == (0 : Int))) = true then (
      R ((0 : Int), (0 : Int)) w17
    ) else (
      if (decide ((IntKind.i64.wrap (r9.2 - (53 : Int))) ≥ (0 : Int))) = true then (
        if ((r18.1 != (0 : Int)) || (decide ((IntKind.i64.wrap (r9.2 - (53 : Int))) ≥ (64 : Int)))) = true then (
          F71_j2 n_1 r9 d12 r18 true w17 R
        ) else (
          cl Tryz.prog 88 [.int .u64 (r18.2)] (tInt .i64) w17 fun r27 w26 =>
          F71_j2 n_1 r9 d12 r18 (decide ((IntKind.i64.wrap (r27 + (IntKind.i64.wrap (r9.2 - (53 : Int))))) > (64 : Int))) w26 R
        )
      ) else (
        cl Tryz.prog 94 [.int .u64 (r18.1), .int .u64 (r18.2), .int .u64 ((IntKind.u64.wrap (IntKind.i64.wrap (0 - (IntKind.i64.wrap (r9.2 - (53 : Int)))))))] (tTup3 (tInt .u64) tBool tBool) w17 fun r29 w28 =>
        if ((!r29.2.2) || (((!((decide (n_1 < (0 : Int))) == (decide (d12 < (0 : Int))))) && r29.2.1) && (decide (r29.1 ≥ (9223372036854775808 : Int))))) = true then (
          R ((0 : Int), (11 : Int)) w28
        ) else (
          if ((!((decide (n_1 < (0 : Int))) == (decide (d12 < (0 : Int))))) && r29.2.1) = true then (
            F71_j3 n_1 d12 (IntKind.u64.wrap (r29.1 + (1 : Int))) w28 R
          ) else (
            F71_j3 n_1 d12 r29.1 w28 R
          )
        )
      )
    )
  )
def F71 (n_1 : Int) (f_2 : Nat) (w : World) (R : (Int × Int) → World → Prop) : Prop :=
  cl Tryz.prog 59 [.float .f64 (f_2)] (tInt .i64) w fun r4 w3 =>
  if (r4 == (0 : Int)) = true then (
    R ((0 : Int), (10 : Int)) w3
  ) else (
    if (r4 == (1 : Int)) = true then (
      F71_j1 n_1 f_2 (r4 == (1 : Int)) w3 R
    ) else (
      F71_j1 n_1 f_2 (r4 == (6 : Int)) w3 R
    )
  )
theorem F71_ok {n_1 : Int} {f_2 : Nat} {w : World} {R : (Int × Int) → World → Prop} (h : F71 n_1 f_2 w R) : cl Tryz.prog 71 [.int .i64 (n_1), .float .f64 (f_2)] (tTup2 (tInt .i64) (tInt .i64)) w R := by
  unfold F71 at h
  refine calls_start 110 Tryz.func71 rfl rfl (Nat.le_of_ble_eq_true rfl) ?_
  refine wp_seq ?_
  refine wp_text [0, 1] rfl ?_
  refine rv 4 rfl rfl rfl (q_assign (v := .int .i64 ((0 : Int))) rfl rfl) ?_
  refine rv 5 rfl rfl rfl (q_assign (v := .int .i64 ((0 : Int))) rfl rfl) ?_
  refine ro_nil ?_
  refine wp_seq ?_
  refine wp_seq ?_
  refine wp_text [0, 1] rfl ?_
  refine rv 16 rfl rfl rfl (q_move (v := .float .f64 (f_2)) rfl rfl) ?_
  refine ro_wp rfl (.free rfl) (wp_cl (d := (some 17)) rfl (q_call (k := 59) (l := [.float .f64 (f_2)]) rfl ent59 rfl) h ?_)
  intro r4 w3 h
  refine ro_nil ?_
  refine wp_block ?_
  refine wp_seq ?_
  refine wp_text [0, 1] rfl ?_
  refine rv 19 rfl rfl rfl (q_eql (a := r4) (b := (0 : Int)) rfl rfl rfl) ?_
  refine rv 18 rfl rfl rfl (q_assign (v := .bool ((r4 == (0 : Int)))) rfl rfl) ?_
  refine ro_nil ?_
  refine wp_if (b := (r4 == (0 : Int))) rfl h (fun hb40 h => ?_) (fun hb40 h => ?_)
  · refine wp_seq ?_
    refine wp_text [0, 1] rfl ?_
    refine rv 4 rfl rfl rfl (q_assign (v := .int .i64 ((0 : Int))) rfl rfl) ?_
    refine rv 5 rfl rfl rfl (q_assign (v := .int .i64 ((10 : Int))) rfl rfl) ?_
    refine ro_nil ?_
    refine wp_ret ?_
    exact ret_ok rfl (.cons (.tmp (v := .int .i64 ((0 : Int))) rfl) (.cons (.tmp (v := .int .i64 ((10 : Int))) rfl) .nil)) ⟨((0 : Int), (10 : Int)), rfl, h⟩
  · refine seq_join (σ := Bool) (J := fun (s : Bool) w => F71_j1 n_1 f_2 s w R) (fr := fun g (s : Bool) => upd (upd (upd (g) 0 (.int .i64 (n_1))) 1 (.float .f64 (f_2))) 20 (.bool (s))) ?_ ?_
    · rintro t_5 g w6 h
      unfold F71_j1 at h
      refine wp_if (b := t_5) rfl h (fun hb38 h => ?_) (fun hb38 h => ?_)
      · refine wp_seq ?_
        refine wp_seq ?_
        refine wp_text [0, 1] rfl ?_
        refine rv 23 rfl rfl rfl (q_move (v := .int .i64 (n_1)) rfl rfl) ?_
        refine rv 24 rfl rfl rfl (q_eql (a := n_1) (b := (0 : Int)) rfl rfl rfl) ?_
        refine ro_nil ?_
        refine wp_if (b := (n_1 == (0 : Int))) rfl h (fun hb7 h => ?_) (fun hb7 h => ?_)
        · refine wp_seq ?_
          refine wp_text [0, 1] rfl ?_
          refine rv 4 rfl rfl rfl (q_assign (v := .int .i64 ((0 : Int))) rfl rfl) ?_
          refine rv 5 rfl rfl rfl (q_assign (v := .int .i64 ((10 : Int))) rfl rfl) ?_
          refine ro_nil ?_
          refine wp_ret ?_
          exact ret_ok rfl (.cons (.tmp (v := .int .i64 ((0 : Int))) rfl) (.cons (.tmp (v := .int .i64 ((10 : Int))) rfl) .nil)) ⟨((0 : Int), (10 : Int)), rfl, h⟩
        · refine wp_skip ?_
          refine wp_seq ?_
          refine wp_text [0, 1] rfl ?_
          refine rv 4 rfl rfl rfl (q_assign (v := .int .i64 ((0 : Int))) rfl rfl) ?_
          refine rv 5 rfl rfl rfl (q_assign (v := .int .i64 ((11 : Int))) rfl rfl) ?_
          refine ro_nil ?_
          refine wp_ret ?_
          exact ret_ok rfl (.cons (.tmp (v := .int .i64 ((0 : Int))) rfl) (.cons (.tmp (v := .int .i64 ((11 : Int))) rfl) .nil)) ⟨((0 : Int), (11 : Int)), rfl, h⟩
      · refine wp_skip ?_
        refine wp_seq ?_
        refine wp_text [0, 1, 2, 3, 4, 5, 6] rfl ?_
        refine rv 26 rfl rfl rfl (q_move (v := .float .f64 (f_2)) rfl rfl) ?_
        refine ro_wp rfl (.free rfl) (wp_cl (d := (some 27)) rfl (q_call (k := 89) (l := [.float .f64 (f_2)]) rfl ent89 rfl) h ?_)
        intro r9 w8 h
        refine rv 25 rfl rfl rfl (q_move (v := (tTup2 tFlt (tInt .i64)).enc (r9)) rfl rfl) ?_
        refine rv 28 rfl rfl rfl (q_extract (vs := #[.float .f64 (r9.1), .int .i64 (r9.2)]) (v := .float .f64 (r9.1)) rfl rfl rfl) ?_
        refine rv 29 rfl rfl rfl (q_extract (vs := #[.float .f64 (r9.1), .int .i64 (r9.2)]) (v := .int .i64 (r9.2)) rfl rfl rfl) ?_
        refine rv 6 rfl rfl rfl (q_assign (v := .float .f64 (r9.1)) rfl rfl) ?_
        refine rv 7 rfl rfl rfl (q_assign (v := .int .i64 (r9.2)) rfl rfl) ?_
        refine ro_nil ?_
        refine wp_seq ?_
        refine wp_text [0, 1, 2, 3, 4, 5, 6] rfl ?_
        refine rv 30 rfl rfl rfl (q_move (v := .float .f64 (r9.1)) rfl rfl) ?_
        refine ro_wp rfl (.free rfl) (wp_cl (d := (some 31)) rfl (q_call (k := 90) (l := [.float .f64 (r9.1), .int .i64 ((53 : Int))]) rfl ent90 rfl) h ?_)
        intro r11 w10 h
        obtain ⟨d12, hd12, h⟩ := h
        refine rv 32 rfl rfl rfl (q_cvtFI (b := r11) (m := d12) rfl Tryz.underlying22 Tryz.underlying2 rfl hd12) ?_
        refine rv 33 rfl rfl rfl (q_move (v := .int .i64 (r9.2)) rfl rfl) ?_
        refine rv 34 rfl rfl rfl (q_sub (a := r9.2) (b := (53 : Int)) rfl rfl rfl) ?_
        refine rv 8 rfl rfl rfl (q_assign (v := .int .i64 (d12)) rfl rfl) ?_
        refine rv 9 rfl rfl rfl (q_assign (v := .int .i64 ((IntKind.i64.wrap (r9.2 - (53 : Int))))) rfl rfl) ?_
        refine ro_nil ?_
        refine wp_seq ?_
        refine wp_text [0, 1, 2, 3, 4, 5] rfl ?_
        refine rv 35 rfl rfl rfl (q_move (v := .int .i64 (n_1)) rfl rfl) ?_
        refine rv 36 rfl rfl rfl (q_lss (a := n_1) (b := (0 : Int)) rfl rfl rfl) ?_
        refine rv 37 rfl rfl rfl (q_move (v := .int .i64 (d12)) rfl rfl) ?_
        refine rv 38 rfl rfl rfl (q_lss (a := d12) (b := (0 : Int)) rfl rfl rfl) ?_
        refine rv 39 rfl rfl rfl (q_neB (a := (decide (n_1 < (0 : Int)))) (b := (decide (d12 < (0 : Int)))) rfl Tryz.underlying4 rfl rfl) ?_
        refine rv 10 rfl rfl rfl (q_assign (v := .bool ((!((decide (n_1 < (0 : Int))) == (decide (d12 < (0 : Int))))))) rfl rfl) ?_
        refine ro_nil ?_
        refine wp_seq ?_
        refine wp_text [0, 1, 2, 3, 4, 5, 6, 7, 8, 9] rfl ?_
        refine rv 41 rfl rfl rfl (q_move (v := .int .i64 (n_1)) rfl rfl) ?_
        refine ro_wp rfl (.free rfl) (wp_cl (d := (some 42)) rfl (q_call (k := 92) (l := [.int .i64 (n_1)]) rfl ent92 rfl) h ?_)
        intro r14 w13 h
        refine rv 43 rfl rfl rfl (q_move (v := .int .i64 (d12)) rfl rfl) ?_
        refine ro_wp rfl (.free rfl) (wp_cl (d := (some 44)) rfl (q_call (k := 92) (l := [.int .i64 (d12)]) rfl ent92 rfl) h ?_)
        intro r16 w15 h
        refine ro_wp rfl (.free rfl) (wp_cl (d := (some 45)) rfl (q_call (k := 91) (l := [.int .u64 (r14), .int .u64 (r16)]) rfl ent91 rfl) h ?_)
        intro r18 w17 h
        refine rv 40 rfl rfl rfl (q_move (v := (tTup2 (tInt .u64) (tInt .u64)).enc (r18)) rfl rfl) ?_
        refine rv 46 rfl rfl rfl (q_extract (vs := #[.int .u64 (r18.1), .int .u64 (r18.2)]) (v := .int .u64 (r18.1)) rfl rfl rfl) ?_
        refine rv 47 rfl rfl rfl (q_extract (vs := #[.int .u64 (r18.1), .int .u64 (r18.2)]) (v := .int .u64 (r18.2)) rfl rfl rfl) ?_
        refine rv 11 rfl rfl rfl (q_assign (v := .int .u64 (r18.1)) rfl rfl) ?_
        refine rv 12 rfl rfl rfl (q_assign (v := .int .u64 (r18.2)) rfl rfl) ?_
        refine ro_nil ?_
        refine wp_seq ?_
        refine wp_seq ?_
        refine wp_text [0, 1, 2, 3, 4, 5] rfl ?_
        refine rv 48 rfl rfl rfl (q_move (v := .int .u64 (r18.1)) rfl rfl) ?_
        refine rv 49 rfl rfl rfl (q_eql (a := r18.1) (b := (0 : Int)) rfl rfl rfl) ?_
        refine rv 50 rfl rfl rfl (q_move (v := .bool ((r18.1 == (0 : Int)))) rfl rfl) ?_
        refine ro_gval (g := (r18.1 == (0 : Int))) (d := (some 51)) rfl (.yes 2 50 true (r18.1 == (0 : Int)) rfl rfl rfl rfl) rfl (fun hg => q_move (v := .int .u64 (r18.2)) rfl rfl) ?_
        refine ro_gval (g := (r18.1 == (0 : Int))) (d := (some 52)) rfl (.yes 2 50 true (r18.1 == (0 : Int)) rfl rfl rfl rfl) rfl (fun hg => q_eql (k := .u64) (a := r18.2) (b := (0 : Int)) rfl (gvb_yes hg) rfl) ?_
        refine rv 53 rfl rfl rfl (q_pickGT (a := (r18.1 == (0 : Int))) (b := (r18.2 == (0 : Int))) rfl rfl rfl rfl) ?_
        refine ro_nil ?_
        refine wp_if (b := ((r18.1 == (0 : Int)) && (r18.2 == (0 : Int)))) rfl h (fun hb37 h => ?_) (fun hb37 h => ?_)
        · refine wp_seq ?_
          refine wp_text [0, 1] rfl ?_
          refine rv 4 rfl rfl rfl (q_assign (v := .int .i64 ((0 : Int))) rfl rfl) ?_
          refine rv 5 rfl rfl rfl (q_assign (v := .int .i64 ((0 : Int))) rfl rfl) ?_
          refine ro_nil ?_
          refine wp_ret ?_
          exact ret_ok rfl (.cons (.tmp (v := .int .i64 ((0 : Int))) rfl) (.cons (.tmp (v := .int .i64 ((0 : Int))) rfl) .nil)) ⟨((0 : Int), (0 : Int)), rfl, h⟩
        · refine wp_skip ?_
          refine wp_seq ?_
          refine wp_seq ?_
          refine wp_text [0, 1] rfl ?_
          refine rv 54 rfl rfl rfl (q_move (v := .int .i64 ((IntKind.i64.wrap (r9.2 - (53 : Int))))) rfl rfl) ?_
          refine rv 55 rfl rfl rfl (q_geq (a := (IntKind.i64.wrap (r9.2 - (53 : Int)))) (b := (0 : Int)) rfl rfl rfl) ?_
          refine ro_nil ?_
          refine wp_if (b := (decide ((IntKind.i64.wrap (r9.2 - (53 : Int))) ≥ (0 : Int)))) rfl h (fun hb36 h => ?_) (fun hb36 h => ?_)
          · refine wp_seq ?_
            refine wp_seq ?_
            refine wp_text [0, 1, 2, 3, 4, 5, 6, 7, 8, 9, 10, 11, 12] rfl ?_
            refine rv 56 rfl rfl rfl (q_move (v := .int .u64 (r18.1)) rfl rfl) ?_
            refine rv 57 rfl rfl rfl (q_neq (a := r18.1) (b := (0 : Int)) rfl rfl rfl) ?_
            refine rv 58 rfl rfl rfl (q_move (v := .bool ((r18.1 != (0 : Int)))) rfl rfl) ?_
            refine ro_gval (g := (!(r18.1 != (0 : Int)))) (d := (some 59)) rfl (.no 2 58 true (r18.1 != (0 : Int)) rfl rfl rfl rfl) rfl (fun hg => q_move (v := .int .i64 ((IntKind.i64.wrap (r9.2 - (53 : Int))))) rfl rfl) ?_
            refine ro_gval (g := (!(r18.1 != (0 : Int)))) (d := (some 60)) rfl (.no 2 58 true (r18.1 != (0 : Int)) rfl rfl rfl rfl) rfl (fun hg => q_geq (k := .i64) (a := (IntKind.i64.wrap (r9.2 - (53 : Int)))) (b := (64 : Int)) rfl (gvb_yes hg) rfl) ?_
            refine rv 61 rfl rfl rfl (q_pickGF (a := (r18.1 != (0 : Int))) (c := (decide ((IntKind.i64.wrap (r9.2 - (53 : Int))) ≥ (64 : Int)))) rfl rfl rfl rfl) ?_
            refine rv 62 rfl rfl rfl (q_move (v := .bool (((r18.1 != (0 : Int)) || (decide ((IntKind.i64.wrap (r9.2 - (53 : Int))) ≥ (64 : Int)))))) rfl rfl) ?_
            refine ro_join (σ := Bool) (J := fun (s : Bool) w => F71_j2 n_1 r9 d12 r18 s w R) (fr := fun g (s : Bool) => upd (upd (upd (upd (g) 9 (.int .i64 ((IntKind.i64.wrap (r9.2 - (53 : Int)))))) 10 (.bool ((!((decide (n_1 < (0 : Int))) == (decide (d12 < (0 : Int)))))))) 12 (.int .u64 (r18.2))) 68 (.bool (s))) [7, 8, 9, 10, 11, 12] [] ?_ ?_
            · rintro t_19 g w20 h
              unfold F71_j2 at h
              refine ro_nil ?_
              refine wp_if (b := t_19) rfl h (fun hb24 h => ?_) (fun hb24 h => ?_)
              · refine wp_seq ?_
                refine wp_text [0, 1] rfl ?_
                refine rv 4 rfl rfl rfl (q_assign (v := .int .i64 ((0 : Int))) rfl rfl) ?_
                refine rv 5 rfl rfl rfl (q_assign (v := .int .i64 ((11 : Int))) rfl rfl) ?_
                refine ro_nil ?_
                refine wp_ret ?_
                exact ret_ok rfl (.cons (.tmp (v := .int .i64 ((0 : Int))) rfl) (.cons (.tmp (v := .int .i64 ((11 : Int))) rfl) .nil)) ⟨((0 : Int), (11 : Int)), rfl, h⟩
              · refine wp_skip ?_
                refine wp_seq ?_
                refine wp_text [0, 1, 2, 3, 4, 5, 6, 7, 8, 9] rfl ?_
                refine rv 69 rfl rfl rfl (q_move (v := .bool ((!((decide (n_1 < (0 : Int))) == (decide (d12 < (0 : Int))))))) rfl rfl) ?_
                refine rv 70 rfl rfl rfl (q_move (v := .int .u64 (r18.2)) rfl rfl) ?_
                refine rv 71 rfl rfl rfl (q_move (v := .int .i64 ((IntKind.i64.wrap (r9.2 - (53 : Int))))) rfl rfl) ?_
                refine rv 72 rfl rfl rfl (q_cvtI (a := (IntKind.i64.wrap (r9.2 - (53 : Int)))) rfl Tryz.underlying3 Tryz.underlying120 rfl) ?_
                obtain ⟨d21, hd21, h⟩ := h
                refine rv 73 rfl rfl rfl (q_shl (a := r18.2) (b := (IntKind.u64.wrap (IntKind.i64.wrap (r9.2 - (53 : Int))))) (r := d21) rfl rfl rfl hd21) ?_
                refine ro_wp rfl (.free rfl) (wp_cl (d := (some 74)) rfl (q_call (k := 93) (l := [.bool ((!((decide (n_1 < (0 : Int))) == (decide (d12 < (0 : Int)))))), .int .u64 (d21)]) rfl ent93 rfl) h ?_)
                intro r23 w22 h
                refine rv 75 rfl rfl rfl (q_extract (vs := #[.int .i64 (r23.1), .int .i64 (r23.2)]) (v := .int .i64 (r23.1)) rfl rfl rfl) ?_
                refine rv 76 rfl rfl rfl (q_extract (vs := #[.int .i64 (r23.1), .int .i64 (r23.2)]) (v := .int .i64 (r23.2)) rfl rfl rfl) ?_
                refine rv 4 rfl rfl rfl (q_assign (v := .int .i64 (r23.1)) rfl rfl) ?_
                refine rv 5 rfl rfl rfl (q_assign (v := .int .i64 (r23.2)) rfl rfl) ?_
                refine ro_nil ?_
                refine wp_ret ?_
                exact ret_ok rfl (.cons (.tmp (v := .int .i64 (r23.1)) rfl) (.cons (.tmp (v := .int .i64 (r23.2)) rfl) .nil)) ⟨(r23.1, r23.2), rfl, h⟩
            · refine ro_if (b := ((r18.1 != (0 : Int)) || (decide ((IntKind.i64.wrap (r9.2 - (53 : Int))) ≥ (64 : Int))))) h (fun hb25 h => ?_) (fun hb25 h => ?_)
              · refine ro_bar (d := (some 63)) rfl (.by_ 6 false 62 ((r18.1 != (0 : Int)) || (decide ((IntKind.i64.wrap (r9.2 - (53 : Int))) ≥ (64 : Int)))) rfl rfl rfl hb25) rfl ?_
                refine ro_bar (d := (some 64)) rfl (.by_ 6 false 62 ((r18.1 != (0 : Int)) || (decide ((IntKind.i64.wrap (r9.2 - (53 : Int))) ≥ (64 : Int)))) rfl rfl rfl hb25) rfl ?_
                refine ro_bar (d := (some 65)) rfl (.by_ 6 false 62 ((r18.1 != (0 : Int)) || (decide ((IntKind.i64.wrap (r9.2 - (53 : Int))) ≥ (64 : Int)))) rfl rfl rfl hb25) rfl ?_
                refine ro_bar (d := (some 66)) rfl (.by_ 6 false 62 ((r18.1 != (0 : Int)) || (decide ((IntKind.i64.wrap (r9.2 - (53 : Int))) ≥ (64 : Int)))) rfl rfl rfl hb25) rfl ?_
                refine ro_bar (d := (some 67)) rfl (.by_ 6 false 62 ((r18.1 != (0 : Int)) || (decide ((IntKind.i64.wrap (r9.2 - (53 : Int))) ≥ (64 : Int)))) rfl rfl rfl hb25) rfl ?_
                refine rv 68 rfl rfl rfl (q_pickT (v := .bool (true)) (b := ((r18.1 != (0 : Int)) || (decide ((IntKind.i64.wrap (r9.2 - (53 : Int))) ≥ (64 : Int))))) rfl rfl hb25 rfl) ?_
                refine ro_nil ?_
                exact ⟨(true), _, arr (upd_step (upd_step (upd_step (upd_step rfl rfl) rfl) rfl) rfl), h⟩
              · refine ro_val (d := (some 63)) rfl (.by_ 6 false 62 ((r18.1 != (0 : Int)) || (decide ((IntKind.i64.wrap (r9.2 - (53 : Int))) ≥ (64 : Int)))) rfl rfl rfl hb25) rfl (q_move (v := .int .u64 (r18.2)) rfl rfl) ?_
                refine ro_wp rfl (.by_ 6 false 62 ((r18.1 != (0 : Int)) || (decide ((IntKind.i64.wrap (r9.2 - (53 : Int))) ≥ (64 : Int)))) rfl rfl rfl hb25) (wp_cl (d := (some 64)) rfl (q_call (k := 88) (l := [.int .u64 (r18.2)]) rfl ent88 rfl) h ?_)
                intro r27 w26 h
                refine ro_val (d := (some 65)) rfl (.by_ 6 false 62 ((r18.1 != (0 : Int)) || (decide ((IntKind.i64.wrap (r9.2 - (53 : Int))) ≥ (64 : Int)))) rfl rfl rfl hb25) rfl (q_move (v := .int .i64 ((IntKind.i64.wrap (r9.2 - (53 : Int))))) rfl rfl) ?_
                refine ro_val (d := (some 66)) rfl (.by_ 6 false 62 ((r18.1 != (0 : Int)) || (decide ((IntKind.i64.wrap (r9.2 - (53 : Int))) ≥ (64 : Int)))) rfl rfl rfl hb25) rfl (q_add (a := r27) (b := (IntKind.i64.wrap (r9.2 - (53 : Int)))) rfl rfl rfl) ?_
                refine ro_val (d := (some 67)) rfl (.by_ 6 false 62 ((r18.1 != (0 : Int)) || (decide ((IntKind.i64.wrap (r9.2 - (53 : Int))) ≥ (64 : Int)))) rfl rfl rfl hb25) rfl (q_gtr (a := (IntKind.i64.wrap (r27 + (IntKind.i64.wrap (r9.2 - (53 : Int)))))) (b := (64 : Int)) rfl rfl rfl) ?_
                refine rv 68 rfl rfl rfl (q_pickF (v := .bool ((decide ((IntKind.i64.wrap (r27 + (IntKind.i64.wrap (r9.2 - (53 : Int))))) > (64 : Int))))) (b := ((r18.1 != (0 : Int)) || (decide ((IntKind.i64.wrap (r9.2 - (53 : Int))) ≥ (64 : Int))))) rfl rfl hb25 rfl) ?_
                refine ro_nil ?_
                exact ⟨((decide ((IntKind.i64.wrap (r27 + (IntKind.i64.wrap (r9.2 - (53 : Int))))) > (64 : Int)))), _, arr (upd_step (upd_step (upd_step (upd_step rfl rfl) rfl) rfl) rfl), h⟩
          · refine wp_skip ?_
            refine wp_seq ?_
            refine wp_text [0, 1, 2, 3, 4, 5, 6, 7, 8, 9, 10, 11, 12] rfl ?_
            refine rv 78 rfl rfl rfl (q_move (v := .int .u64 (r18.1)) rfl rfl) ?_
            refine rv 79 rfl rfl rfl (q_move (v := .int .u64 (r18.2)) rfl rfl) ?_
            refine rv 80 rfl rfl rfl (q_move (v := .int .i64 ((IntKind.i64.wrap (r9.2 - (53 : Int))))) rfl rfl) ?_
            refine rv 81 rfl rfl rfl (q_neg (a := (IntKind.i64.wrap (r9.2 - (53 : Int)))) rfl rfl) ?_
            refine rv 82 rfl rfl rfl (q_cvtI (a := (IntKind.i64.wrap (0 - (IntKind.i64.wrap (r9.2 - (53 : Int)))))) rfl Tryz.underlying3 Tryz.underlying120 rfl) ?_
            refine ro_wp rfl (.free rfl) (wp_cl (d := (some 83)) rfl (q_call (k := 94) (l := [.int .u64 (r18.1), .int .u64 (r18.2), .int .u64 ((IntKind.u64.wrap (IntKind.i64.wrap (0 - (IntKind.i64.wrap (r9.2 - (53 : Int)))))))]) rfl ent94 rfl) h ?_)
            intro r29 w28 h
            refine rv 77 rfl rfl rfl (q_move (v := (tTup3 (tInt .u64) tBool tBool).enc (r29)) rfl rfl) ?_
            refine rv 84 rfl rfl rfl (q_extract (vs := #[.int .u64 (r29.1), .bool (r29.2.1), .bool (r29.2.2)]) (v := .int .u64 (r29.1)) rfl rfl rfl) ?_
            refine rv 85 rfl rfl rfl (q_extract (vs := #[.int .u64 (r29.1), .bool (r29.2.1), .bool (r29.2.2)]) (v := .bool (r29.2.1)) rfl rfl rfl) ?_
            refine rv 86 rfl rfl rfl (q_extract (vs := #[.int .u64 (r29.1), .bool (r29.2.1), .bool (r29.2.2)]) (v := .bool (r29.2.2)) rfl rfl rfl) ?_
            refine rv 13 rfl rfl rfl (q_assign (v := .int .u64 (r29.1)) rfl rfl) ?_
            refine rv 14 rfl rfl rfl (q_assign (v := .bool (r29.2.1)) rfl rfl) ?_
            refine rv 15 rfl rfl rfl (q_assign (v := .bool (r29.2.2)) rfl rfl) ?_
            refine ro_nil ?_
            refine wp_seq ?_
            refine wp_seq ?_
            refine wp_text [0, 1, 2, 3, 4, 5, 6, 7, 8, 9, 10, 11] rfl ?_
            refine rv 87 rfl rfl rfl (q_move (v := .bool (r29.2.2)) rfl rfl) ?_
            refine rv 88 rfl rfl rfl (q_not (b := r29.2.2) rfl rfl) ?_
            refine rv 89 rfl rfl rfl (q_move (v := .bool ((!r29.2.2))) rfl rfl) ?_
            refine ro_gval (g := (!(!r29.2.2))) (d := (some 90)) rfl (.no 2 89 true (!r29.2.2) rfl rfl rfl rfl) rfl (fun hg => q_move (v := .bool ((!((decide (n_1 < (0 : Int))) == (decide (d12 < (0 : Int))))))) rfl rfl) ?_
            refine ro_gval (g := (!(!r29.2.2))) (d := (some 91)) rfl (.no 2 89 true (!r29.2.2) rfl rfl rfl rfl) rfl (fun hg => q_move (v := .bool ((!((decide (n_1 < (0 : Int))) == (decide (d12 < (0 : Int))))))) rfl (gvb_yes hg)) ?_
            refine ro_gval (g := ((!(!r29.2.2)) && (!((decide (n_1 < (0 : Int))) == (decide (d12 < (0 : Int))))))) (d := (some 92)) rfl (.yes 4 91 (!(!r29.2.2)) (!((decide (n_1 < (0 : Int))) == (decide (d12 < (0 : Int))))) rfl rfl rfl rfl) rfl (fun hg => q_move (v := .bool (r29.2.1)) rfl rfl) ?_
            refine ro_gval (g := (!(!r29.2.2))) (d := (some 93)) rfl (.no 2 89 true (!r29.2.2) rfl rfl rfl rfl) rfl (fun hg => q_pickNT (g0 := (!(!r29.2.2))) (a := (!((decide (n_1 < (0 : Int))) == (decide (d12 < (0 : Int)))))) (b := r29.2.1) hg rfl rfl rfl rfl) ?_
            refine ro_gval (g := (!(!r29.2.2))) (d := (some 94)) rfl (.no 2 89 true (!r29.2.2) rfl rfl rfl rfl) rfl (fun hg => q_move (v := .bool (((!((decide (n_1 < (0 : Int))) == (decide (d12 < (0 : Int))))) && r29.2.1))) rfl (gvb_yes hg)) ?_
            refine ro_gval (g := ((!(!r29.2.2)) && ((!((decide (n_1 < (0 : Int))) == (decide (d12 < (0 : Int))))) && r29.2.1))) (d := (some 95)) rfl (.yes 7 94 (!(!r29.2.2)) ((!((decide (n_1 < (0 : Int))) == (decide (d12 < (0 : Int))))) && r29.2.1) rfl rfl rfl rfl) rfl (fun hg => q_move (v := .int .u64 (r29.1)) rfl rfl) ?_
            refine ro_gval (g := ((!(!r29.2.2)) && ((!((decide (n_1 < (0 : Int))) == (decide (d12 < (0 : Int))))) && r29.2.1))) (d := (some 96)) rfl (.yes 7 94 (!(!r29.2.2)) ((!((decide (n_1 < (0 : Int))) == (decide (d12 < (0 : Int))))) && r29.2.1) rfl rfl rfl rfl) rfl (fun hg => q_geq (k := .u64) (a := r29.1) (b := (9223372036854775808 : Int)) rfl (gvb_yes hg) rfl) ?_
            refine ro_gval (g := (!(!r29.2.2))) (d := (some 97)) rfl (.no 2 89 true (!r29.2.2) rfl rfl rfl rfl) rfl (fun hg => q_pickNT (g0 := (!(!r29.2.2))) (a := ((!((decide (n_1 < (0 : Int))) == (decide (d12 < (0 : Int))))) && r29.2.1)) (b := (decide (r29.1 ≥ (9223372036854775808 : Int)))) hg rfl rfl rfl rfl) ?_
            refine rv 98 rfl rfl rfl (q_pickGF (a := (!r29.2.2)) (c := (((!((decide (n_1 < (0 : Int))) == (decide (d12 < (0 : Int))))) && r29.2.1) && (decide (r29.1 ≥ (9223372036854775808 : Int))))) rfl rfl rfl rfl) ?_
            refine ro_nil ?_
            refine wp_if (b := ((!r29.2.2) || (((!((decide (n_1 < (0 : Int))) == (decide (d12 < (0 : Int))))) && r29.2.1) && (decide (r29.1 ≥ (9223372036854775808 : Int)))))) rfl h (fun hb35 h => ?_) (fun hb35 h => ?_)
            · refine wp_seq ?_
              refine wp_text [0, 1] rfl ?_
              refine rv 4 rfl rfl rfl (q_assign (v := .int .i64 ((0 : Int))) rfl rfl) ?_
              refine rv 5 rfl rfl rfl (q_assign (v := .int .i64 ((11 : Int))) rfl rfl) ?_
              refine ro_nil ?_
              refine wp_ret ?_
              exact ret_ok rfl (.cons (.tmp (v := .int .i64 ((0 : Int))) rfl) (.cons (.tmp (v := .int .i64 ((11 : Int))) rfl) .nil)) ⟨((0 : Int), (11 : Int)), rfl, h⟩
            · refine wp_skip ?_
              refine seq_join (σ := Int) (J := fun (s : Int) w => F71_j3 n_1 d12 s w R) (fr := fun g (s : Int) => upd (upd (g) 10 (.bool ((!((decide (n_1 < (0 : Int))) == (decide (d12 < (0 : Int)))))))) 13 (.int .u64 (s))) ?_ ?_
              · rintro q_30 g w31 h
                unfold F71_j3 at h
                refine wp_seq ?_
                refine wp_text [0, 1, 2, 3, 4, 5, 6] rfl ?_
                refine rv 105 rfl rfl rfl (q_move (v := .bool ((!((decide (n_1 < (0 : Int))) == (decide (d12 < (0 : Int))))))) rfl rfl) ?_
                refine rv 106 rfl rfl rfl (q_move (v := .int .u64 (q_30)) rfl rfl) ?_
                refine ro_wp rfl (.free rfl) (wp_cl (d := (some 107)) rfl (q_call (k := 93) (l := [.bool ((!((decide (n_1 < (0 : Int))) == (decide (d12 < (0 : Int)))))), .int .u64 (q_30)]) rfl ent93 rfl) h ?_)
                intro r33 w32 h
                refine rv 108 rfl rfl rfl (q_extract (vs := #[.int .i64 (r33.1), .int .i64 (r33.2)]) (v := .int .i64 (r33.1)) rfl rfl rfl) ?_
                refine rv 109 rfl rfl rfl (q_extract (vs := #[.int .i64 (r33.1), .int .i64 (r33.2)]) (v := .int .i64 (r33.2)) rfl rfl rfl) ?_
                refine rv 4 rfl rfl rfl (q_assign (v := .int .i64 (r33.1)) rfl rfl) ?_
                refine rv 5 rfl rfl rfl (q_assign (v := .int .i64 (r33.2)) rfl rfl) ?_
                refine ro_nil ?_
                refine wp_ret ?_
                exact ret_ok rfl (.cons (.tmp (v := .int .i64 (r33.1)) rfl) (.cons (.tmp (v := .int .i64 (r33.2)) rfl) .nil)) ⟨(r33.1, r33.2), rfl, h⟩
              · refine wp_seq ?_
                refine wp_text [0, 1, 2, 3] rfl ?_
                refine rv 99 rfl rfl rfl (q_move (v := .bool ((!((decide (n_1 < (0 : Int))) == (decide (d12 < (0 : Int))))))) rfl rfl) ?_
                refine rv 100 rfl rfl rfl (q_move (v := .bool ((!((decide (n_1 < (0 : Int))) == (decide (d12 < (0 : Int))))))) rfl rfl) ?_
                refine ro_gval (g := (!((decide (n_1 < (0 : Int))) == (decide (d12 < (0 : Int)))))) (d := (some 101)) rfl (.yes 1 100 true (!((decide (n_1 < (0 : Int))) == (decide (d12 < (0 : Int))))) rfl rfl rfl rfl) rfl (fun hg => q_move (v := .bool (r29.2.1)) rfl rfl) ?_
                refine rv 102 rfl rfl rfl (q_pickGT (a := (!((decide (n_1 < (0 : Int))) == (decide (d12 < (0 : Int)))))) (b := r29.2.1) rfl rfl rfl rfl) ?_
                refine ro_nil ?_
                refine wp_if (b := ((!((decide (n_1 < (0 : Int))) == (decide (d12 < (0 : Int))))) && r29.2.1)) rfl h (fun hb34 h => ?_) (fun hb34 h => ?_)
                · refine wp_text [0, 1, 2] rfl ?_
                  refine rv 103 rfl rfl rfl (q_move (v := .int .u64 (r29.1)) rfl rfl) ?_
                  refine rv 104 rfl rfl rfl (q_add (a := r29.1) (b := (1 : Int)) rfl rfl rfl) ?_
                  refine rv 13 rfl rfl rfl (q_assign (v := .int .u64 ((IntKind.u64.wrap (r29.1 + (1 : Int))))) rfl rfl) ?_
                  refine ro_nil ?_
                  exact ⟨((IntKind.u64.wrap (r29.1 + (1 : Int)))), _, arr (upd_step (upd_step rfl rfl) rfl), h⟩
                · refine wp_skip ?_
                  exact ⟨(r29.1), _, arr (upd_step (upd_step rfl rfl) rfl), h⟩
    · refine wp_seq ?_
      refine wp_text [0, 1] rfl ?_
      refine rv 21 rfl rfl rfl (q_eql (a := r4) (b := (1 : Int)) rfl rfl rfl) ?_
      refine rv 20 rfl rfl rfl (q_assign (v := .bool ((r4 == (1 : Int)))) rfl rfl) ?_
      refine ro_nil ?_
      refine wp_if (b := (r4 == (1 : Int))) rfl h (fun hb39 h => ?_) (fun hb39 h => ?_)
      · refine wp_skip ?_
        exact ⟨((r4 == (1 : Int))), _, arr (upd_step (upd_step (upd_step rfl rfl) rfl) rfl), h⟩
      · refine wp_text [0, 1] rfl ?_
        refine rv 22 rfl rfl rfl (q_eql (a := r4) (b := (6 : Int)) rfl rfl rfl) ?_
        refine rv 20 rfl rfl rfl (q_assign (v := .bool ((r4 == (6 : Int)))) rfl rfl) ?_
        refine ro_nil ?_
        exact ⟨((r4 == (6 : Int))), _, arr (upd_step (upd_step (upd_step rfl rfl) rfl) rfl), h⟩
def F73_j1 (f_3 : Nat) (w4 : World) (R : Bool → World → Prop) : Prop :=
  R (fcmp .gtr f_3 (9218868437227405311 : Nat)) w4
def F73 (f_1 : Nat) (sign_2 : Int) (w : World) (R : Bool → World → Prop) : Prop :=
  if (sign_2 == (0 : Int)) = true then (
    cl Tryz.prog 95 [.float .f64 (f_1)] tFlt w fun r6 w5 =>
    F73_j1 r6 w5 R
  ) else (
    if (decide (sign_2 < (0 : Int))) = true then (
      F73_j1 (Op.negFloat .f64 f_1) w R
    ) else (
      F73_j1 f_1 w R
    )
  )
theorem F73_ok {f_1 : Nat} {sign_2 : Int} {w : World} {R : Bool → World → Prop} (h : F73 f_1 sign_2 w R) : cl Tryz.prog 73 [.float .f64 (f_1), .int .i64 (sign_2)] tBool w R := by
  unfold F73 at h
  refine calls_start 15 Tryz.func73 rfl rfl (Nat.le_of_ble_eq_true rfl) ?_
  refine wp_seq ?_
  refine wp_text [0] rfl ?_
  refine rv 4 rfl rfl rfl (q_assign (v := .bool (false)) rfl rfl) ?_
  refine ro_nil ?_
  refine seq_join (σ := Nat) (J := fun (s : Nat) w => F73_j1 s w R) (fr := fun g (s : Nat) => upd (g) 0 (.float .f64 (s))) ?_ ?_
  · rintro f_3 g w4 h
    unfold F73_j1 at h
    refine wp_seq ?_
    refine wp_text [0, 1, 2] rfl ?_
    refine rv 13 rfl rfl rfl (q_move (v := .float .f64 (f_3)) rfl rfl) ?_
    refine rv 14 rfl rfl rfl (q_fcmp (op := .gtr) (a := f_3) (b := (9218868437227405311 : Nat)) rfl (by decide) rfl rfl) ?_
    refine rv 4 rfl rfl rfl (q_assign (v := .bool ((fcmp .gtr f_3 (9218868437227405311 : Nat)))) rfl rfl) ?_
    refine ro_nil ?_
    refine wp_ret ?_
    exact ret_ok rfl (.cons (.tmp (v := .bool ((fcmp .gtr f_3 (9218868437227405311 : Nat)))) rfl) .nil) ⟨(fcmp .gtr f_3 (9218868437227405311 : Nat)), rfl, h⟩
  · refine wp_seq ?_
    refine wp_text [0, 1] rfl ?_
    refine rv 5 rfl rfl rfl (q_move (v := .int .i64 (sign_2)) rfl rfl) ?_
    refine rv 6 rfl rfl rfl (q_eql (a := sign_2) (b := (0 : Int)) rfl rfl rfl) ?_
    refine ro_nil ?_
    refine wp_if (b := (sign_2 == (0 : Int))) rfl h (fun hb8 h => ?_) (fun hb8 h => ?_)
    · refine wp_text [0, 1, 2] rfl ?_
      refine rv 7 rfl rfl rfl (q_move (v := .float .f64 (f_1)) rfl rfl) ?_
      refine ro_wp rfl (.free rfl) (wp_cl (d := (some 8)) rfl (q_call (k := 95) (l := [.float .f64 (f_1)]) rfl ent95 rfl) h ?_)
      intro r6 w5 h
      refine rv 0 rfl rfl rfl (q_assign (v := .float .f64 (r6)) rfl rfl) ?_
      refine ro_nil ?_
      exact ⟨(r6), _, arr (upd_step rfl rfl), h⟩
    · refine wp_seq ?_
      refine wp_text [0, 1] rfl ?_
      refine rv 9 rfl rfl rfl (q_move (v := .int .i64 (sign_2)) rfl rfl) ?_
      refine rv 10 rfl rfl rfl (q_lss (a := sign_2) (b := (0 : Int)) rfl rfl rfl) ?_
      refine ro_nil ?_
      refine wp_if (b := (decide (sign_2 < (0 : Int)))) rfl h (fun hb7 h => ?_) (fun hb7 h => ?_)
      · refine wp_text [0, 1, 2] rfl ?_
        refine rv 11 rfl rfl rfl (q_move (v := .float .f64 (f_1)) rfl rfl) ?_
        refine rv 12 rfl rfl rfl (q_negF (a := f_1) rfl rfl) ?_
        refine rv 0 rfl rfl rfl (q_assign (v := .float .f64 ((Op.negFloat .f64 f_1))) rfl rfl) ?_
        refine ro_nil ?_
        exact ⟨((Op.negFloat .f64 f_1)), _, arr (upd_step rfl rfl), h⟩
      · refine wp_skip ?_
        exact ⟨(f_1), _, arr (upd_step rfl rfl), h⟩
def F74 (f_1 : Nat) (w : World) (R : Int → World → Prop) : Prop :=
  if (fcmp .neq f_1 f_1) = true then (
    R (0 : Int) w
  ) else (
    ex (Shift (63 : Int) (Int.fdiv (f_1 : Int) (2 ^ (min ((63 : Int)).toNat IntKind.u64.bits)))) fun d2 =>
    if (d2 == (1 : Int)) = true then (
      R (bits .xor .u64 IntKind.u64.max (f_1 : Int)) w
    ) else (
      R (bits .or .u64 (f_1 : Int) (9223372036854775808 : Int)) w
    )
  )
theorem F74_ok {f_1 : Nat} {w : World} {R : Int → World → Prop} (h : F74 f_1 w R) : cl Tryz.prog 74 [.float .f64 (f_1)] (tInt .u64) w R := by
  unfold F74 at h
  refine calls_start 16 Tryz.func74 rfl rfl (Nat.le_of_ble_eq_true rfl) ?_
  refine wp_seq ?_
  refine wp_text [0] rfl ?_
  refine rv 2 rfl rfl rfl (q_assign (v := .int .u64 ((0 : Int))) rfl rfl) ?_
  refine ro_nil ?_
  refine wp_seq ?_
  refine wp_seq ?_
  refine wp_text [0, 1, 2] rfl ?_
  refine rv 4 rfl rfl rfl (q_move (v := .float .f64 (f_1)) rfl rfl) ?_
  refine rv 5 rfl rfl rfl (q_move (v := .float .f64 (f_1)) rfl rfl) ?_
  refine rv 6 rfl rfl rfl (q_fcmp (op := .neq) (a := f_1) (b := f_1) rfl (by decide) rfl rfl) ?_
  refine ro_nil ?_
  refine wp_if (b := (fcmp .neq f_1 f_1)) rfl h (fun hb4 h => ?_) (fun hb4 h => ?_)
  · refine wp_seq ?_
    refine wp_text [0] rfl ?_
    refine rv 2 rfl rfl rfl (q_assign (v := .int .u64 ((0 : Int))) rfl rfl) ?_
    refine ro_nil ?_
    refine wp_ret ?_
    exact ret_ok rfl (.cons (.tmp (v := .int .u64 ((0 : Int))) rfl) .nil) ⟨(0 : Int), rfl, h⟩
  · refine wp_skip ?_
    refine wp_seq ?_
    refine wp_text [0, 1, 2] rfl ?_
    refine rv 7 rfl rfl rfl (q_move (v := .float .f64 (f_1)) rfl rfl) ?_
    refine rv 8 rfl rfl rfl (q_f64bits (b := f_1) rfl ext72 rfl) ?_
    refine rv 3 rfl rfl rfl (q_assign (v := .int .u64 ((f_1 : Int))) rfl rfl) ?_
    refine ro_nil ?_
    refine wp_seq ?_
    refine wp_seq ?_
    refine wp_text [0, 1, 2] rfl ?_
    refine rv 9 rfl rfl rfl (q_move (v := .int .u64 ((f_1 : Int))) rfl rfl) ?_
    obtain ⟨d2, hd2, h⟩ := h
    refine rv 10 rfl rfl rfl (q_shr (a := (f_1 : Int)) (b := (63 : Int)) (r := d2) rfl rfl rfl hd2) ?_
    refine rv 11 rfl rfl rfl (q_eql (a := d2) (b := (1 : Int)) rfl rfl rfl) ?_
    refine ro_nil ?_
    refine wp_if (b := (d2 == (1 : Int))) rfl h (fun hb3 h => ?_) (fun hb3 h => ?_)
    · refine wp_seq ?_
      refine wp_text [0, 1, 2] rfl ?_
      refine rv 12 rfl rfl rfl (q_move (v := .int .u64 ((f_1 : Int))) rfl rfl) ?_
      refine rv 13 rfl rfl rfl (q_notU (a := (f_1 : Int)) rfl rfl rfl) ?_
      refine rv 2 rfl rfl rfl (q_assign (v := .int .u64 ((bits .xor .u64 IntKind.u64.max (f_1 : Int)))) rfl rfl) ?_
      refine ro_nil ?_
      refine wp_ret ?_
      exact ret_ok rfl (.cons (.tmp (v := .int .u64 ((bits .xor .u64 IntKind.u64.max (f_1 : Int)))) rfl) .nil) ⟨(bits .xor .u64 IntKind.u64.max (f_1 : Int)), rfl, h⟩
    · refine wp_skip ?_
      refine wp_seq ?_
      refine wp_text [0, 1, 2] rfl ?_
      refine rv 14 rfl rfl rfl (q_move (v := .int .u64 ((f_1 : Int))) rfl rfl) ?_
      refine rv 15 rfl rfl rfl (q_or (a := (f_1 : Int)) (b := (9223372036854775808 : Int)) rfl rfl rfl) ?_
      refine rv 2 rfl rfl rfl (q_assign (v := .int .u64 ((bits .or .u64 (f_1 : Int) (9223372036854775808 : Int)))) rfl rfl) ?_
      refine ro_nil ?_
      refine wp_ret ?_
      exact ret_ok rfl (.cons (.tmp (v := .int .u64 ((bits .or .u64 (f_1 : Int) (9223372036854775808 : Int)))) rfl) .nil) ⟨(bits .or .u64 (f_1 : Int) (9223372036854775808 : Int)), rfl, h⟩
def F75_l1 (f_2 : Fv) (i_3 : Int) (j_4 : Int) (w5 : World) (K6 : Int × Int → World → Prop) (R : Int → World → Prop) : Prop :=
  if (decide (i_3 < j_4)) = true then (
    ex (Shift (1 : Int) (Int.fdiv (IntKind.u64.wrap (IntKind.i64.wrap (i_3 + j_4))) (2 ^ (min ((1 : Int)).toNat IntKind.u64.bits)))) fun d7 =>
    clv Tryz.prog f_2 [.int .i64 ((IntKind.i64.wrap d7))] tBool w5 fun r9 w8 =>
    if (!r9) = true then (
      K6 ((IntKind.i64.wrap ((IntKind.i64.wrap d7) + (1 : Int))), j_4) w8
    ) else (
      K6 (i_3, (IntKind.i64.wrap d7)) w8
    )
  ) else (
    R i_3 w5
  )
def F75 (n_1 : Int) (f_2 : Fv) (w : World) (R : Int → World → Prop) : Prop :=
  lp (fun (s : Int × Int) w K => F75_l1 f_2 s.1 s.2 w K R) ((0 : Int), n_1) w
theorem F75_ok {n_1 : Int} {f_2 : Fv} {w : World} {R : Int → World → Prop} (h : F75 n_1 f_2 w R) : cl Tryz.prog 75 [.int .i64 (n_1), (f_2).enc] (tInt .i64) w R := by
  unfold F75 at h
  refine calls_start 26 Tryz.func75 rfl rfl (Nat.le_of_ble_eq_true rfl) ?_
  refine wp_seq ?_
  refine wp_text [0] rfl ?_
  refine rv 4 rfl rfl rfl (q_assign (v := .int .i64 ((0 : Int))) rfl rfl) ?_
  refine ro_nil ?_
  refine wp_seq ?_
  refine wp_text [0, 1, 2] rfl ?_
  refine rv 8 rfl rfl rfl (q_move (v := .int .i64 (n_1)) rfl rfl) ?_
  refine rv 5 rfl rfl rfl (q_assign (v := .int .i64 ((0 : Int))) rfl rfl) ?_
  refine rv 6 rfl rfl rfl (q_assign (v := .int .i64 (n_1)) rfl rfl) ?_
  refine ro_nil ?_
  refine wp_seq ?_
  refine wp_block ?_
  refine loop_at (σ := Int × Int) (fr := fun g (s : Int × Int) => upd (upd (upd (g) 1 ((f_2).enc)) 5 (.int .i64 (s.1))) 6 (.int .i64 (s.2))) (s0 := ((0 : Int), n_1)) (upd_step (upd_step (upd_step rfl rfl) rfl) rfl) h ?_
  rintro ⟨i_3, j_4⟩ g w5 K6 h
  unfold F75_l1 at h
  refine wp_seq ?_
  refine wp_seq ?_
  refine wp_text [0, 1, 2] rfl ?_
  refine rv 9 rfl rfl rfl (q_move (v := .int .i64 (i_3)) rfl rfl) ?_
  refine rv 10 rfl rfl rfl (q_move (v := .int .i64 (j_4)) rfl rfl) ?_
  refine rv 11 rfl rfl rfl (q_lss (a := i_3) (b := j_4) rfl rfl rfl) ?_
  refine ro_nil ?_
  refine wp_if (b := (decide (i_3 < j_4))) rfl h (fun hb11 h => ?_) (fun hb11 h => ?_)
  · refine wp_skip ?_
    refine wp_block ?_
    refine wp_seq ?_
    refine wp_text [0, 1, 2, 3, 4, 5, 6] rfl ?_
    refine rv 12 rfl rfl rfl (q_move (v := .int .i64 (i_3)) rfl rfl) ?_
    refine rv 13 rfl rfl rfl (q_move (v := .int .i64 (j_4)) rfl rfl) ?_
    refine rv 14 rfl rfl rfl (q_add (a := i_3) (b := j_4) rfl rfl rfl) ?_
    refine rv 15 rfl rfl rfl (q_cvtI (a := (IntKind.i64.wrap (i_3 + j_4))) rfl Tryz.underlying3 Tryz.underlying120 rfl) ?_
    obtain ⟨d7, hd7, h⟩ := h
    refine rv 16 rfl rfl rfl (q_shr (a := (IntKind.u64.wrap (IntKind.i64.wrap (i_3 + j_4)))) (b := (1 : Int)) (r := d7) rfl rfl rfl hd7) ?_
    refine rv 17 rfl rfl rfl (q_cvtI (a := d7) rfl Tryz.underlying120 Tryz.underlying3 rfl) ?_
    refine rv 7 rfl rfl rfl (q_assign (v := .int .i64 ((IntKind.i64.wrap d7))) rfl rfl) ?_
    refine ro_nil ?_
    refine wp_seq ?_
    refine wp_text [0, 1, 2, 3] rfl ?_
    refine rv 18 rfl rfl rfl (q_move (v := (f_2).enc) rfl rfl) ?_
    refine rv 19 rfl rfl rfl (q_move (v := .int .i64 ((IntKind.i64.wrap d7))) rfl rfl) ?_
    refine ro_wp rfl (.free rfl) (wp_clv (d := (some 20)) (l := [.int .i64 ((IntKind.i64.wrap d7))]) (fv := f_2) rfl rfl rfl rfl h ?_)
    intro r9 w8 h
    refine rv 21 rfl rfl rfl (q_not (b := r9) rfl rfl) ?_
    refine ro_nil ?_
    refine wp_if (b := (!r9)) rfl h (fun hb10 h => ?_) (fun hb10 h => ?_)
    · refine wp_text [0, 1, 2] rfl ?_
      refine rv 22 rfl rfl rfl (q_move (v := .int .i64 ((IntKind.i64.wrap d7))) rfl rfl) ?_
      refine rv 23 rfl rfl rfl (q_add (a := (IntKind.i64.wrap d7)) (b := (1 : Int)) rfl rfl rfl) ?_
      refine rv 5 rfl rfl rfl (q_assign (v := .int .i64 ((IntKind.i64.wrap ((IntKind.i64.wrap d7) + (1 : Int))))) rfl rfl) ?_
      refine ro_nil ?_
      exact ⟨((IntKind.i64.wrap ((IntKind.i64.wrap d7) + (1 : Int))), j_4), _, arr (upd_step (upd_step (upd_step rfl rfl) rfl) rfl), h⟩
    · refine wp_text [0, 1] rfl ?_
      refine rv 24 rfl rfl rfl (q_move (v := .int .i64 ((IntKind.i64.wrap d7))) rfl rfl) ?_
      refine rv 6 rfl rfl rfl (q_assign (v := .int .i64 ((IntKind.i64.wrap d7))) rfl rfl) ?_
      refine ro_nil ?_
      exact ⟨(i_3, (IntKind.i64.wrap d7)), _, arr (upd_step (upd_step (upd_step rfl rfl) rfl) rfl), h⟩
  · refine wp_exit ?_
    refine wp_seq ?_
    refine wp_text [0, 1] rfl ?_
    refine rv 25 rfl rfl rfl (q_move (v := .int .i64 (i_3)) rfl rfl) ?_
    refine rv 4 rfl rfl rfl (q_assign (v := .int .i64 (i_3)) rfl rfl) ?_
    refine ro_nil ?_
    refine wp_ret ?_
    exact ret_ok rfl (.cons (.tmp (v := .int .i64 (i_3)) rfl) .nil) ⟨i_3, rfl, h⟩
def F76 (i_1 : Int) (t_2 : Addr) (t_3 : Addr) (w : World) (R : Bool → World → Prop) : Prop :=
  dr w fun w4 =>
  ex (RdAt tPtr t_2 w4) fun x5 =>
  ex (NC x5) fun a6 =>
  ex (RdAt tSlc (a6.add 0) w4) fun x7 =>
  ex (IxA x7 2 i_1) fun a8 =>
  ex (RdAt (tInt .i64) (a8.add 0) w4) fun x9 =>
  ex (RdAt (tInt .i64) t_3 w4) fun x10 =>
  R (decide (x9 > x10)) w4
theorem F76_ok {i_1 : Int} {t_2 : Addr} {t_3 : Addr} {w : World} {R : Bool → World → Prop} (h : F76 i_1 t_2 t_3 w R) : cl Tryz.prog 76 [.int .i64 (i_1), .pointer (some t_2), .pointer (some t_3)] tBool w R := by
  unfold F76 at h
  refine calls_start 15 Tryz.func76 rfl rfl (Nat.le_of_ble_eq_true rfl) ?_
  refine wp_seq ?_
  refine wp_text [0] rfl ?_
  refine rv 4 rfl rfl rfl (q_assign (v := .bool (false)) rfl rfl) ?_
  refine ro_nil ?_
  refine wp_seq ?_
  obtain ⟨w4, hw4, h⟩ := dr_open h
  refine wp_drawn 11 mixed rfl (by kernel_rfl) (by intro c a d v w h; cases d <;> exact h) hw4 (fun hD => ?_)
  refine rp 4 9 hD rfl rfl rfl (fun _ => q_move (v := .int .i64 (i_1)) rfl rfl) ?_
  obtain ⟨x5, hx5, h⟩ := h
  refine rd_read (i := 0) (d := (some 5)) (fun W => (RdAt tPtr t_2 W) x5) hD (by kernel_rfl) (by kernel_rfl) rfl (.free rfl) rfl (fun W hr => q_load (T := tPtr) (u := x5) (a := t_2) rfl ok97 rfl hr) hx5 ?_
  obtain ⟨a6, ha6, h⟩ := h
  refine rp 1 6 hD rfl rfl rfl (fun _ => q_nilCheck (a := a6) rfl (congrArg Value.pointer ha6)) ?_
  refine rp 2 7 hD rfl rfl rfl (fun _ => q_fieldAddr (a := a6) (off := 0) rfl Tryz.underlying112 rfl rfl ok110 (by decide) rfl) ?_
  obtain ⟨x7, hx7, h⟩ := h
  refine rd_read (i := 3) (d := (some 8)) (fun W => (RdAt tSlc (a6.add 0) W) x7) hD (by kernel_rfl) (by kernel_rfl) rfl (.free rfl) rfl (fun W hr => q_load (T := tSlc) (u := x7) (a := (a6.add 0)) rfl ok110 rfl hr) hx7 ?_
  obtain ⟨a8, ha8, h⟩ := h
  refine rp 5 10 hD rfl rfl rfl (fun _ => q_indexAddr (s := x7) (k := .i64) (i := i_1) rfl Tryz.underlying110 ok87 rfl rfl ha8) ?_
  refine rp 6 11 hD rfl rfl rfl (fun _ => q_fieldAddr (a := a8) (off := 0) rfl Tryz.underlying87 rfl rfl ok2 (by decide) rfl) ?_
  obtain ⟨x9, hx9, h⟩ := h
  refine rd_read (i := 7) (d := (some 12)) (fun W => (RdAt (tInt .i64) (a8.add 0) W) x9) hD (by kernel_rfl) (by kernel_rfl) rfl (.free rfl) rfl (fun W hr => q_load (T := (tInt .i64)) (u := x9) (a := (a8.add 0)) rfl ok2 rfl hr) hx9 ?_
  obtain ⟨x10, hx10, h⟩ := h
  refine rd_read (i := 8) (d := (some 13)) (fun W => (RdAt (tInt .i64) t_3 W) x10) hD (by kernel_rfl) (by kernel_rfl) rfl (.free rfl) rfl (fun W hr => q_load (T := (tInt .i64)) (u := x10) (a := t_3) rfl ok2 rfl hr) hx10 ?_
  refine rp 9 14 hD rfl rfl rfl (fun _ => q_gtr (a := x9) (b := x10) rfl rfl rfl) ?_
  refine rp 10 4 hD rfl rfl rfl (fun _ => q_assign (v := .bool ((decide (x9 > x10)))) rfl rfl) ?_
  refine rd_nil (by kernel_rfl) ?_
  refine wp_ret ?_
  exact ret_ok rfl (.cons (.tmp (v := .bool ((decide (x9 > x10)))) rfl) .nil) ⟨(decide (x9 > x10)), rfl, h⟩
def F77 (c_1 : (Option Addr)) (w : World) (R : Slc → World → Prop) : Prop :=
  ex (NC c_1) fun a2 =>
  ex (RdAt tSlc (a2.add 0) w) fun x3 =>
  mkS 87 T86 16 Z86 (x3.len : Int) (x3.len : Int) w fun r5 w4 =>
  ex (RdAt tSlc (a2.add 0) w4) fun x6 =>
  cpy T86 2 r5 x6 w4 fun r8 w7 =>
  R r5 w7
theorem F77_ok {c_1 : (Option Addr)} {w : World} {R : Slc → World → Prop} (h : F77 c_1 w R) : cl Tryz.prog 77 [.pointer (c_1)] tSlc w R := by
  unfold F77 at h
  refine calls_start 17 Tryz.func77 rfl rfl (Nat.le_of_ble_eq_true rfl) ?_
  refine wp_seq ?_
  refine wp_text [0] rfl ?_
  refine rv 2 rfl rfl rfl (q_assign (v := tSlc.enc ((⟨none, 0, 0⟩ : Slc))) rfl rfl) ?_
  refine ro_nil ?_
  refine wp_seq ?_
  refine wp_text [0, 1, 2, 3, 4, 5, 6] rfl ?_
  refine rv 4 rfl rfl rfl (q_move (v := .pointer (c_1)) rfl rfl) ?_
  obtain ⟨a2, ha2, h⟩ := h
  refine rv 5 rfl rfl rfl (q_nilCheck (a := a2) rfl (congrArg Value.pointer ha2)) ?_
  refine rv 6 rfl rfl rfl (q_fieldAddr (a := a2) (off := 0) rfl Tryz.underlying112 rfl rfl ok110 (by decide) rfl) ?_
  obtain ⟨x3, hx3, h⟩ := h
  refine rv 7 rfl rfl rfl (q_load (T := tSlc) (u := x3) (a := (a2.add 0)) rfl ok110 rfl hx3) ?_
  refine rv 8 rfl rfl rfl (q_len (s := x3) rfl Tryz.underlying110 rfl) ?_
  refine ro_wp rfl (.free rfl) (wp_mkS (T := T86) (z := Z86) (l := (x3.len : Int)) (c := (x3.len : Int)) (d := (some 9)) rfl rfl Tryz.underlying110 ok87 inf87 rfl rfl h ?_)
  intro r5 w4 h
  refine rv 3 rfl rfl rfl (q_assign (v := tSlc.enc (r5)) rfl rfl) ?_
  refine ro_nil ?_
  refine wp_seq ?_
  refine wp_text [0, 1, 2, 3, 4, 5] rfl ?_
  refine rv 10 rfl rfl rfl (q_move (v := tSlc.enc (r5)) rfl rfl) ?_
  refine rv 11 rfl rfl rfl (q_move (v := .pointer (c_1)) rfl rfl) ?_
  refine rv 12 rfl rfl rfl (q_nilCheck (a := a2) rfl (congrArg Value.pointer ha2)) ?_
  refine rv 13 rfl rfl rfl (q_fieldAddr (a := a2) (off := 0) rfl Tryz.underlying112 rfl rfl ok110 (by decide) rfl) ?_
  obtain ⟨x6, hx6, h⟩ := h
  refine rv 14 rfl rfl rfl (q_load (T := tSlc) (u := x6) (a := (a2.add 0)) rfl ok110 rfl hx6) ?_
  refine ro_wp rfl (.free rfl) (wp_cpy (T := T86) (s := r5) (b := x6) (d := (some 15)) rfl rfl Tryz.underlying110 ok87 rfl rfl h ?_)
  intro r8 w7 h
  refine ro_nil ?_
  refine wp_seq ?_
  refine wp_text [0, 1] rfl ?_
  refine rv 16 rfl rfl rfl (q_move (v := tSlc.enc (r5)) rfl rfl) ?_
  refine rv 2 rfl rfl rfl (q_assign (v := tSlc.enc (r5)) rfl rfl) ?_
  refine ro_nil ?_
  refine wp_ret ?_
  exact ret_ok rfl (.cons (.tmp (v := tSlc.enc (r5)) rfl) .nil) ⟨r5, rfl, h⟩
def F89 (f_1 : Nat) (w : World) (R : (Nat × Int) → World → Prop) : Prop :=
  cl Tryz.prog 103 [.float .f64 (f_1)] (tTup2 tFlt (tInt .i64)) w fun r3 w2 =>
  R (r3.1, r3.2) w2
theorem F89_ok {f_1 : Nat} {w : World} {R : (Nat × Int) → World → Prop} (h : F89 f_1 w R) : cl Tryz.prog 89 [.float .f64 (f_1)] (tTup2 tFlt (tInt .i64)) w R := by
  unfold F89 at h
  refine calls_start 12 Tryz.func89 rfl rfl (Nat.le_of_ble_eq_true rfl) ?_
  refine wp_seq ?_
  refine wp_text [0, 1] rfl ?_
  refine rv 2 rfl rfl rfl (q_assign (v := .float .f64 ((0 : Nat))) rfl rfl) ?_
  refine rv 3 rfl rfl rfl (q_assign (v := .int .i64 ((0 : Int))) rfl rfl) ?_
  refine ro_nil ?_
  refine wp_seq ?_
  refine wp_no rfl ?_
  refine wp_skip ?_
  refine wp_seq ?_
  refine wp_text [0, 1, 2, 3, 4, 5] rfl ?_
  refine rv 8 rfl rfl rfl (q_move (v := .float .f64 (f_1)) rfl rfl) ?_
  refine ro_wp rfl (.free rfl) (wp_cl (d := (some 9)) rfl (q_call (k := 103) (l := [.float .f64 (f_1)]) rfl ent103 rfl) h ?_)
  intro r3 w2 h
  refine rv 10 rfl rfl rfl (q_extract (vs := #[.float .f64 (r3.1), .int .i64 (r3.2)]) (v := .float .f64 (r3.1)) rfl rfl rfl) ?_
  refine rv 11 rfl rfl rfl (q_extract (vs := #[.float .f64 (r3.1), .int .i64 (r3.2)]) (v := .int .i64 (r3.2)) rfl rfl rfl) ?_
  refine rv 2 rfl rfl rfl (q_assign (v := .float .f64 (r3.1)) rfl rfl) ?_
  refine rv 3 rfl rfl rfl (q_assign (v := .int .i64 (r3.2)) rfl rfl) ?_
  refine ro_nil ?_
  refine wp_ret ?_
  exact ret_ok rfl (.cons (.tmp (v := .float .f64 (r3.1)) rfl) (.cons (.tmp (v := .int .i64 (r3.2)) rfl) .nil)) ⟨(r3.1, r3.2), rfl, h⟩
def F90 (frac_1 : Nat) (exp_2 : Int) (w : World) (R : Nat → World → Prop) : Prop :=
  cl Tryz.prog 105 [.float .f64 (frac_1), .int .i64 (exp_2)] tFlt w fun r4 w3 =>
  R r4 w3
theorem F90_ok {frac_1 : Nat} {exp_2 : Int} {w : World} {R : Nat → World → Prop} (h : F90 frac_1 exp_2 w R) : cl Tryz.prog 90 [.float .f64 (frac_1), .int .i64 (exp_2)] tFlt w R := by
  unfold F90 at h
  refine calls_start 11 Tryz.func90 rfl rfl (Nat.le_of_ble_eq_true rfl) ?_
  refine wp_seq ?_
  refine wp_text [0] rfl ?_
  refine rv 4 rfl rfl rfl (q_assign (v := .float .f64 ((0 : Nat))) rfl rfl) ?_
  refine ro_nil ?_
  refine wp_seq ?_
  refine wp_no rfl ?_
  refine wp_skip ?_
  refine wp_seq ?_
  refine wp_text [0, 1, 2, 3] rfl ?_
  refine rv 8 rfl rfl rfl (q_move (v := .float .f64 (frac_1)) rfl rfl) ?_
  refine rv 9 rfl rfl rfl (q_move (v := .int .i64 (exp_2)) rfl rfl) ?_
  refine ro_wp rfl (.free rfl) (wp_cl (d := (some 10)) rfl (q_call (k := 105) (l := [.float .f64 (frac_1), .int .i64 (exp_2)]) rfl ent105 rfl) h ?_)
  intro r4 w3 h
  refine rv 4 rfl rfl rfl (q_assign (v := .float .f64 (r4)) rfl rfl) ?_
  refine ro_nil ?_
  refine wp_ret ?_
  exact ret_ok rfl (.cons (.tmp (v := .float .f64 (r4)) rfl) .nil) ⟨r4, rfl, h⟩
end Go.Proofs.YtpdaapffkdejoaaGreat.Cf
namespace Go.Proofs.YtpdaapffkdejoaaGreat.Cf
open Go
set_option maxRecDepth 100000
set_option maxHeartbeats 1000000
set_option linter.unusedVariables false
set_option linter.unusedSimpArgs false
def F91 (x_1 : Int) (y_2 : Int) (w : World) (R : (Int × Int) → World → Prop) : Prop :=
  ex (Shift (32 : Int) (Int.fdiv x_1 (2 ^ (min ((32 : Int)).toNat IntKind.u64.bits)))) fun d3 =>
  ex (Shift (32 : Int) (Int.fdiv y_2 (2 ^ (min ((32 : Int)).toNat IntKind.u64.bits)))) fun d4 =>
  ex (Shift (32 : Int) (Int.fdiv (IntKind.u64.wrap ((bits .and .u64 x_1 (4294967295 : Int)) * (bits .and .u64 y_2 (4294967295 : Int)))) (2 ^ (min ((32 : Int)).toNat IntKind.u64.bits)))) fun d5 =>
  ex (Shift (32 : Int) (Int.fdiv (IntKind.u64.wrap ((IntKind.u64.wrap (d3 * (bits .and .u64 y_2 (4294967295 : Int)))) + d5)) (2 ^ (min ((32 : Int)).toNat IntKind.u64.bits)))) fun d6 =>
  ex (Shift (32 : Int) (Int.fdiv (IntKind.u64.wrap ((bits .and .u64 (IntKind.u64.wrap ((IntKind.u64.wrap (d3 * (bits .and .u64 y_2 (4294967295 : Int)))) + d5)) (4294967295 : Int)) + (IntKind.u64.wrap ((bits .and .u64 x_1 (4294967295 : Int)) * d4)))) (2 ^ (min ((32 : Int)).toNat IntKind.u64.bits)))) fun d7 =>
  R ((IntKind.u64.wrap ((IntKind.u64.wrap ((IntKind.u64.wrap (d3 * d4)) + d6)) + d7)), (IntKind.u64.wrap (x_1 * y_2))) w
theorem F91_ok {x_1 : Int} {y_2 : Int} {w : World} {R : (Int × Int) → World → Prop} (h : F91 x_1 y_2 w R) : cl Tryz.prog 91 [.int .u64 (x_1), .int .u64 (y_2)] (tTup2 (tInt .u64) (tInt .u64)) w R := by
  unfold F91 at h
  refine calls_start 51 Tryz.func91 rfl rfl (Nat.le_of_ble_eq_true rfl) ?_
  refine wp_seq ?_
  refine wp_text [0, 1] rfl ?_
  refine rv 4 rfl rfl rfl (q_assign (v := .int .u64 ((0 : Int))) rfl rfl) ?_
  refine rv 5 rfl rfl rfl (q_assign (v := .int .u64 ((0 : Int))) rfl rfl) ?_
  refine ro_nil ?_
  refine wp_seq ?_
  refine wp_text [0, 1, 2] rfl ?_
  refine rv 14 rfl rfl rfl (q_move (v := .int .u64 (x_1)) rfl rfl) ?_
  refine rv 15 rfl rfl rfl (q_and (a := x_1) (b := (4294967295 : Int)) rfl rfl rfl) ?_
  refine rv 6 rfl rfl rfl (q_assign (v := .int .u64 ((bits .and .u64 x_1 (4294967295 : Int)))) rfl rfl) ?_
  refine ro_nil ?_
  refine wp_seq ?_
  refine wp_text [0, 1, 2] rfl ?_
  refine rv 16 rfl rfl rfl (q_move (v := .int .u64 (x_1)) rfl rfl) ?_
  obtain ⟨d3, hd3, h⟩ := h
  refine rv 17 rfl rfl rfl (q_shr (a := x_1) (b := (32 : Int)) (r := d3) rfl rfl rfl hd3) ?_
  refine rv 7 rfl rfl rfl (q_assign (v := .int .u64 (d3)) rfl rfl) ?_
  refine ro_nil ?_
  refine wp_seq ?_
  refine wp_text [0, 1, 2] rfl ?_
  refine rv 18 rfl rfl rfl (q_move (v := .int .u64 (y_2)) rfl rfl) ?_
  refine rv 19 rfl rfl rfl (q_and (a := y_2) (b := (4294967295 : Int)) rfl rfl rfl) ?_
  refine rv 8 rfl rfl rfl (q_assign (v := .int .u64 ((bits .and .u64 y_2 (4294967295 : Int)))) rfl rfl) ?_
  refine ro_nil ?_
  refine wp_seq ?_
  refine wp_text [0, 1, 2] rfl ?_
  refine rv 20 rfl rfl rfl (q_move (v := .int .u64 (y_2)) rfl rfl) ?_
  obtain ⟨d4, hd4, h⟩ := h
  refine rv 21 rfl rfl rfl (q_shr (a := y_2) (b := (32 : Int)) (r := d4) rfl rfl rfl hd4) ?_
  refine rv 9 rfl rfl rfl (q_assign (v := .int .u64 (d4)) rfl rfl) ?_
  refine ro_nil ?_
  refine wp_seq ?_
  refine wp_text [0, 1, 2, 3] rfl ?_
  refine rv 22 rfl rfl rfl (q_move (v := .int .u64 ((bits .and .u64 x_1 (4294967295 : Int)))) rfl rfl) ?_
  refine rv 23 rfl rfl rfl (q_move (v := .int .u64 ((bits .and .u64 y_2 (4294967295 : Int)))) rfl rfl) ?_
  refine rv 24 rfl rfl rfl (q_mul (a := (bits .and .u64 x_1 (4294967295 : Int))) (b := (bits .and .u64 y_2 (4294967295 : Int))) rfl rfl rfl) ?_
  refine rv 10 rfl rfl rfl (q_assign (v := .int .u64 ((IntKind.u64.wrap ((bits .and .u64 x_1 (4294967295 : Int)) * (bits .and .u64 y_2 (4294967295 : Int)))))) rfl rfl) ?_
  refine ro_nil ?_
  refine wp_seq ?_
  refine wp_text [0, 1, 2, 3, 4, 5, 6] rfl ?_
  refine rv 25 rfl rfl rfl (q_move (v := .int .u64 (d3)) rfl rfl) ?_
  refine rv 26 rfl rfl rfl (q_move (v := .int .u64 ((bits .and .u64 y_2 (4294967295 : Int)))) rfl rfl) ?_
  refine rv 27 rfl rfl rfl (q_mul (a := d3) (b := (bits .and .u64 y_2 (4294967295 : Int))) rfl rfl rfl) ?_
  refine rv 28 rfl rfl rfl (q_move (v := .int .u64 ((IntKind.u64.wrap ((bits .and .u64 x_1 (4294967295 : Int)) * (bits .and .u64 y_2 (4294967295 : Int)))))) rfl rfl) ?_
  obtain ⟨d5, hd5, h⟩ := h
  refine rv 29 rfl rfl rfl (q_shr (a := (IntKind.u64.wrap ((bits .and .u64 x_1 (4294967295 : Int)) * (bits .and .u64 y_2 (4294967295 : Int))))) (b := (32 : Int)) (r := d5) rfl rfl rfl hd5) ?_
  refine rv 30 rfl rfl rfl (q_add (a := (IntKind.u64.wrap (d3 * (bits .and .u64 y_2 (4294967295 : Int))))) (b := d5) rfl rfl rfl) ?_
  refine rv 11 rfl rfl rfl (q_assign (v := .int .u64 ((IntKind.u64.wrap ((IntKind.u64.wrap (d3 * (bits .and .u64 y_2 (4294967295 : Int)))) + d5)))) rfl rfl) ?_
  refine ro_nil ?_
  refine wp_seq ?_
  refine wp_text [0, 1, 2] rfl ?_
  refine rv 31 rfl rfl rfl (q_move (v := .int .u64 ((IntKind.u64.wrap ((IntKind.u64.wrap (d3 * (bits .and .u64 y_2 (4294967295 : Int)))) + d5)))) rfl rfl) ?_
  refine rv 32 rfl rfl rfl (q_and (a := (IntKind.u64.wrap ((IntKind.u64.wrap (d3 * (bits .and .u64 y_2 (4294967295 : Int)))) + d5))) (b := (4294967295 : Int)) rfl rfl rfl) ?_
  refine rv 12 rfl rfl rfl (q_assign (v := .int .u64 ((bits .and .u64 (IntKind.u64.wrap ((IntKind.u64.wrap (d3 * (bits .and .u64 y_2 (4294967295 : Int)))) + d5)) (4294967295 : Int)))) rfl rfl) ?_
  refine ro_nil ?_
  refine wp_seq ?_
  refine wp_text [0, 1, 2] rfl ?_
  refine rv 33 rfl rfl rfl (q_move (v := .int .u64 ((IntKind.u64.wrap ((IntKind.u64.wrap (d3 * (bits .and .u64 y_2 (4294967295 : Int)))) + d5)))) rfl rfl) ?_
  obtain ⟨d6, hd6, h⟩ := h
  refine rv 34 rfl rfl rfl (q_shr (a := (IntKind.u64.wrap ((IntKind.u64.wrap (d3 * (bits .and .u64 y_2 (4294967295 : Int)))) + d5))) (b := (32 : Int)) (r := d6) rfl rfl rfl hd6) ?_
  refine rv 13 rfl rfl rfl (q_assign (v := .int .u64 (d6)) rfl rfl) ?_
  refine ro_nil ?_
  refine wp_seq ?_
  refine wp_text [0, 1, 2, 3, 4, 5] rfl ?_
  refine rv 35 rfl rfl rfl (q_move (v := .int .u64 ((bits .and .u64 (IntKind.u64.wrap ((IntKind.u64.wrap (d3 * (bits .and .u64 y_2 (4294967295 : Int)))) + d5)) (4294967295 : Int)))) rfl rfl) ?_
  refine rv 36 rfl rfl rfl (q_move (v := .int .u64 ((bits .and .u64 x_1 (4294967295 : Int)))) rfl rfl) ?_
  refine rv 37 rfl rfl rfl (q_move (v := .int .u64 (d4)) rfl rfl) ?_
  refine rv 38 rfl rfl rfl (q_mul (a := (bits .and .u64 x_1 (4294967295 : Int))) (b := d4) rfl rfl rfl) ?_
  refine rv 39 rfl rfl rfl (q_add (a := (bits .and .u64 (IntKind.u64.wrap ((IntKind.u64.wrap (d3 * (bits .and .u64 y_2 (4294967295 : Int)))) + d5)) (4294967295 : Int))) (b := (IntKind.u64.wrap ((bits .and .u64 x_1 (4294967295 : Int)) * d4))) rfl rfl rfl) ?_
  refine rv 12 rfl rfl rfl (q_assign (v := .int .u64 ((IntKind.u64.wrap ((bits .and .u64 (IntKind.u64.wrap ((IntKind.u64.wrap (d3 * (bits .and .u64 y_2 (4294967295 : Int)))) + d5)) (4294967295 : Int)) + (IntKind.u64.wrap ((bits .and .u64 x_1 (4294967295 : Int)) * d4)))))) rfl rfl) ?_
  refine ro_nil ?_
  refine wp_seq ?_
  refine wp_text [0, 1, 2, 3, 4, 5, 6, 7, 8] rfl ?_
  refine rv 40 rfl rfl rfl (q_move (v := .int .u64 (d3)) rfl rfl) ?_
  refine rv 41 rfl rfl rfl (q_move (v := .int .u64 (d4)) rfl rfl) ?_
  refine rv 42 rfl rfl rfl (q_mul (a := d3) (b := d4) rfl rfl rfl) ?_
  refine rv 43 rfl rfl rfl (q_move (v := .int .u64 (d6)) rfl rfl) ?_
  refine rv 44 rfl rfl rfl (q_add (a := (IntKind.u64.wrap (d3 * d4))) (b := d6) rfl rfl rfl) ?_
  refine rv 45 rfl rfl rfl (q_move (v := .int .u64 ((IntKind.u64.wrap ((bits .and .u64 (IntKind.u64.wrap ((IntKind.u64.wrap (d3 * (bits .and .u64 y_2 (4294967295 : Int)))) + d5)) (4294967295 : Int)) + (IntKind.u64.wrap ((bits .and .u64 x_1 (4294967295 : Int)) * d4)))))) rfl rfl) ?_
  obtain ⟨d7, hd7, h⟩ := h
  refine rv 46 rfl rfl rfl (q_shr (a := (IntKind.u64.wrap ((bits .and .u64 (IntKind.u64.wrap ((IntKind.u64.wrap (d3 * (bits .and .u64 y_2 (4294967295 : Int)))) + d5)) (4294967295 : Int)) + (IntKind.u64.wrap ((bits .and .u64 x_1 (4294967295 : Int)) * d4))))) (b := (32 : Int)) (r := d7) rfl rfl rfl hd7) ?_
  refine rv 47 rfl rfl rfl (q_add (a := (IntKind.u64.wrap ((IntKind.u64.wrap (d3 * d4)) + d6))) (b := d7) rfl rfl rfl) ?_
  refine rv 4 rfl rfl rfl (q_assign (v := .int .u64 ((IntKind.u64.wrap ((IntKind.u64.wrap ((IntKind.u64.wrap (d3 * d4)) + d6)) + d7)))) rfl rfl) ?_
  refine ro_nil ?_
  refine wp_seq ?_
  refine wp_text [0, 1, 2, 3] rfl ?_
  refine rv 48 rfl rfl rfl (q_move (v := .int .u64 (x_1)) rfl rfl) ?_
  refine rv 49 rfl rfl rfl (q_move (v := .int .u64 (y_2)) rfl rfl) ?_
  refine rv 50 rfl rfl rfl (q_mul (a := x_1) (b := y_2) rfl rfl rfl) ?_
  refine rv 5 rfl rfl rfl (q_assign (v := .int .u64 ((IntKind.u64.wrap (x_1 * y_2)))) rfl rfl) ?_
  refine ro_nil ?_
  refine wp_ret ?_
  exact ret_ok rfl (.cons (.tmp (v := .int .u64 ((IntKind.u64.wrap ((IntKind.u64.wrap ((IntKind.u64.wrap (d3 * d4)) + d6)) + d7)))) rfl) (.cons (.tmp (v := .int .u64 ((IntKind.u64.wrap (x_1 * y_2)))) rfl) .nil)) ⟨((IntKind.u64.wrap ((IntKind.u64.wrap ((IntKind.u64.wrap (d3 * d4)) + d6)) + d7)), (IntKind.u64.wrap (x_1 * y_2))), rfl, h⟩
def F92 (n_1 : Int) (w : World) (R : Int → World → Prop) : Prop :=
  if (decide (n_1 < (0 : Int))) = true then (
    R (IntKind.u64.wrap (0 - (IntKind.u64.wrap n_1))) w
  ) else (
    R (IntKind.u64.wrap n_1) w
  )
theorem F92_ok {n_1 : Int} {w : World} {R : Int → World → Prop} (h : F92 n_1 w R) : cl Tryz.prog 92 [.int .i64 (n_1)] (tInt .u64) w R := by
  unfold F92 at h
  refine calls_start 10 Tryz.func92 rfl rfl (Nat.le_of_ble_eq_true rfl) ?_
  refine wp_seq ?_
  refine wp_text [0] rfl ?_
  refine rv 2 rfl rfl rfl (q_assign (v := .int .u64 ((0 : Int))) rfl rfl) ?_
  refine ro_nil ?_
  refine wp_seq ?_
  refine wp_seq ?_
  refine wp_text [0, 1] rfl ?_
  refine rv 3 rfl rfl rfl (q_move (v := .int .i64 (n_1)) rfl rfl) ?_
  refine rv 4 rfl rfl rfl (q_lss (a := n_1) (b := (0 : Int)) rfl rfl rfl) ?_
  refine ro_nil ?_
  refine wp_if (b := (decide (n_1 < (0 : Int)))) rfl h (fun hb2 h => ?_) (fun hb2 h => ?_)
  · refine wp_seq ?_
    refine wp_text [0, 1, 2, 3] rfl ?_
    refine rv 5 rfl rfl rfl (q_move (v := .int .i64 (n_1)) rfl rfl) ?_
    refine rv 6 rfl rfl rfl (q_cvtI (a := n_1) rfl Tryz.underlying2 Tryz.underlying122 rfl) ?_
    refine rv 7 rfl rfl rfl (q_neg (a := (IntKind.u64.wrap n_1)) rfl rfl) ?_
    refine rv 2 rfl rfl rfl (q_assign (v := .int .u64 ((IntKind.u64.wrap (0 - (IntKind.u64.wrap n_1))))) rfl rfl) ?_
    refine ro_nil ?_
    refine wp_ret ?_
    exact ret_ok rfl (.cons (.tmp (v := .int .u64 ((IntKind.u64.wrap (0 - (IntKind.u64.wrap n_1))))) rfl) .nil) ⟨(IntKind.u64.wrap (0 - (IntKind.u64.wrap n_1))), rfl, h⟩
  · refine wp_skip ?_
    refine wp_seq ?_
    refine wp_text [0, 1, 2] rfl ?_
    refine rv 8 rfl rfl rfl (q_move (v := .int .i64 (n_1)) rfl rfl) ?_
    refine rv 9 rfl rfl rfl (q_cvtI (a := n_1) rfl Tryz.underlying2 Tryz.underlying122 rfl) ?_
    refine rv 2 rfl rfl rfl (q_assign (v := .int .u64 ((IntKind.u64.wrap n_1))) rfl rfl) ?_
    refine ro_nil ?_
    refine wp_ret ?_
    exact ret_ok rfl (.cons (.tmp (v := .int .u64 ((IntKind.u64.wrap n_1))) rfl) .nil) ⟨(IntKind.u64.wrap n_1), rfl, h⟩
def F93 (neg_1 : Bool) (n_2 : Int) (w : World) (R : (Int × Int) → World → Prop) : Prop :=
  if (neg_1 && (decide (n_2 ≤ (9223372036854775808 : Int)))) = true then (
    R ((IntKind.i64.wrap (0 - (IntKind.i64.wrap n_2))), (0 : Int)) w
  ) else (
    if ((!neg_1) && (decide (n_2 < (9223372036854775808 : Int)))) = true then (
      R ((IntKind.i64.wrap n_2), (0 : Int)) w
    ) else (
      R ((0 : Int), (11 : Int)) w
    )
  )
theorem F93_ok {neg_1 : Bool} {n_2 : Int} {w : World} {R : (Int × Int) → World → Prop} (h : F93 neg_1 n_2 w R) : cl Tryz.prog 93 [.bool (neg_1), .int .u64 (n_2)] (tTup2 (tInt .i64) (tInt .i64)) w R := by
  unfold F93 at h
  refine calls_start 24 Tryz.func93 rfl rfl (Nat.le_of_ble_eq_true rfl) ?_
  refine wp_seq ?_
  refine wp_text [0, 1] rfl ?_
  refine rv 4 rfl rfl rfl (q_assign (v := .int .i64 ((0 : Int))) rfl rfl) ?_
  refine rv 5 rfl rfl rfl (q_assign (v := .int .i64 ((0 : Int))) rfl rfl) ?_
  refine ro_nil ?_
  refine wp_seq ?_
  refine wp_block ?_
  refine wp_seq ?_
  refine wp_text [0, 1, 2, 3, 4, 5] rfl ?_
  refine rv 7 rfl rfl rfl (q_move (v := .bool (neg_1)) rfl rfl) ?_
  refine rv 8 rfl rfl rfl (q_move (v := .bool (neg_1)) rfl rfl) ?_
  refine ro_gval (g := neg_1) (d := (some 9)) rfl (.yes 1 8 true neg_1 rfl rfl rfl rfl) rfl (fun hg => q_move (v := .int .u64 (n_2)) rfl rfl) ?_
  refine ro_gval (g := neg_1) (d := (some 10)) rfl (.yes 1 8 true neg_1 rfl rfl rfl rfl) rfl (fun hg => q_leq (k := .u64) (a := n_2) (b := (9223372036854775808 : Int)) rfl (gvb_yes hg) rfl) ?_
  refine rv 11 rfl rfl rfl (q_pickGT (a := neg_1) (b := (decide (n_2 ≤ (9223372036854775808 : Int)))) rfl rfl rfl rfl) ?_
  refine rv 6 rfl rfl rfl (q_assign (v := .bool ((neg_1 && (decide (n_2 ≤ (9223372036854775808 : Int)))))) rfl rfl) ?_
  refine ro_nil ?_
  refine wp_if (b := (neg_1 && (decide (n_2 ≤ (9223372036854775808 : Int))))) rfl h (fun hb4 h => ?_) (fun hb4 h => ?_)
  · refine wp_seq ?_
    refine wp_text [0, 1, 2, 3, 4] rfl ?_
    refine rv 12 rfl rfl rfl (q_move (v := .int .u64 (n_2)) rfl rfl) ?_
    refine rv 13 rfl rfl rfl (q_cvtI (a := n_2) rfl Tryz.underlying122 Tryz.underlying2 rfl) ?_
    refine rv 14 rfl rfl rfl (q_neg (a := (IntKind.i64.wrap n_2)) rfl rfl) ?_
    refine rv 4 rfl rfl rfl (q_assign (v := .int .i64 ((IntKind.i64.wrap (0 - (IntKind.i64.wrap n_2))))) rfl rfl) ?_
    refine rv 5 rfl rfl rfl (q_assign (v := .int .i64 ((0 : Int))) rfl rfl) ?_
    refine ro_nil ?_
    refine wp_ret ?_
    exact ret_ok rfl (.cons (.tmp (v := .int .i64 ((IntKind.i64.wrap (0 - (IntKind.i64.wrap n_2))))) rfl) (.cons (.tmp (v := .int .i64 ((0 : Int))) rfl) .nil)) ⟨((IntKind.i64.wrap (0 - (IntKind.i64.wrap n_2))), (0 : Int)), rfl, h⟩
  · refine wp_seq ?_
    refine wp_text [0, 1, 2, 3, 4, 5, 6] rfl ?_
    refine rv 16 rfl rfl rfl (q_move (v := .bool (neg_1)) rfl rfl) ?_
    refine rv 17 rfl rfl rfl (q_not (b := neg_1) rfl rfl) ?_
    refine rv 18 rfl rfl rfl (q_move (v := .bool ((!neg_1))) rfl rfl) ?_
    refine ro_gval (g := (!neg_1)) (d := (some 19)) rfl (.yes 2 18 true (!neg_1) rfl rfl rfl rfl) rfl (fun hg => q_move (v := .int .u64 (n_2)) rfl rfl) ?_
    refine ro_gval (g := (!neg_1)) (d := (some 20)) rfl (.yes 2 18 true (!neg_1) rfl rfl rfl rfl) rfl (fun hg => q_lss (k := .u64) (a := n_2) (b := (9223372036854775808 : Int)) rfl (gvb_yes hg) rfl) ?_
    refine rv 21 rfl rfl rfl (q_pickGT (a := (!neg_1)) (b := (decide (n_2 < (9223372036854775808 : Int)))) rfl rfl rfl rfl) ?_
    refine rv 15 rfl rfl rfl (q_assign (v := .bool (((!neg_1) && (decide (n_2 < (9223372036854775808 : Int)))))) rfl rfl) ?_
    refine ro_nil ?_
    refine wp_if (b := ((!neg_1) && (decide (n_2 < (9223372036854775808 : Int))))) rfl h (fun hb3 h => ?_) (fun hb3 h => ?_)
    · refine wp_seq ?_
      refine wp_text [0, 1, 2, 3] rfl ?_
      refine rv 22 rfl rfl rfl (q_move (v := .int .u64 (n_2)) rfl rfl) ?_
      refine rv 23 rfl rfl rfl (q_cvtI (a := n_2) rfl Tryz.underlying122 Tryz.underlying2 rfl) ?_
      refine rv 4 rfl rfl rfl (q_assign (v := .int .i64 ((IntKind.i64.wrap n_2))) rfl rfl) ?_
      refine rv 5 rfl rfl rfl (q_assign (v := .int .i64 ((0 : Int))) rfl rfl) ?_
      refine ro_nil ?_
      refine wp_ret ?_
      exact ret_ok rfl (.cons (.tmp (v := .int .i64 ((IntKind.i64.wrap n_2))) rfl) (.cons (.tmp (v := .int .i64 ((0 : Int))) rfl) .nil)) ⟨((IntKind.i64.wrap n_2), (0 : Int)), rfl, h⟩
    · refine wp_skip ?_
      refine wp_seq ?_
      refine wp_text [0, 1] rfl ?_
      refine rv 4 rfl rfl rfl (q_assign (v := .int .i64 ((0 : Int))) rfl rfl) ?_
      refine rv 5 rfl rfl rfl (q_assign (v := .int .i64 ((11 : Int))) rfl rfl) ?_
      refine ro_nil ?_
      refine wp_ret ?_
      exact ret_ok rfl (.cons (.tmp (v := .int .i64 ((0 : Int))) rfl) (.cons (.tmp (v := .int .i64 ((11 : Int))) rfl) .nil)) ⟨((0 : Int), (11 : Int)), rfl, h⟩
def F94 (hi_1 : Int) (lo_2 : Int) (by_3 : Int) (w : World) (R : (Int × Bool × Bool) → World → Prop) : Prop :=
  if (decide (by_3 ≥ (128 : Int))) = true then (
    R ((0 : Int), true, true) w
  ) else (
    if (decide (by_3 > (64 : Int))) = true then (
      ex (Shift (IntKind.u64.wrap (by_3 - (64 : Int))) (Int.fdiv hi_1 (2 ^ (min ((IntKind.u64.wrap (by_3 - (64 : Int)))).toNat IntKind.u64.bits)))) fun d4 =>
      ex (Shift (IntKind.u64.wrap ((128 : Int) - by_3)) (IntKind.u64.wrap (hi_1 * 2 ^ (min ((IntKind.u64.wrap ((128 : Int) - by_3))).toNat IntKind.u64.bits)))) fun d5 =>
      R (d4, ((d5 != (0 : Int)) || (lo_2 != (0 : Int))), true) w
    ) else (
      if (by_3 == (64 : Int)) = true then (
        R (hi_1, (lo_2 != (0 : Int)), true) w
      ) else (
        ex (Shift by_3 (Int.fdiv lo_2 (2 ^ (min (by_3).toNat IntKind.u64.bits)))) fun d6 =>
        ex (Shift (IntKind.u64.wrap ((64 : Int) - by_3)) (IntKind.u64.wrap (hi_1 * 2 ^ (min ((IntKind.u64.wrap ((64 : Int) - by_3))).toNat IntKind.u64.bits)))) fun d7 =>
        ex (Shift (IntKind.u64.wrap ((64 : Int) - by_3)) (IntKind.u64.wrap (lo_2 * 2 ^ (min ((IntKind.u64.wrap ((64 : Int) - by_3))).toNat IntKind.u64.bits)))) fun d8 =>
        ex (Shift by_3 (Int.fdiv hi_1 (2 ^ (min (by_3).toNat IntKind.u64.bits)))) fun d9 =>
        R ((bits .or .u64 d6 d7), (d8 != (0 : Int)), (d9 == (0 : Int))) w
      )
    )
  )
theorem F94_ok {hi_1 : Int} {lo_2 : Int} {by_3 : Int} {w : World} {R : (Int × Bool × Bool) → World → Prop} (h : F94 hi_1 lo_2 by_3 w R) : cl Tryz.prog 94 [.int .u64 (hi_1), .int .u64 (lo_2), .int .u64 (by_3)] (tTup3 (tInt .u64) tBool tBool) w R := by
  unfold F94 at h
  refine calls_start 51 Tryz.func94 rfl rfl (Nat.le_of_ble_eq_true rfl) ?_
  refine wp_seq ?_
  refine wp_text [0, 1, 2] rfl ?_
  refine rv 6 rfl rfl rfl (q_assign (v := .int .u64 ((0 : Int))) rfl rfl) ?_
  refine rv 7 rfl rfl rfl (q_assign (v := .bool (false)) rfl rfl) ?_
  refine rv 8 rfl rfl rfl (q_assign (v := .bool (false)) rfl rfl) ?_
  refine ro_nil ?_
  refine wp_seq ?_
  refine wp_block ?_
  refine wp_seq ?_
  refine wp_text [0, 1, 2] rfl ?_
  refine rv 10 rfl rfl rfl (q_move (v := .int .u64 (by_3)) rfl rfl) ?_
  refine rv 11 rfl rfl rfl (q_geq (a := by_3) (b := (128 : Int)) rfl rfl rfl) ?_
  refine rv 9 rfl rfl rfl (q_assign (v := .bool ((decide (by_3 ≥ (128 : Int))))) rfl rfl) ?_
  refine ro_nil ?_
  refine wp_if (b := (decide (by_3 ≥ (128 : Int)))) rfl h (fun hb12 h => ?_) (fun hb12 h => ?_)
  · refine wp_seq ?_
    refine wp_text [0, 1, 2] rfl ?_
    refine rv 6 rfl rfl rfl (q_assign (v := .int .u64 ((0 : Int))) rfl rfl) ?_
    refine rv 7 rfl rfl rfl (q_assign (v := .bool (true)) rfl rfl) ?_
    refine rv 8 rfl rfl rfl (q_assign (v := .bool (true)) rfl rfl) ?_
    refine ro_nil ?_
    refine wp_ret ?_
    exact ret_ok rfl (.cons (.tmp (v := .int .u64 ((0 : Int))) rfl) (.cons (.tmp (v := .bool (true)) rfl) (.cons (.tmp (v := .bool (true)) rfl) .nil))) ⟨((0 : Int), true, true), rfl, h⟩
  · refine wp_seq ?_
    refine wp_text [0, 1, 2] rfl ?_
    refine rv 13 rfl rfl rfl (q_move (v := .int .u64 (by_3)) rfl rfl) ?_
    refine rv 14 rfl rfl rfl (q_gtr (a := by_3) (b := (64 : Int)) rfl rfl rfl) ?_
    refine rv 12 rfl rfl rfl (q_assign (v := .bool ((decide (by_3 > (64 : Int))))) rfl rfl) ?_
    refine ro_nil ?_
    refine wp_if (b := (decide (by_3 > (64 : Int)))) rfl h (fun hb11 h => ?_) (fun hb11 h => ?_)
    · refine wp_seq ?_
      refine wp_text [0, 1, 2, 3, 4, 5, 6, 7, 8, 9, 10, 11, 12, 13, 14, 15] rfl ?_
      refine rv 15 rfl rfl rfl (q_move (v := .int .u64 (hi_1)) rfl rfl) ?_
      refine rv 16 rfl rfl rfl (q_move (v := .int .u64 (by_3)) rfl rfl) ?_
      refine rv 17 rfl rfl rfl (q_sub (a := by_3) (b := (64 : Int)) rfl rfl rfl) ?_
      obtain ⟨d4, hd4, h⟩ := h
      refine rv 18 rfl rfl rfl (q_shr (a := hi_1) (b := (IntKind.u64.wrap (by_3 - (64 : Int)))) (r := d4) rfl rfl rfl hd4) ?_
      refine rv 19 rfl rfl rfl (q_move (v := .int .u64 (hi_1)) rfl rfl) ?_
      refine rv 20 rfl rfl rfl (q_move (v := .int .u64 (by_3)) rfl rfl) ?_
      refine rv 21 rfl rfl rfl (q_sub (a := (128 : Int)) (b := by_3) rfl rfl rfl) ?_
      obtain ⟨d5, hd5, h⟩ := h
      refine rv 22 rfl rfl rfl (q_shl (a := hi_1) (b := (IntKind.u64.wrap ((128 : Int) - by_3))) (r := d5) rfl rfl rfl hd5) ?_
      refine rv 23 rfl rfl rfl (q_neq (a := d5) (b := (0 : Int)) rfl rfl rfl) ?_
      refine rv 24 rfl rfl rfl (q_move (v := .bool ((d5 != (0 : Int)))) rfl rfl) ?_
      refine ro_gval (g := (!(d5 != (0 : Int)))) (d := (some 25)) rfl (.no 9 24 true (d5 != (0 : Int)) rfl rfl rfl rfl) rfl (fun hg => q_move (v := .int .u64 (lo_2)) rfl rfl) ?_
      refine ro_gval (g := (!(d5 != (0 : Int)))) (d := (some 26)) rfl (.no 9 24 true (d5 != (0 : Int)) rfl rfl rfl rfl) rfl (fun hg => q_neq (k := .u64) (a := lo_2) (b := (0 : Int)) rfl (gvb_yes hg) rfl) ?_
      refine rv 27 rfl rfl rfl (q_pickGF (a := (d5 != (0 : Int))) (c := (lo_2 != (0 : Int))) rfl rfl rfl rfl) ?_
      refine rv 6 rfl rfl rfl (q_assign (v := .int .u64 (d4)) rfl rfl) ?_
      refine rv 7 rfl rfl rfl (q_assign (v := .bool (((d5 != (0 : Int)) || (lo_2 != (0 : Int))))) rfl rfl) ?_
      refine rv 8 rfl rfl rfl (q_assign (v := .bool (true)) rfl rfl) ?_
      refine ro_nil ?_
      refine wp_ret ?_
      exact ret_ok rfl (.cons (.tmp (v := .int .u64 (d4)) rfl) (.cons (.tmp (v := .bool (((d5 != (0 : Int)) || (lo_2 != (0 : Int))))) rfl) (.cons (.tmp (v := .bool (true)) rfl) .nil))) ⟨(d4, ((d5 != (0 : Int)) || (lo_2 != (0 : Int))), true), rfl, h⟩
    · refine wp_seq ?_
      refine wp_text [0, 1, 2] rfl ?_
      refine rv 29 rfl rfl rfl (q_move (v := .int .u64 (by_3)) rfl rfl) ?_
      refine rv 30 rfl rfl rfl (q_eql (a := by_3) (b := (64 : Int)) rfl rfl rfl) ?_
      refine rv 28 rfl rfl rfl (q_assign (v := .bool ((by_3 == (64 : Int)))) rfl rfl) ?_
      refine ro_nil ?_
      refine wp_if (b := (by_3 == (64 : Int))) rfl h (fun hb10 h => ?_) (fun hb10 h => ?_)
      · refine wp_seq ?_
        refine wp_text [0, 1, 2, 3, 4, 5] rfl ?_
        refine rv 31 rfl rfl rfl (q_move (v := .int .u64 (hi_1)) rfl rfl) ?_
        refine rv 32 rfl rfl rfl (q_move (v := .int .u64 (lo_2)) rfl rfl) ?_
        refine rv 33 rfl rfl rfl (q_neq (a := lo_2) (b := (0 : Int)) rfl rfl rfl) ?_
        refine rv 6 rfl rfl rfl (q_assign (v := .int .u64 (hi_1)) rfl rfl) ?_
        refine rv 7 rfl rfl rfl (q_assign (v := .bool ((lo_2 != (0 : Int)))) rfl rfl) ?_
        refine rv 8 rfl rfl rfl (q_assign (v := .bool (true)) rfl rfl) ?_
        refine ro_nil ?_
        refine wp_ret ?_
        exact ret_ok rfl (.cons (.tmp (v := .int .u64 (hi_1)) rfl) (.cons (.tmp (v := .bool ((lo_2 != (0 : Int)))) rfl) (.cons (.tmp (v := .bool (true)) rfl) .nil))) ⟨(hi_1, (lo_2 != (0 : Int)), true), rfl, h⟩
      · refine wp_skip ?_
        refine wp_seq ?_
        refine wp_text [0, 1, 2, 3, 4, 5, 6, 7, 8, 9, 10, 11, 12, 13, 14, 15, 16, 17, 18, 19] rfl ?_
        refine rv 34 rfl rfl rfl (q_move (v := .int .u64 (lo_2)) rfl rfl) ?_
        refine rv 35 rfl rfl rfl (q_move (v := .int .u64 (by_3)) rfl rfl) ?_
        obtain ⟨d6, hd6, h⟩ := h
        refine rv 36 rfl rfl rfl (q_shr (a := lo_2) (b := by_3) (r := d6) rfl rfl rfl hd6) ?_
        refine rv 37 rfl rfl rfl (q_move (v := .int .u64 (hi_1)) rfl rfl) ?_
        refine rv 38 rfl rfl rfl (q_move (v := .int .u64 (by_3)) rfl rfl) ?_
        refine rv 39 rfl rfl rfl (q_sub (a := (64 : Int)) (b := by_3) rfl rfl rfl) ?_
        obtain ⟨d7, hd7, h⟩ := h
        refine rv 40 rfl rfl rfl (q_shl (a := hi_1) (b := (IntKind.u64.wrap ((64 : Int) - by_3))) (r := d7) rfl rfl rfl hd7) ?_
        refine rv 41 rfl rfl rfl (q_or (a := d6) (b := d7) rfl rfl rfl) ?_
        refine rv 42 rfl rfl rfl (q_move (v := .int .u64 (lo_2)) rfl rfl) ?_
        refine rv 43 rfl rfl rfl (q_move (v := .int .u64 (by_3)) rfl rfl) ?_
        refine rv 44 rfl rfl rfl (q_sub (a := (64 : Int)) (b := by_3) rfl rfl rfl) ?_
        obtain ⟨d8, hd8, h⟩ := h
        refine rv 45 rfl rfl rfl (q_shl (a := lo_2) (b := (IntKind.u64.wrap ((64 : Int) - by_3))) (r := d8) rfl rfl rfl hd8) ?_
        refine rv 46 rfl rfl rfl (q_neq (a := d8) (b := (0 : Int)) rfl rfl rfl) ?_
        refine rv 47 rfl rfl rfl (q_move (v := .int .u64 (hi_1)) rfl rfl) ?_
        refine rv 48 rfl rfl rfl (q_move (v := .int .u64 (by_3)) rfl rfl) ?_
        obtain ⟨d9, hd9, h⟩ := h
        refine rv 49 rfl rfl rfl (q_shr (a := hi_1) (b := by_3) (r := d9) rfl rfl rfl hd9) ?_
        refine rv 50 rfl rfl rfl (q_eql (a := d9) (b := (0 : Int)) rfl rfl rfl) ?_
        refine rv 6 rfl rfl rfl (q_assign (v := .int .u64 ((bits .or .u64 d6 d7))) rfl rfl) ?_
        refine rv 7 rfl rfl rfl (q_assign (v := .bool ((d8 != (0 : Int)))) rfl rfl) ?_
        refine rv 8 rfl rfl rfl (q_assign (v := .bool ((d9 == (0 : Int)))) rfl rfl) ?_
        refine ro_nil ?_
        refine wp_ret ?_
        exact ret_ok rfl (.cons (.tmp (v := .int .u64 ((bits .or .u64 d6 d7))) rfl) (.cons (.tmp (v := .bool ((d8 != (0 : Int)))) rfl) (.cons (.tmp (v := .bool ((d9 == (0 : Int)))) rfl) .nil))) ⟨((bits .or .u64 d6 d7), (d8 != (0 : Int)), (d9 == (0 : Int))), rfl, h⟩
def F95 (x_1 : Nat) (w : World) (R : Nat → World → Prop) : Prop :=
  R (Int.toNat (bits .andNot .u64 (x_1 : Int) (9223372036854775808 : Int))) w
theorem F95_ok {x_1 : Nat} {w : World} {R : Nat → World → Prop} (h : F95 x_1 w R) : cl Tryz.prog 95 [.float .f64 (x_1)] tFlt w R := by
  unfold F95 at h
  refine calls_start 7 Tryz.func95 rfl rfl (Nat.le_of_ble_eq_true rfl) ?_
  refine wp_seq ?_
  refine wp_text [0] rfl ?_
  refine rv 2 rfl rfl rfl (q_assign (v := .float .f64 ((0 : Nat))) rfl rfl) ?_
  refine ro_nil ?_
  refine wp_seq ?_
  refine wp_text [0, 1, 2, 3, 4] rfl ?_
  refine rv 3 rfl rfl rfl (q_move (v := .float .f64 (x_1)) rfl rfl) ?_
  refine rv 4 rfl rfl rfl (q_f64bits (b := x_1) rfl ext72 rfl) ?_
  refine rv 5 rfl rfl rfl (q_andNot (a := (x_1 : Int)) (b := (9223372036854775808 : Int)) rfl rfl rfl) ?_
  refine rv 6 rfl rfl rfl (q_f64from (b := (bits .andNot .u64 (x_1 : Int) (9223372036854775808 : Int))) rfl ext106 rfl) ?_
  refine rv 2 rfl rfl rfl (q_assign (v := .float .f64 ((Int.toNat (bits .andNot .u64 (x_1 : Int) (9223372036854775808 : Int))))) rfl rfl) ?_
  refine ro_nil ?_
  refine wp_ret ?_
  exact ret_ok rfl (.cons (.tmp (v := .float .f64 ((Int.toNat (bits .andNot .u64 (x_1 : Int) (9223372036854775808 : Int))))) rfl) .nil) ⟨(Int.toNat (bits .andNot .u64 (x_1 : Int) (9223372036854775808 : Int))), rfl, h⟩
def F103_j1 (f_1 : Nat) (t_4 : Bool) (w5 : World) (R : (Nat × Int) → World → Prop) : Prop :=
  if t_4 = true then (
    R (f_1, (0 : Int)) w5
  ) else (
    cl Tryz.prog 109 [.float .f64 (f_1)] (tTup2 tFlt (tInt .i64)) w5 fun r7 w6 =>
    ex (Shift (52 : Int) (Int.fdiv (r7.1 : Int) (2 ^ (min ((52 : Int)).toNat IntKind.u64.bits)))) fun d8 =>
    R ((Int.toNat (bits .or .u64 (bits .andNot .u64 (r7.1 : Int) (9218868437227405312 : Int)) (4602678819172646912 : Int))), (IntKind.i64.wrap (r7.2 + (IntKind.i64.wrap ((IntKind.i64.wrap ((IntKind.i64.wrap (bits .and .u64 d8 (2047 : Int))) - (1023 : Int))) + (1 : Int)))))) w6
  )
def F103 (f_1 : Nat) (w : World) (R : (Nat × Int) → World → Prop) : Prop :=
  if (fcmp .eql f_1 (0 : Nat)) = true then (
    R (f_1, (0 : Int)) w
  ) else (
    cl Tryz.prog 73 [.float .f64 (f_1), .int .i64 ((0 : Int))] tBool w fun r3 w2 =>
    if r3 = true then (
      F103_j1 f_1 true w2 R
    ) else (
      cl Tryz.prog 108 [.float .f64 (f_1)] tBool w2 fun r12 w11 =>
      F103_j1 f_1 r12 w11 R
    )
  )
theorem F103_ok {f_1 : Nat} {w : World} {R : (Nat × Int) → World → Prop} (h : F103 f_1 w R) : cl Tryz.prog 103 [.float .f64 (f_1)] (tTup2 tFlt (tInt .i64)) w R := by
  unfold F103 at h
  refine calls_start 38 Tryz.func103 rfl rfl (Nat.le_of_ble_eq_true rfl) ?_
  refine wp_seq ?_
  refine wp_text [0, 1] rfl ?_
  refine rv 2 rfl rfl rfl (q_assign (v := .float .f64 ((0 : Nat))) rfl rfl) ?_
  refine rv 3 rfl rfl rfl (q_assign (v := .int .i64 ((0 : Int))) rfl rfl) ?_
  refine ro_nil ?_
  refine wp_seq ?_
  refine wp_block ?_
  refine wp_seq ?_
  refine wp_text [0, 1, 2] rfl ?_
  refine rv 6 rfl rfl rfl (q_move (v := .float .f64 (f_1)) rfl rfl) ?_
  refine rv 7 rfl rfl rfl (q_fcmp (op := .eql) (a := f_1) (b := (0 : Nat)) rfl (by decide) rfl rfl) ?_
  refine rv 5 rfl rfl rfl (q_assign (v := .bool ((fcmp .eql f_1 (0 : Nat)))) rfl rfl) ?_
  refine ro_nil ?_
  refine wp_if (b := (fcmp .eql f_1 (0 : Nat))) rfl h (fun hb13 h => ?_) (fun hb13 h => ?_)
  · refine wp_seq ?_
    refine wp_text [0, 1, 2] rfl ?_
    refine rv 8 rfl rfl rfl (q_move (v := .float .f64 (f_1)) rfl rfl) ?_
    refine rv 2 rfl rfl rfl (q_assign (v := .float .f64 (f_1)) rfl rfl) ?_
    refine rv 3 rfl rfl rfl (q_assign (v := .int .i64 ((0 : Int))) rfl rfl) ?_
    refine ro_nil ?_
    refine wp_ret ?_
    exact ret_ok rfl (.cons (.tmp (v := .float .f64 (f_1)) rfl) (.cons (.tmp (v := .int .i64 ((0 : Int))) rfl) .nil)) ⟨(f_1, (0 : Int)), rfl, h⟩
  · refine wp_seq ?_
    refine wp_text [0, 1, 2, 3, 4, 5, 6] rfl ?_
    refine rv 10 rfl rfl rfl (q_move (v := .float .f64 (f_1)) rfl rfl) ?_
    refine ro_wp rfl (.free rfl) (wp_cl (d := (some 11)) rfl (q_call (k := 73) (l := [.float .f64 (f_1), .int .i64 ((0 : Int))]) rfl ent73 rfl) h ?_)
    intro r3 w2 h
    refine rv 12 rfl rfl rfl (q_move (v := .bool (r3)) rfl rfl) ?_
    refine ro_join (σ := Bool) (J := fun (s : Bool) w => F103_j1 f_1 s w R) (fr := fun g (s : Bool) => upd (upd (g) 0 (.float .f64 (f_1))) 15 (.bool (s))) [3, 4, 5] [6] ?_ ?_
    · rintro t_4 g w5 h
      unfold F103_j1 at h
      refine rv 9 rfl rfl rfl (q_assign (v := .bool (t_4)) rfl rfl) ?_
      refine ro_nil ?_
      refine wp_if (b := t_4) rfl h (fun hb9 h => ?_) (fun hb9 h => ?_)
      · refine wp_seq ?_
        refine wp_text [0, 1, 2] rfl ?_
        refine rv 16 rfl rfl rfl (q_move (v := .float .f64 (f_1)) rfl rfl) ?_
        refine rv 2 rfl rfl rfl (q_assign (v := .float .f64 (f_1)) rfl rfl) ?_
        refine rv 3 rfl rfl rfl (q_assign (v := .int .i64 ((0 : Int))) rfl rfl) ?_
        refine ro_nil ?_
        refine wp_ret ?_
        exact ret_ok rfl (.cons (.tmp (v := .float .f64 (f_1)) rfl) (.cons (.tmp (v := .int .i64 ((0 : Int))) rfl) .nil)) ⟨(f_1, (0 : Int)), rfl, h⟩
      · refine wp_skip ?_
        refine wp_seq ?_
        refine wp_text [0, 1, 2, 3, 4, 5, 6] rfl ?_
        refine rv 18 rfl rfl rfl (q_move (v := .float .f64 (f_1)) rfl rfl) ?_
        refine ro_wp rfl (.free rfl) (wp_cl (d := (some 19)) rfl (q_call (k := 109) (l := [.float .f64 (f_1)]) rfl ent109 rfl) h ?_)
        intro r7 w6 h
        refine rv 17 rfl rfl rfl (q_move (v := (tTup2 tFlt (tInt .i64)).enc (r7)) rfl rfl) ?_
        refine rv 20 rfl rfl rfl (q_extract (vs := #[.float .f64 (r7.1), .int .i64 (r7.2)]) (v := .float .f64 (r7.1)) rfl rfl rfl) ?_
        refine rv 21 rfl rfl rfl (q_extract (vs := #[.float .f64 (r7.1), .int .i64 (r7.2)]) (v := .int .i64 (r7.2)) rfl rfl rfl) ?_
        refine rv 0 rfl rfl rfl (q_assign (v := .float .f64 (r7.1)) rfl rfl) ?_
        refine rv 3 rfl rfl rfl (q_assign (v := .int .i64 (r7.2)) rfl rfl) ?_
        refine ro_nil ?_
        refine wp_seq ?_
        refine wp_text [0, 1, 2] rfl ?_
        refine rv 22 rfl rfl rfl (q_move (v := .float .f64 (r7.1)) rfl rfl) ?_
        refine rv 23 rfl rfl rfl (q_f64bits (b := r7.1) rfl ext72 rfl) ?_
        refine rv 4 rfl rfl rfl (q_assign (v := .int .u64 ((r7.1 : Int))) rfl rfl) ?_
        refine ro_nil ?_
        refine wp_seq ?_
        refine wp_text [0, 1, 2, 3, 4, 5, 6, 7, 8] rfl ?_
        refine rv 24 rfl rfl rfl (q_move (v := .int .i64 (r7.2)) rfl rfl) ?_
        refine rv 25 rfl rfl rfl (q_move (v := .int .u64 ((r7.1 : Int))) rfl rfl) ?_
        obtain ⟨d8, hd8, h⟩ := h
        refine rv 26 rfl rfl rfl (q_shr (a := (r7.1 : Int)) (b := (52 : Int)) (r := d8) rfl rfl rfl hd8) ?_
        refine rv 27 rfl rfl rfl (q_and (a := d8) (b := (2047 : Int)) rfl rfl rfl) ?_
        refine rv 28 rfl rfl rfl (q_cvtI (a := (bits .and .u64 d8 (2047 : Int))) rfl Tryz.underlying122 Tryz.underlying3 rfl) ?_
        refine rv 29 rfl rfl rfl (q_sub (a := (IntKind.i64.wrap (bits .and .u64 d8 (2047 : Int)))) (b := (1023 : Int)) rfl rfl rfl) ?_
        refine rv 30 rfl rfl rfl (q_add (a := (IntKind.i64.wrap ((IntKind.i64.wrap (bits .and .u64 d8 (2047 : Int))) - (1023 : Int)))) (b := (1 : Int)) rfl rfl rfl) ?_
        refine rv 31 rfl rfl rfl (q_add (a := r7.2) (b := (IntKind.i64.wrap ((IntKind.i64.wrap ((IntKind.i64.wrap (bits .and .u64 d8 (2047 : Int))) - (1023 : Int))) + (1 : Int)))) rfl rfl rfl) ?_
        refine rv 3 rfl rfl rfl (q_assign (v := .int .i64 ((IntKind.i64.wrap (r7.2 + (IntKind.i64.wrap ((IntKind.i64.wrap ((IntKind.i64.wrap (bits .and .u64 d8 (2047 : Int))) - (1023 : Int))) + (1 : Int))))))) rfl rfl) ?_
        refine ro_nil ?_
        refine wp_seq ?_
        refine wp_text [0, 1, 2] rfl ?_
        refine rv 32 rfl rfl rfl (q_move (v := .int .u64 ((r7.1 : Int))) rfl rfl) ?_
        refine rv 33 rfl rfl rfl (q_andNot (a := (r7.1 : Int)) (b := (9218868437227405312 : Int)) rfl rfl rfl) ?_
        refine rv 4 rfl rfl rfl (q_assign (v := .int .u64 ((bits .andNot .u64 (r7.1 : Int) (9218868437227405312 : Int)))) rfl rfl) ?_
        refine ro_nil ?_
        refine wp_seq ?_
        refine wp_text [0, 1, 2] rfl ?_
        refine rv 34 rfl rfl rfl (q_move (v := .int .u64 ((bits .andNot .u64 (r7.1 : Int) (9218868437227405312 : Int)))) rfl rfl) ?_
        refine rv 35 rfl rfl rfl (q_or (a := (bits .andNot .u64 (r7.1 : Int) (9218868437227405312 : Int))) (b := (4602678819172646912 : Int)) rfl rfl rfl) ?_
        refine rv 4 rfl rfl rfl (q_assign (v := .int .u64 ((bits .or .u64 (bits .andNot .u64 (r7.1 : Int) (9218868437227405312 : Int)) (4602678819172646912 : Int)))) rfl rfl) ?_
        refine ro_nil ?_
        refine wp_seq ?_
        refine wp_text [0, 1, 2] rfl ?_
        refine rv 36 rfl rfl rfl (q_move (v := .int .u64 ((bits .or .u64 (bits .andNot .u64 (r7.1 : Int) (9218868437227405312 : Int)) (4602678819172646912 : Int)))) rfl rfl) ?_
        refine rv 37 rfl rfl rfl (q_f64from (b := (bits .or .u64 (bits .andNot .u64 (r7.1 : Int) (9218868437227405312 : Int)) (4602678819172646912 : Int))) rfl ext106 rfl) ?_
        refine rv 2 rfl rfl rfl (q_assign (v := .float .f64 ((Int.toNat (bits .or .u64 (bits .andNot .u64 (r7.1 : Int) (9218868437227405312 : Int)) (4602678819172646912 : Int))))) rfl rfl) ?_
        refine ro_nil ?_
        refine wp_ret ?_
        exact ret_ok rfl (.cons (.tmp (v := .float .f64 ((Int.toNat (bits .or .u64 (bits .andNot .u64 (r7.1 : Int) (9218868437227405312 : Int)) (4602678819172646912 : Int))))) rfl) (.cons (.tmp (v := .int .i64 ((IntKind.i64.wrap (r7.2 + (IntKind.i64.wrap ((IntKind.i64.wrap ((IntKind.i64.wrap (bits .and .u64 d8 (2047 : Int))) - (1023 : Int))) + (1 : Int))))))) rfl) .nil)) ⟨((Int.toNat (bits .or .u64 (bits .andNot .u64 (r7.1 : Int) (9218868437227405312 : Int)) (4602678819172646912 : Int))), (IntKind.i64.wrap (r7.2 + (IntKind.i64.wrap ((IntKind.i64.wrap ((IntKind.i64.wrap (bits .and .u64 d8 (2047 : Int))) - (1023 : Int))) + (1 : Int)))))), rfl, h⟩
    · refine ro_if (b := r3) h (fun hb10 h => ?_) (fun hb10 h => ?_)
      · refine ro_bar (d := (some 13)) rfl (.by_ 2 false 12 r3 rfl rfl rfl hb10) rfl ?_
        refine ro_bar (d := (some 14)) rfl (.by_ 2 false 12 r3 rfl rfl rfl hb10) rfl ?_
        refine rv 15 rfl rfl rfl (q_pickT (v := .bool (true)) (b := r3) rfl rfl hb10 rfl) ?_
        refine ro_nil ?_
        exact ⟨(true), _, arr (upd_step (upd_step rfl rfl) rfl), h⟩
      · refine ro_val (d := (some 13)) rfl (.by_ 2 false 12 r3 rfl rfl rfl hb10) rfl (q_move (v := .float .f64 (f_1)) rfl rfl) ?_
        refine ro_wp rfl (.by_ 2 false 12 r3 rfl rfl rfl hb10) (wp_cl (d := (some 14)) rfl (q_call (k := 108) (l := [.float .f64 (f_1)]) rfl ent108 rfl) h ?_)
        intro r12 w11 h
        refine rv 15 rfl rfl rfl (q_pickF (v := .bool (r12)) (b := r3) rfl rfl hb10 rfl) ?_
        refine ro_nil ?_
        exact ⟨(r12), _, arr (upd_step (upd_step rfl rfl) rfl), h⟩
def F105_j2 (r8 : (Nat × Int)) (exp_17 : Int) (m_18 : Nat) (w19 : World) (R : Nat → World → Prop) : Prop :=
  ex (Shift (52 : Int) (IntKind.u64.wrap ((IntKind.u64.wrap (IntKind.i64.wrap (exp_17 + (1023 : Int)))) * 2 ^ (min ((52 : Int)).toNat IntKind.u64.bits)))) fun d20 =>
  ex (FArith .mul m_18 (Int.toNat (bits .or .u64 (bits .andNot .u64 (r8.1 : Int) (9218868437227405312 : Int)) d20))) fun z21 =>
  R z21 w19
def F105_j1 (frac_1 : Nat) (exp_2 : Int) (t_5 : Bool) (w6 : World) (R : Nat → World → Prop) : Prop :=
  if t_5 = true then (
    R frac_1 w6
  ) else (
    cl Tryz.prog 109 [.float .f64 (frac_1)] (tTup2 tFlt (tInt .i64)) w6 fun r8 w7 =>
    ex (Shift (52 : Int) (Int.fdiv (r8.1 : Int) (2 ^ (min ((52 : Int)).toNat IntKind.u64.bits)))) fun d9 =>
    if (decide ((IntKind.i64.wrap ((IntKind.i64.wrap (exp_2 + r8.2)) + (IntKind.i64.wrap ((bits .and .i64 (IntKind.i64.wrap d9) (2047 : Int)) - (1023 : Int))))) < (-1075 : Int))) = true then (
      cl Tryz.prog 110 [.float .f64 ((0 : Nat)), .float .f64 (r8.1)] tFlt w7 fun r11 w10 =>
      R r11 w10
    ) else (
      if (decide ((IntKind.i64.wrap ((IntKind.i64.wrap (exp_2 + r8.2)) + (IntKind.i64.wrap ((bits .and .i64 (IntKind.i64.wrap d9) (2047 : Int)) - (1023 : Int))))) > (1023 : Int))) = true then (
        if (fcmp .lss r8.1 (0 : Nat)) = true then (
          cl Tryz.prog 111 [.int .i64 ((-1 : Int))] tFlt w7 fun r13 w12 =>
          R r13 w12
        ) else (
          cl Tryz.prog 111 [.int .i64 ((1 : Int))] tFlt w7 fun r15 w14 =>
          R r15 w14
        )
      ) else (
        if (decide ((IntKind.i64.wrap ((IntKind.i64.wrap (exp_2 + r8.2)) + (IntKind.i64.wrap ((bits .and .i64 (IntKind.i64.wrap d9) (2047 : Int)) - (1023 : Int))))) < (-1022 : Int))) = true then (
          F105_j2 r8 (IntKind.i64.wrap ((IntKind.i64.wrap ((IntKind.i64.wrap (exp_2 + r8.2)) + (IntKind.i64.wrap ((bits .and .i64 (IntKind.i64.wrap d9) (2047 : Int)) - (1023 : Int))))) + (53 : Int))) (4368491638549381120 : Nat) w7 R
        ) else (
          F105_j2 r8 (IntKind.i64.wrap ((IntKind.i64.wrap (exp_2 + r8.2)) + (IntKind.i64.wrap ((bits .and .i64 (IntKind.i64.wrap d9) (2047 : Int)) - (1023 : Int))))) (4607182418800017408 : Nat) w7 R
        )
      )
    )
  )
def F105 (frac_1 : Nat) (exp_2 : Int) (w : World) (R : Nat → World → Prop) : Prop :=
  if (fcmp .eql frac_1 (0 : Nat)) = true then (
    R frac_1 w
  ) else (
    cl Tryz.prog 73 [.float .f64 (frac_1), .int .i64 ((0 : Int))] tBool w fun r4 w3 =>
    if r4 = true then (
      F105_j1 frac_1 exp_2 true w3 R
    ) else (
      cl Tryz.prog 108 [.float .f64 (frac_1)] tBool w3 fun r28 w27 =>
      F105_j1 frac_1 exp_2 r28 w27 R
    )
  )
theorem F105_ok {frac_1 : Nat} {exp_2 : Int} {w : World} {R : Nat → World → Prop} (h : F105 frac_1 exp_2 w R) : cl Tryz.prog 105 [.float .f64 (frac_1), .int .i64 (exp_2)] tFlt w R := by
  unfold F105 at h
  refine calls_start 63 Tryz.func105 rfl rfl (Nat.le_of_ble_eq_true rfl) ?_
  refine wp_seq ?_
  refine wp_text [0] rfl ?_
  refine rv 4 rfl rfl rfl (q_assign (v := .float .f64 ((0 : Nat))) rfl rfl) ?_
  refine ro_nil ?_
  refine wp_seq ?_
  refine wp_block ?_
  refine wp_seq ?_
  refine wp_text [0, 1, 2] rfl ?_
  refine rv 9 rfl rfl rfl (q_move (v := .float .f64 (frac_1)) rfl rfl) ?_
  refine rv 10 rfl rfl rfl (q_fcmp (op := .eql) (a := frac_1) (b := (0 : Nat)) rfl (by decide) rfl rfl) ?_
  refine rv 8 rfl rfl rfl (q_assign (v := .bool ((fcmp .eql frac_1 (0 : Nat)))) rfl rfl) ?_
  refine ro_nil ?_
  refine wp_if (b := (fcmp .eql frac_1 (0 : Nat))) rfl h (fun hb29 h => ?_) (fun hb29 h => ?_)
  · refine wp_seq ?_
    refine wp_text [0, 1] rfl ?_
    refine rv 11 rfl rfl rfl (q_move (v := .float .f64 (frac_1)) rfl rfl) ?_
    refine rv 4 rfl rfl rfl (q_assign (v := .float .f64 (frac_1)) rfl rfl) ?_
    refine ro_nil ?_
    refine wp_ret ?_
    exact ret_ok rfl (.cons (.tmp (v := .float .f64 (frac_1)) rfl) .nil) ⟨frac_1, rfl, h⟩
  · refine wp_seq ?_
    refine wp_text [0, 1, 2, 3, 4, 5, 6] rfl ?_
    refine rv 13 rfl rfl rfl (q_move (v := .float .f64 (frac_1)) rfl rfl) ?_
    refine ro_wp rfl (.free rfl) (wp_cl (d := (some 14)) rfl (q_call (k := 73) (l := [.float .f64 (frac_1), .int .i64 ((0 : Int))]) rfl ent73 rfl) h ?_)
    intro r4 w3 h
    refine rv 15 rfl rfl rfl (q_move (v := .bool (r4)) rfl rfl) ?_
    refine ro_join (σ := Bool) (J := fun (s : Bool) w => F105_j1 frac_1 exp_2 s w R) (fr := fun g (s : Bool) => upd (upd (upd (g) 0 (.float .f64 (frac_1))) 1 (.int .i64 (exp_2))) 18 (.bool (s))) [3, 4, 5] [6] ?_ ?_
    · rintro t_5 g w6 h
      unfold F105_j1 at h
      refine rv 12 rfl rfl rfl (q_assign (v := .bool (t_5)) rfl rfl) ?_
      refine ro_nil ?_
      refine wp_if (b := t_5) rfl h (fun hb25 h => ?_) (fun hb25 h => ?_)
      · refine wp_seq ?_
        refine wp_text [0, 1] rfl ?_
        refine rv 19 rfl rfl rfl (q_move (v := .float .f64 (frac_1)) rfl rfl) ?_
        refine rv 4 rfl rfl rfl (q_assign (v := .float .f64 (frac_1)) rfl rfl) ?_
        refine ro_nil ?_
        refine wp_ret ?_
        exact ret_ok rfl (.cons (.tmp (v := .float .f64 (frac_1)) rfl) .nil) ⟨frac_1, rfl, h⟩
      · refine wp_skip ?_
        refine wp_seq ?_
        refine wp_text [0, 1, 2, 3, 4, 5, 6] rfl ?_
        refine rv 21 rfl rfl rfl (q_move (v := .float .f64 (frac_1)) rfl rfl) ?_
        refine ro_wp rfl (.free rfl) (wp_cl (d := (some 22)) rfl (q_call (k := 109) (l := [.float .f64 (frac_1)]) rfl ent109 rfl) h ?_)
        intro r8 w7 h
        refine rv 20 rfl rfl rfl (q_move (v := (tTup2 tFlt (tInt .i64)).enc (r8)) rfl rfl) ?_
        refine rv 23 rfl rfl rfl (q_extract (vs := #[.float .f64 (r8.1), .int .i64 (r8.2)]) (v := .float .f64 (r8.1)) rfl rfl rfl) ?_
        refine rv 24 rfl rfl rfl (q_extract (vs := #[.float .f64 (r8.1), .int .i64 (r8.2)]) (v := .int .i64 (r8.2)) rfl rfl rfl) ?_
        refine rv 0 rfl rfl rfl (q_assign (v := .float .f64 (r8.1)) rfl rfl) ?_
        refine rv 5 rfl rfl rfl (q_assign (v := .int .i64 (r8.2)) rfl rfl) ?_
        refine ro_nil ?_
        refine wp_seq ?_
        refine wp_text [0, 1, 2, 3] rfl ?_
        refine rv 25 rfl rfl rfl (q_move (v := .int .i64 (exp_2)) rfl rfl) ?_
        refine rv 26 rfl rfl rfl (q_move (v := .int .i64 (r8.2)) rfl rfl) ?_
        refine rv 27 rfl rfl rfl (q_add (a := exp_2) (b := r8.2) rfl rfl rfl) ?_
        refine rv 1 rfl rfl rfl (q_assign (v := .int .i64 ((IntKind.i64.wrap (exp_2 + r8.2)))) rfl rfl) ?_
        refine ro_nil ?_
        refine wp_seq ?_
        refine wp_text [0, 1, 2] rfl ?_
        refine rv 28 rfl rfl rfl (q_move (v := .float .f64 (r8.1)) rfl rfl) ?_
        refine rv 29 rfl rfl rfl (q_f64bits (b := r8.1) rfl ext72 rfl) ?_
        refine rv 6 rfl rfl rfl (q_assign (v := .int .u64 ((r8.1 : Int))) rfl rfl) ?_
        refine ro_nil ?_
        refine wp_seq ?_
        refine wp_text [0, 1, 2, 3, 4, 5, 6, 7] rfl ?_
        refine rv 30 rfl rfl rfl (q_move (v := .int .i64 ((IntKind.i64.wrap (exp_2 + r8.2)))) rfl rfl) ?_
        refine rv 31 rfl rfl rfl (q_move (v := .int .u64 ((r8.1 : Int))) rfl rfl) ?_
        obtain ⟨d9, hd9, h⟩ := h
        refine rv 32 rfl rfl rfl (q_shr (a := (r8.1 : Int)) (b := (52 : Int)) (r := d9) rfl rfl rfl hd9) ?_
        refine rv 33 rfl rfl rfl (q_cvtI (a := d9) rfl Tryz.underlying122 Tryz.underlying3 rfl) ?_
        refine rv 34 rfl rfl rfl (q_and (a := (IntKind.i64.wrap d9)) (b := (2047 : Int)) rfl rfl rfl) ?_
        refine rv 35 rfl rfl rfl (q_sub (a := (bits .and .i64 (IntKind.i64.wrap d9) (2047 : Int))) (b := (1023 : Int)) rfl rfl rfl) ?_
        refine rv 36 rfl rfl rfl (q_add (a := (IntKind.i64.wrap (exp_2 + r8.2))) (b := (IntKind.i64.wrap ((bits .and .i64 (IntKind.i64.wrap d9) (2047 : Int)) - (1023 : Int)))) rfl rfl rfl) ?_
        refine rv 1 rfl rfl rfl (q_assign (v := .int .i64 ((IntKind.i64.wrap ((IntKind.i64.wrap (exp_2 + r8.2)) + (IntKind.i64.wrap ((bits .and .i64 (IntKind.i64.wrap d9) (2047 : Int)) - (1023 : Int))))))) rfl rfl) ?_
        refine ro_nil ?_
        refine wp_seq ?_
        refine wp_seq ?_
        refine wp_text [0, 1] rfl ?_
        refine rv 37 rfl rfl rfl (q_move (v := .int .i64 ((IntKind.i64.wrap ((IntKind.i64.wrap (exp_2 + r8.2)) + (IntKind.i64.wrap ((bits .and .i64 (IntKind.i64.wrap d9) (2047 : Int)) - (1023 : Int))))))) rfl rfl) ?_
        refine rv 38 rfl rfl rfl (q_lss (a := (IntKind.i64.wrap ((IntKind.i64.wrap (exp_2 + r8.2)) + (IntKind.i64.wrap ((bits .and .i64 (IntKind.i64.wrap d9) (2047 : Int)) - (1023 : Int)))))) (b := (-1075 : Int)) rfl rfl rfl) ?_
        refine ro_nil ?_
        refine wp_if (b := (decide ((IntKind.i64.wrap ((IntKind.i64.wrap (exp_2 + r8.2)) + (IntKind.i64.wrap ((bits .and .i64 (IntKind.i64.wrap d9) (2047 : Int)) - (1023 : Int))))) < (-1075 : Int)))) rfl h (fun hb24 h => ?_) (fun hb24 h => ?_)
        · refine wp_seq ?_
          refine wp_text [0, 1, 2] rfl ?_
          refine rv 39 rfl rfl rfl (q_move (v := .float .f64 (r8.1)) rfl rfl) ?_
          refine ro_wp rfl (.free rfl) (wp_cl (d := (some 40)) rfl (q_call (k := 110) (l := [.float .f64 ((0 : Nat)), .float .f64 (r8.1)]) rfl ent110 rfl) h ?_)
          intro r11 w10 h
          refine rv 4 rfl rfl rfl (q_assign (v := .float .f64 (r11)) rfl rfl) ?_
          refine ro_nil ?_
          refine wp_ret ?_
          exact ret_ok rfl (.cons (.tmp (v := .float .f64 (r11)) rfl) .nil) ⟨r11, rfl, h⟩
        · refine wp_skip ?_
          refine wp_seq ?_
          refine wp_seq ?_
          refine wp_text [0, 1] rfl ?_
          refine rv 41 rfl rfl rfl (q_move (v := .int .i64 ((IntKind.i64.wrap ((IntKind.i64.wrap (exp_2 + r8.2)) + (IntKind.i64.wrap ((bits .and .i64 (IntKind.i64.wrap d9) (2047 : Int)) - (1023 : Int))))))) rfl rfl) ?_
          refine rv 42 rfl rfl rfl (q_gtr (a := (IntKind.i64.wrap ((IntKind.i64.wrap (exp_2 + r8.2)) + (IntKind.i64.wrap ((bits .and .i64 (IntKind.i64.wrap d9) (2047 : Int)) - (1023 : Int)))))) (b := (1023 : Int)) rfl rfl rfl) ?_
          refine ro_nil ?_
          refine wp_if (b := (decide ((IntKind.i64.wrap ((IntKind.i64.wrap (exp_2 + r8.2)) + (IntKind.i64.wrap ((bits .and .i64 (IntKind.i64.wrap d9) (2047 : Int)) - (1023 : Int))))) > (1023 : Int)))) rfl h (fun hb23 h => ?_) (fun hb23 h => ?_)
          · refine wp_seq ?_
            refine wp_seq ?_
            refine wp_text [0, 1] rfl ?_
            refine rv 43 rfl rfl rfl (q_move (v := .float .f64 (r8.1)) rfl rfl) ?_
            refine rv 44 rfl rfl rfl (q_fcmp (op := .lss) (a := r8.1) (b := (0 : Nat)) rfl (by decide) rfl rfl) ?_
            refine ro_nil ?_
            refine wp_if (b := (fcmp .lss r8.1 (0 : Nat))) rfl h (fun hb16 h => ?_) (fun hb16 h => ?_)
            · refine wp_seq ?_
              refine wp_text [0, 1] rfl ?_
              refine ro_wp rfl (.free rfl) (wp_cl (d := (some 45)) rfl (q_call (k := 111) (l := [.int .i64 ((-1 : Int))]) rfl ent111 rfl) h ?_)
              intro r13 w12 h
              refine rv 4 rfl rfl rfl (q_assign (v := .float .f64 (r13)) rfl rfl) ?_
              refine ro_nil ?_
              refine wp_ret ?_
              exact ret_ok rfl (.cons (.tmp (v := .float .f64 (r13)) rfl) .nil) ⟨r13, rfl, h⟩
            · refine wp_skip ?_
              refine wp_seq ?_
              refine wp_text [0, 1] rfl ?_
              refine ro_wp rfl (.free rfl) (wp_cl (d := (some 46)) rfl (q_call (k := 111) (l := [.int .i64 ((1 : Int))]) rfl ent111 rfl) h ?_)
              intro r15 w14 h
              refine rv 4 rfl rfl rfl (q_assign (v := .float .f64 (r15)) rfl rfl) ?_
              refine ro_nil ?_
              refine wp_ret ?_
              exact ret_ok rfl (.cons (.tmp (v := .float .f64 (r15)) rfl) .nil) ⟨r15, rfl, h⟩
          · refine wp_skip ?_
            refine wp_seq ?_
            refine wp_text [0] rfl ?_
            refine rv 7 rfl rfl rfl (q_assign (v := .float .f64 ((4607182418800017408 : Nat))) rfl rfl) ?_
            refine ro_nil ?_
            refine seq_join (σ := Int × Nat) (J := fun (s : Int × Nat) w => F105_j2 r8 s.1 s.2 w R) (fr := fun g (s : Int × Nat) => upd (upd (upd (g) 6 (.int .u64 ((r8.1 : Int)))) 1 (.int .i64 (s.1))) 7 (.float .f64 (s.2))) ?_ ?_
            · rintro ⟨exp_17, m_18⟩ g w19 h
              unfold F105_j2 at h
              refine wp_seq ?_
              refine wp_text [0, 1, 2] rfl ?_
              refine rv 51 rfl rfl rfl (q_move (v := .int .u64 ((r8.1 : Int))) rfl rfl) ?_
              refine rv 52 rfl rfl rfl (q_andNot (a := (r8.1 : Int)) (b := (9218868437227405312 : Int)) rfl rfl rfl) ?_
              refine rv 6 rfl rfl rfl (q_assign (v := .int .u64 ((bits .andNot .u64 (r8.1 : Int) (9218868437227405312 : Int)))) rfl rfl) ?_
              refine ro_nil ?_
              refine wp_seq ?_
              refine wp_text [0, 1, 2, 3, 4, 5, 6] rfl ?_
              refine rv 53 rfl rfl rfl (q_move (v := .int .u64 ((bits .andNot .u64 (r8.1 : Int) (9218868437227405312 : Int)))) rfl rfl) ?_
              refine rv 54 rfl rfl rfl (q_move (v := .int .i64 (exp_17)) rfl rfl) ?_
              refine rv 55 rfl rfl rfl (q_add (a := exp_17) (b := (1023 : Int)) rfl rfl rfl) ?_
              refine rv 56 rfl rfl rfl (q_cvtI (a := (IntKind.i64.wrap (exp_17 + (1023 : Int)))) rfl Tryz.underlying3 Tryz.underlying122 rfl) ?_
              obtain ⟨d20, hd20, h⟩ := h
              refine rv 57 rfl rfl rfl (q_shl (a := (IntKind.u64.wrap (IntKind.i64.wrap (exp_17 + (1023 : Int))))) (b := (52 : Int)) (r := d20) rfl rfl rfl hd20) ?_
              refine rv 58 rfl rfl rfl (q_or (a := (bits .andNot .u64 (r8.1 : Int) (9218868437227405312 : Int))) (b := d20) rfl rfl rfl) ?_
              refine rv 6 rfl rfl rfl (q_assign (v := .int .u64 ((bits .or .u64 (bits .andNot .u64 (r8.1 : Int) (9218868437227405312 : Int)) d20))) rfl rfl) ?_
              refine ro_nil ?_
              refine wp_seq ?_
              refine wp_text [0, 1, 2, 3, 4] rfl ?_
              refine rv 59 rfl rfl rfl (q_move (v := .float .f64 (m_18)) rfl rfl) ?_
              refine rv 60 rfl rfl rfl (q_move (v := .int .u64 ((bits .or .u64 (bits .andNot .u64 (r8.1 : Int) (9218868437227405312 : Int)) d20))) rfl rfl) ?_
              refine rv 61 rfl rfl rfl (q_f64from (b := (bits .or .u64 (bits .andNot .u64 (r8.1 : Int) (9218868437227405312 : Int)) d20)) rfl ext106 rfl) ?_
              obtain ⟨z21, hz21, h⟩ := h
              refine rv 62 rfl rfl rfl (q_farith (op := .mul) (a := m_18) (b := (Int.toNat (bits .or .u64 (bits .andNot .u64 (r8.1 : Int) (9218868437227405312 : Int)) d20))) (r := z21) rfl rfl rfl rfl hz21) ?_
              refine rv 4 rfl rfl rfl (q_assign (v := .float .f64 (z21)) rfl rfl) ?_
              refine ro_nil ?_
              refine wp_ret ?_
              exact ret_ok rfl (.cons (.tmp (v := .float .f64 (z21)) rfl) .nil) ⟨z21, rfl, h⟩
            · refine wp_seq ?_
              refine wp_text [0, 1] rfl ?_
              refine rv 47 rfl rfl rfl (q_move (v := .int .i64 ((IntKind.i64.wrap ((IntKind.i64.wrap (exp_2 + r8.2)) + (IntKind.i64.wrap ((bits .and .i64 (IntKind.i64.wrap d9) (2047 : Int)) - (1023 : Int))))))) rfl rfl) ?_
              refine rv 48 rfl rfl rfl (q_lss (a := (IntKind.i64.wrap ((IntKind.i64.wrap (exp_2 + r8.2)) + (IntKind.i64.wrap ((bits .and .i64 (IntKind.i64.wrap d9) (2047 : Int)) - (1023 : Int)))))) (b := (-1022 : Int)) rfl rfl rfl) ?_
              refine ro_nil ?_
              refine wp_if (b := (decide ((IntKind.i64.wrap ((IntKind.i64.wrap (exp_2 + r8.2)) + (IntKind.i64.wrap ((bits .and .i64 (IntKind.i64.wrap d9) (2047 : Int)) - (1023 : Int))))) < (-1022 : Int)))) rfl h (fun hb22 h => ?_) (fun hb22 h => ?_)
              · refine wp_seq ?_
                refine wp_text [0, 1, 2] rfl ?_
                refine rv 49 rfl rfl rfl (q_move (v := .int .i64 ((IntKind.i64.wrap ((IntKind.i64.wrap (exp_2 + r8.2)) + (IntKind.i64.wrap ((bits .and .i64 (IntKind.i64.wrap d9) (2047 : Int)) - (1023 : Int))))))) rfl rfl) ?_
                refine rv 50 rfl rfl rfl (q_add (a := (IntKind.i64.wrap ((IntKind.i64.wrap (exp_2 + r8.2)) + (IntKind.i64.wrap ((bits .and .i64 (IntKind.i64.wrap d9) (2047 : Int)) - (1023 : Int)))))) (b := (53 : Int)) rfl rfl rfl) ?_
                refine rv 1 rfl rfl rfl (q_assign (v := .int .i64 ((IntKind.i64.wrap ((IntKind.i64.wrap ((IntKind.i64.wrap (exp_2 + r8.2)) + (IntKind.i64.wrap ((bits .and .i64 (IntKind.i64.wrap d9) (2047 : Int)) - (1023 : Int))))) + (53 : Int))))) rfl rfl) ?_
                refine ro_nil ?_
                refine wp_text [0] rfl ?_
                refine rv 7 rfl rfl rfl (q_assign (v := .float .f64 ((4368491638549381120 : Nat))) rfl rfl) ?_
                refine ro_nil ?_
                exact ⟨((IntKind.i64.wrap ((IntKind.i64.wrap ((IntKind.i64.wrap (exp_2 + r8.2)) + (IntKind.i64.wrap ((bits .and .i64 (IntKind.i64.wrap d9) (2047 : Int)) - (1023 : Int))))) + (53 : Int))), (4368491638549381120 : Nat)), _, arr (upd_step (upd_step (upd_step rfl rfl) rfl) rfl), h⟩
              · refine wp_skip ?_
                exact ⟨((IntKind.i64.wrap ((IntKind.i64.wrap (exp_2 + r8.2)) + (IntKind.i64.wrap ((bits .and .i64 (IntKind.i64.wrap d9) (2047 : Int)) - (1023 : Int))))), (4607182418800017408 : Nat)), _, arr (upd_step (upd_step (upd_step rfl rfl) rfl) rfl), h⟩
    · refine ro_if (b := r4) h (fun hb26 h => ?_) (fun hb26 h => ?_)
      · refine ro_bar (d := (some 16)) rfl (.by_ 2 false 15 r4 rfl rfl rfl hb26) rfl ?_
        refine ro_bar (d := (some 17)) rfl (.by_ 2 false 15 r4 rfl rfl rfl hb26) rfl ?_
        refine rv 18 rfl rfl rfl (q_pickT (v := .bool (true)) (b := r4) rfl rfl hb26 rfl) ?_
        refine ro_nil ?_
        exact ⟨(true), _, arr (upd_step (upd_step (upd_step rfl rfl) rfl) rfl), h⟩
      · refine ro_val (d := (some 16)) rfl (.by_ 2 false 15 r4 rfl rfl rfl hb26) rfl (q_move (v := .float .f64 (frac_1)) rfl rfl) ?_
        refine ro_wp rfl (.by_ 2 false 15 r4 rfl rfl rfl hb26) (wp_cl (d := (some 17)) rfl (q_call (k := 108) (l := [.float .f64 (frac_1)]) rfl ent108 rfl) h ?_)
        intro r28 w27 h
        refine rv 18 rfl rfl rfl (q_pickF (v := .bool (r28)) (b := r4) rfl rfl hb26 rfl) ?_
        refine ro_nil ?_
        exact ⟨(r28), _, arr (upd_step (upd_step (upd_step rfl rfl) rfl) rfl), h⟩
def F108 (f_1 : Nat) (w : World) (R : Bool → World → Prop) : Prop :=
  R (fcmp .neq f_1 f_1) w
theorem F108_ok {f_1 : Nat} {w : World} {R : Bool → World → Prop} (h : F108 f_1 w R) : cl Tryz.prog 108 [.float .f64 (f_1)] tBool w R := by
  unfold F108 at h
  refine calls_start 6 Tryz.func108 rfl rfl (Nat.le_of_ble_eq_true rfl) ?_
  refine wp_seq ?_
  refine wp_text [0] rfl ?_
  refine rv 2 rfl rfl rfl (q_assign (v := .bool (false)) rfl rfl) ?_
  refine ro_nil ?_
  refine wp_seq ?_
  refine wp_text [0, 1, 2, 3] rfl ?_
  refine rv 3 rfl rfl rfl (q_move (v := .float .f64 (f_1)) rfl rfl) ?_
  refine rv 4 rfl rfl rfl (q_move (v := .float .f64 (f_1)) rfl rfl) ?_
  refine rv 5 rfl rfl rfl (q_fcmp (op := .neq) (a := f_1) (b := f_1) rfl (by decide) rfl rfl) ?_
  refine rv 2 rfl rfl rfl (q_assign (v := .bool ((fcmp .neq f_1 f_1))) rfl rfl) ?_
  refine ro_nil ?_
  refine wp_ret ?_
  exact ret_ok rfl (.cons (.tmp (v := .bool ((fcmp .neq f_1 f_1))) rfl) .nil) ⟨(fcmp .neq f_1 f_1), rfl, h⟩
def F109 (x_1 : Nat) (w : World) (R : (Nat × Int) → World → Prop) : Prop :=
  cl Tryz.prog 95 [.float .f64 (x_1)] tFlt w fun r3 w2 =>
  if (fcmp .lss r3 (4503599627370496 : Nat)) = true then (
    ex (FArith .mul x_1 (4841369599423283200 : Nat)) fun z4 =>
    R (z4, (-52 : Int)) w2
  ) else (
    R (x_1, (0 : Int)) w2
  )
theorem F109_ok {x_1 : Nat} {w : World} {R : (Nat × Int) → World → Prop} (h : F109 x_1 w R) : cl Tryz.prog 109 [.float .f64 (x_1)] (tTup2 tFlt (tInt .i64)) w R := by
  unfold F109 at h
  refine calls_start 10 Tryz.func109 rfl rfl (Nat.le_of_ble_eq_true rfl) ?_
  refine wp_seq ?_
  refine wp_text [0, 1] rfl ?_
  refine rv 2 rfl rfl rfl (q_assign (v := .float .f64 ((0 : Nat))) rfl rfl) ?_
  refine rv 3 rfl rfl rfl (q_assign (v := .int .i64 ((0 : Int))) rfl rfl) ?_
  refine ro_nil ?_
  refine wp_seq ?_
  refine wp_seq ?_
  refine wp_text [0, 1, 2] rfl ?_
  refine rv 4 rfl rfl rfl (q_move (v := .float .f64 (x_1)) rfl rfl) ?_
  refine ro_wp rfl (.free rfl) (wp_cl (d := (some 5)) rfl (q_call (k := 95) (l := [.float .f64 (x_1)]) rfl ent95 rfl) h ?_)
  intro r3 w2 h
  refine rv 6 rfl rfl rfl (q_fcmp (op := .lss) (a := r3) (b := (4503599627370496 : Nat)) rfl (by decide) rfl rfl) ?_
  refine ro_nil ?_
  refine wp_if (b := (fcmp .lss r3 (4503599627370496 : Nat))) rfl h (fun hb5 h => ?_) (fun hb5 h => ?_)
  · refine wp_seq ?_
    refine wp_text [0, 1, 2, 3] rfl ?_
    refine rv 7 rfl rfl rfl (q_move (v := .float .f64 (x_1)) rfl rfl) ?_
    obtain ⟨z4, hz4, h⟩ := h
    refine rv 8 rfl rfl rfl (q_farith (op := .mul) (a := x_1) (b := (4841369599423283200 : Nat)) (r := z4) rfl rfl rfl rfl hz4) ?_
    refine rv 2 rfl rfl rfl (q_assign (v := .float .f64 (z4)) rfl rfl) ?_
    refine rv 3 rfl rfl rfl (q_assign (v := .int .i64 ((-52 : Int))) rfl rfl) ?_
    refine ro_nil ?_
    refine wp_ret ?_
    exact ret_ok rfl (.cons (.tmp (v := .float .f64 (z4)) rfl) (.cons (.tmp (v := .int .i64 ((-52 : Int))) rfl) .nil)) ⟨(z4, (-52 : Int)), rfl, h⟩
  · refine wp_skip ?_
    refine wp_seq ?_
    refine wp_text [0, 1, 2] rfl ?_
    refine rv 9 rfl rfl rfl (q_move (v := .float .f64 (x_1)) rfl rfl) ?_
    refine rv 2 rfl rfl rfl (q_assign (v := .float .f64 (x_1)) rfl rfl) ?_
    refine rv 3 rfl rfl rfl (q_assign (v := .int .i64 ((0 : Int))) rfl rfl) ?_
    refine ro_nil ?_
    refine wp_ret ?_
    exact ret_ok rfl (.cons (.tmp (v := .float .f64 (x_1)) rfl) (.cons (.tmp (v := .int .i64 ((0 : Int))) rfl) .nil)) ⟨(x_1, (0 : Int)), rfl, h⟩
end Go.Proofs.YtpdaapffkdejoaaGreat.Cf
namespace Go.Proofs.YtpdaapffkdejoaaGreat.Store
open Go Go.Proofs.YtpdaapffkdejoaaGreat.Cf
set_option linter.unusedVariables false
set_option linter.unusedSimpArgs false
set_option maxRecDepth 100000
structure Row where
  T_ : Int
  X : S62
structure Md where
  rows : List Row
  closed : Int
  mark : Int
def vs (L : List Row) (k : Int) : List S86 := (L.filter fun r => r.X.Key == k).map fun r => ⟨r.T_, r.X.V⟩
def upto (l : List S86) (at_ : Int) : List S86 := l.filter fun v => decide (v.T_ ≤ at_)
def cnt (l : List S86) (at_ : Int) : Option S86 := (upto l at_).getLast?
def timeM (m : Md) (at_ : Int) : Int := if at_ < 0 ∨ at_ > 1125899906842624 then 120 else if at_ > m.closed then 128 else if at_ < m.mark then 126 else 0
def getM (m : Md) (key at_ : Int) : S86 × Int :=
  if key < 0 ∨ key > 8191 then (⟨0, 0⟩, 123) else if timeM m at_ ≠ 0 then (⟨0, 0⟩, timeM m at_)
  else match cnt (vs m.rows key) at_ with
    | none => (⟨0, 0⟩, 127)
    | some v => (v, 0)
def lastV (l : List S86) : S86 × Bool := (l.getLast?.getD ⟨0, 0⟩, l.getLast?.isSome)
def whyL (L : List Row) (t : Int) : List Int → List S62 → Int
  | _, [] => 0
  | seen, x :: xs => if x.Key < 0 ∨ x.Key > 8191 then 123 else if x.Key ∈ seen then 124 else if (lastV (vs L x.Key)).1.T_ ≥ t then 121 else if 10000 ≤ (vs L x.Key).length then 125 else whyL L t (seen ++ [x.Key]) xs
def putE (m : Md) (t : Int) (l : List S62) : Int :=
  if t < 1 ∨ t > 1125899906842624 then 120 else if t ≤ m.closed then 121 else if l.length > 100 then 122 else whyL m.rows t [] l
def news (t : Int) (l : List S62) : List Row := l.map fun x => ⟨t, x⟩
def putM (m : Md) (t : Int) (l : List S62) : Md := if putE m t l = 0 then { m with rows := m.rows ++ news t l } else m
def closeE (t : Int) : Int := if t < 0 ∨ t > 1125899906842624 then 120 else 0
def closeM (m : Md) (t : Int) : Md := if closeE t = 0 then { m with closed := max m.closed t } else m
def gone (mark : Int) (r : Row) (L : List Row) : Bool := L.any fun q => (q.X.Key == r.X.Key) && decide (q.T_ ≤ mark)
def keep (mark : Int) : List Row → List Row
  | [] => []
  | r :: L => if gone mark r L = true then keep mark L else r :: keep mark L
def keepV (mark : Int) : List S86 → List S86
  | [] => []
  | v :: l => if l.any (fun q => decide (q.T_ ≤ mark)) = true then keepV mark l else v :: keepV mark l
def pruneE (m : Md) (t : Int) : Int := if t < 0 ∨ t > 1125899906842624 then 120 else if t > m.closed then 128 else 0
def pruneM (m : Md) (t : Int) : Md := if pruneE m t = 0 then ⟨keep (max m.mark t) m.rows, m.closed, max m.mark t⟩ else m
structure Keys (L : List Row) (ks : List Int) : Prop where
  rise : ks.Pairwise fun x y => x < y
  all : ∀ k, k ∈ ks ↔ vs L k ≠ []
def snapK (L : List Row) (at_ : Int) (ks : List Int) : List S62 := ks.filterMap fun k => (cnt (vs L k) at_).map fun v => ⟨k, v.V⟩
structure Inv (m : Md) : Prop where
  cap : ∀ k, (vs m.rows k).length ≤ 10000
  key : ∀ r ∈ m.rows, 0 ≤ r.X.Key ∧ r.X.Key ≤ 8191
  time : ∀ r ∈ m.rows, 1 ≤ r.T_ ∧ r.T_ ≤ 1125899906842624
  rise : m.rows.Pairwise fun a b => a.X.Key = b.X.Key → a.T_ < b.T_
  mark : 0 ≤ m.mark ∧ m.mark ≤ m.closed ∧ m.closed ≤ 1125899906842624
def Rise (l : List S86) : Prop := l.Pairwise fun a b => a.T_ < b.T_
theorem vs_app (L M : List Row) (k : Int) : vs (L ++ M) k = vs L k ++ vs M k := by simp [vs]
theorem vs_nil (k : Int) : vs [] k = [] := rfl
theorem vs_cons (r : Row) (L : List Row) (k : Int) : vs (r :: L) k = if r.X.Key = k then ⟨r.T_, r.X.V⟩ :: vs L k else vs L k := by
  unfold vs
  by_cases h : r.X.Key = k
  · rw [if_pos h, List.filter_cons_of_pos (by simpa using h)]; rfl
  · rw [if_neg h, List.filter_cons_of_neg (by simpa using h)]
theorem vs_mem {L : List Row} {k : Int} {v : S86} (h : v ∈ vs L k) : ∃ r ∈ L, r.X.Key = k ∧ r.T_ = v.T_ ∧ r.X.V = v.V := by
  unfold vs at h
  obtain ⟨r, hr, rfl⟩ := List.mem_map.1 h
  obtain ⟨h1, h2⟩ := List.mem_filter.1 hr
  exact ⟨r, h1, by simpa using h2, rfl, rfl⟩
theorem vs_ne {L : List Row} {k : Int} : vs L k ≠ [] ↔ ∃ r ∈ L, r.X.Key = k := by
  constructor
  · intro h
    obtain ⟨v, hv⟩ := List.exists_mem_of_ne_nil _ h
    obtain ⟨r, h1, h2, _⟩ := vs_mem hv
    exact ⟨r, h1, h2⟩
  · rintro ⟨r, h1, h2⟩ h
    have : (⟨r.T_, r.X.V⟩ : S86) ∈ vs L k := List.mem_map.2 ⟨r, List.mem_filter.2 ⟨h1, by simpa using h2⟩, rfl⟩
    rw [h] at this; cases this
theorem vs_rise {L : List Row} (h : L.Pairwise fun a b => a.X.Key = b.X.Key → a.T_ < b.T_) (k : Int) : Rise (vs L k) := by
  unfold vs Rise
  rw [List.pairwise_map]
  have h1 := h.filter (p := fun r => r.X.Key == k)
  refine List.Pairwise.imp_of_mem ?_ h1
  intro a b ha hb hab
  have ha := (List.mem_filter.1 ha).2
  have hb := (List.mem_filter.1 hb).2
  simp only [beq_iff_eq] at ha hb
  exact hab (ha.trans hb.symm)
theorem keep_any (mark : Int) (r : Row) (L : List Row) : gone mark r L = (vs L r.X.Key).any fun q => decide (q.T_ ≤ mark) := by
  unfold gone vs
  rw [List.any_map, List.any_filter]
  rfl
theorem vs_keep (mark : Int) (k : Int) : ∀ L : List Row, vs (keep mark L) k = keepV mark (vs L k)
  | [] => rfl
  | r :: L => by
    have ih := vs_keep mark k L
    rw [vs_cons]
    unfold keep
    by_cases h : r.X.Key = k
    · rw [if_pos h]
      have hg : gone mark r L = (vs L k).any fun q => decide (q.T_ ≤ mark) := by rw [keep_any, h]
      rw [keepV, ← hg]
      split
      · exact ih
      · rw [vs_cons, if_pos h, ih]
    · rw [if_neg h]
      split
      · exact ih
      · rw [vs_cons, if_neg h, ih]
theorem keepV_none {mark : Int} : ∀ {b : List S86}, (∀ v ∈ b, ¬ v.T_ ≤ mark) → keepV mark b = b
  | [], _ => rfl
  | v :: b, h => by
    have hn : ¬ b.any (fun q => decide (q.T_ ≤ mark)) = true := by
      rw [List.any_eq_true]
      rintro ⟨q, hq, hd⟩
      exact h q (List.mem_cons_of_mem _ hq) (by simpa using hd)
    rw [keepV, if_neg hn, keepV_none fun v hv => h v (List.mem_cons_of_mem _ hv)]
theorem keepV_app {mark : Int} {b : List S86} (hb : ∀ v ∈ b, ¬ v.T_ ≤ mark) : ∀ {a : List S86}, (∀ v ∈ a, v.T_ ≤ mark) → keepV mark (a ++ b) = a.drop (a.length - 1) ++ b
  | [], _ => by simpa using keepV_none hb
  | [v], h => by
    have hn : ¬ b.any (fun q => decide (q.T_ ≤ mark)) = true := by
      rw [List.any_eq_true]
      rintro ⟨q, hq, hd⟩
      exact hb q hq (by simpa using hd)
    show keepV mark (v :: b) = _
    rw [keepV, if_neg hn, keepV_none hb]; rfl
  | v :: u :: a, h => by
    have hn : (u :: a ++ b).any (fun q => decide (q.T_ ≤ mark)) = true :=
      List.any_eq_true.2 ⟨u, by simp, by simpa using h u (by simp)⟩
    show keepV mark (v :: (u :: a ++ b)) = _
    rw [keepV, if_pos hn, keepV_app hb fun v hv => h v (List.mem_cons_of_mem _ hv)]
    simp
structure Place (l : List S86) (at_ : Int) (j : Nat) : Prop where
  le : j ≤ l.length
  lo : ∀ v ∈ l.take j, v.T_ ≤ at_
  hi : ∀ v ∈ l.drop j, ¬ v.T_ ≤ at_
theorem Place.upto {l : List S86} {at_ : Int} {j : Nat} (h : Place l at_ j) : upto l at_ = l.take j := by
  unfold Store.upto
  conv => lhs; rw [← List.take_append_drop j l]
  rw [List.filter_append, List.filter_eq_self.2 fun v hv => by simpa using h.lo v hv, List.filter_eq_nil_iff.2 fun v hv => by simpa using h.hi v hv, List.append_nil]
theorem Place.keep {l : List S86} {at_ : Int} {j : Nat} (h : Place l at_ j) : keepV at_ l = l.drop (j - 1) := by
  conv => lhs; rw [← List.take_append_drop j l]
  rw [keepV_app h.hi h.lo, List.length_take, Nat.min_eq_left h.le]
  conv => rhs; rw [← List.take_append_drop j l]
  rw [List.drop_append_of_le_length (by rw [List.length_take, Nat.min_eq_left h.le]; omega)]
theorem Place.cnt0 {l : List S86} {at_ : Int} (h : Place l at_ 0) : cnt l at_ = none := by unfold cnt; rw [h.upto]; rfl
theorem Place.cnt {l : List S86} {at_ : Int} {j : Nat} (h : Place l at_ (j + 1)) : cnt l at_ = l[j]? := by
  unfold Store.cnt; rw [h.upto, List.getLast?_take, if_neg (by omega)]
  have := h.le
  rw [show j + 1 - 1 = j from rfl, List.getElem?_eq_getElem (by omega)]; rfl
theorem keep_sub (mark : Int) : ∀ L : List Row, (keep mark L).Sublist L
  | [] => List.Sublist.refl _
  | r :: L => by
    have := keep_sub mark L
    unfold keep; split
    · exact this.cons _
    · exact this.cons_cons _
theorem keepV_nil {mark : Int} {l : List S86} (hl : Rise l) : keepV mark l = [] ↔ l = [] := by
  constructor
  · intro h
    induction l with
    | nil => rfl
    | cons v l ih =>
      unfold keepV at h
      split at h
      · rename_i hc
        have := ih (List.pairwise_cons.1 hl).2 h
        subst this; simp at hc
      · cases h
  · rintro rfl; rfl
theorem Keys.uniq {L M : List Row} {ks js : List Int} (h : Keys L ks) (h2 : Keys M js) (he : ∀ k, vs L k ≠ [] ↔ vs M k ≠ []) : ks = js := by
  have hp : ks.Perm js := (List.perm_ext_iff_of_nodup (h.rise.imp fun h => Int.ne_of_lt h) (h2.rise.imp fun h => Int.ne_of_lt h)).2 fun k => by rw [h.all, h2.all, he]
  exact hp.eq_of_pairwise (fun a b _ _ h1 h2 => by omega) h.rise h2.rise
end Go.Proofs.YtpdaapffkdejoaaGreat.Store
namespace Go.Proofs.YtpdaapffkdejoaaGreat.Cf
set_option linter.unusedSimpArgs false
set_option linter.unusedVariables false
open Go Go.RowKit
section
variable {W w w' : World} {l l' : List Assn} {A B : Assn} {α β : Type} {T : Ty α} {U : Ty β} {t : TypeId}
theorem mkS_st {sz by_ : Nat} {n : Int} {z : α} {K : Slc → World → Prop} (h0 : 0 ≤ n) (h1 : (by_ : Int) * n ≤ 281474976710656) (h2 : n ≤ 9223372036854775807) (H : St W l w)
    (hk : ∀ b w', St W (row T t sz ⟨some ⟨b, 0, none⟩, n.toNat, n.toNat⟩ (List.replicate n.toNat z) :: l) w' → K ⟨some ⟨b, 0, none⟩, n.toNat, n.toNat⟩ w') : mkS t T by_ z n n w K :=
  ⟨h0, Int.le_refl _, h1, h2, hk _ _ (row_new (by simp) (H.alloc _))⟩
theorem cpy_st {sz : Nat} {s b : Slc} {xs new : List α} {K : Nat → World → Prop} (hl : ∀ x, (T.cells x).length = sz) (H : St W (row T t sz s xs :: l) w) (hn : RdS T w b new) (he : new.length = xs.length)
    (hk : ∀ w', St W (row T t sz s new :: l) w' → K new.length w') : cpy T sz s b w K := by
  have hs := row_len H
  refine ⟨new, by rw [← hn.1, hs]; omega, ?_, ?_⟩
  · exact ⟨rfl, hn.2⟩
  · rcases row_open H with ⟨rfl, rfl, H0⟩ | ⟨b', rest, h2, h3, h4, h5, H⟩
    · have : new = [] := List.length_eq_zero_iff.1 he
      subst this
      exact hk _ (row_nil T t sz H0)
    · rw [h2]
      have hfl : (xs.flatMap T.cells).length = xs.length * sz := flat_len hl _
      have hnl : (new.flatMap T.cells).length = new.length * sz := flat_len hl _
      refine ⟨wr_cel H (by simp [hfl, he]), hk _ ?_⟩
      have := putc_cel (new.flatMap T.cells) 0 0 _ _ H (by simp [hfl, hnl, he])
      refine row_shut (rest := rest) h2 (by rw [he]; exact h3) h4 h5 ?_
      have e : splice (xs.flatMap T.cells ++ rest) (0 + 0) (new.flatMap T.cells) = new.flatMap T.cells ++ rest := by
        unfold splice
        simp only [Nat.zero_add, Nat.add_zero, List.take_zero, List.nil_append]
        rw [hnl, he, ← hfl, List.drop_left]
      rw [e] at this
      exact this
def See (sz : Nat) (l : List Assn) (T : Ty α) (s : Slc) (xs : List α) : Prop := ∀ (W : World) (l' : List Assn) (w : World), St W (l' ++ l) w →
  s.len = xs.length ∧ RdS T w s xs ∧ ∀ i : Int, 0 ≤ i → i < xs.length → ∃ a, IxA s sz i a ∧ a.spot = none ∧ ∀ x, xs[i.toNat]? = some x → Rd w a (T.cells x)
theorem See.ro {sz : Nat} {s : Slc} {xs : List α} (hl : ∀ x, (T.cells x).length = sz) (k : Know l (RoP T s xs)) : See sz l T s xs := fun W l' w H => by
  have H := H.ro (k.app l')
  refine ⟨ro_len H, RdO_ro H, fun i h0 h1 => ?_⟩
  obtain ⟨a, ha⟩ := ro_ix (sz := sz) (i := i) H h0 h1
  exact ⟨a, ha, ro_spot ha H, fun x hx => rd_ro hl ha hx H⟩
theorem See.row {sz : Nat} {s : Slc} {xs : List α} (hl : ∀ x, (T.cells x).length = sz) (i : Nat) (hi : front i l = row T t sz s xs :: l') : See sz l T s xs := fun W l1 w H => by
  have hp : (l1 ++ l).Perm (Cf.row T t sz s xs :: (l1 ++ l')) := ((front_perm i l).append_left l1).trans (by rw [hi]; exact List.perm_middle)
  have H := H.perm hp
  refine ⟨row_len H, RdO_row H, fun i h0 h1 => ?_⟩
  obtain ⟨a, ha⟩ := row_ix (sz := sz) (i := i) H h0 h1
  exact ⟨a, ha, row_spot ha H, fun x hx => rd_row hl ha hx H⟩
theorem See.app {sz : Nat} {s : Slc} {xs : List α} (k : See sz l T s xs) (l' : List Assn) : See sz (l' ++ l) T s xs := fun W l1 w H => k W (l1 ++ l') w (by rw [List.append_assoc]; exact H)
theorem See.tail {sz : Nat} {s : Slc} {xs : List α} (k : See sz l T s xs) : See sz (A :: l) T s xs := k.app [A]
theorem See.len {sz : Nat} {s : Slc} {xs : List α} (k : See sz l T s xs) (H : St W l w) : s.len = xs.length := (k W [] w H).1
theorem See.ix {sz : Nat} {s : Slc} {xs : List α} {i : Int} (k : See sz l T s xs) (H : St W l w) (h0 : 0 ≤ i) (h1 : i < xs.length) : ∃ a, IxA s sz i a := by
  obtain ⟨a, h, _⟩ := (k W [] w H).2.2 i h0 h1; exact ⟨a, h⟩
theorem ixa_eq {sz : Nat} {s : Slc} {i : Int} {a b : Addr} (h : IxA s sz i a) (k : IxA s sz i b) : a = b := by
  obtain ⟨c, hc, _, _, rfl⟩ := h
  obtain ⟨d, hd, _, _, rfl⟩ := k
  rw [hc] at hd; injection hd with hd; rw [hd]
theorem See.rd {sz : Nat} {s : Slc} {xs : List α} {i : Int} {a : Addr} {x : α} (k : See sz l T s xs) (ha : IxA s sz i a) (hx : xs[i.toNat]? = some x) (H : St W l w) : Rd w a (T.cells x) := by
  have hlt := (List.getElem?_eq_some_iff.1 hx).1
  have h0 : 0 ≤ i := by obtain ⟨_, _, h, _⟩ := ha; exact h
  obtain ⟨b, hb, _, h⟩ := (k W [] w H).2.2 i h0 (by omega)
  rw [ixa_eq ha hb]; exact h x hx
theorem add_add {a : Addr} (h : a.spot = none) (m n : Nat) : (a.add m).add n = a.add (m + n) := by
  obtain ⟨b, o, s⟩ := a
  simp only at h
  subst h
  rw [add_at, add_at, add_at, Nat.add_assoc]
end
end Go.Proofs.YtpdaapffkdejoaaGreat.Cf
