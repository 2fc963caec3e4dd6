/- Characteristic formulae of Go functions, and that they are. Printed by gen.py (own tool). -/
import Derived.Test.YtpdaapffkdejoaaGreatTy
namespace Go.Proofs.YtpdaapffkdejoaaGreat.Cf
open Go
set_option maxRecDepth 100000
set_option maxHeartbeats 1000000
set_option linter.unusedVariables false
set_option linter.unusedSimpArgs false

-- (*moiety/store.Store).Prune
def F46_l1 (a5 : Addr) (a11 : Addr) (w12 : World) (K13 : Unit → World → Prop) (R : Int → World → Prop) : Prop :=
  nxt a11 w12 fun q15 w14 =>
  if (Option.isSome q15) = true then (
    ex (Ent tPtr .i64 a11 w14) fun e16 =>
    ex (RdAt (tInt .i64) (a5.add 2) w14) fun x17 =>
    cl Tryz.prog 63 [.pointer (e16.2), .int .i64 (x17)] (tInt .i64) w14 fun r19 w18 =>
    K13 () w18
  ) else (
    R (0 : Int) w14
  )
def F46 (s_1 : (Option Addr)) (mark_2 : Int) (w : World) (R : Int → World → Prop) : Prop :=
  cl Tryz.prog 56 [.int .i64 (mark_2)] tBool w fun r4 w3 =>
  if (!r4) = true then (
    R (120 : Int) w3
  ) else (
    ex (NC s_1) fun a5 =>
    ex (RdAt (tInt .i64) (a5.add 1) w3) fun x6 =>
    if (decide (mark_2 > x6)) = true then (
      R (128 : Int) w3
    ) else (
      ex (RdAt (tInt .i64) (a5.add 2) w3) fun x7 =>
      st (tInt .i64) (a5.add 2) (max x7 mark_2) w3 fun w8 =>
      ex (RdAt tMap (a5.add 0) w8) fun x9 =>
      rng x9 w8 fun a11 w10 =>
      lp (fun (s : Unit) w K => F46_l1 a5 a11 w K R) () w10
    )
  )
theorem F46_ok {s_1 : (Option Addr)} {mark_2 : Int} {w : World} {R : Int → World → Prop} (h : F46 s_1 mark_2 w R) : cl Tryz.prog 46 [.pointer (s_1), .int .i64 (mark_2)] (tInt .i64) w R := by
  unfold F46 at h
  refine calls_start 42 Tryz.func46 rfl rfl (Nat.le_of_ble_eq_true rfl) ?_
  refine wp_seq ?_
  refine wp_text [0] rfl ?_
  refine rv 4 rfl rfl rfl (q_assign (v := .int .i64 ((0 : Int))) rfl rfl) ?_
  refine ro_nil ?_
  refine wp_seq ?_
  refine wp_block ?_
  refine wp_seq ?_
  refine wp_text [0, 1, 2, 3] rfl ?_
  refine rv 8 rfl rfl rfl (q_move (v := .int .i64 (mark_2)) rfl rfl) ?_
  refine ro_wp rfl (.free rfl) (wp_cl (d := (some 9)) rfl (q_call (k := 56) (l := [.int .i64 (mark_2)]) rfl ent56 rfl) h ?_)
  intro r4 w3 h
  refine rv 10 rfl rfl rfl (q_not (b := r4) rfl rfl) ?_
  refine rv 7 rfl rfl rfl (q_assign (v := .bool ((!r4))) rfl rfl) ?_
  refine ro_nil ?_
  refine wp_if (b := (!r4)) rfl h (fun hb22 h => ?_) (fun hb22 h => ?_)
  · refine wp_seq ?_
    refine wp_text [0] rfl ?_
    refine rv 4 rfl rfl rfl (q_assign (v := .int .i64 ((120 : Int))) rfl rfl) ?_
    refine ro_nil ?_
    refine wp_ret ?_
    exact ret_ok rfl (.cons (.tmp (v := .int .i64 ((120 : Int))) rfl) .nil) ⟨(120 : Int), rfl, h⟩
  · refine wp_seq ?_
    refine wp_text [0, 1, 2, 3, 4, 5, 6] rfl ?_
    refine rv 12 rfl rfl rfl (q_move (v := .int .i64 (mark_2)) rfl rfl) ?_
    refine rv 13 rfl rfl rfl (q_move (v := .pointer (s_1)) rfl rfl) ?_
    obtain ⟨a5, ha5, h⟩ := h
    refine rv 14 rfl rfl rfl (q_nilCheck (a := a5) rfl (congrArg Value.pointer ha5)) ?_
    refine rv 15 rfl rfl rfl (q_fieldAddr (a := a5) (off := 1) rfl Tryz.underlying95 rfl rfl ok2 (by decide) rfl) ?_
    obtain ⟨x6, hx6, h⟩ := h
    refine rv 16 rfl rfl rfl (q_load (T := (tInt .i64)) (u := x6) (a := (a5.add 1)) rfl ok2 rfl hx6) ?_
    refine rv 17 rfl rfl rfl (q_gtr (a := mark_2) (b := x6) rfl rfl rfl) ?_
    refine rv 11 rfl rfl rfl (q_assign (v := .bool ((decide (mark_2 > x6)))) rfl rfl) ?_
    refine ro_nil ?_
    refine wp_if (b := (decide (mark_2 > x6))) rfl h (fun hb21 h => ?_) (fun hb21 h => ?_)
    · refine wp_seq ?_
      refine wp_text [0] rfl ?_
      refine rv 4 rfl rfl rfl (q_assign (v := .int .i64 ((128 : Int))) rfl rfl) ?_
      refine ro_nil ?_
      refine wp_ret ?_
      exact ret_ok rfl (.cons (.tmp (v := .int .i64 ((128 : Int))) rfl) .nil) ⟨(128 : Int), rfl, h⟩
    · refine wp_skip ?_
      refine wp_seq ?_
      refine wp_text [0, 1, 2, 3, 4, 5, 6, 7, 8, 9] rfl ?_
      refine rv 18 rfl rfl rfl (q_move (v := .pointer (s_1)) rfl rfl) ?_
      refine rv 19 rfl rfl rfl (q_move (v := .pointer (s_1)) rfl rfl) ?_
      refine rv 20 rfl rfl rfl (q_nilCheck (a := a5) rfl (congrArg Value.pointer ha5)) ?_
      refine rv 21 rfl rfl rfl (q_fieldAddr (a := a5) (off := 2) rfl Tryz.underlying95 rfl rfl ok2 (by decide) rfl) ?_
      obtain ⟨x7, hx7, h⟩ := h
      refine rv 22 rfl rfl rfl (q_load (T := (tInt .i64)) (u := x7) (a := (a5.add 2)) rfl ok2 rfl hx7) ?_
      refine rv 23 rfl rfl rfl (q_move (v := .int .i64 (mark_2)) rfl rfl) ?_
      refine rv 24 rfl rfl rfl (q_max (a := x7) (b := mark_2) rfl rfl rfl) ?_
      refine rv 25 rfl rfl rfl (q_nilCheck (a := a5) rfl (congrArg Value.pointer ha5)) ?_
      refine rv 26 rfl rfl rfl (q_fieldAddr (a := a5) (off := 2) rfl Tryz.underlying95 rfl rfl ok2 (by decide) rfl) ?_
      obtain ⟨w8, hw8, hrw8, h⟩ := st_open h
      refine ro_skip (d := none) rfl (.free rfl) rfl (q_store (T := (tInt .i64)) (u := (max x7 mark_2)) (a := (a5.add 2)) rfl ok2 rfl rfl hrw8 hw8) ?_
      refine ro_nil ?_
      refine wp_seq ?_
      refine wp_seq ?_
      refine wp_text [0, 1, 2, 3, 4] rfl ?_
      refine rv 27 rfl rfl rfl (q_move (v := .pointer (s_1)) rfl rfl) ?_
      refine rv 28 rfl rfl rfl (q_nilCheck (a := a5) rfl (congrArg Value.pointer ha5)) ?_
      refine rv 29 rfl rfl rfl (q_fieldAddr (a := a5) (off := 0) rfl Tryz.underlying95 rfl rfl ok93 (by decide) rfl) ?_
      obtain ⟨x9, hx9, h⟩ := h
      refine rv 30 rfl rfl rfl (q_load (T := tMap) (u := x9) (a := (a5.add 0)) rfl ok93 rfl hx9) ?_
      refine ro_wp rfl (.free rfl) (wp_rng (r := x9) (d := (some 31)) rfl rfl Tryz.underlying93 rfl h ?_)
      intro a11 w10 h
      refine ro_nil ?_
      refine wp_block ?_
      refine loop_at (σ := Unit) (fr := fun g (s : Unit) => upd (upd (g) 0 (.pointer (s_1))) 31 (.pointer (some a11))) (s0 := ()) (upd_step (upd_step rfl rfl) rfl) h ?_
      rintro ⟨⟩ g w12 K13 h
      unfold F46_l1 at h
      refine wp_seq ?_
      refine wp_text [0, 1] rfl ?_
      refine ro_wp rfl (.free rfl) (wp_nxt (a := a11) (d := (some 32)) rfl rfl rfl h ?_)
      intro q15 w14 h
      refine rv 33 rfl rfl rfl (q_extractN (q := q15) rfl rfl) ?_
      refine ro_nil ?_
      refine wp_seq ?_
      refine wp_if (b := (Option.isSome q15)) rfl h (fun hb20 h => ?_) (fun hb20 h => ?_)
      · refine wp_skip ?_
        refine wp_block ?_
        refine wp_seq ?_
        refine wp_text [0, 1, 2] rfl ?_
        obtain ⟨e16, he16, h⟩ := h
        refine rv 34 rfl rfl rfl (q_entry (T := tPtr) (p := e16) (a := a11) rfl rfl he16) ?_
        refine rv 35 rfl rfl rfl (q_extract (vs := #[.int .i64 (e16.1), .pointer (e16.2)]) (v := .pointer (e16.2)) rfl rfl rfl) ?_
        refine rv 6 rfl rfl rfl (q_assign (v := .pointer (e16.2)) rfl rfl) ?_
        refine ro_nil ?_
        refine wp_text [0, 1, 2, 3, 4, 5] rfl ?_
        refine rv 36 rfl rfl rfl (q_move (v := .pointer (e16.2)) rfl rfl) ?_
        refine rv 37 rfl rfl rfl (q_move (v := .pointer (s_1)) rfl rfl) ?_
        refine rv 38 rfl rfl rfl (q_nilCheck (a := a5) rfl (congrArg Value.pointer ha5)) ?_
        refine rv 39 rfl rfl rfl (q_fieldAddr (a := a5) (off := 2) rfl Tryz.underlying95 rfl rfl ok2 (by decide) rfl) ?_
        obtain ⟨x17, hx17, h⟩ := h
        refine rv 40 rfl rfl rfl (q_load (T := (tInt .i64)) (u := x17) (a := (a5.add 2)) rfl ok2 rfl hx17) ?_
        refine ro_wp rfl (.free rfl) (wp_cl (d := (some 41)) rfl (q_call (k := 63) (l := [.pointer (e16.2), .int .i64 (x17)]) rfl ent63 rfl) h ?_)
        intro r19 w18 h
        refine ro_nil ?_
        exact ⟨(), _, arr (upd_step (upd_step rfl rfl) rfl), h⟩
      · refine wp_exit ?_
        refine wp_seq ?_
        refine wp_text [0] rfl ?_
        refine rv 4 rfl rfl rfl (q_assign (v := .int .i64 ((0 : Int))) rfl rfl) ?_
        refine ro_nil ?_
        refine wp_ret ?_
        exact ret_ok rfl (.cons (.tmp (v := .int .i64 ((0 : Int))) rfl) .nil) ⟨(0 : Int), rfl, h⟩

-- (*moiety/store.Store).time
def F47 (s_1 : (Option Addr)) (at_2 : Int) (w : World) (R : Int → World → Prop) : Prop :=
  cl Tryz.prog 56 [.int .i64 (at_2)] tBool w fun r4 w3 =>
  if (!r4) = true then (
    R (120 : Int) w3
  ) else (
    ex (NC s_1) fun a5 =>
    ex (RdAt (tInt .i64) (a5.add 1) w3) fun x6 =>
    if (decide (at_2 > x6)) = true then (
      R (128 : Int) w3
    ) else (
      ex (RdAt (tInt .i64) (a5.add 2) w3) fun x7 =>
      if (decide (at_2 < x7)) = true then (
        R (126 : Int) w3
      ) else (
        R (0 : Int) w3
      )
    )
  )
theorem F47_ok {s_1 : (Option Addr)} {at_2 : Int} {w : World} {R : Int → World → Prop} (h : F47 s_1 at_2 w R) : cl Tryz.prog 47 [.pointer (s_1), .int .i64 (at_2)] (tInt .i64) w R := by
  unfold F47 at h
  refine calls_start 23 Tryz.func47 rfl rfl (Nat.le_of_ble_eq_true rfl) ?_
  refine wp_seq ?_
  refine wp_text [0] rfl ?_
  refine rv 4 rfl rfl rfl (q_assign (v := .int .i64 ((0 : Int))) rfl rfl) ?_
  refine ro_nil ?_
  refine wp_seq ?_
  refine wp_block ?_
  refine wp_seq ?_
  refine wp_text [0, 1, 2, 3] rfl ?_
  refine rv 6 rfl rfl rfl (q_move (v := .int .i64 (at_2)) rfl rfl) ?_
  refine ro_wp rfl (.free rfl) (wp_cl (d := (some 7)) rfl (q_call (k := 56) (l := [.int .i64 (at_2)]) rfl ent56 rfl) h ?_)
  intro r4 w3 h
  refine rv 8 rfl rfl rfl (q_not (b := r4) rfl rfl) ?_
  refine rv 5 rfl rfl rfl (q_assign (v := .bool ((!r4))) rfl rfl) ?_
  refine ro_nil ?_
  refine wp_if (b := (!r4)) rfl h (fun hb10 h => ?_) (fun hb10 h => ?_)
  · refine wp_seq ?_
    refine wp_text [0] rfl ?_
    refine rv 4 rfl rfl rfl (q_assign (v := .int .i64 ((120 : Int))) rfl rfl) ?_
    refine ro_nil ?_
    refine wp_ret ?_
    exact ret_ok rfl (.cons (.tmp (v := .int .i64 ((120 : Int))) rfl) .nil) ⟨(120 : Int), rfl, h⟩
  · refine wp_seq ?_
    refine wp_text [0, 1, 2, 3, 4, 5, 6] rfl ?_
    refine rv 10 rfl rfl rfl (q_move (v := .int .i64 (at_2)) rfl rfl) ?_
    refine rv 11 rfl rfl rfl (q_move (v := .pointer (s_1)) rfl rfl) ?_
    obtain ⟨a5, ha5, h⟩ := h
    refine rv 12 rfl rfl rfl (q_nilCheck (a := a5) rfl (congrArg Value.pointer ha5)) ?_
    refine rv 13 rfl rfl rfl (q_fieldAddr (a := a5) (off := 1) rfl Tryz.underlying95 rfl rfl ok2 (by decide) rfl) ?_
    obtain ⟨x6, hx6, h⟩ := h
    refine rv 14 rfl rfl rfl (q_load (T := (tInt .i64)) (u := x6) (a := (a5.add 1)) rfl ok2 rfl hx6) ?_
    refine rv 15 rfl rfl rfl (q_gtr (a := at_2) (b := x6) rfl rfl rfl) ?_
    refine rv 9 rfl rfl rfl (q_assign (v := .bool ((decide (at_2 > x6)))) rfl rfl) ?_
    refine ro_nil ?_
    refine wp_if (b := (decide (at_2 > x6))) rfl h (fun hb9 h => ?_) (fun hb9 h => ?_)
    · refine wp_seq ?_
      refine wp_text [0] rfl ?_
      refine rv 4 rfl rfl rfl (q_assign (v := .int .i64 ((128 : Int))) rfl rfl) ?_
      refine ro_nil ?_
      refine wp_ret ?_
      exact ret_ok rfl (.cons (.tmp (v := .int .i64 ((128 : Int))) rfl) .nil) ⟨(128 : Int), rfl, h⟩
    · refine wp_seq ?_
      refine wp_text [0, 1, 2, 3, 4, 5, 6] rfl ?_
      refine rv 17 rfl rfl rfl (q_move (v := .int .i64 (at_2)) rfl rfl) ?_
      refine rv 18 rfl rfl rfl (q_move (v := .pointer (s_1)) rfl rfl) ?_
      refine rv 19 rfl rfl rfl (q_nilCheck (a := a5) rfl (congrArg Value.pointer ha5)) ?_
      refine rv 20 rfl rfl rfl (q_fieldAddr (a := a5) (off := 2) rfl Tryz.underlying95 rfl rfl ok2 (by decide) rfl) ?_
      obtain ⟨x7, hx7, h⟩ := h
      refine rv 21 rfl rfl rfl (q_load (T := (tInt .i64)) (u := x7) (a := (a5.add 2)) rfl ok2 rfl hx7) ?_
      refine rv 22 rfl rfl rfl (q_lss (a := at_2) (b := x7) rfl rfl rfl) ?_
      refine rv 16 rfl rfl rfl (q_assign (v := .bool ((decide (at_2 < x7)))) rfl rfl) ?_
      refine ro_nil ?_
      refine wp_if (b := (decide (at_2 < x7))) rfl h (fun hb8 h => ?_) (fun hb8 h => ?_)
      · refine wp_seq ?_
        refine wp_text [0] rfl ?_
        refine rv 4 rfl rfl rfl (q_assign (v := .int .i64 ((126 : Int))) rfl rfl) ?_
        refine ro_nil ?_
        refine wp_ret ?_
        exact ret_ok rfl (.cons (.tmp (v := .int .i64 ((126 : Int))) rfl) .nil) ⟨(126 : Int), rfl, h⟩
      · refine wp_skip ?_
        refine wp_seq ?_
        refine wp_text [0] rfl ?_
        refine rv 4 rfl rfl rfl (q_assign (v := .int .i64 ((0 : Int))) rfl rfl) ?_
        refine ro_nil ?_
        refine wp_ret ?_
        exact ret_ok rfl (.cons (.tmp (v := .int .i64 ((0 : Int))) rfl) .nil) ⟨(0 : Int), rfl, h⟩

-- maps.Keys[map[int]*moiety/chain.Chain,int,*moiety/chain.Chain]
def F48 (m_1 : (Option Nat)) (w : World) (R : Fv → World → Prop) : Prop :=
  nw 93 tMap m_1 w fun a2 w3 =>
  R (Fv.mk (.func 64) (List.toArray []) (List.toArray [.pointer (some a2)])) w3
theorem F48_ok {m_1 : (Option Nat)} {w : World} {R : Fv → World → Prop} (h : F48 m_1 w R) : cl Tryz.prog 48 [.map (m_1)] tFun w R := by
  unfold F48 at h
  refine calls_start 4 Tryz.func48 rfl rfl (Nat.le_of_ble_eq_true rfl) ?_
  refine wp_seq ?_
  refine wp_text [0, 1] rfl ?_
  obtain ⟨a2, w3, ha2, hw3, h⟩ := nw_open h
  refine rv 1 rfl rfl rfl (q_box (u := m_1) rfl ok93 rfl ha2 hw3) ?_
  refine rv 2 rfl rfl rfl (q_assign (v := (Fv.nil).enc) rfl rfl) ?_
  refine ro_nil ?_
  refine wp_seq ?_
  refine wp_text [0, 1] rfl ?_
  refine rv 3 rfl rfl rfl (q_makeFunc (fn := .func 64) (va := []) (vc := [.pointer (some a2)]) rfl rfl rfl) ?_
  refine rv 2 rfl rfl rfl (q_assign (v := ((Fv.mk (.func 64) (List.toArray []) (List.toArray [.pointer (some a2)]))).enc) rfl rfl) ?_
  refine ro_nil ?_
  refine wp_ret ?_
  exact ret_ok rfl (.cons (.tmp (v := ((Fv.mk (.func 64) (List.toArray []) (List.toArray [.pointer (some a2)]))).enc) rfl) .nil) ⟨(Fv.mk (.func 64) (List.toArray []) (List.toArray [.pointer (some a2)])), rfl, h⟩

-- (*moiety/chain.Chain).Get
def F49 (c_1 : (Option Addr)) (at_2 : Int) (w : World) (R : (S86 × Int) → World → Prop) : Prop :=
  nw 87 T86 Z86 w fun a3 w4 =>
  if ((decide (at_2 < (0 : Int))) || (decide (at_2 > (1125899906842624 : Int)))) = true then (
    st T86 a3 (⟨(0 : Int), (0 : Int)⟩ : S86) w4 fun w5 =>
    ex (RdAt T86 a3 w5) fun x6 =>
    R (x6, (110 : Int)) w5
  ) else (
    ex (NC c_1) fun a7 =>
    ex (RdAt (tInt .i64) (a7.add 1) w4) fun x8 =>
    if (decide (at_2 < x8)) = true then (
      st T86 a3 (⟨(0 : Int), (0 : Int)⟩ : S86) w4 fun w9 =>
      ex (RdAt T86 a3 w9) fun x10 =>
      R (x10, (113 : Int)) w9
    ) else (
      cl Tryz.prog 65 [.pointer (c_1), .int .i64 (at_2)] (tInt .i64) w4 fun r12 w11 =>
      if (r12 == (0 : Int)) = true then (
        st T86 a3 (⟨(0 : Int), (0 : Int)⟩ : S86) w11 fun w13 =>
        ex (RdAt T86 a3 w13) fun x14 =>
        R (x14, (114 : Int)) w13
      ) else (
        ex (RdAt tSlc (a7.add 0) w11) fun x15 =>
        ex (IxA x15 2 (IntKind.i64.wrap (r12 - (1 : Int)))) fun a16 =>
        ex (RdAt T86 a16 w11) fun x17 =>
        st T86 a3 x17 w11 fun w18 =>
        ex (RdAt T86 a3 w18) fun x19 =>
        R (x19, (0 : Int)) w18
      )
    )
  )
theorem F49_ok {c_1 : (Option Addr)} {at_2 : Int} {w : World} {R : (S86 × Int) → World → Prop} (h : F49 c_1 at_2 w R) : cl Tryz.prog 49 [.pointer (c_1), .int .i64 (at_2)] (tTup2 T86 (tInt .i64)) w R := by
  unfold F49 at h
  refine calls_start 37 Tryz.func49 rfl rfl (Nat.le_of_ble_eq_true rfl) ?_
  refine wp_seq ?_
  refine wp_text [0, 1] rfl ?_
  obtain ⟨a3, w4, ha3, hw4, h⟩ := nw_open h
  refine rv 4 rfl rfl rfl (q_alloc (u := Z86) rfl ok87 inf87 ha3 hw4) ?_
  refine rv 5 rfl rfl rfl (q_assign (v := .int .i64 ((0 : Int))) rfl rfl) ?_
  refine ro_nil ?_
  refine wp_seq ?_
  refine wp_block ?_
  refine wp_seq ?_
  refine wp_text [0, 1, 2, 3, 4, 5, 6] rfl ?_
  refine rv 8 rfl rfl rfl (q_move (v := .int .i64 (at_2)) rfl rfl) ?_
  refine rv 9 rfl rfl rfl (q_lss (a := at_2) (b := (0 : Int)) rfl rfl rfl) ?_
  refine rv 10 rfl rfl rfl (q_move (v := .bool ((decide (at_2 < (0 : Int))))) rfl rfl) ?_
  refine ro_gval (g := (!(decide (at_2 < (0 : Int))))) (d := (some 11)) rfl (.no 2 10 true (decide (at_2 < (0 : Int))) rfl rfl rfl rfl) rfl (fun hg => q_move (v := .int .i64 (at_2)) rfl rfl) ?_
  refine ro_gval (g := (!(decide (at_2 < (0 : Int))))) (d := (some 12)) rfl (.no 2 10 true (decide (at_2 < (0 : Int))) rfl rfl rfl rfl) rfl (fun hg => q_gtr (k := .i64) (a := at_2) (b := (1125899906842624 : Int)) rfl (gvb_yes hg) rfl) ?_
  refine rv 13 rfl rfl rfl (q_pickGF (a := (decide (at_2 < (0 : Int)))) (c := (decide (at_2 > (1125899906842624 : Int)))) rfl rfl rfl rfl) ?_
  refine rv 7 rfl rfl rfl (q_assign (v := .bool (((decide (at_2 < (0 : Int))) || (decide (at_2 > (1125899906842624 : Int)))))) rfl rfl) ?_
  refine ro_nil ?_
  refine wp_if (b := ((decide (at_2 < (0 : Int))) || (decide (at_2 > (1125899906842624 : Int))))) rfl h (fun hb22 h => ?_) (fun hb22 h => ?_)
  · refine wp_seq ?_
    refine wp_text [0, 1, 2] rfl ?_
    refine rv 14 rfl rfl rfl (q_build87_  rfl ) ?_
    obtain ⟨w5, hw5, hrw5, h⟩ := st_open h
    refine ro_skip (d := none) rfl (.free rfl) rfl (q_store (T := T86) (u := (⟨(0 : Int), (0 : Int)⟩ : S86)) (a := a3) rfl ok87 rfl rfl hrw5 hw5) ?_
    refine rv 5 rfl rfl rfl (q_assign (v := .int .i64 ((110 : Int))) rfl rfl) ?_
    refine ro_nil ?_
    refine wp_ret ?_
    obtain ⟨x6, hx6, h⟩ := h
    exact ret_ok rfl (.cons (.cell (T := T86) (u := x6) (a := a3) ok87 rfl hx6) (.cons (.tmp (v := .int .i64 ((110 : Int))) rfl) .nil)) ⟨(x6, (110 : Int)), rfl, h⟩
  · refine wp_seq ?_
    refine wp_text [0, 1, 2, 3, 4, 5, 6] rfl ?_
    refine rv 16 rfl rfl rfl (q_move (v := .int .i64 (at_2)) rfl rfl) ?_
    refine rv 17 rfl rfl rfl (q_move (v := .pointer (c_1)) rfl rfl) ?_
    obtain ⟨a7, ha7, h⟩ := h
    refine rv 18 rfl rfl rfl (q_nilCheck (a := a7) rfl (congrArg Value.pointer ha7)) ?_
    refine rv 19 rfl rfl rfl (q_fieldAddr (a := a7) (off := 1) rfl Tryz.underlying112 rfl rfl ok2 (by decide) rfl) ?_
    obtain ⟨x8, hx8, h⟩ := h
    refine rv 20 rfl rfl rfl (q_load (T := (tInt .i64)) (u := x8) (a := (a7.add 1)) rfl ok2 rfl hx8) ?_
    refine rv 21 rfl rfl rfl (q_lss (a := at_2) (b := x8) rfl rfl rfl) ?_
    refine rv 15 rfl rfl rfl (q_assign (v := .bool ((decide (at_2 < x8)))) rfl rfl) ?_
    refine ro_nil ?_
    refine wp_if (b := (decide (at_2 < x8))) rfl h (fun hb21 h => ?_) (fun hb21 h => ?_)
    · refine wp_seq ?_
      refine wp_text [0, 1, 2] rfl ?_
      refine rv 22 rfl rfl rfl (q_build87_  rfl ) ?_
      obtain ⟨w9, hw9, hrw9, h⟩ := st_open h
      refine ro_skip (d := none) rfl (.free rfl) rfl (q_store (T := T86) (u := (⟨(0 : Int), (0 : Int)⟩ : S86)) (a := a3) rfl ok87 rfl rfl hrw9 hw9) ?_
      refine rv 5 rfl rfl rfl (q_assign (v := .int .i64 ((113 : Int))) rfl rfl) ?_
      refine ro_nil ?_
      refine wp_ret ?_
      obtain ⟨x10, hx10, h⟩ := h
      exact ret_ok rfl (.cons (.cell (T := T86) (u := x10) (a := a3) ok87 rfl hx10) (.cons (.tmp (v := .int .i64 ((113 : Int))) rfl) .nil)) ⟨(x10, (113 : Int)), rfl, h⟩
    · refine wp_skip ?_
      refine wp_seq ?_
      refine wp_text [0, 1, 2, 3] rfl ?_
      refine rv 23 rfl rfl rfl (q_move (v := .pointer (c_1)) rfl rfl) ?_
      refine rv 24 rfl rfl rfl (q_move (v := .int .i64 (at_2)) rfl rfl) ?_
      refine ro_wp rfl (.free rfl) (wp_cl (d := (some 25)) rfl (q_call (k := 65) (l := [.pointer (c_1), .int .i64 (at_2)]) rfl ent65 rfl) h ?_)
      intro r12 w11 h
      refine rv 6 rfl rfl rfl (q_assign (v := .int .i64 (r12)) rfl rfl) ?_
      refine ro_nil ?_
      refine wp_seq ?_
      refine wp_seq ?_
      refine wp_text [0, 1] rfl ?_
      refine rv 26 rfl rfl rfl (q_move (v := .int .i64 (r12)) rfl rfl) ?_
      refine rv 27 rfl rfl rfl (q_eql (a := r12) (b := (0 : Int)) rfl rfl rfl) ?_
      refine ro_nil ?_
      refine wp_if (b := (r12 == (0 : Int))) rfl h (fun hb20 h => ?_) (fun hb20 h => ?_)
      · refine wp_seq ?_
        refine wp_text [0, 1, 2] rfl ?_
        refine rv 28 rfl rfl rfl (q_build87_  rfl ) ?_
        obtain ⟨w13, hw13, hrw13, h⟩ := st_open h
        refine ro_skip (d := none) rfl (.free rfl) rfl (q_store (T := T86) (u := (⟨(0 : Int), (0 : Int)⟩ : S86)) (a := a3) rfl ok87 rfl rfl hrw13 hw13) ?_
        refine rv 5 rfl rfl rfl (q_assign (v := .int .i64 ((114 : Int))) rfl rfl) ?_
        refine ro_nil ?_
        refine wp_ret ?_
        obtain ⟨x14, hx14, h⟩ := h
        exact ret_ok rfl (.cons (.cell (T := T86) (u := x14) (a := a3) ok87 rfl hx14) (.cons (.tmp (v := .int .i64 ((114 : Int))) rfl) .nil)) ⟨(x14, (114 : Int)), rfl, h⟩
      · refine wp_skip ?_
        refine wp_seq ?_
        refine wp_text [0, 1, 2, 3, 4, 5, 6, 7, 8, 9] rfl ?_
        refine rv 29 rfl rfl rfl (q_move (v := .pointer (c_1)) rfl rfl) ?_
        refine rv 30 rfl rfl rfl (q_nilCheck (a := a7) rfl (congrArg Value.pointer ha7)) ?_
        refine rv 31 rfl rfl rfl (q_fieldAddr (a := a7) (off := 0) rfl Tryz.underlying112 rfl rfl ok110 (by decide) rfl) ?_
        obtain ⟨x15, hx15, h⟩ := h
        refine rv 32 rfl rfl rfl (q_load (T := tSlc) (u := x15) (a := (a7.add 0)) rfl ok110 rfl hx15) ?_
        refine rv 33 rfl rfl rfl (q_move (v := .int .i64 (r12)) rfl rfl) ?_
        refine rv 34 rfl rfl rfl (q_sub (a := r12) (b := (1 : Int)) rfl rfl rfl) ?_
        obtain ⟨a16, ha16, h⟩ := h
        refine rv 35 rfl rfl rfl (q_indexAddr (s := x15) (k := .i64) (i := (IntKind.i64.wrap (r12 - (1 : Int)))) rfl Tryz.underlying110 ok87 rfl rfl ha16) ?_
        obtain ⟨x17, hx17, h⟩ := h
        refine rv 36 rfl rfl rfl (q_load (T := T86) (u := x17) (a := a16) rfl ok87 rfl hx17) ?_
        obtain ⟨w18, hw18, hrw18, h⟩ := st_open h
        refine ro_skip (d := none) rfl (.free rfl) rfl (q_store (T := T86) (u := x17) (a := a3) rfl ok87 rfl rfl hrw18 hw18) ?_
        refine rv 5 rfl rfl rfl (q_assign (v := .int .i64 ((0 : Int))) rfl rfl) ?_
        refine ro_nil ?_
        refine wp_ret ?_
        obtain ⟨x19, hx19, h⟩ := h
        exact ret_ok rfl (.cons (.cell (T := T86) (u := x19) (a := a3) ok87 rfl hx19) (.cons (.tmp (v := .int .i64 ((0 : Int))) rfl) .nil)) ⟨(x19, (0 : Int)), rfl, h⟩

-- (*moiety/store.Store).why
def F50_l1 (s_1 : (Option Addr)) (t_2 : Int) (l_3 : Slc) (m5 : Nat) (t_6 : Int) (w7 : World) (K8 : Int → World → Prop) (R : Int → World → Prop) : Prop :=
  if (decide (t_6 < (l_3.len : Int))) = true then (
    ex (IxA l_3 2 t_6) fun a9 =>
    ex (RdAt T62 a9 w7) fun x10 =>
    nw 63 T62 Z62 w7 fun a11 w12 =>
    st T62 a11 x10 w12 fun w13 =>
    ex (RdAt (tInt .i64) (a11.add 0) w13) fun x14 =>
    ex (MapGet T115 .i64 (some m5) x14 w13) fun m15 =>
    nw 115 T115 Z115 w13 fun a16 w17 =>
    st T115 a16 (((m15.getD Z115, m15.isSome)).1) w17 fun w18 =>
    ex (RdAt (tInt .i64) (a11.add 0) w18) fun x19 =>
    cl Tryz.prog 42 [.pointer (s_1), .int .i64 (x19)] (tTup2 T86 tBool) w18 fun r21 w20 =>
    nw 87 T86 Z86 w20 fun a22 w23 =>
    st T86 a22 r21.1 w23 fun w24 =>
    ex (RdAt (tInt .i64) (a11.add 0) w24) fun x25 =>
    cl Tryz.prog 62 [.int .i64 (x25)] tBool w24 fun r27 w26 =>
    if (!r27) = true then (
      R (123 : Int) w26
    ) else (
      if ((m15.getD Z115, m15.isSome)).2 = true then (
        R (124 : Int) w26
      ) else (
        ex (RdAt (tInt .i64) (a22.add 0) w26) fun x28 =>
        if (decide (x28 ≥ t_2)) = true then (
          R (121 : Int) w26
        ) else (
          ex (RdAt (tInt .i64) (a11.add 0) w26) fun x29 =>
          cl Tryz.prog 66 [.pointer (s_1), .int .i64 (x29)] tBool w26 fun r31 w30 =>
          if r31 = true then (
            R (125 : Int) w30
          ) else (
            ex (RdAt (tInt .i64) (a11.add 0) w30) fun x32 =>
            mput T115 .i64 (some m5) x32 (⟨⟩ : S115) w30 fun w33 =>
            K8 ((IntKind.i64.wrap (t_6 + (1 : Int)))) w33
          )
        )
      )
    )
  ) else (
    R (0 : Int) w7
  )
def F50 (s_1 : (Option Addr)) (t_2 : Int) (l_3 : Slc) (w : World) (R : Int → World → Prop) : Prop :=
  if (decide ((l_3.len : Int) > (100 : Int))) = true then (
    R (122 : Int) w
  ) else (
    nwMap w fun m5 w4 =>
    lp (fun (s : Int) w K => F50_l1 s_1 t_2 l_3 m5 s w K R) ((0 : Int)) w4
  )
theorem F50_ok {s_1 : (Option Addr)} {t_2 : Int} {l_3 : Slc} {w : World} {R : Int → World → Prop} (h : F50 s_1 t_2 l_3 w R) : cl Tryz.prog 50 [.pointer (s_1), .int .i64 (t_2), tSlc.enc (l_3)] (tInt .i64) w R := by
  unfold F50 at h
  refine calls_start 60 Tryz.func50 rfl rfl (Nat.le_of_ble_eq_true rfl) ?_
  refine wp_seq ?_
  refine wp_text [0] rfl ?_
  refine rv 6 rfl rfl rfl (q_assign (v := .int .i64 ((0 : Int))) rfl rfl) ?_
  refine ro_nil ?_
  refine wp_seq ?_
  refine wp_seq ?_
  refine wp_text [0, 1, 2] rfl ?_
  refine rv 14 rfl rfl rfl (q_move (v := tSlc.enc (l_3)) rfl rfl) ?_
  refine rv 15 rfl rfl rfl (q_len (s := l_3) rfl Tryz.underlying36 rfl) ?_
  refine rv 16 rfl rfl rfl (q_gtr (a := (l_3.len : Int)) (b := (100 : Int)) rfl rfl rfl) ?_
  refine ro_nil ?_
  refine wp_if (b := (decide ((l_3.len : Int) > (100 : Int)))) rfl h (fun hb39 h => ?_) (fun hb39 h => ?_)
  · refine wp_seq ?_
    refine wp_text [0] rfl ?_
    refine rv 6 rfl rfl rfl (q_assign (v := .int .i64 ((122 : Int))) rfl rfl) ?_
    refine ro_nil ?_
    refine wp_ret ?_
    exact ret_ok rfl (.cons (.tmp (v := .int .i64 ((122 : Int))) rfl) .nil) ⟨(122 : Int), rfl, h⟩
  · refine wp_skip ?_
    refine wp_seq ?_
    refine wp_text [0, 1] rfl ?_
    obtain ⟨m5, w4, hm5, hw4, h⟩ := nwMap_open h
    refine rv 17 rfl rfl rfl (q_makeMap rfl hm5 hw4) ?_
    refine rv 7 rfl rfl rfl (q_assign (v := .map ((some m5))) rfl rfl) ?_
    refine ro_nil ?_
    refine wp_seq ?_
    refine wp_seq ?_
    refine wp_text [0, 1, 2] rfl ?_
    refine rv 18 rfl rfl rfl (q_move (v := tSlc.enc (l_3)) rfl rfl) ?_
    refine rv 19 rfl rfl rfl (q_len (s := l_3) rfl Tryz.underlying36 rfl) ?_
    refine rv 20 rfl rfl rfl (q_move (v := .int .i64 ((0 : Int))) rfl rfl) ?_
    refine ro_nil ?_
    refine wp_block ?_
    refine loop_at (σ := Int) (fr := fun g (s : Int) => upd (upd (upd (upd (upd (upd (g) 0 (.pointer (s_1))) 1 (.int .i64 (t_2))) 7 (.map ((some m5)))) 18 (tSlc.enc (l_3))) 19 (.int .i64 ((l_3.len : Int)))) 20 (.int .i64 (s))) (s0 := ((0 : Int))) (upd_step (upd_step (upd_step (upd_step (upd_step (upd_step rfl rfl) rfl) rfl) rfl) rfl) rfl) h ?_
    rintro t_6 g w7 K8 h
    unfold F50_l1 at h
    refine wp_seq ?_
    refine wp_text [0] rfl ?_
    refine rv 21 rfl rfl rfl (q_lss (a := t_6) (b := (l_3.len : Int)) rfl rfl rfl) ?_
    refine ro_nil ?_
    refine wp_seq ?_
    refine wp_if (b := (decide (t_6 < (l_3.len : Int)))) rfl h (fun hb38 h => ?_) (fun hb38 h => ?_)
    · refine wp_skip ?_
      refine wp_seq ?_
      refine wp_block ?_
      refine wp_seq ?_
      refine wp_text [0, 1, 2, 3] rfl ?_
      obtain ⟨a9, ha9, h⟩ := h
      refine rv 22 rfl rfl rfl (q_indexAddr (s := l_3) (k := .i64) (i := t_6) rfl Tryz.underlying36 ok63 rfl rfl ha9) ?_
      obtain ⟨x10, hx10, h⟩ := h
      refine rv 23 rfl rfl rfl (q_load (T := T62) (u := x10) (a := a9) rfl ok63 rfl hx10) ?_
      obtain ⟨a11, w12, ha11, hw12, h⟩ := nw_open h
      refine rv 9 rfl rfl rfl (q_alloc (u := Z62) rfl ok63 inf63 ha11 hw12) ?_
      obtain ⟨w13, hw13, hrw13, h⟩ := st_open h
      refine ro_skip (d := none) rfl (.free rfl) rfl (q_store (T := T62) (u := x10) (a := a11) rfl ok63 rfl rfl hrw13 hw13) ?_
      refine ro_nil ?_
      refine wp_seq ?_
      refine wp_text [0, 1, 2, 3, 4, 5, 6, 7, 8, 9] rfl ?_
      refine rv 25 rfl rfl rfl (q_move (v := .map ((some m5))) rfl rfl) ?_
      refine rv 26 rfl rfl rfl (q_fieldAddr (a := a11) (off := 0) rfl Tryz.underlying63 rfl rfl ok3 (by decide) rfl) ?_
      obtain ⟨x14, hx14, h⟩ := h
      refine rv 27 rfl rfl rfl (q_load (T := (tInt .i64)) (u := x14) (a := (a11.add 0)) rfl ok3 rfl hx14) ?_
      obtain ⟨m15, hm15, h⟩ := h
      refine rv 28 rfl rfl rfl (q_lookup2 (T := T115) (r := (some m5)) (key := x14) (u := m15) (z := Z115) rfl Tryz.underlying114 Tryz.underlying3 (inf115) rfl rfl hm15) ?_
      refine rv 24 rfl rfl rfl (q_move (v := (tTup2 T115 tBool).enc (((m15.getD Z115, m15.isSome)))) rfl rfl) ?_
      refine rv 29 rfl rfl rfl (q_extract (vs := #[T115.enc (((m15.getD Z115, m15.isSome)).1), .bool (((m15.getD Z115, m15.isSome)).2)]) (v := T115.enc (((m15.getD Z115, m15.isSome)).1)) rfl rfl rfl) ?_
      refine rv 30 rfl rfl rfl (q_extract (vs := #[T115.enc (((m15.getD Z115, m15.isSome)).1), .bool (((m15.getD Z115, m15.isSome)).2)]) (v := .bool (((m15.getD Z115, m15.isSome)).2)) rfl rfl rfl) ?_
      obtain ⟨a16, w17, ha16, hw17, h⟩ := nw_open h
      refine rv 10 rfl rfl rfl (q_alloc (u := Z115) rfl ok115 inf115 ha16 hw17) ?_
      obtain ⟨w18, hw18, hrw18, h⟩ := st_open h
      refine ro_skip (d := none) rfl (.free rfl) rfl (q_store (T := T115) (u := ((m15.getD Z115, m15.isSome)).1) (a := a16) rfl ok115 rfl rfl hrw18 hw18) ?_
      refine rv 11 rfl rfl rfl (q_assign (v := .bool (((m15.getD Z115, m15.isSome)).2)) rfl rfl) ?_
      refine ro_nil ?_
      refine wp_seq ?_
      refine wp_text [0, 1, 2, 3, 4, 5, 6, 7, 8, 9] rfl ?_
      refine rv 32 rfl rfl rfl (q_move (v := .pointer (s_1)) rfl rfl) ?_
      refine rv 33 rfl rfl rfl (q_fieldAddr (a := a11) (off := 0) rfl Tryz.underlying63 rfl rfl ok3 (by decide) rfl) ?_
      obtain ⟨x19, hx19, h⟩ := h
      refine rv 34 rfl rfl rfl (q_load (T := (tInt .i64)) (u := x19) (a := (a11.add 0)) rfl ok3 rfl hx19) ?_
      refine ro_wp rfl (.free rfl) (wp_cl (d := (some 35)) rfl (q_call (k := 42) (l := [.pointer (s_1), .int .i64 (x19)]) rfl ent42 rfl) h ?_)
      intro r21 w20 h
      refine rv 31 rfl rfl rfl (q_move (v := (tTup2 T86 tBool).enc (r21)) rfl rfl) ?_
      refine rv 36 rfl rfl rfl (q_extract (vs := #[T86.enc (r21.1), .bool (r21.2)]) (v := T86.enc (r21.1)) rfl rfl rfl) ?_
      refine rv 37 rfl rfl rfl (q_extract (vs := #[T86.enc (r21.1), .bool (r21.2)]) (v := .bool (r21.2)) rfl rfl rfl) ?_
      obtain ⟨a22, w23, ha22, hw23, h⟩ := nw_open h
      refine rv 12 rfl rfl rfl (q_alloc (u := Z86) rfl ok87 inf87 ha22 hw23) ?_
      obtain ⟨w24, hw24, hrw24, h⟩ := st_open h
      refine ro_skip (d := none) rfl (.free rfl) rfl (q_store (T := T86) (u := r21.1) (a := a22) rfl ok87 rfl rfl hrw24 hw24) ?_
      refine rv 13 rfl rfl rfl (q_assign (v := .bool (r21.2)) rfl rfl) ?_
      refine ro_nil ?_
      refine wp_seq ?_
      refine wp_block ?_
      refine wp_seq ?_
      refine wp_text [0, 1, 2, 3, 4] rfl ?_
      refine rv 39 rfl rfl rfl (q_fieldAddr (a := a11) (off := 0) rfl Tryz.underlying63 rfl rfl ok3 (by decide) rfl) ?_
      obtain ⟨x25, hx25, h⟩ := h
      refine rv 40 rfl rfl rfl (q_load (T := (tInt .i64)) (u := x25) (a := (a11.add 0)) rfl ok3 rfl hx25) ?_
      refine ro_wp rfl (.free rfl) (wp_cl (d := (some 41)) rfl (q_call (k := 62) (l := [.int .i64 (x25)]) rfl ent62 rfl) h ?_)
      intro r27 w26 h
      refine rv 42 rfl rfl rfl (q_not (b := r27) rfl rfl) ?_
      refine rv 38 rfl rfl rfl (q_assign (v := .bool ((!r27))) rfl rfl) ?_
      refine ro_nil ?_
      refine wp_if (b := (!r27)) rfl h (fun hb37 h => ?_) (fun hb37 h => ?_)
      · refine wp_seq ?_
        refine wp_text [0] rfl ?_
        refine rv 6 rfl rfl rfl (q_assign (v := .int .i64 ((123 : Int))) rfl rfl) ?_
        refine ro_nil ?_
        refine wp_ret ?_
        exact ret_ok rfl (.cons (.tmp (v := .int .i64 ((123 : Int))) rfl) .nil) ⟨(123 : Int), rfl, h⟩
      · refine wp_seq ?_
        refine wp_text [0, 1] rfl ?_
        refine rv 44 rfl rfl rfl (q_move (v := .bool (((m15.getD Z115, m15.isSome)).2)) rfl rfl) ?_
        refine rv 43 rfl rfl rfl (q_assign (v := .bool (((m15.getD Z115, m15.isSome)).2)) rfl rfl) ?_
        refine ro_nil ?_
        refine wp_if (b := ((m15.getD Z115, m15.isSome)).2) rfl h (fun hb36 h => ?_) (fun hb36 h => ?_)
        · refine wp_seq ?_
          refine wp_text [0] rfl ?_
          refine rv 6 rfl rfl rfl (q_assign (v := .int .i64 ((124 : Int))) rfl rfl) ?_
          refine ro_nil ?_
          refine wp_ret ?_
          exact ret_ok rfl (.cons (.tmp (v := .int .i64 ((124 : Int))) rfl) .nil) ⟨(124 : Int), rfl, h⟩
        · refine wp_seq ?_
          refine wp_text [0, 1, 2, 3, 4] rfl ?_
          refine rv 46 rfl rfl rfl (q_fieldAddr (a := a22) (off := 0) rfl Tryz.underlying87 rfl rfl ok2 (by decide) rfl) ?_
          obtain ⟨x28, hx28, h⟩ := h
          refine rv 47 rfl rfl rfl (q_load (T := (tInt .i64)) (u := x28) (a := (a22.add 0)) rfl ok2 rfl hx28) ?_
          refine rv 48 rfl rfl rfl (q_move (v := .int .i64 (t_2)) rfl rfl) ?_
          refine rv 49 rfl rfl rfl (q_geq (a := x28) (b := t_2) rfl rfl rfl) ?_
          refine rv 45 rfl rfl rfl (q_assign (v := .bool ((decide (x28 ≥ t_2)))) rfl rfl) ?_
          refine ro_nil ?_
          refine wp_if (b := (decide (x28 ≥ t_2))) rfl h (fun hb35 h => ?_) (fun hb35 h => ?_)
          · refine wp_seq ?_
            refine wp_text [0] rfl ?_
            refine rv 6 rfl rfl rfl (q_assign (v := .int .i64 ((121 : Int))) rfl rfl) ?_
            refine ro_nil ?_
            refine wp_ret ?_
            exact ret_ok rfl (.cons (.tmp (v := .int .i64 ((121 : Int))) rfl) .nil) ⟨(121 : Int), rfl, h⟩
          · refine wp_seq ?_
            refine wp_text [0, 1, 2, 3, 4] rfl ?_
            refine rv 51 rfl rfl rfl (q_move (v := .pointer (s_1)) rfl rfl) ?_
            refine rv 52 rfl rfl rfl (q_fieldAddr (a := a11) (off := 0) rfl Tryz.underlying63 rfl rfl ok3 (by decide) rfl) ?_
            obtain ⟨x29, hx29, h⟩ := h
            refine rv 53 rfl rfl rfl (q_load (T := (tInt .i64)) (u := x29) (a := (a11.add 0)) rfl ok3 rfl hx29) ?_
            refine ro_wp rfl (.free rfl) (wp_cl (d := (some 54)) rfl (q_call (k := 66) (l := [.pointer (s_1), .int .i64 (x29)]) rfl ent66 rfl) h ?_)
            intro r31 w30 h
            refine rv 50 rfl rfl rfl (q_assign (v := .bool (r31)) rfl rfl) ?_
            refine ro_nil ?_
            refine wp_if (b := r31) rfl h (fun hb34 h => ?_) (fun hb34 h => ?_)
            · refine wp_seq ?_
              refine wp_text [0] rfl ?_
              refine rv 6 rfl rfl rfl (q_assign (v := .int .i64 ((125 : Int))) rfl rfl) ?_
              refine ro_nil ?_
              refine wp_ret ?_
              exact ret_ok rfl (.cons (.tmp (v := .int .i64 ((125 : Int))) rfl) .nil) ⟨(125 : Int), rfl, h⟩
            · refine wp_skip ?_
              refine wp_text [0, 1, 2, 3, 4] rfl ?_
              refine rv 55 rfl rfl rfl (q_move (v := .map ((some m5))) rfl rfl) ?_
              refine rv 56 rfl rfl rfl (q_fieldAddr (a := a11) (off := 0) rfl Tryz.underlying63 rfl rfl ok3 (by decide) rfl) ?_
              obtain ⟨x32, hx32, h⟩ := h
              refine rv 57 rfl rfl rfl (q_load (T := (tInt .i64)) (u := x32) (a := (a11.add 0)) rfl ok3 rfl hx32) ?_
              refine rv 58 rfl rfl rfl (q_build115_  rfl ) ?_
              refine ro_wp rfl (.free rfl) (wp_mput (T := T115) (r := (some m5)) (key := x32) (v := (⟨⟩ : S115)) (d := none) rfl (.inl rfl) Tryz.underlying114 Tryz.underlying3 rfl rfl rfl h ?_)
              intro w33 h
              refine ro_nil ?_
              refine wp_text [0, 1] rfl ?_
              refine rv 59 rfl rfl rfl (q_add (a := t_6) (b := (1 : Int)) rfl rfl rfl) ?_
              refine rv 20 rfl rfl rfl (q_move (v := .int .i64 ((IntKind.i64.wrap (t_6 + (1 : Int))))) rfl rfl) ?_
              refine ro_nil ?_
              exact ⟨((IntKind.i64.wrap (t_6 + (1 : Int)))), _, arr (upd_step (upd_step (upd_step (upd_step (upd_step (upd_step rfl rfl) rfl) rfl) rfl) rfl) rfl), h⟩
    · refine wp_exit ?_
      refine wp_seq ?_
      refine wp_text [0] rfl ?_
      refine rv 6 rfl rfl rfl (q_assign (v := .int .i64 ((0 : Int))) rfl rfl) ?_
      refine ro_nil ?_
      refine wp_ret ?_
      exact ret_ok rfl (.cons (.tmp (v := .int .i64 ((0 : Int))) rfl) .nil) ⟨(0 : Int), rfl, h⟩

-- moiety/chain.New
def F51 (w : World) (R : (Option Addr) → World → Prop) : Prop :=
  nw 112 T111 (⟨(⟨none, 0, 0⟩ : Slc), (0 : Int)⟩ : S111) w fun a1 w2 =>
  R (some a1) w2
theorem F51_ok {w : World} {R : (Option Addr) → World → Prop} (h : F51 w R) : cl Tryz.prog 51 [] tPtr w R := by
  unfold F51 at h
  refine calls_start 3 Tryz.func51 rfl rfl (Nat.le_of_ble_eq_true rfl) ?_
  refine wp_seq ?_
  refine wp_text [0] rfl ?_
  refine rv 0 rfl rfl rfl (q_assign (v := .pointer ((none : Option Addr))) rfl rfl) ?_
  refine ro_nil ?_
  refine wp_seq ?_
  refine wp_text [0, 1, 2] rfl ?_
  refine rv 1 rfl rfl rfl (q_build112_  rfl ) ?_
  obtain ⟨a1, w2, ha1, hw2, h⟩ := nw_open h
  refine rv 2 rfl rfl rfl (q_box (u := (⟨(⟨none, 0, 0⟩ : Slc), (0 : Int)⟩ : S111)) rfl ok112 rfl ha1 hw2) ?_
  refine rv 0 rfl rfl rfl (q_assign (v := .pointer (some a1)) rfl rfl) ?_
  refine ro_nil ?_
  refine wp_ret ?_
  exact ret_ok rfl (.cons (.tmp (v := .pointer ((some a1))) rfl) .nil) ⟨(some a1), rfl, h⟩

-- (*moiety/chain.Chain).Put
def F52 (c_1 : (Option Addr)) (t_2 : Int) (v_3 : Int) (w : World) (R : Int → World → Prop) : Prop :=
  if ((decide (t_2 < (1 : Int))) || (decide (t_2 > (1125899906842624 : Int)))) = true then (
    R (110 : Int) w
  ) else (
    cl Tryz.prog 61 [.pointer (c_1)] (tTup2 T86 tBool) w fun r5 w4 =>
    nw 87 T86 Z86 w4 fun a6 w7 =>
    st T86 a6 r5.1 w7 fun w8 =>
    ex (fun x => r5.2 = true → (RdAt (tInt .i64) (a6.add 0) w8) x) fun x9 =>
    ex (fun x => (!(r5.2 && (decide (t_2 ≤ x9)))) = true → (NC c_1) x) fun a10 =>
    ex (fun x => (!(r5.2 && (decide (t_2 ≤ x9)))) = true → (RdAt (tInt .i64) (a10.add 1) w8) x) fun x11 =>
    if ((r5.2 && (decide (t_2 ≤ x9))) || (decide (t_2 ≤ x11))) = true then (
      R (111 : Int) w8
    ) else (
      ex (NC c_1) fun a12 =>
      ex (RdAt tSlc (a12.add 0) w8) fun x13 =>
      if (decide ((x13.len : Int) ≥ (10000 : Int))) = true then (
        R (112 : Int) w8
      ) else (
        ex (RdAt tSlc (a12.add 0) w8) fun x14 =>
        apl 87 T86 2 16 x14 [(⟨t_2, v_3⟩ : S86)] w8 fun r18 w17 =>
        st tSlc (a12.add 0) r18 w17 fun w19 =>
        R (0 : Int) w19
      )
    )
  )
theorem F52_ok {c_1 : (Option Addr)} {t_2 : Int} {v_3 : Int} {w : World} {R : Int → World → Prop} (h : F52 c_1 t_2 v_3 w R) : cl Tryz.prog 52 [.pointer (c_1), .int .i64 (t_2), .int .i64 (v_3)] (tInt .i64) w R := by
  unfold F52 at h
  refine calls_start 53 Tryz.func52 rfl rfl (Nat.le_of_ble_eq_true rfl) ?_
  refine wp_seq ?_
  refine wp_text [0] rfl ?_
  refine rv 6 rfl rfl rfl (q_assign (v := .int .i64 ((0 : Int))) rfl rfl) ?_
  refine ro_nil ?_
  refine wp_seq ?_
  refine wp_seq ?_
  refine wp_text [0, 1, 2, 3, 4, 5] rfl ?_
  refine rv 9 rfl rfl rfl (q_move (v := .int .i64 (t_2)) rfl rfl) ?_
  refine rv 10 rfl rfl rfl (q_lss (a := t_2) (b := (1 : Int)) rfl rfl rfl) ?_
  refine rv 11 rfl rfl rfl (q_move (v := .bool ((decide (t_2 < (1 : Int))))) rfl rfl) ?_
  refine ro_gval (g := (!(decide (t_2 < (1 : Int))))) (d := (some 12)) rfl (.no 2 11 true (decide (t_2 < (1 : Int))) rfl rfl rfl rfl) rfl (fun hg => q_move (v := .int .i64 (t_2)) rfl rfl) ?_
  refine ro_gval (g := (!(decide (t_2 < (1 : Int))))) (d := (some 13)) rfl (.no 2 11 true (decide (t_2 < (1 : Int))) rfl rfl rfl rfl) rfl (fun hg => q_gtr (k := .i64) (a := t_2) (b := (1125899906842624 : Int)) rfl (gvb_yes hg) rfl) ?_
  refine rv 14 rfl rfl rfl (q_pickGF (a := (decide (t_2 < (1 : Int)))) (c := (decide (t_2 > (1125899906842624 : Int)))) rfl rfl rfl rfl) ?_
  refine ro_nil ?_
  refine wp_if (b := ((decide (t_2 < (1 : Int))) || (decide (t_2 > (1125899906842624 : Int))))) rfl h (fun hb22 h => ?_) (fun hb22 h => ?_)
  · refine wp_seq ?_
    refine wp_text [0] rfl ?_
    refine rv 6 rfl rfl rfl (q_assign (v := .int .i64 ((110 : Int))) rfl rfl) ?_
    refine ro_nil ?_
    refine wp_ret ?_
    exact ret_ok rfl (.cons (.tmp (v := .int .i64 ((110 : Int))) rfl) .nil) ⟨(110 : Int), rfl, h⟩
  · refine wp_skip ?_
    refine wp_seq ?_
    refine wp_seq ?_
    refine wp_text [0, 1, 2, 3, 4, 5, 6, 7] rfl ?_
    refine rv 16 rfl rfl rfl (q_move (v := .pointer (c_1)) rfl rfl) ?_
    refine ro_wp rfl (.free rfl) (wp_cl (d := (some 17)) rfl (q_call (k := 61) (l := [.pointer (c_1)]) rfl ent61 rfl) h ?_)
    intro r5 w4 h
    refine rv 15 rfl rfl rfl (q_move (v := (tTup2 T86 tBool).enc (r5)) rfl rfl) ?_
    refine rv 18 rfl rfl rfl (q_extract (vs := #[T86.enc (r5.1), .bool (r5.2)]) (v := T86.enc (r5.1)) rfl rfl rfl) ?_
    refine rv 19 rfl rfl rfl (q_extract (vs := #[T86.enc (r5.1), .bool (r5.2)]) (v := .bool (r5.2)) rfl rfl rfl) ?_
    obtain ⟨a6, w7, ha6, hw7, h⟩ := nw_open h
    refine rv 7 rfl rfl rfl (q_alloc (u := Z86) rfl ok87 inf87 ha6 hw7) ?_
    obtain ⟨w8, hw8, hrw8, h⟩ := st_open h
    refine ro_skip (d := none) rfl (.free rfl) rfl (q_store (T := T86) (u := r5.1) (a := a6) rfl ok87 rfl rfl hrw8 hw8) ?_
    refine rv 8 rfl rfl rfl (q_assign (v := .bool (r5.2)) rfl rfl) ?_
    refine ro_nil ?_
    refine wp_seq ?_
    refine wp_text [0, 1, 2, 3, 4, 5, 6, 7, 8, 9, 10, 11, 12, 13, 14] rfl ?_
    refine rv 20 rfl rfl rfl (q_move (v := .bool (r5.2)) rfl rfl) ?_
    refine rv 21 rfl rfl rfl (q_move (v := .bool (r5.2)) rfl rfl) ?_
    refine ro_gval (g := r5.2) (d := (some 22)) rfl (.yes 1 21 true r5.2 rfl rfl rfl rfl) rfl (fun hg => q_move (v := .int .i64 (t_2)) rfl rfl) ?_
    refine ro_gval (g := r5.2) (d := (some 23)) rfl (.yes 1 21 true r5.2 rfl rfl rfl rfl) rfl (fun hg => q_fieldAddr (a := a6) (off := 0) rfl Tryz.underlying87 rfl rfl ok2 (by decide) rfl) ?_
    obtain ⟨x9, hx9, h⟩ := h
    refine ro_gval (g := r5.2) (d := (some 24)) rfl (.yes 1 21 true r5.2 rfl rfl rfl rfl) rfl (fun hg => q_load (T := (tInt .i64)) (u := x9) (a := (a6.add 0)) rfl ok2 (gvb_yes hg) (hx9 hg)) ?_
    refine ro_gval (g := r5.2) (d := (some 25)) rfl (.yes 1 21 true r5.2 rfl rfl rfl rfl) rfl (fun hg => q_leq (k := .i64) (a := t_2) (b := x9) rfl (gvb_yes hg) (gvb_yes hg)) ?_
    refine rv 26 rfl rfl rfl (q_pickGT (a := r5.2) (b := (decide (t_2 ≤ x9))) rfl rfl rfl rfl) ?_
    refine rv 27 rfl rfl rfl (q_move (v := .bool ((r5.2 && (decide (t_2 ≤ x9))))) rfl rfl) ?_
    refine ro_gval (g := (!(r5.2 && (decide (t_2 ≤ x9))))) (d := (some 28)) rfl (.no 7 27 true (r5.2 && (decide (t_2 ≤ x9))) rfl rfl rfl rfl) rfl (fun hg => q_move (v := .int .i64 (t_2)) rfl rfl) ?_
    refine ro_gval (g := (!(r5.2 && (decide (t_2 ≤ x9))))) (d := (some 29)) rfl (.no 7 27 true (r5.2 && (decide (t_2 ≤ x9))) rfl rfl rfl rfl) rfl (fun hg => q_move (v := .pointer (c_1)) rfl rfl) ?_
    obtain ⟨a10, ha10, h⟩ := h
    refine ro_gval (g := (!(r5.2 && (decide (t_2 ≤ x9))))) (d := (some 30)) rfl (.no 7 27 true (r5.2 && (decide (t_2 ≤ x9))) rfl rfl rfl rfl) rfl (fun hg => q_nilCheck (a := a10) rfl ((gvb_yes hg).trans (congrArg Value.pointer (ha10 hg)))) ?_
    refine ro_gval (g := (!(r5.2 && (decide (t_2 ≤ x9))))) (d := (some 31)) rfl (.no 7 27 true (r5.2 && (decide (t_2 ≤ x9))) rfl rfl rfl rfl) rfl (fun hg => q_fieldAddr (a := a10) (off := 1) rfl Tryz.underlying112 rfl rfl ok2 (by decide) (gvb_yes hg)) ?_
    obtain ⟨x11, hx11, h⟩ := h
    refine ro_gval (g := (!(r5.2 && (decide (t_2 ≤ x9))))) (d := (some 32)) rfl (.no 7 27 true (r5.2 && (decide (t_2 ≤ x9))) rfl rfl rfl rfl) rfl (fun hg => q_load (T := (tInt .i64)) (u := x11) (a := (a10.add 1)) rfl ok2 (gvb_yes hg) (hx11 hg)) ?_
    refine ro_gval (g := (!(r5.2 && (decide (t_2 ≤ x9))))) (d := (some 33)) rfl (.no 7 27 true (r5.2 && (decide (t_2 ≤ x9))) rfl rfl rfl rfl) rfl (fun hg => q_leq (k := .i64) (a := t_2) (b := x11) rfl (gvb_yes hg) (gvb_yes hg)) ?_
    refine rv 34 rfl rfl rfl (q_pickGF (a := (r5.2 && (decide (t_2 ≤ x9)))) (c := (decide (t_2 ≤ x11))) rfl rfl rfl rfl) ?_
    refine ro_nil ?_
    refine wp_if (b := ((r5.2 && (decide (t_2 ≤ x9))) || (decide (t_2 ≤ x11)))) rfl h (fun hb21 h => ?_) (fun hb21 h => ?_)
    · refine wp_seq ?_
      refine wp_text [0] rfl ?_
      refine rv 6 rfl rfl rfl (q_assign (v := .int .i64 ((111 : Int))) rfl rfl) ?_
      refine ro_nil ?_
      refine wp_ret ?_
      exact ret_ok rfl (.cons (.tmp (v := .int .i64 ((111 : Int))) rfl) .nil) ⟨(111 : Int), rfl, h⟩
    · refine wp_skip ?_
      refine wp_seq ?_
      refine wp_seq ?_
      refine wp_text [0, 1, 2, 3, 4, 5] rfl ?_
      refine rv 35 rfl rfl rfl (q_move (v := .pointer (c_1)) rfl rfl) ?_
      obtain ⟨a12, ha12, h⟩ := h
      refine rv 36 rfl rfl rfl (q_nilCheck (a := a12) rfl (congrArg Value.pointer ha12)) ?_
      refine rv 37 rfl rfl rfl (q_fieldAddr (a := a12) (off := 0) rfl Tryz.underlying112 rfl rfl ok110 (by decide) rfl) ?_
      obtain ⟨x13, hx13, h⟩ := h
      refine rv 38 rfl rfl rfl (q_load (T := tSlc) (u := x13) (a := (a12.add 0)) rfl ok110 rfl hx13) ?_
      refine rv 39 rfl rfl rfl (q_len (s := x13) rfl Tryz.underlying110 rfl) ?_
      refine rv 40 rfl rfl rfl (q_geq (a := (x13.len : Int)) (b := (10000 : Int)) rfl rfl rfl) ?_
      refine ro_nil ?_
      refine wp_if (b := (decide ((x13.len : Int) ≥ (10000 : Int)))) rfl h (fun hb20 h => ?_) (fun hb20 h => ?_)
      · refine wp_seq ?_
        refine wp_text [0] rfl ?_
        refine rv 6 rfl rfl rfl (q_assign (v := .int .i64 ((112 : Int))) rfl rfl) ?_
        refine ro_nil ?_
        refine wp_ret ?_
        exact ret_ok rfl (.cons (.tmp (v := .int .i64 ((112 : Int))) rfl) .nil) ⟨(112 : Int), rfl, h⟩
      · refine wp_skip ?_
        refine wp_seq ?_
        refine wp_text [0, 1, 2, 3, 4, 5, 6, 7, 8, 9, 10, 11, 12] rfl ?_
        refine rv 41 rfl rfl rfl (q_move (v := .pointer (c_1)) rfl rfl) ?_
        refine rv 42 rfl rfl rfl (q_move (v := .pointer (c_1)) rfl rfl) ?_
        refine rv 43 rfl rfl rfl (q_nilCheck (a := a12) rfl (congrArg Value.pointer ha12)) ?_
        refine rv 44 rfl rfl rfl (q_fieldAddr (a := a12) (off := 0) rfl Tryz.underlying112 rfl rfl ok110 (by decide) rfl) ?_
        obtain ⟨x14, hx14, h⟩ := h
        refine rv 45 rfl rfl rfl (q_load (T := tSlc) (u := x14) (a := (a12.add 0)) rfl ok110 rfl hx14) ?_
        refine rv 46 rfl rfl rfl (q_move (v := .int .i64 (t_2)) rfl rfl) ?_
        refine rv 47 rfl rfl rfl (q_move (v := .int .i64 (v_3)) rfl rfl) ?_
        refine rv 48 rfl rfl rfl (q_build87_0_1 (v0 := t_2) (v1 := v_3) rfl rfl rfl) ?_
        obtain ⟨a15, w16, ha15, hw16, h⟩ := apl_open h
        refine rv 49 rfl rfl rfl (q_rowOf (T := T86) (xs := [(⟨t_2, v_3⟩ : S86)]) rfl Tryz.underlying110 ok87 inf87 rfl (by decide) (by decide) rfl ha15 hw16) ?_
        refine ro_wp rfl (.free rfl) (wp_append (d := (some 50)) (T := T86) rfl rfl Tryz.underlying110 ⟨_, Tryz.underlying110⟩ ok87 inf87 rfl rfl (Nat.lt_of_lt_of_le Nat.zero_lt_one (Nat.le_of_ble_eq_true rfl)) rfl rfl h ?_)
        intro r18 w17 h
        refine rv 51 rfl rfl rfl (q_nilCheck (a := a12) rfl (congrArg Value.pointer ha12)) ?_
        refine rv 52 rfl rfl rfl (q_fieldAddr (a := a12) (off := 0) rfl Tryz.underlying112 rfl rfl ok110 (by decide) rfl) ?_
        obtain ⟨w19, hw19, hrw19, h⟩ := st_open h
        refine ro_skip (d := none) rfl (.free rfl) rfl (q_store (T := tSlc) (u := r18) (a := (a12.add 0)) rfl ok110 rfl rfl hrw19 hw19) ?_
        refine ro_nil ?_
        refine wp_seq ?_
        refine wp_text [0] rfl ?_
        refine rv 6 rfl rfl rfl (q_assign (v := .int .i64 ((0 : Int))) rfl rfl) ?_
        refine ro_nil ?_
        refine wp_ret ?_
        exact ret_ok rfl (.cons (.tmp (v := .int .i64 ((0 : Int))) rfl) .nil) ⟨(0 : Int), rfl, h⟩

-- moiety/store.in
def F56 (t_1 : Int) (w : World) (R : Bool → World → Prop) : Prop :=
  R ((decide (t_1 ≥ (0 : Int))) && (decide (t_1 ≤ (1125899906842624 : Int)))) w
theorem F56_ok {t_1 : Int} {w : World} {R : Bool → World → Prop} (h : F56 t_1 w R) : cl Tryz.prog 56 [.int .i64 (t_1)] tBool w R := by
  unfold F56 at h
  refine calls_start 9 Tryz.func56 rfl rfl (Nat.le_of_ble_eq_true rfl) ?_
  refine wp_seq ?_
  refine wp_text [0] rfl ?_
  refine rv 2 rfl rfl rfl (q_assign (v := .bool (false)) rfl rfl) ?_
  refine ro_nil ?_
  refine wp_seq ?_
  refine wp_text [0, 1, 2, 3, 4, 5, 6] rfl ?_
  refine rv 3 rfl rfl rfl (q_move (v := .int .i64 (t_1)) rfl rfl) ?_
  refine rv 4 rfl rfl rfl (q_geq (a := t_1) (b := (0 : Int)) rfl rfl rfl) ?_
  refine rv 5 rfl rfl rfl (q_move (v := .bool ((decide (t_1 ≥ (0 : Int))))) rfl rfl) ?_
  refine ro_gval (g := (decide (t_1 ≥ (0 : Int)))) (d := (some 6)) rfl (.yes 2 5 true (decide (t_1 ≥ (0 : Int))) rfl rfl rfl rfl) rfl (fun hg => q_move (v := .int .i64 (t_1)) rfl rfl) ?_
  refine ro_gval (g := (decide (t_1 ≥ (0 : Int)))) (d := (some 7)) rfl (.yes 2 5 true (decide (t_1 ≥ (0 : Int))) rfl rfl rfl rfl) rfl (fun hg => q_leq (k := .i64) (a := t_1) (b := (1125899906842624 : Int)) rfl (gvb_yes hg) rfl) ?_
  refine rv 8 rfl rfl rfl (q_pickGT (a := (decide (t_1 ≥ (0 : Int)))) (b := (decide (t_1 ≤ (1125899906842624 : Int)))) rfl rfl rfl rfl) ?_
  refine rv 2 rfl rfl rfl (q_assign (v := .bool (((decide (t_1 ≥ (0 : Int))) && (decide (t_1 ≤ (1125899906842624 : Int)))))) rfl rfl) ?_
  refine ro_nil ?_
  refine wp_ret ?_
  exact ret_ok rfl (.cons (.tmp (v := .bool (((decide (t_1 ≥ (0 : Int))) && (decide (t_1 ≤ (1125899906842624 : Int)))))) rfl) .nil) ⟨((decide (t_1 ≥ (0 : Int))) && (decide (t_1 ≤ (1125899906842624 : Int)))), rfl, h⟩

-- moiety/amount.Add
def F57 (a_1 : Int) (b_2 : Int) (w : World) (R : (Int × Int) → World → Prop) : Prop :=
  nwS 2 (tInt .i64) [a_1, b_2] w fun a3 w4 =>
  cl Tryz.prog 70 [tSlc.enc ((⟨some a3, 2, 2⟩ : Slc))] (tTup2 (tInt .i64) (tInt .i64)) w4 fun r6 w5 =>
  R (r6.1, r6.2) w5
theorem F57_ok {a_1 : Int} {b_2 : Int} {w : World} {R : (Int × Int) → World → Prop} (h : F57 a_1 b_2 w R) : cl Tryz.prog 57 [.int .i64 (a_1), .int .i64 (b_2)] (tTup2 (tInt .i64) (tInt .i64)) w R := by
  unfold F57 at h
  refine calls_start 12 Tryz.func57 rfl rfl (Nat.le_of_ble_eq_true rfl) ?_
  refine wp_seq ?_
  refine wp_text [0, 1] rfl ?_
  refine rv 4 rfl rfl rfl (q_assign (v := .int .i64 ((0 : Int))) rfl rfl) ?_
  refine rv 5 rfl rfl rfl (q_assign (v := .int .i64 ((0 : Int))) rfl rfl) ?_
  refine ro_nil ?_
  refine wp_seq ?_
  refine wp_text [0, 1, 2, 3, 4, 5, 6, 7] rfl ?_
  refine rv 6 rfl rfl rfl (q_move (v := .int .i64 (a_1)) rfl rfl) ?_
  refine rv 7 rfl rfl rfl (q_move (v := .int .i64 (b_2)) rfl rfl) ?_
  obtain ⟨a3, w4, ha3, hw4, h⟩ := nwS_open h
  refine rv 8 rfl rfl rfl (q_rowOf (T := (tInt .i64)) (xs := [a_1, b_2]) rfl Tryz.underlying138 ok2 inf2 rfl (by decide) (by decide) rfl ha3 hw4) ?_
  refine ro_wp rfl (.free rfl) (wp_cl (d := (some 9)) rfl (q_call (k := 70) (l := [tSlc.enc ((⟨some a3, 2, 2⟩ : Slc))]) rfl ent70 rfl) h ?_)
  intro r6 w5 h
  refine rv 10 rfl rfl rfl (q_extract (vs := #[.int .i64 (r6.1), .int .i64 (r6.2)]) (v := .int .i64 (r6.1)) rfl rfl rfl) ?_
  refine rv 11 rfl rfl rfl (q_extract (vs := #[.int .i64 (r6.1), .int .i64 (r6.2)]) (v := .int .i64 (r6.2)) rfl rfl rfl) ?_
  refine rv 4 rfl rfl rfl (q_assign (v := .int .i64 (r6.1)) rfl rfl) ?_
  refine rv 5 rfl rfl rfl (q_assign (v := .int .i64 (r6.2)) rfl rfl) ?_
  refine ro_nil ?_
  refine wp_ret ?_
  exact ret_ok rfl (.cons (.tmp (v := .int .i64 (r6.1)) rfl) (.cons (.tmp (v := .int .i64 (r6.2)) rfl) .nil)) ⟨(r6.1, r6.2), rfl, h⟩

-- moiety/amount.Fee
def F58 (n_1 : Int) (rate_2 : Nat) (w : World) (R : (Int × Int) → World → Prop) : Prop :=
  cl Tryz.prog 44 [.int .i64 (n_1)] (tInt .i64) w fun r4 w3 =>
  if (r4 != (0 : Int)) = true then (
    R ((0 : Int), r4) w3
  ) else (
    cl Tryz.prog 40 [.float .f64 (rate_2)] (tInt .i64) w3 fun r6 w5 =>
    if (r6 != (0 : Int)) = true then (
      R ((0 : Int), r6) w5
    ) else (
      cl Tryz.prog 71 [.int .i64 (n_1), .float .f64 (rate_2)] (tTup2 (tInt .i64) (tInt .i64)) w5 fun r8 w7 =>
      R (r8.1, r8.2) w7
    )
  )
theorem F58_ok {n_1 : Int} {rate_2 : Nat} {w : World} {R : (Int × Int) → World → Prop} (h : F58 n_1 rate_2 w R) : cl Tryz.prog 58 [.int .i64 (n_1), .float .f64 (rate_2)] (tTup2 (tInt .i64) (tInt .i64)) w R := by
  unfold F58 at h
  refine calls_start 23 Tryz.func58 rfl rfl (Nat.le_of_ble_eq_true rfl) ?_
  refine wp_seq ?_
  refine wp_text [0, 1] rfl ?_
  refine rv 4 rfl rfl rfl (q_assign (v := .int .i64 ((0 : Int))) rfl rfl) ?_
  refine rv 5 rfl rfl rfl (q_assign (v := .int .i64 ((0 : Int))) rfl rfl) ?_
  refine ro_nil ?_
  refine wp_seq ?_
  refine wp_seq ?_
  refine wp_text [0, 1, 2] rfl ?_
  refine rv 8 rfl rfl rfl (q_move (v := .int .i64 (n_1)) rfl rfl) ?_
  refine ro_wp rfl (.free rfl) (wp_cl (d := (some 9)) rfl (q_call (k := 44) (l := [.int .i64 (n_1)]) rfl ent44 rfl) h ?_)
  intro r4 w3 h
  refine rv 6 rfl rfl rfl (q_assign (v := .int .i64 (r4)) rfl rfl) ?_
  refine ro_nil ?_
  refine wp_seq ?_
  refine wp_text [0, 1] rfl ?_
  refine rv 10 rfl rfl rfl (q_move (v := .int .i64 (r4)) rfl rfl) ?_
  refine rv 11 rfl rfl rfl (q_neq (a := r4) (b := (0 : Int)) rfl rfl rfl) ?_
  refine ro_nil ?_
  refine wp_if (b := (r4 != (0 : Int))) rfl h (fun hb10 h => ?_) (fun hb10 h => ?_)
  · refine wp_seq ?_
    refine wp_text [0, 1, 2] rfl ?_
    refine rv 12 rfl rfl rfl (q_move (v := .int .i64 (r4)) rfl rfl) ?_
    refine rv 4 rfl rfl rfl (q_assign (v := .int .i64 ((0 : Int))) rfl rfl) ?_
    refine rv 5 rfl rfl rfl (q_assign (v := .int .i64 (r4)) rfl rfl) ?_
    refine ro_nil ?_
    refine wp_ret ?_
    exact ret_ok rfl (.cons (.tmp (v := .int .i64 ((0 : Int))) rfl) (.cons (.tmp (v := .int .i64 (r4)) rfl) .nil)) ⟨((0 : Int), r4), rfl, h⟩
  · refine wp_skip ?_
    refine wp_seq ?_
    refine wp_seq ?_
    refine wp_text [0, 1, 2] rfl ?_
    refine rv 13 rfl rfl rfl (q_move (v := .float .f64 (rate_2)) rfl rfl) ?_
    refine ro_wp rfl (.free rfl) (wp_cl (d := (some 14)) rfl (q_call (k := 40) (l := [.float .f64 (rate_2)]) rfl ent40 rfl) h ?_)
    intro r6 w5 h
    refine rv 7 rfl rfl rfl (q_assign (v := .int .i64 (r6)) rfl rfl) ?_
    refine ro_nil ?_
    refine wp_seq ?_
    refine wp_text [0, 1] rfl ?_
    refine rv 15 rfl rfl rfl (q_move (v := .int .i64 (r6)) rfl rfl) ?_
    refine rv 16 rfl rfl rfl (q_neq (a := r6) (b := (0 : Int)) rfl rfl rfl) ?_
    refine ro_nil ?_
    refine wp_if (b := (r6 != (0 : Int))) rfl h (fun hb9 h => ?_) (fun hb9 h => ?_)
    · refine wp_seq ?_
      refine wp_text [0, 1, 2] rfl ?_
      refine rv 17 rfl rfl rfl (q_move (v := .int .i64 (r6)) rfl rfl) ?_
      refine rv 4 rfl rfl rfl (q_assign (v := .int .i64 ((0 : Int))) rfl rfl) ?_
      refine rv 5 rfl rfl rfl (q_assign (v := .int .i64 (r6)) rfl rfl) ?_
      refine ro_nil ?_
      refine wp_ret ?_
      exact ret_ok rfl (.cons (.tmp (v := .int .i64 ((0 : Int))) rfl) (.cons (.tmp (v := .int .i64 (r6)) rfl) .nil)) ⟨((0 : Int), r6), rfl, h⟩
    · refine wp_skip ?_
      refine wp_seq ?_
      refine wp_text [0, 1, 2, 3, 4, 5, 6] rfl ?_
      refine rv 18 rfl rfl rfl (q_move (v := .int .i64 (n_1)) rfl rfl) ?_
      refine rv 19 rfl rfl rfl (q_move (v := .float .f64 (rate_2)) rfl rfl) ?_
      refine ro_wp rfl (.free rfl) (wp_cl (d := (some 20)) rfl (q_call (k := 71) (l := [.int .i64 (n_1), .float .f64 (rate_2)]) rfl ent71 rfl) h ?_)
      intro r8 w7 h
      refine rv 21 rfl rfl rfl (q_extract (vs := #[.int .i64 (r8.1), .int .i64 (r8.2)]) (v := .int .i64 (r8.1)) rfl rfl rfl) ?_
      refine rv 22 rfl rfl rfl (q_extract (vs := #[.int .i64 (r8.1), .int .i64 (r8.2)]) (v := .int .i64 (r8.2)) rfl rfl rfl) ?_
      refine rv 4 rfl rfl rfl (q_assign (v := .int .i64 (r8.1)) rfl rfl) ?_
      refine rv 5 rfl rfl rfl (q_assign (v := .int .i64 (r8.2)) rfl rfl) ?_
      refine ro_nil ?_
      refine wp_ret ?_
      exact ret_ok rfl (.cons (.tmp (v := .int .i64 (r8.1)) rfl) (.cons (.tmp (v := .int .i64 (r8.2)) rfl) .nil)) ⟨(r8.1, r8.2), rfl, h⟩

end Go.Proofs.YtpdaapffkdejoaaGreat.Cf
