/- Characteristic formulae of Go functions, and that they are. Printed by gen.py (own tool). -/
import Derived.Test.YtojcgejjdfcaaaaTy
namespace Go.Proofs.Ytojcgejjdfcaaaa.Cf
open Go
set_option maxRecDepth 100000
set_option maxHeartbeats 1000000
set_option linter.unusedVariables false
set_option linter.unusedSimpArgs false

-- (*moiety/locks.Table).give
def F29_j2 (t_9 : Int) (out_12 : Slc) (w13 : World) (K11 : Slc × Int → World → Prop) (R : Slc → World → Prop) : Prop :=
  K11 (out_12, (IntKind.i64.wrap (t_9 + (1 : Int)))) w13
def F29_j4 (t_25 : Int) (out_28 : Slc) (w29 : World) (K27 : Slc × Int → World → Prop) (R : Slc → World → Prop) : Prop :=
  K27 (out_28, (IntKind.i64.wrap (t_25 + (1 : Int)))) w29
def F29_j5 (a2 : Addr) (x15 : Int) (a18 : Addr) (out_24 : Slc) (t_25 : Int) (a32 : Addr) (m38 : (Option Bool)) (t_45 : Bool) (w46 : World) (K27 : Slc × Int → World → Prop) (R : Slc → World → Prop) : Prop :=
  if t_45 = true then (
    F29_j4 t_25 out_24 w46 K27 R
  ) else (
    dr w46 fun w47 =>
    ex (RdAt tMap (a18.add 0) w47) fun x48 =>
    ex (RdAt (tInt .i64) a32 w47) fun x49 =>
    ex (RdAt tMap (a18.add 0) w47) fun x50 =>
    ex (RdAt (tInt .i64) a32 w47) fun x51 =>
    ex (MapGet tBool .i64 x50 x51 w47) fun m52 =>
    mput tBool .i64 x48 x49 ((m52.getD false) || (m38.getD false)) w47 fun w53 =>
    dr w53 fun w54 =>
    ex (RdAt tMap (a18.add 1) w54) fun x55 =>
    ex (RdAt (tInt .i64) a32 w54) fun x56 =>
    mdel tBool .i64 x55 x56 w54 fun w57 =>
    dr w57 fun w58 =>
    ex (RdAt tMap (a2.add 1) w58) fun x59 =>
    ex (RdAt (tInt .i64) a32 w58) fun x60 =>
    mdel (tInt .i64) .i64 x59 x60 w58 fun w61 =>
    ex (RdAt (tInt .i64) a32 w61) fun x62 =>
    apl 56 T55 2 16 out_24 [(⟨x62, x15⟩ : S55)] w61 fun r66 w65 =>
    F29_j4 t_25 r66 w65 K27 R
  )
def F29_l3 (a2 : Addr) (t_9 : Int) (x15 : Int) (a18 : Addr) (r23 : Slc) (out_24 : Slc) (t_25 : Int) (w26 : World) (K11 : Slc × Int → World → Prop) (K27 : Slc × Int → World → Prop) (R : Slc → World → Prop) : Prop :=
  if (decide (t_25 < (r23.len : Int))) = true then (
    ex (IxA r23 1 t_25) fun a30 =>
    ex (RdAt (tInt .i64) a30 w26) fun x31 =>
    nw 3 (tInt .i64) (0 : Int) w26 fun a32 w33 =>
    st (tInt .i64) a32 x31 w33 fun w34 =>
    dr w34 fun w35 =>
    ex (RdAt tMap (a18.add 1) w35) fun x36 =>
    ex (RdAt (tInt .i64) a32 w35) fun x37 =>
    ex (MapGet tBool .i64 x36 x37 w35) fun m38 =>
    ex (RdAt (tInt .i64) a32 w35) fun x39 =>
    cl Try.prog 25 [.int .i64 (x39), .bool ((m38.getD false))] tFun w35 fun r41 w40 =>
    nw 70 tFun Fv.nil w40 fun a42 w43 =>
    st tFun a42 r41 w43 fun w44 =>
    dr w44 fun w68 =>
    ex (RdAt tMap (a18.add 0) w68) fun x69 =>
    ex (RdAt tFun a42 w68) fun x70 =>
    cl Try.prog 42 [.map (x69), (x70).enc] tBool w68 fun r72 w71 =>
    if r72 = true then (
      F29_j5 a2 x15 a18 out_24 t_25 a32 m38 true w71 K27 R
    ) else (
      ex (RdAt tMap (a18.add 1) w71) fun x74 =>
      cl Try.prog 42 [.map (x74), ((Fv.mk (.func 41) (List.toArray []) (List.toArray [.pointer (some a32), .pointer (some a42)]))).enc] tBool w71 fun r76 w75 =>
      kp ((RdAt tMap (a18.add 0) w75) x69) <|
      kp ((RdAt tFun a42 w75) x70) <|
      F29_j5 a2 x15 a18 out_24 t_25 a32 m38 r76 w75 K27 R
    )
  ) else (
    dr w26 fun w79 =>
    ex (RdAt tMap (a18.add 0) w79) fun x80 =>
    ex (MapLen x80 w79) fun l81 =>
    ex (RdAt tMap (a18.add 1) w79) fun x82 =>
    ex (MapLen x82 w79) fun l83 =>
    if ((IntKind.i64.wrap ((l81 : Int) + (l83 : Int))) == (0 : Int)) = true then (
      ex (RdAt tMap (a2.add 0) w79) fun x84 =>
      mdel tPtr .i64 x84 x15 w79 fun w85 =>
      F29_j2 t_9 out_24 w85 K11 R
    ) else (
      F29_j2 t_9 out_24 w79 K11 R
    )
  )
def F29_j6 (out_8 : Slc) (w88 : World) (R : Slc → World → Prop) : Prop :=
  R out_8 w88
def F29_l1 (a2 : Addr) (r7 : Slc) (out_8 : Slc) (t_9 : Int) (w10 : World) (K11 : Slc × Int → World → Prop) (R : Slc → World → Prop) : Prop :=
  if (decide (t_9 < (r7.len : Int))) = true then (
    ex (IxA r7 1 t_9) fun a14 =>
    ex (RdAt (tInt .i64) a14 w10) fun x15 =>
    ex (RdAt tMap (a2.add 0) w10) fun x16 =>
    ex (MapGet tPtr .i64 x16 x15 w10) fun m17 =>
    ex (NC (m17.getD (none : Option Addr))) fun a18 =>
    ex (RdAt tMap (a18.add 1) w10) fun x19 =>
    cl Try.prog 27 [.map (x19)] tFun w10 fun r21 w20 =>
    cl Try.prog 26 [(r21).enc] tSlc w20 fun r23 w22 =>
    lp (fun (s : Slc × Int) w K => F29_l3 a2 t_9 x15 a18 r23 s.1 s.2 w K11 K R) (out_8, (0 : Int)) w22
  ) else (
    ex (RdAt tMap (a2.add 0) w10) fun x89 =>
    ex (MapLen x89 w10) fun l90 =>
    if ((l90 : Int) == (0 : Int)) = true then (
      ex (RdAt tMap (a2.add 1) w10) fun x91 =>
      mclr x91 w10 fun w92 =>
      F29_j6 out_8 w92 R
    ) else (
      F29_j6 out_8 w10 R
    )
  )
def F29 (t_1 : (Option Addr)) (w : World) (R : Slc → World → Prop) : Prop :=
  ex (NC t_1) fun a2 =>
  ex (RdAt tMap (a2.add 0) w) fun x3 =>
  cl Try.prog 40 [.map (x3)] tFun w fun r5 w4 =>
  cl Try.prog 26 [(r5).enc] tSlc w4 fun r7 w6 =>
  lp (fun (s : Slc × Int) w K => F29_l1 a2 r7 s.1 s.2 w K R) ((⟨none, 0, 0⟩ : Slc), (0 : Int)) w6
theorem F29_ok {t_1 : (Option Addr)} {w : World} {R : Slc → World → Prop} (h : F29 t_1 w R) : cl Try.prog 29 [.pointer (t_1)] tSlc w R := by
  unfold F29 at h
  refine calls_start 124 Try.func29 rfl rfl (Nat.le_of_ble_eq_true rfl) ?_
  refine wp_seq ?_
  refine wp_text [0] rfl ?_
  refine ro_val (d := (some 2)) rfl (.free rfl) rfl (q_assign (v := tSlc.enc ((⟨none, 0, 0⟩ : Slc))) rfl rfl) ?_
  refine ro_nil ?_
  refine wp_seq ?_
  refine wp_text [0] rfl ?_
  refine ro_val (d := (some 3)) rfl (.free rfl) rfl (q_assign (v := tSlc.enc ((⟨none, 0, 0⟩ : Slc))) rfl rfl) ?_
  refine ro_nil ?_
  refine wp_seq ?_
  refine wp_seq ?_
  refine wp_text [0, 1, 2, 3, 4, 5, 6, 7] rfl ?_
  refine ro_val (d := (some 12)) rfl (.free rfl) rfl (q_move (v := .pointer (t_1)) rfl rfl) ?_
  obtain ⟨a2, ha2, h⟩ := h
  refine ro_val (d := (some 13)) rfl (.free rfl) rfl (q_nilCheck (a := a2) rfl (congrArg Value.pointer ha2)) ?_
  refine ro_val (d := (some 14)) rfl (.free rfl) rfl (q_fieldAddr (a := a2) (off := 0) rfl Try.underlying62 rfl rfl ok58 (by decide) rfl) ?_
  obtain ⟨x3, hx3, h⟩ := h
  refine ro_val (d := (some 15)) rfl (.free rfl) rfl (q_load (T := tMap) (u := x3) (a := (a2.add 0)) rfl ok58 rfl hx3) ?_
  refine ro_wp rfl (.free rfl) (wp_cl (d := (some 16)) rfl (q_call (k := 40) (l := [.map (x3)]) rfl ent40 rfl) h ?_)
  intro r5 w4 h
  refine ro_wp rfl (.free rfl) (wp_cl (d := (some 17)) rfl (q_call (k := 26) (l := [(r5).enc]) rfl ent26 rfl) h ?_)
  intro r7 w6 h
  refine ro_val (d := (some 18)) rfl (.free rfl) rfl (q_len (s := r7) rfl Try.underlying26 rfl) ?_
  refine ro_val (d := (some 19)) rfl (.free rfl) rfl (q_move (v := .int .i64 ((0 : Int))) rfl rfl) ?_
  refine ro_nil ?_
  refine wp_block ?_
  refine loop_at (σ := Slc × Int) (fr := fun g (s : Slc × Int) => upd (upd (upd (upd (upd (g) 0 (.pointer (t_1))) 17 (tSlc.enc (r7))) 18 (.int .i64 ((r7.len : Int)))) 3 (tSlc.enc (s.1))) 19 (.int .i64 (s.2))) (s0 := ((⟨none, 0, 0⟩ : Slc), (0 : Int))) (upd_step (upd_step (upd_step (upd_step (upd_step rfl rfl) rfl) rfl) rfl) rfl) h ?_
  rintro ⟨out_8, t_9⟩ g w10 K11 h
  unfold F29_l1 at h
  refine wp_seq ?_
  refine wp_text [0] rfl ?_
  refine ro_val (d := (some 20)) rfl (.free rfl) rfl (q_lss (a := t_9) (b := (r7.len : Int)) rfl rfl rfl) ?_
  refine ro_nil ?_
  refine wp_seq ?_
  refine wp_if (b := (decide (t_9 < (r7.len : Int)))) rfl h (fun hb94 h => ?_) (fun hb94 h => ?_)
  · refine wp_skip ?_
    refine seq_join (σ := Slc) (J := fun (s : Slc) w => F29_j2 t_9 s w K11 R) (fr := fun g (s : Slc) => upd (upd (upd (upd (upd (g) 0 (.pointer (t_1))) 17 (tSlc.enc (r7))) 18 (.int .i64 ((r7.len : Int)))) 19 (.int .i64 (t_9))) 3 (tSlc.enc (s))) ?_ ?_
    · rintro out_12 g w13 h
      unfold F29_j2 at h
      refine wp_text [0, 1] rfl ?_
      refine ro_val (d := (some 112)) rfl (.free rfl) rfl (q_add (a := t_9) (b := (1 : Int)) rfl rfl rfl) ?_
      refine ro_val (d := (some 19)) rfl (.free rfl) rfl (q_move (v := .int .i64 ((IntKind.i64.wrap (t_9 + (1 : Int))))) rfl rfl) ?_
      refine ro_nil ?_
      exact ⟨(out_12, (IntKind.i64.wrap (t_9 + (1 : Int)))), _, arr (upd_step (upd_step (upd_step (upd_step (upd_step rfl rfl) rfl) rfl) rfl) rfl), h⟩
    · refine wp_block ?_
      refine wp_seq ?_
      refine wp_text [0, 1, 2] rfl ?_
      obtain ⟨a14, ha14, h⟩ := h
      refine ro_val (d := (some 21)) rfl (.free rfl) rfl (q_indexAddr (s := r7) (i := t_9) rfl Try.underlying26 ok3 rfl rfl ha14) ?_
      obtain ⟨x15, hx15, h⟩ := h
      refine ro_val (d := (some 22)) rfl (.free rfl) rfl (q_load (T := (tInt .i64)) (u := x15) (a := a14) rfl ok3 rfl hx15) ?_
      refine ro_val (d := (some 5)) rfl (.free rfl) rfl (q_assign (v := .int .i64 (x15)) rfl rfl) ?_
      refine ro_nil ?_
      refine wp_seq ?_
      refine wp_text [0, 1, 2, 3, 4, 5, 6] rfl ?_
      refine ro_val (d := (some 23)) rfl (.free rfl) rfl (q_move (v := .pointer (t_1)) rfl rfl) ?_
      refine ro_val (d := (some 24)) rfl (.free rfl) rfl (q_nilCheck (a := a2) rfl (congrArg Value.pointer ha2)) ?_
      refine ro_val (d := (some 25)) rfl (.free rfl) rfl (q_fieldAddr (a := a2) (off := 0) rfl Try.underlying62 rfl rfl ok58 (by decide) rfl) ?_
      obtain ⟨x16, hx16, h⟩ := h
      refine ro_val (d := (some 26)) rfl (.free rfl) rfl (q_load (T := tMap) (u := x16) (a := (a2.add 0)) rfl ok58 rfl hx16) ?_
      refine ro_val (d := (some 27)) rfl (.free rfl) rfl (q_move (v := .int .i64 (x15)) rfl rfl) ?_
      obtain ⟨m17, hm17, h⟩ := h
      refine ro_val (d := (some 28)) rfl (.free rfl) rfl (q_lookup (T := tPtr) (r := x16) (key := x15) (u := m17) (z := (none : Option Addr)) rfl Try.underlying58 Try.underlying3 (inf64) rfl rfl hm17) ?_
      refine ro_val (d := (some 6)) rfl (.free rfl) rfl (q_assign (v := .pointer ((m17.getD (none : Option Addr)))) rfl rfl) ?_
      refine ro_nil ?_
      refine wp_seq ?_
      refine wp_seq ?_
      refine wp_text [0, 1, 2, 3, 4, 5, 6, 7] rfl ?_
      refine ro_val (d := (some 29)) rfl (.free rfl) rfl (q_move (v := .pointer ((m17.getD (none : Option Addr)))) rfl rfl) ?_
      obtain ⟨a18, ha18, h⟩ := h
      refine ro_val (d := (some 30)) rfl (.free rfl) rfl (q_nilCheck (a := a18) rfl (congrArg Value.pointer ha18)) ?_
      refine ro_val (d := (some 31)) rfl (.free rfl) rfl (q_fieldAddr (a := a18) (off := 1) rfl Try.underlying68 rfl rfl ok66 (by decide) rfl) ?_
      obtain ⟨x19, hx19, h⟩ := h
      refine ro_val (d := (some 32)) rfl (.free rfl) rfl (q_load (T := tMap) (u := x19) (a := (a18.add 1)) rfl ok66 rfl hx19) ?_
      refine ro_wp rfl (.free rfl) (wp_cl (d := (some 33)) rfl (q_call (k := 27) (l := [.map (x19)]) rfl ent27 rfl) h ?_)
      intro r21 w20 h
      refine ro_wp rfl (.free rfl) (wp_cl (d := (some 34)) rfl (q_call (k := 26) (l := [(r21).enc]) rfl ent26 rfl) h ?_)
      intro r23 w22 h
      refine ro_val (d := (some 35)) rfl (.free rfl) rfl (q_len (s := r23) rfl Try.underlying26 rfl) ?_
      refine ro_val (d := (some 36)) rfl (.free rfl) rfl (q_move (v := .int .i64 ((0 : Int))) rfl rfl) ?_
      refine ro_nil ?_
      refine wp_block ?_
      refine loop_at (σ := Slc × Int) (fr := fun g (s : Slc × Int) => upd (upd (upd (upd (upd (upd (upd (upd (upd (upd (g) 0 (.pointer (t_1))) 5 (.int .i64 (x15))) 6 (.pointer ((m17.getD (none : Option Addr))))) 17 (tSlc.enc (r7))) 18 (.int .i64 ((r7.len : Int)))) 19 (.int .i64 (t_9))) 34 (tSlc.enc (r23))) 35 (.int .i64 ((r23.len : Int)))) 3 (tSlc.enc (s.1))) 36 (.int .i64 (s.2))) (s0 := (out_8, (0 : Int))) (upd_step (upd_step (upd_step (upd_step (upd_step (upd_step (upd_step (upd_step (upd_step (upd_step rfl rfl) rfl) rfl) rfl) rfl) rfl) rfl) rfl) rfl) rfl) h ?_
      rintro ⟨out_24, t_25⟩ g w26 K27 h
      unfold F29_l3 at h
      refine wp_seq ?_
      refine wp_text [0] rfl ?_
      refine ro_val (d := (some 37)) rfl (.free rfl) rfl (q_lss (a := t_25) (b := (r23.len : Int)) rfl rfl rfl) ?_
      refine ro_nil ?_
      refine wp_seq ?_
      refine wp_if (b := (decide (t_25 < (r23.len : Int)))) rfl h (fun hb87 h => ?_) (fun hb87 h => ?_)
      · refine wp_skip ?_
        refine seq_join (σ := Slc) (J := fun (s : Slc) w => F29_j4 t_25 s w K27 R) (fr := fun g (s : Slc) => upd (upd (upd (upd (upd (upd (upd (upd (upd (upd (g) 0 (.pointer (t_1))) 5 (.int .i64 (x15))) 6 (.pointer ((m17.getD (none : Option Addr))))) 17 (tSlc.enc (r7))) 18 (.int .i64 ((r7.len : Int)))) 19 (.int .i64 (t_9))) 34 (tSlc.enc (r23))) 35 (.int .i64 ((r23.len : Int)))) 36 (.int .i64 (t_25))) 3 (tSlc.enc (s))) ?_ ?_
        · rintro out_28 g w29 h
          unfold F29_j4 at h
          refine wp_text [0, 1] rfl ?_
          refine ro_val (d := (some 94)) rfl (.free rfl) rfl (q_add (a := t_25) (b := (1 : Int)) rfl rfl rfl) ?_
          refine ro_val (d := (some 36)) rfl (.free rfl) rfl (q_move (v := .int .i64 ((IntKind.i64.wrap (t_25 + (1 : Int))))) rfl rfl) ?_
          refine ro_nil ?_
          exact ⟨(out_28, (IntKind.i64.wrap (t_25 + (1 : Int)))), _, arr (upd_step (upd_step (upd_step (upd_step (upd_step (upd_step (upd_step (upd_step (upd_step (upd_step rfl rfl) rfl) rfl) rfl) rfl) rfl) rfl) rfl) rfl) rfl), h⟩
        · refine wp_block ?_
          refine wp_seq ?_
          refine wp_text [0, 1, 2, 3] rfl ?_
          obtain ⟨a30, ha30, h⟩ := h
          refine ro_val (d := (some 38)) rfl (.free rfl) rfl (q_indexAddr (s := r23) (i := t_25) rfl Try.underlying26 ok3 rfl rfl ha30) ?_
          obtain ⟨x31, hx31, h⟩ := h
          refine ro_val (d := (some 39)) rfl (.free rfl) rfl (q_load (T := (tInt .i64)) (u := x31) (a := a30) rfl ok3 rfl hx31) ?_
          obtain ⟨a32, w33, ha32, hw33, h⟩ := nw_open h
          refine ro_val (d := (some 8)) rfl (.free rfl) rfl (q_alloc (u := (0 : Int)) rfl ok3 inf3 ha32 hw33) ?_
          obtain ⟨w34, hw34, hrw34, h⟩ := st_open h
          refine ro_skip (d := none) rfl (.free rfl) rfl (q_store (T := (tInt .i64)) (u := x31) (a := a32) rfl ok3 rfl rfl hrw34 hw34) ?_
          refine ro_nil ?_
          refine wp_seq ?_
          obtain ⟨w35, hw35, h⟩ := dr_open h
          refine wp_drawn 7 mixed rfl (by kernel_rfl) (by intro c a d v w h; cases d <;> exact h) hw35 (fun hD => ?_)
          refine rd_pure (i := 0) (d := (some 40)) hD (by kernel_rfl) (by kernel_rfl) rfl (.free rfl) rfl (fun _ => q_move (v := .pointer ((m17.getD (none : Option Addr)))) rfl rfl) ?_
          refine rd_pure (i := 1) (d := (some 41)) hD (by kernel_rfl) (by kernel_rfl) rfl (.free rfl) rfl (fun _ => q_nilCheck (a := a18) rfl (congrArg Value.pointer ha18)) ?_
          refine rd_pure (i := 2) (d := (some 42)) hD (by kernel_rfl) (by kernel_rfl) rfl (.free rfl) rfl (fun _ => q_fieldAddr (a := a18) (off := 1) rfl Try.underlying68 rfl rfl ok66 (by decide) rfl) ?_
          obtain ⟨x36, hx36, h⟩ := h
          refine rd_read (i := 3) (d := (some 43)) (fun W => (RdAt tMap (a18.add 1) W) x36) hD (by kernel_rfl) (by kernel_rfl) rfl (.free rfl) rfl (fun W hr => q_load (T := tMap) (u := x36) (a := (a18.add 1)) rfl ok66 rfl hr) hx36 ?_
          obtain ⟨x37, hx37, h⟩ := h
          refine rd_read (i := 4) (d := (some 44)) (fun W => (RdAt (tInt .i64) a32 W) x37) hD (by kernel_rfl) (by kernel_rfl) rfl (.free rfl) rfl (fun W hr => q_load (T := (tInt .i64)) (u := x37) (a := a32) rfl ok3 rfl hr) hx37 ?_
          obtain ⟨m38, hm38, h⟩ := h
          refine rd_read (i := 5) (d := (some 45)) (fun W => (MapGet tBool .i64 x36 x37 W) m38) hD (by kernel_rfl) (by kernel_rfl) rfl (.free rfl) rfl (fun W hr => q_lookup (T := tBool) (r := x36) (key := x37) (u := m38) (z := false) rfl Try.underlying66 Try.underlying3 (inf4) rfl rfl hr) hm38 ?_
          refine rd_pure (i := 6) (d := (some 9)) hD (by kernel_rfl) (by kernel_rfl) rfl (.free rfl) rfl (fun _ => q_assign (v := .bool ((m38.getD false))) rfl rfl) ?_
          refine rd_nil (by kernel_rfl) ?_
          refine wp_seq ?_
          refine wp_text [0, 1, 2, 3, 4] rfl ?_
          obtain ⟨x39, hx39, h⟩ := h
          refine ro_val (d := (some 46)) rfl (.free rfl) rfl (q_load (T := (tInt .i64)) (u := x39) (a := a32) rfl ok3 rfl hx39) ?_
          refine ro_val (d := (some 47)) rfl (.free rfl) rfl (q_move (v := .bool ((m38.getD false))) rfl rfl) ?_
          refine ro_wp rfl (.free rfl) (wp_cl (d := (some 48)) rfl (q_call (k := 25) (l := [.int .i64 (x39), .bool ((m38.getD false))]) rfl ent25 rfl) h ?_)
          intro r41 w40 h
          obtain ⟨a42, w43, ha42, hw43, h⟩ := nw_open h
          refine ro_val (d := (some 10)) rfl (.free rfl) rfl (q_alloc (u := Fv.nil) rfl ok70 inf70 ha42 hw43) ?_
          obtain ⟨w44, hw44, hrw44, h⟩ := st_open h
          refine ro_skip (d := none) rfl (.free rfl) rfl (q_store (T := tFun) (u := r41) (a := a42) rfl ok70 rfl rfl hrw44 hw44) ?_
          refine ro_nil ?_
          refine wp_seq ?_
          refine wp_text [0, 1] rfl ?_
          refine ro_val (d := (some 49)) rfl (.free rfl) rfl (q_makeFunc (fn := .func 41) (va := []) (vc := [.pointer (some a32), .pointer (some a42)]) rfl rfl rfl) ?_
          refine ro_val (d := (some 11)) rfl (.free rfl) rfl (q_assign (v := ((Fv.mk (.func 41) (List.toArray []) (List.toArray [.pointer (some a32), .pointer (some a42)]))).enc) rfl rfl) ?_
          refine ro_nil ?_
          refine wp_seq ?_
          refine seq_join (σ := Bool) (J := fun (s : Bool) w => F29_j5 a2 x15 a18 out_24 t_25 a32 m38 s w K27 R) (fr := fun g (s : Bool) => upd (upd (upd (upd (upd (upd (upd (upd (upd (upd (upd (upd (upd (g) 0 (.pointer (t_1))) 3 (tSlc.enc (out_24))) 5 (.int .i64 (x15))) 6 (.pointer ((m17.getD (none : Option Addr))))) 8 (.pointer (some a32))) 9 (.bool ((m38.getD false)))) 17 (tSlc.enc (r7))) 18 (.int .i64 ((r7.len : Int)))) 19 (.int .i64 (t_9))) 34 (tSlc.enc (r23))) 35 (.int .i64 ((r23.len : Int)))) 36 (.int .i64 (t_25))) 63 (.bool (s))) ?_ ?_
          · rintro t_45 g w46 h
            unfold F29_j5 at h
            refine wp_if (b := t_45) rfl h (fun hb67 h => ?_) (fun hb67 h => ?_)
            · refine wp_exit ?_
              exact ⟨(out_24), _, arr (upd_step (upd_step (upd_step (upd_step (upd_step (upd_step (upd_step (upd_step (upd_step (upd_step rfl rfl) rfl) rfl) rfl) rfl) rfl) rfl) rfl) rfl) rfl), h⟩
            · refine wp_skip ?_
              refine wp_seq ?_
              obtain ⟨w47, hw47, h⟩ := dr_open h
              refine wp_drawn 15 mixed rfl (by kernel_rfl) (by intro c a d v w h; cases d <;> exact h) hw47 (fun hD => ?_)
              refine rd_pure (i := 0) (d := (some 64)) hD (by kernel_rfl) (by kernel_rfl) rfl (.free rfl) rfl (fun _ => q_move (v := .pointer ((m17.getD (none : Option Addr)))) rfl rfl) ?_
              refine rd_pure (i := 1) (d := (some 65)) hD (by kernel_rfl) (by kernel_rfl) rfl (.free rfl) rfl (fun _ => q_nilCheck (a := a18) rfl (congrArg Value.pointer ha18)) ?_
              refine rd_pure (i := 2) (d := (some 66)) hD (by kernel_rfl) (by kernel_rfl) rfl (.free rfl) rfl (fun _ => q_fieldAddr (a := a18) (off := 0) rfl Try.underlying68 rfl rfl ok66 (by decide) rfl) ?_
              refine rd_pure (i := 5) (d := (some 69)) hD (by kernel_rfl) (by kernel_rfl) rfl (.free rfl) rfl (fun _ => q_move (v := .pointer ((m17.getD (none : Option Addr)))) rfl rfl) ?_
              refine rd_pure (i := 6) (d := (some 70)) hD (by kernel_rfl) (by kernel_rfl) rfl (.free rfl) rfl (fun _ => q_nilCheck (a := a18) rfl (congrArg Value.pointer ha18)) ?_
              refine rd_pure (i := 7) (d := (some 71)) hD (by kernel_rfl) (by kernel_rfl) rfl (.free rfl) rfl (fun _ => q_fieldAddr (a := a18) (off := 0) rfl Try.underlying68 rfl rfl ok66 (by decide) rfl) ?_
              obtain ⟨x48, hx48, h⟩ := h
              refine rd_read (i := 3) (d := (some 67)) (fun W => (RdAt tMap (a18.add 0) W) x48) hD (by kernel_rfl) (by kernel_rfl) rfl (.free rfl) rfl (fun W hr => q_load (T := tMap) (u := x48) (a := (a18.add 0)) rfl ok66 rfl hr) hx48 ?_
              obtain ⟨x49, hx49, h⟩ := h
              refine rd_read (i := 4) (d := (some 68)) (fun W => (RdAt (tInt .i64) a32 W) x49) hD (by kernel_rfl) (by kernel_rfl) rfl (.free rfl) rfl (fun W hr => q_load (T := (tInt .i64)) (u := x49) (a := a32) rfl ok3 rfl hr) hx49 ?_
              obtain ⟨x50, hx50, h⟩ := h
              refine rd_read (i := 8) (d := (some 72)) (fun W => (RdAt tMap (a18.add 0) W) x50) hD (by kernel_rfl) (by kernel_rfl) rfl (.free rfl) rfl (fun W hr => q_load (T := tMap) (u := x50) (a := (a18.add 0)) rfl ok66 rfl hr) hx50 ?_
              obtain ⟨x51, hx51, h⟩ := h
              refine rd_read (i := 9) (d := (some 73)) (fun W => (RdAt (tInt .i64) a32 W) x51) hD (by kernel_rfl) (by kernel_rfl) rfl (.free rfl) rfl (fun W hr => q_load (T := (tInt .i64)) (u := x51) (a := a32) rfl ok3 rfl hr) hx51 ?_
              obtain ⟨m52, hm52, h⟩ := h
              refine rd_read (i := 10) (d := (some 74)) (fun W => (MapGet tBool .i64 x50 x51 W) m52) hD (by kernel_rfl) (by kernel_rfl) rfl (.free rfl) rfl (fun W hr => q_lookup (T := tBool) (r := x50) (key := x51) (u := m52) (z := false) rfl Try.underlying66 Try.underlying3 (inf4) rfl rfl hr) hm52 ?_
              refine rd_pure (i := 11) (d := (some 75)) hD (by kernel_rfl) (by kernel_rfl) rfl (.free rfl) rfl (fun _ => q_move (v := .bool ((m52.getD false))) rfl rfl) ?_
              refine rd_gpure (i := 12) (g := (!(m52.getD false))) (d := (some 76)) hD (by kernel_rfl) (by kernel_rfl) rfl (.no 11 75 true (m52.getD false) rfl rfl rfl rfl) rfl (fun hg _ => q_move (v := .bool ((m38.getD false))) rfl rfl) ?_
              refine rd_pure (i := 13) (d := (some 77)) hD (by kernel_rfl) (by kernel_rfl) rfl (.free rfl) rfl (fun _ => q_pickGF (a := (m52.getD false)) (c := (m38.getD false)) rfl rfl rfl rfl) ?_
              refine rd_one (i := 14) (by kernel_rfl) ?_
              refine po_wp rfl (.free rfl) (wp_mput (T := tBool) (r := x48) (key := x49) (v := ((m52.getD false) || (m38.getD false))) (d := none) rfl (.inl rfl) Try.underlying66 Try.underlying3 rfl rfl rfl h ?_)
              intro w53 h
              refine ⟨(hk_wait (by kernel_rfl) (hk_wait (by kernel_rfl) (hk_wait (by kernel_rfl) (hk_wait (by kernel_rfl) (hk_wait (by kernel_rfl) hk_nil))))), ?_⟩
              refine rd_nil (by kernel_rfl) ?_
              refine wp_seq ?_
              obtain ⟨w54, hw54, h⟩ := dr_open h
              refine wp_drawn 6 mixed rfl (by kernel_rfl) (by intro c a d v w h; cases d <;> exact h) hw54 (fun hD => ?_)
              refine rd_pure (i := 0) (d := (some 78)) hD (by kernel_rfl) (by kernel_rfl) rfl (.free rfl) rfl (fun _ => q_move (v := .pointer ((m17.getD (none : Option Addr)))) rfl rfl) ?_
              refine rd_pure (i := 1) (d := (some 79)) hD (by kernel_rfl) (by kernel_rfl) rfl (.free rfl) rfl (fun _ => q_nilCheck (a := a18) rfl (congrArg Value.pointer ha18)) ?_
              refine rd_pure (i := 2) (d := (some 80)) hD (by kernel_rfl) (by kernel_rfl) rfl (.free rfl) rfl (fun _ => q_fieldAddr (a := a18) (off := 1) rfl Try.underlying68 rfl rfl ok66 (by decide) rfl) ?_
              obtain ⟨x55, hx55, h⟩ := h
              refine rd_read (i := 3) (d := (some 81)) (fun W => (RdAt tMap (a18.add 1) W) x55) hD (by kernel_rfl) (by kernel_rfl) rfl (.free rfl) rfl (fun W hr => q_load (T := tMap) (u := x55) (a := (a18.add 1)) rfl ok66 rfl hr) hx55 ?_
              obtain ⟨x56, hx56, h⟩ := h
              refine rd_read (i := 4) (d := (some 82)) (fun W => (RdAt (tInt .i64) a32 W) x56) hD (by kernel_rfl) (by kernel_rfl) rfl (.free rfl) rfl (fun W hr => q_load (T := (tInt .i64)) (u := x56) (a := a32) rfl ok3 rfl hr) hx56 ?_
              refine rd_one (i := 5) (by kernel_rfl) ?_
              refine po_wp rfl (.free rfl) (wp_mdel (T := tBool) (r := x55) (key := x56) (d := none) rfl rfl Try.underlying66 Try.underlying3 rfl rfl h ?_)
              intro w57 h
              refine ⟨(hk_wait (by kernel_rfl) (hk_wait (by kernel_rfl) hk_nil)), ?_⟩
              refine rd_nil (by kernel_rfl) ?_
              refine wp_seq ?_
              obtain ⟨w58, hw58, h⟩ := dr_open h
              refine wp_drawn 6 mixed rfl (by kernel_rfl) (by intro c a d v w h; cases d <;> exact h) hw58 (fun hD => ?_)
              refine rd_pure (i := 0) (d := (some 83)) hD (by kernel_rfl) (by kernel_rfl) rfl (.free rfl) rfl (fun _ => q_move (v := .pointer (t_1)) rfl rfl) ?_
              refine rd_pure (i := 1) (d := (some 84)) hD (by kernel_rfl) (by kernel_rfl) rfl (.free rfl) rfl (fun _ => q_nilCheck (a := a2) rfl (congrArg Value.pointer ha2)) ?_
              refine rd_pure (i := 2) (d := (some 85)) hD (by kernel_rfl) (by kernel_rfl) rfl (.free rfl) rfl (fun _ => q_fieldAddr (a := a2) (off := 1) rfl Try.underlying62 rfl rfl ok59 (by decide) rfl) ?_
              obtain ⟨x59, hx59, h⟩ := h
              refine rd_read (i := 3) (d := (some 86)) (fun W => (RdAt tMap (a2.add 1) W) x59) hD (by kernel_rfl) (by kernel_rfl) rfl (.free rfl) rfl (fun W hr => q_load (T := tMap) (u := x59) (a := (a2.add 1)) rfl ok59 rfl hr) hx59 ?_
              obtain ⟨x60, hx60, h⟩ := h
              refine rd_read (i := 4) (d := (some 87)) (fun W => (RdAt (tInt .i64) a32 W) x60) hD (by kernel_rfl) (by kernel_rfl) rfl (.free rfl) rfl (fun W hr => q_load (T := (tInt .i64)) (u := x60) (a := a32) rfl ok3 rfl hr) hx60 ?_
              refine rd_one (i := 5) (by kernel_rfl) ?_
              refine po_wp rfl (.free rfl) (wp_mdel (T := (tInt .i64)) (r := x59) (key := x60) (d := none) rfl rfl Try.underlying59 Try.underlying3 rfl rfl h ?_)
              intro w61 h
              refine ⟨(hk_wait (by kernel_rfl) (hk_wait (by kernel_rfl) hk_nil)), ?_⟩
              refine rd_nil (by kernel_rfl) ?_
              refine wp_text [0, 1, 2, 3, 4, 5, 6] rfl ?_
              refine ro_val (d := (some 88)) rfl (.free rfl) rfl (q_move (v := tSlc.enc (out_24)) rfl rfl) ?_
              obtain ⟨x62, hx62, h⟩ := h
              refine ro_val (d := (some 89)) rfl (.free rfl) rfl (q_load (T := (tInt .i64)) (u := x62) (a := a32) rfl ok3 rfl hx62) ?_
              refine ro_val (d := (some 90)) rfl (.free rfl) rfl (q_move (v := .int .i64 (x15)) rfl rfl) ?_
              refine ro_val (d := (some 91)) rfl (.free rfl) rfl (q_build56_0_1 (v0 := x62) (v1 := x15) rfl rfl rfl) ?_
              obtain ⟨a63, w64, ha63, hw64, h⟩ := apl_open h
              refine ro_val (d := (some 92)) rfl (.free rfl) rfl (q_rowOf (T := T55) (xs := [(⟨x62, x15⟩ : S55)]) rfl Try.underlying32 ok56 inf56 rfl (by decide) (by decide) rfl ha63 hw64) ?_
              refine ro_wp rfl (.free rfl) (wp_append (d := (some 93)) (T := T55) rfl rfl Try.underlying32 ⟨_, Try.underlying32⟩ ok56 inf56 rfl rfl (Nat.lt_of_lt_of_le Nat.zero_lt_one (Nat.le_of_ble_eq_true rfl)) rfl rfl h ?_)
              intro r66 w65 h
              refine ro_val (d := (some 3)) rfl (.free rfl) rfl (q_assign (v := tSlc.enc (r66)) rfl rfl) ?_
              refine ro_nil ?_
              exact ⟨(r66), _, arr (upd_step (upd_step (upd_step (upd_step (upd_step (upd_step (upd_step (upd_step (upd_step (upd_step rfl rfl) rfl) rfl) rfl) rfl) rfl) rfl) rfl) rfl) rfl), h⟩
          · obtain ⟨w68, hw68, h⟩ := dr_open h
            refine wp_drawn 14 mixed rfl (by kernel_rfl) (by intro c a d v w h; cases d <;> exact h) hw68 (fun hD => ?_)
            refine rd_pure (i := 0) (d := (some 50)) hD (by kernel_rfl) (by kernel_rfl) rfl (.free rfl) rfl (fun _ => q_move (v := .pointer ((m17.getD (none : Option Addr)))) rfl rfl) ?_
            refine rd_pure (i := 1) (d := (some 51)) hD (by kernel_rfl) (by kernel_rfl) rfl (.free rfl) rfl (fun _ => q_nilCheck (a := a18) rfl (congrArg Value.pointer ha18)) ?_
            refine rd_pure (i := 2) (d := (some 52)) hD (by kernel_rfl) (by kernel_rfl) rfl (.free rfl) rfl (fun _ => q_fieldAddr (a := a18) (off := 0) rfl Try.underlying68 rfl rfl ok66 (by decide) rfl) ?_
            obtain ⟨x69, hx69, h⟩ := h
            refine rd_read (i := 3) (d := (some 53)) (fun W => (RdAt tMap (a18.add 0) W) x69) hD (by kernel_rfl) (by kernel_rfl) rfl (.free rfl) rfl (fun W hr => q_load (T := tMap) (u := x69) (a := (a18.add 0)) rfl ok66 rfl hr) hx69 ?_
            obtain ⟨x70, hx70, h⟩ := h
            refine rd_read (i := 4) (d := (some 54)) (fun W => (RdAt tFun a42 W) x70) hD (by kernel_rfl) (by kernel_rfl) rfl (.free rfl) rfl (fun W hr => q_load (T := tFun) (u := x70) (a := a42) rfl ok70 rfl hr) hx70 ?_
            refine rd_one (i := 5) (by kernel_rfl) ?_
            refine po_wp rfl (.free rfl) (wp_cl (d := (some 55)) rfl (q_call (k := 42) (l := [.map (x69), (x70).enc]) rfl ent42 rfl) h ?_)
            intro r72 w71 h
            refine ⟨(hk_wait (by kernel_rfl) (hk_wait (by kernel_rfl) hk_nil)), ?_⟩
            refine rd_pure (i := 6) (d := (some 56)) hD (by kernel_rfl) (by kernel_rfl) rfl (.free rfl) rfl (fun _ => q_move (v := .bool (r72)) rfl rfl) ?_
            refine ro_if (b := r72) h (fun hb73 h => ?_) (fun hb73 h => ?_)
            · refine rd_bar (i := 7) (d := (some 57)) hD (by kernel_rfl) (by kernel_rfl) rfl (.by_ 6 false 56 r72 rfl rfl rfl hb73) rfl ?_
              refine rd_bar (i := 8) (d := (some 58)) hD (by kernel_rfl) (by kernel_rfl) rfl (.by_ 6 false 56 r72 rfl rfl rfl hb73) rfl ?_
              refine rd_bar (i := 9) (d := (some 59)) hD (by kernel_rfl) (by kernel_rfl) rfl (.by_ 6 false 56 r72 rfl rfl rfl hb73) rfl ?_
              refine rd_bar (i := 11) (d := (some 61)) hD (by kernel_rfl) (by kernel_rfl) rfl (.by_ 6 false 56 r72 rfl rfl rfl hb73) rfl ?_
              refine rd_bar (i := 10) (d := (some 60)) hD (by kernel_rfl) (by kernel_rfl) rfl (.by_ 6 false 56 r72 rfl rfl rfl hb73) rfl ?_
              refine rd_one (i := 12) (by kernel_rfl) ?_
              refine po_bar (d := (some 62)) rfl (.by_ 6 false 56 r72 rfl rfl rfl hb73) rfl ⟨fun _ _ _ h => h, ?_⟩
              refine rd_pure (i := 13) (d := (some 63)) hD (by kernel_rfl) (by kernel_rfl) rfl (.free rfl) rfl (fun _ => q_pickT (v := .bool (true)) (b := r72) rfl rfl hb73 rfl) ?_
              refine rd_nil (by kernel_rfl) ?_
              exact ⟨(true), _, arr (upd_step (upd_step (upd_step (upd_step (upd_step (upd_step (upd_step (upd_step (upd_step (upd_step (upd_step (upd_step (upd_step rfl rfl) rfl) rfl) rfl) rfl) rfl) rfl) rfl) rfl) rfl) rfl) rfl) rfl), h⟩
            · refine rd_pure (i := 7) (d := (some 57)) hD (by kernel_rfl) (by kernel_rfl) rfl (.by_ 6 false 56 r72 rfl rfl rfl hb73) rfl (fun _ => q_move (v := .pointer ((m17.getD (none : Option Addr)))) rfl rfl) ?_
              refine rd_pure (i := 8) (d := (some 58)) hD (by kernel_rfl) (by kernel_rfl) rfl (.by_ 6 false 56 r72 rfl rfl rfl hb73) rfl (fun _ => q_nilCheck (a := a18) rfl (congrArg Value.pointer ha18)) ?_
              refine rd_pure (i := 9) (d := (some 59)) hD (by kernel_rfl) (by kernel_rfl) rfl (.by_ 6 false 56 r72 rfl rfl rfl hb73) rfl (fun _ => q_fieldAddr (a := a18) (off := 1) rfl Try.underlying68 rfl rfl ok66 (by decide) rfl) ?_
              refine rd_pure (i := 11) (d := (some 61)) hD (by kernel_rfl) (by kernel_rfl) rfl (.by_ 6 false 56 r72 rfl rfl rfl hb73) rfl (fun _ => q_move (v := ((Fv.mk (.func 41) (List.toArray []) (List.toArray [.pointer (some a32), .pointer (some a42)]))).enc) rfl rfl) ?_
              obtain ⟨x74, hx74, h⟩ := h
              refine rd_read (i := 10) (d := (some 60)) (fun W => (RdAt tMap (a18.add 1) W) x74) hD (by kernel_rfl) (by kernel_rfl) rfl (.by_ 6 false 56 r72 rfl rfl rfl hb73) rfl (fun W hr => q_load (T := tMap) (u := x74) (a := (a18.add 1)) rfl ok66 rfl hr) hx74 ?_
              refine rd_one (i := 12) (by kernel_rfl) ?_
              refine po_wp rfl (.by_ 6 false 56 r72 rfl rfl rfl hb73) (wp_cl (d := (some 62)) rfl (q_call (k := 42) (l := [.map (x74), ((Fv.mk (.func 41) (List.toArray []) (List.toArray [.pointer (some a32), .pointer (some a42)]))).enc]) rfl ent42 rfl) h ?_)
              intro r76 w75 h
              obtain ⟨hk77, h⟩ := h
              obtain ⟨hk78, h⟩ := h
              refine ⟨(hk_wait (by kernel_rfl) (hk_keep (fun _ => hk78) (hk_keep (fun _ => hk77) hk_nil))), ?_⟩
              refine rd_pure (i := 13) (d := (some 63)) hD (by kernel_rfl) (by kernel_rfl) rfl (.free rfl) rfl (fun _ => q_pickF (v := .bool (r76)) (b := r72) rfl rfl hb73 rfl) ?_
              refine rd_nil (by kernel_rfl) ?_
              exact ⟨(r76), _, arr (upd_step (upd_step (upd_step (upd_step (upd_step (upd_step (upd_step (upd_step (upd_step (upd_step (upd_step (upd_step (upd_step rfl rfl) rfl) rfl) rfl) rfl) rfl) rfl) rfl) rfl) rfl) rfl) rfl) rfl), h⟩
      · refine wp_exit ?_
        refine wp_seq ?_
        obtain ⟨w79, hw79, h⟩ := dr_open h
        refine wp_drawn 12 mixed rfl (by kernel_rfl) (by intro c a d v w h; cases d <;> exact h) hw79 (fun hD => ?_)
        refine rd_pure (i := 0) (d := (some 95)) hD (by kernel_rfl) (by kernel_rfl) rfl (.free rfl) rfl (fun _ => q_move (v := .pointer ((m17.getD (none : Option Addr)))) rfl rfl) ?_
        refine rd_pure (i := 1) (d := (some 96)) hD (by kernel_rfl) (by kernel_rfl) rfl (.free rfl) rfl (fun _ => q_nilCheck (a := a18) rfl (congrArg Value.pointer ha18)) ?_
        refine rd_pure (i := 2) (d := (some 97)) hD (by kernel_rfl) (by kernel_rfl) rfl (.free rfl) rfl (fun _ => q_fieldAddr (a := a18) (off := 0) rfl Try.underlying68 rfl rfl ok66 (by decide) rfl) ?_
        refine rd_pure (i := 5) (d := (some 100)) hD (by kernel_rfl) (by kernel_rfl) rfl (.free rfl) rfl (fun _ => q_move (v := .pointer ((m17.getD (none : Option Addr)))) rfl rfl) ?_
        refine rd_pure (i := 6) (d := (some 101)) hD (by kernel_rfl) (by kernel_rfl) rfl (.free rfl) rfl (fun _ => q_nilCheck (a := a18) rfl (congrArg Value.pointer ha18)) ?_
        refine rd_pure (i := 7) (d := (some 102)) hD (by kernel_rfl) (by kernel_rfl) rfl (.free rfl) rfl (fun _ => q_fieldAddr (a := a18) (off := 1) rfl Try.underlying68 rfl rfl ok66 (by decide) rfl) ?_
        obtain ⟨x80, hx80, h⟩ := h
        refine rd_read (i := 3) (d := (some 98)) (fun W => (RdAt tMap (a18.add 0) W) x80) hD (by kernel_rfl) (by kernel_rfl) rfl (.free rfl) rfl (fun W hr => q_load (T := tMap) (u := x80) (a := (a18.add 0)) rfl ok66 rfl hr) hx80 ?_
        obtain ⟨l81, hl81, h⟩ := h
        refine rd_read (i := 4) (d := (some 99)) (fun W => (MapLen x80 W) l81) hD (by kernel_rfl) (by kernel_rfl) rfl (.free rfl) rfl (fun W hr => q_lenM (r := x80) (l := l81) rfl Try.underlying66 rfl hr) hl81 ?_
        obtain ⟨x82, hx82, h⟩ := h
        refine rd_read (i := 8) (d := (some 103)) (fun W => (RdAt tMap (a18.add 1) W) x82) hD (by kernel_rfl) (by kernel_rfl) rfl (.free rfl) rfl (fun W hr => q_load (T := tMap) (u := x82) (a := (a18.add 1)) rfl ok66 rfl hr) hx82 ?_
        obtain ⟨l83, hl83, h⟩ := h
        refine rd_read (i := 9) (d := (some 104)) (fun W => (MapLen x82 W) l83) hD (by kernel_rfl) (by kernel_rfl) rfl (.free rfl) rfl (fun W hr => q_lenM (r := x82) (l := l83) rfl Try.underlying66 rfl hr) hl83 ?_
        refine rd_pure (i := 10) (d := (some 105)) hD (by kernel_rfl) (by kernel_rfl) rfl (.free rfl) rfl (fun _ => q_add (a := (l81 : Int)) (b := (l83 : Int)) rfl rfl rfl) ?_
        refine rd_pure (i := 11) (d := (some 106)) hD (by kernel_rfl) (by kernel_rfl) rfl (.free rfl) rfl (fun _ => q_eql (a := (IntKind.i64.wrap ((l81 : Int) + (l83 : Int)))) (b := (0 : Int)) rfl rfl rfl) ?_
        refine rd_nil (by kernel_rfl) ?_
        refine wp_if (b := ((IntKind.i64.wrap ((l81 : Int) + (l83 : Int))) == (0 : Int))) rfl h (fun hb86 h => ?_) (fun hb86 h => ?_)
        · refine wp_text [0, 1, 2, 3, 4, 5] rfl ?_
          refine ro_val (d := (some 107)) rfl (.free rfl) rfl (q_move (v := .pointer (t_1)) rfl rfl) ?_
          refine ro_val (d := (some 108)) rfl (.free rfl) rfl (q_nilCheck (a := a2) rfl (congrArg Value.pointer ha2)) ?_
          refine ro_val (d := (some 109)) rfl (.free rfl) rfl (q_fieldAddr (a := a2) (off := 0) rfl Try.underlying62 rfl rfl ok58 (by decide) rfl) ?_
          obtain ⟨x84, hx84, h⟩ := h
          refine ro_val (d := (some 110)) rfl (.free rfl) rfl (q_load (T := tMap) (u := x84) (a := (a2.add 0)) rfl ok58 rfl hx84) ?_
          refine ro_val (d := (some 111)) rfl (.free rfl) rfl (q_move (v := .int .i64 (x15)) rfl rfl) ?_
          refine ro_wp rfl (.free rfl) (wp_mdel (T := tPtr) (r := x84) (key := x15) (d := none) rfl rfl Try.underlying58 Try.underlying3 rfl rfl h ?_)
          intro w85 h
          refine ro_nil ?_
          exact ⟨(out_24), _, arr (upd_step (upd_step (upd_step (upd_step (upd_step rfl rfl) rfl) rfl) rfl) rfl), h⟩
        · refine wp_skip ?_
          exact ⟨(out_24), _, arr (upd_step (upd_step (upd_step (upd_step (upd_step rfl rfl) rfl) rfl) rfl) rfl), h⟩
  · refine wp_exit ?_
    refine seq_join (σ := Unit) (J := fun (s : Unit) w => F29_j6 out_8 w R) (fr := fun g (s : Unit) => upd (g) 3 (tSlc.enc (out_8))) ?_ ?_
    · rintro ⟨⟩ g w88 h
      unfold F29_j6 at h
      refine wp_seq ?_
      refine wp_text [0, 1] rfl ?_
      refine ro_val (d := (some 123)) rfl (.free rfl) rfl (q_move (v := tSlc.enc (out_8)) rfl rfl) ?_
      refine ro_val (d := (some 2)) rfl (.free rfl) rfl (q_assign (v := tSlc.enc (out_8)) rfl rfl) ?_
      refine ro_nil ?_
      refine wp_ret ?_
      exact ret_ok rfl (.cons (.tmp (v := tSlc.enc (out_8)) rfl) .nil) ⟨out_8, rfl, h⟩
    · refine wp_seq ?_
      refine wp_text [0, 1, 2, 3, 4, 5] rfl ?_
      refine ro_val (d := (some 113)) rfl (.free rfl) rfl (q_move (v := .pointer (t_1)) rfl rfl) ?_
      refine ro_val (d := (some 114)) rfl (.free rfl) rfl (q_nilCheck (a := a2) rfl (congrArg Value.pointer ha2)) ?_
      refine ro_val (d := (some 115)) rfl (.free rfl) rfl (q_fieldAddr (a := a2) (off := 0) rfl Try.underlying62 rfl rfl ok58 (by decide) rfl) ?_
      obtain ⟨x89, hx89, h⟩ := h
      refine ro_val (d := (some 116)) rfl (.free rfl) rfl (q_load (T := tMap) (u := x89) (a := (a2.add 0)) rfl ok58 rfl hx89) ?_
      obtain ⟨l90, hl90, h⟩ := h
      refine ro_val (d := (some 117)) rfl (.free rfl) rfl (q_lenM (r := x89) (l := l90) rfl Try.underlying58 rfl hl90) ?_
      refine ro_val (d := (some 118)) rfl (.free rfl) rfl (q_eql (a := (l90 : Int)) (b := (0 : Int)) rfl rfl rfl) ?_
      refine ro_nil ?_
      refine wp_if (b := ((l90 : Int) == (0 : Int))) rfl h (fun hb93 h => ?_) (fun hb93 h => ?_)
      · refine wp_text [0, 1, 2, 3, 4] rfl ?_
        refine ro_val (d := (some 119)) rfl (.free rfl) rfl (q_move (v := .pointer (t_1)) rfl rfl) ?_
        refine ro_val (d := (some 120)) rfl (.free rfl) rfl (q_nilCheck (a := a2) rfl (congrArg Value.pointer ha2)) ?_
        refine ro_val (d := (some 121)) rfl (.free rfl) rfl (q_fieldAddr (a := a2) (off := 1) rfl Try.underlying62 rfl rfl ok59 (by decide) rfl) ?_
        obtain ⟨x91, hx91, h⟩ := h
        refine ro_val (d := (some 122)) rfl (.free rfl) rfl (q_load (T := tMap) (u := x91) (a := (a2.add 1)) rfl ok59 rfl hx91) ?_
        refine ro_wp rfl (.free rfl) (wp_mclr (r := x91) (d := none) rfl rfl Try.underlying59 rfl h ?_)
        intro w92 h
        refine ro_nil ?_
        exact ⟨(), _, arr (upd_step rfl rfl), h⟩
      · refine wp_skip ?_
        exact ⟨(), _, arr (upd_step rfl rfl), h⟩

-- moiety/moietyref13.Together
def F30 (a_1 : S79) (b_2 : S79) (w : World) (R : Bool → World → Prop) : Prop :=
  nw 80 T79 a_1 w fun a3 w4 =>
  nw 80 T79 b_2 w4 fun a5 w6 =>
  ex (RdAt (tInt .i64) (a3.add 0) w6) fun x7 =>
  ex (RdAt (tInt .i64) (a5.add 0) w6) fun x8 =>
  ex (fun x => (!(x7 == x8)) = true → (RdAt tBool (a3.add 2) w6) x) fun x9 =>
  ex (fun x => ((!(x7 == x8)) && (!x9)) = true → (RdAt tBool (a5.add 2) w6) x) fun x10 =>
  R ((x7 == x8) || ((!x9) && (!x10))) w6
theorem F30_ok {a_1 : S79} {b_2 : S79} {w : World} {R : Bool → World → Prop} (h : F30 a_1 b_2 w R) : cl Try.prog 30 [T79.enc (a_1), T79.enc (b_2)] tBool w R := by
  unfold F30 at h
  refine calls_start 20 Try.func30 rfl rfl (Nat.le_of_ble_eq_true rfl) ?_
  refine wp_seq ?_
  refine wp_text [0, 1, 2] rfl ?_
  obtain ⟨a3, w4, ha3, hw4, h⟩ := nw_open h
  refine ro_val (d := (some 2)) rfl (.free rfl) rfl (q_box (u := a_1) rfl ok80 rfl ha3 hw4) ?_
  obtain ⟨a5, w6, ha5, hw6, h⟩ := nw_open h
  refine ro_val (d := (some 3)) rfl (.free rfl) rfl (q_box (u := b_2) rfl ok80 rfl ha5 hw6) ?_
  refine ro_val (d := (some 4)) rfl (.free rfl) rfl (q_assign (v := .bool (false)) rfl rfl) ?_
  refine ro_nil ?_
  refine wp_seq ?_
  refine wp_text [0, 1, 2, 3, 4, 5, 6, 7, 8, 9, 10, 11, 12, 13, 14, 15] rfl ?_
  refine ro_val (d := (some 5)) rfl (.free rfl) rfl (q_fieldAddr (a := a3) (off := 0) rfl Try.underlying80 rfl rfl ok3 (by decide) rfl) ?_
  obtain ⟨x7, hx7, h⟩ := h
  refine ro_val (d := (some 6)) rfl (.free rfl) rfl (q_load (T := (tInt .i64)) (u := x7) (a := (a3.add 0)) rfl ok3 rfl hx7) ?_
  refine ro_val (d := (some 7)) rfl (.free rfl) rfl (q_fieldAddr (a := a5) (off := 0) rfl Try.underlying80 rfl rfl ok3 (by decide) rfl) ?_
  obtain ⟨x8, hx8, h⟩ := h
  refine ro_val (d := (some 8)) rfl (.free rfl) rfl (q_load (T := (tInt .i64)) (u := x8) (a := (a5.add 0)) rfl ok3 rfl hx8) ?_
  refine ro_val (d := (some 9)) rfl (.free rfl) rfl (q_eql (a := x7) (b := x8) rfl rfl rfl) ?_
  refine ro_val (d := (some 10)) rfl (.free rfl) rfl (q_move (v := .bool ((x7 == x8))) rfl rfl) ?_
  refine ro_gval (g := (!(x7 == x8))) (d := (some 11)) rfl (.no 5 10 true (x7 == x8) rfl rfl rfl rfl) rfl (fun hg => q_fieldAddr (a := a3) (off := 2) rfl Try.underlying80 rfl rfl ok4 (by decide) rfl) ?_
  obtain ⟨x9, hx9, h⟩ := h
  refine ro_gval (g := (!(x7 == x8))) (d := (some 12)) rfl (.no 5 10 true (x7 == x8) rfl rfl rfl rfl) rfl (fun hg => q_load (T := tBool) (u := x9) (a := (a3.add 2)) rfl ok4 (gvb_yes hg) (hx9 hg)) ?_
  refine ro_gval (g := (!(x7 == x8))) (d := (some 13)) rfl (.no 5 10 true (x7 == x8) rfl rfl rfl rfl) rfl (fun hg => q_not (b := x9) rfl (gvb_yes hg)) ?_
  refine ro_gval (g := (!(x7 == x8))) (d := (some 14)) rfl (.no 5 10 true (x7 == x8) rfl rfl rfl rfl) rfl (fun hg => q_move (v := .bool ((!x9))) rfl (gvb_yes hg)) ?_
  refine ro_gval (g := ((!(x7 == x8)) && (!x9))) (d := (some 15)) rfl (.yes 9 14 (!(x7 == x8)) (!x9) rfl rfl rfl rfl) rfl (fun hg => q_fieldAddr (a := a5) (off := 2) rfl Try.underlying80 rfl rfl ok4 (by decide) rfl) ?_
  obtain ⟨x10, hx10, h⟩ := h
  refine ro_gval (g := ((!(x7 == x8)) && (!x9))) (d := (some 16)) rfl (.yes 9 14 (!(x7 == x8)) (!x9) rfl rfl rfl rfl) rfl (fun hg => q_load (T := tBool) (u := x10) (a := (a5.add 2)) rfl ok4 (gvb_yes hg) (hx10 hg)) ?_
  refine ro_gval (g := ((!(x7 == x8)) && (!x9))) (d := (some 17)) rfl (.yes 9 14 (!(x7 == x8)) (!x9) rfl rfl rfl rfl) rfl (fun hg => q_not (b := x10) rfl (gvb_yes hg)) ?_
  refine ro_gval (g := (!(x7 == x8))) (d := (some 18)) rfl (.no 5 10 true (x7 == x8) rfl rfl rfl rfl) rfl (fun hg => q_pickNT (g0 := (!(x7 == x8))) (a := (!x9)) (b := (!x10)) hg rfl rfl rfl rfl) ?_
  refine ro_val (d := (some 19)) rfl (.free rfl) rfl (q_pickGF (a := (x7 == x8)) (c := ((!x9) && (!x10))) rfl rfl rfl rfl) ?_
  refine ro_val (d := (some 4)) rfl (.free rfl) rfl (q_assign (v := .bool (((x7 == x8) || ((!x9) && (!x10))))) rfl rfl) ?_
  refine ro_nil ?_
  refine wp_ret ?_
  exact ret_ok rfl (.cons (.tmp (v := .bool (((x7 == x8) || ((!x9) && (!x10))))) rfl) .nil) ⟨((x7 == x8) || ((!x9) && (!x10))), rfl, h⟩

-- moiety/moietyref13.without
def F31_j2 (i_6 : Int) (out_9 : Slc) (w10 : World) (K8 : Slc × Int → World → Prop) (R : Slc → World → Prop) : Prop :=
  K8 (out_9, (IntKind.i64.wrap (i_6 + (1 : Int)))) w10
def F31_l1 (l_1 : Slc) (tx_2 : Int) (out_5 : Slc) (i_6 : Int) (w7 : World) (K8 : Slc × Int → World → Prop) (R : Slc → World → Prop) : Prop :=
  if (decide (i_6 < (l_1.len : Int))) = true then (
    ex (IxA l_1 3 i_6) fun a11 =>
    ex (RdAt (tInt .i64) (a11.add 0) w7) fun x12 =>
    if (x12 != tx_2) = true then (
      ex (IxA l_1 3 i_6) fun a13 =>
      ex (RdAt T79 a13 w7) fun x14 =>
      apl 80 T79 3 24 out_5 [x14] w7 fun r18 w17 =>
      F31_j2 i_6 r18 w17 K8 R
    ) else (
      F31_j2 i_6 out_5 w7 K8 R
    )
  ) else (
    R out_5 w7
  )
def F31 (l_1 : Slc) (tx_2 : Int) (w : World) (R : Slc → World → Prop) : Prop :=
  nwS 80 T79 ([] : List S79) w fun a3 w4 =>
  lp (fun (s : Slc × Int) w K => F31_l1 l_1 tx_2 s.1 s.2 w K R) ((⟨some a3, 0, 0⟩ : Slc), (0 : Int)) w4
theorem F31_ok {l_1 : Slc} {tx_2 : Int} {w : World} {R : Slc → World → Prop} (h : F31 l_1 tx_2 w R) : cl Try.prog 31 [tSlc.enc (l_1), .int .i64 (tx_2)] tSlc w R := by
  unfold F31 at h
  refine calls_start 29 Try.func31 rfl rfl (Nat.le_of_ble_eq_true rfl) ?_
  refine wp_seq ?_
  refine wp_text [0] rfl ?_
  refine ro_val (d := (some 4)) rfl (.free rfl) rfl (q_assign (v := tSlc.enc ((⟨none, 0, 0⟩ : Slc))) rfl rfl) ?_
  refine ro_nil ?_
  refine wp_seq ?_
  refine wp_text [0, 1] rfl ?_
  obtain ⟨a3, w4, ha3, hw4, h⟩ := nwS_open h
  refine ro_val (d := (some 7)) rfl (.free rfl) rfl (q_row0 (T := T79) rfl Try.underlying25 ok80 inf80 ha3 hw4) ?_
  refine ro_val (d := (some 5)) rfl (.free rfl) rfl (q_assign (v := tSlc.enc ((⟨some a3, 0, 0⟩ : Slc))) rfl rfl) ?_
  refine ro_nil ?_
  refine wp_seq ?_
  refine wp_seq ?_
  refine wp_text [0] rfl ?_
  refine ro_val (d := (some 6)) rfl (.free rfl) rfl (q_assign (v := .int .i64 ((0 : Int))) rfl rfl) ?_
  refine ro_nil ?_
  refine wp_block ?_
  refine loop_at (σ := Slc × Int) (fr := fun g (s : Slc × Int) => upd (upd (upd (upd (g) 0 (tSlc.enc (l_1))) 1 (.int .i64 (tx_2))) 5 (tSlc.enc (s.1))) 6 (.int .i64 (s.2))) (s0 := ((⟨some a3, 0, 0⟩ : Slc), (0 : Int))) (upd_step (upd_step (upd_step (upd_step rfl rfl) rfl) rfl) rfl) h ?_
  rintro ⟨out_5, i_6⟩ g w7 K8 h
  unfold F31_l1 at h
  refine wp_seq ?_
  refine wp_seq ?_
  refine wp_text [0, 1, 2, 3] rfl ?_
  refine ro_val (d := (some 8)) rfl (.free rfl) rfl (q_move (v := .int .i64 (i_6)) rfl rfl) ?_
  refine ro_val (d := (some 9)) rfl (.free rfl) rfl (q_move (v := tSlc.enc (l_1)) rfl rfl) ?_
  refine ro_val (d := (some 10)) rfl (.free rfl) rfl (q_len (s := l_1) rfl Try.underlying25 rfl) ?_
  refine ro_val (d := (some 11)) rfl (.free rfl) rfl (q_lss (a := i_6) (b := (l_1.len : Int)) rfl rfl rfl) ?_
  refine ro_nil ?_
  refine wp_if (b := (decide (i_6 < (l_1.len : Int)))) rfl h (fun hb20 h => ?_) (fun hb20 h => ?_)
  · refine wp_skip ?_
    refine seq_join (σ := Slc) (J := fun (s : Slc) w => F31_j2 i_6 s w K8 R) (fr := fun g (s : Slc) => upd (upd (upd (upd (g) 0 (tSlc.enc (l_1))) 1 (.int .i64 (tx_2))) 6 (.int .i64 (i_6))) 5 (tSlc.enc (s))) ?_ ?_
    · rintro out_9 g w10 h
      unfold F31_j2 at h
      refine wp_text [0, 1, 2] rfl ?_
      refine ro_val (d := (some 12)) rfl (.free rfl) rfl (q_move (v := .int .i64 (i_6)) rfl rfl) ?_
      refine ro_val (d := (some 13)) rfl (.free rfl) rfl (q_add (a := i_6) (b := (1 : Int)) rfl rfl rfl) ?_
      refine ro_val (d := (some 6)) rfl (.free rfl) rfl (q_assign (v := .int .i64 ((IntKind.i64.wrap (i_6 + (1 : Int))))) rfl rfl) ?_
      refine ro_nil ?_
      exact ⟨(out_9, (IntKind.i64.wrap (i_6 + (1 : Int)))), _, arr (upd_step (upd_step (upd_step (upd_step rfl rfl) rfl) rfl) rfl), h⟩
    · refine wp_block ?_
      refine wp_seq ?_
      refine wp_text [0, 1, 2, 3, 4, 5, 6] rfl ?_
      refine ro_val (d := (some 14)) rfl (.free rfl) rfl (q_move (v := tSlc.enc (l_1)) rfl rfl) ?_
      refine ro_val (d := (some 15)) rfl (.free rfl) rfl (q_move (v := .int .i64 (i_6)) rfl rfl) ?_
      obtain ⟨a11, ha11, h⟩ := h
      refine ro_val (d := (some 16)) rfl (.free rfl) rfl (q_indexAddr (s := l_1) (i := i_6) rfl Try.underlying25 ok80 rfl rfl ha11) ?_
      refine ro_val (d := (some 17)) rfl (.free rfl) rfl (q_fieldAddr (a := a11) (off := 0) rfl Try.underlying80 rfl rfl ok3 (by decide) rfl) ?_
      obtain ⟨x12, hx12, h⟩ := h
      refine ro_val (d := (some 18)) rfl (.free rfl) rfl (q_load (T := (tInt .i64)) (u := x12) (a := (a11.add 0)) rfl ok3 rfl hx12) ?_
      refine ro_val (d := (some 19)) rfl (.free rfl) rfl (q_move (v := .int .i64 (tx_2)) rfl rfl) ?_
      refine ro_val (d := (some 20)) rfl (.free rfl) rfl (q_neq (a := x12) (b := tx_2) rfl rfl rfl) ?_
      refine ro_nil ?_
      refine wp_if (b := (x12 != tx_2)) rfl h (fun hb19 h => ?_) (fun hb19 h => ?_)
      · refine wp_text [0, 1, 2, 3, 4, 5, 6, 7] rfl ?_
        refine ro_val (d := (some 21)) rfl (.free rfl) rfl (q_move (v := tSlc.enc (out_5)) rfl rfl) ?_
        refine ro_val (d := (some 22)) rfl (.free rfl) rfl (q_move (v := tSlc.enc (l_1)) rfl rfl) ?_
        refine ro_val (d := (some 23)) rfl (.free rfl) rfl (q_move (v := .int .i64 (i_6)) rfl rfl) ?_
        obtain ⟨a13, ha13, h⟩ := h
        refine ro_val (d := (some 24)) rfl (.free rfl) rfl (q_indexAddr (s := l_1) (i := i_6) rfl Try.underlying25 ok80 rfl rfl ha13) ?_
        obtain ⟨x14, hx14, h⟩ := h
        refine ro_val (d := (some 25)) rfl (.free rfl) rfl (q_load (T := T79) (u := x14) (a := a13) rfl ok80 rfl hx14) ?_
        obtain ⟨a15, w16, ha15, hw16, h⟩ := apl_open h
        refine ro_val (d := (some 26)) rfl (.free rfl) rfl (q_rowOf (T := T79) (xs := [x14]) rfl Try.underlying25 ok80 inf80 rfl (by decide) (by decide) rfl ha15 hw16) ?_
        refine ro_wp rfl (.free rfl) (wp_append (d := (some 27)) (T := T79) rfl rfl Try.underlying25 ⟨_, Try.underlying25⟩ ok80 inf80 rfl rfl (Nat.lt_of_lt_of_le Nat.zero_lt_one (Nat.le_of_ble_eq_true rfl)) rfl rfl h ?_)
        intro r18 w17 h
        refine ro_val (d := (some 5)) rfl (.free rfl) rfl (q_assign (v := tSlc.enc (r18)) rfl rfl) ?_
        refine ro_nil ?_
        exact ⟨(r18), _, arr (upd_step (upd_step (upd_step (upd_step rfl rfl) rfl) rfl) rfl), h⟩
      · refine wp_skip ?_
        exact ⟨(out_5), _, arr (upd_step (upd_step (upd_step (upd_step rfl rfl) rfl) rfl) rfl), h⟩
  · refine wp_exit ?_
    refine wp_seq ?_
    refine wp_text [0, 1] rfl ?_
    refine ro_val (d := (some 28)) rfl (.free rfl) rfl (q_move (v := tSlc.enc (out_5)) rfl rfl) ?_
    refine ro_val (d := (some 4)) rfl (.free rfl) rfl (q_assign (v := tSlc.enc (out_5)) rfl rfl) ?_
    refine ro_nil ?_
    refine wp_ret ?_
    exact ret_ok rfl (.cons (.tmp (v := tSlc.enc (out_5)) rfl) .nil) ⟨out_5, rfl, h⟩

end Go.Proofs.Ytojcgejjdfcaaaa.Cf
