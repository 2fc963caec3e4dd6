/- Characteristic formulae of Go functions, and that they are. Printed by gen.py (own tool). -/
import Derived.Test.YtojcgejjdfcaaaaTy
namespace Go.Proofs.Ytojcgejjdfcaaaa.Cf
open Go
set_option maxRecDepth 100000
set_option maxHeartbeats 1000000
set_option linter.unusedVariables false
set_option linter.unusedSimpArgs false

-- moiety/moietylaw13.LocksOwn
def F8_j8 (i_8 : Int) (t_66 : Bool) (w67 : World) (K10 : Int → World → Prop) (R : Bool → World → Prop) : Prop :=
  if t_66 = true then (
    R false w67
  ) else (
    K10 ((IntKind.i64.wrap (i_8 + (1 : Int)))) w67
  )
def F8_l7 (l_1 : Slc) (r3 : (Option Addr)) (r5 : (Option Addr)) (i_8 : Int) (r54 : Slc) (k_61 : Int) (w62 : World) (K10 : Int → World → Prop) (K63 : Int → World → Prop) (R : Bool → World → Prop) : Prop :=
  if (decide (k_61 < (r54.len : Int))) = true then (
    ex (IxA r54 2 k_61) fun a64 =>
    st T53 a64 (⟨(0 : Int), false⟩ : S53) w62 fun w65 =>
    K63 ((IntKind.i64.wrap (k_61 + (1 : Int)))) w65
  ) else (
    dr w62 fun w69 =>
    ex (IxA l_1 4 i_8) fun a70 =>
    ex (IxA l_1 4 i_8) fun a71 =>
    ex (RdAt (tInt .i64) (a70.add 2) w69) fun x72 =>
    ex (RdAt (tInt .i64) (a71.add 2) w69) fun x73 =>
    cl Try.prog 21 [.pointer (r3), .int .i64 (x72)] tSlc w69 fun r75 w74 =>
    kp ((RdAt (tInt .i64) (a71.add 2) w74) x73) <|
    cl Try.prog 21 [.pointer (r5), .int .i64 (x73)] tSlc w74 fun r78 w77 =>
    kp ((RdAt (tInt .i64) (a70.add 2) w77) x72) <|
    cl Try.prog 23 [tSlc.enc (r75), tSlc.enc (r78)] tBool w77 fun r81 w80 =>
    kp ((RdAt (tInt .i64) (a70.add 2) w80) x72) <|
    kp ((RdAt (tInt .i64) (a71.add 2) w80) x73) <|
    if (!r81) = true then (
      F8_j8 i_8 true w80 K10 R
    ) else (
      ex (IxA l_1 4 i_8) fun a85 =>
      ex (IxA l_1 4 i_8) fun a86 =>
      ex (RdAt (tInt .i64) (a85.add 2) w80) fun x87 =>
      ex (RdAt (tInt .i64) (a86.add 2) w80) fun x88 =>
      cl Try.prog 22 [.pointer (r3), .int .i64 (x87)] tSlc w80 fun r90 w89 =>
      kp ((RdAt (tInt .i64) (a70.add 2) w89) x72) <|
      kp ((RdAt (tInt .i64) (a71.add 2) w89) x73) <|
      kp ((RdAt (tInt .i64) (a86.add 2) w89) x88) <|
      cl Try.prog 22 [.pointer (r5), .int .i64 (x88)] tSlc w89 fun r95 w94 =>
      kp ((RdAt (tInt .i64) (a70.add 2) w94) x72) <|
      kp ((RdAt (tInt .i64) (a71.add 2) w94) x73) <|
      kp ((RdAt (tInt .i64) (a85.add 2) w94) x87) <|
      cl Try.prog 23 [tSlc.enc (r90), tSlc.enc (r95)] tBool w94 fun r100 w99 =>
      kp ((RdAt (tInt .i64) (a70.add 2) w99) x72) <|
      kp ((RdAt (tInt .i64) (a71.add 2) w99) x73) <|
      kp ((RdAt (tInt .i64) (a85.add 2) w99) x87) <|
      kp ((RdAt (tInt .i64) (a86.add 2) w99) x88) <|
      F8_j8 i_8 (!r100) w99 K10 R
    )
  )
def F8_l6 (l_1 : Slc) (r3 : (Option Addr)) (r5 : (Option Addr)) (i_8 : Int) (r51 : Slc) (r54 : Slc) (k_56 : Int) (w57 : World) (K10 : Int → World → Prop) (K58 : Int → World → Prop) (R : Bool → World → Prop) : Prop :=
  if (decide (k_56 < (r51.len : Int))) = true then (
    ex (IxA r51 2 k_56) fun a59 =>
    st T53 a59 (⟨(0 : Int), false⟩ : S53) w57 fun w60 =>
    K58 ((IntKind.i64.wrap (k_56 + (1 : Int)))) w60
  ) else (
    lp (fun (s : Int) w K => F8_l7 l_1 r3 r5 i_8 r54 s w K10 K R) ((0 : Int)) w57
  )
def F8_l5 (l_1 : Slc) (r3 : (Option Addr)) (r5 : (Option Addr)) (i_8 : Int) (a15 : Addr) (k_38 : Int) (w39 : World) (K10 : Int → World → Prop) (K40 : Int → World → Prop) (R : Bool → World → Prop) : Prop :=
  ex (RdAt tSlc (a15.add 2) w39) fun x41 =>
  if (decide (k_38 < (x41.len : Int))) = true then (
    ex (RdAt tSlc (a15.add 2) w39) fun x42 =>
    ex (IxA x42 2 k_38) fun a43 =>
    st T55 a43 (⟨(0 : Int), (0 : Int)⟩ : S55) w39 fun w44 =>
    K40 ((IntKind.i64.wrap (k_38 + (1 : Int)))) w44
  ) else (
    dr w39 fun w45 =>
    ex (IxA l_1 4 i_8) fun a46 =>
    ex (IxA l_1 4 i_8) fun a47 =>
    ex (RdAt (tInt .i64) (a46.add 2) w45) fun x48 =>
    ex (RdAt (tInt .i64) (a47.add 2) w45) fun x49 =>
    cl Try.prog 21 [.pointer (r3), .int .i64 (x48)] tSlc w45 fun r51 w50 =>
    kp ((RdAt (tInt .i64) (a47.add 2) w50) x49) <|
    cl Try.prog 22 [.pointer (r3), .int .i64 (x49)] tSlc w50 fun r54 w53 =>
    kp ((RdAt (tInt .i64) (a46.add 2) w53) x48) <|
    lp (fun (s : Int) w K => F8_l6 l_1 r3 r5 i_8 r51 r54 s w K10 K R) ((0 : Int)) w53
  )
def F8_l4 (l_1 : Slc) (r3 : (Option Addr)) (r5 : (Option Addr)) (i_8 : Int) (a15 : Addr) (k_31 : Int) (w32 : World) (K10 : Int → World → Prop) (K33 : Int → World → Prop) (R : Bool → World → Prop) : Prop :=
  ex (RdAt tSlc (a15.add 1) w32) fun x34 =>
  if (decide (k_31 < (x34.len : Int))) = true then (
    ex (RdAt tSlc (a15.add 1) w32) fun x35 =>
    ex (IxA x35 1 k_31) fun a36 =>
    st (tInt .i64) a36 (-1 : Int) w32 fun w37 =>
    K33 ((IntKind.i64.wrap (k_31 + (1 : Int)))) w37
  ) else (
    lp (fun (s : Int) w K => F8_l5 l_1 r3 r5 i_8 a15 s w K10 K R) ((0 : Int)) w32
  )
def F8_j3 (l_1 : Slc) (r3 : (Option Addr)) (r5 : (Option Addr)) (i_8 : Int) (a15 : Addr) (t_29 : Bool) (w30 : World) (K10 : Int → World → Prop) (R : Bool → World → Prop) : Prop :=
  if t_29 = true then (
    R false w30
  ) else (
    lp (fun (s : Int) w K => F8_l4 l_1 r3 r5 i_8 a15 s w K10 K R) ((0 : Int)) w30
  )
def F8_j2 (l_1 : Slc) (r3 : (Option Addr)) (r5 : (Option Addr)) (i_8 : Int) (a15 : Addr) (a22 : Addr) (t_27 : Bool) (w28 : World) (K10 : Int → World → Prop) (R : Bool → World → Prop) : Prop :=
  if t_27 = true then (
    F8_j3 l_1 r3 r5 i_8 a15 true w28 K10 R
  ) else (
    ex (RdAt tSlc (a15.add 2) w28) fun x111 =>
    ex (RdAt tSlc (a22.add 2) w28) fun x112 =>
    cl Try.prog 14 [tSlc.enc (x111), tSlc.enc (x112)] tBool w28 fun r114 w113 =>
    F8_j3 l_1 r3 r5 i_8 a15 (!r114) w113 K10 R
  )
def F8_l1 (l_1 : Slc) (r3 : (Option Addr)) (r5 : (Option Addr)) (i_8 : Int) (w9 : World) (K10 : Int → World → Prop) (R : Bool → World → Prop) : Prop :=
  if ((decide (i_8 < (l_1.len : Int))) && (decide (i_8 < (30 : Int)))) = true then (
    ex (IxA l_1 4 i_8) fun a11 =>
    ex (RdAt T30 a11 w9) fun x12 =>
    cl Try.prog 20 [.pointer (r3), T30.enc (x12)] (tTup2 T33 (tInt .i64)) w9 fun r14 w13 =>
    nw 34 T33 Z33 w13 fun a15 w16 =>
    st T33 a15 r14.1 w16 fun w17 =>
    ex (IxA l_1 4 i_8) fun a18 =>
    ex (RdAt T30 a18 w17) fun x19 =>
    cl Try.prog 20 [.pointer (r5), T30.enc (x19)] (tTup2 T33 (tInt .i64)) w17 fun r21 w20 =>
    nw 34 T33 Z33 w20 fun a22 w23 =>
    st T33 a22 r21.1 w23 fun w24 =>
    ex (fun x => (!(r14.2 != r21.2)) = true → (RdAt tBool (a15.add 0) w24) x) fun x25 =>
    ex (fun x => (!(r14.2 != r21.2)) = true → (RdAt tBool (a22.add 0) w24) x) fun x26 =>
    if ((r14.2 != r21.2) || (!(x25 == x26))) = true then (
      F8_j2 l_1 r3 r5 i_8 a15 a22 true w24 K10 R
    ) else (
      ex (RdAt tSlc (a15.add 1) w24) fun x116 =>
      ex (RdAt tSlc (a22.add 1) w24) fun x117 =>
      cl Try.prog 13 [tSlc.enc (x116), tSlc.enc (x117)] tBool w24 fun r119 w118 =>
      F8_j2 l_1 r3 r5 i_8 a15 a22 (!r119) w118 K10 R
    )
  ) else (
    R true w9
  )
def F8 (l_1 : Slc) (w : World) (R : Bool → World → Prop) : Prop :=
  cl Try.prog 9 [] tPtr w fun r3 w2 =>
  cl Try.prog 9 [] tPtr w2 fun r5 w4 =>
  cl Try.prog 10 [] tBool w4 fun r7 w6 =>
  if (((!r7) || r3.isNone) || r5.isNone) = true then (
    R false w6
  ) else (
    lp (fun (s : Int) w K => F8_l1 l_1 r3 r5 s w K R) ((0 : Int)) w6
  )
theorem F8_ok {l_1 : Slc} {w : World} {R : Bool → World → Prop} (h : F8 l_1 w R) : cl Try.prog 8 [tSlc.enc (l_1)] tBool w R := by
  unfold F8 at h
  refine calls_start 173 Try.func8 rfl rfl (Nat.le_of_ble_eq_true rfl) ?_
  refine wp_seq ?_
  refine wp_text [0] rfl ?_
  refine ro_val (d := (some 2)) rfl (.free rfl) rfl (q_assign (v := .bool (false)) rfl rfl) ?_
  refine ro_nil ?_
  refine wp_seq ?_
  refine wp_text [0, 1, 2, 3] rfl ?_
  refine ro_wp rfl (.free rfl) (wp_cl (d := (some 16)) rfl (q_call (k := 9) (l := []) rfl ent9 rfl) h ?_)
  intro r3 w2 h
  refine ro_wp rfl (.free rfl) (wp_cl (d := (some 17)) rfl (q_call (k := 9) (l := []) rfl ent9 rfl) h ?_)
  intro r5 w4 h
  refine ro_val (d := (some 3)) rfl (.free rfl) rfl (q_assign (v := .pointer (r3)) rfl rfl) ?_
  refine ro_val (d := (some 4)) rfl (.free rfl) rfl (q_assign (v := .pointer (r5)) rfl rfl) ?_
  refine ro_nil ?_
  refine wp_seq ?_
  refine wp_seq ?_
  refine wp_text [0, 1, 2, 3, 4, 5, 6, 7, 8, 9] rfl ?_
  refine ro_wp rfl (.free rfl) (wp_cl (d := (some 18)) rfl (q_call (k := 10) (l := []) rfl ent10 rfl) h ?_)
  intro r7 w6 h
  refine ro_val (d := (some 19)) rfl (.free rfl) rfl (q_not (b := r7) rfl rfl) ?_
  refine ro_val (d := (some 20)) rfl (.free rfl) rfl (q_move (v := .bool ((!r7))) rfl rfl) ?_
  refine ro_gval (g := (!(!r7))) (d := (some 21)) rfl (.no 2 20 true (!r7) rfl rfl rfl rfl) rfl (fun hg => q_move (v := .pointer (r3)) rfl rfl) ?_
  refine ro_gval (g := (!(!r7))) (d := (some 22)) rfl (.no 2 20 true (!r7) rfl rfl rfl rfl) rfl (fun hg => q_eqP0 (a := r3) rfl Try.underlying23 (gvb_yes hg) rfl) ?_
  refine ro_val (d := (some 23)) rfl (.free rfl) rfl (q_pickGF (a := (!r7)) (c := r3.isNone) rfl rfl rfl rfl) ?_
  refine ro_val (d := (some 24)) rfl (.free rfl) rfl (q_move (v := .bool (((!r7) || r3.isNone))) rfl rfl) ?_
  refine ro_gval (g := (!((!r7) || r3.isNone))) (d := (some 25)) rfl (.no 6 24 true ((!r7) || r3.isNone) rfl rfl rfl rfl) rfl (fun hg => q_move (v := .pointer (r5)) rfl rfl) ?_
  refine ro_gval (g := (!((!r7) || r3.isNone))) (d := (some 26)) rfl (.no 6 24 true ((!r7) || r3.isNone) rfl rfl rfl rfl) rfl (fun hg => q_eqP0 (a := r5) rfl Try.underlying23 (gvb_yes hg) rfl) ?_
  refine ro_val (d := (some 27)) rfl (.free rfl) rfl (q_pickGF (a := ((!r7) || r3.isNone)) (c := r5.isNone) rfl rfl rfl rfl) ?_
  refine ro_nil ?_
  refine wp_if (b := (((!r7) || r3.isNone) || r5.isNone)) rfl h (fun hb121 h => ?_) (fun hb121 h => ?_)
  · refine wp_seq ?_
    refine wp_text [0] rfl ?_
    refine ro_val (d := (some 2)) rfl (.free rfl) rfl (q_assign (v := .bool (false)) rfl rfl) ?_
    refine ro_nil ?_
    refine wp_ret ?_
    exact ret_ok rfl (.cons (.tmp (v := .bool (false)) rfl) .nil) ⟨false, rfl, h⟩
  · refine wp_skip ?_
    refine wp_seq ?_
    refine wp_seq ?_
    refine wp_text [0] rfl ?_
    refine ro_val (d := (some 5)) rfl (.free rfl) rfl (q_assign (v := .int .i64 ((0 : Int))) rfl rfl) ?_
    refine ro_nil ?_
    refine wp_block ?_
    refine loop_at (σ := Int) (fr := fun g (s : Int) => upd (upd (upd (upd (g) 0 (tSlc.enc (l_1))) 3 (.pointer (r3))) 4 (.pointer (r5))) 5 (.int .i64 (s))) (s0 := ((0 : Int))) (upd_step (upd_step (upd_step (upd_step rfl rfl) rfl) rfl) rfl) h ?_
    rintro i_8 g w9 K10 h
    unfold F8_l1 at h
    refine wp_seq ?_
    refine wp_seq ?_
    refine wp_text [0, 1, 2, 3, 4, 5, 6, 7] rfl ?_
    refine ro_val (d := (some 28)) rfl (.free rfl) rfl (q_move (v := .int .i64 (i_8)) rfl rfl) ?_
    refine ro_val (d := (some 29)) rfl (.free rfl) rfl (q_move (v := tSlc.enc (l_1)) rfl rfl) ?_
    refine ro_val (d := (some 30)) rfl (.free rfl) rfl (q_len (s := l_1) rfl Try.underlying22 rfl) ?_
    refine ro_val (d := (some 31)) rfl (.free rfl) rfl (q_lss (a := i_8) (b := (l_1.len : Int)) rfl rfl rfl) ?_
    refine ro_val (d := (some 32)) rfl (.free rfl) rfl (q_move (v := .bool ((decide (i_8 < (l_1.len : Int))))) rfl rfl) ?_
    refine ro_gval (g := (decide (i_8 < (l_1.len : Int)))) (d := (some 33)) rfl (.yes 4 32 true (decide (i_8 < (l_1.len : Int))) rfl rfl rfl rfl) rfl (fun hg => q_move (v := .int .i64 (i_8)) rfl rfl) ?_
    refine ro_gval (g := (decide (i_8 < (l_1.len : Int)))) (d := (some 34)) rfl (.yes 4 32 true (decide (i_8 < (l_1.len : Int))) rfl rfl rfl rfl) rfl (fun hg => q_lss (a := i_8) (b := (30 : Int)) rfl (gvb_yes hg) rfl) ?_
    refine ro_val (d := (some 35)) rfl (.free rfl) rfl (q_pickGT (a := (decide (i_8 < (l_1.len : Int)))) (b := (decide (i_8 < (30 : Int)))) rfl rfl rfl rfl) ?_
    refine ro_nil ?_
    refine wp_if (b := ((decide (i_8 < (l_1.len : Int))) && (decide (i_8 < (30 : Int))))) rfl h (fun hb120 h => ?_) (fun hb120 h => ?_)
    · refine wp_skip ?_
      refine wp_seq ?_
      refine wp_block ?_
      refine wp_seq ?_
      refine wp_text [0, 1, 2, 3, 4, 5, 6, 7, 8, 9, 10, 11] rfl ?_
      refine ro_val (d := (some 39)) rfl (.free rfl) rfl (q_move (v := .pointer (r3)) rfl rfl) ?_
      refine ro_val (d := (some 40)) rfl (.free rfl) rfl (q_move (v := tSlc.enc (l_1)) rfl rfl) ?_
      refine ro_val (d := (some 41)) rfl (.free rfl) rfl (q_move (v := .int .i64 (i_8)) rfl rfl) ?_
      obtain ⟨a11, ha11, h⟩ := h
      refine ro_val (d := (some 42)) rfl (.free rfl) rfl (q_indexAddr (s := l_1) (i := i_8) rfl Try.underlying22 ok31 rfl rfl ha11) ?_
      obtain ⟨x12, hx12, h⟩ := h
      refine ro_val (d := (some 43)) rfl (.free rfl) rfl (q_load (T := T30) (u := x12) (a := a11) rfl ok31 rfl hx12) ?_
      refine ro_wp rfl (.free rfl) (wp_cl (d := (some 44)) rfl (q_call (k := 20) (l := [.pointer (r3), T30.enc (x12)]) rfl ent20 rfl) h ?_)
      intro r14 w13 h
      refine ro_val (d := (some 38)) rfl (.free rfl) rfl (q_move (v := (tTup2 T33 (tInt .i64)).enc (r14)) rfl rfl) ?_
      refine ro_val (d := (some 45)) rfl (.free rfl) rfl (q_extract (vs := #[T33.enc (r14.1), .int .i64 (r14.2)]) (v := T33.enc (r14.1)) rfl rfl rfl) ?_
      refine ro_val (d := (some 46)) rfl (.free rfl) rfl (q_extract (vs := #[T33.enc (r14.1), .int .i64 (r14.2)]) (v := .int .i64 (r14.2)) rfl rfl rfl) ?_
      obtain ⟨a15, w16, ha15, hw16, h⟩ := nw_open h
      refine ro_val (d := (some 6)) rfl (.free rfl) rfl (q_alloc (u := Z33) rfl ok34 inf34 ha15 hw16) ?_
      obtain ⟨w17, hw17, hrw17, h⟩ := st_open h
      refine ro_skip (d := none) rfl (.free rfl) rfl (q_store (T := T33) (u := r14.1) (a := a15) rfl ok34 rfl rfl hrw17 hw17) ?_
      refine ro_val (d := (some 7)) rfl (.free rfl) rfl (q_assign (v := .int .i64 (r14.2)) rfl rfl) ?_
      refine ro_nil ?_
      refine wp_seq ?_
      refine wp_text [0, 1, 2, 3, 4, 5, 6, 7, 8, 9, 10, 11] rfl ?_
      refine ro_val (d := (some 48)) rfl (.free rfl) rfl (q_move (v := .pointer (r5)) rfl rfl) ?_
      refine ro_val (d := (some 49)) rfl (.free rfl) rfl (q_move (v := tSlc.enc (l_1)) rfl rfl) ?_
      refine ro_val (d := (some 50)) rfl (.free rfl) rfl (q_move (v := .int .i64 (i_8)) rfl rfl) ?_
      obtain ⟨a18, ha18, h⟩ := h
      refine ro_val (d := (some 51)) rfl (.free rfl) rfl (q_indexAddr (s := l_1) (i := i_8) rfl Try.underlying22 ok31 rfl rfl ha18) ?_
      obtain ⟨x19, hx19, h⟩ := h
      refine ro_val (d := (some 52)) rfl (.free rfl) rfl (q_load (T := T30) (u := x19) (a := a18) rfl ok31 rfl hx19) ?_
      refine ro_wp rfl (.free rfl) (wp_cl (d := (some 53)) rfl (q_call (k := 20) (l := [.pointer (r5), T30.enc (x19)]) rfl ent20 rfl) h ?_)
      intro r21 w20 h
      refine ro_val (d := (some 47)) rfl (.free rfl) rfl (q_move (v := (tTup2 T33 (tInt .i64)).enc (r21)) rfl rfl) ?_
      refine ro_val (d := (some 54)) rfl (.free rfl) rfl (q_extract (vs := #[T33.enc (r21.1), .int .i64 (r21.2)]) (v := T33.enc (r21.1)) rfl rfl rfl) ?_
      refine ro_val (d := (some 55)) rfl (.free rfl) rfl (q_extract (vs := #[T33.enc (r21.1), .int .i64 (r21.2)]) (v := .int .i64 (r21.2)) rfl rfl rfl) ?_
      obtain ⟨a22, w23, ha22, hw23, h⟩ := nw_open h
      refine ro_val (d := (some 8)) rfl (.free rfl) rfl (q_alloc (u := Z33) rfl ok34 inf34 ha22 hw23) ?_
      obtain ⟨w24, hw24, hrw24, h⟩ := st_open h
      refine ro_skip (d := none) rfl (.free rfl) rfl (q_store (T := T33) (u := r21.1) (a := a22) rfl ok34 rfl rfl hrw24 hw24) ?_
      refine ro_val (d := (some 9)) rfl (.free rfl) rfl (q_assign (v := .int .i64 (r21.2)) rfl rfl) ?_
      refine ro_nil ?_
      refine wp_seq ?_
      refine wp_seq ?_
      refine wp_text [0, 1, 2, 3, 4, 5, 6, 7, 8, 9, 10, 11, 12, 13, 14, 15, 16, 17, 18, 19, 20, 21, 22, 23, 24, 25] rfl ?_
      refine ro_val (d := (some 56)) rfl (.free rfl) rfl (q_move (v := .int .i64 (r14.2)) rfl rfl) ?_
      refine ro_val (d := (some 57)) rfl (.free rfl) rfl (q_move (v := .int .i64 (r21.2)) rfl rfl) ?_
      refine ro_val (d := (some 58)) rfl (.free rfl) rfl (q_neq (a := r14.2) (b := r21.2) rfl rfl rfl) ?_
      refine ro_val (d := (some 59)) rfl (.free rfl) rfl (q_move (v := .bool ((r14.2 != r21.2))) rfl rfl) ?_
      refine ro_gval (g := (!(r14.2 != r21.2))) (d := (some 60)) rfl (.no 3 59 true (r14.2 != r21.2) rfl rfl rfl rfl) rfl (fun hg => q_fieldAddr (a := a15) (off := 0) rfl Try.underlying34 rfl rfl ok4 (by decide) rfl) ?_
      obtain ⟨x25, hx25, h⟩ := h
      refine ro_gval (g := (!(r14.2 != r21.2))) (d := (some 61)) rfl (.no 3 59 true (r14.2 != r21.2) rfl rfl rfl rfl) rfl (fun hg => q_load (T := tBool) (u := x25) (a := (a15.add 0)) rfl ok4 (gvb_yes hg) (hx25 hg)) ?_
      refine ro_gval (g := (!(r14.2 != r21.2))) (d := (some 62)) rfl (.no 3 59 true (r14.2 != r21.2) rfl rfl rfl rfl) rfl (fun hg => q_fieldAddr (a := a22) (off := 0) rfl Try.underlying34 rfl rfl ok4 (by decide) rfl) ?_
      obtain ⟨x26, hx26, h⟩ := h
      refine ro_gval (g := (!(r14.2 != r21.2))) (d := (some 63)) rfl (.no 3 59 true (r14.2 != r21.2) rfl rfl rfl rfl) rfl (fun hg => q_load (T := tBool) (u := x26) (a := (a22.add 0)) rfl ok4 (gvb_yes hg) (hx26 hg)) ?_
      refine ro_gval (g := (!(r14.2 != r21.2))) (d := (some 64)) rfl (.no 3 59 true (r14.2 != r21.2) rfl rfl rfl rfl) rfl (fun hg => q_neB (a := x25) (b := x26) rfl Try.underlying4 (gvb_yes hg) (gvb_yes hg)) ?_
      refine ro_val (d := (some 65)) rfl (.free rfl) rfl (q_pickGF (a := (r14.2 != r21.2)) (c := (!(x25 == x26))) rfl rfl rfl rfl) ?_
      refine ro_val (d := (some 66)) rfl (.free rfl) rfl (q_move (v := .bool (((r14.2 != r21.2) || (!(x25 == x26))))) rfl rfl) ?_
      refine ro_join (σ := Bool) (J := fun (s : Bool) w => F8_j2 l_1 r3 r5 i_8 a15 a22 s w K10 R) (fr := fun g (s : Bool) => upd (upd (upd (upd (upd (upd (upd (g) 0 (tSlc.enc (l_1))) 3 (.pointer (r3))) 4 (.pointer (r5))) 5 (.int .i64 (i_8))) 6 (.pointer (some a15))) 8 (.pointer (some a22))) 73 (.bool (s))) [11, 12, 13, 14, 15, 16, 17] [18, 19, 20, 21, 22, 23, 24, 25] ?_ ?_
      · rintro t_27 g w28 h
        unfold F8_j2 at h
        refine ro_val (d := (some 74)) rfl (.free rfl) rfl (q_move (v := .bool (t_27)) rfl rfl) ?_
        refine ro_join (σ := Bool) (J := fun (s : Bool) w => F8_j3 l_1 r3 r5 i_8 a15 s w K10 R) (fr := fun g (s : Bool) => upd (upd (upd (upd (upd (upd (g) 0 (tSlc.enc (l_1))) 3 (.pointer (r3))) 4 (.pointer (r5))) 5 (.int .i64 (i_8))) 6 (.pointer (some a15))) 81 (.bool (s))) [19, 20, 21, 22, 23, 24, 25] [] ?_ ?_
        · rintro t_29 g w30 h
          unfold F8_j3 at h
          refine ro_nil ?_
          refine wp_if (b := t_29) rfl h (fun hb109 h => ?_) (fun hb109 h => ?_)
          · refine wp_seq ?_
            refine wp_text [0] rfl ?_
            refine ro_val (d := (some 2)) rfl (.free rfl) rfl (q_assign (v := .bool (false)) rfl rfl) ?_
            refine ro_nil ?_
            refine wp_ret ?_
            exact ret_ok rfl (.cons (.tmp (v := .bool (false)) rfl) .nil) ⟨false, rfl, h⟩
          · refine wp_skip ?_
            refine wp_seq ?_
            refine wp_seq ?_
            refine wp_text [0] rfl ?_
            refine ro_val (d := (some 10)) rfl (.free rfl) rfl (q_assign (v := .int .i64 ((0 : Int))) rfl rfl) ?_
            refine ro_nil ?_
            refine wp_block ?_
            refine loop_at (σ := Int) (fr := fun g (s : Int) => upd (upd (upd (upd (upd (upd (g) 0 (tSlc.enc (l_1))) 3 (.pointer (r3))) 4 (.pointer (r5))) 5 (.int .i64 (i_8))) 6 (.pointer (some a15))) 10 (.int .i64 (s))) (s0 := ((0 : Int))) (upd_step (upd_step (upd_step (upd_step (upd_step (upd_step rfl rfl) rfl) rfl) rfl) rfl) rfl) h ?_
            rintro k_31 g w32 K33 h
            unfold F8_l4 at h
            refine wp_seq ?_
            refine wp_seq ?_
            refine wp_text [0, 1, 2, 3, 4] rfl ?_
            refine ro_val (d := (some 82)) rfl (.free rfl) rfl (q_move (v := .int .i64 (k_31)) rfl rfl) ?_
            refine ro_val (d := (some 83)) rfl (.free rfl) rfl (q_fieldAddr (a := a15) (off := 1) rfl Try.underlying34 rfl rfl ok26 (by decide) rfl) ?_
            obtain ⟨x34, hx34, h⟩ := h
            refine ro_val (d := (some 84)) rfl (.free rfl) rfl (q_load (T := tSlc) (u := x34) (a := (a15.add 1)) rfl ok26 rfl hx34) ?_
            refine ro_val (d := (some 85)) rfl (.free rfl) rfl (q_len (s := x34) rfl Try.underlying26 rfl) ?_
            refine ro_val (d := (some 86)) rfl (.free rfl) rfl (q_lss (a := k_31) (b := (x34.len : Int)) rfl rfl rfl) ?_
            refine ro_nil ?_
            refine wp_if (b := (decide (k_31 < (x34.len : Int)))) rfl h (fun hb108 h => ?_) (fun hb108 h => ?_)
            · refine wp_skip ?_
              refine wp_seq ?_
              refine wp_block ?_
              refine wp_text [0, 1, 2, 3, 4] rfl ?_
              refine ro_val (d := (some 89)) rfl (.free rfl) rfl (q_fieldAddr (a := a15) (off := 1) rfl Try.underlying34 rfl rfl ok26 (by decide) rfl) ?_
              obtain ⟨x35, hx35, h⟩ := h
              refine ro_val (d := (some 90)) rfl (.free rfl) rfl (q_load (T := tSlc) (u := x35) (a := (a15.add 1)) rfl ok26 rfl hx35) ?_
              refine ro_val (d := (some 91)) rfl (.free rfl) rfl (q_move (v := .int .i64 (k_31)) rfl rfl) ?_
              obtain ⟨a36, ha36, h⟩ := h
              refine ro_val (d := (some 92)) rfl (.free rfl) rfl (q_indexAddr (s := x35) (i := k_31) rfl Try.underlying26 ok3 rfl rfl ha36) ?_
              obtain ⟨w37, hw37, hrw37, h⟩ := st_open h
              refine ro_skip (d := none) rfl (.free rfl) rfl (q_store (T := (tInt .i64)) (u := (-1 : Int)) (a := a36) rfl ok3 rfl rfl hrw37 hw37) ?_
              refine ro_nil ?_
              refine wp_text [0, 1, 2] rfl ?_
              refine ro_val (d := (some 87)) rfl (.free rfl) rfl (q_move (v := .int .i64 (k_31)) rfl rfl) ?_
              refine ro_val (d := (some 88)) rfl (.free rfl) rfl (q_add (a := k_31) (b := (1 : Int)) rfl rfl rfl) ?_
              refine ro_val (d := (some 10)) rfl (.free rfl) rfl (q_assign (v := .int .i64 ((IntKind.i64.wrap (k_31 + (1 : Int))))) rfl rfl) ?_
              refine ro_nil ?_
              exact ⟨((IntKind.i64.wrap (k_31 + (1 : Int)))), _, arr (upd_step (upd_step (upd_step (upd_step (upd_step (upd_step rfl rfl) rfl) rfl) rfl) rfl) rfl), h⟩
            · refine wp_exit ?_
              refine wp_seq ?_
              refine wp_seq ?_
              refine wp_text [0] rfl ?_
              refine ro_val (d := (some 11)) rfl (.free rfl) rfl (q_assign (v := .int .i64 ((0 : Int))) rfl rfl) ?_
              refine ro_nil ?_
              refine wp_block ?_
              refine loop_at (σ := Int) (fr := fun g (s : Int) => upd (upd (upd (upd (upd (upd (g) 0 (tSlc.enc (l_1))) 3 (.pointer (r3))) 4 (.pointer (r5))) 5 (.int .i64 (i_8))) 6 (.pointer (some a15))) 11 (.int .i64 (s))) (s0 := ((0 : Int))) (upd_step (upd_step (upd_step (upd_step (upd_step (upd_step rfl rfl) rfl) rfl) rfl) rfl) rfl) h ?_
              rintro k_38 g w39 K40 h
              unfold F8_l5 at h
              refine wp_seq ?_
              refine wp_seq ?_
              refine wp_text [0, 1, 2, 3, 4] rfl ?_
              refine ro_val (d := (some 93)) rfl (.free rfl) rfl (q_move (v := .int .i64 (k_38)) rfl rfl) ?_
              refine ro_val (d := (some 94)) rfl (.free rfl) rfl (q_fieldAddr (a := a15) (off := 2) rfl Try.underlying34 rfl rfl ok32 (by decide) rfl) ?_
              obtain ⟨x41, hx41, h⟩ := h
              refine ro_val (d := (some 95)) rfl (.free rfl) rfl (q_load (T := tSlc) (u := x41) (a := (a15.add 2)) rfl ok32 rfl hx41) ?_
              refine ro_val (d := (some 96)) rfl (.free rfl) rfl (q_len (s := x41) rfl Try.underlying32 rfl) ?_
              refine ro_val (d := (some 97)) rfl (.free rfl) rfl (q_lss (a := k_38) (b := (x41.len : Int)) rfl rfl rfl) ?_
              refine ro_nil ?_
              refine wp_if (b := (decide (k_38 < (x41.len : Int)))) rfl h (fun hb107 h => ?_) (fun hb107 h => ?_)
              · refine wp_skip ?_
                refine wp_seq ?_
                refine wp_block ?_
                refine wp_text [0, 1, 2, 3, 4, 5] rfl ?_
                refine ro_val (d := (some 100)) rfl (.free rfl) rfl (q_fieldAddr (a := a15) (off := 2) rfl Try.underlying34 rfl rfl ok32 (by decide) rfl) ?_
                obtain ⟨x42, hx42, h⟩ := h
                refine ro_val (d := (some 101)) rfl (.free rfl) rfl (q_load (T := tSlc) (u := x42) (a := (a15.add 2)) rfl ok32 rfl hx42) ?_
                refine ro_val (d := (some 102)) rfl (.free rfl) rfl (q_move (v := .int .i64 (k_38)) rfl rfl) ?_
                refine ro_val (d := (some 103)) rfl (.free rfl) rfl (q_build56_  rfl ) ?_
                obtain ⟨a43, ha43, h⟩ := h
                refine ro_val (d := (some 104)) rfl (.free rfl) rfl (q_indexAddr (s := x42) (i := k_38) rfl Try.underlying32 ok56 rfl rfl ha43) ?_
                obtain ⟨w44, hw44, hrw44, h⟩ := st_open h
                refine ro_skip (d := none) rfl (.free rfl) rfl (q_store (T := T55) (u := (⟨(0 : Int), (0 : Int)⟩ : S55)) (a := a43) rfl ok56 rfl rfl hrw44 hw44) ?_
                refine ro_nil ?_
                refine wp_text [0, 1, 2] rfl ?_
                refine ro_val (d := (some 98)) rfl (.free rfl) rfl (q_move (v := .int .i64 (k_38)) rfl rfl) ?_
                refine ro_val (d := (some 99)) rfl (.free rfl) rfl (q_add (a := k_38) (b := (1 : Int)) rfl rfl rfl) ?_
                refine ro_val (d := (some 11)) rfl (.free rfl) rfl (q_assign (v := .int .i64 ((IntKind.i64.wrap (k_38 + (1 : Int))))) rfl rfl) ?_
                refine ro_nil ?_
                exact ⟨((IntKind.i64.wrap (k_38 + (1 : Int)))), _, arr (upd_step (upd_step (upd_step (upd_step (upd_step (upd_step rfl rfl) rfl) rfl) rfl) rfl) rfl), h⟩
              · refine wp_exit ?_
                refine wp_seq ?_
                obtain ⟨w45, hw45, h⟩ := dr_open h
                refine wp_drawn 16 mixed rfl (by kernel_rfl) (by intro c a d v w h; cases d <;> exact h) hw45 (fun hD => ?_)
                refine rd_pure (i := 0) (d := (some 105)) hD (by kernel_rfl) (by kernel_rfl) rfl (.free rfl) rfl (fun _ => q_move (v := .pointer (r3)) rfl rfl) ?_
                refine rd_pure (i := 1) (d := (some 106)) hD (by kernel_rfl) (by kernel_rfl) rfl (.free rfl) rfl (fun _ => q_move (v := tSlc.enc (l_1)) rfl rfl) ?_
                refine rd_pure (i := 2) (d := (some 107)) hD (by kernel_rfl) (by kernel_rfl) rfl (.free rfl) rfl (fun _ => q_move (v := .int .i64 (i_8)) rfl rfl) ?_
                obtain ⟨a46, ha46, h⟩ := h
                refine rd_pure (i := 3) (d := (some 108)) hD (by kernel_rfl) (by kernel_rfl) rfl (.free rfl) rfl (fun _ => q_indexAddr (s := l_1) (i := i_8) rfl Try.underlying22 ok31 rfl rfl ha46) ?_
                refine rd_pure (i := 4) (d := (some 109)) hD (by kernel_rfl) (by kernel_rfl) rfl (.free rfl) rfl (fun _ => q_fieldAddr (a := a46) (off := 2) rfl Try.underlying31 rfl rfl ok3 (by decide) rfl) ?_
                refine rd_pure (i := 7) (d := (some 112)) hD (by kernel_rfl) (by kernel_rfl) rfl (.free rfl) rfl (fun _ => q_move (v := .pointer (r3)) rfl rfl) ?_
                refine rd_pure (i := 8) (d := (some 113)) hD (by kernel_rfl) (by kernel_rfl) rfl (.free rfl) rfl (fun _ => q_move (v := tSlc.enc (l_1)) rfl rfl) ?_
                refine rd_pure (i := 9) (d := (some 114)) hD (by kernel_rfl) (by kernel_rfl) rfl (.free rfl) rfl (fun _ => q_move (v := .int .i64 (i_8)) rfl rfl) ?_
                obtain ⟨a47, ha47, h⟩ := h
                refine rd_pure (i := 10) (d := (some 115)) hD (by kernel_rfl) (by kernel_rfl) rfl (.free rfl) rfl (fun _ => q_indexAddr (s := l_1) (i := i_8) rfl Try.underlying22 ok31 rfl rfl ha47) ?_
                refine rd_pure (i := 11) (d := (some 116)) hD (by kernel_rfl) (by kernel_rfl) rfl (.free rfl) rfl (fun _ => q_fieldAddr (a := a47) (off := 2) rfl Try.underlying31 rfl rfl ok3 (by decide) rfl) ?_
                obtain ⟨x48, hx48, h⟩ := h
                refine rd_read (i := 5) (d := (some 110)) (fun W => (RdAt (tInt .i64) (a46.add 2) W) x48) hD (by kernel_rfl) (by kernel_rfl) rfl (.free rfl) rfl (fun W hr => q_load (T := (tInt .i64)) (u := x48) (a := (a46.add 2)) rfl ok3 rfl hr) hx48 ?_
                obtain ⟨x49, hx49, h⟩ := h
                refine rd_read (i := 12) (d := (some 117)) (fun W => (RdAt (tInt .i64) (a47.add 2) W) x49) hD (by kernel_rfl) (by kernel_rfl) rfl (.free rfl) rfl (fun W hr => q_load (T := (tInt .i64)) (u := x49) (a := (a47.add 2)) rfl ok3 rfl hr) hx49 ?_
                refine rd_one (i := 6) (by kernel_rfl) ?_
                refine po_wp rfl (.free rfl) (wp_cl (d := (some 111)) rfl (q_call (k := 21) (l := [.pointer (r3), .int .i64 (x48)]) rfl ent21 rfl) h ?_)
                intro r51 w50 h
                obtain ⟨hk52, h⟩ := h
                refine ⟨(hk_keep (fun _ => hk52) (hk_wait (by kernel_rfl) hk_nil)), ?_⟩
                refine rd_one (i := 13) (by kernel_rfl) ?_
                refine po_wp rfl (.free rfl) (wp_cl (d := (some 118)) rfl (q_call (k := 22) (l := [.pointer (r3), .int .i64 (x49)]) rfl ent22 rfl) h ?_)
                intro r54 w53 h
                obtain ⟨hk55, h⟩ := h
                refine ⟨(hk_wait (by kernel_rfl) (hk_keep (fun _ => hk55) hk_nil)), ?_⟩
                refine rd_pure (i := 14) (d := (some 12)) hD (by kernel_rfl) (by kernel_rfl) rfl (.free rfl) rfl (fun _ => q_assign (v := tSlc.enc (r51)) rfl rfl) ?_
                refine rd_pure (i := 15) (d := (some 13)) hD (by kernel_rfl) (by kernel_rfl) rfl (.free rfl) rfl (fun _ => q_assign (v := tSlc.enc (r54)) rfl rfl) ?_
                refine rd_nil (by kernel_rfl) ?_
                refine wp_seq ?_
                refine wp_seq ?_
                refine wp_text [0] rfl ?_
                refine ro_val (d := (some 14)) rfl (.free rfl) rfl (q_assign (v := .int .i64 ((0 : Int))) rfl rfl) ?_
                refine ro_nil ?_
                refine wp_block ?_
                refine loop_at (σ := Int) (fr := fun g (s : Int) => upd (upd (upd (upd (upd (upd (upd (g) 0 (tSlc.enc (l_1))) 3 (.pointer (r3))) 4 (.pointer (r5))) 5 (.int .i64 (i_8))) 12 (tSlc.enc (r51))) 13 (tSlc.enc (r54))) 14 (.int .i64 (s))) (s0 := ((0 : Int))) (upd_step (upd_step (upd_step (upd_step (upd_step (upd_step (upd_step rfl rfl) rfl) rfl) rfl) rfl) rfl) rfl) h ?_
                rintro k_56 g w57 K58 h
                unfold F8_l6 at h
                refine wp_seq ?_
                refine wp_seq ?_
                refine wp_text [0, 1, 2, 3] rfl ?_
                refine ro_val (d := (some 119)) rfl (.free rfl) rfl (q_move (v := .int .i64 (k_56)) rfl rfl) ?_
                refine ro_val (d := (some 120)) rfl (.free rfl) rfl (q_move (v := tSlc.enc (r51)) rfl rfl) ?_
                refine ro_val (d := (some 121)) rfl (.free rfl) rfl (q_len (s := r51) rfl Try.underlying51 rfl) ?_
                refine ro_val (d := (some 122)) rfl (.free rfl) rfl (q_lss (a := k_56) (b := (r51.len : Int)) rfl rfl rfl) ?_
                refine ro_nil ?_
                refine wp_if (b := (decide (k_56 < (r51.len : Int)))) rfl h (fun hb106 h => ?_) (fun hb106 h => ?_)
                · refine wp_skip ?_
                  refine wp_seq ?_
                  refine wp_block ?_
                  refine wp_text [0, 1, 2, 3, 4] rfl ?_
                  refine ro_val (d := (some 125)) rfl (.free rfl) rfl (q_move (v := tSlc.enc (r51)) rfl rfl) ?_
                  refine ro_val (d := (some 126)) rfl (.free rfl) rfl (q_move (v := .int .i64 (k_56)) rfl rfl) ?_
                  refine ro_val (d := (some 127)) rfl (.free rfl) rfl (q_build54_  rfl ) ?_
                  obtain ⟨a59, ha59, h⟩ := h
                  refine ro_val (d := (some 128)) rfl (.free rfl) rfl (q_indexAddr (s := r51) (i := k_56) rfl Try.underlying51 ok54 rfl rfl ha59) ?_
                  obtain ⟨w60, hw60, hrw60, h⟩ := st_open h
                  refine ro_skip (d := none) rfl (.free rfl) rfl (q_store (T := T53) (u := (⟨(0 : Int), false⟩ : S53)) (a := a59) rfl ok54 rfl rfl hrw60 hw60) ?_
                  refine ro_nil ?_
                  refine wp_text [0, 1, 2] rfl ?_
                  refine ro_val (d := (some 123)) rfl (.free rfl) rfl (q_move (v := .int .i64 (k_56)) rfl rfl) ?_
                  refine ro_val (d := (some 124)) rfl (.free rfl) rfl (q_add (a := k_56) (b := (1 : Int)) rfl rfl rfl) ?_
                  refine ro_val (d := (some 14)) rfl (.free rfl) rfl (q_assign (v := .int .i64 ((IntKind.i64.wrap (k_56 + (1 : Int))))) rfl rfl) ?_
                  refine ro_nil ?_
                  exact ⟨((IntKind.i64.wrap (k_56 + (1 : Int)))), _, arr (upd_step (upd_step (upd_step (upd_step (upd_step (upd_step (upd_step rfl rfl) rfl) rfl) rfl) rfl) rfl) rfl), h⟩
                · refine wp_exit ?_
                  refine wp_seq ?_
                  refine wp_seq ?_
                  refine wp_text [0] rfl ?_
                  refine ro_val (d := (some 15)) rfl (.free rfl) rfl (q_assign (v := .int .i64 ((0 : Int))) rfl rfl) ?_
                  refine ro_nil ?_
                  refine wp_block ?_
                  refine loop_at (σ := Int) (fr := fun g (s : Int) => upd (upd (upd (upd (upd (upd (g) 0 (tSlc.enc (l_1))) 3 (.pointer (r3))) 4 (.pointer (r5))) 5 (.int .i64 (i_8))) 13 (tSlc.enc (r54))) 15 (.int .i64 (s))) (s0 := ((0 : Int))) (upd_step (upd_step (upd_step (upd_step (upd_step (upd_step rfl rfl) rfl) rfl) rfl) rfl) rfl) h ?_
                  rintro k_61 g w62 K63 h
                  unfold F8_l7 at h
                  refine wp_seq ?_
                  refine wp_seq ?_
                  refine wp_text [0, 1, 2, 3] rfl ?_
                  refine ro_val (d := (some 129)) rfl (.free rfl) rfl (q_move (v := .int .i64 (k_61)) rfl rfl) ?_
                  refine ro_val (d := (some 130)) rfl (.free rfl) rfl (q_move (v := tSlc.enc (r54)) rfl rfl) ?_
                  refine ro_val (d := (some 131)) rfl (.free rfl) rfl (q_len (s := r54) rfl Try.underlying51 rfl) ?_
                  refine ro_val (d := (some 132)) rfl (.free rfl) rfl (q_lss (a := k_61) (b := (r54.len : Int)) rfl rfl rfl) ?_
                  refine ro_nil ?_
                  refine wp_if (b := (decide (k_61 < (r54.len : Int)))) rfl h (fun hb105 h => ?_) (fun hb105 h => ?_)
                  · refine wp_skip ?_
                    refine wp_seq ?_
                    refine wp_block ?_
                    refine wp_text [0, 1, 2, 3, 4] rfl ?_
                    refine ro_val (d := (some 135)) rfl (.free rfl) rfl (q_move (v := tSlc.enc (r54)) rfl rfl) ?_
                    refine ro_val (d := (some 136)) rfl (.free rfl) rfl (q_move (v := .int .i64 (k_61)) rfl rfl) ?_
                    refine ro_val (d := (some 137)) rfl (.free rfl) rfl (q_build54_  rfl ) ?_
                    obtain ⟨a64, ha64, h⟩ := h
                    refine ro_val (d := (some 138)) rfl (.free rfl) rfl (q_indexAddr (s := r54) (i := k_61) rfl Try.underlying51 ok54 rfl rfl ha64) ?_
                    obtain ⟨w65, hw65, hrw65, h⟩ := st_open h
                    refine ro_skip (d := none) rfl (.free rfl) rfl (q_store (T := T53) (u := (⟨(0 : Int), false⟩ : S53)) (a := a64) rfl ok54 rfl rfl hrw65 hw65) ?_
                    refine ro_nil ?_
                    refine wp_text [0, 1, 2] rfl ?_
                    refine ro_val (d := (some 133)) rfl (.free rfl) rfl (q_move (v := .int .i64 (k_61)) rfl rfl) ?_
                    refine ro_val (d := (some 134)) rfl (.free rfl) rfl (q_add (a := k_61) (b := (1 : Int)) rfl rfl rfl) ?_
                    refine ro_val (d := (some 15)) rfl (.free rfl) rfl (q_assign (v := .int .i64 ((IntKind.i64.wrap (k_61 + (1 : Int))))) rfl rfl) ?_
                    refine ro_nil ?_
                    exact ⟨((IntKind.i64.wrap (k_61 + (1 : Int)))), _, arr (upd_step (upd_step (upd_step (upd_step (upd_step (upd_step rfl rfl) rfl) rfl) rfl) rfl) rfl), h⟩
                  · refine wp_exit ?_
                    refine seq_join (σ := Bool) (J := fun (s : Bool) w => F8_j8 i_8 s w K10 R) (fr := fun g (s : Bool) => upd (upd (upd (upd (upd (g) 0 (tSlc.enc (l_1))) 3 (.pointer (r3))) 4 (.pointer (r5))) 5 (.int .i64 (i_8))) 172 (.bool (s))) ?_ ?_
                    · rintro t_66 g w67 h
                      unfold F8_j8 at h
                      refine wp_if (b := t_66) rfl h (fun hb68 h => ?_) (fun hb68 h => ?_)
                      · refine wp_seq ?_
                        refine wp_text [0] rfl ?_
                        refine ro_val (d := (some 2)) rfl (.free rfl) rfl (q_assign (v := .bool (false)) rfl rfl) ?_
                        refine ro_nil ?_
                        refine wp_ret ?_
                        exact ret_ok rfl (.cons (.tmp (v := .bool (false)) rfl) .nil) ⟨false, rfl, h⟩
                      · refine wp_skip ?_
                        refine wp_text [0, 1, 2] rfl ?_
                        refine ro_val (d := (some 36)) rfl (.free rfl) rfl (q_move (v := .int .i64 (i_8)) rfl rfl) ?_
                        refine ro_val (d := (some 37)) rfl (.free rfl) rfl (q_add (a := i_8) (b := (1 : Int)) rfl rfl rfl) ?_
                        refine ro_val (d := (some 5)) rfl (.free rfl) rfl (q_assign (v := .int .i64 ((IntKind.i64.wrap (i_8 + (1 : Int))))) rfl rfl) ?_
                        refine ro_nil ?_
                        exact ⟨((IntKind.i64.wrap (i_8 + (1 : Int)))), _, arr (upd_step (upd_step (upd_step (upd_step rfl rfl) rfl) rfl) rfl), h⟩
                    · obtain ⟨w69, hw69, h⟩ := dr_open h
                      refine wp_drawn 34 mixed rfl (by kernel_rfl) (by intro c a d v w h; cases d <;> exact h) hw69 (fun hD => ?_)
                      refine rd_pure (i := 0) (d := (some 139)) hD (by kernel_rfl) (by kernel_rfl) rfl (.free rfl) rfl (fun _ => q_move (v := .pointer (r3)) rfl rfl) ?_
                      refine rd_pure (i := 1) (d := (some 140)) hD (by kernel_rfl) (by kernel_rfl) rfl (.free rfl) rfl (fun _ => q_move (v := tSlc.enc (l_1)) rfl rfl) ?_
                      refine rd_pure (i := 2) (d := (some 141)) hD (by kernel_rfl) (by kernel_rfl) rfl (.free rfl) rfl (fun _ => q_move (v := .int .i64 (i_8)) rfl rfl) ?_
                      obtain ⟨a70, ha70, h⟩ := h
                      refine rd_pure (i := 3) (d := (some 142)) hD (by kernel_rfl) (by kernel_rfl) rfl (.free rfl) rfl (fun _ => q_indexAddr (s := l_1) (i := i_8) rfl Try.underlying22 ok31 rfl rfl ha70) ?_
                      refine rd_pure (i := 4) (d := (some 143)) hD (by kernel_rfl) (by kernel_rfl) rfl (.free rfl) rfl (fun _ => q_fieldAddr (a := a70) (off := 2) rfl Try.underlying31 rfl rfl ok3 (by decide) rfl) ?_
                      refine rd_pure (i := 7) (d := (some 146)) hD (by kernel_rfl) (by kernel_rfl) rfl (.free rfl) rfl (fun _ => q_move (v := .pointer (r5)) rfl rfl) ?_
                      refine rd_pure (i := 8) (d := (some 147)) hD (by kernel_rfl) (by kernel_rfl) rfl (.free rfl) rfl (fun _ => q_move (v := tSlc.enc (l_1)) rfl rfl) ?_
                      refine rd_pure (i := 9) (d := (some 148)) hD (by kernel_rfl) (by kernel_rfl) rfl (.free rfl) rfl (fun _ => q_move (v := .int .i64 (i_8)) rfl rfl) ?_
                      obtain ⟨a71, ha71, h⟩ := h
                      refine rd_pure (i := 10) (d := (some 149)) hD (by kernel_rfl) (by kernel_rfl) rfl (.free rfl) rfl (fun _ => q_indexAddr (s := l_1) (i := i_8) rfl Try.underlying22 ok31 rfl rfl ha71) ?_
                      refine rd_pure (i := 11) (d := (some 150)) hD (by kernel_rfl) (by kernel_rfl) rfl (.free rfl) rfl (fun _ => q_fieldAddr (a := a71) (off := 2) rfl Try.underlying31 rfl rfl ok3 (by decide) rfl) ?_
                      obtain ⟨x72, hx72, h⟩ := h
                      refine rd_read (i := 5) (d := (some 144)) (fun W => (RdAt (tInt .i64) (a70.add 2) W) x72) hD (by kernel_rfl) (by kernel_rfl) rfl (.free rfl) rfl (fun W hr => q_load (T := (tInt .i64)) (u := x72) (a := (a70.add 2)) rfl ok3 rfl hr) hx72 ?_
                      obtain ⟨x73, hx73, h⟩ := h
                      refine rd_read (i := 12) (d := (some 151)) (fun W => (RdAt (tInt .i64) (a71.add 2) W) x73) hD (by kernel_rfl) (by kernel_rfl) rfl (.free rfl) rfl (fun W hr => q_load (T := (tInt .i64)) (u := x73) (a := (a71.add 2)) rfl ok3 rfl hr) hx73 ?_
                      refine rd_one (i := 6) (by kernel_rfl) ?_
                      refine po_wp rfl (.free rfl) (wp_cl (d := (some 145)) rfl (q_call (k := 21) (l := [.pointer (r3), .int .i64 (x72)]) rfl ent21 rfl) h ?_)
                      intro r75 w74 h
                      obtain ⟨hk76, h⟩ := h
                      refine ⟨(hk_keep (fun _ => hk76) (hk_wait (by kernel_rfl) hk_nil)), ?_⟩
                      refine rd_one (i := 13) (by kernel_rfl) ?_
                      refine po_wp rfl (.free rfl) (wp_cl (d := (some 152)) rfl (q_call (k := 21) (l := [.pointer (r5), .int .i64 (x73)]) rfl ent21 rfl) h ?_)
                      intro r78 w77 h
                      obtain ⟨hk79, h⟩ := h
                      refine ⟨(hk_wait (by kernel_rfl) (hk_keep (fun _ => hk79) hk_nil)), ?_⟩
                      refine rd_one (i := 14) (by kernel_rfl) ?_
                      refine po_wp rfl (.free rfl) (wp_cl (d := (some 153)) rfl (q_call (k := 23) (l := [tSlc.enc (r75), tSlc.enc (r78)]) rfl ent23 rfl) h ?_)
                      intro r81 w80 h
                      obtain ⟨hk82, h⟩ := h
                      obtain ⟨hk83, h⟩ := h
                      refine ⟨(hk_keep (fun _ => hk83) (hk_keep (fun _ => hk82) hk_nil)), ?_⟩
                      refine rd_pure (i := 15) (d := (some 154)) hD (by kernel_rfl) (by kernel_rfl) rfl (.free rfl) rfl (fun _ => q_not (b := r81) rfl rfl) ?_
                      refine rd_pure (i := 16) (d := (some 155)) hD (by kernel_rfl) (by kernel_rfl) rfl (.free rfl) rfl (fun _ => q_move (v := .bool ((!r81))) rfl rfl) ?_
                      refine ro_if (b := (!r81)) h (fun hb84 h => ?_) (fun hb84 h => ?_)
                      · refine rd_bar (i := 17) (d := (some 156)) hD (by kernel_rfl) (by kernel_rfl) rfl (.by_ 16 false 155 (!r81) rfl rfl rfl hb84) rfl ?_
                        refine rd_bar (i := 18) (d := (some 157)) hD (by kernel_rfl) (by kernel_rfl) rfl (.by_ 16 false 155 (!r81) rfl rfl rfl hb84) rfl ?_
                        refine rd_bar (i := 19) (d := (some 158)) hD (by kernel_rfl) (by kernel_rfl) rfl (.by_ 16 false 155 (!r81) rfl rfl rfl hb84) rfl ?_
                        refine rd_bar (i := 20) (d := (some 159)) hD (by kernel_rfl) (by kernel_rfl) rfl (.by_ 16 false 155 (!r81) rfl rfl rfl hb84) rfl ?_
                        refine rd_bar (i := 21) (d := (some 160)) hD (by kernel_rfl) (by kernel_rfl) rfl (.by_ 16 false 155 (!r81) rfl rfl rfl hb84) rfl ?_
                        refine rd_bar (i := 24) (d := (some 163)) hD (by kernel_rfl) (by kernel_rfl) rfl (.by_ 16 false 155 (!r81) rfl rfl rfl hb84) rfl ?_
                        refine rd_bar (i := 25) (d := (some 164)) hD (by kernel_rfl) (by kernel_rfl) rfl (.by_ 16 false 155 (!r81) rfl rfl rfl hb84) rfl ?_
                        refine rd_bar (i := 26) (d := (some 165)) hD (by kernel_rfl) (by kernel_rfl) rfl (.by_ 16 false 155 (!r81) rfl rfl rfl hb84) rfl ?_
                        refine rd_bar (i := 27) (d := (some 166)) hD (by kernel_rfl) (by kernel_rfl) rfl (.by_ 16 false 155 (!r81) rfl rfl rfl hb84) rfl ?_
                        refine rd_bar (i := 28) (d := (some 167)) hD (by kernel_rfl) (by kernel_rfl) rfl (.by_ 16 false 155 (!r81) rfl rfl rfl hb84) rfl ?_
                        refine rd_bar (i := 22) (d := (some 161)) hD (by kernel_rfl) (by kernel_rfl) rfl (.by_ 16 false 155 (!r81) rfl rfl rfl hb84) rfl ?_
                        refine rd_bar (i := 29) (d := (some 168)) hD (by kernel_rfl) (by kernel_rfl) rfl (.by_ 16 false 155 (!r81) rfl rfl rfl hb84) rfl ?_
                        refine rd_one (i := 23) (by kernel_rfl) ?_
                        refine po_bar (d := (some 162)) rfl (.by_ 16 false 155 (!r81) rfl rfl rfl hb84) rfl ⟨fun _ _ _ h => h, ?_⟩
                        refine rd_one (i := 30) (by kernel_rfl) ?_
                        refine po_bar (d := (some 169)) rfl (.by_ 16 false 155 (!r81) rfl rfl rfl hb84) rfl ⟨fun _ _ _ h => h, ?_⟩
                        refine rd_one (i := 31) (by kernel_rfl) ?_
                        refine po_bar (d := (some 170)) rfl (.by_ 16 false 155 (!r81) rfl rfl rfl hb84) rfl ⟨fun _ _ _ h => h, ?_⟩
                        refine rd_bar (i := 32) (d := (some 171)) hD (by kernel_rfl) (by kernel_rfl) rfl (.by_ 16 false 155 (!r81) rfl rfl rfl hb84) rfl ?_
                        refine rd_pure (i := 33) (d := (some 172)) hD (by kernel_rfl) (by kernel_rfl) rfl (.free rfl) rfl (fun _ => q_pickT (v := .bool (true)) (b := (!r81)) rfl rfl hb84 rfl) ?_
                        refine rd_nil (by kernel_rfl) ?_
                        exact ⟨(true), _, arr (upd_step (upd_step (upd_step (upd_step (upd_step rfl rfl) rfl) rfl) rfl) rfl), h⟩
                      · refine rd_pure (i := 17) (d := (some 156)) hD (by kernel_rfl) (by kernel_rfl) rfl (.by_ 16 false 155 (!r81) rfl rfl rfl hb84) rfl (fun _ => q_move (v := .pointer (r3)) rfl rfl) ?_
                        refine rd_pure (i := 18) (d := (some 157)) hD (by kernel_rfl) (by kernel_rfl) rfl (.by_ 16 false 155 (!r81) rfl rfl rfl hb84) rfl (fun _ => q_move (v := tSlc.enc (l_1)) rfl rfl) ?_
                        refine rd_pure (i := 19) (d := (some 158)) hD (by kernel_rfl) (by kernel_rfl) rfl (.by_ 16 false 155 (!r81) rfl rfl rfl hb84) rfl (fun _ => q_move (v := .int .i64 (i_8)) rfl rfl) ?_
                        obtain ⟨a85, ha85, h⟩ := h
                        refine rd_pure (i := 20) (d := (some 159)) hD (by kernel_rfl) (by kernel_rfl) rfl (.by_ 16 false 155 (!r81) rfl rfl rfl hb84) rfl (fun _ => q_indexAddr (s := l_1) (i := i_8) rfl Try.underlying22 ok31 rfl rfl ha85) ?_
                        refine rd_pure (i := 21) (d := (some 160)) hD (by kernel_rfl) (by kernel_rfl) rfl (.by_ 16 false 155 (!r81) rfl rfl rfl hb84) rfl (fun _ => q_fieldAddr (a := a85) (off := 2) rfl Try.underlying31 rfl rfl ok3 (by decide) rfl) ?_
                        refine rd_pure (i := 24) (d := (some 163)) hD (by kernel_rfl) (by kernel_rfl) rfl (.by_ 16 false 155 (!r81) rfl rfl rfl hb84) rfl (fun _ => q_move (v := .pointer (r5)) rfl rfl) ?_
                        refine rd_pure (i := 25) (d := (some 164)) hD (by kernel_rfl) (by kernel_rfl) rfl (.by_ 16 false 155 (!r81) rfl rfl rfl hb84) rfl (fun _ => q_move (v := tSlc.enc (l_1)) rfl rfl) ?_
                        refine rd_pure (i := 26) (d := (some 165)) hD (by kernel_rfl) (by kernel_rfl) rfl (.by_ 16 false 155 (!r81) rfl rfl rfl hb84) rfl (fun _ => q_move (v := .int .i64 (i_8)) rfl rfl) ?_
                        obtain ⟨a86, ha86, h⟩ := h
                        refine rd_pure (i := 27) (d := (some 166)) hD (by kernel_rfl) (by kernel_rfl) rfl (.by_ 16 false 155 (!r81) rfl rfl rfl hb84) rfl (fun _ => q_indexAddr (s := l_1) (i := i_8) rfl Try.underlying22 ok31 rfl rfl ha86) ?_
                        refine rd_pure (i := 28) (d := (some 167)) hD (by kernel_rfl) (by kernel_rfl) rfl (.by_ 16 false 155 (!r81) rfl rfl rfl hb84) rfl (fun _ => q_fieldAddr (a := a86) (off := 2) rfl Try.underlying31 rfl rfl ok3 (by decide) rfl) ?_
                        obtain ⟨x87, hx87, h⟩ := h
                        refine rd_read (i := 22) (d := (some 161)) (fun W => (RdAt (tInt .i64) (a85.add 2) W) x87) hD (by kernel_rfl) (by kernel_rfl) rfl (.by_ 16 false 155 (!r81) rfl rfl rfl hb84) rfl (fun W hr => q_load (T := (tInt .i64)) (u := x87) (a := (a85.add 2)) rfl ok3 rfl hr) hx87 ?_
                        obtain ⟨x88, hx88, h⟩ := h
                        refine rd_read (i := 29) (d := (some 168)) (fun W => (RdAt (tInt .i64) (a86.add 2) W) x88) hD (by kernel_rfl) (by kernel_rfl) rfl (.by_ 16 false 155 (!r81) rfl rfl rfl hb84) rfl (fun W hr => q_load (T := (tInt .i64)) (u := x88) (a := (a86.add 2)) rfl ok3 rfl hr) hx88 ?_
                        refine rd_one (i := 23) (by kernel_rfl) ?_
                        refine po_wp rfl (.by_ 16 false 155 (!r81) rfl rfl rfl hb84) (wp_cl (d := (some 162)) rfl (q_call (k := 22) (l := [.pointer (r3), .int .i64 (x87)]) rfl ent22 rfl) h ?_)
                        intro r90 w89 h
                        obtain ⟨hk91, h⟩ := h
                        obtain ⟨hk92, h⟩ := h
                        obtain ⟨hk93, h⟩ := h
                        refine ⟨(hk_keep (fun _ => hk93) (hk_wait (by kernel_rfl) (hk_keep (fun _ => hk92) (hk_keep (fun _ => hk91) hk_nil)))), ?_⟩
                        refine rd_one (i := 30) (by kernel_rfl) ?_
                        refine po_wp rfl (.by_ 16 false 155 (!r81) rfl rfl rfl hb84) (wp_cl (d := (some 169)) rfl (q_call (k := 22) (l := [.pointer (r5), .int .i64 (x88)]) rfl ent22 rfl) h ?_)
                        intro r95 w94 h
                        obtain ⟨hk96, h⟩ := h
                        obtain ⟨hk97, h⟩ := h
                        obtain ⟨hk98, h⟩ := h
                        refine ⟨(hk_wait (by kernel_rfl) (hk_keep (fun _ => hk98) (hk_keep (fun _ => hk97) (hk_keep (fun _ => hk96) hk_nil)))), ?_⟩
                        refine rd_one (i := 31) (by kernel_rfl) ?_
                        refine po_wp rfl (.by_ 16 false 155 (!r81) rfl rfl rfl hb84) (wp_cl (d := (some 170)) rfl (q_call (k := 23) (l := [tSlc.enc (r90), tSlc.enc (r95)]) rfl ent23 rfl) h ?_)
                        intro r100 w99 h
                        obtain ⟨hk101, h⟩ := h
                        obtain ⟨hk102, h⟩ := h
                        obtain ⟨hk103, h⟩ := h
                        obtain ⟨hk104, h⟩ := h
                        refine ⟨(hk_keep (fun _ => hk104) (hk_keep (fun _ => hk103) (hk_keep (fun _ => hk102) (hk_keep (fun _ => hk101) hk_nil)))), ?_⟩
                        refine rd_pure (i := 32) (d := (some 171)) hD (by kernel_rfl) (by kernel_rfl) rfl (.by_ 16 false 155 (!r81) rfl rfl rfl hb84) rfl (fun _ => q_not (b := r100) rfl rfl) ?_
                        refine rd_pure (i := 33) (d := (some 172)) hD (by kernel_rfl) (by kernel_rfl) rfl (.free rfl) rfl (fun _ => q_pickF (v := .bool ((!r100))) (b := (!r81)) rfl rfl hb84 rfl) ?_
                        refine rd_nil (by kernel_rfl) ?_
                        exact ⟨((!r100)), _, arr (upd_step (upd_step (upd_step (upd_step (upd_step rfl rfl) rfl) rfl) rfl) rfl), h⟩
        · refine ro_if (b := t_27) h (fun hb110 h => ?_) (fun hb110 h => ?_)
          · refine ro_bar (d := (some 75)) rfl (.by_ 18 false 74 t_27 rfl rfl rfl hb110) rfl ?_
            refine ro_bar (d := (some 76)) rfl (.by_ 18 false 74 t_27 rfl rfl rfl hb110) rfl ?_
            refine ro_bar (d := (some 77)) rfl (.by_ 18 false 74 t_27 rfl rfl rfl hb110) rfl ?_
            refine ro_bar (d := (some 78)) rfl (.by_ 18 false 74 t_27 rfl rfl rfl hb110) rfl ?_
            refine ro_bar (d := (some 79)) rfl (.by_ 18 false 74 t_27 rfl rfl rfl hb110) rfl ?_
            refine ro_bar (d := (some 80)) rfl (.by_ 18 false 74 t_27 rfl rfl rfl hb110) rfl ?_
            refine ro_val (d := (some 81)) rfl (.free rfl) rfl (q_pickT (v := .bool (true)) (b := t_27) rfl rfl hb110 rfl) ?_
            refine ro_nil ?_
            exact ⟨(true), _, arr (upd_step (upd_step (upd_step (upd_step (upd_step (upd_step rfl rfl) rfl) rfl) rfl) rfl) rfl), h⟩
          · refine ro_val (d := (some 75)) rfl (.by_ 18 false 74 t_27 rfl rfl rfl hb110) rfl (q_fieldAddr (a := a15) (off := 2) rfl Try.underlying34 rfl rfl ok32 (by decide) rfl) ?_
            obtain ⟨x111, hx111, h⟩ := h
            refine ro_val (d := (some 76)) rfl (.by_ 18 false 74 t_27 rfl rfl rfl hb110) rfl (q_load (T := tSlc) (u := x111) (a := (a15.add 2)) rfl ok32 rfl hx111) ?_
            refine ro_val (d := (some 77)) rfl (.by_ 18 false 74 t_27 rfl rfl rfl hb110) rfl (q_fieldAddr (a := a22) (off := 2) rfl Try.underlying34 rfl rfl ok32 (by decide) rfl) ?_
            obtain ⟨x112, hx112, h⟩ := h
            refine ro_val (d := (some 78)) rfl (.by_ 18 false 74 t_27 rfl rfl rfl hb110) rfl (q_load (T := tSlc) (u := x112) (a := (a22.add 2)) rfl ok32 rfl hx112) ?_
            refine ro_wp rfl (.by_ 18 false 74 t_27 rfl rfl rfl hb110) (wp_cl (d := (some 79)) rfl (q_call (k := 14) (l := [tSlc.enc (x111), tSlc.enc (x112)]) rfl ent14 rfl) h ?_)
            intro r114 w113 h
            refine ro_val (d := (some 80)) rfl (.by_ 18 false 74 t_27 rfl rfl rfl hb110) rfl (q_not (b := r114) rfl rfl) ?_
            refine ro_val (d := (some 81)) rfl (.free rfl) rfl (q_pickF (v := .bool ((!r114))) (b := t_27) rfl rfl hb110 rfl) ?_
            refine ro_nil ?_
            exact ⟨((!r114)), _, arr (upd_step (upd_step (upd_step (upd_step (upd_step (upd_step rfl rfl) rfl) rfl) rfl) rfl) rfl), h⟩
      · refine ro_if (b := ((r14.2 != r21.2) || (!(x25 == x26)))) h (fun hb115 h => ?_) (fun hb115 h => ?_)
        · refine ro_bar (d := (some 67)) rfl (.by_ 10 false 66 ((r14.2 != r21.2) || (!(x25 == x26))) rfl rfl rfl hb115) rfl ?_
          refine ro_bar (d := (some 68)) rfl (.by_ 10 false 66 ((r14.2 != r21.2) || (!(x25 == x26))) rfl rfl rfl hb115) rfl ?_
          refine ro_bar (d := (some 69)) rfl (.by_ 10 false 66 ((r14.2 != r21.2) || (!(x25 == x26))) rfl rfl rfl hb115) rfl ?_
          refine ro_bar (d := (some 70)) rfl (.by_ 10 false 66 ((r14.2 != r21.2) || (!(x25 == x26))) rfl rfl rfl hb115) rfl ?_
          refine ro_bar (d := (some 71)) rfl (.by_ 10 false 66 ((r14.2 != r21.2) || (!(x25 == x26))) rfl rfl rfl hb115) rfl ?_
          refine ro_bar (d := (some 72)) rfl (.by_ 10 false 66 ((r14.2 != r21.2) || (!(x25 == x26))) rfl rfl rfl hb115) rfl ?_
          refine ro_val (d := (some 73)) rfl (.free rfl) rfl (q_pickT (v := .bool (true)) (b := ((r14.2 != r21.2) || (!(x25 == x26)))) rfl rfl hb115 rfl) ?_
          refine ro_nil ?_
          exact ⟨(true), _, arr (upd_step (upd_step (upd_step (upd_step (upd_step (upd_step (upd_step rfl rfl) rfl) rfl) rfl) rfl) rfl) rfl), h⟩
        · refine ro_val (d := (some 67)) rfl (.by_ 10 false 66 ((r14.2 != r21.2) || (!(x25 == x26))) rfl rfl rfl hb115) rfl (q_fieldAddr (a := a15) (off := 1) rfl Try.underlying34 rfl rfl ok26 (by decide) rfl) ?_
          obtain ⟨x116, hx116, h⟩ := h
          refine ro_val (d := (some 68)) rfl (.by_ 10 false 66 ((r14.2 != r21.2) || (!(x25 == x26))) rfl rfl rfl hb115) rfl (q_load (T := tSlc) (u := x116) (a := (a15.add 1)) rfl ok26 rfl hx116) ?_
          refine ro_val (d := (some 69)) rfl (.by_ 10 false 66 ((r14.2 != r21.2) || (!(x25 == x26))) rfl rfl rfl hb115) rfl (q_fieldAddr (a := a22) (off := 1) rfl Try.underlying34 rfl rfl ok26 (by decide) rfl) ?_
          obtain ⟨x117, hx117, h⟩ := h
          refine ro_val (d := (some 70)) rfl (.by_ 10 false 66 ((r14.2 != r21.2) || (!(x25 == x26))) rfl rfl rfl hb115) rfl (q_load (T := tSlc) (u := x117) (a := (a22.add 1)) rfl ok26 rfl hx117) ?_
          refine ro_wp rfl (.by_ 10 false 66 ((r14.2 != r21.2) || (!(x25 == x26))) rfl rfl rfl hb115) (wp_cl (d := (some 71)) rfl (q_call (k := 13) (l := [tSlc.enc (x116), tSlc.enc (x117)]) rfl ent13 rfl) h ?_)
          intro r119 w118 h
          refine ro_val (d := (some 72)) rfl (.by_ 10 false 66 ((r14.2 != r21.2) || (!(x25 == x26))) rfl rfl rfl hb115) rfl (q_not (b := r119) rfl rfl) ?_
          refine ro_val (d := (some 73)) rfl (.free rfl) rfl (q_pickF (v := .bool ((!r119))) (b := ((r14.2 != r21.2) || (!(x25 == x26)))) rfl rfl hb115 rfl) ?_
          refine ro_nil ?_
          exact ⟨((!r119)), _, arr (upd_step (upd_step (upd_step (upd_step (upd_step (upd_step (upd_step rfl rfl) rfl) rfl) rfl) rfl) rfl) rfl), h⟩
    · refine wp_exit ?_
      refine wp_seq ?_
      refine wp_text [0] rfl ?_
      refine ro_val (d := (some 2)) rfl (.free rfl) rfl (q_assign (v := .bool (true)) rfl rfl) ?_
      refine ro_nil ?_
      refine wp_ret ?_
      exact ret_ok rfl (.cons (.tmp (v := .bool (true)) rfl) .nil) ⟨true, rfl, h⟩

-- moiety/locks.New
def F9 (w : World) (R : (Option Addr) → World → Prop) : Prop :=
  nwMap w fun m2 w1 =>
  nwMap w1 fun m4 w3 =>
  nwMap w3 fun m6 w5 =>
  nw 62 T61 (⟨(some m2), (some m4), (some m6)⟩ : S61) w5 fun a7 w8 =>
  R (some a7) w8
theorem F9_ok {w : World} {R : (Option Addr) → World → Prop} (h : F9 w R) : cl Try.prog 9 [] tPtr w R := by
  unfold F9 at h
  refine calls_start 6 Try.func9 rfl rfl (Nat.le_of_ble_eq_true rfl) ?_
  refine wp_seq ?_
  refine wp_text [0] rfl ?_
  refine ro_val (d := (some 0)) rfl (.free rfl) rfl (q_assign (v := .pointer ((none : Option Addr))) rfl rfl) ?_
  refine ro_nil ?_
  refine wp_seq ?_
  refine wp_text [0, 1, 2, 3, 4, 5] rfl ?_
  obtain ⟨m2, w1, hm2, hw1, h⟩ := nwMap_open h
  refine ro_val (d := (some 1)) rfl (.free rfl) rfl (q_makeMap rfl hm2 hw1) ?_
  obtain ⟨m4, w3, hm4, hw3, h⟩ := nwMap_open h
  refine ro_val (d := (some 2)) rfl (.free rfl) rfl (q_makeMap rfl hm4 hw3) ?_
  obtain ⟨m6, w5, hm6, hw5, h⟩ := nwMap_open h
  refine ro_val (d := (some 3)) rfl (.free rfl) rfl (q_makeMap rfl hm6 hw5) ?_
  refine ro_val (d := (some 4)) rfl (.free rfl) rfl (q_build62_0_1_2 (v0 := (some m2)) (v1 := (some m4)) (v2 := (some m6)) rfl rfl rfl rfl) ?_
  obtain ⟨a7, w8, ha7, hw8, h⟩ := nw_open h
  refine ro_val (d := (some 5)) rfl (.free rfl) rfl (q_box (u := (⟨(some m2), (some m4), (some m6)⟩ : S61)) rfl ok62 rfl ha7 hw8) ?_
  refine ro_val (d := (some 0)) rfl (.free rfl) rfl (q_assign (v := .pointer (some a7)) rfl rfl) ?_
  refine ro_nil ?_
  refine wp_ret ?_
  exact ret_ok rfl (.cons (.tmp (v := .pointer ((some a7))) rfl) .nil) ⟨(some a7), rfl, h⟩

end Go.Proofs.Ytojcgejjdfcaaaa.Cf
