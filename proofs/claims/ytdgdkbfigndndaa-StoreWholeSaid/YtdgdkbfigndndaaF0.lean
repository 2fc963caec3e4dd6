/- Characteristic formulae of Go functions, and that they are. Printed by gen.py (own tool). -/
import Derived.Test.YtdgdkbfigndndaaTy
namespace Go.Proofs.Ytdgdkbfigndndaa.Cf
open Go
set_option maxRecDepth 100000
set_option maxHeartbeats 1000000
set_option linter.unusedVariables false
set_option linter.unusedSimpArgs false

-- moiety/moietylaw12.StorePlays
def F3_j4 (i_9 : Int) (t_27 : Bool) (w28 : World) (K11 : Int → World → Prop) (R : Bool → World → Prop) : Prop :=
  if t_27 = true then (
    R false w28
  ) else (
    K11 ((IntKind.i64.wrap (i_9 + (1 : Int)))) w28
  )
def F3_j3 (r3 : (Option Addr)) (a4 : Addr) (i_9 : Int) (ok_13 : Bool) (r20 : (S35 × Bool)) (a21 : Addr) (y_24 : Addr) (is_25 : Bool) (w26 : World) (K11 : Int → World → Prop) (R : Bool → World → Prop) : Prop :=
  dr w26 fun w30 =>
  if (!ok_13) = true then (
    if true = true then (
      F3_j4 i_9 true w30 K11 R
    ) else (
      ex (RdAt (tInt .i64) (a4.add 2) w30) fun x33 =>
      cl Try.prog 16 [.pointer (r3)] (tInt .i64) w30 fun r35 w34 =>
      kp ((RdAt (tInt .i64) (a4.add 2) w34) x33) <|
      if (r35 != x33) = true then (
        ex (RdAt T35 a21 w34) fun x38 =>
        ex (RdAt T35 y_24 w34) fun x39 =>
        F3_j4 i_9 ((!(S35.eqb x38 x39)) || (!(r20.2 == is_25))) w34 K11 R
      ) else (
        ex (RdAt tSlc (a4.add 0) w34) fun x40 =>
        cl Try.prog 17 [.pointer (r3)] (tInt .i64) w34 fun r42 w41 =>
        kp ((RdAt (tInt .i64) (a4.add 2) w41) x33) <|
        kp ((RdAt tSlc (a4.add 0) w41) x40) <|
        ex (fun x => (!(r42 != (x40.len : Int))) = true → (RdAt T35 a21 w41) x) fun x45 =>
        ex (fun x => (!(r42 != (x40.len : Int))) = true → (RdAt T35 y_24 w41) x) fun x46 =>
        F3_j4 i_9 (((r42 != (x40.len : Int)) || (!(S35.eqb x45 x46))) || (!(r20.2 == is_25))) w41 K11 R
      )
    )
  ) else (
    ex (RdAt (tInt .i64) (a4.add 1) w30) fun x47 =>
    cl Try.prog 15 [.pointer (r3)] (tInt .i64) w30 fun r49 w48 =>
    kp ((RdAt (tInt .i64) (a4.add 1) w48) x47) <|
    if (r49 != x47) = true then (
      if true = true then (
        F3_j4 i_9 true w48 K11 R
      ) else (
        ex (RdAt tSlc (a4.add 0) w48) fun x53 =>
        cl Try.prog 17 [.pointer (r3)] (tInt .i64) w48 fun r55 w54 =>
        kp ((RdAt (tInt .i64) (a4.add 1) w54) x47) <|
        kp ((RdAt tSlc (a4.add 0) w54) x53) <|
        ex (fun x => (!(r55 != (x53.len : Int))) = true → (RdAt T35 a21 w54) x) fun x58 =>
        ex (fun x => (!(r55 != (x53.len : Int))) = true → (RdAt T35 y_24 w54) x) fun x59 =>
        F3_j4 i_9 (((r55 != (x53.len : Int)) || (!(S35.eqb x58 x59))) || (!(r20.2 == is_25))) w54 K11 R
      )
    ) else (
      ex (RdAt (tInt .i64) (a4.add 2) w48) fun x60 =>
      cl Try.prog 16 [.pointer (r3)] (tInt .i64) w48 fun r62 w61 =>
      kp ((RdAt (tInt .i64) (a4.add 1) w61) x47) <|
      kp ((RdAt (tInt .i64) (a4.add 2) w61) x60) <|
      if (r62 != x60) = true then (
        ex (fun x => (!true) = true → (RdAt T35 a21 w61) x) fun x66 =>
        ex (fun x => (!true) = true → (RdAt T35 y_24 w61) x) fun x67 =>
        F3_j4 i_9 ((true || (!(S35.eqb x66 x67))) || (!(r20.2 == is_25))) w61 K11 R
      ) else (
        ex (RdAt tSlc (a4.add 0) w61) fun x68 =>
        cl Try.prog 17 [.pointer (r3)] (tInt .i64) w61 fun r70 w69 =>
        kp ((RdAt (tInt .i64) (a4.add 1) w69) x47) <|
        kp ((RdAt (tInt .i64) (a4.add 2) w69) x60) <|
        kp ((RdAt tSlc (a4.add 0) w69) x68) <|
        ex (fun x => (!(r70 != (x68.len : Int))) = true → (RdAt T35 a21 w69) x) fun x74 =>
        ex (fun x => (!(r70 != (x68.len : Int))) = true → (RdAt T35 y_24 w69) x) fun x75 =>
        F3_j4 i_9 (((r70 != (x68.len : Int)) || (!(S35.eqb x74 x75))) || (!(r20.2 == is_25))) w69 K11 R
      )
    )
  )
def F3_j2 (l_1 : Slc) (r3 : (Option Addr)) (a4 : Addr) (i_9 : Int) (n_12 : Addr) (ok_13 : Bool) (w14 : World) (K11 : Int → World → Prop) (R : Bool → World → Prop) : Prop :=
  ex (RdAt T26 n_12 w14) fun x15 =>
  st T26 a4 x15 w14 fun w16 =>
  ex (IxA l_1 4 i_9) fun a17 =>
  ex (RdAt (tInt .i64) (a17.add 1) w16) fun x18 =>
  cl Try.prog 13 [.pointer (r3), .int .i64 (x18)] (tTup2 T35 tBool) w16 fun r20 w19 =>
  nw 36 T35 Z35 w19 fun a21 w22 =>
  st T35 a21 r20.1 w22 fun w23 =>
  dr w23 fun w76 =>
  ex (IxA l_1 4 i_9) fun a77 =>
  ex (RdAt T26 a4 w76) fun x78 =>
  ex (RdAt (tInt .i64) (a77.add 1) w76) fun x79 =>
  bth (
    cl Try.prog 14 [T26.enc (x78), .int .i64 (x79)] (tTup2 T35 tBool) w76 fun r81 w80 =>
    nw 36 T35 Z35 w80 fun a82 w83 =>
    st T35 a82 r81.1 w83 fun w84 =>
    F3_j3 r3 a4 i_9 ok_13 r20 a21 a82 r81.2 w84 K11 R
  ) (
    nw 36 T35 Z35 w76 fun a85 w86 =>
    cl Try.prog 14 [T26.enc (x78), .int .i64 (x79)] (tTup2 T35 tBool) w86 fun r88 w87 =>
    st T35 a85 r88.1 w87 fun w89 =>
    F3_j3 r3 a4 i_9 ok_13 r20 a21 a85 r88.2 w89 K11 R
  )
def F3_j5 (t_125 : Bool) (w126 : World) (R : Bool → World → Prop) : Prop :=
  R t_125 w126
def F3_l1 (l_1 : Slc) (r3 : (Option Addr)) (a4 : Addr) (i_9 : Int) (w10 : World) (K11 : Int → World → Prop) (R : Bool → World → Prop) : Prop :=
  if ((decide (i_9 < (l_1.len : Int))) && (decide (i_9 < (30 : Int)))) = true then (
    dr w10 fun w90 =>
    ex (IxA l_1 4 i_9) fun a91 =>
    ex (RdAt T26 a4 w90) fun x92 =>
    ex (RdAt T32 a91 w90) fun x93 =>
    bth (
      cl Try.prog 12 [T32.enc (x93)] T32 w90 fun r95 w94 =>
      kp ((RdAt T26 a4 w94) x92) <|
      bth (
        cl Try.prog 11 [.pointer (r3), T26.enc (x92), T32.enc (r95)] (tTup2 T26 tBool) w94 fun r98 w97 =>
        kp ((RdAt T32 a91 w97) x93) <|
        nw 27 T26 Z26 w97 fun a100 w101 =>
        st T26 a100 r98.1 w101 fun w102 =>
        F3_j2 l_1 r3 a4 i_9 a100 r98.2 w102 K11 R
      ) (
        nw 27 T26 Z26 w94 fun a103 w104 =>
        cl Try.prog 11 [.pointer (r3), T26.enc (x92), T32.enc (r95)] (tTup2 T26 tBool) w104 fun r106 w105 =>
        kp ((RdAt T32 a91 w105) x93) <|
        st T26 a103 r106.1 w105 fun w108 =>
        F3_j2 l_1 r3 a4 i_9 a103 r106.2 w108 K11 R
      )
    ) (
      nw 27 T26 Z26 w90 fun a109 w110 =>
      cl Try.prog 12 [T32.enc (x93)] T32 w110 fun r112 w111 =>
      kp ((RdAt T26 a4 w111) x92) <|
      cl Try.prog 11 [.pointer (r3), T26.enc (x92), T32.enc (r112)] (tTup2 T26 tBool) w111 fun r115 w114 =>
      kp ((RdAt T32 a91 w114) x93) <|
      st T26 a109 r115.1 w114 fun w117 =>
      F3_j2 l_1 r3 a4 i_9 a109 r115.2 w117 K11 R
    )
  ) else (
    ex (RdAt (tInt .i64) (a4.add 1) w10) fun x118 =>
    cl Try.prog 18 [.pointer (r3), .int .i64 (x118)] (tTup2 tSlc (tInt .i64)) w10 fun r120 w119 =>
    ex (RdAt T26 a4 w119) fun x121 =>
    ex (RdAt (tInt .i64) (a4.add 1) w119) fun x122 =>
    cl Try.prog 19 [T26.enc (x121), .int .i64 (x122)] (tTup2 tSlc (tInt .i64)) w119 fun r124 w123 =>
    if (r120.2 == r124.2) = true then (
      cl Try.prog 20 [tSlc.enc (r120.1), tSlc.enc (r124.1)] tBool w123 fun r129 w128 =>
      F3_j5 r129 w128 R
    ) else (
      F3_j5 false w123 R
    )
  )
def F3 (l_1 : Slc) (w : World) (R : Bool → World → Prop) : Prop :=
  cl Try.prog 9 [] tPtr w fun r3 w2 =>
  nw 27 T26 Z26 w2 fun a4 w5 =>
  st T26 a4 (⟨(⟨none, 0, 0⟩ : Slc), (0 : Int), (0 : Int)⟩ : S26) w5 fun w6 =>
  cl Try.prog 10 [] tBool w6 fun r8 w7 =>
  if ((!r8) || r3.isNone) = true then (
    R false w7
  ) else (
    lp (fun (s : Int) w K => F3_l1 l_1 r3 a4 s w K R) ((0 : Int)) w7
  )
theorem F3_ok {l_1 : Slc} {w : World} {R : Bool → World → Prop} (h : F3 l_1 w R) : cl Try.prog 3 [tSlc.enc (l_1)] tBool w R := by
  unfold F3 at h
  refine calls_start 122 Try.func3 rfl rfl (Nat.le_of_ble_eq_true rfl) ?_
  refine wp_seq ?_
  refine wp_text [0] rfl ?_
  refine ro_val (d := (some 2)) rfl (.free rfl) rfl (q_assign (v := .bool (false)) rfl rfl) ?_
  refine ro_nil ?_
  refine wp_seq ?_
  refine wp_text [0, 1] rfl ?_
  refine ro_wp rfl (.free rfl) (wp_cl (d := (some 16)) rfl (q_call (k := 9) (l := []) rfl ent9 rfl) h ?_)
  intro r3 w2 h
  refine ro_val (d := (some 3)) rfl (.free rfl) rfl (q_assign (v := .pointer (r3)) rfl rfl) ?_
  refine ro_nil ?_
  refine wp_seq ?_
  refine wp_text [0, 1, 2] rfl ?_
  refine ro_val (d := (some 17)) rfl (.free rfl) rfl (q_build27_  rfl ) ?_
  obtain ⟨a4, w5, ha4, hw5, h⟩ := nw_open h
  refine ro_val (d := (some 4)) rfl (.free rfl) rfl (q_alloc (u := Z26) rfl ok27 inf27 ha4 hw5) ?_
  obtain ⟨w6, hw6, hrw6, h⟩ := st_open h
  refine ro_skip (d := none) rfl (.free rfl) rfl (q_store (T := T26) (u := (⟨(⟨none, 0, 0⟩ : Slc), (0 : Int), (0 : Int)⟩ : S26)) (a := a4) rfl ok27 rfl rfl hrw6 hw6) ?_
  refine ro_nil ?_
  refine wp_seq ?_
  refine wp_seq ?_
  refine wp_text [0, 1, 2, 3, 4, 5] rfl ?_
  refine ro_wp rfl (.free rfl) (wp_cl (d := (some 18)) rfl (q_call (k := 10) (l := []) rfl ent10 rfl) h ?_)
  intro r8 w7 h
  refine ro_val (d := (some 19)) rfl (.free rfl) rfl (q_not (b := r8) rfl rfl) ?_
  refine ro_val (d := (some 20)) rfl (.free rfl) rfl (q_move (v := .bool ((!r8))) rfl rfl) ?_
  refine ro_gval (g := (!(!r8))) (d := (some 21)) rfl (.no 2 20 true (!r8) rfl rfl rfl rfl) rfl (fun hg => q_move (v := .pointer (r3)) rfl rfl) ?_
  refine ro_gval (g := (!(!r8))) (d := (some 22)) rfl (.no 2 20 true (!r8) rfl rfl rfl rfl) rfl (fun hg => q_eqP0 (a := r3) rfl Try.underlying23 (gvb_yes hg) rfl) ?_
  refine ro_val (d := (some 23)) rfl (.free rfl) rfl (q_pickGF (a := (!r8)) (c := r3.isNone) rfl rfl rfl rfl) ?_
  refine ro_nil ?_
  refine wp_if (b := ((!r8) || r3.isNone)) rfl h (fun hb131 h => ?_) (fun hb131 h => ?_)
  · refine wp_seq ?_
    refine wp_text [0] rfl ?_
    refine ro_val (d := (some 2)) rfl (.free rfl) rfl (q_assign (v := .bool (false)) rfl rfl) ?_
    refine ro_nil ?_
    refine wp_ret ?_
    exact ret_ok rfl (.cons (.tmp (v := .bool (false)) rfl) .nil) ⟨false, rfl, h⟩
  · refine wp_skip ?_
    refine wp_seq ?_
    refine wp_seq ?_
    refine wp_text [0] rfl ?_
    refine ro_val (d := (some 5)) rfl (.free rfl) rfl (q_assign (v := .int .i64 ((0 : Int))) rfl rfl) ?_
    refine ro_nil ?_
    refine wp_block ?_
    refine loop_at (σ := Int) (fr := fun g (s : Int) => upd (upd (upd (upd (g) 0 (tSlc.enc (l_1))) 3 (.pointer (r3))) 4 (.pointer (some a4))) 5 (.int .i64 (s))) (s0 := ((0 : Int))) (upd_step (upd_step (upd_step (upd_step rfl rfl) rfl) rfl) rfl) h ?_
    rintro i_9 g w10 K11 h
    unfold F3_l1 at h
    refine wp_seq ?_
    refine wp_seq ?_
    refine wp_text [0, 1, 2, 3, 4, 5, 6, 7] rfl ?_
    refine ro_val (d := (some 24)) rfl (.free rfl) rfl (q_move (v := .int .i64 (i_9)) rfl rfl) ?_
    refine ro_val (d := (some 25)) rfl (.free rfl) rfl (q_move (v := tSlc.enc (l_1)) rfl rfl) ?_
    refine ro_val (d := (some 26)) rfl (.free rfl) rfl (q_len (s := l_1) rfl Try.underlying22 rfl) ?_
    refine ro_val (d := (some 27)) rfl (.free rfl) rfl (q_lss (a := i_9) (b := (l_1.len : Int)) rfl rfl rfl) ?_
    refine ro_val (d := (some 28)) rfl (.free rfl) rfl (q_move (v := .bool ((decide (i_9 < (l_1.len : Int))))) rfl rfl) ?_
    refine ro_gval (g := (decide (i_9 < (l_1.len : Int)))) (d := (some 29)) rfl (.yes 4 28 true (decide (i_9 < (l_1.len : Int))) rfl rfl rfl rfl) rfl (fun hg => q_move (v := .int .i64 (i_9)) rfl rfl) ?_
    refine ro_gval (g := (decide (i_9 < (l_1.len : Int)))) (d := (some 30)) rfl (.yes 4 28 true (decide (i_9 < (l_1.len : Int))) rfl rfl rfl rfl) rfl (fun hg => q_lss (a := i_9) (b := (30 : Int)) rfl (gvb_yes hg) rfl) ?_
    refine ro_val (d := (some 31)) rfl (.free rfl) rfl (q_pickGT (a := (decide (i_9 < (l_1.len : Int)))) (b := (decide (i_9 < (30 : Int)))) rfl rfl rfl rfl) ?_
    refine ro_nil ?_
    refine wp_if (b := ((decide (i_9 < (l_1.len : Int))) && (decide (i_9 < (30 : Int))))) rfl h (fun hb130 h => ?_) (fun hb130 h => ?_)
    · refine wp_skip ?_
      refine wp_seq ?_
      refine wp_block ?_
      refine seq_join (σ := Addr × Bool) (J := fun (s : Addr × Bool) w => F3_j2 l_1 r3 a4 i_9 s.1 s.2 w K11 R) (fr := fun g (s : Addr × Bool) => upd (upd (upd (upd (upd (upd (g) 0 (tSlc.enc (l_1))) 3 (.pointer (r3))) 4 (.pointer (some a4))) 5 (.int .i64 (i_9))) 6 (.pointer (some s.1))) 7 (.bool (s.2))) ?_ ?_
      · rintro ⟨n_12, ok_13⟩ g w14 h
        unfold F3_j2 at h
        refine wp_seq ?_
        refine wp_text [0, 1] rfl ?_
        obtain ⟨x15, hx15, h⟩ := h
        refine ro_val (d := (some 45)) rfl (.free rfl) rfl (q_load (T := T26) (u := x15) (a := n_12) rfl ok27 rfl hx15) ?_
        obtain ⟨w16, hw16, hrw16, h⟩ := st_open h
        refine ro_skip (d := none) rfl (.free rfl) rfl (q_store (T := T26) (u := x15) (a := a4) rfl ok27 rfl rfl hrw16 hw16) ?_
        refine ro_nil ?_
        refine wp_seq ?_
        refine wp_text [0, 1, 2, 3, 4, 5, 6, 7, 8, 9, 10, 11, 12] rfl ?_
        refine ro_val (d := (some 47)) rfl (.free rfl) rfl (q_move (v := .pointer (r3)) rfl rfl) ?_
        refine ro_val (d := (some 48)) rfl (.free rfl) rfl (q_move (v := tSlc.enc (l_1)) rfl rfl) ?_
        refine ro_val (d := (some 49)) rfl (.free rfl) rfl (q_move (v := .int .i64 (i_9)) rfl rfl) ?_
        obtain ⟨a17, ha17, h⟩ := h
        refine ro_val (d := (some 50)) rfl (.free rfl) rfl (q_indexAddr (s := l_1) (i := i_9) rfl Try.underlying22 ok33 rfl rfl ha17) ?_
        refine ro_val (d := (some 51)) rfl (.free rfl) rfl (q_fieldAddr (a := a17) (off := 1) rfl Try.underlying33 rfl rfl ok3 (by decide) rfl) ?_
        obtain ⟨x18, hx18, h⟩ := h
        refine ro_val (d := (some 52)) rfl (.free rfl) rfl (q_load (T := (tInt .i64)) (u := x18) (a := (a17.add 1)) rfl ok3 rfl hx18) ?_
        refine ro_wp rfl (.free rfl) (wp_cl (d := (some 53)) rfl (q_call (k := 13) (l := [.pointer (r3), .int .i64 (x18)]) rfl ent13 rfl) h ?_)
        intro r20 w19 h
        refine ro_val (d := (some 46)) rfl (.free rfl) rfl (q_move (v := (tTup2 T35 tBool).enc (r20)) rfl rfl) ?_
        refine ro_val (d := (some 54)) rfl (.free rfl) rfl (q_extract (vs := #[T35.enc (r20.1), .bool (r20.2)]) (v := T35.enc (r20.1)) rfl rfl rfl) ?_
        refine ro_val (d := (some 55)) rfl (.free rfl) rfl (q_extract (vs := #[T35.enc (r20.1), .bool (r20.2)]) (v := .bool (r20.2)) rfl rfl rfl) ?_
        obtain ⟨a21, w22, ha21, hw22, h⟩ := nw_open h
        refine ro_val (d := (some 8)) rfl (.free rfl) rfl (q_alloc (u := Z35) rfl ok36 inf36 ha21 hw22) ?_
        obtain ⟨w23, hw23, hrw23, h⟩ := st_open h
        refine ro_skip (d := none) rfl (.free rfl) rfl (q_store (T := T35) (u := r20.1) (a := a21) rfl ok36 rfl rfl hrw23 hw23) ?_
        refine ro_val (d := (some 9)) rfl (.free rfl) rfl (q_assign (v := .bool (r20.2)) rfl rfl) ?_
        refine ro_nil ?_
        refine seq_join (σ := Addr × Bool) (J := fun (s : Addr × Bool) w => F3_j3 r3 a4 i_9 ok_13 r20 a21 s.1 s.2 w K11 R) (fr := fun g (s : Addr × Bool) => upd (upd (upd (upd (upd (upd (upd (upd (upd (g) 0 (tSlc.enc (l_1))) 3 (.pointer (r3))) 4 (.pointer (some a4))) 5 (.int .i64 (i_9))) 7 (.bool (ok_13))) 8 (.pointer (some a21))) 9 (.bool (r20.2))) 10 (.pointer (some s.1))) 11 (.bool (s.2))) ?_ ?_
        · rintro ⟨y_24, is_25⟩ g w26 h
          unfold F3_j3 at h
          refine seq_join (σ := Bool) (J := fun (s : Bool) w => F3_j4 i_9 s w K11 R) (fr := fun g (s : Bool) => upd (upd (upd (upd (upd (g) 0 (tSlc.enc (l_1))) 3 (.pointer (r3))) 4 (.pointer (some a4))) 5 (.int .i64 (i_9))) 99 (.bool (s))) ?_ ?_
          · rintro t_27 g w28 h
            unfold F3_j4 at h
            refine wp_if (b := t_27) rfl h (fun hb29 h => ?_) (fun hb29 h => ?_)
            · refine wp_seq ?_
              refine wp_text [0] rfl ?_
              refine ro_val (d := (some 2)) rfl (.free rfl) rfl (q_assign (v := .bool (false)) rfl rfl) ?_
              refine ro_nil ?_
              refine wp_ret ?_
              exact ret_ok rfl (.cons (.tmp (v := .bool (false)) rfl) .nil) ⟨false, rfl, h⟩
            · refine wp_skip ?_
              refine wp_text [0, 1, 2] rfl ?_
              refine ro_val (d := (some 32)) rfl (.free rfl) rfl (q_move (v := .int .i64 (i_9)) rfl rfl) ?_
              refine ro_val (d := (some 33)) rfl (.free rfl) rfl (q_add (a := i_9) (b := (1 : Int)) rfl rfl rfl) ?_
              refine ro_val (d := (some 5)) rfl (.free rfl) rfl (q_assign (v := .int .i64 ((IntKind.i64.wrap (i_9 + (1 : Int))))) rfl rfl) ?_
              refine ro_nil ?_
              exact ⟨((IntKind.i64.wrap (i_9 + (1 : Int)))), _, arr (upd_step (upd_step (upd_step (upd_step rfl rfl) rfl) rfl) rfl), h⟩
          · obtain ⟨w30, hw30, h⟩ := dr_open h
            refine wp_drawn 34 mixed rfl (by kernel_rfl) (by intro c a d v w h; cases d <;> exact h) hw30 (fun hD => ?_)
            refine rd_pure (i := 0) (d := (some 66)) hD (by kernel_rfl) (by kernel_rfl) rfl (.free rfl) rfl (fun _ => q_move (v := .bool (ok_13)) rfl rfl) ?_
            refine rd_pure (i := 1) (d := (some 67)) hD (by kernel_rfl) (by kernel_rfl) rfl (.free rfl) rfl (fun _ => q_not (b := ok_13) rfl rfl) ?_
            refine rd_pure (i := 2) (d := (some 68)) hD (by kernel_rfl) (by kernel_rfl) rfl (.free rfl) rfl (fun _ => q_move (v := .bool ((!ok_13))) rfl rfl) ?_
            refine ro_if (b := (!ok_13)) h (fun hb31 h => ?_) (fun hb31 h => ?_)
            · refine rd_bar (i := 3) (d := (some 69)) hD (by kernel_rfl) (by kernel_rfl) rfl (.by_ 2 false 68 (!ok_13) rfl rfl rfl hb31) rfl ?_
              refine rd_bar (i := 5) (d := (some 71)) hD (by kernel_rfl) (by kernel_rfl) rfl (.by_ 2 false 68 (!ok_13) rfl rfl rfl hb31) rfl ?_
              refine rd_bar (i := 6) (d := (some 72)) hD (by kernel_rfl) (by kernel_rfl) rfl (.by_ 2 false 68 (!ok_13) rfl rfl rfl hb31) rfl ?_
              refine rd_one (i := 4) (by kernel_rfl) ?_
              refine po_bar (d := (some 70)) rfl (.by_ 2 false 68 (!ok_13) rfl rfl rfl hb31) rfl ⟨fun _ _ _ h => h, ?_⟩
              refine rd_bar (i := 7) (d := (some 73)) hD (by kernel_rfl) (by kernel_rfl) rfl (.by_ 2 false 68 (!ok_13) rfl rfl rfl hb31) rfl ?_
              refine rd_pure (i := 8) (d := (some 74)) hD (by kernel_rfl) (by kernel_rfl) rfl (.free rfl) rfl (fun _ => q_pickT (v := .bool (true)) (b := (!ok_13)) rfl rfl hb31 rfl) ?_
              refine rd_pure (i := 9) (d := (some 75)) hD (by kernel_rfl) (by kernel_rfl) rfl (.free rfl) rfl (fun _ => q_move (v := .bool (true)) rfl rfl) ?_
              refine ro_if (b := true) h (fun hb32 h => ?_) (fun hb32 h => ?_)
              · refine rd_bar (i := 10) (d := (some 76)) hD (by kernel_rfl) (by kernel_rfl) rfl (.by_ 9 false 75 true rfl rfl rfl hb32) rfl ?_
                refine rd_bar (i := 12) (d := (some 78)) hD (by kernel_rfl) (by kernel_rfl) rfl (.by_ 9 false 75 true rfl rfl rfl hb32) rfl ?_
                refine rd_bar (i := 13) (d := (some 79)) hD (by kernel_rfl) (by kernel_rfl) rfl (.by_ 9 false 75 true rfl rfl rfl hb32) rfl ?_
                refine rd_one (i := 11) (by kernel_rfl) ?_
                refine po_bar (d := (some 77)) rfl (.by_ 9 false 75 true rfl rfl rfl hb32) rfl ⟨fun _ _ _ h => h, ?_⟩
                refine rd_bar (i := 14) (d := (some 80)) hD (by kernel_rfl) (by kernel_rfl) rfl (.by_ 9 false 75 true rfl rfl rfl hb32) rfl ?_
                refine rd_pure (i := 15) (d := (some 81)) hD (by kernel_rfl) (by kernel_rfl) rfl (.free rfl) rfl (fun _ => q_pickT (v := .bool (true)) (b := true) rfl rfl hb32 rfl) ?_
                refine rd_pure (i := 16) (d := (some 82)) hD (by kernel_rfl) (by kernel_rfl) rfl (.free rfl) rfl (fun _ => q_move (v := .bool (true)) rfl rfl) ?_
                refine rd_bar (i := 17) (d := (some 83)) hD (by kernel_rfl) (by kernel_rfl) rfl (.by_ 16 false 82 true rfl rfl rfl hb32) rfl ?_
                refine rd_bar (i := 19) (d := (some 85)) hD (by kernel_rfl) (by kernel_rfl) rfl (.by_ 16 false 82 true rfl rfl rfl hb32) rfl ?_
                refine rd_bar (i := 20) (d := (some 86)) hD (by kernel_rfl) (by kernel_rfl) rfl (.by_ 16 false 82 true rfl rfl rfl hb32) rfl ?_
                refine rd_bar (i := 21) (d := (some 87)) hD (by kernel_rfl) (by kernel_rfl) rfl (.by_ 16 false 82 true rfl rfl rfl hb32) rfl ?_
                refine rd_one (i := 18) (by kernel_rfl) ?_
                refine po_bar (d := (some 84)) rfl (.by_ 16 false 82 true rfl rfl rfl hb32) rfl ⟨fun _ _ _ h => h, ?_⟩
                refine rd_bar (i := 22) (d := (some 88)) hD (by kernel_rfl) (by kernel_rfl) rfl (.by_ 16 false 82 true rfl rfl rfl hb32) rfl ?_
                refine rd_pure (i := 23) (d := (some 89)) hD (by kernel_rfl) (by kernel_rfl) rfl (.free rfl) rfl (fun _ => q_pickT (v := .bool (true)) (b := true) rfl rfl hb32 rfl) ?_
                refine rd_pure (i := 24) (d := (some 90)) hD (by kernel_rfl) (by kernel_rfl) rfl (.free rfl) rfl (fun _ => q_move (v := .bool (true)) rfl rfl) ?_
                refine rd_bar (i := 25) (d := (some 91)) hD (by kernel_rfl) (by kernel_rfl) rfl (.by_ 24 false 90 true rfl rfl rfl hb32) rfl ?_
                refine rd_bar (i := 26) (d := (some 92)) hD (by kernel_rfl) (by kernel_rfl) rfl (.by_ 24 false 90 true rfl rfl rfl hb32) rfl ?_
                refine rd_bar (i := 27) (d := (some 93)) hD (by kernel_rfl) (by kernel_rfl) rfl (.by_ 24 false 90 true rfl rfl rfl hb32) rfl ?_
                refine rd_pure (i := 28) (d := (some 94)) hD (by kernel_rfl) (by kernel_rfl) rfl (.free rfl) rfl (fun _ => q_pickT (v := .bool (true)) (b := true) rfl rfl hb32 rfl) ?_
                refine rd_pure (i := 29) (d := (some 95)) hD (by kernel_rfl) (by kernel_rfl) rfl (.free rfl) rfl (fun _ => q_move (v := .bool (true)) rfl rfl) ?_
                refine rd_bar (i := 30) (d := (some 96)) hD (by kernel_rfl) (by kernel_rfl) rfl (.by_ 29 false 95 true rfl rfl rfl hb32) rfl ?_
                refine rd_bar (i := 31) (d := (some 97)) hD (by kernel_rfl) (by kernel_rfl) rfl (.by_ 29 false 95 true rfl rfl rfl hb32) rfl ?_
                refine rd_bar (i := 32) (d := (some 98)) hD (by kernel_rfl) (by kernel_rfl) rfl (.by_ 29 false 95 true rfl rfl rfl hb32) rfl ?_
                refine rd_pure (i := 33) (d := (some 99)) hD (by kernel_rfl) (by kernel_rfl) rfl (.free rfl) rfl (fun _ => q_pickT (v := .bool (true)) (b := true) rfl rfl hb32 rfl) ?_
                refine rd_nil (by kernel_rfl) ?_
                exact ⟨(true), _, arr (upd_step (upd_step (upd_step (upd_step (upd_step rfl rfl) rfl) rfl) rfl) rfl), h⟩
              · refine rd_pure (i := 10) (d := (some 76)) hD (by kernel_rfl) (by kernel_rfl) rfl (.by_ 9 false 75 true rfl rfl rfl hb32) rfl (fun _ => q_move (v := .pointer (r3)) rfl rfl) ?_
                refine rd_pure (i := 12) (d := (some 78)) hD (by kernel_rfl) (by kernel_rfl) rfl (.by_ 9 false 75 true rfl rfl rfl hb32) rfl (fun _ => q_fieldAddr (a := a4) (off := 2) rfl Try.underlying27 rfl rfl ok2 (by decide) rfl) ?_
                obtain ⟨x33, hx33, h⟩ := h
                refine rd_read (i := 13) (d := (some 79)) (fun W => (RdAt (tInt .i64) (a4.add 2) W) x33) hD (by kernel_rfl) (by kernel_rfl) rfl (.by_ 9 false 75 true rfl rfl rfl hb32) rfl (fun W hr => q_load (T := (tInt .i64)) (u := x33) (a := (a4.add 2)) rfl ok2 rfl hr) hx33 ?_
                refine rd_one (i := 11) (by kernel_rfl) ?_
                refine po_wp rfl (.by_ 9 false 75 true rfl rfl rfl hb32) (wp_cl (d := (some 77)) rfl (q_call (k := 16) (l := [.pointer (r3)]) rfl ent16 rfl) h ?_)
                intro r35 w34 h
                obtain ⟨hk36, h⟩ := h
                refine ⟨(hk_keep (fun _ => hk36) hk_nil), ?_⟩
                refine rd_pure (i := 14) (d := (some 80)) hD (by kernel_rfl) (by kernel_rfl) rfl (.by_ 9 false 75 true rfl rfl rfl hb32) rfl (fun _ => q_neq (a := r35) (b := x33) rfl rfl rfl) ?_
                refine rd_pure (i := 15) (d := (some 81)) hD (by kernel_rfl) (by kernel_rfl) rfl (.free rfl) rfl (fun _ => q_pickF (v := .bool ((r35 != x33))) (b := true) rfl rfl hb32 rfl) ?_
                refine rd_pure (i := 16) (d := (some 82)) hD (by kernel_rfl) (by kernel_rfl) rfl (.free rfl) rfl (fun _ => q_move (v := .bool ((r35 != x33))) rfl rfl) ?_
                refine ro_if (b := (r35 != x33)) h (fun hb37 h => ?_) (fun hb37 h => ?_)
                · refine rd_bar (i := 17) (d := (some 83)) hD (by kernel_rfl) (by kernel_rfl) rfl (.by_ 16 false 82 (r35 != x33) rfl rfl rfl hb37) rfl ?_
                  refine rd_bar (i := 19) (d := (some 85)) hD (by kernel_rfl) (by kernel_rfl) rfl (.by_ 16 false 82 (r35 != x33) rfl rfl rfl hb37) rfl ?_
                  refine rd_bar (i := 20) (d := (some 86)) hD (by kernel_rfl) (by kernel_rfl) rfl (.by_ 16 false 82 (r35 != x33) rfl rfl rfl hb37) rfl ?_
                  refine rd_bar (i := 21) (d := (some 87)) hD (by kernel_rfl) (by kernel_rfl) rfl (.by_ 16 false 82 (r35 != x33) rfl rfl rfl hb37) rfl ?_
                  refine rd_one (i := 18) (by kernel_rfl) ?_
                  refine po_bar (d := (some 84)) rfl (.by_ 16 false 82 (r35 != x33) rfl rfl rfl hb37) rfl ⟨fun _ _ _ h => h, ?_⟩
                  refine rd_bar (i := 22) (d := (some 88)) hD (by kernel_rfl) (by kernel_rfl) rfl (.by_ 16 false 82 (r35 != x33) rfl rfl rfl hb37) rfl ?_
                  refine rd_pure (i := 23) (d := (some 89)) hD (by kernel_rfl) (by kernel_rfl) rfl (.free rfl) rfl (fun _ => q_pickT (v := .bool (true)) (b := (r35 != x33)) rfl rfl hb37 rfl) ?_
                  refine rd_pure (i := 24) (d := (some 90)) hD (by kernel_rfl) (by kernel_rfl) rfl (.free rfl) rfl (fun _ => q_move (v := .bool (true)) rfl rfl) ?_
                  obtain ⟨x38, hx38, h⟩ := h
                  refine rd_read (i := 25) (d := (some 91)) (fun W => (RdAt T35 a21 W) x38) hD (by kernel_rfl) (by kernel_rfl) rfl (.by_ 24 false 90 true rfl rfl rfl hb32) rfl (fun W hr => q_load (T := T35) (u := x38) (a := a21) rfl ok36 rfl hr) hx38 ?_
                  obtain ⟨x39, hx39, h⟩ := h
                  refine rd_read (i := 26) (d := (some 92)) (fun W => (RdAt T35 y_24 W) x39) hD (by kernel_rfl) (by kernel_rfl) rfl (.by_ 24 false 90 true rfl rfl rfl hb32) rfl (fun W hr => q_load (T := T35) (u := x39) (a := y_24) rfl ok36 rfl hr) hx39 ?_
                  refine rd_pure (i := 27) (d := (some 93)) hD (by kernel_rfl) (by kernel_rfl) rfl (.by_ 24 false 90 true rfl rfl rfl hb32) rfl (fun _ => q_neT (r := (S35.eqb x38 x39)) rfl (eq36 x38 x39) rfl rfl) ?_
                  refine rd_pure (i := 28) (d := (some 94)) hD (by kernel_rfl) (by kernel_rfl) rfl (.free rfl) rfl (fun _ => q_pickF (v := .bool ((!(S35.eqb x38 x39)))) (b := true) rfl rfl hb32 rfl) ?_
                  refine rd_pure (i := 29) (d := (some 95)) hD (by kernel_rfl) (by kernel_rfl) rfl (.free rfl) rfl (fun _ => q_move (v := .bool ((!(S35.eqb x38 x39)))) rfl rfl) ?_
                  refine rd_gpure (i := 30) (g := (!(!(S35.eqb x38 x39)))) (d := (some 96)) hD (by kernel_rfl) (by kernel_rfl) rfl (.no 29 95 true (!(S35.eqb x38 x39)) rfl rfl rfl rfl) rfl (fun hg _ => q_move (v := .bool (r20.2)) rfl rfl) ?_
                  refine rd_gpure (i := 31) (g := (!(!(S35.eqb x38 x39)))) (d := (some 97)) hD (by kernel_rfl) (by kernel_rfl) rfl (.no 29 95 true (!(S35.eqb x38 x39)) rfl rfl rfl rfl) rfl (fun hg _ => q_move (v := .bool (is_25)) rfl rfl) ?_
                  refine rd_gpure (i := 32) (g := (!(!(S35.eqb x38 x39)))) (d := (some 98)) hD (by kernel_rfl) (by kernel_rfl) rfl (.no 29 95 true (!(S35.eqb x38 x39)) rfl rfl rfl rfl) rfl (fun hg _ => q_neB (a := r20.2) (b := is_25) rfl Try.underlying4 (gvb_yes hg) (gvb_yes hg)) ?_
                  refine rd_pure (i := 33) (d := (some 99)) hD (by kernel_rfl) (by kernel_rfl) rfl (.free rfl) rfl (fun _ => q_pickGF (a := (!(S35.eqb x38 x39))) (c := (!(r20.2 == is_25))) rfl rfl rfl rfl) ?_
                  refine rd_nil (by kernel_rfl) ?_
                  exact ⟨(((!(S35.eqb x38 x39)) || (!(r20.2 == is_25)))), _, arr (upd_step (upd_step (upd_step (upd_step (upd_step rfl rfl) rfl) rfl) rfl) rfl), h⟩
                · refine rd_pure (i := 17) (d := (some 83)) hD (by kernel_rfl) (by kernel_rfl) rfl (.by_ 16 false 82 (r35 != x33) rfl rfl rfl hb37) rfl (fun _ => q_move (v := .pointer (r3)) rfl rfl) ?_
                  refine rd_pure (i := 19) (d := (some 85)) hD (by kernel_rfl) (by kernel_rfl) rfl (.by_ 16 false 82 (r35 != x33) rfl rfl rfl hb37) rfl (fun _ => q_fieldAddr (a := a4) (off := 0) rfl Try.underlying27 rfl rfl ok25 (by decide) rfl) ?_
                  obtain ⟨x40, hx40, h⟩ := h
                  refine rd_read (i := 20) (d := (some 86)) (fun W => (RdAt tSlc (a4.add 0) W) x40) hD (by kernel_rfl) (by kernel_rfl) rfl (.by_ 16 false 82 (r35 != x33) rfl rfl rfl hb37) rfl (fun W hr => q_load (T := tSlc) (u := x40) (a := (a4.add 0)) rfl ok25 rfl hr) hx40 ?_
                  refine rd_pure (i := 21) (d := (some 87)) hD (by kernel_rfl) (by kernel_rfl) rfl (.by_ 16 false 82 (r35 != x33) rfl rfl rfl hb37) rfl (fun _ => q_len (s := x40) rfl Try.underlying25 rfl) ?_
                  refine rd_one (i := 18) (by kernel_rfl) ?_
                  refine po_wp rfl (.by_ 16 false 82 (r35 != x33) rfl rfl rfl hb37) (wp_cl (d := (some 84)) rfl (q_call (k := 17) (l := [.pointer (r3)]) rfl ent17 rfl) h ?_)
                  intro r42 w41 h
                  obtain ⟨hk43, h⟩ := h
                  obtain ⟨hk44, h⟩ := h
                  refine ⟨(hk_keep (fun _ => hk44) (hk_keep (fun _ => hk43) hk_nil)), ?_⟩
                  refine rd_pure (i := 22) (d := (some 88)) hD (by kernel_rfl) (by kernel_rfl) rfl (.by_ 16 false 82 (r35 != x33) rfl rfl rfl hb37) rfl (fun _ => q_neq (a := r42) (b := (x40.len : Int)) rfl rfl rfl) ?_
                  refine rd_pure (i := 23) (d := (some 89)) hD (by kernel_rfl) (by kernel_rfl) rfl (.free rfl) rfl (fun _ => q_pickF (v := .bool ((r42 != (x40.len : Int)))) (b := (r35 != x33)) rfl rfl hb37 rfl) ?_
                  refine rd_pure (i := 24) (d := (some 90)) hD (by kernel_rfl) (by kernel_rfl) rfl (.free rfl) rfl (fun _ => q_move (v := .bool ((r42 != (x40.len : Int)))) rfl rfl) ?_
                  obtain ⟨x45, hx45, h⟩ := h
                  refine rd_gread (i := 25) (g := (!(r42 != (x40.len : Int)))) (d := (some 91)) (fun W => (RdAt T35 a21 W) x45) hD (by kernel_rfl) (by kernel_rfl) rfl (.no 24 90 true (r42 != (x40.len : Int)) rfl rfl rfl rfl) rfl (fun hg W hr => q_load (T := T35) (u := x45) (a := a21) rfl ok36 rfl hr) hx45 ?_
                  obtain ⟨x46, hx46, h⟩ := h
                  refine rd_gread (i := 26) (g := (!(r42 != (x40.len : Int)))) (d := (some 92)) (fun W => (RdAt T35 y_24 W) x46) hD (by kernel_rfl) (by kernel_rfl) rfl (.no 24 90 true (r42 != (x40.len : Int)) rfl rfl rfl rfl) rfl (fun hg W hr => q_load (T := T35) (u := x46) (a := y_24) rfl ok36 rfl hr) hx46 ?_
                  refine rd_gpure (i := 27) (g := (!(r42 != (x40.len : Int)))) (d := (some 93)) hD (by kernel_rfl) (by kernel_rfl) rfl (.no 24 90 true (r42 != (x40.len : Int)) rfl rfl rfl rfl) rfl (fun hg _ => q_neT (r := (S35.eqb x45 x46)) rfl (eq36 x45 x46) (gvb_yes hg) (gvb_yes hg)) ?_
                  refine rd_pure (i := 28) (d := (some 94)) hD (by kernel_rfl) (by kernel_rfl) rfl (.free rfl) rfl (fun _ => q_pickGF (a := (r42 != (x40.len : Int))) (c := (!(S35.eqb x45 x46))) rfl rfl rfl rfl) ?_
                  refine rd_pure (i := 29) (d := (some 95)) hD (by kernel_rfl) (by kernel_rfl) rfl (.free rfl) rfl (fun _ => q_move (v := .bool (((r42 != (x40.len : Int)) || (!(S35.eqb x45 x46))))) rfl rfl) ?_
                  refine rd_gpure (i := 30) (g := (!((r42 != (x40.len : Int)) || (!(S35.eqb x45 x46))))) (d := (some 96)) hD (by kernel_rfl) (by kernel_rfl) rfl (.no 29 95 true ((r42 != (x40.len : Int)) || (!(S35.eqb x45 x46))) rfl rfl rfl rfl) rfl (fun hg _ => q_move (v := .bool (r20.2)) rfl rfl) ?_
                  refine rd_gpure (i := 31) (g := (!((r42 != (x40.len : Int)) || (!(S35.eqb x45 x46))))) (d := (some 97)) hD (by kernel_rfl) (by kernel_rfl) rfl (.no 29 95 true ((r42 != (x40.len : Int)) || (!(S35.eqb x45 x46))) rfl rfl rfl rfl) rfl (fun hg _ => q_move (v := .bool (is_25)) rfl rfl) ?_
                  refine rd_gpure (i := 32) (g := (!((r42 != (x40.len : Int)) || (!(S35.eqb x45 x46))))) (d := (some 98)) hD (by kernel_rfl) (by kernel_rfl) rfl (.no 29 95 true ((r42 != (x40.len : Int)) || (!(S35.eqb x45 x46))) rfl rfl rfl rfl) rfl (fun hg _ => q_neB (a := r20.2) (b := is_25) rfl Try.underlying4 (gvb_yes hg) (gvb_yes hg)) ?_
                  refine rd_pure (i := 33) (d := (some 99)) hD (by kernel_rfl) (by kernel_rfl) rfl (.free rfl) rfl (fun _ => q_pickGF (a := ((r42 != (x40.len : Int)) || (!(S35.eqb x45 x46)))) (c := (!(r20.2 == is_25))) rfl rfl rfl rfl) ?_
                  refine rd_nil (by kernel_rfl) ?_
                  exact ⟨((((r42 != (x40.len : Int)) || (!(S35.eqb x45 x46))) || (!(r20.2 == is_25)))), _, arr (upd_step (upd_step (upd_step (upd_step (upd_step rfl rfl) rfl) rfl) rfl) rfl), h⟩
            · refine rd_pure (i := 3) (d := (some 69)) hD (by kernel_rfl) (by kernel_rfl) rfl (.by_ 2 false 68 (!ok_13) rfl rfl rfl hb31) rfl (fun _ => q_move (v := .pointer (r3)) rfl rfl) ?_
              refine rd_pure (i := 5) (d := (some 71)) hD (by kernel_rfl) (by kernel_rfl) rfl (.by_ 2 false 68 (!ok_13) rfl rfl rfl hb31) rfl (fun _ => q_fieldAddr (a := a4) (off := 1) rfl Try.underlying27 rfl rfl ok2 (by decide) rfl) ?_
              obtain ⟨x47, hx47, h⟩ := h
              refine rd_read (i := 6) (d := (some 72)) (fun W => (RdAt (tInt .i64) (a4.add 1) W) x47) hD (by kernel_rfl) (by kernel_rfl) rfl (.by_ 2 false 68 (!ok_13) rfl rfl rfl hb31) rfl (fun W hr => q_load (T := (tInt .i64)) (u := x47) (a := (a4.add 1)) rfl ok2 rfl hr) hx47 ?_
              refine rd_one (i := 4) (by kernel_rfl) ?_
              refine po_wp rfl (.by_ 2 false 68 (!ok_13) rfl rfl rfl hb31) (wp_cl (d := (some 70)) rfl (q_call (k := 15) (l := [.pointer (r3)]) rfl ent15 rfl) h ?_)
              intro r49 w48 h
              obtain ⟨hk50, h⟩ := h
              refine ⟨(hk_keep (fun _ => hk50) hk_nil), ?_⟩
              refine rd_pure (i := 7) (d := (some 73)) hD (by kernel_rfl) (by kernel_rfl) rfl (.by_ 2 false 68 (!ok_13) rfl rfl rfl hb31) rfl (fun _ => q_neq (a := r49) (b := x47) rfl rfl rfl) ?_
              refine rd_pure (i := 8) (d := (some 74)) hD (by kernel_rfl) (by kernel_rfl) rfl (.free rfl) rfl (fun _ => q_pickF (v := .bool ((r49 != x47))) (b := (!ok_13)) rfl rfl hb31 rfl) ?_
              refine rd_pure (i := 9) (d := (some 75)) hD (by kernel_rfl) (by kernel_rfl) rfl (.free rfl) rfl (fun _ => q_move (v := .bool ((r49 != x47))) rfl rfl) ?_
              refine ro_if (b := (r49 != x47)) h (fun hb51 h => ?_) (fun hb51 h => ?_)
              · refine rd_bar (i := 10) (d := (some 76)) hD (by kernel_rfl) (by kernel_rfl) rfl (.by_ 9 false 75 (r49 != x47) rfl rfl rfl hb51) rfl ?_
                refine rd_bar (i := 12) (d := (some 78)) hD (by kernel_rfl) (by kernel_rfl) rfl (.by_ 9 false 75 (r49 != x47) rfl rfl rfl hb51) rfl ?_
                refine rd_bar (i := 13) (d := (some 79)) hD (by kernel_rfl) (by kernel_rfl) rfl (.by_ 9 false 75 (r49 != x47) rfl rfl rfl hb51) rfl ?_
                refine rd_one (i := 11) (by kernel_rfl) ?_
                refine po_bar (d := (some 77)) rfl (.by_ 9 false 75 (r49 != x47) rfl rfl rfl hb51) rfl ⟨fun _ _ _ h => h, ?_⟩
                refine rd_bar (i := 14) (d := (some 80)) hD (by kernel_rfl) (by kernel_rfl) rfl (.by_ 9 false 75 (r49 != x47) rfl rfl rfl hb51) rfl ?_
                refine rd_pure (i := 15) (d := (some 81)) hD (by kernel_rfl) (by kernel_rfl) rfl (.free rfl) rfl (fun _ => q_pickT (v := .bool (true)) (b := (r49 != x47)) rfl rfl hb51 rfl) ?_
                refine rd_pure (i := 16) (d := (some 82)) hD (by kernel_rfl) (by kernel_rfl) rfl (.free rfl) rfl (fun _ => q_move (v := .bool (true)) rfl rfl) ?_
                refine ro_if (b := true) h (fun hb52 h => ?_) (fun hb52 h => ?_)
                · refine rd_bar (i := 17) (d := (some 83)) hD (by kernel_rfl) (by kernel_rfl) rfl (.by_ 16 false 82 true rfl rfl rfl hb52) rfl ?_
                  refine rd_bar (i := 19) (d := (some 85)) hD (by kernel_rfl) (by kernel_rfl) rfl (.by_ 16 false 82 true rfl rfl rfl hb52) rfl ?_
                  refine rd_bar (i := 20) (d := (some 86)) hD (by kernel_rfl) (by kernel_rfl) rfl (.by_ 16 false 82 true rfl rfl rfl hb52) rfl ?_
                  refine rd_bar (i := 21) (d := (some 87)) hD (by kernel_rfl) (by kernel_rfl) rfl (.by_ 16 false 82 true rfl rfl rfl hb52) rfl ?_
                  refine rd_one (i := 18) (by kernel_rfl) ?_
                  refine po_bar (d := (some 84)) rfl (.by_ 16 false 82 true rfl rfl rfl hb52) rfl ⟨fun _ _ _ h => h, ?_⟩
                  refine rd_bar (i := 22) (d := (some 88)) hD (by kernel_rfl) (by kernel_rfl) rfl (.by_ 16 false 82 true rfl rfl rfl hb52) rfl ?_
                  refine rd_pure (i := 23) (d := (some 89)) hD (by kernel_rfl) (by kernel_rfl) rfl (.free rfl) rfl (fun _ => q_pickT (v := .bool (true)) (b := true) rfl rfl hb52 rfl) ?_
                  refine rd_pure (i := 24) (d := (some 90)) hD (by kernel_rfl) (by kernel_rfl) rfl (.free rfl) rfl (fun _ => q_move (v := .bool (true)) rfl rfl) ?_
                  refine rd_bar (i := 25) (d := (some 91)) hD (by kernel_rfl) (by kernel_rfl) rfl (.by_ 24 false 90 true rfl rfl rfl hb52) rfl ?_
                  refine rd_bar (i := 26) (d := (some 92)) hD (by kernel_rfl) (by kernel_rfl) rfl (.by_ 24 false 90 true rfl rfl rfl hb52) rfl ?_
                  refine rd_bar (i := 27) (d := (some 93)) hD (by kernel_rfl) (by kernel_rfl) rfl (.by_ 24 false 90 true rfl rfl rfl hb52) rfl ?_
                  refine rd_pure (i := 28) (d := (some 94)) hD (by kernel_rfl) (by kernel_rfl) rfl (.free rfl) rfl (fun _ => q_pickT (v := .bool (true)) (b := true) rfl rfl hb52 rfl) ?_
                  refine rd_pure (i := 29) (d := (some 95)) hD (by kernel_rfl) (by kernel_rfl) rfl (.free rfl) rfl (fun _ => q_move (v := .bool (true)) rfl rfl) ?_
                  refine rd_bar (i := 30) (d := (some 96)) hD (by kernel_rfl) (by kernel_rfl) rfl (.by_ 29 false 95 true rfl rfl rfl hb52) rfl ?_
                  refine rd_bar (i := 31) (d := (some 97)) hD (by kernel_rfl) (by kernel_rfl) rfl (.by_ 29 false 95 true rfl rfl rfl hb52) rfl ?_
                  refine rd_bar (i := 32) (d := (some 98)) hD (by kernel_rfl) (by kernel_rfl) rfl (.by_ 29 false 95 true rfl rfl rfl hb52) rfl ?_
                  refine rd_pure (i := 33) (d := (some 99)) hD (by kernel_rfl) (by kernel_rfl) rfl (.free rfl) rfl (fun _ => q_pickT (v := .bool (true)) (b := true) rfl rfl hb52 rfl) ?_
                  refine rd_nil (by kernel_rfl) ?_
                  exact ⟨(true), _, arr (upd_step (upd_step (upd_step (upd_step (upd_step rfl rfl) rfl) rfl) rfl) rfl), h⟩
                · refine rd_pure (i := 17) (d := (some 83)) hD (by kernel_rfl) (by kernel_rfl) rfl (.by_ 16 false 82 true rfl rfl rfl hb52) rfl (fun _ => q_move (v := .pointer (r3)) rfl rfl) ?_
                  refine rd_pure (i := 19) (d := (some 85)) hD (by kernel_rfl) (by kernel_rfl) rfl (.by_ 16 false 82 true rfl rfl rfl hb52) rfl (fun _ => q_fieldAddr (a := a4) (off := 0) rfl Try.underlying27 rfl rfl ok25 (by decide) rfl) ?_
                  obtain ⟨x53, hx53, h⟩ := h
                  refine rd_read (i := 20) (d := (some 86)) (fun W => (RdAt tSlc (a4.add 0) W) x53) hD (by kernel_rfl) (by kernel_rfl) rfl (.by_ 16 false 82 true rfl rfl rfl hb52) rfl (fun W hr => q_load (T := tSlc) (u := x53) (a := (a4.add 0)) rfl ok25 rfl hr) hx53 ?_
                  refine rd_pure (i := 21) (d := (some 87)) hD (by kernel_rfl) (by kernel_rfl) rfl (.by_ 16 false 82 true rfl rfl rfl hb52) rfl (fun _ => q_len (s := x53) rfl Try.underlying25 rfl) ?_
                  refine rd_one (i := 18) (by kernel_rfl) ?_
                  refine po_wp rfl (.by_ 16 false 82 true rfl rfl rfl hb52) (wp_cl (d := (some 84)) rfl (q_call (k := 17) (l := [.pointer (r3)]) rfl ent17 rfl) h ?_)
                  intro r55 w54 h
                  obtain ⟨hk56, h⟩ := h
                  obtain ⟨hk57, h⟩ := h
                  refine ⟨(hk_keep (fun _ => hk57) (hk_keep (fun _ => hk56) hk_nil)), ?_⟩
                  refine rd_pure (i := 22) (d := (some 88)) hD (by kernel_rfl) (by kernel_rfl) rfl (.by_ 16 false 82 true rfl rfl rfl hb52) rfl (fun _ => q_neq (a := r55) (b := (x53.len : Int)) rfl rfl rfl) ?_
                  refine rd_pure (i := 23) (d := (some 89)) hD (by kernel_rfl) (by kernel_rfl) rfl (.free rfl) rfl (fun _ => q_pickF (v := .bool ((r55 != (x53.len : Int)))) (b := true) rfl rfl hb52 rfl) ?_
                  refine rd_pure (i := 24) (d := (some 90)) hD (by kernel_rfl) (by kernel_rfl) rfl (.free rfl) rfl (fun _ => q_move (v := .bool ((r55 != (x53.len : Int)))) rfl rfl) ?_
                  obtain ⟨x58, hx58, h⟩ := h
                  refine rd_gread (i := 25) (g := (!(r55 != (x53.len : Int)))) (d := (some 91)) (fun W => (RdAt T35 a21 W) x58) hD (by kernel_rfl) (by kernel_rfl) rfl (.no 24 90 true (r55 != (x53.len : Int)) rfl rfl rfl rfl) rfl (fun hg W hr => q_load (T := T35) (u := x58) (a := a21) rfl ok36 rfl hr) hx58 ?_
                  obtain ⟨x59, hx59, h⟩ := h
                  refine rd_gread (i := 26) (g := (!(r55 != (x53.len : Int)))) (d := (some 92)) (fun W => (RdAt T35 y_24 W) x59) hD (by kernel_rfl) (by kernel_rfl) rfl (.no 24 90 true (r55 != (x53.len : Int)) rfl rfl rfl rfl) rfl (fun hg W hr => q_load (T := T35) (u := x59) (a := y_24) rfl ok36 rfl hr) hx59 ?_
                  refine rd_gpure (i := 27) (g := (!(r55 != (x53.len : Int)))) (d := (some 93)) hD (by kernel_rfl) (by kernel_rfl) rfl (.no 24 90 true (r55 != (x53.len : Int)) rfl rfl rfl rfl) rfl (fun hg _ => q_neT (r := (S35.eqb x58 x59)) rfl (eq36 x58 x59) (gvb_yes hg) (gvb_yes hg)) ?_
                  refine rd_pure (i := 28) (d := (some 94)) hD (by kernel_rfl) (by kernel_rfl) rfl (.free rfl) rfl (fun _ => q_pickGF (a := (r55 != (x53.len : Int))) (c := (!(S35.eqb x58 x59))) rfl rfl rfl rfl) ?_
                  refine rd_pure (i := 29) (d := (some 95)) hD (by kernel_rfl) (by kernel_rfl) rfl (.free rfl) rfl (fun _ => q_move (v := .bool (((r55 != (x53.len : Int)) || (!(S35.eqb x58 x59))))) rfl rfl) ?_
                  refine rd_gpure (i := 30) (g := (!((r55 != (x53.len : Int)) || (!(S35.eqb x58 x59))))) (d := (some 96)) hD (by kernel_rfl) (by kernel_rfl) rfl (.no 29 95 true ((r55 != (x53.len : Int)) || (!(S35.eqb x58 x59))) rfl rfl rfl rfl) rfl (fun hg _ => q_move (v := .bool (r20.2)) rfl rfl) ?_
                  refine rd_gpure (i := 31) (g := (!((r55 != (x53.len : Int)) || (!(S35.eqb x58 x59))))) (d := (some 97)) hD (by kernel_rfl) (by kernel_rfl) rfl (.no 29 95 true ((r55 != (x53.len : Int)) || (!(S35.eqb x58 x59))) rfl rfl rfl rfl) rfl (fun hg _ => q_move (v := .bool (is_25)) rfl rfl) ?_
                  refine rd_gpure (i := 32) (g := (!((r55 != (x53.len : Int)) || (!(S35.eqb x58 x59))))) (d := (some 98)) hD (by kernel_rfl) (by kernel_rfl) rfl (.no 29 95 true ((r55 != (x53.len : Int)) || (!(S35.eqb x58 x59))) rfl rfl rfl rfl) rfl (fun hg _ => q_neB (a := r20.2) (b := is_25) rfl Try.underlying4 (gvb_yes hg) (gvb_yes hg)) ?_
                  refine rd_pure (i := 33) (d := (some 99)) hD (by kernel_rfl) (by kernel_rfl) rfl (.free rfl) rfl (fun _ => q_pickGF (a := ((r55 != (x53.len : Int)) || (!(S35.eqb x58 x59)))) (c := (!(r20.2 == is_25))) rfl rfl rfl rfl) ?_
                  refine rd_nil (by kernel_rfl) ?_
                  exact ⟨((((r55 != (x53.len : Int)) || (!(S35.eqb x58 x59))) || (!(r20.2 == is_25)))), _, arr (upd_step (upd_step (upd_step (upd_step (upd_step rfl rfl) rfl) rfl) rfl) rfl), h⟩
              · refine rd_pure (i := 10) (d := (some 76)) hD (by kernel_rfl) (by kernel_rfl) rfl (.by_ 9 false 75 (r49 != x47) rfl rfl rfl hb51) rfl (fun _ => q_move (v := .pointer (r3)) rfl rfl) ?_
                refine rd_pure (i := 12) (d := (some 78)) hD (by kernel_rfl) (by kernel_rfl) rfl (.by_ 9 false 75 (r49 != x47) rfl rfl rfl hb51) rfl (fun _ => q_fieldAddr (a := a4) (off := 2) rfl Try.underlying27 rfl rfl ok2 (by decide) rfl) ?_
                obtain ⟨x60, hx60, h⟩ := h
                refine rd_read (i := 13) (d := (some 79)) (fun W => (RdAt (tInt .i64) (a4.add 2) W) x60) hD (by kernel_rfl) (by kernel_rfl) rfl (.by_ 9 false 75 (r49 != x47) rfl rfl rfl hb51) rfl (fun W hr => q_load (T := (tInt .i64)) (u := x60) (a := (a4.add 2)) rfl ok2 rfl hr) hx60 ?_
                refine rd_one (i := 11) (by kernel_rfl) ?_
                refine po_wp rfl (.by_ 9 false 75 (r49 != x47) rfl rfl rfl hb51) (wp_cl (d := (some 77)) rfl (q_call (k := 16) (l := [.pointer (r3)]) rfl ent16 rfl) h ?_)
                intro r62 w61 h
                obtain ⟨hk63, h⟩ := h
                obtain ⟨hk64, h⟩ := h
                refine ⟨(hk_keep (fun _ => hk64) (hk_keep (fun _ => hk63) hk_nil)), ?_⟩
                refine rd_pure (i := 14) (d := (some 80)) hD (by kernel_rfl) (by kernel_rfl) rfl (.by_ 9 false 75 (r49 != x47) rfl rfl rfl hb51) rfl (fun _ => q_neq (a := r62) (b := x60) rfl rfl rfl) ?_
                refine rd_pure (i := 15) (d := (some 81)) hD (by kernel_rfl) (by kernel_rfl) rfl (.free rfl) rfl (fun _ => q_pickF (v := .bool ((r62 != x60))) (b := (r49 != x47)) rfl rfl hb51 rfl) ?_
                refine rd_pure (i := 16) (d := (some 82)) hD (by kernel_rfl) (by kernel_rfl) rfl (.free rfl) rfl (fun _ => q_move (v := .bool ((r62 != x60))) rfl rfl) ?_
                refine ro_if (b := (r62 != x60)) h (fun hb65 h => ?_) (fun hb65 h => ?_)
                · refine rd_bar (i := 17) (d := (some 83)) hD (by kernel_rfl) (by kernel_rfl) rfl (.by_ 16 false 82 (r62 != x60) rfl rfl rfl hb65) rfl ?_
                  refine rd_bar (i := 19) (d := (some 85)) hD (by kernel_rfl) (by kernel_rfl) rfl (.by_ 16 false 82 (r62 != x60) rfl rfl rfl hb65) rfl ?_
                  refine rd_bar (i := 20) (d := (some 86)) hD (by kernel_rfl) (by kernel_rfl) rfl (.by_ 16 false 82 (r62 != x60) rfl rfl rfl hb65) rfl ?_
                  refine rd_bar (i := 21) (d := (some 87)) hD (by kernel_rfl) (by kernel_rfl) rfl (.by_ 16 false 82 (r62 != x60) rfl rfl rfl hb65) rfl ?_
                  refine rd_one (i := 18) (by kernel_rfl) ?_
                  refine po_bar (d := (some 84)) rfl (.by_ 16 false 82 (r62 != x60) rfl rfl rfl hb65) rfl ⟨fun _ _ _ h => h, ?_⟩
                  refine rd_bar (i := 22) (d := (some 88)) hD (by kernel_rfl) (by kernel_rfl) rfl (.by_ 16 false 82 (r62 != x60) rfl rfl rfl hb65) rfl ?_
                  refine rd_pure (i := 23) (d := (some 89)) hD (by kernel_rfl) (by kernel_rfl) rfl (.free rfl) rfl (fun _ => q_pickT (v := .bool (true)) (b := (r62 != x60)) rfl rfl hb65 rfl) ?_
                  refine rd_pure (i := 24) (d := (some 90)) hD (by kernel_rfl) (by kernel_rfl) rfl (.free rfl) rfl (fun _ => q_move (v := .bool (true)) rfl rfl) ?_
                  obtain ⟨x66, hx66, h⟩ := h
                  refine rd_gread (i := 25) (g := (!true)) (d := (some 91)) (fun W => (RdAt T35 a21 W) x66) hD (by kernel_rfl) (by kernel_rfl) rfl (.no 24 90 true true rfl rfl rfl rfl) rfl (fun hg W hr => q_load (T := T35) (u := x66) (a := a21) rfl ok36 rfl hr) hx66 ?_
                  obtain ⟨x67, hx67, h⟩ := h
                  refine rd_gread (i := 26) (g := (!true)) (d := (some 92)) (fun W => (RdAt T35 y_24 W) x67) hD (by kernel_rfl) (by kernel_rfl) rfl (.no 24 90 true true rfl rfl rfl rfl) rfl (fun hg W hr => q_load (T := T35) (u := x67) (a := y_24) rfl ok36 rfl hr) hx67 ?_
                  refine rd_gpure (i := 27) (g := (!true)) (d := (some 93)) hD (by kernel_rfl) (by kernel_rfl) rfl (.no 24 90 true true rfl rfl rfl rfl) rfl (fun hg _ => q_neT (r := (S35.eqb x66 x67)) rfl (eq36 x66 x67) (gvb_yes hg) (gvb_yes hg)) ?_
                  refine rd_pure (i := 28) (d := (some 94)) hD (by kernel_rfl) (by kernel_rfl) rfl (.free rfl) rfl (fun _ => q_pickGF (a := true) (c := (!(S35.eqb x66 x67))) rfl rfl rfl rfl) ?_
                  refine rd_pure (i := 29) (d := (some 95)) hD (by kernel_rfl) (by kernel_rfl) rfl (.free rfl) rfl (fun _ => q_move (v := .bool ((true || (!(S35.eqb x66 x67))))) rfl rfl) ?_
                  refine rd_gpure (i := 30) (g := (!(true || (!(S35.eqb x66 x67))))) (d := (some 96)) hD (by kernel_rfl) (by kernel_rfl) rfl (.no 29 95 true (true || (!(S35.eqb x66 x67))) rfl rfl rfl rfl) rfl (fun hg _ => q_move (v := .bool (r20.2)) rfl rfl) ?_
                  refine rd_gpure (i := 31) (g := (!(true || (!(S35.eqb x66 x67))))) (d := (some 97)) hD (by kernel_rfl) (by kernel_rfl) rfl (.no 29 95 true (true || (!(S35.eqb x66 x67))) rfl rfl rfl rfl) rfl (fun hg _ => q_move (v := .bool (is_25)) rfl rfl) ?_
                  refine rd_gpure (i := 32) (g := (!(true || (!(S35.eqb x66 x67))))) (d := (some 98)) hD (by kernel_rfl) (by kernel_rfl) rfl (.no 29 95 true (true || (!(S35.eqb x66 x67))) rfl rfl rfl rfl) rfl (fun hg _ => q_neB (a := r20.2) (b := is_25) rfl Try.underlying4 (gvb_yes hg) (gvb_yes hg)) ?_
                  refine rd_pure (i := 33) (d := (some 99)) hD (by kernel_rfl) (by kernel_rfl) rfl (.free rfl) rfl (fun _ => q_pickGF (a := (true || (!(S35.eqb x66 x67)))) (c := (!(r20.2 == is_25))) rfl rfl rfl rfl) ?_
                  refine rd_nil (by kernel_rfl) ?_
                  exact ⟨(((true || (!(S35.eqb x66 x67))) || (!(r20.2 == is_25)))), _, arr (upd_step (upd_step (upd_step (upd_step (upd_step rfl rfl) rfl) rfl) rfl) rfl), h⟩
                · refine rd_pure (i := 17) (d := (some 83)) hD (by kernel_rfl) (by kernel_rfl) rfl (.by_ 16 false 82 (r62 != x60) rfl rfl rfl hb65) rfl (fun _ => q_move (v := .pointer (r3)) rfl rfl) ?_
                  refine rd_pure (i := 19) (d := (some 85)) hD (by kernel_rfl) (by kernel_rfl) rfl (.by_ 16 false 82 (r62 != x60) rfl rfl rfl hb65) rfl (fun _ => q_fieldAddr (a := a4) (off := 0) rfl Try.underlying27 rfl rfl ok25 (by decide) rfl) ?_
                  obtain ⟨x68, hx68, h⟩ := h
                  refine rd_read (i := 20) (d := (some 86)) (fun W => (RdAt tSlc (a4.add 0) W) x68) hD (by kernel_rfl) (by kernel_rfl) rfl (.by_ 16 false 82 (r62 != x60) rfl rfl rfl hb65) rfl (fun W hr => q_load (T := tSlc) (u := x68) (a := (a4.add 0)) rfl ok25 rfl hr) hx68 ?_
                  refine rd_pure (i := 21) (d := (some 87)) hD (by kernel_rfl) (by kernel_rfl) rfl (.by_ 16 false 82 (r62 != x60) rfl rfl rfl hb65) rfl (fun _ => q_len (s := x68) rfl Try.underlying25 rfl) ?_
                  refine rd_one (i := 18) (by kernel_rfl) ?_
                  refine po_wp rfl (.by_ 16 false 82 (r62 != x60) rfl rfl rfl hb65) (wp_cl (d := (some 84)) rfl (q_call (k := 17) (l := [.pointer (r3)]) rfl ent17 rfl) h ?_)
                  intro r70 w69 h
                  obtain ⟨hk71, h⟩ := h
                  obtain ⟨hk72, h⟩ := h
                  obtain ⟨hk73, h⟩ := h
                  refine ⟨(hk_keep (fun _ => hk73) (hk_keep (fun _ => hk72) (hk_keep (fun _ => hk71) hk_nil))), ?_⟩
                  refine rd_pure (i := 22) (d := (some 88)) hD (by kernel_rfl) (by kernel_rfl) rfl (.by_ 16 false 82 (r62 != x60) rfl rfl rfl hb65) rfl (fun _ => q_neq (a := r70) (b := (x68.len : Int)) rfl rfl rfl) ?_
                  refine rd_pure (i := 23) (d := (some 89)) hD (by kernel_rfl) (by kernel_rfl) rfl (.free rfl) rfl (fun _ => q_pickF (v := .bool ((r70 != (x68.len : Int)))) (b := (r62 != x60)) rfl rfl hb65 rfl) ?_
                  refine rd_pure (i := 24) (d := (some 90)) hD (by kernel_rfl) (by kernel_rfl) rfl (.free rfl) rfl (fun _ => q_move (v := .bool ((r70 != (x68.len : Int)))) rfl rfl) ?_
                  obtain ⟨x74, hx74, h⟩ := h
                  refine rd_gread (i := 25) (g := (!(r70 != (x68.len : Int)))) (d := (some 91)) (fun W => (RdAt T35 a21 W) x74) hD (by kernel_rfl) (by kernel_rfl) rfl (.no 24 90 true (r70 != (x68.len : Int)) rfl rfl rfl rfl) rfl (fun hg W hr => q_load (T := T35) (u := x74) (a := a21) rfl ok36 rfl hr) hx74 ?_
                  obtain ⟨x75, hx75, h⟩ := h
                  refine rd_gread (i := 26) (g := (!(r70 != (x68.len : Int)))) (d := (some 92)) (fun W => (RdAt T35 y_24 W) x75) hD (by kernel_rfl) (by kernel_rfl) rfl (.no 24 90 true (r70 != (x68.len : Int)) rfl rfl rfl rfl) rfl (fun hg W hr => q_load (T := T35) (u := x75) (a := y_24) rfl ok36 rfl hr) hx75 ?_
                  refine rd_gpure (i := 27) (g := (!(r70 != (x68.len : Int)))) (d := (some 93)) hD (by kernel_rfl) (by kernel_rfl) rfl (.no 24 90 true (r70 != (x68.len : Int)) rfl rfl rfl rfl) rfl (fun hg _ => q_neT (r := (S35.eqb x74 x75)) rfl (eq36 x74 x75) (gvb_yes hg) (gvb_yes hg)) ?_
                  refine rd_pure (i := 28) (d := (some 94)) hD (by kernel_rfl) (by kernel_rfl) rfl (.free rfl) rfl (fun _ => q_pickGF (a := (r70 != (x68.len : Int))) (c := (!(S35.eqb x74 x75))) rfl rfl rfl rfl) ?_
                  refine rd_pure (i := 29) (d := (some 95)) hD (by kernel_rfl) (by kernel_rfl) rfl (.free rfl) rfl (fun _ => q_move (v := .bool (((r70 != (x68.len : Int)) || (!(S35.eqb x74 x75))))) rfl rfl) ?_
                  refine rd_gpure (i := 30) (g := (!((r70 != (x68.len : Int)) || (!(S35.eqb x74 x75))))) (d := (some 96)) hD (by kernel_rfl) (by kernel_rfl) rfl (.no 29 95 true ((r70 != (x68.len : Int)) || (!(S35.eqb x74 x75))) rfl rfl rfl rfl) rfl (fun hg _ => q_move (v := .bool (r20.2)) rfl rfl) ?_
                  refine rd_gpure (i := 31) (g := (!((r70 != (x68.len : Int)) || (!(S35.eqb x74 x75))))) (d := (some 97)) hD (by kernel_rfl) (by kernel_rfl) rfl (.no 29 95 true ((r70 != (x68.len : Int)) || (!(S35.eqb x74 x75))) rfl rfl rfl rfl) rfl (fun hg _ => q_move (v := .bool (is_25)) rfl rfl) ?_
                  refine rd_gpure (i := 32) (g := (!((r70 != (x68.len : Int)) || (!(S35.eqb x74 x75))))) (d := (some 98)) hD (by kernel_rfl) (by kernel_rfl) rfl (.no 29 95 true ((r70 != (x68.len : Int)) || (!(S35.eqb x74 x75))) rfl rfl rfl rfl) rfl (fun hg _ => q_neB (a := r20.2) (b := is_25) rfl Try.underlying4 (gvb_yes hg) (gvb_yes hg)) ?_
                  refine rd_pure (i := 33) (d := (some 99)) hD (by kernel_rfl) (by kernel_rfl) rfl (.free rfl) rfl (fun _ => q_pickGF (a := ((r70 != (x68.len : Int)) || (!(S35.eqb x74 x75)))) (c := (!(r20.2 == is_25))) rfl rfl rfl rfl) ?_
                  refine rd_nil (by kernel_rfl) ?_
                  exact ⟨((((r70 != (x68.len : Int)) || (!(S35.eqb x74 x75))) || (!(r20.2 == is_25)))), _, arr (upd_step (upd_step (upd_step (upd_step (upd_step rfl rfl) rfl) rfl) rfl) rfl), h⟩
        · obtain ⟨w76, hw76, h⟩ := dr_open h
          refine wp_drawn 13 mixed rfl (by kernel_rfl) (by intro c a d v w h; cases d <;> exact h) hw76 (fun hD => ?_)
          refine rd_pure (i := 1) (d := (some 58)) hD (by kernel_rfl) (by kernel_rfl) rfl (.free rfl) rfl (fun _ => q_move (v := tSlc.enc (l_1)) rfl rfl) ?_
          refine rd_pure (i := 2) (d := (some 59)) hD (by kernel_rfl) (by kernel_rfl) rfl (.free rfl) rfl (fun _ => q_move (v := .int .i64 (i_9)) rfl rfl) ?_
          obtain ⟨a77, ha77, h⟩ := h
          refine rd_pure (i := 3) (d := (some 60)) hD (by kernel_rfl) (by kernel_rfl) rfl (.free rfl) rfl (fun _ => q_indexAddr (s := l_1) (i := i_9) rfl Try.underlying22 ok33 rfl rfl ha77) ?_
          refine rd_pure (i := 4) (d := (some 61)) hD (by kernel_rfl) (by kernel_rfl) rfl (.free rfl) rfl (fun _ => q_fieldAddr (a := a77) (off := 1) rfl Try.underlying33 rfl rfl ok3 (by decide) rfl) ?_
          obtain ⟨x78, hx78, h⟩ := h
          refine rd_read (i := 0) (d := (some 57)) (fun W => (RdAt T26 a4 W) x78) hD (by kernel_rfl) (by kernel_rfl) rfl (.free rfl) rfl (fun W hr => q_load (T := T26) (u := x78) (a := a4) rfl ok27 rfl hr) hx78 ?_
          obtain ⟨x79, hx79, h⟩ := h
          refine rd_read (i := 5) (d := (some 62)) (fun W => (RdAt (tInt .i64) (a77.add 1) W) x79) hD (by kernel_rfl) (by kernel_rfl) rfl (.free rfl) rfl (fun W hr => q_load (T := (tInt .i64)) (u := x79) (a := (a77.add 1)) rfl ok3 rfl hr) hx79 ?_
          obtain ⟨h, h'⟩ := h
          refine rd_two (i := 6) (j := 10) (by kernel_rfl) ?_ ?_
          · clear h'
            refine po_wp rfl (.free rfl) (wp_cl (d := (some 63)) rfl (q_call (k := 14) (l := [T26.enc (x78), .int .i64 (x79)]) rfl ent14 rfl) h ?_)
            intro r81 w80 h
            refine ⟨(hk_wait (by kernel_rfl) (hk_wait (by kernel_rfl) hk_nil)), ?_⟩
            refine rd_pure (i := 7) (d := (some 56)) hD (by kernel_rfl) (by kernel_rfl) rfl (.free rfl) rfl (fun _ => q_move (v := (tTup2 T35 tBool).enc (r81)) rfl rfl) ?_
            refine rd_pure (i := 8) (d := (some 64)) hD (by kernel_rfl) (by kernel_rfl) rfl (.free rfl) rfl (fun _ => q_extract (vs := #[T35.enc (r81.1), .bool (r81.2)]) (v := T35.enc (r81.1)) rfl rfl rfl) ?_
            refine rd_pure (i := 9) (d := (some 65)) hD (by kernel_rfl) (by kernel_rfl) rfl (.free rfl) rfl (fun _ => q_extract (vs := #[T35.enc (r81.1), .bool (r81.2)]) (v := .bool (r81.2)) rfl rfl rfl) ?_
            refine rd_one (i := 10) (by kernel_rfl) ?_
            obtain ⟨a82, w83, ha82, hw83, h⟩ := nw_open h
            refine po_val (d := (some 10)) rfl (.free rfl) rfl (q_alloc (u := Z35) rfl ok36 inf36 ha82 hw83) ⟨(hk_keep (fun h => keep_RdAt hw83 h) (hk_keep (fun h => keep_RdAt hw83 h) hk_nil)), ?_⟩
            refine rd_one (i := 11) (by kernel_rfl) ?_
            obtain ⟨w84, hw84, hrw84, h⟩ := st_open h
            refine po_skip (d := none) rfl (.free rfl) rfl (q_store (T := T35) (u := r81.1) (a := a82) rfl ok36 rfl rfl hrw84 hw84) ⟨(hk_wait (by kernel_rfl) (hk_wait (by kernel_rfl) hk_nil)), ?_⟩
            refine rd_pure (i := 12) (d := (some 11)) hD (by kernel_rfl) (by kernel_rfl) rfl (.free rfl) rfl (fun _ => q_assign (v := .bool (r81.2)) rfl rfl) ?_
            refine rd_nil (by kernel_rfl) ?_
            exact ⟨(a82, r81.2), _, arr (upd_step (upd_step (upd_step (upd_step (upd_step (upd_step (upd_step (upd_step (upd_step rfl rfl) rfl) rfl) rfl) rfl) rfl) rfl) rfl) rfl), h⟩
          · replace h := h'; clear h'
            obtain ⟨a85, w86, ha85, hw86, h⟩ := nw_open h
            refine po_val (d := (some 10)) rfl (.free rfl) rfl (q_alloc (u := Z35) rfl ok36 inf36 ha85 hw86) ⟨(hk_keep (fun h => keep_RdAt hw86 h) (hk_keep (fun h => keep_RdAt hw86 h) hk_nil)), ?_⟩
            refine rd_one (i := 6) (by kernel_rfl) ?_
            refine po_wp rfl (.free rfl) (wp_cl (d := (some 63)) rfl (q_call (k := 14) (l := [T26.enc (x78), .int .i64 (x79)]) rfl ent14 rfl) h ?_)
            intro r88 w87 h
            refine ⟨(hk_wait (by kernel_rfl) (hk_wait (by kernel_rfl) hk_nil)), ?_⟩
            refine rd_pure (i := 7) (d := (some 56)) hD (by kernel_rfl) (by kernel_rfl) rfl (.free rfl) rfl (fun _ => q_move (v := (tTup2 T35 tBool).enc (r88)) rfl rfl) ?_
            refine rd_pure (i := 8) (d := (some 64)) hD (by kernel_rfl) (by kernel_rfl) rfl (.free rfl) rfl (fun _ => q_extract (vs := #[T35.enc (r88.1), .bool (r88.2)]) (v := T35.enc (r88.1)) rfl rfl rfl) ?_
            refine rd_pure (i := 9) (d := (some 65)) hD (by kernel_rfl) (by kernel_rfl) rfl (.free rfl) rfl (fun _ => q_extract (vs := #[T35.enc (r88.1), .bool (r88.2)]) (v := .bool (r88.2)) rfl rfl rfl) ?_
            refine rd_one (i := 11) (by kernel_rfl) ?_
            obtain ⟨w89, hw89, hrw89, h⟩ := st_open h
            refine po_skip (d := none) rfl (.free rfl) rfl (q_store (T := T35) (u := r88.1) (a := a85) rfl ok36 rfl rfl hrw89 hw89) ⟨(hk_wait (by kernel_rfl) (hk_wait (by kernel_rfl) hk_nil)), ?_⟩
            refine rd_pure (i := 12) (d := (some 11)) hD (by kernel_rfl) (by kernel_rfl) rfl (.free rfl) rfl (fun _ => q_assign (v := .bool (r88.2)) rfl rfl) ?_
            refine rd_nil (by kernel_rfl) ?_
            exact ⟨(a85, r88.2), _, arr (upd_step (upd_step (upd_step (upd_step (upd_step (upd_step (upd_step (upd_step (upd_step rfl rfl) rfl) rfl) rfl) rfl) rfl) rfl) rfl) rfl), h⟩
      · obtain ⟨w90, hw90, h⟩ := dr_open h
        refine wp_drawn 14 mixed rfl (by kernel_rfl) (by intro c a d v w h; cases d <;> exact h) hw90 (fun hD => ?_)
        refine rd_pure (i := 0) (d := (some 35)) hD (by kernel_rfl) (by kernel_rfl) rfl (.free rfl) rfl (fun _ => q_move (v := .pointer (r3)) rfl rfl) ?_
        refine rd_pure (i := 2) (d := (some 37)) hD (by kernel_rfl) (by kernel_rfl) rfl (.free rfl) rfl (fun _ => q_move (v := tSlc.enc (l_1)) rfl rfl) ?_
        refine rd_pure (i := 3) (d := (some 38)) hD (by kernel_rfl) (by kernel_rfl) rfl (.free rfl) rfl (fun _ => q_move (v := .int .i64 (i_9)) rfl rfl) ?_
        obtain ⟨a91, ha91, h⟩ := h
        refine rd_pure (i := 4) (d := (some 39)) hD (by kernel_rfl) (by kernel_rfl) rfl (.free rfl) rfl (fun _ => q_indexAddr (s := l_1) (i := i_9) rfl Try.underlying22 ok33 rfl rfl ha91) ?_
        obtain ⟨x92, hx92, h⟩ := h
        refine rd_read (i := 1) (d := (some 36)) (fun W => (RdAt T26 a4 W) x92) hD (by kernel_rfl) (by kernel_rfl) rfl (.free rfl) rfl (fun W hr => q_load (T := T26) (u := x92) (a := a4) rfl ok27 rfl hr) hx92 ?_
        obtain ⟨x93, hx93, h⟩ := h
        refine rd_read (i := 5) (d := (some 40)) (fun W => (RdAt T32 a91 W) x93) hD (by kernel_rfl) (by kernel_rfl) rfl (.free rfl) rfl (fun W hr => q_load (T := T32) (u := x93) (a := a91) rfl ok33 rfl hr) hx93 ?_
        obtain ⟨h, h'⟩ := h
        refine rd_two (i := 6) (j := 11) (by kernel_rfl) ?_ ?_
        · clear h'
          refine po_wp rfl (.free rfl) (wp_cl (d := (some 41)) rfl (q_call (k := 12) (l := [T32.enc (x93)]) rfl ent12 rfl) h ?_)
          intro r95 w94 h
          obtain ⟨hk96, h⟩ := h
          refine ⟨(hk_wait (by kernel_rfl) (hk_keep (fun _ => hk96) hk_nil)), ?_⟩
          obtain ⟨h, h'⟩ := h
          refine rd_two (i := 7) (j := 11) (by kernel_rfl) ?_ ?_
          · clear h'
            refine po_wp rfl (.free rfl) (wp_cl (d := (some 42)) rfl (q_call (k := 11) (l := [.pointer (r3), T26.enc (x92), T32.enc (r95)]) rfl ent11 rfl) h ?_)
            intro r98 w97 h
            obtain ⟨hk99, h⟩ := h
            refine ⟨(hk_keep (fun _ => hk99) (hk_wait (by kernel_rfl) hk_nil)), ?_⟩
            refine rd_pure (i := 8) (d := (some 34)) hD (by kernel_rfl) (by kernel_rfl) rfl (.free rfl) rfl (fun _ => q_move (v := (tTup2 T26 tBool).enc (r98)) rfl rfl) ?_
            refine rd_pure (i := 9) (d := (some 43)) hD (by kernel_rfl) (by kernel_rfl) rfl (.free rfl) rfl (fun _ => q_extract (vs := #[T26.enc (r98.1), .bool (r98.2)]) (v := T26.enc (r98.1)) rfl rfl rfl) ?_
            refine rd_pure (i := 10) (d := (some 44)) hD (by kernel_rfl) (by kernel_rfl) rfl (.free rfl) rfl (fun _ => q_extract (vs := #[T26.enc (r98.1), .bool (r98.2)]) (v := .bool (r98.2)) rfl rfl rfl) ?_
            refine rd_one (i := 11) (by kernel_rfl) ?_
            obtain ⟨a100, w101, ha100, hw101, h⟩ := nw_open h
            refine po_val (d := (some 6)) rfl (.free rfl) rfl (q_alloc (u := Z26) rfl ok27 inf27 ha100 hw101) ⟨(hk_keep (fun h => keep_RdAt hw101 h) (hk_keep (fun h => keep_RdAt hw101 h) hk_nil)), ?_⟩
            refine rd_one (i := 12) (by kernel_rfl) ?_
            obtain ⟨w102, hw102, hrw102, h⟩ := st_open h
            refine po_skip (d := none) rfl (.free rfl) rfl (q_store (T := T26) (u := r98.1) (a := a100) rfl ok27 rfl rfl hrw102 hw102) ⟨(hk_wait (by kernel_rfl) (hk_wait (by kernel_rfl) hk_nil)), ?_⟩
            refine rd_pure (i := 13) (d := (some 7)) hD (by kernel_rfl) (by kernel_rfl) rfl (.free rfl) rfl (fun _ => q_assign (v := .bool (r98.2)) rfl rfl) ?_
            refine rd_nil (by kernel_rfl) ?_
            exact ⟨(a100, r98.2), _, arr (upd_step (upd_step (upd_step (upd_step (upd_step (upd_step rfl rfl) rfl) rfl) rfl) rfl) rfl), h⟩
          · replace h := h'; clear h'
            obtain ⟨a103, w104, ha103, hw104, h⟩ := nw_open h
            refine po_val (d := (some 6)) rfl (.free rfl) rfl (q_alloc (u := Z26) rfl ok27 inf27 ha103 hw104) ⟨(hk_keep (fun h => keep_RdAt hw104 h) (hk_keep (fun h => keep_RdAt hw104 h) hk_nil)), ?_⟩
            refine rd_one (i := 7) (by kernel_rfl) ?_
            refine po_wp rfl (.free rfl) (wp_cl (d := (some 42)) rfl (q_call (k := 11) (l := [.pointer (r3), T26.enc (x92), T32.enc (r95)]) rfl ent11 rfl) h ?_)
            intro r106 w105 h
            obtain ⟨hk107, h⟩ := h
            refine ⟨(hk_keep (fun _ => hk107) (hk_wait (by kernel_rfl) hk_nil)), ?_⟩
            refine rd_pure (i := 8) (d := (some 34)) hD (by kernel_rfl) (by kernel_rfl) rfl (.free rfl) rfl (fun _ => q_move (v := (tTup2 T26 tBool).enc (r106)) rfl rfl) ?_
            refine rd_pure (i := 9) (d := (some 43)) hD (by kernel_rfl) (by kernel_rfl) rfl (.free rfl) rfl (fun _ => q_extract (vs := #[T26.enc (r106.1), .bool (r106.2)]) (v := T26.enc (r106.1)) rfl rfl rfl) ?_
            refine rd_pure (i := 10) (d := (some 44)) hD (by kernel_rfl) (by kernel_rfl) rfl (.free rfl) rfl (fun _ => q_extract (vs := #[T26.enc (r106.1), .bool (r106.2)]) (v := .bool (r106.2)) rfl rfl rfl) ?_
            refine rd_one (i := 12) (by kernel_rfl) ?_
            obtain ⟨w108, hw108, hrw108, h⟩ := st_open h
            refine po_skip (d := none) rfl (.free rfl) rfl (q_store (T := T26) (u := r106.1) (a := a103) rfl ok27 rfl rfl hrw108 hw108) ⟨(hk_wait (by kernel_rfl) (hk_wait (by kernel_rfl) hk_nil)), ?_⟩
            refine rd_pure (i := 13) (d := (some 7)) hD (by kernel_rfl) (by kernel_rfl) rfl (.free rfl) rfl (fun _ => q_assign (v := .bool (r106.2)) rfl rfl) ?_
            refine rd_nil (by kernel_rfl) ?_
            exact ⟨(a103, r106.2), _, arr (upd_step (upd_step (upd_step (upd_step (upd_step (upd_step rfl rfl) rfl) rfl) rfl) rfl) rfl), h⟩
        · replace h := h'; clear h'
          obtain ⟨a109, w110, ha109, hw110, h⟩ := nw_open h
          refine po_val (d := (some 6)) rfl (.free rfl) rfl (q_alloc (u := Z26) rfl ok27 inf27 ha109 hw110) ⟨(hk_keep (fun h => keep_RdAt hw110 h) (hk_keep (fun h => keep_RdAt hw110 h) hk_nil)), ?_⟩
          refine rd_one (i := 6) (by kernel_rfl) ?_
          refine po_wp rfl (.free rfl) (wp_cl (d := (some 41)) rfl (q_call (k := 12) (l := [T32.enc (x93)]) rfl ent12 rfl) h ?_)
          intro r112 w111 h
          obtain ⟨hk113, h⟩ := h
          refine ⟨(hk_wait (by kernel_rfl) (hk_keep (fun _ => hk113) hk_nil)), ?_⟩
          refine rd_one (i := 7) (by kernel_rfl) ?_
          refine po_wp rfl (.free rfl) (wp_cl (d := (some 42)) rfl (q_call (k := 11) (l := [.pointer (r3), T26.enc (x92), T32.enc (r112)]) rfl ent11 rfl) h ?_)
          intro r115 w114 h
          obtain ⟨hk116, h⟩ := h
          refine ⟨(hk_keep (fun _ => hk116) (hk_wait (by kernel_rfl) hk_nil)), ?_⟩
          refine rd_pure (i := 8) (d := (some 34)) hD (by kernel_rfl) (by kernel_rfl) rfl (.free rfl) rfl (fun _ => q_move (v := (tTup2 T26 tBool).enc (r115)) rfl rfl) ?_
          refine rd_pure (i := 9) (d := (some 43)) hD (by kernel_rfl) (by kernel_rfl) rfl (.free rfl) rfl (fun _ => q_extract (vs := #[T26.enc (r115.1), .bool (r115.2)]) (v := T26.enc (r115.1)) rfl rfl rfl) ?_
          refine rd_pure (i := 10) (d := (some 44)) hD (by kernel_rfl) (by kernel_rfl) rfl (.free rfl) rfl (fun _ => q_extract (vs := #[T26.enc (r115.1), .bool (r115.2)]) (v := .bool (r115.2)) rfl rfl rfl) ?_
          refine rd_one (i := 12) (by kernel_rfl) ?_
          obtain ⟨w117, hw117, hrw117, h⟩ := st_open h
          refine po_skip (d := none) rfl (.free rfl) rfl (q_store (T := T26) (u := r115.1) (a := a109) rfl ok27 rfl rfl hrw117 hw117) ⟨(hk_wait (by kernel_rfl) (hk_wait (by kernel_rfl) hk_nil)), ?_⟩
          refine rd_pure (i := 13) (d := (some 7)) hD (by kernel_rfl) (by kernel_rfl) rfl (.free rfl) rfl (fun _ => q_assign (v := .bool (r115.2)) rfl rfl) ?_
          refine rd_nil (by kernel_rfl) ?_
          exact ⟨(a109, r115.2), _, arr (upd_step (upd_step (upd_step (upd_step (upd_step (upd_step rfl rfl) rfl) rfl) rfl) rfl) rfl), h⟩
    · refine wp_exit ?_
      refine wp_seq ?_
      refine wp_text [0, 1, 2, 3, 4, 5, 6, 7, 8] rfl ?_
      refine ro_val (d := (some 101)) rfl (.free rfl) rfl (q_move (v := .pointer (r3)) rfl rfl) ?_
      refine ro_val (d := (some 102)) rfl (.free rfl) rfl (q_fieldAddr (a := a4) (off := 1) rfl Try.underlying27 rfl rfl ok2 (by decide) rfl) ?_
      obtain ⟨x118, hx118, h⟩ := h
      refine ro_val (d := (some 103)) rfl (.free rfl) rfl (q_load (T := (tInt .i64)) (u := x118) (a := (a4.add 1)) rfl ok2 rfl hx118) ?_
      refine ro_wp rfl (.free rfl) (wp_cl (d := (some 104)) rfl (q_call (k := 18) (l := [.pointer (r3), .int .i64 (x118)]) rfl ent18 rfl) h ?_)
      intro r120 w119 h
      refine ro_val (d := (some 100)) rfl (.free rfl) rfl (q_move (v := (tTup2 tSlc (tInt .i64)).enc (r120)) rfl rfl) ?_
      refine ro_val (d := (some 105)) rfl (.free rfl) rfl (q_extract (vs := #[tSlc.enc (r120.1), .int .i64 (r120.2)]) (v := tSlc.enc (r120.1)) rfl rfl rfl) ?_
      refine ro_val (d := (some 106)) rfl (.free rfl) rfl (q_extract (vs := #[tSlc.enc (r120.1), .int .i64 (r120.2)]) (v := .int .i64 (r120.2)) rfl rfl rfl) ?_
      refine ro_val (d := (some 12)) rfl (.free rfl) rfl (q_assign (v := tSlc.enc (r120.1)) rfl rfl) ?_
      refine ro_val (d := (some 13)) rfl (.free rfl) rfl (q_assign (v := .int .i64 (r120.2)) rfl rfl) ?_
      refine ro_nil ?_
      refine wp_seq ?_
      refine wp_text [0, 1, 2, 3, 4, 5, 6, 7, 8] rfl ?_
      obtain ⟨x121, hx121, h⟩ := h
      refine ro_val (d := (some 108)) rfl (.free rfl) rfl (q_load (T := T26) (u := x121) (a := a4) rfl ok27 rfl hx121) ?_
      refine ro_val (d := (some 109)) rfl (.free rfl) rfl (q_fieldAddr (a := a4) (off := 1) rfl Try.underlying27 rfl rfl ok2 (by decide) rfl) ?_
      obtain ⟨x122, hx122, h⟩ := h
      refine ro_val (d := (some 110)) rfl (.free rfl) rfl (q_load (T := (tInt .i64)) (u := x122) (a := (a4.add 1)) rfl ok2 rfl hx122) ?_
      refine ro_wp rfl (.free rfl) (wp_cl (d := (some 111)) rfl (q_call (k := 19) (l := [T26.enc (x121), .int .i64 (x122)]) rfl ent19 rfl) h ?_)
      intro r124 w123 h
      refine ro_val (d := (some 107)) rfl (.free rfl) rfl (q_move (v := (tTup2 tSlc (tInt .i64)).enc (r124)) rfl rfl) ?_
      refine ro_val (d := (some 112)) rfl (.free rfl) rfl (q_extract (vs := #[tSlc.enc (r124.1), .int .i64 (r124.2)]) (v := tSlc.enc (r124.1)) rfl rfl rfl) ?_
      refine ro_val (d := (some 113)) rfl (.free rfl) rfl (q_extract (vs := #[tSlc.enc (r124.1), .int .i64 (r124.2)]) (v := .int .i64 (r124.2)) rfl rfl rfl) ?_
      refine ro_val (d := (some 14)) rfl (.free rfl) rfl (q_assign (v := tSlc.enc (r124.1)) rfl rfl) ?_
      refine ro_val (d := (some 15)) rfl (.free rfl) rfl (q_assign (v := .int .i64 (r124.2)) rfl rfl) ?_
      refine ro_nil ?_
      refine wp_seq ?_
      refine wp_text [0, 1, 2, 3, 4, 5, 6, 7, 8] rfl ?_
      refine ro_val (d := (some 114)) rfl (.free rfl) rfl (q_move (v := .int .i64 (r120.2)) rfl rfl) ?_
      refine ro_val (d := (some 115)) rfl (.free rfl) rfl (q_move (v := .int .i64 (r124.2)) rfl rfl) ?_
      refine ro_val (d := (some 116)) rfl (.free rfl) rfl (q_eql (a := r120.2) (b := r124.2) rfl rfl rfl) ?_
      refine ro_val (d := (some 117)) rfl (.free rfl) rfl (q_move (v := .bool ((r120.2 == r124.2))) rfl rfl) ?_
      refine ro_join (σ := Bool) (J := fun (s : Bool) w => F3_j5 s w R) (fr := fun g (s : Bool) => upd (g) 121 (.bool (s))) [4, 5, 6, 7] [8] ?_ ?_
      · rintro t_125 g w126 h
        unfold F3_j5 at h
        refine ro_val (d := (some 2)) rfl (.free rfl) rfl (q_assign (v := .bool (t_125)) rfl rfl) ?_
        refine ro_nil ?_
        refine wp_ret ?_
        exact ret_ok rfl (.cons (.tmp (v := .bool (t_125)) rfl) .nil) ⟨t_125, rfl, h⟩
      · refine ro_if (b := (r120.2 == r124.2)) h (fun hb127 h => ?_) (fun hb127 h => ?_)
        · refine ro_val (d := (some 118)) rfl (.by_ 3 true 117 (r120.2 == r124.2) rfl rfl rfl hb127) rfl (q_move (v := tSlc.enc (r120.1)) rfl rfl) ?_
          refine ro_val (d := (some 119)) rfl (.by_ 3 true 117 (r120.2 == r124.2) rfl rfl rfl hb127) rfl (q_move (v := tSlc.enc (r124.1)) rfl rfl) ?_
          refine ro_wp rfl (.by_ 3 true 117 (r120.2 == r124.2) rfl rfl rfl hb127) (wp_cl (d := (some 120)) rfl (q_call (k := 20) (l := [tSlc.enc (r120.1), tSlc.enc (r124.1)]) rfl ent20 rfl) h ?_)
          intro r129 w128 h
          refine ro_val (d := (some 121)) rfl (.free rfl) rfl (q_pickT (v := .bool (r129)) (b := (r120.2 == r124.2)) rfl rfl hb127 rfl) ?_
          refine ro_nil ?_
          exact ⟨(r129), _, arr (upd_step rfl rfl), h⟩
        · refine ro_bar (d := (some 118)) rfl (.by_ 3 true 117 (r120.2 == r124.2) rfl rfl rfl hb127) rfl ?_
          refine ro_bar (d := (some 119)) rfl (.by_ 3 true 117 (r120.2 == r124.2) rfl rfl rfl hb127) rfl ?_
          refine ro_bar (d := (some 120)) rfl (.by_ 3 true 117 (r120.2 == r124.2) rfl rfl rfl hb127) rfl ?_
          refine ro_val (d := (some 121)) rfl (.free rfl) rfl (q_pickF (v := .bool (false)) (b := (r120.2 == r124.2)) rfl rfl hb127 rfl) ?_
          refine ro_nil ?_
          exact ⟨(false), _, arr (upd_step rfl rfl), h⟩

end Go.Proofs.Ytdgdkbfigndndaa.Cf
