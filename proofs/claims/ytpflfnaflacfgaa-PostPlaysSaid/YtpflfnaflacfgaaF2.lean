/- Characteristic formulae of Go functions, and that they are. Printed by gen.py (own tool). -/
import Derived.Test.YtpflfnaflacfgaaTy
namespace Go.Proofs.Ytpflfnaflacfgaa.Cf
open Go
set_option maxRecDepth 100000
set_option maxHeartbeats 1000000
set_option linter.unusedVariables false
set_option linter.unusedSimpArgs false

-- moiety/moietylaw09.PostSent
def F5_j2 (i_14 : Int) (many_17 : Int) (w18 : World) (K16 : Int × Int → World → Prop) (R : Bool → World → Prop) : Prop :=
  K16 (many_17, (IntKind.i64.wrap (i_14 + (1 : Int)))) w18
def F5_l3 (r4 : ((Option Addr) × Int)) (a11 : Addr) (many_13 : Int) (left_106 : Int) (i_107 : Int) (w108 : World) (K109 : Int × Int → World → Prop) (R : Bool → World → Prop) : Prop :=
  if (decide (i_107 ≤ many_13)) = true then (
    ex (IxR a11 61 1 i_107) fun a110 =>
    ex (RdAt (tInt .i64) a110 w108) fun x111 =>
    K109 ((IntKind.i64.wrap (left_106 + x111)), (IntKind.i64.wrap (i_107 + (1 : Int)))) w108
  ) else (
    cl Try.prog 13 [.pointer (r4.1)] tSlc w108 fun r113 w112 =>
    R ((r113.len : Int) == left_106) w112
  )
def F5_l1 (l_2 : Slc) (r4 : ((Option Addr) × Int)) (a9 : Addr) (a11 : Addr) (many_13 : Int) (i_14 : Int) (w15 : World) (K16 : Int × Int → World → Prop) (R : Bool → World → Prop) : Prop :=
  if ((decide (i_14 < (l_2.len : Int))) && (decide (i_14 < (60 : Int)))) = true then (
    ex (IxA l_2 5 i_14) fun a19 =>
    ex (RdAt T28 a19 w15) fun x20 =>
    cl Try.prog 15 [T28.enc (x20)] T28 w15 fun r22 w21 =>
    nw 29 T28 Z28 w21 fun a23 w24 =>
    st T28 a23 r22 w24 fun w25 =>
    ex (RdAt (tInt .i64) (a23.add 0) w25) fun x26 =>
    if (x26 == (0 : Int)) = true then (
      ex (RdAt (tInt .i64) (a23.add 1) w25) fun x27 =>
      ex (RdAt (tInt .i64) (a23.add 2) w25) fun x28 =>
      ex (RdAt tStr (a23.add 3) w25) fun x29 =>
      cl Try.prog 11 [.pointer (r4.1), .int .i64 (x27), .int .i64 (x28), .string ⟨(x29).toArray⟩] (tTup2 (tInt .i64) (tInt .i64)) w25 fun r31 w30 =>
      if (r31.2 != (0 : Int)) = true then (
        F5_j2 i_14 many_13 w30 K16 R
      ) else (
        if (r31.1 != (IntKind.i64.wrap (many_13 + (1 : Int)))) = true then (
          R false w30
        ) else (
          ex (RdAt T28 a23 w30) fun x32 =>
          ex (IxR a9 61 5 r31.1) fun a33 =>
          st T28 a33 x32 w30 fun w34 =>
          ex (IxR a11 61 1 r31.1) fun a35 =>
          st (tInt .i64) a35 (1 : Int) w34 fun w36 =>
          F5_j2 i_14 (IntKind.i64.wrap (many_13 + (1 : Int))) w36 K16 R
        )
      )
    ) else (
      if (x26 == (1 : Int)) = true then (
        ex (RdAt (tInt .i64) (a23.add 1) w25) fun x39 =>
        cl Try.prog 14 [.pointer (r4.1), .int .i64 (x39)] (tTup2 T35 (tInt .i64)) w25 fun r41 w40 =>
        nw 36 T35 Z35 w40 fun a42 w43 =>
        st T35 a42 r41.1 w43 fun w44 =>
        if (r41.2 != (0 : Int)) = true then (
          F5_j2 i_14 many_13 w44 K16 R
        ) else (
          dr w44 fun w45 =>
          ex (RdAt (tInt .i64) (a42.add 0) w45) fun x46 =>
          ex (fun x => (!(decide (x46 < (1 : Int)))) = true → (RdAt (tInt .i64) (a42.add 0) w45) x) fun x47 =>
          ex (fun x => (!((decide (x46 < (1 : Int))) || (decide (x47 > many_13)))) = true → (RdAt (tInt .i64) (a42.add 0) w45) x) fun x48 =>
          ex (fun x => (!((decide (x46 < (1 : Int))) || (decide (x47 > many_13)))) = true → (IxR a11 61 1 x48) x) fun a49 =>
          ex (fun x => (!((decide (x46 < (1 : Int))) || (decide (x47 > many_13)))) = true → (RdAt (tInt .i64) a49 w45) x) fun x50 =>
          ex (fun x => (!(((decide (x46 < (1 : Int))) || (decide (x47 > many_13))) || (decide (x50 < (1 : Int))))) = true → (RdAt (tInt .i64) (a42.add 0) w45) x) fun x51 =>
          ex (fun x => (!(((decide (x46 < (1 : Int))) || (decide (x47 > many_13))) || (decide (x50 < (1 : Int))))) = true → (IxR a9 61 5 x51) x) fun a52 =>
          ex (fun x => (!(((decide (x46 < (1 : Int))) || (decide (x47 > many_13))) || (decide (x50 < (1 : Int))))) = true → (RdAt (tInt .i64) (a52.add 1) w45) x) fun x53 =>
          ex (fun x => (!(((decide (x46 < (1 : Int))) || (decide (x47 > many_13))) || (decide (x50 < (1 : Int))))) = true → (RdAt (tInt .i64) (a42.add 1) w45) x) fun x54 =>
          ex (fun x => (!((((decide (x46 < (1 : Int))) || (decide (x47 > many_13))) || (decide (x50 < (1 : Int)))) || (x53 != x54))) = true → (RdAt (tInt .i64) (a42.add 0) w45) x) fun x55 =>
          ex (fun x => (!((((decide (x46 < (1 : Int))) || (decide (x47 > many_13))) || (decide (x50 < (1 : Int)))) || (x53 != x54))) = true → (IxR a9 61 5 x55) x) fun a56 =>
          ex (fun x => (!((((decide (x46 < (1 : Int))) || (decide (x47 > many_13))) || (decide (x50 < (1 : Int)))) || (x53 != x54))) = true → (RdAt (tInt .i64) (a56.add 2) w45) x) fun x57 =>
          ex (fun x => (!((((decide (x46 < (1 : Int))) || (decide (x47 > many_13))) || (decide (x50 < (1 : Int)))) || (x53 != x54))) = true → (RdAt (tInt .i64) (a42.add 2) w45) x) fun x58 =>
          ex (fun x => (!(((((decide (x46 < (1 : Int))) || (decide (x47 > many_13))) || (decide (x50 < (1 : Int)))) || (x53 != x54)) || (x57 != x58))) = true → (RdAt (tInt .i64) (a42.add 0) w45) x) fun x59 =>
          ex (fun x => (!(((((decide (x46 < (1 : Int))) || (decide (x47 > many_13))) || (decide (x50 < (1 : Int)))) || (x53 != x54)) || (x57 != x58))) = true → (IxR a9 61 5 x59) x) fun a60 =>
          ex (fun x => (!(((((decide (x46 < (1 : Int))) || (decide (x47 > many_13))) || (decide (x50 < (1 : Int)))) || (x53 != x54)) || (x57 != x58))) = true → (RdAt tStr (a60.add 3) w45) x) fun x61 =>
          ex (fun x => (!(((((decide (x46 < (1 : Int))) || (decide (x47 > many_13))) || (decide (x50 < (1 : Int)))) || (x53 != x54)) || (x57 != x58))) = true → (RdAt tStr (a42.add 3) w45) x) fun x62 =>
          if ((((((decide (x46 < (1 : Int))) || (decide (x47 > many_13))) || (decide (x50 < (1 : Int)))) || (x53 != x54)) || (x57 != x58)) || (!(x61 == x62))) = true then (
            R false w45
          ) else (
            ex (RdAt (tInt .i64) (a42.add 0) w45) fun x63 =>
            ex (IxR a11 61 1 x63) fun a64 =>
            ex (RdAt (tInt .i64) a64 w45) fun x65 =>
            ex (IxR a11 61 1 x63) fun a66 =>
            st (tInt .i64) a66 (IntKind.i64.wrap (x65 - (1 : Int))) w45 fun w67 =>
            F5_j2 i_14 many_13 w67 K16 R
          )
        )
      ) else (
        if (x26 == (2 : Int)) = true then (
          cl Try.prog 13 [.pointer (r4.1)] tSlc w25 fun r71 w70 =>
          ex (RdAt (tInt .i64) (a23.add 1) w70) fun x72 =>
          cl Try.prog 16 [.pointer (r4.1), .int .i64 (x72)] (tInt .i64) w70 fun r74 w73 =>
          if (r74 == (0 : Int)) = true then (
            ex (RdAt (tInt .i64) (a23.add 1) w73) fun x75 =>
            ex (fun x => (!(decide (x75 < (0 : Int)))) = true → (RdAt (tInt .i64) (a23.add 1) w73) x) fun x76 =>
            if ((decide (x75 < (0 : Int))) || (decide (x76 ≥ (r71.len : Int)))) = true then (
              R false w73
            ) else (
              ex (RdAt (tInt .i64) (a23.add 1) w73) fun x77 =>
              ex (IxA r71 4 x77) fun a78 =>
              ex (RdAt (tInt .i64) (a78.add 0) w73) fun x79 =>
              ex (IxR a11 61 1 x79) fun a80 =>
              ex (RdAt (tInt .i64) a80 w73) fun x81 =>
              ex (IxR a11 61 1 x79) fun a82 =>
              st (tInt .i64) a82 (IntKind.i64.wrap (x81 + (1 : Int))) w73 fun w83 =>
              F5_j2 i_14 many_13 w83 K16 R
            )
          ) else (
            F5_j2 i_14 many_13 w73 K16 R
          )
        ) else (
          if (x26 == (3 : Int)) = true then (
            cl Try.prog 13 [.pointer (r4.1)] tSlc w25 fun r87 w86 =>
            ex (RdAt (tInt .i64) (a23.add 1) w86) fun x88 =>
            cl Try.prog 17 [.pointer (r4.1), .int .i64 (x88)] (tInt .i64) w86 fun r90 w89 =>
            if (r90 == (0 : Int)) = true then (
              ex (RdAt (tInt .i64) (a23.add 1) w89) fun x91 =>
              ex (fun x => (!(decide (x91 < (0 : Int)))) = true → (RdAt (tInt .i64) (a23.add 1) w89) x) fun x92 =>
              if ((decide (x91 < (0 : Int))) || (decide (x92 ≥ (r87.len : Int)))) = true then (
                R false w89
              ) else (
                ex (RdAt (tInt .i64) (a23.add 1) w89) fun x93 =>
                ex (IxA r87 4 x93) fun a94 =>
                ex (RdAt (tInt .i64) (a94.add 0) w89) fun x95 =>
                ex (IxR a11 61 1 x95) fun a96 =>
                ex (RdAt (tInt .i64) a96 w89) fun x97 =>
                ex (IxR a11 61 1 x95) fun a98 =>
                st (tInt .i64) a98 (IntKind.i64.wrap (x97 - (1 : Int))) w89 fun w99 =>
                F5_j2 i_14 many_13 w99 K16 R
              )
            ) else (
              F5_j2 i_14 many_13 w89 K16 R
            )
          ) else (
            F5_j2 i_14 many_13 w25 K16 R
          )
        )
      )
    )
  ) else (
    lp (fun (s : Int × Int) w K => F5_l3 r4 a11 many_13 s.1 s.2 w K R) ((0 : Int), (1 : Int)) w15
  )
def F5 (nodes_1 : Int) (l_2 : Slc) (w : World) (R : Bool → World → Prop) : Prop :=
  cl Try.prog 9 [.int .i64 (nodes_1)] (tTup2 tPtr (tInt .i64)) w fun r4 w3 =>
  cl Try.prog 10 [] tBool w3 fun r6 w5 =>
  if (((!r6) || (r4.2 != (0 : Int))) || r4.1.isNone) = true then (
    cl Try.prog 10 [] tBool w5 fun r8 w7 =>
    R (r8 && r4.1.isNone) w7
  ) else (
    nw 42 (tArr T28 61) (Vector.replicate 61 Z28) w5 fun a9 w10 =>
    nw 43 (tArr (tInt .i64) 61) (Vector.replicate 61 (0 : Int)) w10 fun a11 w12 =>
    lp (fun (s : Int × Int) w K => F5_l1 l_2 r4 a9 a11 s.1 s.2 w K R) ((0 : Int), (0 : Int)) w12
  )
theorem F5_ok {nodes_1 : Int} {l_2 : Slc} {w : World} {R : Bool → World → Prop} (h : F5 nodes_1 l_2 w R) : cl Try.prog 5 [.int .i64 (nodes_1), tSlc.enc (l_2)] tBool w R := by
  unfold F5 at h
  refine calls_start 218 Try.func5 rfl rfl (Nat.le_of_ble_eq_true rfl) ?_
  refine wp_seq ?_
  refine wp_text [0] rfl ?_
  refine ro_val (d := (some 4)) rfl (.free rfl) rfl (q_assign (v := .bool (false)) rfl rfl) ?_
  refine ro_nil ?_
  refine wp_seq ?_
  refine wp_text [0, 1, 2, 3, 4, 5, 6] rfl ?_
  refine ro_val (d := (some 21)) rfl (.free rfl) rfl (q_move (v := .int .i64 (nodes_1)) rfl rfl) ?_
  refine ro_wp rfl (.free rfl) (wp_cl (d := (some 22)) rfl (q_call (k := 9) (l := [.int .i64 (nodes_1)]) rfl ent9 rfl) h ?_)
  intro r4 w3 h
  refine ro_val (d := (some 20)) rfl (.free rfl) rfl (q_move (v := (tTup2 tPtr (tInt .i64)).enc (r4)) rfl rfl) ?_
  refine ro_val (d := (some 23)) rfl (.free rfl) rfl (q_extract (vs := #[.pointer (r4.1), .int .i64 (r4.2)]) (v := .pointer (r4.1)) rfl rfl rfl) ?_
  refine ro_val (d := (some 24)) rfl (.free rfl) rfl (q_extract (vs := #[.pointer (r4.1), .int .i64 (r4.2)]) (v := .int .i64 (r4.2)) rfl rfl rfl) ?_
  refine ro_val (d := (some 5)) rfl (.free rfl) rfl (q_assign (v := .pointer (r4.1)) rfl rfl) ?_
  refine ro_val (d := (some 6)) rfl (.free rfl) rfl (q_assign (v := .int .i64 (r4.2)) rfl rfl) ?_
  refine ro_nil ?_
  refine wp_seq ?_
  refine wp_seq ?_
  refine wp_text [0, 1, 2, 3, 4, 5, 6, 7, 8, 9] rfl ?_
  refine ro_wp rfl (.free rfl) (wp_cl (d := (some 25)) rfl (q_call (k := 10) (l := []) rfl ent10 rfl) h ?_)
  intro r6 w5 h
  refine ro_val (d := (some 26)) rfl (.free rfl) rfl (q_not (b := r6) rfl rfl) ?_
  refine ro_val (d := (some 27)) rfl (.free rfl) rfl (q_move (v := .bool ((!r6))) rfl rfl) ?_
  refine ro_gval (g := (!(!r6))) (d := (some 28)) rfl (.no 2 27 true (!r6) rfl rfl rfl rfl) rfl (fun hg => q_move (v := .int .i64 (r4.2)) rfl rfl) ?_
  refine ro_gval (g := (!(!r6))) (d := (some 29)) rfl (.no 2 27 true (!r6) rfl rfl rfl rfl) rfl (fun hg => q_neq (a := r4.2) (b := (0 : Int)) rfl (gvb_yes hg) rfl) ?_
  refine ro_val (d := (some 30)) rfl (.free rfl) rfl (q_pickGF (a := (!r6)) (c := (r4.2 != (0 : Int))) rfl rfl rfl rfl) ?_
  refine ro_val (d := (some 31)) rfl (.free rfl) rfl (q_move (v := .bool (((!r6) || (r4.2 != (0 : Int))))) rfl rfl) ?_
  refine ro_gval (g := (!((!r6) || (r4.2 != (0 : Int))))) (d := (some 32)) rfl (.no 6 31 true ((!r6) || (r4.2 != (0 : Int))) rfl rfl rfl rfl) rfl (fun hg => q_move (v := .pointer (r4.1)) rfl rfl) ?_
  refine ro_gval (g := (!((!r6) || (r4.2 != (0 : Int))))) (d := (some 33)) rfl (.no 6 31 true ((!r6) || (r4.2 != (0 : Int))) rfl rfl rfl rfl) rfl (fun hg => q_eqP0 (a := r4.1) rfl Try.underlying23 (gvb_yes hg) rfl) ?_
  refine ro_val (d := (some 34)) rfl (.free rfl) rfl (q_pickGF (a := ((!r6) || (r4.2 != (0 : Int)))) (c := r4.1.isNone) rfl rfl rfl rfl) ?_
  refine ro_nil ?_
  refine wp_if (b := (((!r6) || (r4.2 != (0 : Int))) || r4.1.isNone)) rfl h (fun hb116 h => ?_) (fun hb116 h => ?_)
  · refine wp_seq ?_
    refine wp_text [0, 1, 2, 3, 4, 5] rfl ?_
    refine ro_wp rfl (.free rfl) (wp_cl (d := (some 35)) rfl (q_call (k := 10) (l := []) rfl ent10 rfl) h ?_)
    intro r8 w7 h
    refine ro_val (d := (some 36)) rfl (.free rfl) rfl (q_move (v := .bool (r8)) rfl rfl) ?_
    refine ro_gval (g := r8) (d := (some 37)) rfl (.yes 1 36 true r8 rfl rfl rfl rfl) rfl (fun hg => q_move (v := .pointer (r4.1)) rfl rfl) ?_
    refine ro_gval (g := r8) (d := (some 38)) rfl (.yes 1 36 true r8 rfl rfl rfl rfl) rfl (fun hg => q_eqP0 (a := r4.1) rfl Try.underlying23 (gvb_yes hg) rfl) ?_
    refine ro_val (d := (some 39)) rfl (.free rfl) rfl (q_pickGT (a := r8) (b := r4.1.isNone) rfl rfl rfl rfl) ?_
    refine ro_val (d := (some 4)) rfl (.free rfl) rfl (q_assign (v := .bool ((r8 && r4.1.isNone))) rfl rfl) ?_
    refine ro_nil ?_
    refine wp_ret ?_
    exact ret_ok rfl (.cons (.tmp (v := .bool ((r8 && r4.1.isNone))) rfl) .nil) ⟨(r8 && r4.1.isNone), rfl, h⟩
  · refine wp_skip ?_
    refine wp_seq ?_
    refine wp_text [0] rfl ?_
    obtain ⟨a9, w10, ha9, hw10, h⟩ := nw_open h
    refine ro_val (d := (some 7)) rfl (.free rfl) rfl (q_alloc (u := (Vector.replicate 61 Z28)) rfl ok42 inf42 ha9 hw10) ?_
    refine ro_nil ?_
    refine wp_seq ?_
    refine wp_text [0] rfl ?_
    obtain ⟨a11, w12, ha11, hw12, h⟩ := nw_open h
    refine ro_val (d := (some 8)) rfl (.free rfl) rfl (q_alloc (u := (Vector.replicate 61 (0 : Int))) rfl ok43 inf43 ha11 hw12) ?_
    refine ro_nil ?_
    refine wp_seq ?_
    refine wp_text [0] rfl ?_
    refine ro_val (d := (some 9)) rfl (.free rfl) rfl (q_assign (v := .int .i64 ((0 : Int))) rfl rfl) ?_
    refine ro_nil ?_
    refine wp_seq ?_
    refine wp_seq ?_
    refine wp_text [0] rfl ?_
    refine ro_val (d := (some 10)) rfl (.free rfl) rfl (q_assign (v := .int .i64 ((0 : Int))) rfl rfl) ?_
    refine ro_nil ?_
    refine wp_block ?_
    refine loop_at (σ := Int × Int) (fr := fun g (s : Int × Int) => upd (upd (upd (upd (upd (upd (g) 1 (tSlc.enc (l_2))) 5 (.pointer (r4.1))) 7 (.pointer (some a9))) 8 (.pointer (some a11))) 9 (.int .i64 (s.1))) 10 (.int .i64 (s.2))) (s0 := ((0 : Int), (0 : Int))) (upd_step (upd_step (upd_step (upd_step (upd_step (upd_step rfl rfl) rfl) rfl) rfl) rfl) rfl) h ?_
    rintro ⟨many_13, i_14⟩ g w15 K16 h
    unfold F5_l1 at h
    refine wp_seq ?_
    refine wp_seq ?_
    refine wp_text [0, 1, 2, 3, 4, 5, 6, 7] rfl ?_
    refine ro_val (d := (some 40)) rfl (.free rfl) rfl (q_move (v := .int .i64 (i_14)) rfl rfl) ?_
    refine ro_val (d := (some 41)) rfl (.free rfl) rfl (q_move (v := tSlc.enc (l_2)) rfl rfl) ?_
    refine ro_val (d := (some 42)) rfl (.free rfl) rfl (q_len (s := l_2) rfl Try.underlying22 rfl) ?_
    refine ro_val (d := (some 43)) rfl (.free rfl) rfl (q_lss (a := i_14) (b := (l_2.len : Int)) rfl rfl rfl) ?_
    refine ro_val (d := (some 44)) rfl (.free rfl) rfl (q_move (v := .bool ((decide (i_14 < (l_2.len : Int))))) rfl rfl) ?_
    refine ro_gval (g := (decide (i_14 < (l_2.len : Int)))) (d := (some 45)) rfl (.yes 4 44 true (decide (i_14 < (l_2.len : Int))) rfl rfl rfl rfl) rfl (fun hg => q_move (v := .int .i64 (i_14)) rfl rfl) ?_
    refine ro_gval (g := (decide (i_14 < (l_2.len : Int)))) (d := (some 46)) rfl (.yes 4 44 true (decide (i_14 < (l_2.len : Int))) rfl rfl rfl rfl) rfl (fun hg => q_lss (a := i_14) (b := (60 : Int)) rfl (gvb_yes hg) rfl) ?_
    refine ro_val (d := (some 47)) rfl (.free rfl) rfl (q_pickGT (a := (decide (i_14 < (l_2.len : Int)))) (b := (decide (i_14 < (60 : Int)))) rfl rfl rfl rfl) ?_
    refine ro_nil ?_
    refine wp_if (b := ((decide (i_14 < (l_2.len : Int))) && (decide (i_14 < (60 : Int))))) rfl h (fun hb115 h => ?_) (fun hb115 h => ?_)
    · refine wp_skip ?_
      refine seq_join (σ := Int) (J := fun (s : Int) w => F5_j2 i_14 s w K16 R) (fr := fun g (s : Int) => upd (upd (upd (upd (upd (upd (g) 1 (tSlc.enc (l_2))) 5 (.pointer (r4.1))) 7 (.pointer (some a9))) 8 (.pointer (some a11))) 10 (.int .i64 (i_14))) 9 (.int .i64 (s))) ?_ ?_
      · rintro many_17 g w18 h
        unfold F5_j2 at h
        refine wp_text [0, 1, 2] rfl ?_
        refine ro_val (d := (some 48)) rfl (.free rfl) rfl (q_move (v := .int .i64 (i_14)) rfl rfl) ?_
        refine ro_val (d := (some 49)) rfl (.free rfl) rfl (q_add (a := i_14) (b := (1 : Int)) rfl rfl rfl) ?_
        refine ro_val (d := (some 10)) rfl (.free rfl) rfl (q_assign (v := .int .i64 ((IntKind.i64.wrap (i_14 + (1 : Int))))) rfl rfl) ?_
        refine ro_nil ?_
        exact ⟨(many_17, (IntKind.i64.wrap (i_14 + (1 : Int)))), _, arr (upd_step (upd_step (upd_step (upd_step (upd_step (upd_step rfl rfl) rfl) rfl) rfl) rfl) rfl), h⟩
      · refine wp_block ?_
        refine wp_seq ?_
        refine wp_text [0, 1, 2, 3, 4, 5, 6] rfl ?_
        refine ro_val (d := (some 50)) rfl (.free rfl) rfl (q_move (v := tSlc.enc (l_2)) rfl rfl) ?_
        refine ro_val (d := (some 51)) rfl (.free rfl) rfl (q_move (v := .int .i64 (i_14)) rfl rfl) ?_
        obtain ⟨a19, ha19, h⟩ := h
        refine ro_val (d := (some 52)) rfl (.free rfl) rfl (q_indexAddr (s := l_2) (i := i_14) rfl Try.underlying22 ok29 rfl rfl ha19) ?_
        obtain ⟨x20, hx20, h⟩ := h
        refine ro_val (d := (some 53)) rfl (.free rfl) rfl (q_load (T := T28) (u := x20) (a := a19) rfl ok29 rfl hx20) ?_
        refine ro_wp rfl (.free rfl) (wp_cl (d := (some 54)) rfl (q_call (k := 15) (l := [T28.enc (x20)]) rfl ent15 rfl) h ?_)
        intro r22 w21 h
        obtain ⟨a23, w24, ha23, hw24, h⟩ := nw_open h
        refine ro_val (d := (some 11)) rfl (.free rfl) rfl (q_alloc (u := Z28) rfl ok29 inf29 ha23 hw24) ?_
        obtain ⟨w25, hw25, hrw25, h⟩ := st_open h
        refine ro_skip (d := none) rfl (.free rfl) rfl (q_store (T := T28) (u := r22) (a := a23) rfl ok29 rfl rfl hrw25 hw25) ?_
        refine ro_nil ?_
        refine wp_seq ?_
        refine wp_text [0, 1] rfl ?_
        refine ro_val (d := (some 55)) rfl (.free rfl) rfl (q_fieldAddr (a := a23) (off := 0) rfl Try.underlying29 rfl rfl ok3 (by decide) rfl) ?_
        obtain ⟨x26, hx26, h⟩ := h
        refine ro_val (d := (some 56)) rfl (.free rfl) rfl (q_load (T := (tInt .i64)) (u := x26) (a := (a23.add 0)) rfl ok3 rfl hx26) ?_
        refine ro_nil ?_
        refine wp_block ?_
        refine wp_seq ?_
        refine wp_text [0, 1] rfl ?_
        refine ro_val (d := (some 58)) rfl (.free rfl) rfl (q_eql (a := x26) (b := (0 : Int)) rfl rfl rfl) ?_
        refine ro_val (d := (some 57)) rfl (.free rfl) rfl (q_assign (v := .bool ((x26 == (0 : Int)))) rfl rfl) ?_
        refine ro_nil ?_
        refine wp_if (b := (x26 == (0 : Int))) rfl h (fun hb105 h => ?_) (fun hb105 h => ?_)
        · refine wp_seq ?_
          refine wp_text [0, 1, 2, 3, 4, 5, 6, 7, 8, 9, 10, 11, 12] rfl ?_
          refine ro_val (d := (some 60)) rfl (.free rfl) rfl (q_move (v := .pointer (r4.1)) rfl rfl) ?_
          refine ro_val (d := (some 61)) rfl (.free rfl) rfl (q_fieldAddr (a := a23) (off := 1) rfl Try.underlying29 rfl rfl ok3 (by decide) rfl) ?_
          obtain ⟨x27, hx27, h⟩ := h
          refine ro_val (d := (some 62)) rfl (.free rfl) rfl (q_load (T := (tInt .i64)) (u := x27) (a := (a23.add 1)) rfl ok3 rfl hx27) ?_
          refine ro_val (d := (some 63)) rfl (.free rfl) rfl (q_fieldAddr (a := a23) (off := 2) rfl Try.underlying29 rfl rfl ok3 (by decide) rfl) ?_
          obtain ⟨x28, hx28, h⟩ := h
          refine ro_val (d := (some 64)) rfl (.free rfl) rfl (q_load (T := (tInt .i64)) (u := x28) (a := (a23.add 2)) rfl ok3 rfl hx28) ?_
          refine ro_val (d := (some 65)) rfl (.free rfl) rfl (q_fieldAddr (a := a23) (off := 3) rfl Try.underlying29 rfl rfl ok9 (by decide) rfl) ?_
          obtain ⟨x29, hx29, h⟩ := h
          refine ro_val (d := (some 66)) rfl (.free rfl) rfl (q_load (T := tStr) (u := x29) (a := (a23.add 3)) rfl ok9 rfl hx29) ?_
          refine ro_wp rfl (.free rfl) (wp_cl (d := (some 67)) rfl (q_call (k := 11) (l := [.pointer (r4.1), .int .i64 (x27), .int .i64 (x28), .string ⟨(x29).toArray⟩]) rfl ent11 rfl) h ?_)
          intro r31 w30 h
          refine ro_val (d := (some 59)) rfl (.free rfl) rfl (q_move (v := (tTup2 (tInt .i64) (tInt .i64)).enc (r31)) rfl rfl) ?_
          refine ro_val (d := (some 68)) rfl (.free rfl) rfl (q_extract (vs := #[.int .i64 (r31.1), .int .i64 (r31.2)]) (v := .int .i64 (r31.1)) rfl rfl rfl) ?_
          refine ro_val (d := (some 69)) rfl (.free rfl) rfl (q_extract (vs := #[.int .i64 (r31.1), .int .i64 (r31.2)]) (v := .int .i64 (r31.2)) rfl rfl rfl) ?_
          refine ro_val (d := (some 12)) rfl (.free rfl) rfl (q_assign (v := .int .i64 (r31.1)) rfl rfl) ?_
          refine ro_val (d := (some 13)) rfl (.free rfl) rfl (q_assign (v := .int .i64 (r31.2)) rfl rfl) ?_
          refine ro_nil ?_
          refine wp_seq ?_
          refine wp_seq ?_
          refine wp_text [0, 1] rfl ?_
          refine ro_val (d := (some 70)) rfl (.free rfl) rfl (q_move (v := .int .i64 (r31.2)) rfl rfl) ?_
          refine ro_val (d := (some 71)) rfl (.free rfl) rfl (q_neq (a := r31.2) (b := (0 : Int)) rfl rfl rfl) ?_
          refine ro_nil ?_
          refine wp_if (b := (r31.2 != (0 : Int))) rfl h (fun hb38 h => ?_) (fun hb38 h => ?_)
          · refine wp_exit ?_
            exact ⟨(many_13), _, arr (upd_step (upd_step (upd_step (upd_step (upd_step (upd_step rfl rfl) rfl) rfl) rfl) rfl) rfl), h⟩
          · refine wp_skip ?_
            refine wp_seq ?_
            refine wp_text [0, 1, 2] rfl ?_
            refine ro_val (d := (some 72)) rfl (.free rfl) rfl (q_move (v := .int .i64 (many_13)) rfl rfl) ?_
            refine ro_val (d := (some 73)) rfl (.free rfl) rfl (q_add (a := many_13) (b := (1 : Int)) rfl rfl rfl) ?_
            refine ro_val (d := (some 9)) rfl (.free rfl) rfl (q_assign (v := .int .i64 ((IntKind.i64.wrap (many_13 + (1 : Int))))) rfl rfl) ?_
            refine ro_nil ?_
            refine wp_seq ?_
            refine wp_seq ?_
            refine wp_text [0, 1, 2] rfl ?_
            refine ro_val (d := (some 74)) rfl (.free rfl) rfl (q_move (v := .int .i64 (r31.1)) rfl rfl) ?_
            refine ro_val (d := (some 75)) rfl (.free rfl) rfl (q_move (v := .int .i64 ((IntKind.i64.wrap (many_13 + (1 : Int))))) rfl rfl) ?_
            refine ro_val (d := (some 76)) rfl (.free rfl) rfl (q_neq (a := r31.1) (b := (IntKind.i64.wrap (many_13 + (1 : Int)))) rfl rfl rfl) ?_
            refine ro_nil ?_
            refine wp_if (b := (r31.1 != (IntKind.i64.wrap (many_13 + (1 : Int))))) rfl h (fun hb37 h => ?_) (fun hb37 h => ?_)
            · refine wp_seq ?_
              refine wp_text [0] rfl ?_
              refine ro_val (d := (some 4)) rfl (.free rfl) rfl (q_assign (v := .bool (false)) rfl rfl) ?_
              refine ro_nil ?_
              refine wp_ret ?_
              exact ret_ok rfl (.cons (.tmp (v := .bool (false)) rfl) .nil) ⟨false, rfl, h⟩
            · refine wp_skip ?_
              refine wp_text [0, 1, 2, 3, 4, 5, 6] rfl ?_
              refine ro_val (d := (some 77)) rfl (.free rfl) rfl (q_move (v := .int .i64 (r31.1)) rfl rfl) ?_
              refine ro_val (d := (some 78)) rfl (.free rfl) rfl (q_move (v := .int .i64 (r31.1)) rfl rfl) ?_
              obtain ⟨x32, hx32, h⟩ := h
              refine ro_val (d := (some 79)) rfl (.free rfl) rfl (q_load (T := T28) (u := x32) (a := a23) rfl ok29 rfl hx32) ?_
              obtain ⟨a33, ha33, h⟩ := h
              refine ro_val (d := (some 80)) rfl (.free rfl) rfl (q_indexAddrA (b := a9) (i := r31.1) rfl Try.underlying42 ok29 rfl rfl ha33) ?_
              obtain ⟨w34, hw34, hrw34, h⟩ := st_open h
              refine ro_skip (d := none) rfl (.free rfl) rfl (q_store (T := T28) (u := x32) (a := a33) rfl ok29 rfl rfl hrw34 hw34) ?_
              obtain ⟨a35, ha35, h⟩ := h
              refine ro_val (d := (some 81)) rfl (.free rfl) rfl (q_indexAddrA (b := a11) (i := r31.1) rfl Try.underlying43 ok3 rfl rfl ha35) ?_
              obtain ⟨w36, hw36, hrw36, h⟩ := st_open h
              refine ro_skip (d := none) rfl (.free rfl) rfl (q_store (T := (tInt .i64)) (u := (1 : Int)) (a := a35) rfl ok3 rfl rfl hrw36 hw36) ?_
              refine ro_nil ?_
              exact ⟨((IntKind.i64.wrap (many_13 + (1 : Int)))), _, arr (upd_step (upd_step (upd_step (upd_step (upd_step (upd_step rfl rfl) rfl) rfl) rfl) rfl) rfl), h⟩
        · refine wp_seq ?_
          refine wp_text [0, 1] rfl ?_
          refine ro_val (d := (some 83)) rfl (.free rfl) rfl (q_eql (a := x26) (b := (1 : Int)) rfl rfl rfl) ?_
          refine ro_val (d := (some 82)) rfl (.free rfl) rfl (q_assign (v := .bool ((x26 == (1 : Int)))) rfl rfl) ?_
          refine ro_nil ?_
          refine wp_if (b := (x26 == (1 : Int))) rfl h (fun hb104 h => ?_) (fun hb104 h => ?_)
          · refine wp_seq ?_
            refine wp_text [0, 1, 2, 3, 4, 5, 6, 7, 8, 9] rfl ?_
            refine ro_val (d := (some 85)) rfl (.free rfl) rfl (q_move (v := .pointer (r4.1)) rfl rfl) ?_
            refine ro_val (d := (some 86)) rfl (.free rfl) rfl (q_fieldAddr (a := a23) (off := 1) rfl Try.underlying29 rfl rfl ok3 (by decide) rfl) ?_
            obtain ⟨x39, hx39, h⟩ := h
            refine ro_val (d := (some 87)) rfl (.free rfl) rfl (q_load (T := (tInt .i64)) (u := x39) (a := (a23.add 1)) rfl ok3 rfl hx39) ?_
            refine ro_wp rfl (.free rfl) (wp_cl (d := (some 88)) rfl (q_call (k := 14) (l := [.pointer (r4.1), .int .i64 (x39)]) rfl ent14 rfl) h ?_)
            intro r41 w40 h
            refine ro_val (d := (some 84)) rfl (.free rfl) rfl (q_move (v := (tTup2 T35 (tInt .i64)).enc (r41)) rfl rfl) ?_
            refine ro_val (d := (some 89)) rfl (.free rfl) rfl (q_extract (vs := #[T35.enc (r41.1), .int .i64 (r41.2)]) (v := T35.enc (r41.1)) rfl rfl rfl) ?_
            refine ro_val (d := (some 90)) rfl (.free rfl) rfl (q_extract (vs := #[T35.enc (r41.1), .int .i64 (r41.2)]) (v := .int .i64 (r41.2)) rfl rfl rfl) ?_
            obtain ⟨a42, w43, ha42, hw43, h⟩ := nw_open h
            refine ro_val (d := (some 14)) rfl (.free rfl) rfl (q_alloc (u := Z35) rfl ok36 inf36 ha42 hw43) ?_
            obtain ⟨w44, hw44, hrw44, h⟩ := st_open h
            refine ro_skip (d := none) rfl (.free rfl) rfl (q_store (T := T35) (u := r41.1) (a := a42) rfl ok36 rfl rfl hrw44 hw44) ?_
            refine ro_val (d := (some 15)) rfl (.free rfl) rfl (q_assign (v := .int .i64 (r41.2)) rfl rfl) ?_
            refine ro_nil ?_
            refine wp_seq ?_
            refine wp_seq ?_
            refine wp_text [0, 1] rfl ?_
            refine ro_val (d := (some 91)) rfl (.free rfl) rfl (q_move (v := .int .i64 (r41.2)) rfl rfl) ?_
            refine ro_val (d := (some 92)) rfl (.free rfl) rfl (q_neq (a := r41.2) (b := (0 : Int)) rfl rfl rfl) ?_
            refine ro_nil ?_
            refine wp_if (b := (r41.2 != (0 : Int))) rfl h (fun hb69 h => ?_) (fun hb69 h => ?_)
            · refine wp_exit ?_
              exact ⟨(many_13), _, arr (upd_step (upd_step (upd_step (upd_step (upd_step (upd_step rfl rfl) rfl) rfl) rfl) rfl) rfl), h⟩
            · refine wp_skip ?_
              refine wp_seq ?_
              refine wp_seq ?_
              obtain ⟨w45, hw45, h⟩ := dr_open h
              refine wp_drawn 46 mixed rfl (by kernel_rfl) (by intro c a d v w h; cases d <;> exact h) hw45 (fun hD => ?_)
              refine rd_pure (i := 0) (d := (some 93)) hD (by kernel_rfl) (by kernel_rfl) rfl (.free rfl) rfl (fun _ => q_fieldAddr (a := a42) (off := 0) rfl Try.underlying36 rfl rfl ok3 (by decide) rfl) ?_
              obtain ⟨x46, hx46, h⟩ := h
              refine rd_read (i := 1) (d := (some 94)) (fun W => (RdAt (tInt .i64) (a42.add 0) W) x46) hD (by kernel_rfl) (by kernel_rfl) rfl (.free rfl) rfl (fun W hr => q_load (T := (tInt .i64)) (u := x46) (a := (a42.add 0)) rfl ok3 rfl hr) hx46 ?_
              refine rd_pure (i := 2) (d := (some 95)) hD (by kernel_rfl) (by kernel_rfl) rfl (.free rfl) rfl (fun _ => q_lss (a := x46) (b := (1 : Int)) rfl rfl rfl) ?_
              refine rd_pure (i := 3) (d := (some 96)) hD (by kernel_rfl) (by kernel_rfl) rfl (.free rfl) rfl (fun _ => q_move (v := .bool ((decide (x46 < (1 : Int))))) rfl rfl) ?_
              refine rd_gpure (i := 4) (g := (!(decide (x46 < (1 : Int))))) (d := (some 97)) hD (by kernel_rfl) (by kernel_rfl) rfl (.no 3 96 true (decide (x46 < (1 : Int))) rfl rfl rfl rfl) rfl (fun hg _ => q_fieldAddr (a := a42) (off := 0) rfl Try.underlying36 rfl rfl ok3 (by decide) rfl) ?_
              refine rd_gpure (i := 6) (g := (!(decide (x46 < (1 : Int))))) (d := (some 99)) hD (by kernel_rfl) (by kernel_rfl) rfl (.no 3 96 true (decide (x46 < (1 : Int))) rfl rfl rfl rfl) rfl (fun hg _ => q_move (v := .int .i64 (many_13)) rfl rfl) ?_
              obtain ⟨x47, hx47, h⟩ := h
              refine rd_gread (i := 5) (g := (!(decide (x46 < (1 : Int))))) (d := (some 98)) (fun W => (RdAt (tInt .i64) (a42.add 0) W) x47) hD (by kernel_rfl) (by kernel_rfl) rfl (.no 3 96 true (decide (x46 < (1 : Int))) rfl rfl rfl rfl) rfl (fun hg W hr => q_load (T := (tInt .i64)) (u := x47) (a := (a42.add 0)) rfl ok3 (gvb_yes hg) hr) hx47 ?_
              refine rd_gpure (i := 7) (g := (!(decide (x46 < (1 : Int))))) (d := (some 100)) hD (by kernel_rfl) (by kernel_rfl) rfl (.no 3 96 true (decide (x46 < (1 : Int))) rfl rfl rfl rfl) rfl (fun hg _ => q_gtr (a := x47) (b := many_13) rfl (gvb_yes hg) (gvb_yes hg)) ?_
              refine rd_pure (i := 8) (d := (some 101)) hD (by kernel_rfl) (by kernel_rfl) rfl (.free rfl) rfl (fun _ => q_pickGF (a := (decide (x46 < (1 : Int)))) (c := (decide (x47 > many_13))) rfl rfl rfl rfl) ?_
              refine rd_pure (i := 9) (d := (some 102)) hD (by kernel_rfl) (by kernel_rfl) rfl (.free rfl) rfl (fun _ => q_move (v := .bool (((decide (x46 < (1 : Int))) || (decide (x47 > many_13))))) rfl rfl) ?_
              refine rd_gpure (i := 10) (g := (!((decide (x46 < (1 : Int))) || (decide (x47 > many_13))))) (d := (some 103)) hD (by kernel_rfl) (by kernel_rfl) rfl (.no 9 102 true ((decide (x46 < (1 : Int))) || (decide (x47 > many_13))) rfl rfl rfl rfl) rfl (fun hg _ => q_fieldAddr (a := a42) (off := 0) rfl Try.underlying36 rfl rfl ok3 (by decide) rfl) ?_
              obtain ⟨x48, hx48, h⟩ := h
              refine rd_gread (i := 11) (g := (!((decide (x46 < (1 : Int))) || (decide (x47 > many_13))))) (d := (some 104)) (fun W => (RdAt (tInt .i64) (a42.add 0) W) x48) hD (by kernel_rfl) (by kernel_rfl) rfl (.no 9 102 true ((decide (x46 < (1 : Int))) || (decide (x47 > many_13))) rfl rfl rfl rfl) rfl (fun hg W hr => q_load (T := (tInt .i64)) (u := x48) (a := (a42.add 0)) rfl ok3 (gvb_yes hg) hr) hx48 ?_
              obtain ⟨a49, ha49, h⟩ := h
              refine rd_gpure (i := 12) (g := (!((decide (x46 < (1 : Int))) || (decide (x47 > many_13))))) (d := (some 105)) hD (by kernel_rfl) (by kernel_rfl) rfl (.no 9 102 true ((decide (x46 < (1 : Int))) || (decide (x47 > many_13))) rfl rfl rfl rfl) rfl (fun hg _ => q_indexAddrA (b := a11) (i := x48) rfl Try.underlying43 ok3 rfl (gvb_yes hg) (ha49 hg)) ?_
              obtain ⟨x50, hx50, h⟩ := h
              refine rd_gread (i := 13) (g := (!((decide (x46 < (1 : Int))) || (decide (x47 > many_13))))) (d := (some 106)) (fun W => (RdAt (tInt .i64) a49 W) x50) hD (by kernel_rfl) (by kernel_rfl) rfl (.no 9 102 true ((decide (x46 < (1 : Int))) || (decide (x47 > many_13))) rfl rfl rfl rfl) rfl (fun hg W hr => q_load (T := (tInt .i64)) (u := x50) (a := a49) rfl ok3 (gvb_yes hg) hr) hx50 ?_
              refine rd_gpure (i := 14) (g := (!((decide (x46 < (1 : Int))) || (decide (x47 > many_13))))) (d := (some 107)) hD (by kernel_rfl) (by kernel_rfl) rfl (.no 9 102 true ((decide (x46 < (1 : Int))) || (decide (x47 > many_13))) rfl rfl rfl rfl) rfl (fun hg _ => q_lss (a := x50) (b := (1 : Int)) rfl (gvb_yes hg) rfl) ?_
              refine rd_pure (i := 15) (d := (some 108)) hD (by kernel_rfl) (by kernel_rfl) rfl (.free rfl) rfl (fun _ => q_pickGF (a := ((decide (x46 < (1 : Int))) || (decide (x47 > many_13)))) (c := (decide (x50 < (1 : Int)))) rfl rfl rfl rfl) ?_
              refine rd_pure (i := 16) (d := (some 109)) hD (by kernel_rfl) (by kernel_rfl) rfl (.free rfl) rfl (fun _ => q_move (v := .bool ((((decide (x46 < (1 : Int))) || (decide (x47 > many_13))) || (decide (x50 < (1 : Int)))))) rfl rfl) ?_
              refine rd_gpure (i := 17) (g := (!(((decide (x46 < (1 : Int))) || (decide (x47 > many_13))) || (decide (x50 < (1 : Int)))))) (d := (some 110)) hD (by kernel_rfl) (by kernel_rfl) rfl (.no 16 109 true (((decide (x46 < (1 : Int))) || (decide (x47 > many_13))) || (decide (x50 < (1 : Int)))) rfl rfl rfl rfl) rfl (fun hg _ => q_fieldAddr (a := a42) (off := 0) rfl Try.underlying36 rfl rfl ok3 (by decide) rfl) ?_
              refine rd_gpure (i := 22) (g := (!(((decide (x46 < (1 : Int))) || (decide (x47 > many_13))) || (decide (x50 < (1 : Int)))))) (d := (some 115)) hD (by kernel_rfl) (by kernel_rfl) rfl (.no 16 109 true (((decide (x46 < (1 : Int))) || (decide (x47 > many_13))) || (decide (x50 < (1 : Int)))) rfl rfl rfl rfl) rfl (fun hg _ => q_fieldAddr (a := a42) (off := 1) rfl Try.underlying36 rfl rfl ok3 (by decide) rfl) ?_
              obtain ⟨x51, hx51, h⟩ := h
              refine rd_gread (i := 18) (g := (!(((decide (x46 < (1 : Int))) || (decide (x47 > many_13))) || (decide (x50 < (1 : Int)))))) (d := (some 111)) (fun W => (RdAt (tInt .i64) (a42.add 0) W) x51) hD (by kernel_rfl) (by kernel_rfl) rfl (.no 16 109 true (((decide (x46 < (1 : Int))) || (decide (x47 > many_13))) || (decide (x50 < (1 : Int)))) rfl rfl rfl rfl) rfl (fun hg W hr => q_load (T := (tInt .i64)) (u := x51) (a := (a42.add 0)) rfl ok3 (gvb_yes hg) hr) hx51 ?_
              obtain ⟨a52, ha52, h⟩ := h
              refine rd_gpure (i := 19) (g := (!(((decide (x46 < (1 : Int))) || (decide (x47 > many_13))) || (decide (x50 < (1 : Int)))))) (d := (some 112)) hD (by kernel_rfl) (by kernel_rfl) rfl (.no 16 109 true (((decide (x46 < (1 : Int))) || (decide (x47 > many_13))) || (decide (x50 < (1 : Int)))) rfl rfl rfl rfl) rfl (fun hg _ => q_indexAddrA (b := a9) (i := x51) rfl Try.underlying42 ok29 rfl (gvb_yes hg) (ha52 hg)) ?_
              refine rd_gpure (i := 20) (g := (!(((decide (x46 < (1 : Int))) || (decide (x47 > many_13))) || (decide (x50 < (1 : Int)))))) (d := (some 113)) hD (by kernel_rfl) (by kernel_rfl) rfl (.no 16 109 true (((decide (x46 < (1 : Int))) || (decide (x47 > many_13))) || (decide (x50 < (1 : Int)))) rfl rfl rfl rfl) rfl (fun hg _ => q_fieldAddr (a := a52) (off := 1) rfl Try.underlying29 rfl rfl ok3 (by decide) (gvb_yes hg)) ?_
              obtain ⟨x53, hx53, h⟩ := h
              refine rd_gread (i := 21) (g := (!(((decide (x46 < (1 : Int))) || (decide (x47 > many_13))) || (decide (x50 < (1 : Int)))))) (d := (some 114)) (fun W => (RdAt (tInt .i64) (a52.add 1) W) x53) hD (by kernel_rfl) (by kernel_rfl) rfl (.no 16 109 true (((decide (x46 < (1 : Int))) || (decide (x47 > many_13))) || (decide (x50 < (1 : Int)))) rfl rfl rfl rfl) rfl (fun hg W hr => q_load (T := (tInt .i64)) (u := x53) (a := (a52.add 1)) rfl ok3 (gvb_yes hg) hr) hx53 ?_
              obtain ⟨x54, hx54, h⟩ := h
              refine rd_gread (i := 23) (g := (!(((decide (x46 < (1 : Int))) || (decide (x47 > many_13))) || (decide (x50 < (1 : Int)))))) (d := (some 116)) (fun W => (RdAt (tInt .i64) (a42.add 1) W) x54) hD (by kernel_rfl) (by kernel_rfl) rfl (.no 16 109 true (((decide (x46 < (1 : Int))) || (decide (x47 > many_13))) || (decide (x50 < (1 : Int)))) rfl rfl rfl rfl) rfl (fun hg W hr => q_load (T := (tInt .i64)) (u := x54) (a := (a42.add 1)) rfl ok3 (gvb_yes hg) hr) hx54 ?_
              refine rd_gpure (i := 24) (g := (!(((decide (x46 < (1 : Int))) || (decide (x47 > many_13))) || (decide (x50 < (1 : Int)))))) (d := (some 117)) hD (by kernel_rfl) (by kernel_rfl) rfl (.no 16 109 true (((decide (x46 < (1 : Int))) || (decide (x47 > many_13))) || (decide (x50 < (1 : Int)))) rfl rfl rfl rfl) rfl (fun hg _ => q_neq (a := x53) (b := x54) rfl (gvb_yes hg) (gvb_yes hg)) ?_
              refine rd_pure (i := 25) (d := (some 118)) hD (by kernel_rfl) (by kernel_rfl) rfl (.free rfl) rfl (fun _ => q_pickGF (a := (((decide (x46 < (1 : Int))) || (decide (x47 > many_13))) || (decide (x50 < (1 : Int))))) (c := (x53 != x54)) rfl rfl rfl rfl) ?_
              refine rd_pure (i := 26) (d := (some 119)) hD (by kernel_rfl) (by kernel_rfl) rfl (.free rfl) rfl (fun _ => q_move (v := .bool (((((decide (x46 < (1 : Int))) || (decide (x47 > many_13))) || (decide (x50 < (1 : Int)))) || (x53 != x54)))) rfl rfl) ?_
              refine rd_gpure (i := 27) (g := (!((((decide (x46 < (1 : Int))) || (decide (x47 > many_13))) || (decide (x50 < (1 : Int)))) || (x53 != x54)))) (d := (some 120)) hD (by kernel_rfl) (by kernel_rfl) rfl (.no 26 119 true ((((decide (x46 < (1 : Int))) || (decide (x47 > many_13))) || (decide (x50 < (1 : Int)))) || (x53 != x54)) rfl rfl rfl rfl) rfl (fun hg _ => q_fieldAddr (a := a42) (off := 0) rfl Try.underlying36 rfl rfl ok3 (by decide) rfl) ?_
              refine rd_gpure (i := 32) (g := (!((((decide (x46 < (1 : Int))) || (decide (x47 > many_13))) || (decide (x50 < (1 : Int)))) || (x53 != x54)))) (d := (some 125)) hD (by kernel_rfl) (by kernel_rfl) rfl (.no 26 119 true ((((decide (x46 < (1 : Int))) || (decide (x47 > many_13))) || (decide (x50 < (1 : Int)))) || (x53 != x54)) rfl rfl rfl rfl) rfl (fun hg _ => q_fieldAddr (a := a42) (off := 2) rfl Try.underlying36 rfl rfl ok3 (by decide) rfl) ?_
              obtain ⟨x55, hx55, h⟩ := h
              refine rd_gread (i := 28) (g := (!((((decide (x46 < (1 : Int))) || (decide (x47 > many_13))) || (decide (x50 < (1 : Int)))) || (x53 != x54)))) (d := (some 121)) (fun W => (RdAt (tInt .i64) (a42.add 0) W) x55) hD (by kernel_rfl) (by kernel_rfl) rfl (.no 26 119 true ((((decide (x46 < (1 : Int))) || (decide (x47 > many_13))) || (decide (x50 < (1 : Int)))) || (x53 != x54)) rfl rfl rfl rfl) rfl (fun hg W hr => q_load (T := (tInt .i64)) (u := x55) (a := (a42.add 0)) rfl ok3 (gvb_yes hg) hr) hx55 ?_
              obtain ⟨a56, ha56, h⟩ := h
              refine rd_gpure (i := 29) (g := (!((((decide (x46 < (1 : Int))) || (decide (x47 > many_13))) || (decide (x50 < (1 : Int)))) || (x53 != x54)))) (d := (some 122)) hD (by kernel_rfl) (by kernel_rfl) rfl (.no 26 119 true ((((decide (x46 < (1 : Int))) || (decide (x47 > many_13))) || (decide (x50 < (1 : Int)))) || (x53 != x54)) rfl rfl rfl rfl) rfl (fun hg _ => q_indexAddrA (b := a9) (i := x55) rfl Try.underlying42 ok29 rfl (gvb_yes hg) (ha56 hg)) ?_
              refine rd_gpure (i := 30) (g := (!((((decide (x46 < (1 : Int))) || (decide (x47 > many_13))) || (decide (x50 < (1 : Int)))) || (x53 != x54)))) (d := (some 123)) hD (by kernel_rfl) (by kernel_rfl) rfl (.no 26 119 true ((((decide (x46 < (1 : Int))) || (decide (x47 > many_13))) || (decide (x50 < (1 : Int)))) || (x53 != x54)) rfl rfl rfl rfl) rfl (fun hg _ => q_fieldAddr (a := a56) (off := 2) rfl Try.underlying29 rfl rfl ok3 (by decide) (gvb_yes hg)) ?_
              obtain ⟨x57, hx57, h⟩ := h
              refine rd_gread (i := 31) (g := (!((((decide (x46 < (1 : Int))) || (decide (x47 > many_13))) || (decide (x50 < (1 : Int)))) || (x53 != x54)))) (d := (some 124)) (fun W => (RdAt (tInt .i64) (a56.add 2) W) x57) hD (by kernel_rfl) (by kernel_rfl) rfl (.no 26 119 true ((((decide (x46 < (1 : Int))) || (decide (x47 > many_13))) || (decide (x50 < (1 : Int)))) || (x53 != x54)) rfl rfl rfl rfl) rfl (fun hg W hr => q_load (T := (tInt .i64)) (u := x57) (a := (a56.add 2)) rfl ok3 (gvb_yes hg) hr) hx57 ?_
              obtain ⟨x58, hx58, h⟩ := h
              refine rd_gread (i := 33) (g := (!((((decide (x46 < (1 : Int))) || (decide (x47 > many_13))) || (decide (x50 < (1 : Int)))) || (x53 != x54)))) (d := (some 126)) (fun W => (RdAt (tInt .i64) (a42.add 2) W) x58) hD (by kernel_rfl) (by kernel_rfl) rfl (.no 26 119 true ((((decide (x46 < (1 : Int))) || (decide (x47 > many_13))) || (decide (x50 < (1 : Int)))) || (x53 != x54)) rfl rfl rfl rfl) rfl (fun hg W hr => q_load (T := (tInt .i64)) (u := x58) (a := (a42.add 2)) rfl ok3 (gvb_yes hg) hr) hx58 ?_
              refine rd_gpure (i := 34) (g := (!((((decide (x46 < (1 : Int))) || (decide (x47 > many_13))) || (decide (x50 < (1 : Int)))) || (x53 != x54)))) (d := (some 127)) hD (by kernel_rfl) (by kernel_rfl) rfl (.no 26 119 true ((((decide (x46 < (1 : Int))) || (decide (x47 > many_13))) || (decide (x50 < (1 : Int)))) || (x53 != x54)) rfl rfl rfl rfl) rfl (fun hg _ => q_neq (a := x57) (b := x58) rfl (gvb_yes hg) (gvb_yes hg)) ?_
              refine rd_pure (i := 35) (d := (some 128)) hD (by kernel_rfl) (by kernel_rfl) rfl (.free rfl) rfl (fun _ => q_pickGF (a := ((((decide (x46 < (1 : Int))) || (decide (x47 > many_13))) || (decide (x50 < (1 : Int)))) || (x53 != x54))) (c := (x57 != x58)) rfl rfl rfl rfl) ?_
              refine rd_pure (i := 36) (d := (some 129)) hD (by kernel_rfl) (by kernel_rfl) rfl (.free rfl) rfl (fun _ => q_move (v := .bool ((((((decide (x46 < (1 : Int))) || (decide (x47 > many_13))) || (decide (x50 < (1 : Int)))) || (x53 != x54)) || (x57 != x58)))) rfl rfl) ?_
              refine rd_gpure (i := 37) (g := (!(((((decide (x46 < (1 : Int))) || (decide (x47 > many_13))) || (decide (x50 < (1 : Int)))) || (x53 != x54)) || (x57 != x58)))) (d := (some 130)) hD (by kernel_rfl) (by kernel_rfl) rfl (.no 36 129 true (((((decide (x46 < (1 : Int))) || (decide (x47 > many_13))) || (decide (x50 < (1 : Int)))) || (x53 != x54)) || (x57 != x58)) rfl rfl rfl rfl) rfl (fun hg _ => q_fieldAddr (a := a42) (off := 0) rfl Try.underlying36 rfl rfl ok3 (by decide) rfl) ?_
              refine rd_gpure (i := 42) (g := (!(((((decide (x46 < (1 : Int))) || (decide (x47 > many_13))) || (decide (x50 < (1 : Int)))) || (x53 != x54)) || (x57 != x58)))) (d := (some 135)) hD (by kernel_rfl) (by kernel_rfl) rfl (.no 36 129 true (((((decide (x46 < (1 : Int))) || (decide (x47 > many_13))) || (decide (x50 < (1 : Int)))) || (x53 != x54)) || (x57 != x58)) rfl rfl rfl rfl) rfl (fun hg _ => q_fieldAddr (a := a42) (off := 3) rfl Try.underlying36 rfl rfl ok9 (by decide) rfl) ?_
              obtain ⟨x59, hx59, h⟩ := h
              refine rd_gread (i := 38) (g := (!(((((decide (x46 < (1 : Int))) || (decide (x47 > many_13))) || (decide (x50 < (1 : Int)))) || (x53 != x54)) || (x57 != x58)))) (d := (some 131)) (fun W => (RdAt (tInt .i64) (a42.add 0) W) x59) hD (by kernel_rfl) (by kernel_rfl) rfl (.no 36 129 true (((((decide (x46 < (1 : Int))) || (decide (x47 > many_13))) || (decide (x50 < (1 : Int)))) || (x53 != x54)) || (x57 != x58)) rfl rfl rfl rfl) rfl (fun hg W hr => q_load (T := (tInt .i64)) (u := x59) (a := (a42.add 0)) rfl ok3 (gvb_yes hg) hr) hx59 ?_
              obtain ⟨a60, ha60, h⟩ := h
              refine rd_gpure (i := 39) (g := (!(((((decide (x46 < (1 : Int))) || (decide (x47 > many_13))) || (decide (x50 < (1 : Int)))) || (x53 != x54)) || (x57 != x58)))) (d := (some 132)) hD (by kernel_rfl) (by kernel_rfl) rfl (.no 36 129 true (((((decide (x46 < (1 : Int))) || (decide (x47 > many_13))) || (decide (x50 < (1 : Int)))) || (x53 != x54)) || (x57 != x58)) rfl rfl rfl rfl) rfl (fun hg _ => q_indexAddrA (b := a9) (i := x59) rfl Try.underlying42 ok29 rfl (gvb_yes hg) (ha60 hg)) ?_
              refine rd_gpure (i := 40) (g := (!(((((decide (x46 < (1 : Int))) || (decide (x47 > many_13))) || (decide (x50 < (1 : Int)))) || (x53 != x54)) || (x57 != x58)))) (d := (some 133)) hD (by kernel_rfl) (by kernel_rfl) rfl (.no 36 129 true (((((decide (x46 < (1 : Int))) || (decide (x47 > many_13))) || (decide (x50 < (1 : Int)))) || (x53 != x54)) || (x57 != x58)) rfl rfl rfl rfl) rfl (fun hg _ => q_fieldAddr (a := a60) (off := 3) rfl Try.underlying29 rfl rfl ok9 (by decide) (gvb_yes hg)) ?_
              obtain ⟨x61, hx61, h⟩ := h
              refine rd_gread (i := 41) (g := (!(((((decide (x46 < (1 : Int))) || (decide (x47 > many_13))) || (decide (x50 < (1 : Int)))) || (x53 != x54)) || (x57 != x58)))) (d := (some 134)) (fun W => (RdAt tStr (a60.add 3) W) x61) hD (by kernel_rfl) (by kernel_rfl) rfl (.no 36 129 true (((((decide (x46 < (1 : Int))) || (decide (x47 > many_13))) || (decide (x50 < (1 : Int)))) || (x53 != x54)) || (x57 != x58)) rfl rfl rfl rfl) rfl (fun hg W hr => q_load (T := tStr) (u := x61) (a := (a60.add 3)) rfl ok9 (gvb_yes hg) hr) hx61 ?_
              obtain ⟨x62, hx62, h⟩ := h
              refine rd_gread (i := 43) (g := (!(((((decide (x46 < (1 : Int))) || (decide (x47 > many_13))) || (decide (x50 < (1 : Int)))) || (x53 != x54)) || (x57 != x58)))) (d := (some 136)) (fun W => (RdAt tStr (a42.add 3) W) x62) hD (by kernel_rfl) (by kernel_rfl) rfl (.no 36 129 true (((((decide (x46 < (1 : Int))) || (decide (x47 > many_13))) || (decide (x50 < (1 : Int)))) || (x53 != x54)) || (x57 != x58)) rfl rfl rfl rfl) rfl (fun hg W hr => q_load (T := tStr) (u := x62) (a := (a42.add 3)) rfl ok9 (gvb_yes hg) hr) hx62 ?_
              refine rd_gpure (i := 44) (g := (!(((((decide (x46 < (1 : Int))) || (decide (x47 > many_13))) || (decide (x50 < (1 : Int)))) || (x53 != x54)) || (x57 != x58)))) (d := (some 137)) hD (by kernel_rfl) (by kernel_rfl) rfl (.no 36 129 true (((((decide (x46 < (1 : Int))) || (decide (x47 > many_13))) || (decide (x50 < (1 : Int)))) || (x53 != x54)) || (x57 != x58)) rfl rfl rfl rfl) rfl (fun hg _ => q_neS (a := x61) (b := x62) rfl (gvb_yes hg) (gvb_yes hg)) ?_
              refine rd_pure (i := 45) (d := (some 138)) hD (by kernel_rfl) (by kernel_rfl) rfl (.free rfl) rfl (fun _ => q_pickGF (a := (((((decide (x46 < (1 : Int))) || (decide (x47 > many_13))) || (decide (x50 < (1 : Int)))) || (x53 != x54)) || (x57 != x58))) (c := (!(x61 == x62))) rfl rfl rfl rfl) ?_
              refine rd_nil (by kernel_rfl) ?_
              refine wp_if (b := ((((((decide (x46 < (1 : Int))) || (decide (x47 > many_13))) || (decide (x50 < (1 : Int)))) || (x53 != x54)) || (x57 != x58)) || (!(x61 == x62)))) rfl h (fun hb68 h => ?_) (fun hb68 h => ?_)
              · refine wp_seq ?_
                refine wp_text [0] rfl ?_
                refine ro_val (d := (some 4)) rfl (.free rfl) rfl (q_assign (v := .bool (false)) rfl rfl) ?_
                refine ro_nil ?_
                refine wp_ret ?_
                exact ret_ok rfl (.cons (.tmp (v := .bool (false)) rfl) .nil) ⟨false, rfl, h⟩
              · refine wp_skip ?_
                refine wp_text [0, 1, 2, 3, 4, 5, 6] rfl ?_
                refine ro_val (d := (some 139)) rfl (.free rfl) rfl (q_fieldAddr (a := a42) (off := 0) rfl Try.underlying36 rfl rfl ok3 (by decide) rfl) ?_
                obtain ⟨x63, hx63, h⟩ := h
                refine ro_val (d := (some 140)) rfl (.free rfl) rfl (q_load (T := (tInt .i64)) (u := x63) (a := (a42.add 0)) rfl ok3 rfl hx63) ?_
                obtain ⟨a64, ha64, h⟩ := h
                refine ro_val (d := (some 141)) rfl (.free rfl) rfl (q_indexAddrA (b := a11) (i := x63) rfl Try.underlying43 ok3 rfl rfl ha64) ?_
                obtain ⟨x65, hx65, h⟩ := h
                refine ro_val (d := (some 142)) rfl (.free rfl) rfl (q_load (T := (tInt .i64)) (u := x65) (a := a64) rfl ok3 rfl hx65) ?_
                refine ro_val (d := (some 143)) rfl (.free rfl) rfl (q_sub (a := x65) (b := (1 : Int)) rfl rfl rfl) ?_
                obtain ⟨a66, ha66, h⟩ := h
                refine ro_val (d := (some 144)) rfl (.free rfl) rfl (q_indexAddrA (b := a11) (i := x63) rfl Try.underlying43 ok3 rfl rfl ha66) ?_
                obtain ⟨w67, hw67, hrw67, h⟩ := st_open h
                refine ro_skip (d := none) rfl (.free rfl) rfl (q_store (T := (tInt .i64)) (u := (IntKind.i64.wrap (x65 - (1 : Int)))) (a := a66) rfl ok3 rfl rfl hrw67 hw67) ?_
                refine ro_nil ?_
                exact ⟨(many_13), _, arr (upd_step (upd_step (upd_step (upd_step (upd_step (upd_step rfl rfl) rfl) rfl) rfl) rfl) rfl), h⟩
          · refine wp_seq ?_
            refine wp_text [0, 1] rfl ?_
            refine ro_val (d := (some 146)) rfl (.free rfl) rfl (q_eql (a := x26) (b := (2 : Int)) rfl rfl rfl) ?_
            refine ro_val (d := (some 145)) rfl (.free rfl) rfl (q_assign (v := .bool ((x26 == (2 : Int)))) rfl rfl) ?_
            refine ro_nil ?_
            refine wp_if (b := (x26 == (2 : Int))) rfl h (fun hb103 h => ?_) (fun hb103 h => ?_)
            · refine wp_seq ?_
              refine wp_text [0, 1, 2] rfl ?_
              refine ro_val (d := (some 147)) rfl (.free rfl) rfl (q_move (v := .pointer (r4.1)) rfl rfl) ?_
              refine ro_wp rfl (.free rfl) (wp_cl (d := (some 148)) rfl (q_call (k := 13) (l := [.pointer (r4.1)]) rfl ent13 rfl) h ?_)
              intro r71 w70 h
              refine ro_val (d := (some 16)) rfl (.free rfl) rfl (q_assign (v := tSlc.enc (r71)) rfl rfl) ?_
              refine ro_nil ?_
              refine wp_seq ?_
              refine wp_text [0, 1, 2, 3, 4] rfl ?_
              refine ro_val (d := (some 149)) rfl (.free rfl) rfl (q_move (v := .pointer (r4.1)) rfl rfl) ?_
              refine ro_val (d := (some 150)) rfl (.free rfl) rfl (q_fieldAddr (a := a23) (off := 1) rfl Try.underlying29 rfl rfl ok3 (by decide) rfl) ?_
              obtain ⟨x72, hx72, h⟩ := h
              refine ro_val (d := (some 151)) rfl (.free rfl) rfl (q_load (T := (tInt .i64)) (u := x72) (a := (a23.add 1)) rfl ok3 rfl hx72) ?_
              refine ro_wp rfl (.free rfl) (wp_cl (d := (some 152)) rfl (q_call (k := 16) (l := [.pointer (r4.1), .int .i64 (x72)]) rfl ent16 rfl) h ?_)
              intro r74 w73 h
              refine ro_val (d := (some 153)) rfl (.free rfl) rfl (q_eql (a := r74) (b := (0 : Int)) rfl rfl rfl) ?_
              refine ro_nil ?_
              refine wp_if (b := (r74 == (0 : Int))) rfl h (fun hb85 h => ?_) (fun hb85 h => ?_)
              · refine wp_seq ?_
                refine wp_seq ?_
                refine wp_text [0, 1, 2, 3, 4, 5, 6, 7, 8, 9] rfl ?_
                refine ro_val (d := (some 154)) rfl (.free rfl) rfl (q_fieldAddr (a := a23) (off := 1) rfl Try.underlying29 rfl rfl ok3 (by decide) rfl) ?_
                obtain ⟨x75, hx75, h⟩ := h
                refine ro_val (d := (some 155)) rfl (.free rfl) rfl (q_load (T := (tInt .i64)) (u := x75) (a := (a23.add 1)) rfl ok3 rfl hx75) ?_
                refine ro_val (d := (some 156)) rfl (.free rfl) rfl (q_lss (a := x75) (b := (0 : Int)) rfl rfl rfl) ?_
                refine ro_val (d := (some 157)) rfl (.free rfl) rfl (q_move (v := .bool ((decide (x75 < (0 : Int))))) rfl rfl) ?_
                refine ro_gval (g := (!(decide (x75 < (0 : Int))))) (d := (some 158)) rfl (.no 3 157 true (decide (x75 < (0 : Int))) rfl rfl rfl rfl) rfl (fun hg => q_fieldAddr (a := a23) (off := 1) rfl Try.underlying29 rfl rfl ok3 (by decide) rfl) ?_
                obtain ⟨x76, hx76, h⟩ := h
                refine ro_gval (g := (!(decide (x75 < (0 : Int))))) (d := (some 159)) rfl (.no 3 157 true (decide (x75 < (0 : Int))) rfl rfl rfl rfl) rfl (fun hg => q_load (T := (tInt .i64)) (u := x76) (a := (a23.add 1)) rfl ok3 (gvb_yes hg) (hx76 hg)) ?_
                refine ro_gval (g := (!(decide (x75 < (0 : Int))))) (d := (some 160)) rfl (.no 3 157 true (decide (x75 < (0 : Int))) rfl rfl rfl rfl) rfl (fun hg => q_move (v := tSlc.enc (r71)) rfl rfl) ?_
                refine ro_gval (g := (!(decide (x75 < (0 : Int))))) (d := (some 161)) rfl (.no 3 157 true (decide (x75 < (0 : Int))) rfl rfl rfl rfl) rfl (fun hg => q_len (s := r71) rfl Try.underlying33 (gvb_yes hg)) ?_
                refine ro_gval (g := (!(decide (x75 < (0 : Int))))) (d := (some 162)) rfl (.no 3 157 true (decide (x75 < (0 : Int))) rfl rfl rfl rfl) rfl (fun hg => q_geq (a := x76) (b := (r71.len : Int)) rfl (gvb_yes hg) (gvb_yes hg)) ?_
                refine ro_val (d := (some 163)) rfl (.free rfl) rfl (q_pickGF (a := (decide (x75 < (0 : Int)))) (c := (decide (x76 ≥ (r71.len : Int)))) rfl rfl rfl rfl) ?_
                refine ro_nil ?_
                refine wp_if (b := ((decide (x75 < (0 : Int))) || (decide (x76 ≥ (r71.len : Int))))) rfl h (fun hb84 h => ?_) (fun hb84 h => ?_)
                · refine wp_seq ?_
                  refine wp_text [0] rfl ?_
                  refine ro_val (d := (some 4)) rfl (.free rfl) rfl (q_assign (v := .bool (false)) rfl rfl) ?_
                  refine ro_nil ?_
                  refine wp_ret ?_
                  exact ret_ok rfl (.cons (.tmp (v := .bool (false)) rfl) .nil) ⟨false, rfl, h⟩
                · refine wp_skip ?_
                  refine wp_text [0, 1, 2, 3, 4, 5, 6, 7, 8, 9, 10] rfl ?_
                  refine ro_val (d := (some 164)) rfl (.free rfl) rfl (q_move (v := tSlc.enc (r71)) rfl rfl) ?_
                  refine ro_val (d := (some 165)) rfl (.free rfl) rfl (q_fieldAddr (a := a23) (off := 1) rfl Try.underlying29 rfl rfl ok3 (by decide) rfl) ?_
                  obtain ⟨x77, hx77, h⟩ := h
                  refine ro_val (d := (some 166)) rfl (.free rfl) rfl (q_load (T := (tInt .i64)) (u := x77) (a := (a23.add 1)) rfl ok3 rfl hx77) ?_
                  obtain ⟨a78, ha78, h⟩ := h
                  refine ro_val (d := (some 167)) rfl (.free rfl) rfl (q_indexAddr (s := r71) (i := x77) rfl Try.underlying33 ok36 rfl rfl ha78) ?_
                  refine ro_val (d := (some 168)) rfl (.free rfl) rfl (q_fieldAddr (a := a78) (off := 0) rfl Try.underlying36 rfl rfl ok3 (by decide) rfl) ?_
                  obtain ⟨x79, hx79, h⟩ := h
                  refine ro_val (d := (some 169)) rfl (.free rfl) rfl (q_load (T := (tInt .i64)) (u := x79) (a := (a78.add 0)) rfl ok3 rfl hx79) ?_
                  obtain ⟨a80, ha80, h⟩ := h
                  refine ro_val (d := (some 170)) rfl (.free rfl) rfl (q_indexAddrA (b := a11) (i := x79) rfl Try.underlying43 ok3 rfl rfl ha80) ?_
                  obtain ⟨x81, hx81, h⟩ := h
                  refine ro_val (d := (some 171)) rfl (.free rfl) rfl (q_load (T := (tInt .i64)) (u := x81) (a := a80) rfl ok3 rfl hx81) ?_
                  refine ro_val (d := (some 172)) rfl (.free rfl) rfl (q_add (a := x81) (b := (1 : Int)) rfl rfl rfl) ?_
                  obtain ⟨a82, ha82, h⟩ := h
                  refine ro_val (d := (some 173)) rfl (.free rfl) rfl (q_indexAddrA (b := a11) (i := x79) rfl Try.underlying43 ok3 rfl rfl ha82) ?_
                  obtain ⟨w83, hw83, hrw83, h⟩ := st_open h
                  refine ro_skip (d := none) rfl (.free rfl) rfl (q_store (T := (tInt .i64)) (u := (IntKind.i64.wrap (x81 + (1 : Int)))) (a := a82) rfl ok3 rfl rfl hrw83 hw83) ?_
                  refine ro_nil ?_
                  exact ⟨(many_13), _, arr (upd_step (upd_step (upd_step (upd_step (upd_step (upd_step rfl rfl) rfl) rfl) rfl) rfl) rfl), h⟩
              · refine wp_skip ?_
                exact ⟨(many_13), _, arr (upd_step (upd_step (upd_step (upd_step (upd_step (upd_step rfl rfl) rfl) rfl) rfl) rfl) rfl), h⟩
            · refine wp_seq ?_
              refine wp_text [0, 1] rfl ?_
              refine ro_val (d := (some 175)) rfl (.free rfl) rfl (q_eql (a := x26) (b := (3 : Int)) rfl rfl rfl) ?_
              refine ro_val (d := (some 174)) rfl (.free rfl) rfl (q_assign (v := .bool ((x26 == (3 : Int)))) rfl rfl) ?_
              refine ro_nil ?_
              refine wp_if (b := (x26 == (3 : Int))) rfl h (fun hb102 h => ?_) (fun hb102 h => ?_)
              · refine wp_seq ?_
                refine wp_text [0, 1, 2] rfl ?_
                refine ro_val (d := (some 176)) rfl (.free rfl) rfl (q_move (v := .pointer (r4.1)) rfl rfl) ?_
                refine ro_wp rfl (.free rfl) (wp_cl (d := (some 177)) rfl (q_call (k := 13) (l := [.pointer (r4.1)]) rfl ent13 rfl) h ?_)
                intro r87 w86 h
                refine ro_val (d := (some 17)) rfl (.free rfl) rfl (q_assign (v := tSlc.enc (r87)) rfl rfl) ?_
                refine ro_nil ?_
                refine wp_seq ?_
                refine wp_text [0, 1, 2, 3, 4] rfl ?_
                refine ro_val (d := (some 178)) rfl (.free rfl) rfl (q_move (v := .pointer (r4.1)) rfl rfl) ?_
                refine ro_val (d := (some 179)) rfl (.free rfl) rfl (q_fieldAddr (a := a23) (off := 1) rfl Try.underlying29 rfl rfl ok3 (by decide) rfl) ?_
                obtain ⟨x88, hx88, h⟩ := h
                refine ro_val (d := (some 180)) rfl (.free rfl) rfl (q_load (T := (tInt .i64)) (u := x88) (a := (a23.add 1)) rfl ok3 rfl hx88) ?_
                refine ro_wp rfl (.free rfl) (wp_cl (d := (some 181)) rfl (q_call (k := 17) (l := [.pointer (r4.1), .int .i64 (x88)]) rfl ent17 rfl) h ?_)
                intro r90 w89 h
                refine ro_val (d := (some 182)) rfl (.free rfl) rfl (q_eql (a := r90) (b := (0 : Int)) rfl rfl rfl) ?_
                refine ro_nil ?_
                refine wp_if (b := (r90 == (0 : Int))) rfl h (fun hb101 h => ?_) (fun hb101 h => ?_)
                · refine wp_seq ?_
                  refine wp_seq ?_
                  refine wp_text [0, 1, 2, 3, 4, 5, 6, 7, 8, 9] rfl ?_
                  refine ro_val (d := (some 183)) rfl (.free rfl) rfl (q_fieldAddr (a := a23) (off := 1) rfl Try.underlying29 rfl rfl ok3 (by decide) rfl) ?_
                  obtain ⟨x91, hx91, h⟩ := h
                  refine ro_val (d := (some 184)) rfl (.free rfl) rfl (q_load (T := (tInt .i64)) (u := x91) (a := (a23.add 1)) rfl ok3 rfl hx91) ?_
                  refine ro_val (d := (some 185)) rfl (.free rfl) rfl (q_lss (a := x91) (b := (0 : Int)) rfl rfl rfl) ?_
                  refine ro_val (d := (some 186)) rfl (.free rfl) rfl (q_move (v := .bool ((decide (x91 < (0 : Int))))) rfl rfl) ?_
                  refine ro_gval (g := (!(decide (x91 < (0 : Int))))) (d := (some 187)) rfl (.no 3 186 true (decide (x91 < (0 : Int))) rfl rfl rfl rfl) rfl (fun hg => q_fieldAddr (a := a23) (off := 1) rfl Try.underlying29 rfl rfl ok3 (by decide) rfl) ?_
                  obtain ⟨x92, hx92, h⟩ := h
                  refine ro_gval (g := (!(decide (x91 < (0 : Int))))) (d := (some 188)) rfl (.no 3 186 true (decide (x91 < (0 : Int))) rfl rfl rfl rfl) rfl (fun hg => q_load (T := (tInt .i64)) (u := x92) (a := (a23.add 1)) rfl ok3 (gvb_yes hg) (hx92 hg)) ?_
                  refine ro_gval (g := (!(decide (x91 < (0 : Int))))) (d := (some 189)) rfl (.no 3 186 true (decide (x91 < (0 : Int))) rfl rfl rfl rfl) rfl (fun hg => q_move (v := tSlc.enc (r87)) rfl rfl) ?_
                  refine ro_gval (g := (!(decide (x91 < (0 : Int))))) (d := (some 190)) rfl (.no 3 186 true (decide (x91 < (0 : Int))) rfl rfl rfl rfl) rfl (fun hg => q_len (s := r87) rfl Try.underlying33 (gvb_yes hg)) ?_
                  refine ro_gval (g := (!(decide (x91 < (0 : Int))))) (d := (some 191)) rfl (.no 3 186 true (decide (x91 < (0 : Int))) rfl rfl rfl rfl) rfl (fun hg => q_geq (a := x92) (b := (r87.len : Int)) rfl (gvb_yes hg) (gvb_yes hg)) ?_
                  refine ro_val (d := (some 192)) rfl (.free rfl) rfl (q_pickGF (a := (decide (x91 < (0 : Int)))) (c := (decide (x92 ≥ (r87.len : Int)))) rfl rfl rfl rfl) ?_
                  refine ro_nil ?_
                  refine wp_if (b := ((decide (x91 < (0 : Int))) || (decide (x92 ≥ (r87.len : Int))))) rfl h (fun hb100 h => ?_) (fun hb100 h => ?_)
                  · refine wp_seq ?_
                    refine wp_text [0] rfl ?_
                    refine ro_val (d := (some 4)) rfl (.free rfl) rfl (q_assign (v := .bool (false)) rfl rfl) ?_
                    refine ro_nil ?_
                    refine wp_ret ?_
                    exact ret_ok rfl (.cons (.tmp (v := .bool (false)) rfl) .nil) ⟨false, rfl, h⟩
                  · refine wp_skip ?_
                    refine wp_text [0, 1, 2, 3, 4, 5, 6, 7, 8, 9, 10] rfl ?_
                    refine ro_val (d := (some 193)) rfl (.free rfl) rfl (q_move (v := tSlc.enc (r87)) rfl rfl) ?_
                    refine ro_val (d := (some 194)) rfl (.free rfl) rfl (q_fieldAddr (a := a23) (off := 1) rfl Try.underlying29 rfl rfl ok3 (by decide) rfl) ?_
                    obtain ⟨x93, hx93, h⟩ := h
                    refine ro_val (d := (some 195)) rfl (.free rfl) rfl (q_load (T := (tInt .i64)) (u := x93) (a := (a23.add 1)) rfl ok3 rfl hx93) ?_
                    obtain ⟨a94, ha94, h⟩ := h
                    refine ro_val (d := (some 196)) rfl (.free rfl) rfl (q_indexAddr (s := r87) (i := x93) rfl Try.underlying33 ok36 rfl rfl ha94) ?_
                    refine ro_val (d := (some 197)) rfl (.free rfl) rfl (q_fieldAddr (a := a94) (off := 0) rfl Try.underlying36 rfl rfl ok3 (by decide) rfl) ?_
                    obtain ⟨x95, hx95, h⟩ := h
                    refine ro_val (d := (some 198)) rfl (.free rfl) rfl (q_load (T := (tInt .i64)) (u := x95) (a := (a94.add 0)) rfl ok3 rfl hx95) ?_
                    obtain ⟨a96, ha96, h⟩ := h
                    refine ro_val (d := (some 199)) rfl (.free rfl) rfl (q_indexAddrA (b := a11) (i := x95) rfl Try.underlying43 ok3 rfl rfl ha96) ?_
                    obtain ⟨x97, hx97, h⟩ := h
                    refine ro_val (d := (some 200)) rfl (.free rfl) rfl (q_load (T := (tInt .i64)) (u := x97) (a := a96) rfl ok3 rfl hx97) ?_
                    refine ro_val (d := (some 201)) rfl (.free rfl) rfl (q_sub (a := x97) (b := (1 : Int)) rfl rfl rfl) ?_
                    obtain ⟨a98, ha98, h⟩ := h
                    refine ro_val (d := (some 202)) rfl (.free rfl) rfl (q_indexAddrA (b := a11) (i := x95) rfl Try.underlying43 ok3 rfl rfl ha98) ?_
                    obtain ⟨w99, hw99, hrw99, h⟩ := st_open h
                    refine ro_skip (d := none) rfl (.free rfl) rfl (q_store (T := (tInt .i64)) (u := (IntKind.i64.wrap (x97 - (1 : Int)))) (a := a98) rfl ok3 rfl rfl hrw99 hw99) ?_
                    refine ro_nil ?_
                    exact ⟨(many_13), _, arr (upd_step (upd_step (upd_step (upd_step (upd_step (upd_step rfl rfl) rfl) rfl) rfl) rfl) rfl), h⟩
                · refine wp_skip ?_
                  exact ⟨(many_13), _, arr (upd_step (upd_step (upd_step (upd_step (upd_step (upd_step rfl rfl) rfl) rfl) rfl) rfl) rfl), h⟩
              · refine wp_skip ?_
                exact ⟨(many_13), _, arr (upd_step (upd_step (upd_step (upd_step (upd_step (upd_step rfl rfl) rfl) rfl) rfl) rfl) rfl), h⟩
    · refine wp_exit ?_
      refine wp_seq ?_
      refine wp_text [0] rfl ?_
      refine ro_val (d := (some 18)) rfl (.free rfl) rfl (q_assign (v := .int .i64 ((0 : Int))) rfl rfl) ?_
      refine ro_nil ?_
      refine wp_seq ?_
      refine wp_seq ?_
      refine wp_text [0] rfl ?_
      refine ro_val (d := (some 19)) rfl (.free rfl) rfl (q_assign (v := .int .i64 ((1 : Int))) rfl rfl) ?_
      refine ro_nil ?_
      refine wp_block ?_
      refine loop_at (σ := Int × Int) (fr := fun g (s : Int × Int) => upd (upd (upd (upd (upd (g) 5 (.pointer (r4.1))) 8 (.pointer (some a11))) 9 (.int .i64 (many_13))) 18 (.int .i64 (s.1))) 19 (.int .i64 (s.2))) (s0 := ((0 : Int), (1 : Int))) (upd_step (upd_step (upd_step (upd_step (upd_step rfl rfl) rfl) rfl) rfl) rfl) h ?_
      rintro ⟨left_106, i_107⟩ g w108 K109 h
      unfold F5_l3 at h
      refine wp_seq ?_
      refine wp_seq ?_
      refine wp_text [0, 1, 2] rfl ?_
      refine ro_val (d := (some 203)) rfl (.free rfl) rfl (q_move (v := .int .i64 (i_107)) rfl rfl) ?_
      refine ro_val (d := (some 204)) rfl (.free rfl) rfl (q_move (v := .int .i64 (many_13)) rfl rfl) ?_
      refine ro_val (d := (some 205)) rfl (.free rfl) rfl (q_leq (a := i_107) (b := many_13) rfl rfl rfl) ?_
      refine ro_nil ?_
      refine wp_if (b := (decide (i_107 ≤ many_13))) rfl h (fun hb114 h => ?_) (fun hb114 h => ?_)
      · refine wp_skip ?_
        refine wp_seq ?_
        refine wp_block ?_
        refine wp_text [0, 1, 2, 3, 4, 5] rfl ?_
        refine ro_val (d := (some 208)) rfl (.free rfl) rfl (q_move (v := .int .i64 (left_106)) rfl rfl) ?_
        refine ro_val (d := (some 209)) rfl (.free rfl) rfl (q_move (v := .int .i64 (i_107)) rfl rfl) ?_
        obtain ⟨a110, ha110, h⟩ := h
        refine ro_val (d := (some 210)) rfl (.free rfl) rfl (q_indexAddrA (b := a11) (i := i_107) rfl Try.underlying43 ok3 rfl rfl ha110) ?_
        obtain ⟨x111, hx111, h⟩ := h
        refine ro_val (d := (some 211)) rfl (.free rfl) rfl (q_load (T := (tInt .i64)) (u := x111) (a := a110) rfl ok3 rfl hx111) ?_
        refine ro_val (d := (some 212)) rfl (.free rfl) rfl (q_add (a := left_106) (b := x111) rfl rfl rfl) ?_
        refine ro_val (d := (some 18)) rfl (.free rfl) rfl (q_assign (v := .int .i64 ((IntKind.i64.wrap (left_106 + x111)))) rfl rfl) ?_
        refine ro_nil ?_
        refine wp_text [0, 1, 2] rfl ?_
        refine ro_val (d := (some 206)) rfl (.free rfl) rfl (q_move (v := .int .i64 (i_107)) rfl rfl) ?_
        refine ro_val (d := (some 207)) rfl (.free rfl) rfl (q_add (a := i_107) (b := (1 : Int)) rfl rfl rfl) ?_
        refine ro_val (d := (some 19)) rfl (.free rfl) rfl (q_assign (v := .int .i64 ((IntKind.i64.wrap (i_107 + (1 : Int))))) rfl rfl) ?_
        refine ro_nil ?_
        exact ⟨((IntKind.i64.wrap (left_106 + x111)), (IntKind.i64.wrap (i_107 + (1 : Int)))), _, arr (upd_step (upd_step (upd_step (upd_step (upd_step rfl rfl) rfl) rfl) rfl) rfl), h⟩
      · refine wp_exit ?_
        refine wp_seq ?_
        refine wp_text [0, 1, 2, 3, 4, 5] rfl ?_
        refine ro_val (d := (some 213)) rfl (.free rfl) rfl (q_move (v := .pointer (r4.1)) rfl rfl) ?_
        refine ro_wp rfl (.free rfl) (wp_cl (d := (some 214)) rfl (q_call (k := 13) (l := [.pointer (r4.1)]) rfl ent13 rfl) h ?_)
        intro r113 w112 h
        refine ro_val (d := (some 215)) rfl (.free rfl) rfl (q_len (s := r113) rfl Try.underlying33 rfl) ?_
        refine ro_val (d := (some 216)) rfl (.free rfl) rfl (q_move (v := .int .i64 (left_106)) rfl rfl) ?_
        refine ro_val (d := (some 217)) rfl (.free rfl) rfl (q_eql (a := (r113.len : Int)) (b := left_106) rfl rfl rfl) ?_
        refine ro_val (d := (some 4)) rfl (.free rfl) rfl (q_assign (v := .bool (((r113.len : Int) == left_106))) rfl rfl) ?_
        refine ro_nil ?_
        refine wp_ret ?_
        exact ret_ok rfl (.cons (.tmp (v := .bool (((r113.len : Int) == left_106))) rfl) .nil) ⟨((r113.len : Int) == left_106), rfl, h⟩

end Go.Proofs.Ytpflfnaflacfgaa.Cf
