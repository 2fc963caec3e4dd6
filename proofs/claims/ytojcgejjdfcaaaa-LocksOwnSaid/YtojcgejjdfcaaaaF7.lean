/- Characteristic formulae of Go functions, and that they are. Printed by gen.py (own tool). -/
import Derived.Test.YtojcgejjdfcaaaaTy
namespace Go.Proofs.Ytojcgejjdfcaaaa.Cf
open Go
set_option maxRecDepth 100000
set_option maxHeartbeats 1000000
set_option linter.unusedVariables false
set_option linter.unusedSimpArgs false

-- (*moiety/locks.Table).Ask
def F11_j3 (t_41 : Int) (w44 : World) (K43 : Int → World → Prop) (R : (S33 × Int) → World → Prop) : Prop :=
  K43 ((IntKind.i64.wrap (t_41 + (1 : Int)))) w44
def F11_j4 (a31 : Addr) (t_41 : Int) (x46 : Int) (t_47 : Bool) (w48 : World) (K43 : Int → World → Prop) (R : (S33 × Int) → World → Prop) : Prop :=
  if t_47 = true then (
    ex (RdAt tSlc (a31.add 1) w48) fun x49 =>
    apl 3 (tInt .i64) 1 8 x49 [x46] w48 fun r53 w52 =>
    st tSlc (a31.add 1) r53 w52 fun w54 =>
    F11_j3 t_41 w54 K43 R
  ) else (
    F11_j3 t_41 w48 K43 R
  )
def F11_j7 (t_77 : Int) (w80 : World) (K79 : Int → World → Prop) (R : (S33 × Int) → World → Prop) : Prop :=
  K79 ((IntKind.i64.wrap (t_77 + (1 : Int)))) w80
def F11_l6 (tx_2 : Int) (a5 : Addr) (a31 : Addr) (r76 : Slc) (t_77 : Int) (w78 : World) (K79 : Int → World → Prop) (R : (S33 × Int) → World → Prop) : Prop :=
  if (decide (t_77 < (r76.len : Int))) = true then (
    ex (IxA r76 2 t_77) fun a81 =>
    ex (RdAt T55 a81 w78) fun x82 =>
    nw 56 T55 Z55 w78 fun a83 w84 =>
    st T55 a83 x82 w84 fun w85 =>
    ex (RdAt (tInt .i64) (a83.add 0) w85) fun x86 =>
    if (x86 == tx_2) = true then (
      st tBool (a31.add 0) true w85 fun w87 =>
      F11_j7 t_77 w87 K79 R
    ) else (
      ex (RdAt tSlc (a31.add 2) w85) fun x88 =>
      ex (RdAt T55 a83 w85) fun x89 =>
      apl 56 T55 2 16 x88 [x89] w85 fun r93 w92 =>
      st tSlc (a31.add 2) r93 w92 fun w94 =>
      F11_j7 t_77 w94 K79 R
    )
  ) else (
    ex (RdAt T33 a31 w78) fun x96 =>
    st T33 a5 x96 w78 fun w97 =>
    ex (RdAt T33 a5 w97) fun x98 =>
    R (x98, (0 : Int)) w97
  )
def F11_l5 (t_1 : (Option Addr)) (tx_2 : Int) (k_3 : Int) (write_4 : Bool) (a5 : Addr) (a7 : Addr) (a26 : Addr) (a31 : Addr) (x61 : Slc) (t_62 : Int) (w63 : World) (K64 : Int → World → Prop) (R : (S33 × Int) → World → Prop) : Prop :=
  if (decide (t_62 < (x61.len : Int))) = true then (
    ex (IxA x61 1 t_62) fun a65 =>
    ex (RdAt (tInt .i64) a65 w63) fun x66 =>
    cl Try.prog 28 [.pointer (t_1), .int .i64 (x66)] tUnit w63 fun r68 w67 =>
    ex (RdAt tMap (a7.add 2) w67) fun x69 =>
    mput T77 .i64 x69 x66 (⟨⟩ : S77) w67 fun w70 =>
    K64 ((IntKind.i64.wrap (t_62 + (1 : Int)))) w70
  ) else (
    ex (RdAt tMap (a26.add 1) w63) fun x71 =>
    mput tBool .i64 x71 tx_2 write_4 w63 fun w72 =>
    ex (RdAt tMap (a7.add 1) w72) fun x73 =>
    mput (tInt .i64) .i64 x73 tx_2 k_3 w72 fun w74 =>
    cl Try.prog 29 [.pointer (t_1)] tSlc w74 fun r76 w75 =>
    lp (fun (s : Int) w K => F11_l6 tx_2 a5 a31 r76 s w K R) ((0 : Int)) w75
  )
def F11_l2 (t_1 : (Option Addr)) (tx_2 : Int) (k_3 : Int) (write_4 : Bool) (a5 : Addr) (a7 : Addr) (a26 : Addr) (a31 : Addr) (r35 : Fv) (r40 : Slc) (t_41 : Int) (w42 : World) (K43 : Int → World → Prop) (R : (S33 × Int) → World → Prop) : Prop :=
  if (decide (t_41 < (r40.len : Int))) = true then (
    ex (IxA r40 1 t_41) fun a45 =>
    ex (RdAt (tInt .i64) a45 w42) fun x46 =>
    if (decide (x46 > tx_2)) = true then (
      ex (RdAt tMap (a26.add 0) w42) fun x57 =>
      ex (MapGet tBool .i64 x57 x46 w42) fun m58 =>
      clv Try.prog r35 [.int .i64 (x46), .bool ((m58.getD false))] tBool w42 fun r60 w59 =>
      F11_j4 a31 t_41 x46 r60 w59 K43 R
    ) else (
      F11_j4 a31 t_41 x46 false w42 K43 R
    )
  ) else (
    ex (RdAt tSlc (a31.add 1) w42) fun x61 =>
    lp (fun (s : Int) w K => F11_l5 t_1 tx_2 k_3 write_4 a5 a7 a26 a31 x61 s w K R) ((0 : Int)) w42
  )
def F11_j1 (t_1 : (Option Addr)) (tx_2 : Int) (k_3 : Int) (write_4 : Bool) (a5 : Addr) (a7 : Addr) (l_24 : (Option Addr)) (w25 : World) (R : (S33 × Int) → World → Prop) : Prop :=
  ex (NC l_24) fun a26 =>
  ex (RdAt tMap (a26.add 0) w25) fun x27 =>
  ex (MapGet tBool .i64 x27 tx_2 w25) fun m28 =>
  if (((m28.getD false, m28.isSome)).2 && (((m28.getD false, m28.isSome)).1 || (!write_4))) = true then (
    st T33 a5 (⟨true, (⟨none, 0, 0⟩ : Slc), (⟨none, 0, 0⟩ : Slc)⟩ : S33) w25 fun w29 =>
    ex (RdAt T33 a5 w29) fun x30 =>
    R (x30, (0 : Int)) w29
  ) else (
    nw 34 T33 Z33 w25 fun a31 w32 =>
    st T33 a31 (⟨false, (⟨none, 0, 0⟩ : Slc), (⟨none, 0, 0⟩ : Slc)⟩ : S33) w32 fun w33 =>
    cl Try.prog 25 [.int .i64 (tx_2), .bool (write_4)] tFun w33 fun r35 w34 =>
    ex (RdAt tMap (a26.add 0) w34) fun x36 =>
    cl Try.prog 27 [.map (x36)] tFun w34 fun r38 w37 =>
    cl Try.prog 26 [(r38).enc] tSlc w37 fun r40 w39 =>
    lp (fun (s : Int) w K => F11_l2 t_1 tx_2 k_3 write_4 a5 a7 a26 a31 r35 r40 s w K R) ((0 : Int)) w39
  )
def F11 (t_1 : (Option Addr)) (tx_2 : Int) (k_3 : Int) (write_4 : Bool) (w : World) (R : (S33 × Int) → World → Prop) : Prop :=
  nw 34 T33 Z33 w fun a5 w6 =>
  ex (NC t_1) fun a7 =>
  ex (RdAt tMap (a7.add 1) w6) fun x8 =>
  ex (MapGet (tInt .i64) .i64 x8 tx_2 w6) fun m9 =>
  if (decide (tx_2 < (1 : Int))) = true then (
    st T33 a5 (⟨false, (⟨none, 0, 0⟩ : Slc), (⟨none, 0, 0⟩ : Slc)⟩ : S33) w6 fun w10 =>
    ex (RdAt T33 a5 w10) fun x11 =>
    R (x11, (130 : Int)) w10
  ) else (
    cl Try.prog 24 [.int .i64 (k_3)] tBool w6 fun r13 w12 =>
    if (!r13) = true then (
      st T33 a5 (⟨false, (⟨none, 0, 0⟩ : Slc), (⟨none, 0, 0⟩ : Slc)⟩ : S33) w12 fun w14 =>
      ex (RdAt T33 a5 w14) fun x15 =>
      R (x15, (131 : Int)) w14
    ) else (
      cl Try.prog 18 [.pointer (t_1), .int .i64 (tx_2)] tBool w12 fun r17 w16 =>
      if r17 = true then (
        st T33 a5 (⟨false, (⟨none, 0, 0⟩ : Slc), (⟨none, 0, 0⟩ : Slc)⟩ : S33) w16 fun w18 =>
        ex (RdAt T33 a5 w18) fun x19 =>
        R (x19, (132 : Int)) w18
      ) else (
        if ((m9.getD (0 : Int), m9.isSome)).2 = true then (
          st T33 a5 (⟨false, (⟨none, 0, 0⟩ : Slc), (⟨none, 0, 0⟩ : Slc)⟩ : S33) w16 fun w20 =>
          ex (RdAt T33 a5 w20) fun x21 =>
          R (x21, (133 : Int)) w20
        ) else (
          ex (RdAt tMap (a7.add 0) w16) fun x22 =>
          ex (MapGet tPtr .i64 x22 k_3 w16) fun m23 =>
          if (!(((m23.getD (none : Option Addr), m23.isSome)).2)) = true then (
            nwMap w16 fun m104 w103 =>
            nwMap w103 fun m106 w105 =>
            nw 68 T67 (⟨(some m104), (some m106)⟩ : S67) w105 fun a107 w108 =>
            ex (RdAt tMap (a7.add 0) w108) fun x109 =>
            mput tPtr .i64 x109 k_3 (some a107) w108 fun w110 =>
            F11_j1 t_1 tx_2 k_3 write_4 a5 a7 (some a107) w110 R
          ) else (
            F11_j1 t_1 tx_2 k_3 write_4 a5 a7 (((m23.getD (none : Option Addr), m23.isSome)).1) w16 R
          )
        )
      )
    )
  )
theorem F11_ok {t_1 : (Option Addr)} {tx_2 : Int} {k_3 : Int} {write_4 : Bool} {w : World} {R : (S33 × Int) → World → Prop} (h : F11 t_1 tx_2 k_3 write_4 w R) : cl Try.prog 11 [.pointer (t_1), .int .i64 (tx_2), .int .i64 (k_3), .bool (write_4)] (tTup2 T33 (tInt .i64)) w R := by
  unfold F11 at h
  refine calls_start 174 Try.func11 rfl rfl (Nat.le_of_ble_eq_true rfl) ?_
  refine wp_seq ?_
  refine wp_text [0, 1] rfl ?_
  obtain ⟨a5, w6, ha5, hw6, h⟩ := nw_open h
  refine ro_val (d := (some 8)) rfl (.free rfl) rfl (q_alloc (u := Z33) rfl ok34 inf34 ha5 hw6) ?_
  refine ro_val (d := (some 9)) rfl (.free rfl) rfl (q_assign (v := .int .i64 ((0 : Int))) rfl rfl) ?_
  refine ro_nil ?_
  refine wp_seq ?_
  refine wp_text [0, 1, 2, 3, 4, 5, 6, 7, 8, 9, 10] rfl ?_
  refine ro_val (d := (some 25)) rfl (.free rfl) rfl (q_move (v := .pointer (t_1)) rfl rfl) ?_
  obtain ⟨a7, ha7, h⟩ := h
  refine ro_val (d := (some 26)) rfl (.free rfl) rfl (q_nilCheck (a := a7) rfl (congrArg Value.pointer ha7)) ?_
  refine ro_val (d := (some 27)) rfl (.free rfl) rfl (q_fieldAddr (a := a7) (off := 1) rfl Try.underlying62 rfl rfl ok59 (by decide) rfl) ?_
  obtain ⟨x8, hx8, h⟩ := h
  refine ro_val (d := (some 28)) rfl (.free rfl) rfl (q_load (T := tMap) (u := x8) (a := (a7.add 1)) rfl ok59 rfl hx8) ?_
  refine ro_val (d := (some 29)) rfl (.free rfl) rfl (q_move (v := .int .i64 (tx_2)) rfl rfl) ?_
  obtain ⟨m9, hm9, h⟩ := h
  refine ro_val (d := (some 30)) rfl (.free rfl) rfl (q_lookup2 (T := (tInt .i64)) (r := x8) (key := tx_2) (u := m9) (z := (0 : Int)) rfl Try.underlying59 Try.underlying3 (inf3) rfl rfl hm9) ?_
  refine ro_val (d := (some 24)) rfl (.free rfl) rfl (q_move (v := (tTup2 (tInt .i64) tBool).enc (((m9.getD (0 : Int), m9.isSome)))) rfl rfl) ?_
  refine ro_val (d := (some 31)) rfl (.free rfl) rfl (q_extract (vs := #[.int .i64 (((m9.getD (0 : Int), m9.isSome)).1), .bool (((m9.getD (0 : Int), m9.isSome)).2)]) (v := .int .i64 (((m9.getD (0 : Int), m9.isSome)).1)) rfl rfl rfl) ?_
  refine ro_val (d := (some 32)) rfl (.free rfl) rfl (q_extract (vs := #[.int .i64 (((m9.getD (0 : Int), m9.isSome)).1), .bool (((m9.getD (0 : Int), m9.isSome)).2)]) (v := .bool (((m9.getD (0 : Int), m9.isSome)).2)) rfl rfl rfl) ?_
  refine ro_val (d := (some 10)) rfl (.free rfl) rfl (q_assign (v := .int .i64 (((m9.getD (0 : Int), m9.isSome)).1)) rfl rfl) ?_
  refine ro_val (d := (some 11)) rfl (.free rfl) rfl (q_assign (v := .bool (((m9.getD (0 : Int), m9.isSome)).2)) rfl rfl) ?_
  refine ro_nil ?_
  refine wp_seq ?_
  refine wp_block ?_
  refine wp_seq ?_
  refine wp_text [0, 1, 2] rfl ?_
  refine ro_val (d := (some 34)) rfl (.free rfl) rfl (q_move (v := .int .i64 (tx_2)) rfl rfl) ?_
  refine ro_val (d := (some 35)) rfl (.free rfl) rfl (q_lss (a := tx_2) (b := (1 : Int)) rfl rfl rfl) ?_
  refine ro_val (d := (some 33)) rfl (.free rfl) rfl (q_assign (v := .bool ((decide (tx_2 < (1 : Int))))) rfl rfl) ?_
  refine ro_nil ?_
  refine wp_if (b := (decide (tx_2 < (1 : Int)))) rfl h (fun hb115 h => ?_) (fun hb115 h => ?_)
  · refine wp_seq ?_
    refine wp_text [0, 1, 2] rfl ?_
    refine ro_val (d := (some 36)) rfl (.free rfl) rfl (q_build34_  rfl ) ?_
    obtain ⟨w10, hw10, hrw10, h⟩ := st_open h
    refine ro_skip (d := none) rfl (.free rfl) rfl (q_store (T := T33) (u := (⟨false, (⟨none, 0, 0⟩ : Slc), (⟨none, 0, 0⟩ : Slc)⟩ : S33)) (a := a5) rfl ok34 rfl rfl hrw10 hw10) ?_
    refine ro_val (d := (some 9)) rfl (.free rfl) rfl (q_assign (v := .int .i64 ((130 : Int))) rfl rfl) ?_
    refine ro_nil ?_
    refine wp_ret ?_
    obtain ⟨x11, hx11, h⟩ := h
    exact ret_ok rfl (.cons (.cell (T := T33) (u := x11) (a := a5) ok34 rfl hx11) (.cons (.tmp (v := .int .i64 ((130 : Int))) rfl) .nil)) ⟨(x11, (130 : Int)), rfl, h⟩
  · refine wp_seq ?_
    refine wp_text [0, 1, 2, 3] rfl ?_
    refine ro_val (d := (some 38)) rfl (.free rfl) rfl (q_move (v := .int .i64 (k_3)) rfl rfl) ?_
    refine ro_wp rfl (.free rfl) (wp_cl (d := (some 39)) rfl (q_call (k := 24) (l := [.int .i64 (k_3)]) rfl ent24 rfl) h ?_)
    intro r13 w12 h
    refine ro_val (d := (some 40)) rfl (.free rfl) rfl (q_not (b := r13) rfl rfl) ?_
    refine ro_val (d := (some 37)) rfl (.free rfl) rfl (q_assign (v := .bool ((!r13))) rfl rfl) ?_
    refine ro_nil ?_
    refine wp_if (b := (!r13)) rfl h (fun hb114 h => ?_) (fun hb114 h => ?_)
    · refine wp_seq ?_
      refine wp_text [0, 1, 2] rfl ?_
      refine ro_val (d := (some 41)) rfl (.free rfl) rfl (q_build34_  rfl ) ?_
      obtain ⟨w14, hw14, hrw14, h⟩ := st_open h
      refine ro_skip (d := none) rfl (.free rfl) rfl (q_store (T := T33) (u := (⟨false, (⟨none, 0, 0⟩ : Slc), (⟨none, 0, 0⟩ : Slc)⟩ : S33)) (a := a5) rfl ok34 rfl rfl hrw14 hw14) ?_
      refine ro_val (d := (some 9)) rfl (.free rfl) rfl (q_assign (v := .int .i64 ((131 : Int))) rfl rfl) ?_
      refine ro_nil ?_
      refine wp_ret ?_
      obtain ⟨x15, hx15, h⟩ := h
      exact ret_ok rfl (.cons (.cell (T := T33) (u := x15) (a := a5) ok34 rfl hx15) (.cons (.tmp (v := .int .i64 ((131 : Int))) rfl) .nil)) ⟨(x15, (131 : Int)), rfl, h⟩
    · refine wp_seq ?_
      refine wp_text [0, 1, 2, 3] rfl ?_
      refine ro_val (d := (some 43)) rfl (.free rfl) rfl (q_move (v := .pointer (t_1)) rfl rfl) ?_
      refine ro_val (d := (some 44)) rfl (.free rfl) rfl (q_move (v := .int .i64 (tx_2)) rfl rfl) ?_
      refine ro_wp rfl (.free rfl) (wp_cl (d := (some 45)) rfl (q_call (k := 18) (l := [.pointer (t_1), .int .i64 (tx_2)]) rfl ent18 rfl) h ?_)
      intro r17 w16 h
      refine ro_val (d := (some 42)) rfl (.free rfl) rfl (q_assign (v := .bool (r17)) rfl rfl) ?_
      refine ro_nil ?_
      refine wp_if (b := r17) rfl h (fun hb113 h => ?_) (fun hb113 h => ?_)
      · refine wp_seq ?_
        refine wp_text [0, 1, 2] rfl ?_
        refine ro_val (d := (some 46)) rfl (.free rfl) rfl (q_build34_  rfl ) ?_
        obtain ⟨w18, hw18, hrw18, h⟩ := st_open h
        refine ro_skip (d := none) rfl (.free rfl) rfl (q_store (T := T33) (u := (⟨false, (⟨none, 0, 0⟩ : Slc), (⟨none, 0, 0⟩ : Slc)⟩ : S33)) (a := a5) rfl ok34 rfl rfl hrw18 hw18) ?_
        refine ro_val (d := (some 9)) rfl (.free rfl) rfl (q_assign (v := .int .i64 ((132 : Int))) rfl rfl) ?_
        refine ro_nil ?_
        refine wp_ret ?_
        obtain ⟨x19, hx19, h⟩ := h
        exact ret_ok rfl (.cons (.cell (T := T33) (u := x19) (a := a5) ok34 rfl hx19) (.cons (.tmp (v := .int .i64 ((132 : Int))) rfl) .nil)) ⟨(x19, (132 : Int)), rfl, h⟩
      · refine wp_seq ?_
        refine wp_text [0, 1] rfl ?_
        refine ro_val (d := (some 48)) rfl (.free rfl) rfl (q_move (v := .bool (((m9.getD (0 : Int), m9.isSome)).2)) rfl rfl) ?_
        refine ro_val (d := (some 47)) rfl (.free rfl) rfl (q_assign (v := .bool (((m9.getD (0 : Int), m9.isSome)).2)) rfl rfl) ?_
        refine ro_nil ?_
        refine wp_if (b := ((m9.getD (0 : Int), m9.isSome)).2) rfl h (fun hb112 h => ?_) (fun hb112 h => ?_)
        · refine wp_seq ?_
          refine wp_text [0, 1, 2] rfl ?_
          refine ro_val (d := (some 49)) rfl (.free rfl) rfl (q_build34_  rfl ) ?_
          obtain ⟨w20, hw20, hrw20, h⟩ := st_open h
          refine ro_skip (d := none) rfl (.free rfl) rfl (q_store (T := T33) (u := (⟨false, (⟨none, 0, 0⟩ : Slc), (⟨none, 0, 0⟩ : Slc)⟩ : S33)) (a := a5) rfl ok34 rfl rfl hrw20 hw20) ?_
          refine ro_val (d := (some 9)) rfl (.free rfl) rfl (q_assign (v := .int .i64 ((133 : Int))) rfl rfl) ?_
          refine ro_nil ?_
          refine wp_ret ?_
          obtain ⟨x21, hx21, h⟩ := h
          exact ret_ok rfl (.cons (.cell (T := T33) (u := x21) (a := a5) ok34 rfl hx21) (.cons (.tmp (v := .int .i64 ((133 : Int))) rfl) .nil)) ⟨(x21, (133 : Int)), rfl, h⟩
        · refine wp_skip ?_
          refine wp_seq ?_
          refine wp_text [0, 1, 2, 3, 4, 5, 6, 7, 8, 9, 10] rfl ?_
          refine ro_val (d := (some 51)) rfl (.free rfl) rfl (q_move (v := .pointer (t_1)) rfl rfl) ?_
          refine ro_val (d := (some 52)) rfl (.free rfl) rfl (q_nilCheck (a := a7) rfl (congrArg Value.pointer ha7)) ?_
          refine ro_val (d := (some 53)) rfl (.free rfl) rfl (q_fieldAddr (a := a7) (off := 0) rfl Try.underlying62 rfl rfl ok58 (by decide) rfl) ?_
          obtain ⟨x22, hx22, h⟩ := h
          refine ro_val (d := (some 54)) rfl (.free rfl) rfl (q_load (T := tMap) (u := x22) (a := (a7.add 0)) rfl ok58 rfl hx22) ?_
          refine ro_val (d := (some 55)) rfl (.free rfl) rfl (q_move (v := .int .i64 (k_3)) rfl rfl) ?_
          obtain ⟨m23, hm23, h⟩ := h
          refine ro_val (d := (some 56)) rfl (.free rfl) rfl (q_lookup2 (T := tPtr) (r := x22) (key := k_3) (u := m23) (z := (none : Option Addr)) rfl Try.underlying58 Try.underlying3 (inf64) rfl rfl hm23) ?_
          refine ro_val (d := (some 50)) rfl (.free rfl) rfl (q_move (v := (tTup2 tPtr tBool).enc (((m23.getD (none : Option Addr), m23.isSome)))) rfl rfl) ?_
          refine ro_val (d := (some 57)) rfl (.free rfl) rfl (q_extract (vs := #[.pointer (((m23.getD (none : Option Addr), m23.isSome)).1), .bool (((m23.getD (none : Option Addr), m23.isSome)).2)]) (v := .pointer (((m23.getD (none : Option Addr), m23.isSome)).1)) rfl rfl rfl) ?_
          refine ro_val (d := (some 58)) rfl (.free rfl) rfl (q_extract (vs := #[.pointer (((m23.getD (none : Option Addr), m23.isSome)).1), .bool (((m23.getD (none : Option Addr), m23.isSome)).2)]) (v := .bool (((m23.getD (none : Option Addr), m23.isSome)).2)) rfl rfl rfl) ?_
          refine ro_val (d := (some 12)) rfl (.free rfl) rfl (q_assign (v := .pointer (((m23.getD (none : Option Addr), m23.isSome)).1)) rfl rfl) ?_
          refine ro_val (d := (some 13)) rfl (.free rfl) rfl (q_assign (v := .bool (((m23.getD (none : Option Addr), m23.isSome)).2)) rfl rfl) ?_
          refine ro_nil ?_
          refine seq_join (σ := (Option Addr)) (J := fun (s : (Option Addr)) w => F11_j1 t_1 tx_2 k_3 write_4 a5 a7 s w R) (fr := fun g (s : (Option Addr)) => upd (upd (upd (upd (upd (upd (g) 0 (.pointer (t_1))) 1 (.int .i64 (tx_2))) 2 (.int .i64 (k_3))) 3 (.bool (write_4))) 8 (.pointer (some a5))) 12 (.pointer (s))) ?_ ?_
          · rintro l_24 g w25 h
            unfold F11_j1 at h
            refine wp_seq ?_
            refine wp_seq ?_
            refine wp_text [0, 1, 2, 3, 4, 5, 6, 7, 8, 9, 10] rfl ?_
            refine ro_val (d := (some 72)) rfl (.free rfl) rfl (q_move (v := .pointer (l_24)) rfl rfl) ?_
            obtain ⟨a26, ha26, h⟩ := h
            refine ro_val (d := (some 73)) rfl (.free rfl) rfl (q_nilCheck (a := a26) rfl (congrArg Value.pointer ha26)) ?_
            refine ro_val (d := (some 74)) rfl (.free rfl) rfl (q_fieldAddr (a := a26) (off := 0) rfl Try.underlying68 rfl rfl ok66 (by decide) rfl) ?_
            obtain ⟨x27, hx27, h⟩ := h
            refine ro_val (d := (some 75)) rfl (.free rfl) rfl (q_load (T := tMap) (u := x27) (a := (a26.add 0)) rfl ok66 rfl hx27) ?_
            refine ro_val (d := (some 76)) rfl (.free rfl) rfl (q_move (v := .int .i64 (tx_2)) rfl rfl) ?_
            obtain ⟨m28, hm28, h⟩ := h
            refine ro_val (d := (some 77)) rfl (.free rfl) rfl (q_lookup2 (T := tBool) (r := x27) (key := tx_2) (u := m28) (z := false) rfl Try.underlying66 Try.underlying3 (inf4) rfl rfl hm28) ?_
            refine ro_val (d := (some 71)) rfl (.free rfl) rfl (q_move (v := (tTup2 tBool tBool).enc (((m28.getD false, m28.isSome)))) rfl rfl) ?_
            refine ro_val (d := (some 78)) rfl (.free rfl) rfl (q_extract (vs := #[.bool (((m28.getD false, m28.isSome)).1), .bool (((m28.getD false, m28.isSome)).2)]) (v := .bool (((m28.getD false, m28.isSome)).1)) rfl rfl rfl) ?_
            refine ro_val (d := (some 79)) rfl (.free rfl) rfl (q_extract (vs := #[.bool (((m28.getD false, m28.isSome)).1), .bool (((m28.getD false, m28.isSome)).2)]) (v := .bool (((m28.getD false, m28.isSome)).2)) rfl rfl rfl) ?_
            refine ro_val (d := (some 14)) rfl (.free rfl) rfl (q_assign (v := .bool (((m28.getD false, m28.isSome)).1)) rfl rfl) ?_
            refine ro_val (d := (some 15)) rfl (.free rfl) rfl (q_assign (v := .bool (((m28.getD false, m28.isSome)).2)) rfl rfl) ?_
            refine ro_nil ?_
            refine wp_seq ?_
            refine wp_text [0, 1, 2, 3, 4, 5, 6, 7] rfl ?_
            refine ro_val (d := (some 80)) rfl (.free rfl) rfl (q_move (v := .bool (((m28.getD false, m28.isSome)).2)) rfl rfl) ?_
            refine ro_val (d := (some 81)) rfl (.free rfl) rfl (q_move (v := .bool (((m28.getD false, m28.isSome)).2)) rfl rfl) ?_
            refine ro_gval (g := ((m28.getD false, m28.isSome)).2) (d := (some 82)) rfl (.yes 1 81 true (((m28.getD false, m28.isSome)).2) rfl rfl rfl rfl) rfl (fun hg => q_move (v := .bool (((m28.getD false, m28.isSome)).1)) rfl rfl) ?_
            refine ro_gval (g := ((m28.getD false, m28.isSome)).2) (d := (some 83)) rfl (.yes 1 81 true (((m28.getD false, m28.isSome)).2) rfl rfl rfl rfl) rfl (fun hg => q_move (v := .bool (((m28.getD false, m28.isSome)).1)) rfl (gvb_yes hg)) ?_
            refine ro_gval (g := (((m28.getD false, m28.isSome)).2 && (!(((m28.getD false, m28.isSome)).1)))) (d := (some 84)) rfl (.no 3 83 (((m28.getD false, m28.isSome)).2) (((m28.getD false, m28.isSome)).1) rfl rfl rfl rfl) rfl (fun hg => q_move (v := .bool (write_4)) rfl rfl) ?_
            refine ro_gval (g := (((m28.getD false, m28.isSome)).2 && (!(((m28.getD false, m28.isSome)).1)))) (d := (some 85)) rfl (.no 3 83 (((m28.getD false, m28.isSome)).2) (((m28.getD false, m28.isSome)).1) rfl rfl rfl rfl) rfl (fun hg => q_not (b := write_4) rfl (gvb_yes hg)) ?_
            refine ro_gval (g := ((m28.getD false, m28.isSome)).2) (d := (some 86)) rfl (.yes 1 81 true (((m28.getD false, m28.isSome)).2) rfl rfl rfl rfl) rfl (fun hg => q_pickNF (g0 := ((m28.getD false, m28.isSome)).2) (a := ((m28.getD false, m28.isSome)).1) (c := (!write_4)) hg rfl rfl rfl rfl) ?_
            refine ro_val (d := (some 87)) rfl (.free rfl) rfl (q_pickGT (a := ((m28.getD false, m28.isSome)).2) (b := (((m28.getD false, m28.isSome)).1 || (!write_4))) rfl rfl rfl rfl) ?_
            refine ro_nil ?_
            refine wp_if (b := (((m28.getD false, m28.isSome)).2 && (((m28.getD false, m28.isSome)).1 || (!write_4)))) rfl h (fun hb102 h => ?_) (fun hb102 h => ?_)
            · refine wp_seq ?_
              refine wp_text [0, 1, 2] rfl ?_
              refine ro_val (d := (some 88)) rfl (.free rfl) rfl (q_build34_0 (v0 := true) rfl rfl) ?_
              obtain ⟨w29, hw29, hrw29, h⟩ := st_open h
              refine ro_skip (d := none) rfl (.free rfl) rfl (q_store (T := T33) (u := (⟨true, (⟨none, 0, 0⟩ : Slc), (⟨none, 0, 0⟩ : Slc)⟩ : S33)) (a := a5) rfl ok34 rfl rfl hrw29 hw29) ?_
              refine ro_val (d := (some 9)) rfl (.free rfl) rfl (q_assign (v := .int .i64 ((0 : Int))) rfl rfl) ?_
              refine ro_nil ?_
              refine wp_ret ?_
              obtain ⟨x30, hx30, h⟩ := h
              exact ret_ok rfl (.cons (.cell (T := T33) (u := x30) (a := a5) ok34 rfl hx30) (.cons (.tmp (v := .int .i64 ((0 : Int))) rfl) .nil)) ⟨(x30, (0 : Int)), rfl, h⟩
            · refine wp_skip ?_
              refine wp_seq ?_
              refine wp_text [0, 1, 2] rfl ?_
              refine ro_val (d := (some 89)) rfl (.free rfl) rfl (q_build34_  rfl ) ?_
              obtain ⟨a31, w32, ha31, hw32, h⟩ := nw_open h
              refine ro_val (d := (some 16)) rfl (.free rfl) rfl (q_alloc (u := Z33) rfl ok34 inf34 ha31 hw32) ?_
              obtain ⟨w33, hw33, hrw33, h⟩ := st_open h
              refine ro_skip (d := none) rfl (.free rfl) rfl (q_store (T := T33) (u := (⟨false, (⟨none, 0, 0⟩ : Slc), (⟨none, 0, 0⟩ : Slc)⟩ : S33)) (a := a31) rfl ok34 rfl rfl hrw33 hw33) ?_
              refine ro_nil ?_
              refine wp_seq ?_
              refine wp_text [0, 1, 2, 3] rfl ?_
              refine ro_val (d := (some 90)) rfl (.free rfl) rfl (q_move (v := .int .i64 (tx_2)) rfl rfl) ?_
              refine ro_val (d := (some 91)) rfl (.free rfl) rfl (q_move (v := .bool (write_4)) rfl rfl) ?_
              refine ro_wp rfl (.free rfl) (wp_cl (d := (some 92)) rfl (q_call (k := 25) (l := [.int .i64 (tx_2), .bool (write_4)]) rfl ent25 rfl) h ?_)
              intro r35 w34 h
              refine ro_val (d := (some 17)) rfl (.free rfl) rfl (q_assign (v := (r35).enc) rfl rfl) ?_
              refine ro_nil ?_
              refine wp_seq ?_
              refine wp_seq ?_
              refine wp_text [0, 1, 2, 3, 4, 5, 6, 7] rfl ?_
              refine ro_val (d := (some 93)) rfl (.free rfl) rfl (q_move (v := .pointer (l_24)) rfl rfl) ?_
              refine ro_val (d := (some 94)) rfl (.free rfl) rfl (q_nilCheck (a := a26) rfl (congrArg Value.pointer ha26)) ?_
              refine ro_val (d := (some 95)) rfl (.free rfl) rfl (q_fieldAddr (a := a26) (off := 0) rfl Try.underlying68 rfl rfl ok66 (by decide) rfl) ?_
              obtain ⟨x36, hx36, h⟩ := h
              refine ro_val (d := (some 96)) rfl (.free rfl) rfl (q_load (T := tMap) (u := x36) (a := (a26.add 0)) rfl ok66 rfl hx36) ?_
              refine ro_wp rfl (.free rfl) (wp_cl (d := (some 97)) rfl (q_call (k := 27) (l := [.map (x36)]) rfl ent27 rfl) h ?_)
              intro r38 w37 h
              refine ro_wp rfl (.free rfl) (wp_cl (d := (some 98)) rfl (q_call (k := 26) (l := [(r38).enc]) rfl ent26 rfl) h ?_)
              intro r40 w39 h
              refine ro_val (d := (some 99)) rfl (.free rfl) rfl (q_len (s := r40) rfl Try.underlying26 rfl) ?_
              refine ro_val (d := (some 100)) rfl (.free rfl) rfl (q_move (v := .int .i64 ((0 : Int))) rfl rfl) ?_
              refine ro_nil ?_
              refine wp_block ?_
              refine loop_at (σ := Int) (fr := fun g (s : Int) => upd (upd (upd (upd (upd (upd (upd (upd (upd (upd (upd (g) 0 (.pointer (t_1))) 1 (.int .i64 (tx_2))) 2 (.int .i64 (k_3))) 3 (.bool (write_4))) 8 (.pointer (some a5))) 12 (.pointer (l_24))) 16 (.pointer (some a31))) 17 ((r35).enc)) 98 (tSlc.enc (r40))) 99 (.int .i64 ((r40.len : Int)))) 100 (.int .i64 (s))) (s0 := ((0 : Int))) (upd_step (upd_step (upd_step (upd_step (upd_step (upd_step (upd_step (upd_step (upd_step (upd_step (upd_step rfl rfl) rfl) rfl) rfl) rfl) rfl) rfl) rfl) rfl) rfl) rfl) h ?_
              rintro t_41 g w42 K43 h
              unfold F11_l2 at h
              refine wp_seq ?_
              refine wp_text [0] rfl ?_
              refine ro_val (d := (some 101)) rfl (.free rfl) rfl (q_lss (a := t_41) (b := (r40.len : Int)) rfl rfl rfl) ?_
              refine ro_nil ?_
              refine wp_seq ?_
              refine wp_if (b := (decide (t_41 < (r40.len : Int)))) rfl h (fun hb101 h => ?_) (fun hb101 h => ?_)
              · refine wp_skip ?_
                refine seq_join (σ := Unit) (J := fun (s : Unit) w => F11_j3 t_41 w K43 R) (fr := fun g (s : Unit) => upd (upd (upd (upd (upd (upd (upd (upd (upd (upd (upd (g) 0 (.pointer (t_1))) 1 (.int .i64 (tx_2))) 2 (.int .i64 (k_3))) 3 (.bool (write_4))) 8 (.pointer (some a5))) 12 (.pointer (l_24))) 16 (.pointer (some a31))) 17 ((r35).enc)) 98 (tSlc.enc (r40))) 99 (.int .i64 ((r40.len : Int)))) 100 (.int .i64 (t_41))) ?_ ?_
                · rintro ⟨⟩ g w44 h
                  unfold F11_j3 at h
                  refine wp_text [0, 1] rfl ?_
                  refine ro_val (d := (some 124)) rfl (.free rfl) rfl (q_add (a := t_41) (b := (1 : Int)) rfl rfl rfl) ?_
                  refine ro_val (d := (some 100)) rfl (.free rfl) rfl (q_move (v := .int .i64 ((IntKind.i64.wrap (t_41 + (1 : Int))))) rfl rfl) ?_
                  refine ro_nil ?_
                  exact ⟨((IntKind.i64.wrap (t_41 + (1 : Int)))), _, arr (upd_step (upd_step (upd_step (upd_step (upd_step (upd_step (upd_step (upd_step (upd_step (upd_step (upd_step rfl rfl) rfl) rfl) rfl) rfl) rfl) rfl) rfl) rfl) rfl) rfl), h⟩
                · refine wp_block ?_
                  refine wp_seq ?_
                  refine wp_text [0, 1, 2] rfl ?_
                  obtain ⟨a45, ha45, h⟩ := h
                  refine ro_val (d := (some 102)) rfl (.free rfl) rfl (q_indexAddr (s := r40) (i := t_41) rfl Try.underlying26 ok3 rfl rfl ha45) ?_
                  obtain ⟨x46, hx46, h⟩ := h
                  refine ro_val (d := (some 103)) rfl (.free rfl) rfl (q_load (T := (tInt .i64)) (u := x46) (a := a45) rfl ok3 rfl hx46) ?_
                  refine ro_val (d := (some 19)) rfl (.free rfl) rfl (q_assign (v := .int .i64 (x46)) rfl rfl) ?_
                  refine ro_nil ?_
                  refine wp_seq ?_
                  refine wp_text [0, 1, 2, 3, 4, 5, 6, 7, 8, 9, 10, 11, 12, 13] rfl ?_
                  refine ro_val (d := (some 104)) rfl (.free rfl) rfl (q_move (v := .int .i64 (x46)) rfl rfl) ?_
                  refine ro_val (d := (some 105)) rfl (.free rfl) rfl (q_move (v := .int .i64 (tx_2)) rfl rfl) ?_
                  refine ro_val (d := (some 106)) rfl (.free rfl) rfl (q_gtr (a := x46) (b := tx_2) rfl rfl rfl) ?_
                  refine ro_val (d := (some 107)) rfl (.free rfl) rfl (q_move (v := .bool ((decide (x46 > tx_2)))) rfl rfl) ?_
                  refine ro_join (σ := Bool) (J := fun (s : Bool) w => F11_j4 a31 t_41 x46 s w K43 R) (fr := fun g (s : Bool) => upd (upd (upd (upd (upd (upd (upd (upd (upd (upd (upd (upd (upd (g) 0 (.pointer (t_1))) 1 (.int .i64 (tx_2))) 2 (.int .i64 (k_3))) 3 (.bool (write_4))) 8 (.pointer (some a5))) 12 (.pointer (l_24))) 16 (.pointer (some a31))) 17 ((r35).enc)) 19 (.int .i64 (x46))) 98 (tSlc.enc (r40))) 99 (.int .i64 ((r40.len : Int)))) 100 (.int .i64 (t_41))) 117 (.bool (s))) [4, 5, 6, 7, 8, 9, 10, 11, 12, 13] [] ?_ ?_
                  · rintro t_47 g w48 h
                    unfold F11_j4 at h
                    refine ro_nil ?_
                    refine wp_if (b := t_47) rfl h (fun hb55 h => ?_) (fun hb55 h => ?_)
                    · refine wp_text [0, 1, 2, 3, 4, 5, 6] rfl ?_
                      refine ro_val (d := (some 118)) rfl (.free rfl) rfl (q_fieldAddr (a := a31) (off := 1) rfl Try.underlying34 rfl rfl ok26 (by decide) rfl) ?_
                      obtain ⟨x49, hx49, h⟩ := h
                      refine ro_val (d := (some 119)) rfl (.free rfl) rfl (q_load (T := tSlc) (u := x49) (a := (a31.add 1)) rfl ok26 rfl hx49) ?_
                      refine ro_val (d := (some 120)) rfl (.free rfl) rfl (q_move (v := .int .i64 (x46)) rfl rfl) ?_
                      obtain ⟨a50, w51, ha50, hw51, h⟩ := apl_open h
                      refine ro_val (d := (some 121)) rfl (.free rfl) rfl (q_rowOf (T := (tInt .i64)) (xs := [x46]) rfl Try.underlying26 ok3 inf3 rfl (by decide) (by decide) rfl ha50 hw51) ?_
                      refine ro_wp rfl (.free rfl) (wp_append (d := (some 122)) (T := (tInt .i64)) rfl rfl Try.underlying26 ⟨_, Try.underlying26⟩ ok3 inf3 rfl rfl (Nat.lt_of_lt_of_le Nat.zero_lt_one (Nat.le_of_ble_eq_true rfl)) rfl rfl h ?_)
                      intro r53 w52 h
                      refine ro_val (d := (some 123)) rfl (.free rfl) rfl (q_fieldAddr (a := a31) (off := 1) rfl Try.underlying34 rfl rfl ok26 (by decide) rfl) ?_
                      obtain ⟨w54, hw54, hrw54, h⟩ := st_open h
                      refine ro_skip (d := none) rfl (.free rfl) rfl (q_store (T := tSlc) (u := r53) (a := (a31.add 1)) rfl ok26 rfl rfl hrw54 hw54) ?_
                      refine ro_nil ?_
                      exact ⟨(), _, arr (upd_step (upd_step (upd_step (upd_step (upd_step (upd_step (upd_step (upd_step (upd_step (upd_step (upd_step rfl rfl) rfl) rfl) rfl) rfl) rfl) rfl) rfl) rfl) rfl) rfl), h⟩
                    · refine wp_skip ?_
                      exact ⟨(), _, arr (upd_step (upd_step (upd_step (upd_step (upd_step (upd_step (upd_step (upd_step (upd_step (upd_step (upd_step rfl rfl) rfl) rfl) rfl) rfl) rfl) rfl) rfl) rfl) rfl) rfl), h⟩
                  · refine ro_if (b := (decide (x46 > tx_2))) h (fun hb56 h => ?_) (fun hb56 h => ?_)
                    · refine ro_val (d := (some 108)) rfl (.by_ 3 true 107 (decide (x46 > tx_2)) rfl rfl rfl hb56) rfl (q_move (v := (r35).enc) rfl rfl) ?_
                      refine ro_val (d := (some 109)) rfl (.by_ 3 true 107 (decide (x46 > tx_2)) rfl rfl rfl hb56) rfl (q_move (v := .int .i64 (x46)) rfl rfl) ?_
                      refine ro_val (d := (some 110)) rfl (.by_ 3 true 107 (decide (x46 > tx_2)) rfl rfl rfl hb56) rfl (q_move (v := .pointer (l_24)) rfl rfl) ?_
                      refine ro_val (d := (some 111)) rfl (.by_ 3 true 107 (decide (x46 > tx_2)) rfl rfl rfl hb56) rfl (q_nilCheck (a := a26) rfl (congrArg Value.pointer ha26)) ?_
                      refine ro_val (d := (some 112)) rfl (.by_ 3 true 107 (decide (x46 > tx_2)) rfl rfl rfl hb56) rfl (q_fieldAddr (a := a26) (off := 0) rfl Try.underlying68 rfl rfl ok66 (by decide) rfl) ?_
                      obtain ⟨x57, hx57, h⟩ := h
                      refine ro_val (d := (some 113)) rfl (.by_ 3 true 107 (decide (x46 > tx_2)) rfl rfl rfl hb56) rfl (q_load (T := tMap) (u := x57) (a := (a26.add 0)) rfl ok66 rfl hx57) ?_
                      refine ro_val (d := (some 114)) rfl (.by_ 3 true 107 (decide (x46 > tx_2)) rfl rfl rfl hb56) rfl (q_move (v := .int .i64 (x46)) rfl rfl) ?_
                      obtain ⟨m58, hm58, h⟩ := h
                      refine ro_val (d := (some 115)) rfl (.by_ 3 true 107 (decide (x46 > tx_2)) rfl rfl rfl hb56) rfl (q_lookup (T := tBool) (r := x57) (key := x46) (u := m58) (z := false) rfl Try.underlying66 Try.underlying3 (inf4) rfl rfl hm58) ?_
                      refine ro_wp rfl (.by_ 3 true 107 (decide (x46 > tx_2)) rfl rfl rfl hb56) (wp_clv (d := (some 116)) (l := [.int .i64 (x46), .bool ((m58.getD false))]) (fv := r35) rfl rfl rfl rfl h ?_)
                      intro r60 w59 h
                      refine ro_val (d := (some 117)) rfl (.free rfl) rfl (q_pickT (v := .bool (r60)) (b := (decide (x46 > tx_2))) rfl rfl hb56 rfl) ?_
                      refine ro_nil ?_
                      exact ⟨(r60), _, arr (upd_step (upd_step (upd_step (upd_step (upd_step (upd_step (upd_step (upd_step (upd_step (upd_step (upd_step (upd_step (upd_step rfl rfl) rfl) rfl) rfl) rfl) rfl) rfl) rfl) rfl) rfl) rfl) rfl) rfl), h⟩
                    · refine ro_bar (d := (some 108)) rfl (.by_ 3 true 107 (decide (x46 > tx_2)) rfl rfl rfl hb56) rfl ?_
                      refine ro_bar (d := (some 109)) rfl (.by_ 3 true 107 (decide (x46 > tx_2)) rfl rfl rfl hb56) rfl ?_
                      refine ro_bar (d := (some 110)) rfl (.by_ 3 true 107 (decide (x46 > tx_2)) rfl rfl rfl hb56) rfl ?_
                      refine ro_bar (d := (some 111)) rfl (.by_ 3 true 107 (decide (x46 > tx_2)) rfl rfl rfl hb56) rfl ?_
                      refine ro_bar (d := (some 112)) rfl (.by_ 3 true 107 (decide (x46 > tx_2)) rfl rfl rfl hb56) rfl ?_
                      refine ro_bar (d := (some 113)) rfl (.by_ 3 true 107 (decide (x46 > tx_2)) rfl rfl rfl hb56) rfl ?_
                      refine ro_bar (d := (some 114)) rfl (.by_ 3 true 107 (decide (x46 > tx_2)) rfl rfl rfl hb56) rfl ?_
                      refine ro_bar (d := (some 115)) rfl (.by_ 3 true 107 (decide (x46 > tx_2)) rfl rfl rfl hb56) rfl ?_
                      refine ro_bar (d := (some 116)) rfl (.by_ 3 true 107 (decide (x46 > tx_2)) rfl rfl rfl hb56) rfl ?_
                      refine ro_val (d := (some 117)) rfl (.free rfl) rfl (q_pickF (v := .bool (false)) (b := (decide (x46 > tx_2))) rfl rfl hb56 rfl) ?_
                      refine ro_nil ?_
                      exact ⟨(false), _, arr (upd_step (upd_step (upd_step (upd_step (upd_step (upd_step (upd_step (upd_step (upd_step (upd_step (upd_step (upd_step (upd_step rfl rfl) rfl) rfl) rfl) rfl) rfl) rfl) rfl) rfl) rfl) rfl) rfl) rfl), h⟩
              · refine wp_exit ?_
                refine wp_seq ?_
                refine wp_seq ?_
                refine wp_text [0, 1, 2, 3] rfl ?_
                refine ro_val (d := (some 125)) rfl (.free rfl) rfl (q_fieldAddr (a := a31) (off := 1) rfl Try.underlying34 rfl rfl ok26 (by decide) rfl) ?_
                obtain ⟨x61, hx61, h⟩ := h
                refine ro_val (d := (some 126)) rfl (.free rfl) rfl (q_load (T := tSlc) (u := x61) (a := (a31.add 1)) rfl ok26 rfl hx61) ?_
                refine ro_val (d := (some 127)) rfl (.free rfl) rfl (q_len (s := x61) rfl Try.underlying26 rfl) ?_
                refine ro_val (d := (some 128)) rfl (.free rfl) rfl (q_move (v := .int .i64 ((0 : Int))) rfl rfl) ?_
                refine ro_nil ?_
                refine wp_block ?_
                refine loop_at (σ := Int) (fr := fun g (s : Int) => upd (upd (upd (upd (upd (upd (upd (upd (upd (upd (g) 0 (.pointer (t_1))) 1 (.int .i64 (tx_2))) 2 (.int .i64 (k_3))) 3 (.bool (write_4))) 8 (.pointer (some a5))) 12 (.pointer (l_24))) 16 (.pointer (some a31))) 126 (tSlc.enc (x61))) 127 (.int .i64 ((x61.len : Int)))) 128 (.int .i64 (s))) (s0 := ((0 : Int))) (upd_step (upd_step (upd_step (upd_step (upd_step (upd_step (upd_step (upd_step (upd_step (upd_step rfl rfl) rfl) rfl) rfl) rfl) rfl) rfl) rfl) rfl) rfl) h ?_
                rintro t_62 g w63 K64 h
                unfold F11_l5 at h
                refine wp_seq ?_
                refine wp_text [0] rfl ?_
                refine ro_val (d := (some 129)) rfl (.free rfl) rfl (q_lss (a := t_62) (b := (x61.len : Int)) rfl rfl rfl) ?_
                refine ro_nil ?_
                refine wp_seq ?_
                refine wp_if (b := (decide (t_62 < (x61.len : Int)))) rfl h (fun hb100 h => ?_) (fun hb100 h => ?_)
                · refine wp_skip ?_
                  refine wp_seq ?_
                  refine wp_block ?_
                  refine wp_seq ?_
                  refine wp_text [0, 1, 2] rfl ?_
                  obtain ⟨a65, ha65, h⟩ := h
                  refine ro_val (d := (some 130)) rfl (.free rfl) rfl (q_indexAddr (s := x61) (i := t_62) rfl Try.underlying26 ok3 rfl rfl ha65) ?_
                  obtain ⟨x66, hx66, h⟩ := h
                  refine ro_val (d := (some 131)) rfl (.free rfl) rfl (q_load (T := (tInt .i64)) (u := x66) (a := a65) rfl ok3 rfl hx66) ?_
                  refine ro_val (d := (some 21)) rfl (.free rfl) rfl (q_assign (v := .int .i64 (x66)) rfl rfl) ?_
                  refine ro_nil ?_
                  refine wp_seq ?_
                  refine wp_text [0, 1, 2] rfl ?_
                  refine ro_val (d := (some 132)) rfl (.free rfl) rfl (q_move (v := .pointer (t_1)) rfl rfl) ?_
                  refine ro_val (d := (some 133)) rfl (.free rfl) rfl (q_move (v := .int .i64 (x66)) rfl rfl) ?_
                  refine ro_wp rfl (.free rfl) (wp_cl (d := (some 134)) rfl (q_call (k := 28) (l := [.pointer (t_1), .int .i64 (x66)]) rfl ent28 rfl) h ?_)
                  intro r68 w67 h
                  refine ro_nil ?_
                  refine wp_text [0, 1, 2, 3, 4, 5, 6] rfl ?_
                  refine ro_val (d := (some 135)) rfl (.free rfl) rfl (q_move (v := .pointer (t_1)) rfl rfl) ?_
                  refine ro_val (d := (some 136)) rfl (.free rfl) rfl (q_nilCheck (a := a7) rfl (congrArg Value.pointer ha7)) ?_
                  refine ro_val (d := (some 137)) rfl (.free rfl) rfl (q_fieldAddr (a := a7) (off := 2) rfl Try.underlying62 rfl rfl ok60 (by decide) rfl) ?_
                  obtain ⟨x69, hx69, h⟩ := h
                  refine ro_val (d := (some 138)) rfl (.free rfl) rfl (q_load (T := tMap) (u := x69) (a := (a7.add 2)) rfl ok60 rfl hx69) ?_
                  refine ro_val (d := (some 139)) rfl (.free rfl) rfl (q_move (v := .int .i64 (x66)) rfl rfl) ?_
                  refine ro_val (d := (some 140)) rfl (.free rfl) rfl (q_build77_  rfl ) ?_
                  refine ro_wp rfl (.free rfl) (wp_mput (T := T77) (r := x69) (key := x66) (v := (⟨⟩ : S77)) (d := none) rfl (.inl rfl) Try.underlying60 Try.underlying3 rfl rfl rfl h ?_)
                  intro w70 h
                  refine ro_nil ?_
                  refine wp_text [0, 1] rfl ?_
                  refine ro_val (d := (some 141)) rfl (.free rfl) rfl (q_add (a := t_62) (b := (1 : Int)) rfl rfl rfl) ?_
                  refine ro_val (d := (some 128)) rfl (.free rfl) rfl (q_move (v := .int .i64 ((IntKind.i64.wrap (t_62 + (1 : Int))))) rfl rfl) ?_
                  refine ro_nil ?_
                  exact ⟨((IntKind.i64.wrap (t_62 + (1 : Int)))), _, arr (upd_step (upd_step (upd_step (upd_step (upd_step (upd_step (upd_step (upd_step (upd_step (upd_step rfl rfl) rfl) rfl) rfl) rfl) rfl) rfl) rfl) rfl) rfl), h⟩
                · refine wp_exit ?_
                  refine wp_seq ?_
                  refine wp_text [0, 1, 2, 3, 4, 5, 6] rfl ?_
                  refine ro_val (d := (some 142)) rfl (.free rfl) rfl (q_move (v := .pointer (l_24)) rfl rfl) ?_
                  refine ro_val (d := (some 143)) rfl (.free rfl) rfl (q_nilCheck (a := a26) rfl (congrArg Value.pointer ha26)) ?_
                  refine ro_val (d := (some 144)) rfl (.free rfl) rfl (q_fieldAddr (a := a26) (off := 1) rfl Try.underlying68 rfl rfl ok66 (by decide) rfl) ?_
                  obtain ⟨x71, hx71, h⟩ := h
                  refine ro_val (d := (some 145)) rfl (.free rfl) rfl (q_load (T := tMap) (u := x71) (a := (a26.add 1)) rfl ok66 rfl hx71) ?_
                  refine ro_val (d := (some 146)) rfl (.free rfl) rfl (q_move (v := .int .i64 (tx_2)) rfl rfl) ?_
                  refine ro_val (d := (some 147)) rfl (.free rfl) rfl (q_move (v := .bool (write_4)) rfl rfl) ?_
                  refine ro_wp rfl (.free rfl) (wp_mput (T := tBool) (r := x71) (key := tx_2) (v := write_4) (d := none) rfl (.inl rfl) Try.underlying66 Try.underlying3 rfl rfl rfl h ?_)
                  intro w72 h
                  refine ro_nil ?_
                  refine wp_seq ?_
                  refine wp_text [0, 1, 2, 3, 4, 5, 6] rfl ?_
                  refine ro_val (d := (some 148)) rfl (.free rfl) rfl (q_move (v := .pointer (t_1)) rfl rfl) ?_
                  refine ro_val (d := (some 149)) rfl (.free rfl) rfl (q_nilCheck (a := a7) rfl (congrArg Value.pointer ha7)) ?_
                  refine ro_val (d := (some 150)) rfl (.free rfl) rfl (q_fieldAddr (a := a7) (off := 1) rfl Try.underlying62 rfl rfl ok59 (by decide) rfl) ?_
                  obtain ⟨x73, hx73, h⟩ := h
                  refine ro_val (d := (some 151)) rfl (.free rfl) rfl (q_load (T := tMap) (u := x73) (a := (a7.add 1)) rfl ok59 rfl hx73) ?_
                  refine ro_val (d := (some 152)) rfl (.free rfl) rfl (q_move (v := .int .i64 (tx_2)) rfl rfl) ?_
                  refine ro_val (d := (some 153)) rfl (.free rfl) rfl (q_move (v := .int .i64 (k_3)) rfl rfl) ?_
                  refine ro_wp rfl (.free rfl) (wp_mput (T := (tInt .i64)) (r := x73) (key := tx_2) (v := k_3) (d := none) rfl (.inl rfl) Try.underlying59 Try.underlying3 rfl rfl rfl h ?_)
                  intro w74 h
                  refine ro_nil ?_
                  refine wp_seq ?_
                  refine wp_seq ?_
                  refine wp_text [0, 1, 2, 3] rfl ?_
                  refine ro_val (d := (some 154)) rfl (.free rfl) rfl (q_move (v := .pointer (t_1)) rfl rfl) ?_
                  refine ro_wp rfl (.free rfl) (wp_cl (d := (some 155)) rfl (q_call (k := 29) (l := [.pointer (t_1)]) rfl ent29 rfl) h ?_)
                  intro r76 w75 h
                  refine ro_val (d := (some 156)) rfl (.free rfl) rfl (q_len (s := r76) rfl Try.underlying32 rfl) ?_
                  refine ro_val (d := (some 157)) rfl (.free rfl) rfl (q_move (v := .int .i64 ((0 : Int))) rfl rfl) ?_
                  refine ro_nil ?_
                  refine wp_block ?_
                  refine loop_at (σ := Int) (fr := fun g (s : Int) => upd (upd (upd (upd (upd (upd (g) 1 (.int .i64 (tx_2))) 8 (.pointer (some a5))) 16 (.pointer (some a31))) 155 (tSlc.enc (r76))) 156 (.int .i64 ((r76.len : Int)))) 157 (.int .i64 (s))) (s0 := ((0 : Int))) (upd_step (upd_step (upd_step (upd_step (upd_step (upd_step rfl rfl) rfl) rfl) rfl) rfl) rfl) h ?_
                  rintro t_77 g w78 K79 h
                  unfold F11_l6 at h
                  refine wp_seq ?_
                  refine wp_text [0] rfl ?_
                  refine ro_val (d := (some 158)) rfl (.free rfl) rfl (q_lss (a := t_77) (b := (r76.len : Int)) rfl rfl rfl) ?_
                  refine ro_nil ?_
                  refine wp_seq ?_
                  refine wp_if (b := (decide (t_77 < (r76.len : Int)))) rfl h (fun hb99 h => ?_) (fun hb99 h => ?_)
                  · refine wp_skip ?_
                    refine seq_join (σ := Unit) (J := fun (s : Unit) w => F11_j7 t_77 w K79 R) (fr := fun g (s : Unit) => upd (upd (upd (upd (upd (upd (g) 1 (.int .i64 (tx_2))) 8 (.pointer (some a5))) 16 (.pointer (some a31))) 155 (tSlc.enc (r76))) 156 (.int .i64 ((r76.len : Int)))) 157 (.int .i64 (t_77))) ?_ ?_
                    · rintro ⟨⟩ g w80 h
                      unfold F11_j7 at h
                      refine wp_text [0, 1] rfl ?_
                      refine ro_val (d := (some 172)) rfl (.free rfl) rfl (q_add (a := t_77) (b := (1 : Int)) rfl rfl rfl) ?_
                      refine ro_val (d := (some 157)) rfl (.free rfl) rfl (q_move (v := .int .i64 ((IntKind.i64.wrap (t_77 + (1 : Int))))) rfl rfl) ?_
                      refine ro_nil ?_
                      exact ⟨((IntKind.i64.wrap (t_77 + (1 : Int)))), _, arr (upd_step (upd_step (upd_step (upd_step (upd_step (upd_step rfl rfl) rfl) rfl) rfl) rfl) rfl), h⟩
                    · refine wp_block ?_
                      refine wp_seq ?_
                      refine wp_text [0, 1, 2, 3] rfl ?_
                      obtain ⟨a81, ha81, h⟩ := h
                      refine ro_val (d := (some 159)) rfl (.free rfl) rfl (q_indexAddr (s := r76) (i := t_77) rfl Try.underlying32 ok56 rfl rfl ha81) ?_
                      obtain ⟨x82, hx82, h⟩ := h
                      refine ro_val (d := (some 160)) rfl (.free rfl) rfl (q_load (T := T55) (u := x82) (a := a81) rfl ok56 rfl hx82) ?_
                      obtain ⟨a83, w84, ha83, hw84, h⟩ := nw_open h
                      refine ro_val (d := (some 23)) rfl (.free rfl) rfl (q_alloc (u := Z55) rfl ok56 inf56 ha83 hw84) ?_
                      obtain ⟨w85, hw85, hrw85, h⟩ := st_open h
                      refine ro_skip (d := none) rfl (.free rfl) rfl (q_store (T := T55) (u := x82) (a := a83) rfl ok56 rfl rfl hrw85 hw85) ?_
                      refine ro_nil ?_
                      refine wp_seq ?_
                      refine wp_text [0, 1, 2, 3] rfl ?_
                      refine ro_val (d := (some 161)) rfl (.free rfl) rfl (q_fieldAddr (a := a83) (off := 0) rfl Try.underlying56 rfl rfl ok3 (by decide) rfl) ?_
                      obtain ⟨x86, hx86, h⟩ := h
                      refine ro_val (d := (some 162)) rfl (.free rfl) rfl (q_load (T := (tInt .i64)) (u := x86) (a := (a83.add 0)) rfl ok3 rfl hx86) ?_
                      refine ro_val (d := (some 163)) rfl (.free rfl) rfl (q_move (v := .int .i64 (tx_2)) rfl rfl) ?_
                      refine ro_val (d := (some 164)) rfl (.free rfl) rfl (q_eql (a := x86) (b := tx_2) rfl rfl rfl) ?_
                      refine ro_nil ?_
                      refine wp_if (b := (x86 == tx_2)) rfl h (fun hb95 h => ?_) (fun hb95 h => ?_)
                      · refine wp_text [0, 1] rfl ?_
                        refine ro_val (d := (some 165)) rfl (.free rfl) rfl (q_fieldAddr (a := a31) (off := 0) rfl Try.underlying34 rfl rfl ok4 (by decide) rfl) ?_
                        obtain ⟨w87, hw87, hrw87, h⟩ := st_open h
                        refine ro_skip (d := none) rfl (.free rfl) rfl (q_store (T := tBool) (u := true) (a := (a31.add 0)) rfl ok4 rfl rfl hrw87 hw87) ?_
                        refine ro_nil ?_
                        exact ⟨(), _, arr (upd_step (upd_step (upd_step (upd_step (upd_step (upd_step rfl rfl) rfl) rfl) rfl) rfl) rfl), h⟩
                      · refine wp_text [0, 1, 2, 3, 4, 5, 6] rfl ?_
                        refine ro_val (d := (some 166)) rfl (.free rfl) rfl (q_fieldAddr (a := a31) (off := 2) rfl Try.underlying34 rfl rfl ok32 (by decide) rfl) ?_
                        obtain ⟨x88, hx88, h⟩ := h
                        refine ro_val (d := (some 167)) rfl (.free rfl) rfl (q_load (T := tSlc) (u := x88) (a := (a31.add 2)) rfl ok32 rfl hx88) ?_
                        obtain ⟨x89, hx89, h⟩ := h
                        refine ro_val (d := (some 168)) rfl (.free rfl) rfl (q_load (T := T55) (u := x89) (a := a83) rfl ok56 rfl hx89) ?_
                        obtain ⟨a90, w91, ha90, hw91, h⟩ := apl_open h
                        refine ro_val (d := (some 169)) rfl (.free rfl) rfl (q_rowOf (T := T55) (xs := [x89]) rfl Try.underlying32 ok56 inf56 rfl (by decide) (by decide) rfl ha90 hw91) ?_
                        refine ro_wp rfl (.free rfl) (wp_append (d := (some 170)) (T := T55) rfl rfl Try.underlying32 ⟨_, Try.underlying32⟩ ok56 inf56 rfl rfl (Nat.lt_of_lt_of_le Nat.zero_lt_one (Nat.le_of_ble_eq_true rfl)) rfl rfl h ?_)
                        intro r93 w92 h
                        refine ro_val (d := (some 171)) rfl (.free rfl) rfl (q_fieldAddr (a := a31) (off := 2) rfl Try.underlying34 rfl rfl ok32 (by decide) rfl) ?_
                        obtain ⟨w94, hw94, hrw94, h⟩ := st_open h
                        refine ro_skip (d := none) rfl (.free rfl) rfl (q_store (T := tSlc) (u := r93) (a := (a31.add 2)) rfl ok32 rfl rfl hrw94 hw94) ?_
                        refine ro_nil ?_
                        exact ⟨(), _, arr (upd_step (upd_step (upd_step (upd_step (upd_step (upd_step rfl rfl) rfl) rfl) rfl) rfl) rfl), h⟩
                  · refine wp_exit ?_
                    refine wp_seq ?_
                    refine wp_text [0, 1, 2] rfl ?_
                    obtain ⟨x96, hx96, h⟩ := h
                    refine ro_val (d := (some 173)) rfl (.free rfl) rfl (q_load (T := T33) (u := x96) (a := a31) rfl ok34 rfl hx96) ?_
                    obtain ⟨w97, hw97, hrw97, h⟩ := st_open h
                    refine ro_skip (d := none) rfl (.free rfl) rfl (q_store (T := T33) (u := x96) (a := a5) rfl ok34 rfl rfl hrw97 hw97) ?_
                    refine ro_val (d := (some 9)) rfl (.free rfl) rfl (q_assign (v := .int .i64 ((0 : Int))) rfl rfl) ?_
                    refine ro_nil ?_
                    refine wp_ret ?_
                    obtain ⟨x98, hx98, h⟩ := h
                    exact ret_ok rfl (.cons (.cell (T := T33) (u := x98) (a := a5) ok34 rfl hx98) (.cons (.tmp (v := .int .i64 ((0 : Int))) rfl) .nil)) ⟨(x98, (0 : Int)), rfl, h⟩
          · refine wp_seq ?_
            refine wp_text [0, 1] rfl ?_
            refine ro_val (d := (some 59)) rfl (.free rfl) rfl (q_move (v := .bool (((m23.getD (none : Option Addr), m23.isSome)).2)) rfl rfl) ?_
            refine ro_val (d := (some 60)) rfl (.free rfl) rfl (q_not (b := ((m23.getD (none : Option Addr), m23.isSome)).2) rfl rfl) ?_
            refine ro_nil ?_
            refine wp_if (b := (!(((m23.getD (none : Option Addr), m23.isSome)).2))) rfl h (fun hb111 h => ?_) (fun hb111 h => ?_)
            · refine wp_seq ?_
              refine wp_text [0, 1, 2, 3, 4] rfl ?_
              obtain ⟨m104, w103, hm104, hw103, h⟩ := nwMap_open h
              refine ro_val (d := (some 61)) rfl (.free rfl) rfl (q_makeMap rfl hm104 hw103) ?_
              obtain ⟨m106, w105, hm106, hw105, h⟩ := nwMap_open h
              refine ro_val (d := (some 62)) rfl (.free rfl) rfl (q_makeMap rfl hm106 hw105) ?_
              refine ro_val (d := (some 63)) rfl (.free rfl) rfl (q_build68_0_1 (v0 := (some m104)) (v1 := (some m106)) rfl rfl rfl) ?_
              obtain ⟨a107, w108, ha107, hw108, h⟩ := nw_open h
              refine ro_val (d := (some 64)) rfl (.free rfl) rfl (q_box (u := (⟨(some m104), (some m106)⟩ : S67)) rfl ok68 rfl ha107 hw108) ?_
              refine ro_val (d := (some 12)) rfl (.free rfl) rfl (q_assign (v := .pointer (some a107)) rfl rfl) ?_
              refine ro_nil ?_
              refine wp_text [0, 1, 2, 3, 4, 5, 6] rfl ?_
              refine ro_val (d := (some 65)) rfl (.free rfl) rfl (q_move (v := .pointer (t_1)) rfl rfl) ?_
              refine ro_val (d := (some 66)) rfl (.free rfl) rfl (q_nilCheck (a := a7) rfl (congrArg Value.pointer ha7)) ?_
              refine ro_val (d := (some 67)) rfl (.free rfl) rfl (q_fieldAddr (a := a7) (off := 0) rfl Try.underlying62 rfl rfl ok58 (by decide) rfl) ?_
              obtain ⟨x109, hx109, h⟩ := h
              refine ro_val (d := (some 68)) rfl (.free rfl) rfl (q_load (T := tMap) (u := x109) (a := (a7.add 0)) rfl ok58 rfl hx109) ?_
              refine ro_val (d := (some 69)) rfl (.free rfl) rfl (q_move (v := .int .i64 (k_3)) rfl rfl) ?_
              refine ro_val (d := (some 70)) rfl (.free rfl) rfl (q_move (v := .pointer ((some a107))) rfl rfl) ?_
              refine ro_wp rfl (.free rfl) (wp_mput (T := tPtr) (r := x109) (key := k_3) (v := (some a107)) (d := none) rfl (.inl rfl) Try.underlying58 Try.underlying3 rfl rfl rfl h ?_)
              intro w110 h
              refine ro_nil ?_
              exact ⟨((some a107)), _, arr (upd_step (upd_step (upd_step (upd_step (upd_step (upd_step rfl rfl) rfl) rfl) rfl) rfl) rfl), h⟩
            · refine wp_skip ?_
              exact ⟨(((m23.getD (none : Option Addr), m23.isSome)).1), _, arr (upd_step (upd_step (upd_step (upd_step (upd_step (upd_step rfl rfl) rfl) rfl) rfl) rfl) rfl), h⟩

end Go.Proofs.Ytojcgejjdfcaaaa.Cf
