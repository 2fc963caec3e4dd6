/- The characteristic formula of a law, and that it is. Printed by gen.py (own tool). -/
import Derived.Test.YtjkmeooncmhonaaFs
namespace Go.Proofs.Ytjkmeooncmhonaa.Cf
open Go
set_option maxRecDepth 100000
set_option maxHeartbeats 1000000
set_option linter.unusedVariables false
set_option linter.unusedSimpArgs false

-- moiety/moietylaw22.BallotAgrees
def F6_j4 (i_27 : Int) (w32 : World) (K29 : Int → World → Prop) (R : Bool → World → Prop) : Prop :=
  K29 ((IntKind.i64.wrap (i_27 + (1 : Int)))) w32
def F6_j5 (i_27 : Int) (w70 : World) (K29 : Int → World → Prop) (R : Bool → World → Prop) : Prop :=
  F6_j4 i_27 w70 K29 R
def F6_j6 (i_27 : Int) (d40 : Int) (a43 : Addr) (r69 : (Slc × Int)) (t_72 : Bool) (w73 : World) (K29 : Int → World → Prop) (R : Bool → World → Prop) : Prop :=
  ex (fun x => t_72 = true → (NC (some a43)) x) fun a74 =>
  ex (fun x => t_72 = true → (IxR (a74.add 0) 5 1 d40) x) fun a75 =>
  ex (fun x => t_72 = true → (RdAt tBool a75 w73) x) fun x76 =>
  if (t_72 && (!x76)) = true then (
    dr w73 fun w77 =>
    ex (IxR (a43.add 0) 5 1 d40) fun a78 =>
    st tBool a78 true w77 fun w79 =>
    ex (IxR (a43.add 5) 5 1 d40) fun a80 =>
    st tSlc a80 r69.1 w79 fun w81 =>
    F6_j5 i_27 w81 K29 R
  ) else (
    F6_j5 i_27 w73 K29 R
  )
def F6_j10 (j_100 : Int) (count_103 : Int) (w104 : World) (K102 : Int × Int → World → Prop) (R : Bool → World → Prop) : Prop :=
  K102 (count_103, (IntKind.i64.wrap (j_100 + (1 : Int)))) w104
def F6_l9 (size_1 : Int) (a21 : Addr) (a23 : Addr) (a25 : Addr) (i_27 : Int) (x41 : Int) (x42 : Int) (a43 : Addr) (count_99 : Int) (j_100 : Int) (w101 : World) (K29 : Int → World → Prop) (K102 : Int × Int → World → Prop) (R : Bool → World → Prop) : Prop :=
  if (decide (j_100 < (IntKind.i64.wrap ((1 : Int) + (Int.tmod (IntKind.i64.wrap size_1) (5 : Int)))))) = true then (
    ex (IxR a21 9 20 (IntKind.i64.wrap ((1 : Int) + (bits .and .i64 (IntKind.i64.wrap x41) (7 : Int))))) fun a105 =>
    ex (IxR a105 4 5 (IntKind.i64.wrap ((1 : Int) + (Int.tmod (IntKind.i64.wrap x42) (3 : Int))))) fun a106 =>
    ex (IxR a106 5 1 j_100) fun a107 =>
    ex (RdAt tBool a107 w101) fun x108 =>
    if x108 = true then (
      F6_j10 j_100 (IntKind.i64.wrap (count_99 + (1 : Int))) w101 K102 R
    ) else (
      F6_j10 j_100 count_99 w101 K102 R
    )
  ) else (
    if (decide ((IntKind.i64.wrap ((2 : Int) * count_99)) > (IntKind.i64.wrap ((1 : Int) + (Int.tmod (IntKind.i64.wrap size_1) (5 : Int)))))) = true then (
      dr w101 fun w110 =>
      ex (IxR a25 4 1 (IntKind.i64.wrap ((1 : Int) + (Int.tmod (IntKind.i64.wrap x42) (3 : Int))))) fun a111 =>
      ex (RdAt tBool a111 w110) fun x112 =>
      ex (fun x => x112 = true → (IxR a23 4 1 (IntKind.i64.wrap ((1 : Int) + (Int.tmod (IntKind.i64.wrap x42) (3 : Int))))) x) fun a113 =>
      ex (fun x => x112 = true → (NC (some a43)) x) fun a114 =>
      ex (fun x => x112 = true → (IxR (a114.add 14) 4 1 (IntKind.i64.wrap ((1 : Int) + (Int.tmod (IntKind.i64.wrap x42) (3 : Int))))) x) fun a115 =>
      ex (fun x => x112 = true → (RdAt tStr a113 w110) x) fun x116 =>
      ex (fun x => x112 = true → (RdAt tStr a115 w110) x) fun x117 =>
      if (x112 && (!(x116 == x117))) = true then (
        R false w110
      ) else (
        dr w110 fun w118 =>
        ex (IxR (a43.add 14) 4 1 (IntKind.i64.wrap ((1 : Int) + (Int.tmod (IntKind.i64.wrap x42) (3 : Int))))) fun a119 =>
        ex (IxR a25 4 1 (IntKind.i64.wrap ((1 : Int) + (Int.tmod (IntKind.i64.wrap x42) (3 : Int))))) fun a120 =>
        ex (RdAt tStr a119 w118) fun x121 =>
        st tBool a120 true w118 fun w122 =>
        kp ((RdAt tStr a119 w122) x121) <|
        ex (IxR a23 4 1 (IntKind.i64.wrap ((1 : Int) + (Int.tmod (IntKind.i64.wrap x42) (3 : Int))))) fun a124 =>
        st tStr a124 x121 w122 fun w125 =>
        F6_j4 i_27 w125 K29 R
      )
    ) else (
      F6_j4 i_27 w101 K29 R
    )
  )
def F6_j8 (size_1 : Int) (a21 : Addr) (a23 : Addr) (a25 : Addr) (i_27 : Int) (d40 : Int) (x41 : Int) (x42 : Int) (a43 : Addr) (t_93 : Bool) (w94 : World) (K29 : Int → World → Prop) (R : Bool → World → Prop) : Prop :=
  if t_93 = true then (
    F6_j4 i_27 w94 K29 R
  ) else (
    ex (IxR a21 9 20 (IntKind.i64.wrap ((1 : Int) + (bits .and .i64 (IntKind.i64.wrap x41) (7 : Int))))) fun a95 =>
    ex (IxR a95 4 5 (IntKind.i64.wrap ((1 : Int) + (Int.tmod (IntKind.i64.wrap x42) (3 : Int))))) fun a96 =>
    ex (IxR a96 5 1 d40) fun a97 =>
    st tBool a97 true w94 fun w98 =>
    lp (fun (s : Int × Int) w K => F6_l9 size_1 a21 a23 a25 i_27 x41 x42 a43 s.1 s.2 w K29 K R) ((0 : Int), (0 : Int)) w98
  )
def F6_j7 (size_1 : Int) (a5 : Addr) (a21 : Addr) (a23 : Addr) (a25 : Addr) (i_27 : Int) (a35 : Addr) (d40 : Int) (x41 : Int) (x42 : Int) (a43 : Addr) (w92 : World) (K29 : Int → World → Prop) (R : Bool → World → Prop) : Prop :=
  dr w92 fun w130 =>
  ex (IxR a5 5 1 d40) fun a131 =>
  ex (IxR (a43.add 14) 4 1 (IntKind.i64.wrap ((1 : Int) + (Int.tmod (IntKind.i64.wrap x42) (3 : Int))))) fun a132 =>
  ex (RdAt tPtr a131 w130) fun x133 =>
  ex (RdAt tStr a132 w130) fun x134 =>
  cl Try.prog 16 [.pointer (x133), .int .i64 ((IntKind.i64.wrap ((1 : Int) + (bits .and .i64 (IntKind.i64.wrap x41) (7 : Int))))), .int .i64 ((IntKind.i64.wrap ((1 : Int) + (Int.tmod (IntKind.i64.wrap x42) (3 : Int))))), .string ⟨(x134).toArray⟩] (tInt .i64) w130 fun r136 w135 =>
  ex (fun x => (!(r136 != (0 : Int))) = true → (RdAt (tInt .i64) (a35.add 4) w135) x) fun x137 =>
  if ((r136 != (0 : Int)) || ((bits .and .i64 x137 (1 : Int)) == (1 : Int))) = true then (
    F6_j8 size_1 a21 a23 a25 i_27 d40 x41 x42 a43 true w135 K29 R
  ) else (
    ex (IxR a5 5 1 d40) fun a139 =>
    ex (RdAt tPtr a139 w135) fun x140 =>
    ex (NC x140) fun a141 =>
    ex (RdAt tPtr (a141.add 0) w135) fun x142 =>
    cl Try.prog 18 [.pointer (x142)] (tInt .i64) w135 fun r144 w143 =>
    kp ((RdAt tPtr a131 w143) x133) <|
    kp ((RdAt tStr a132 w143) x134) <|
    kp ((fun x => (!(r136 != (0 : Int))) = true → (RdAt (tInt .i64) (a35.add 4) w143) x) x137) <|
    kp ((RdAt tPtr a139 w143) x140) <|
    F6_j8 size_1 a21 a23 a25 i_27 d40 x41 x42 a43 (r144 != (0 : Int)) w143 K29 R
  )
def F6_j12 (j_180 : Int) (w183 : World) (K182 : Int → World → Prop) (R : Bool → World → Prop) : Prop :=
  K182 ((IntKind.i64.wrap (j_180 + (1 : Int)))) w183
def F6_l11 (size_1 : Int) (a5 : Addr) (a21 : Addr) (a23 : Addr) (a25 : Addr) (i_27 : Int) (a35 : Addr) (d40 : Int) (x41 : Int) (x42 : Int) (a43 : Addr) (r174 : Slc) (j_180 : Int) (w181 : World) (K29 : Int → World → Prop) (K182 : Int → World → Prop) (R : Bool → World → Prop) : Prop :=
  if (decide (j_180 < (r174.len : Int))) = true then (
    ex (IxA r174 3 j_180) fun a184 =>
    ex (RdAt (tInt .i64) (a184.add 0) w181) fun x185 =>
    if (x185 == (IntKind.i64.wrap ((1 : Int) + (Int.tmod (IntKind.i64.wrap x42) (3 : Int))))) = true then (
      dr w181 fun w186 =>
      ex (IxA r174 3 j_180) fun a187 =>
      ex (RdAt tStr (a187.add 2) w186) fun x188 =>
      ex (IxR (a43.add 14) 4 1 (IntKind.i64.wrap ((1 : Int) + (Int.tmod (IntKind.i64.wrap x42) (3 : Int))))) fun a189 =>
      st tStr a189 x188 w186 fun w190 =>
      F6_j12 j_180 w190 K182 R
    ) else (
      F6_j12 j_180 w181 K182 R
    )
  ) else (
    F6_j7 size_1 a5 a21 a23 a25 i_27 a35 d40 x41 x42 a43 w181 K29 R
  )
def F6_j3 (size_1 : Int) (l_2 : Slc) (a3 : Addr) (a5 : Addr) (a19 : Addr) (a21 : Addr) (a23 : Addr) (a25 : Addr) (i_27 : Int) (t_30 : Bool) (w31 : World) (K29 : Int → World → Prop) (R : Bool → World → Prop) : Prop :=
  if t_30 = true then (
    ex (IxA l_2 5 i_27) fun a33 =>
    ex (RdAt T68 a33 w31) fun x34 =>
    nw 69 T68 Z68 w31 fun a35 w36 =>
    st T68 a35 x34 w36 fun w37 =>
    dr w37 fun w38 =>
    ex (RdAt (tInt .u8) (a35.add 1) w38) fun x39 =>
    ex (Div0 (IntKind.i64.wrap ((1 : Int) + (Int.tmod (IntKind.i64.wrap size_1) (5 : Int)))) (Int.tmod (IntKind.i64.wrap x39) (IntKind.i64.wrap ((1 : Int) + (Int.tmod (IntKind.i64.wrap size_1) (5 : Int)))))) fun d40 =>
    ex (RdAt (tInt .u8) (a35.add 2) w38) fun x41 =>
    ex (RdAt (tInt .u8) (a35.add 3) w38) fun x42 =>
    ex (IxR a19 9 18 (IntKind.i64.wrap ((1 : Int) + (bits .and .i64 (IntKind.i64.wrap x41) (7 : Int))))) fun a43 =>
    ex (RdAt (tInt .u8) (a35.add 0) w38) fun x44 =>
    if (x44 == (2 : Int)) = true then (
      dr w38 fun w45 =>
      ex (IxR a3 5 1 d40) fun a46 =>
      ex (RdAt tPtr a46 w45) fun x47 =>
      ex (RdAt (tInt .i64) (a35.add 4) w45) fun x48 =>
      nwS 3 (tInt .i64) [x48] w45 fun a49 w50 =>
      cl Try.prog 19 [.pointer (x47), tSlc.enc ((⟨some a49, 1, 1⟩ : Slc))] tUnit w50 fun r52 w51 =>
      kp ((RdAt (tInt .i64) (a35.add 4) w51) x48) <|
      ex (IxR a3 5 1 d40) fun a54 =>
      ex (RdAt tPtr a54 w51) fun x55 =>
      cl Try.prog 20 [.pointer (x55)] tUnit w51 fun r57 w56 =>
      ex (IxR a3 5 1 d40) fun a58 =>
      ex (RdAt tPtr a58 w56) fun x59 =>
      cl Try.prog 12 [.pointer (x59), .int .i64 ((0 : Int))] (tTup2 tPtr (tInt .i64)) w56 fun r61 w60 =>
      if ((r61.2 != (0 : Int)) || r61.1.isNone) = true then (
        R false w60
      ) else (
        ex (IxR a5 5 1 d40) fun a62 =>
        st tPtr a62 r61.1 w60 fun w63 =>
        F6_j4 i_27 w63 K29 R
      )
    ) else (
      ex (RdAt (tInt .u8) (a35.add 0) w38) fun x65 =>
      if (x65 != (1 : Int)) = true then (
        ex (IxR a5 5 1 d40) fun a66 =>
        ex (RdAt tPtr a66 w38) fun x67 =>
        cl Try.prog 14 [.pointer (x67), .int .i64 ((IntKind.i64.wrap ((1 : Int) + (bits .and .i64 (IntKind.i64.wrap x41) (7 : Int)))))] (tTup2 tSlc (tInt .i64)) w38 fun r69 w68 =>
        ex (fun x => (r69.2 == (0 : Int)) = true → (RdAt (tInt .i64) (a35.add 4) w68) x) fun x71 =>
        if ((r69.2 == (0 : Int)) && ((bits .and .i64 x71 (1 : Int)) == (0 : Int))) = true then (
          ex (IxR a5 5 1 d40) fun a84 =>
          ex (RdAt tPtr a84 w68) fun x85 =>
          ex (NC x85) fun a86 =>
          ex (RdAt tPtr (a86.add 0) w68) fun x87 =>
          cl Try.prog 18 [.pointer (x87)] (tInt .i64) w68 fun r89 w88 =>
          F6_j6 i_27 d40 a43 r69 (r89 == (0 : Int)) w88 K29 R
        ) else (
          F6_j6 i_27 d40 a43 r69 false w68 K29 R
        )
      ) else (
        cl Try.prog 21 [.pointer ((some a43))] (tInt .i64) w38 fun r91 w90 =>
        if (decide ((IntKind.i64.wrap ((2 : Int) * r91)) ≤ (IntKind.i64.wrap ((1 : Int) + (Int.tmod (IntKind.i64.wrap size_1) (5 : Int)))))) = true then (
          F6_j4 i_27 w90 K29 R
        ) else (
          ex (IxR (a43.add 10) 4 1 (IntKind.i64.wrap ((1 : Int) + (Int.tmod (IntKind.i64.wrap x42) (3 : Int))))) fun a149 =>
          ex (RdAt tBool a149 w90) fun x150 =>
          if (!x150) = true then (
            dr w90 fun w151 =>
            nwS 5 (tInt .u8) [(IntKind.u8.wrap ((48 : Int) + (IntKind.u8.wrap (IntKind.i64.wrap ((1 : Int) + (bits .and .i64 (IntKind.i64.wrap x41) (7 : Int))))))), (32 : Int), (IntKind.u8.wrap ((48 : Int) + (IntKind.u8.wrap (Int.tmod i_27 (10 : Int)))))] w151 fun a152 w153 =>
            ex (B2S (⟨some a152, 3, 3⟩ : Slc) w153) fun s154 =>
            ex (CatS ([118, 97, 108, 117, 101, 32] : List UInt8) s154) fun s155 =>
            ex (IxR (a43.add 10) 4 1 (IntKind.i64.wrap ((1 : Int) + (Int.tmod (IntKind.i64.wrap x42) (3 : Int))))) fun a156 =>
            st tBool a156 true w153 fun w157 =>
            ex (IxR (a43.add 14) 4 1 (IntKind.i64.wrap ((1 : Int) + (Int.tmod (IntKind.i64.wrap x42) (3 : Int))))) fun a158 =>
            st tStr a158 s155 w157 fun w159 =>
            dr w159 fun w160 =>
            ex (IxR (a43.add 5) 5 1 (0 : Int)) fun a161 =>
            ex (IxR (a43.add 5) 5 1 (1 : Int)) fun a162 =>
            ex (IxR (a43.add 5) 5 1 (2 : Int)) fun a163 =>
            ex (IxR (a43.add 5) 5 1 (3 : Int)) fun a164 =>
            ex (IxR (a43.add 5) 5 1 (4 : Int)) fun a165 =>
            ex (RdAt tSlc a161 w160) fun x166 =>
            ex (RdAt tSlc a162 w160) fun x167 =>
            ex (RdAt tSlc a163 w160) fun x168 =>
            ex (RdAt tSlc a164 w160) fun x169 =>
            ex (RdAt tSlc a165 w160) fun x170 =>
            nwS 23 tSlc [x166, x167, x168, x169, x170] w160 fun a171 w172 =>
            cl Try.prog 8 [tSlc.enc ((⟨some a171, 5, 5⟩ : Slc))] tSlc w172 fun r174 w173 =>
            kp ((RdAt tSlc a161 w173) x166) <|
            kp ((RdAt tSlc a162 w173) x167) <|
            kp ((RdAt tSlc a163 w173) x168) <|
            kp ((RdAt tSlc a164 w173) x169) <|
            kp ((RdAt tSlc a165 w173) x170) <|
            lp (fun (s : Int) w K => F6_l11 size_1 a5 a21 a23 a25 i_27 a35 d40 x41 x42 a43 r174 s w K29 K R) ((0 : Int)) w173
          ) else (
            F6_j7 size_1 a5 a21 a23 a25 i_27 a35 d40 x41 x42 a43 w90 K29 R
          )
        )
      )
    )
  ) else (
    cl Try.prog 7 [] tBool w31 fun r198 w197 =>
    R r198 w197
  )
def F6_l2 (size_1 : Int) (l_2 : Slc) (a3 : Addr) (a5 : Addr) (a19 : Addr) (a21 : Addr) (a23 : Addr) (a25 : Addr) (i_27 : Int) (w28 : World) (K29 : Int → World → Prop) (R : Bool → World → Prop) : Prop :=
  if ((decide (i_27 < (l_2.len : Int))) && (decide (i_27 < (80 : Int)))) = true then (
    cl Try.prog 7 [] tBool w28 fun r202 w201 =>
    F6_j3 size_1 l_2 a3 a5 a19 a21 a23 a25 i_27 r202 w201 K29 R
  ) else (
    F6_j3 size_1 l_2 a3 a5 a19 a21 a23 a25 i_27 false w28 K29 R
  )
def F6_l1 (size_1 : Int) (l_2 : Slc) (a3 : Addr) (a5 : Addr) (i_7 : Int) (w8 : World) (K9 : Int → World → Prop) (R : Bool → World → Prop) : Prop :=
  if (decide (i_7 < (IntKind.i64.wrap ((1 : Int) + (Int.tmod (IntKind.i64.wrap size_1) (5 : Int)))))) = true then (
    cl Try.prog 11 [.int .i64 ((1 : Int))] (tTup2 tPtr (tInt .i64)) w8 fun r11 w10 =>
    cl Try.prog 12 [.pointer (r11.1), .int .i64 ((0 : Int))] (tTup2 tPtr (tInt .i64)) w10 fun r13 w12 =>
    if (((r11.2 != (0 : Int)) || (r13.2 != (0 : Int))) || r13.1.isNone) = true then (
      R false w12
    ) else (
      ex (IxR a3 5 1 i_7) fun a14 =>
      st tPtr a14 r11.1 w12 fun w15 =>
      ex (IxR a5 5 1 i_7) fun a16 =>
      st tPtr a16 r13.1 w15 fun w17 =>
      K9 ((IntKind.i64.wrap (i_7 + (1 : Int)))) w17
    )
  ) else (
    nw 65 (tArr T63 9) (Vector.replicate 9 Z63) w8 fun a19 w20 =>
    nw 67 (tArr (tArr (tArr tBool 5) 4) 9) (Vector.replicate 9 (Vector.replicate 4 (Vector.replicate 5 false))) w20 fun a21 w22 =>
    nw 62 (tArr tStr 4) (Vector.replicate 4 ([] : List UInt8)) w22 fun a23 w24 =>
    nw 61 (tArr tBool 4) (Vector.replicate 4 false) w24 fun a25 w26 =>
    lp (fun (s : Int) w K => F6_l2 size_1 l_2 a3 a5 a19 a21 a23 a25 s w K R) ((0 : Int)) w26
  )
def F6 (size_1 : Int) (l_2 : Slc) (w : World) (R : Bool → World → Prop) : Prop :=
  nw 57 (tArr tPtr 5) (Vector.replicate 5 (none : Option Addr)) w fun a3 w4 =>
  nw 58 (tArr tPtr 5) (Vector.replicate 5 (none : Option Addr)) w4 fun a5 w6 =>
  lp (fun (s : Int) w K => F6_l1 size_1 l_2 a3 a5 s w K R) ((0 : Int)) w6
theorem F6_ok {size_1 : Int} {l_2 : Slc} {w : World} {R : Bool → World → Prop} (h : F6 size_1 l_2 w R) : cl Try.prog 6 [.int .u8 (size_1), tSlc.enc (l_2)] tBool w R := by
  unfold F6 at h
  refine calls_start 339 Try.func6 rfl rfl (Nat.le_of_ble_eq_true rfl) ?_
  refine wp_seq ?_
  refine wp_text [0] rfl ?_
  refine rv 4 rfl rfl rfl (q_assign (v := .bool (false)) rfl rfl) ?_
  refine ro_nil ?_
  refine wp_seq ?_
  refine wp_text [0, 1, 2, 3, 4] rfl ?_
  refine rv 31 rfl rfl rfl (q_move (v := .int .u8 (size_1)) rfl rfl) ?_
  refine rv 32 rfl rfl rfl (q_cvtI (a := size_1) rfl Try.underlying5 Try.underlying3 rfl) ?_
  refine rv 33 rfl rfl rfl (q_rem (a := (IntKind.i64.wrap size_1)) (b := (5 : Int)) rfl rfl rfl (by decide)) ?_
  refine rv 34 rfl rfl rfl (q_add (a := (1 : Int)) (b := (Int.tmod (IntKind.i64.wrap size_1) (5 : Int))) rfl rfl rfl) ?_
  refine rv 5 rfl rfl rfl (q_assign (v := .int .i64 ((IntKind.i64.wrap ((1 : Int) + (Int.tmod (IntKind.i64.wrap size_1) (5 : Int)))))) rfl rfl) ?_
  refine ro_nil ?_
  refine wp_seq ?_
  refine wp_text [0] rfl ?_
  obtain ⟨a3, w4, ha3, hw4, h⟩ := nw_open h
  refine rv 6 rfl rfl rfl (q_alloc (u := (Vector.replicate 5 (none : Option Addr))) rfl ok57 inf57 ha3 hw4) ?_
  refine ro_nil ?_
  refine wp_seq ?_
  refine wp_text [0] rfl ?_
  obtain ⟨a5, w6, ha5, hw6, h⟩ := nw_open h
  refine rv 7 rfl rfl rfl (q_alloc (u := (Vector.replicate 5 (none : Option Addr))) rfl ok58 inf58 ha5 hw6) ?_
  refine ro_nil ?_
  refine wp_seq ?_
  refine wp_seq ?_
  refine wp_text [0] rfl ?_
  refine rv 8 rfl rfl rfl (q_assign (v := .int .i64 ((0 : Int))) rfl rfl) ?_
  refine ro_nil ?_
  refine wp_block ?_
  refine loop_at (σ := Int) (fr := fun g (s : Int) => upd (upd (upd (upd (upd (g) 1 (tSlc.enc (l_2))) 5 (.int .i64 ((IntKind.i64.wrap ((1 : Int) + (Int.tmod (IntKind.i64.wrap size_1) (5 : Int))))))) 6 (.pointer (some a3))) 7 (.pointer (some a5))) 8 (.int .i64 (s))) (s0 := ((0 : Int))) (upd_step (upd_step (upd_step (upd_step (upd_step rfl rfl) rfl) rfl) rfl) rfl) h ?_
  rintro i_7 g w8 K9 h
  unfold F6_l1 at h
  refine wp_seq ?_
  refine wp_seq ?_
  refine wp_text [0, 1, 2] rfl ?_
  refine rv 35 rfl rfl rfl (q_move (v := .int .i64 (i_7)) rfl rfl) ?_
  refine rv 36 rfl rfl rfl (q_move (v := .int .i64 ((IntKind.i64.wrap ((1 : Int) + (Int.tmod (IntKind.i64.wrap size_1) (5 : Int)))))) rfl rfl) ?_
  refine rv 37 rfl rfl rfl (q_lss (a := i_7) (b := (IntKind.i64.wrap ((1 : Int) + (Int.tmod (IntKind.i64.wrap size_1) (5 : Int))))) rfl rfl rfl) ?_
  refine ro_nil ?_
  refine wp_if (b := (decide (i_7 < (IntKind.i64.wrap ((1 : Int) + (Int.tmod (IntKind.i64.wrap size_1) (5 : Int))))))) rfl h (fun hb203 h => ?_) (fun hb203 h => ?_)
  · refine wp_skip ?_
    refine wp_seq ?_
    refine wp_block ?_
    refine wp_seq ?_
    refine wp_text [0, 1, 2, 3, 4, 5] rfl ?_
    refine ro_wp rfl (.free rfl) (wp_cl (d := (some 41)) rfl (q_call (k := 11) (l := [.int .i64 ((1 : Int))]) rfl ent11 rfl) h ?_)
    intro r11 w10 h
    refine rv 40 rfl rfl rfl (q_move (v := (tTup2 tPtr (tInt .i64)).enc (r11)) rfl rfl) ?_
    refine rv 42 rfl rfl rfl (q_extract (vs := #[.pointer (r11.1), .int .i64 (r11.2)]) (v := .pointer (r11.1)) rfl rfl rfl) ?_
    refine rv 43 rfl rfl rfl (q_extract (vs := #[.pointer (r11.1), .int .i64 (r11.2)]) (v := .int .i64 (r11.2)) rfl rfl rfl) ?_
    refine rv 9 rfl rfl rfl (q_assign (v := .pointer (r11.1)) rfl rfl) ?_
    refine rv 10 rfl rfl rfl (q_assign (v := .int .i64 (r11.2)) rfl rfl) ?_
    refine ro_nil ?_
    refine wp_seq ?_
    refine wp_text [0, 1, 2, 3, 4, 5, 6] rfl ?_
    refine rv 45 rfl rfl rfl (q_move (v := .pointer (r11.1)) rfl rfl) ?_
    refine ro_wp rfl (.free rfl) (wp_cl (d := (some 46)) rfl (q_call (k := 12) (l := [.pointer (r11.1), .int .i64 ((0 : Int))]) rfl ent12 rfl) h ?_)
    intro r13 w12 h
    refine rv 44 rfl rfl rfl (q_move (v := (tTup2 tPtr (tInt .i64)).enc (r13)) rfl rfl) ?_
    refine rv 47 rfl rfl rfl (q_extract (vs := #[.pointer (r13.1), .int .i64 (r13.2)]) (v := .pointer (r13.1)) rfl rfl rfl) ?_
    refine rv 48 rfl rfl rfl (q_extract (vs := #[.pointer (r13.1), .int .i64 (r13.2)]) (v := .int .i64 (r13.2)) rfl rfl rfl) ?_
    refine rv 11 rfl rfl rfl (q_assign (v := .pointer (r13.1)) rfl rfl) ?_
    refine rv 12 rfl rfl rfl (q_assign (v := .int .i64 (r13.2)) rfl rfl) ?_
    refine ro_nil ?_
    refine wp_seq ?_
    refine wp_seq ?_
    refine wp_text [0, 1, 2, 3, 4, 5, 6, 7, 8, 9] rfl ?_
    refine rv 49 rfl rfl rfl (q_move (v := .int .i64 (r11.2)) rfl rfl) ?_
    refine rv 50 rfl rfl rfl (q_neq (a := r11.2) (b := (0 : Int)) rfl rfl rfl) ?_
    refine rv 51 rfl rfl rfl (q_move (v := .bool ((r11.2 != (0 : Int)))) rfl rfl) ?_
    refine ro_gval (g := (!(r11.2 != (0 : Int)))) (d := (some 52)) rfl (.no 2 51 true (r11.2 != (0 : Int)) rfl rfl rfl rfl) rfl (fun hg => q_move (v := .int .i64 (r13.2)) rfl rfl) ?_
    refine ro_gval (g := (!(r11.2 != (0 : Int)))) (d := (some 53)) rfl (.no 2 51 true (r11.2 != (0 : Int)) rfl rfl rfl rfl) rfl (fun hg => q_neq (a := r13.2) (b := (0 : Int)) rfl (gvb_yes hg) rfl) ?_
    refine rv 54 rfl rfl rfl (q_pickGF (a := (r11.2 != (0 : Int))) (c := (r13.2 != (0 : Int))) rfl rfl rfl rfl) ?_
    refine rv 55 rfl rfl rfl (q_move (v := .bool (((r11.2 != (0 : Int)) || (r13.2 != (0 : Int))))) rfl rfl) ?_
    refine ro_gval (g := (!((r11.2 != (0 : Int)) || (r13.2 != (0 : Int))))) (d := (some 56)) rfl (.no 6 55 true ((r11.2 != (0 : Int)) || (r13.2 != (0 : Int))) rfl rfl rfl rfl) rfl (fun hg => q_move (v := .pointer (r13.1)) rfl rfl) ?_
    refine ro_gval (g := (!((r11.2 != (0 : Int)) || (r13.2 != (0 : Int))))) (d := (some 57)) rfl (.no 6 55 true ((r11.2 != (0 : Int)) || (r13.2 != (0 : Int))) rfl rfl rfl rfl) rfl (fun hg => q_eqP0 (a := r13.1) rfl Try.underlying34 (gvb_yes hg) rfl) ?_
    refine rv 58 rfl rfl rfl (q_pickGF (a := ((r11.2 != (0 : Int)) || (r13.2 != (0 : Int)))) (c := r13.1.isNone) rfl rfl rfl rfl) ?_
    refine ro_nil ?_
    refine wp_if (b := (((r11.2 != (0 : Int)) || (r13.2 != (0 : Int))) || r13.1.isNone)) rfl h (fun hb18 h => ?_) (fun hb18 h => ?_)
    · refine wp_seq ?_
      refine wp_text [0] rfl ?_
      refine rv 4 rfl rfl rfl (q_assign (v := .bool (false)) rfl rfl) ?_
      refine ro_nil ?_
      refine wp_ret ?_
      exact ret_ok rfl (.cons (.tmp (v := .bool (false)) rfl) .nil) ⟨false, rfl, h⟩
    · refine wp_skip ?_
      refine wp_text [0, 1, 2, 3, 4, 5, 6, 7] rfl ?_
      refine rv 59 rfl rfl rfl (q_move (v := .int .i64 (i_7)) rfl rfl) ?_
      refine rv 60 rfl rfl rfl (q_move (v := .int .i64 (i_7)) rfl rfl) ?_
      refine rv 61 rfl rfl rfl (q_move (v := .pointer (r11.1)) rfl rfl) ?_
      refine rv 62 rfl rfl rfl (q_move (v := .pointer (r13.1)) rfl rfl) ?_
      obtain ⟨a14, ha14, h⟩ := h
      refine rv 63 rfl rfl rfl (q_indexAddrA (b := a3) (i := i_7) rfl Try.underlying57 ok30 rfl rfl ha14) ?_
      obtain ⟨w15, hw15, hrw15, h⟩ := st_open h
      refine ro_skip (d := none) rfl (.free rfl) rfl (q_store (T := tPtr) (u := r11.1) (a := a14) rfl ok30 rfl rfl hrw15 hw15) ?_
      obtain ⟨a16, ha16, h⟩ := h
      refine rv 64 rfl rfl rfl (q_indexAddrA (b := a5) (i := i_7) rfl Try.underlying58 ok34 rfl rfl ha16) ?_
      obtain ⟨w17, hw17, hrw17, h⟩ := st_open h
      refine ro_skip (d := none) rfl (.free rfl) rfl (q_store (T := tPtr) (u := r13.1) (a := a16) rfl ok34 rfl rfl hrw17 hw17) ?_
      refine ro_nil ?_
      refine wp_text [0, 1, 2] rfl ?_
      refine rv 38 rfl rfl rfl (q_move (v := .int .i64 (i_7)) rfl rfl) ?_
      refine rv 39 rfl rfl rfl (q_add (a := i_7) (b := (1 : Int)) rfl rfl rfl) ?_
      refine rv 8 rfl rfl rfl (q_assign (v := .int .i64 ((IntKind.i64.wrap (i_7 + (1 : Int))))) rfl rfl) ?_
      refine ro_nil ?_
      exact ⟨((IntKind.i64.wrap (i_7 + (1 : Int)))), _, arr (upd_step (upd_step (upd_step (upd_step (upd_step rfl rfl) rfl) rfl) rfl) rfl), h⟩
  · refine wp_exit ?_
    refine wp_seq ?_
    refine wp_text [0] rfl ?_
    obtain ⟨a19, w20, ha19, hw20, h⟩ := nw_open h
    refine rv 13 rfl rfl rfl (q_alloc (u := (Vector.replicate 9 Z63)) rfl ok65 inf65 ha19 hw20) ?_
    refine ro_nil ?_
    refine wp_seq ?_
    refine wp_text [0] rfl ?_
    obtain ⟨a21, w22, ha21, hw22, h⟩ := nw_open h
    refine rv 14 rfl rfl rfl (q_alloc (u := (Vector.replicate 9 (Vector.replicate 4 (Vector.replicate 5 false)))) rfl ok67 inf67 ha21 hw22) ?_
    refine ro_nil ?_
    refine wp_seq ?_
    refine wp_text [0] rfl ?_
    obtain ⟨a23, w24, ha23, hw24, h⟩ := nw_open h
    refine rv 15 rfl rfl rfl (q_alloc (u := (Vector.replicate 4 ([] : List UInt8))) rfl ok62 inf62 ha23 hw24) ?_
    refine ro_nil ?_
    refine wp_seq ?_
    refine wp_text [0] rfl ?_
    obtain ⟨a25, w26, ha25, hw26, h⟩ := nw_open h
    refine rv 16 rfl rfl rfl (q_alloc (u := (Vector.replicate 4 false)) rfl ok61 inf61 ha25 hw26) ?_
    refine ro_nil ?_
    refine wp_seq ?_
    refine wp_seq ?_
    refine wp_text [0] rfl ?_
    refine rv 17 rfl rfl rfl (q_assign (v := .int .i64 ((0 : Int))) rfl rfl) ?_
    refine ro_nil ?_
    refine wp_block ?_
    refine loop_at (σ := Int) (fr := fun g (s : Int) => upd (upd (upd (upd (upd (upd (upd (upd (upd (g) 1 (tSlc.enc (l_2))) 5 (.int .i64 ((IntKind.i64.wrap ((1 : Int) + (Int.tmod (IntKind.i64.wrap size_1) (5 : Int))))))) 6 (.pointer (some a3))) 7 (.pointer (some a5))) 13 (.pointer (some a19))) 14 (.pointer (some a21))) 15 (.pointer (some a23))) 16 (.pointer (some a25))) 17 (.int .i64 (s))) (s0 := ((0 : Int))) (upd_step (upd_step (upd_step (upd_step (upd_step (upd_step (upd_step (upd_step (upd_step rfl rfl) rfl) rfl) rfl) rfl) rfl) rfl) rfl) rfl) h ?_
    rintro i_27 g w28 K29 h
    unfold F6_l2 at h
    refine wp_seq ?_
    refine wp_seq ?_
    refine wp_text [0, 1, 2, 3, 4, 5, 6, 7, 8, 9, 10] rfl ?_
    refine rv 65 rfl rfl rfl (q_move (v := .int .i64 (i_27)) rfl rfl) ?_
    refine rv 66 rfl rfl rfl (q_move (v := tSlc.enc (l_2)) rfl rfl) ?_
    refine rv 67 rfl rfl rfl (q_len (s := l_2) rfl Try.underlying56 rfl) ?_
    refine rv 68 rfl rfl rfl (q_lss (a := i_27) (b := (l_2.len : Int)) rfl rfl rfl) ?_
    refine rv 69 rfl rfl rfl (q_move (v := .bool ((decide (i_27 < (l_2.len : Int))))) rfl rfl) ?_
    refine ro_gval (g := (decide (i_27 < (l_2.len : Int)))) (d := (some 70)) rfl (.yes 4 69 true (decide (i_27 < (l_2.len : Int))) rfl rfl rfl rfl) rfl (fun hg => q_move (v := .int .i64 (i_27)) rfl rfl) ?_
    refine ro_gval (g := (decide (i_27 < (l_2.len : Int)))) (d := (some 71)) rfl (.yes 4 69 true (decide (i_27 < (l_2.len : Int))) rfl rfl rfl rfl) rfl (fun hg => q_lss (a := i_27) (b := (80 : Int)) rfl (gvb_yes hg) rfl) ?_
    refine rv 72 rfl rfl rfl (q_pickGT (a := (decide (i_27 < (l_2.len : Int)))) (b := (decide (i_27 < (80 : Int)))) rfl rfl rfl rfl) ?_
    refine rv 73 rfl rfl rfl (q_move (v := .bool (((decide (i_27 < (l_2.len : Int))) && (decide (i_27 < (80 : Int)))))) rfl rfl) ?_
    refine ro_join (σ := Bool) (J := fun (s : Bool) w => F6_j3 size_1 l_2 a3 a5 a19 a21 a23 a25 i_27 s w K29 R) (fr := fun g (s : Bool) => upd (upd (upd (upd (upd (upd (upd (upd (upd (upd (g) 1 (tSlc.enc (l_2))) 5 (.int .i64 ((IntKind.i64.wrap ((1 : Int) + (Int.tmod (IntKind.i64.wrap size_1) (5 : Int))))))) 6 (.pointer (some a3))) 7 (.pointer (some a5))) 13 (.pointer (some a19))) 14 (.pointer (some a21))) 15 (.pointer (some a23))) 16 (.pointer (some a25))) 17 (.int .i64 (i_27))) 75 (.bool (s))) [9, 10] [] ?_ ?_
    · rintro t_30 g w31 h
      unfold F6_j3 at h
      refine ro_nil ?_
      refine wp_if (b := t_30) rfl h (fun hb199 h => ?_) (fun hb199 h => ?_)
      · refine wp_skip ?_
        refine seq_join (σ := Unit) (J := fun (s : Unit) w => F6_j4 i_27 w K29 R) (fr := fun g (s : Unit) => upd (upd (upd (upd (upd (upd (upd (upd (upd (g) 1 (tSlc.enc (l_2))) 5 (.int .i64 ((IntKind.i64.wrap ((1 : Int) + (Int.tmod (IntKind.i64.wrap size_1) (5 : Int))))))) 6 (.pointer (some a3))) 7 (.pointer (some a5))) 13 (.pointer (some a19))) 14 (.pointer (some a21))) 15 (.pointer (some a23))) 16 (.pointer (some a25))) 17 (.int .i64 (i_27))) ?_ ?_
        · rintro ⟨⟩ g w32 h
          unfold F6_j4 at h
          refine wp_text [0, 1, 2] rfl ?_
          refine rv 76 rfl rfl rfl (q_move (v := .int .i64 (i_27)) rfl rfl) ?_
          refine rv 77 rfl rfl rfl (q_add (a := i_27) (b := (1 : Int)) rfl rfl rfl) ?_
          refine rv 17 rfl rfl rfl (q_assign (v := .int .i64 ((IntKind.i64.wrap (i_27 + (1 : Int))))) rfl rfl) ?_
          refine ro_nil ?_
          exact ⟨((IntKind.i64.wrap (i_27 + (1 : Int)))), _, arr (upd_step (upd_step (upd_step (upd_step (upd_step (upd_step (upd_step (upd_step (upd_step rfl rfl) rfl) rfl) rfl) rfl) rfl) rfl) rfl) rfl), h⟩
        · refine wp_block ?_
          refine wp_seq ?_
          refine wp_text [0, 1, 2, 3, 4, 5] rfl ?_
          refine rv 78 rfl rfl rfl (q_move (v := tSlc.enc (l_2)) rfl rfl) ?_
          refine rv 79 rfl rfl rfl (q_move (v := .int .i64 (i_27)) rfl rfl) ?_
          obtain ⟨a33, ha33, h⟩ := h
          refine rv 80 rfl rfl rfl (q_indexAddr (s := l_2) (i := i_27) rfl Try.underlying56 ok69 rfl rfl ha33) ?_
          obtain ⟨x34, hx34, h⟩ := h
          refine rv 81 rfl rfl rfl (q_load (T := T68) (u := x34) (a := a33) rfl ok69 rfl hx34) ?_
          obtain ⟨a35, w36, ha35, hw36, h⟩ := nw_open h
          refine rv 18 rfl rfl rfl (q_alloc (u := Z68) rfl ok69 inf69 ha35 hw36) ?_
          obtain ⟨w37, hw37, hrw37, h⟩ := st_open h
          refine ro_skip (d := none) rfl (.free rfl) rfl (q_store (T := T68) (u := x34) (a := a35) rfl ok69 rfl rfl hrw37 hw37) ?_
          refine ro_nil ?_
          refine wp_seq ?_
          obtain ⟨w38, hw38, h⟩ := dr_open h
          refine wp_drawn 18 mixed rfl (by kernel_rfl) (by intro c a d v w h; cases d <;> exact h) hw38 (fun hD => ?_)
          refine rp 0 82 hD rfl rfl rfl (fun _ => q_fieldAddr (a := a35) (off := 1) rfl Try.underlying69 rfl rfl ok5 (by decide) rfl) ?_
          refine rp 3 85 hD rfl rfl rfl (fun _ => q_move (v := .int .i64 ((IntKind.i64.wrap ((1 : Int) + (Int.tmod (IntKind.i64.wrap size_1) (5 : Int)))))) rfl rfl) ?_
          refine rp 5 87 hD rfl rfl rfl (fun _ => q_fieldAddr (a := a35) (off := 2) rfl Try.underlying69 rfl rfl ok5 (by decide) rfl) ?_
          refine rp 10 92 hD rfl rfl rfl (fun _ => q_fieldAddr (a := a35) (off := 3) rfl Try.underlying69 rfl rfl ok5 (by decide) rfl) ?_
          obtain ⟨x39, hx39, h⟩ := h
          refine rd_read (i := 1) (d := (some 83)) (fun W => (RdAt (tInt .u8) (a35.add 1) W) x39) hD (by kernel_rfl) (by kernel_rfl) rfl (.free rfl) rfl (fun W hr => q_load (T := (tInt .u8)) (u := x39) (a := (a35.add 1)) rfl ok5 rfl hr) hx39 ?_
          refine rp 2 84 hD rfl rfl rfl (fun _ => q_cvtI (a := x39) rfl Try.underlying5 Try.underlying3 rfl) ?_
          obtain ⟨d40, hd40, h⟩ := h
          refine rp 4 86 hD rfl rfl rfl (fun _ => q_rem0 (a := (IntKind.i64.wrap x39)) (b := (IntKind.i64.wrap ((1 : Int) + (Int.tmod (IntKind.i64.wrap size_1) (5 : Int))))) (r := d40) rfl rfl rfl hd40) ?_
          refine rp 15 19 hD rfl rfl rfl (fun _ => q_assign (v := .int .i64 (d40)) rfl rfl) ?_
          obtain ⟨x41, hx41, h⟩ := h
          refine rd_read (i := 6) (d := (some 88)) (fun W => (RdAt (tInt .u8) (a35.add 2) W) x41) hD (by kernel_rfl) (by kernel_rfl) rfl (.free rfl) rfl (fun W hr => q_load (T := (tInt .u8)) (u := x41) (a := (a35.add 2)) rfl ok5 rfl hr) hx41 ?_
          refine rp 7 89 hD rfl rfl rfl (fun _ => q_cvtI (a := x41) rfl Try.underlying5 Try.underlying3 rfl) ?_
          refine rp 8 90 hD rfl rfl rfl (fun _ => q_and (a := (IntKind.i64.wrap x41)) (b := (7 : Int)) rfl rfl rfl) ?_
          refine rp 9 91 hD rfl rfl rfl (fun _ => q_add (a := (1 : Int)) (b := (bits .and .i64 (IntKind.i64.wrap x41) (7 : Int))) rfl rfl rfl) ?_
          refine rp 16 20 hD rfl rfl rfl (fun _ => q_assign (v := .int .i64 ((IntKind.i64.wrap ((1 : Int) + (bits .and .i64 (IntKind.i64.wrap x41) (7 : Int)))))) rfl rfl) ?_
          obtain ⟨x42, hx42, h⟩ := h
          refine rd_read (i := 11) (d := (some 93)) (fun W => (RdAt (tInt .u8) (a35.add 3) W) x42) hD (by kernel_rfl) (by kernel_rfl) rfl (.free rfl) rfl (fun W hr => q_load (T := (tInt .u8)) (u := x42) (a := (a35.add 3)) rfl ok5 rfl hr) hx42 ?_
          refine rp 12 94 hD rfl rfl rfl (fun _ => q_cvtI (a := x42) rfl Try.underlying5 Try.underlying3 rfl) ?_
          refine rp 13 95 hD rfl rfl rfl (fun _ => q_rem (a := (IntKind.i64.wrap x42)) (b := (3 : Int)) rfl rfl rfl (by decide)) ?_
          refine rp 14 96 hD rfl rfl rfl (fun _ => q_add (a := (1 : Int)) (b := (Int.tmod (IntKind.i64.wrap x42) (3 : Int))) rfl rfl rfl) ?_
          refine rp 17 21 hD rfl rfl rfl (fun _ => q_assign (v := .int .i64 ((IntKind.i64.wrap ((1 : Int) + (Int.tmod (IntKind.i64.wrap x42) (3 : Int)))))) rfl rfl) ?_
          refine rd_nil (by kernel_rfl) ?_
          refine wp_seq ?_
          refine wp_text [0, 1, 2] rfl ?_
          refine rv 97 rfl rfl rfl (q_move (v := .int .i64 ((IntKind.i64.wrap ((1 : Int) + (bits .and .i64 (IntKind.i64.wrap x41) (7 : Int)))))) rfl rfl) ?_
          obtain ⟨a43, ha43, h⟩ := h
          refine rv 98 rfl rfl rfl (q_indexAddrA (b := a19) (i := (IntKind.i64.wrap ((1 : Int) + (bits .and .i64 (IntKind.i64.wrap x41) (7 : Int))))) rfl Try.underlying65 ok64 rfl rfl ha43) ?_
          refine rv 22 rfl rfl rfl (q_assign (v := .pointer (some a43)) rfl rfl) ?_
          refine ro_nil ?_
          refine wp_seq ?_
          refine wp_seq ?_
          refine wp_text [0, 1, 2] rfl ?_
          refine rv 99 rfl rfl rfl (q_fieldAddr (a := a35) (off := 0) rfl Try.underlying69 rfl rfl ok5 (by decide) rfl) ?_
          obtain ⟨x44, hx44, h⟩ := h
          refine rv 100 rfl rfl rfl (q_load (T := (tInt .u8)) (u := x44) (a := (a35.add 0)) rfl ok5 rfl hx44) ?_
          refine rv 101 rfl rfl rfl (q_eql (a := x44) (b := (2 : Int)) rfl rfl rfl) ?_
          refine ro_nil ?_
          refine wp_if (b := (x44 == (2 : Int))) rfl h (fun hb196 h => ?_) (fun hb196 h => ?_)
          · refine wp_seq ?_
            obtain ⟨w45, hw45, h⟩ := dr_open h
            refine wp_drawn 7 mixed rfl (by kernel_rfl) (by intro c a d v w h; cases d <;> exact h) hw45 (fun hD => ?_)
            refine rp 0 102 hD rfl rfl rfl (fun _ => q_move (v := .int .i64 (d40)) rfl rfl) ?_
            obtain ⟨a46, ha46, h⟩ := h
            refine rp 1 103 hD rfl rfl rfl (fun _ => q_indexAddrA (b := a3) (i := d40) rfl Try.underlying57 ok30 rfl rfl ha46) ?_
            refine rp 3 105 hD rfl rfl rfl (fun _ => q_fieldAddr (a := a35) (off := 4) rfl Try.underlying69 rfl rfl ok3 (by decide) rfl) ?_
            obtain ⟨x47, hx47, h⟩ := h
            refine rd_read (i := 2) (d := (some 104)) (fun W => (RdAt tPtr a46 W) x47) hD (by kernel_rfl) (by kernel_rfl) rfl (.free rfl) rfl (fun W hr => q_load (T := tPtr) (u := x47) (a := a46) rfl ok30 rfl hr) hx47 ?_
            obtain ⟨x48, hx48, h⟩ := h
            refine rd_read (i := 4) (d := (some 106)) (fun W => (RdAt (tInt .i64) (a35.add 4) W) x48) hD (by kernel_rfl) (by kernel_rfl) rfl (.free rfl) rfl (fun W hr => q_load (T := (tInt .i64)) (u := x48) (a := (a35.add 4)) rfl ok3 rfl hr) hx48 ?_
            refine rd_one (i := 5) (by kernel_rfl) ?_
            obtain ⟨a49, w50, ha49, hw50, h⟩ := nwS_open h
            refine po_val (d := (some 107)) rfl (.free rfl) rfl (q_rowOf (T := (tInt .i64)) (xs := [x48]) rfl Try.underlying37 ok3 inf3 rfl (by decide) (by decide) rfl ha49 hw50) ⟨(hk_wait (by kernel_rfl) (hk_keep (fun h => keep_RdAt hw50 h) hk_nil)), ?_⟩
            refine rd_one (i := 6) (by kernel_rfl) ?_
            refine po_wp rfl (.free rfl) (wp_cl (d := (some 108)) rfl (q_call (k := 19) (l := [.pointer (x47), tSlc.enc ((⟨some a49, 1, 1⟩ : Slc))]) rfl ent19 rfl) h ?_)
            intro r52 w51 h
            obtain ⟨hk53, h⟩ := h
            refine ⟨(hk_keep (fun _ => hk53) (hk_wait (by kernel_rfl) hk_nil)), ?_⟩
            refine rd_nil (by kernel_rfl) ?_
            refine wp_seq ?_
            refine wp_text [0, 1, 2, 3] rfl ?_
            refine rv 109 rfl rfl rfl (q_move (v := .int .i64 (d40)) rfl rfl) ?_
            obtain ⟨a54, ha54, h⟩ := h
            refine rv 110 rfl rfl rfl (q_indexAddrA (b := a3) (i := d40) rfl Try.underlying57 ok30 rfl rfl ha54) ?_
            obtain ⟨x55, hx55, h⟩ := h
            refine rv 111 rfl rfl rfl (q_load (T := tPtr) (u := x55) (a := a54) rfl ok30 rfl hx55) ?_
            refine ro_wp rfl (.free rfl) (wp_cl (d := (some 112)) rfl (q_call (k := 20) (l := [.pointer (x55)]) rfl ent20 rfl) h ?_)
            intro r57 w56 h
            refine ro_nil ?_
            refine wp_seq ?_
            refine wp_text [0, 1, 2, 3, 4, 5, 6, 7, 8] rfl ?_
            refine rv 114 rfl rfl rfl (q_move (v := .int .i64 (d40)) rfl rfl) ?_
            obtain ⟨a58, ha58, h⟩ := h
            refine rv 115 rfl rfl rfl (q_indexAddrA (b := a3) (i := d40) rfl Try.underlying57 ok30 rfl rfl ha58) ?_
            obtain ⟨x59, hx59, h⟩ := h
            refine rv 116 rfl rfl rfl (q_load (T := tPtr) (u := x59) (a := a58) rfl ok30 rfl hx59) ?_
            refine ro_wp rfl (.free rfl) (wp_cl (d := (some 117)) rfl (q_call (k := 12) (l := [.pointer (x59), .int .i64 ((0 : Int))]) rfl ent12 rfl) h ?_)
            intro r61 w60 h
            refine rv 113 rfl rfl rfl (q_move (v := (tTup2 tPtr (tInt .i64)).enc (r61)) rfl rfl) ?_
            refine rv 118 rfl rfl rfl (q_extract (vs := #[.pointer (r61.1), .int .i64 (r61.2)]) (v := .pointer (r61.1)) rfl rfl rfl) ?_
            refine rv 119 rfl rfl rfl (q_extract (vs := #[.pointer (r61.1), .int .i64 (r61.2)]) (v := .int .i64 (r61.2)) rfl rfl rfl) ?_
            refine rv 23 rfl rfl rfl (q_assign (v := .pointer (r61.1)) rfl rfl) ?_
            refine rv 24 rfl rfl rfl (q_assign (v := .int .i64 (r61.2)) rfl rfl) ?_
            refine ro_nil ?_
            refine wp_seq ?_
            refine wp_seq ?_
            refine wp_text [0, 1, 2, 3, 4, 5] rfl ?_
            refine rv 120 rfl rfl rfl (q_move (v := .int .i64 (r61.2)) rfl rfl) ?_
            refine rv 121 rfl rfl rfl (q_neq (a := r61.2) (b := (0 : Int)) rfl rfl rfl) ?_
            refine rv 122 rfl rfl rfl (q_move (v := .bool ((r61.2 != (0 : Int)))) rfl rfl) ?_
            refine ro_gval (g := (!(r61.2 != (0 : Int)))) (d := (some 123)) rfl (.no 2 122 true (r61.2 != (0 : Int)) rfl rfl rfl rfl) rfl (fun hg => q_move (v := .pointer (r61.1)) rfl rfl) ?_
            refine ro_gval (g := (!(r61.2 != (0 : Int)))) (d := (some 124)) rfl (.no 2 122 true (r61.2 != (0 : Int)) rfl rfl rfl rfl) rfl (fun hg => q_eqP0 (a := r61.1) rfl Try.underlying34 (gvb_yes hg) rfl) ?_
            refine rv 125 rfl rfl rfl (q_pickGF (a := (r61.2 != (0 : Int))) (c := r61.1.isNone) rfl rfl rfl rfl) ?_
            refine ro_nil ?_
            refine wp_if (b := ((r61.2 != (0 : Int)) || r61.1.isNone)) rfl h (fun hb64 h => ?_) (fun hb64 h => ?_)
            · refine wp_seq ?_
              refine wp_text [0] rfl ?_
              refine rv 4 rfl rfl rfl (q_assign (v := .bool (false)) rfl rfl) ?_
              refine ro_nil ?_
              refine wp_ret ?_
              exact ret_ok rfl (.cons (.tmp (v := .bool (false)) rfl) .nil) ⟨false, rfl, h⟩
            · refine wp_skip ?_
              refine wp_seq ?_
              refine wp_text [0, 1, 2, 3] rfl ?_
              refine rv 126 rfl rfl rfl (q_move (v := .int .i64 (d40)) rfl rfl) ?_
              refine rv 127 rfl rfl rfl (q_move (v := .pointer (r61.1)) rfl rfl) ?_
              obtain ⟨a62, ha62, h⟩ := h
              refine rv 128 rfl rfl rfl (q_indexAddrA (b := a5) (i := d40) rfl Try.underlying58 ok34 rfl rfl ha62) ?_
              obtain ⟨w63, hw63, hrw63, h⟩ := st_open h
              refine ro_skip (d := none) rfl (.free rfl) rfl (q_store (T := tPtr) (u := r61.1) (a := a62) rfl ok34 rfl rfl hrw63 hw63) ?_
              refine ro_nil ?_
              refine wp_exit ?_
              exact ⟨(), _, arr (upd_step (upd_step (upd_step (upd_step (upd_step (upd_step (upd_step (upd_step (upd_step rfl rfl) rfl) rfl) rfl) rfl) rfl) rfl) rfl) rfl), h⟩
          · refine wp_skip ?_
            refine wp_seq ?_
            refine wp_seq ?_
            refine wp_text [0, 1, 2] rfl ?_
            refine rv 129 rfl rfl rfl (q_fieldAddr (a := a35) (off := 0) rfl Try.underlying69 rfl rfl ok5 (by decide) rfl) ?_
            obtain ⟨x65, hx65, h⟩ := h
            refine rv 130 rfl rfl rfl (q_load (T := (tInt .u8)) (u := x65) (a := (a35.add 0)) rfl ok5 rfl hx65) ?_
            refine rv 131 rfl rfl rfl (q_neq (a := x65) (b := (1 : Int)) rfl rfl rfl) ?_
            refine ro_nil ?_
            refine wp_if (b := (x65 != (1 : Int))) rfl h (fun hb195 h => ?_) (fun hb195 h => ?_)
            · refine wp_seq ?_
              refine wp_text [0, 1, 2, 3, 4, 5, 6, 7, 8, 9] rfl ?_
              refine rv 133 rfl rfl rfl (q_move (v := .int .i64 (d40)) rfl rfl) ?_
              obtain ⟨a66, ha66, h⟩ := h
              refine rv 134 rfl rfl rfl (q_indexAddrA (b := a5) (i := d40) rfl Try.underlying58 ok34 rfl rfl ha66) ?_
              obtain ⟨x67, hx67, h⟩ := h
              refine rv 135 rfl rfl rfl (q_load (T := tPtr) (u := x67) (a := a66) rfl ok34 rfl hx67) ?_
              refine rv 136 rfl rfl rfl (q_move (v := .int .i64 ((IntKind.i64.wrap ((1 : Int) + (bits .and .i64 (IntKind.i64.wrap x41) (7 : Int)))))) rfl rfl) ?_
              refine ro_wp rfl (.free rfl) (wp_cl (d := (some 137)) rfl (q_call (k := 14) (l := [.pointer (x67), .int .i64 ((IntKind.i64.wrap ((1 : Int) + (bits .and .i64 (IntKind.i64.wrap x41) (7 : Int)))))]) rfl ent14 rfl) h ?_)
              intro r69 w68 h
              refine rv 132 rfl rfl rfl (q_move (v := (tTup2 tSlc (tInt .i64)).enc (r69)) rfl rfl) ?_
              refine rv 138 rfl rfl rfl (q_extract (vs := #[tSlc.enc (r69.1), .int .i64 (r69.2)]) (v := tSlc.enc (r69.1)) rfl rfl rfl) ?_
              refine rv 139 rfl rfl rfl (q_extract (vs := #[tSlc.enc (r69.1), .int .i64 (r69.2)]) (v := .int .i64 (r69.2)) rfl rfl rfl) ?_
              refine rv 25 rfl rfl rfl (q_assign (v := tSlc.enc (r69.1)) rfl rfl) ?_
              refine rv 26 rfl rfl rfl (q_assign (v := .int .i64 (r69.2)) rfl rfl) ?_
              refine ro_nil ?_
              refine seq_join (σ := Unit) (J := fun (s : Unit) w => F6_j5 i_27 w K29 R) (fr := fun g (s : Unit) => upd (upd (upd (upd (upd (upd (upd (upd (upd (g) 1 (tSlc.enc (l_2))) 5 (.int .i64 ((IntKind.i64.wrap ((1 : Int) + (Int.tmod (IntKind.i64.wrap size_1) (5 : Int))))))) 6 (.pointer (some a3))) 7 (.pointer (some a5))) 13 (.pointer (some a19))) 14 (.pointer (some a21))) 15 (.pointer (some a23))) 16 (.pointer (some a25))) 17 (.int .i64 (i_27))) ?_ ?_
              · rintro ⟨⟩ g w70 h
                unfold F6_j5 at h
                refine wp_exit ?_
                exact ⟨(), _, arr (upd_step (upd_step (upd_step (upd_step (upd_step (upd_step (upd_step (upd_step (upd_step rfl rfl) rfl) rfl) rfl) rfl) rfl) rfl) rfl) rfl), h⟩
              · refine wp_seq ?_
                refine wp_text [0, 1, 2, 3, 4, 5, 6, 7, 8, 9, 10, 11, 12, 13, 14, 15, 16, 17, 18, 19, 20, 21, 22, 23, 24, 25, 26] rfl ?_
                refine rv 140 rfl rfl rfl (q_move (v := .int .i64 (r69.2)) rfl rfl) ?_
                refine rv 141 rfl rfl rfl (q_eql (a := r69.2) (b := (0 : Int)) rfl rfl rfl) ?_
                refine rv 142 rfl rfl rfl (q_move (v := .bool ((r69.2 == (0 : Int)))) rfl rfl) ?_
                refine ro_gval (g := (r69.2 == (0 : Int))) (d := (some 143)) rfl (.yes 2 142 true (r69.2 == (0 : Int)) rfl rfl rfl rfl) rfl (fun hg => q_fieldAddr (a := a35) (off := 4) rfl Try.underlying69 rfl rfl ok3 (by decide) rfl) ?_
                obtain ⟨x71, hx71, h⟩ := h
                refine ro_gval (g := (r69.2 == (0 : Int))) (d := (some 144)) rfl (.yes 2 142 true (r69.2 == (0 : Int)) rfl rfl rfl rfl) rfl (fun hg => q_load (T := (tInt .i64)) (u := x71) (a := (a35.add 4)) rfl ok3 (gvb_yes hg) (hx71 hg)) ?_
                refine ro_gval (g := (r69.2 == (0 : Int))) (d := (some 145)) rfl (.yes 2 142 true (r69.2 == (0 : Int)) rfl rfl rfl rfl) rfl (fun hg => q_and (a := x71) (b := (1 : Int)) rfl (gvb_yes hg) rfl) ?_
                refine ro_gval (g := (r69.2 == (0 : Int))) (d := (some 146)) rfl (.yes 2 142 true (r69.2 == (0 : Int)) rfl rfl rfl rfl) rfl (fun hg => q_eql (a := (bits .and .i64 x71 (1 : Int))) (b := (0 : Int)) rfl (gvb_yes hg) rfl) ?_
                refine rv 147 rfl rfl rfl (q_pickGT (a := (r69.2 == (0 : Int))) (b := ((bits .and .i64 x71 (1 : Int)) == (0 : Int))) rfl rfl rfl rfl) ?_
                refine rv 148 rfl rfl rfl (q_move (v := .bool (((r69.2 == (0 : Int)) && ((bits .and .i64 x71 (1 : Int)) == (0 : Int))))) rfl rfl) ?_
                refine ro_join (σ := Bool) (J := fun (s : Bool) w => F6_j6 i_27 d40 a43 r69 s w K29 R) (fr := fun g (s : Bool) => upd (upd (upd (upd (upd (upd (upd (upd (upd (upd (upd (upd (upd (g) 1 (tSlc.enc (l_2))) 5 (.int .i64 ((IntKind.i64.wrap ((1 : Int) + (Int.tmod (IntKind.i64.wrap size_1) (5 : Int))))))) 6 (.pointer (some a3))) 7 (.pointer (some a5))) 13 (.pointer (some a19))) 14 (.pointer (some a21))) 15 (.pointer (some a23))) 16 (.pointer (some a25))) 17 (.int .i64 (i_27))) 19 (.int .i64 (d40))) 22 (.pointer ((some a43)))) 25 (tSlc.enc (r69.1))) 157 (.bool (s))) [9, 10, 11, 12, 13, 14, 15, 16, 17] [18, 19, 20, 21, 22, 23, 24, 25, 26] ?_ ?_
                · rintro t_72 g w73 h
                  unfold F6_j6 at h
                  refine rv 158 rfl rfl rfl (q_move (v := .bool (t_72)) rfl rfl) ?_
                  refine ro_gval (g := t_72) (d := (some 159)) rfl (.yes 18 158 true t_72 rfl rfl rfl rfl) rfl (fun hg => q_move (v := .pointer ((some a43))) rfl rfl) ?_
                  refine ro_gval (g := t_72) (d := (some 160)) rfl (.yes 18 158 true t_72 rfl rfl rfl rfl) rfl (fun hg => q_move (v := .int .i64 (d40)) rfl rfl) ?_
                  obtain ⟨a74, ha74, h⟩ := h
                  refine ro_gval (g := t_72) (d := (some 161)) rfl (.yes 18 158 true t_72 rfl rfl rfl rfl) rfl (fun hg => q_nilCheck (a := a74) rfl ((gvb_yes hg).trans (congrArg Value.pointer (ha74 hg)))) ?_
                  refine ro_gval (g := t_72) (d := (some 162)) rfl (.yes 18 158 true t_72 rfl rfl rfl rfl) rfl (fun hg => q_fieldAddr (a := a74) (off := 0) rfl Try.underlying64 rfl rfl ok59 (by decide) (gvb_yes hg)) ?_
                  obtain ⟨a75, ha75, h⟩ := h
                  refine ro_gval (g := t_72) (d := (some 163)) rfl (.yes 18 158 true t_72 rfl rfl rfl rfl) rfl (fun hg => q_indexAddrA (b := (a74.add 0)) (i := d40) rfl Try.underlying59 ok4 (gvb_yes hg) (gvb_yes hg) (ha75 hg)) ?_
                  obtain ⟨x76, hx76, h⟩ := h
                  refine ro_gval (g := t_72) (d := (some 164)) rfl (.yes 18 158 true t_72 rfl rfl rfl rfl) rfl (fun hg => q_load (T := tBool) (u := x76) (a := a75) rfl ok4 (gvb_yes hg) (hx76 hg)) ?_
                  refine ro_gval (g := t_72) (d := (some 165)) rfl (.yes 18 158 true t_72 rfl rfl rfl rfl) rfl (fun hg => q_not (b := x76) rfl (gvb_yes hg)) ?_
                  refine rv 166 rfl rfl rfl (q_pickGT (a := t_72) (b := (!x76)) rfl rfl rfl rfl) ?_
                  refine ro_nil ?_
                  refine wp_if (b := (t_72 && (!x76))) rfl h (fun hb82 h => ?_) (fun hb82 h => ?_)
                  · obtain ⟨w77, hw77, h⟩ := dr_open h
                    refine wp_drawn 13 mixed rfl (by kernel_rfl) (by intro c a d v w h; cases d <;> exact h) hw77 (fun hD => ?_)
                    refine rp 0 167 hD rfl rfl rfl (fun _ => q_move (v := .pointer ((some a43))) rfl rfl) ?_
                    refine rp 1 168 hD rfl rfl rfl (fun _ => q_move (v := .int .i64 (d40)) rfl rfl) ?_
                    refine rp 2 169 hD rfl rfl rfl (fun _ => q_move (v := .pointer ((some a43))) rfl rfl) ?_
                    refine rp 3 170 hD rfl rfl rfl (fun _ => q_move (v := .int .i64 (d40)) rfl rfl) ?_
                    refine rp 4 171 hD rfl rfl rfl (fun _ => q_move (v := tSlc.enc (r69.1)) rfl rfl) ?_
                    refine rp 5 172 hD rfl rfl rfl (fun _ => q_nilCheck (a := a43) rfl rfl) ?_
                    refine rp 6 173 hD rfl rfl rfl (fun _ => q_fieldAddr (a := a43) (off := 0) rfl Try.underlying64 rfl rfl ok59 (by decide) rfl) ?_
                    obtain ⟨a78, ha78, h⟩ := h
                    refine rp 7 174 hD rfl rfl rfl (fun _ => q_indexAddrA (b := (a43.add 0)) (i := d40) rfl Try.underlying59 ok4 rfl rfl ha78) ?_
                    refine rp 9 175 hD rfl rfl rfl (fun _ => q_nilCheck (a := a43) rfl rfl) ?_
                    refine rp 10 176 hD rfl rfl rfl (fun _ => q_fieldAddr (a := a43) (off := 5) rfl Try.underlying64 rfl rfl ok60 (by decide) rfl) ?_
                    refine rd_one (i := 8) (by kernel_rfl) ?_
                    obtain ⟨w79, hw79, hrw79, h⟩ := st_open h
                    refine po_skip (d := none) rfl (.free rfl) rfl (q_store (T := tBool) (u := true) (a := a78) rfl ok4 rfl rfl hrw79 hw79) ⟨hk_nil, ?_⟩
                    obtain ⟨a80, ha80, h⟩ := h
                    refine rp 11 177 hD rfl rfl rfl (fun _ => q_indexAddrA (b := (a43.add 5)) (i := d40) rfl Try.underlying60 ok23 rfl rfl ha80) ?_
                    refine rd_one (i := 12) (by kernel_rfl) ?_
                    obtain ⟨w81, hw81, hrw81, h⟩ := st_open h
                    refine po_skip (d := none) rfl (.free rfl) rfl (q_store (T := tSlc) (u := r69.1) (a := a80) rfl ok23 rfl rfl hrw81 hw81) ⟨hk_nil, ?_⟩
                    refine rd_nil (by kernel_rfl) ?_
                    exact ⟨(), _, arr (upd_step (upd_step (upd_step (upd_step (upd_step (upd_step (upd_step (upd_step (upd_step rfl rfl) rfl) rfl) rfl) rfl) rfl) rfl) rfl) rfl), h⟩
                  · refine wp_skip ?_
                    exact ⟨(), _, arr (upd_step (upd_step (upd_step (upd_step (upd_step (upd_step (upd_step (upd_step (upd_step rfl rfl) rfl) rfl) rfl) rfl) rfl) rfl) rfl) rfl), h⟩
                · refine ro_if (b := ((r69.2 == (0 : Int)) && ((bits .and .i64 x71 (1 : Int)) == (0 : Int)))) h (fun hb83 h => ?_) (fun hb83 h => ?_)
                  · refine ro_val (d := (some 149)) rfl (.by_ 8 true 148 ((r69.2 == (0 : Int)) && ((bits .and .i64 x71 (1 : Int)) == (0 : Int))) rfl rfl rfl hb83) rfl (q_move (v := .int .i64 (d40)) rfl rfl) ?_
                    obtain ⟨a84, ha84, h⟩ := h
                    refine ro_val (d := (some 150)) rfl (.by_ 8 true 148 ((r69.2 == (0 : Int)) && ((bits .and .i64 x71 (1 : Int)) == (0 : Int))) rfl rfl rfl hb83) rfl (q_indexAddrA (b := a5) (i := d40) rfl Try.underlying58 ok34 rfl rfl ha84) ?_
                    obtain ⟨x85, hx85, h⟩ := h
                    refine ro_val (d := (some 151)) rfl (.by_ 8 true 148 ((r69.2 == (0 : Int)) && ((bits .and .i64 x71 (1 : Int)) == (0 : Int))) rfl rfl rfl hb83) rfl (q_load (T := tPtr) (u := x85) (a := a84) rfl ok34 rfl hx85) ?_
                    obtain ⟨a86, ha86, h⟩ := h
                    refine ro_val (d := (some 152)) rfl (.by_ 8 true 148 ((r69.2 == (0 : Int)) && ((bits .and .i64 x71 (1 : Int)) == (0 : Int))) rfl rfl rfl hb83) rfl (q_nilCheck (a := a86) rfl (congrArg Value.pointer ha86)) ?_
                    refine ro_val (d := (some 153)) rfl (.by_ 8 true 148 ((r69.2 == (0 : Int)) && ((bits .and .i64 x71 (1 : Int)) == (0 : Int))) rfl rfl rfl hb83) rfl (q_fieldAddr (a := a86) (off := 0) rfl Try.underlying53 rfl rfl ok50 (by decide) rfl) ?_
                    obtain ⟨x87, hx87, h⟩ := h
                    refine ro_val (d := (some 154)) rfl (.by_ 8 true 148 ((r69.2 == (0 : Int)) && ((bits .and .i64 x71 (1 : Int)) == (0 : Int))) rfl rfl rfl hb83) rfl (q_load (T := tPtr) (u := x87) (a := (a86.add 0)) rfl ok50 rfl hx87) ?_
                    refine ro_wp rfl (.by_ 8 true 148 ((r69.2 == (0 : Int)) && ((bits .and .i64 x71 (1 : Int)) == (0 : Int))) rfl rfl rfl hb83) (wp_cl (d := (some 155)) rfl (q_call (k := 18) (l := [.pointer (x87)]) rfl ent18 rfl) h ?_)
                    intro r89 w88 h
                    refine ro_val (d := (some 156)) rfl (.by_ 8 true 148 ((r69.2 == (0 : Int)) && ((bits .and .i64 x71 (1 : Int)) == (0 : Int))) rfl rfl rfl hb83) rfl (q_eql (a := r89) (b := (0 : Int)) rfl rfl rfl) ?_
                    refine rv 157 rfl rfl rfl (q_pickT (v := .bool ((r89 == (0 : Int)))) (b := ((r69.2 == (0 : Int)) && ((bits .and .i64 x71 (1 : Int)) == (0 : Int)))) rfl rfl hb83 rfl) ?_
                    refine ro_nil ?_
                    exact ⟨((r89 == (0 : Int))), _, arr (upd_step (upd_step (upd_step (upd_step (upd_step (upd_step (upd_step (upd_step (upd_step (upd_step (upd_step (upd_step (upd_step rfl rfl) rfl) rfl) rfl) rfl) rfl) rfl) rfl) rfl) rfl) rfl) rfl) rfl), h⟩
                  · refine ro_bar (d := (some 149)) rfl (.by_ 8 true 148 ((r69.2 == (0 : Int)) && ((bits .and .i64 x71 (1 : Int)) == (0 : Int))) rfl rfl rfl hb83) rfl ?_
                    refine ro_bar (d := (some 150)) rfl (.by_ 8 true 148 ((r69.2 == (0 : Int)) && ((bits .and .i64 x71 (1 : Int)) == (0 : Int))) rfl rfl rfl hb83) rfl ?_
                    refine ro_bar (d := (some 151)) rfl (.by_ 8 true 148 ((r69.2 == (0 : Int)) && ((bits .and .i64 x71 (1 : Int)) == (0 : Int))) rfl rfl rfl hb83) rfl ?_
                    refine ro_bar (d := (some 152)) rfl (.by_ 8 true 148 ((r69.2 == (0 : Int)) && ((bits .and .i64 x71 (1 : Int)) == (0 : Int))) rfl rfl rfl hb83) rfl ?_
                    refine ro_bar (d := (some 153)) rfl (.by_ 8 true 148 ((r69.2 == (0 : Int)) && ((bits .and .i64 x71 (1 : Int)) == (0 : Int))) rfl rfl rfl hb83) rfl ?_
                    refine ro_bar (d := (some 154)) rfl (.by_ 8 true 148 ((r69.2 == (0 : Int)) && ((bits .and .i64 x71 (1 : Int)) == (0 : Int))) rfl rfl rfl hb83) rfl ?_
                    refine ro_bar (d := (some 155)) rfl (.by_ 8 true 148 ((r69.2 == (0 : Int)) && ((bits .and .i64 x71 (1 : Int)) == (0 : Int))) rfl rfl rfl hb83) rfl ?_
                    refine ro_bar (d := (some 156)) rfl (.by_ 8 true 148 ((r69.2 == (0 : Int)) && ((bits .and .i64 x71 (1 : Int)) == (0 : Int))) rfl rfl rfl hb83) rfl ?_
                    refine rv 157 rfl rfl rfl (q_pickF (v := .bool (false)) (b := ((r69.2 == (0 : Int)) && ((bits .and .i64 x71 (1 : Int)) == (0 : Int)))) rfl rfl hb83 rfl) ?_
                    refine ro_nil ?_
                    exact ⟨(false), _, arr (upd_step (upd_step (upd_step (upd_step (upd_step (upd_step (upd_step (upd_step (upd_step (upd_step (upd_step (upd_step (upd_step rfl rfl) rfl) rfl) rfl) rfl) rfl) rfl) rfl) rfl) rfl) rfl) rfl) rfl), h⟩
            · refine wp_skip ?_
              refine wp_seq ?_
              refine wp_seq ?_
              refine wp_text [0, 1, 2, 3, 4] rfl ?_
              refine rv 178 rfl rfl rfl (q_move (v := .pointer ((some a43))) rfl rfl) ?_
              refine ro_wp rfl (.free rfl) (wp_cl (d := (some 179)) rfl (q_call (k := 21) (l := [.pointer ((some a43))]) rfl ent21 rfl) h ?_)
              intro r91 w90 h
              refine rv 180 rfl rfl rfl (q_mul (a := (2 : Int)) (b := r91) rfl rfl rfl) ?_
              refine rv 181 rfl rfl rfl (q_move (v := .int .i64 ((IntKind.i64.wrap ((1 : Int) + (Int.tmod (IntKind.i64.wrap size_1) (5 : Int)))))) rfl rfl) ?_
              refine rv 182 rfl rfl rfl (q_leq (a := (IntKind.i64.wrap ((2 : Int) * r91))) (b := (IntKind.i64.wrap ((1 : Int) + (Int.tmod (IntKind.i64.wrap size_1) (5 : Int))))) rfl rfl rfl) ?_
              refine ro_nil ?_
              refine wp_if (b := (decide ((IntKind.i64.wrap ((2 : Int) * r91)) ≤ (IntKind.i64.wrap ((1 : Int) + (Int.tmod (IntKind.i64.wrap size_1) (5 : Int))))))) rfl h (fun hb194 h => ?_) (fun hb194 h => ?_)
              · refine wp_exit ?_
                exact ⟨(), _, arr (upd_step (upd_step (upd_step (upd_step (upd_step (upd_step (upd_step (upd_step (upd_step rfl rfl) rfl) rfl) rfl) rfl) rfl) rfl) rfl) rfl), h⟩
              · refine wp_skip ?_
                refine seq_join (σ := Unit) (J := fun (s : Unit) w => F6_j7 size_1 a5 a21 a23 a25 i_27 a35 d40 x41 x42 a43 w K29 R) (fr := fun g (s : Unit) => upd (upd (upd (upd (upd (upd (upd (upd (upd (upd (upd (upd (upd (upd (g) 1 (tSlc.enc (l_2))) 5 (.int .i64 ((IntKind.i64.wrap ((1 : Int) + (Int.tmod (IntKind.i64.wrap size_1) (5 : Int))))))) 6 (.pointer (some a3))) 7 (.pointer (some a5))) 13 (.pointer (some a19))) 14 (.pointer (some a21))) 15 (.pointer (some a23))) 16 (.pointer (some a25))) 17 (.int .i64 (i_27))) 18 (.pointer (some a35))) 19 (.int .i64 (d40))) 20 (.int .i64 ((IntKind.i64.wrap ((1 : Int) + (bits .and .i64 (IntKind.i64.wrap x41) (7 : Int))))))) 21 (.int .i64 ((IntKind.i64.wrap ((1 : Int) + (Int.tmod (IntKind.i64.wrap x42) (3 : Int))))))) 22 (.pointer ((some a43)))) ?_ ?_
                · rintro ⟨⟩ g w92 h
                  unfold F6_j7 at h
                  refine wp_seq ?_
                  refine seq_join (σ := Bool) (J := fun (s : Bool) w => F6_j8 size_1 a21 a23 a25 i_27 d40 x41 x42 a43 s w K29 R) (fr := fun g (s : Bool) => upd (upd (upd (upd (upd (upd (upd (upd (upd (upd (upd (upd (upd (upd (g) 1 (tSlc.enc (l_2))) 5 (.int .i64 ((IntKind.i64.wrap ((1 : Int) + (Int.tmod (IntKind.i64.wrap size_1) (5 : Int))))))) 6 (.pointer (some a3))) 7 (.pointer (some a5))) 13 (.pointer (some a19))) 14 (.pointer (some a21))) 15 (.pointer (some a23))) 16 (.pointer (some a25))) 17 (.int .i64 (i_27))) 19 (.int .i64 (d40))) 20 (.int .i64 ((IntKind.i64.wrap ((1 : Int) + (bits .and .i64 (IntKind.i64.wrap x41) (7 : Int))))))) 21 (.int .i64 ((IntKind.i64.wrap ((1 : Int) + (Int.tmod (IntKind.i64.wrap x42) (3 : Int))))))) 22 (.pointer ((some a43)))) 288 (.bool (s))) ?_ ?_
                  · rintro t_93 g w94 h
                    unfold F6_j8 at h
                    refine wp_if (b := t_93) rfl h (fun hb129 h => ?_) (fun hb129 h => ?_)
                    · refine wp_exit ?_
                      exact ⟨(), _, arr (upd_step (upd_step (upd_step (upd_step (upd_step (upd_step (upd_step (upd_step (upd_step rfl rfl) rfl) rfl) rfl) rfl) rfl) rfl) rfl) rfl), h⟩
                    · refine wp_skip ?_
                      refine wp_seq ?_
                      refine wp_text [0, 1, 2, 3, 4, 5, 6] rfl ?_
                      refine rv 289 rfl rfl rfl (q_move (v := .int .i64 ((IntKind.i64.wrap ((1 : Int) + (bits .and .i64 (IntKind.i64.wrap x41) (7 : Int)))))) rfl rfl) ?_
                      refine rv 290 rfl rfl rfl (q_move (v := .int .i64 ((IntKind.i64.wrap ((1 : Int) + (Int.tmod (IntKind.i64.wrap x42) (3 : Int)))))) rfl rfl) ?_
                      refine rv 291 rfl rfl rfl (q_move (v := .int .i64 (d40)) rfl rfl) ?_
                      obtain ⟨a95, ha95, h⟩ := h
                      refine rv 292 rfl rfl rfl (q_indexAddrA (b := a21) (i := (IntKind.i64.wrap ((1 : Int) + (bits .and .i64 (IntKind.i64.wrap x41) (7 : Int))))) rfl Try.underlying67 ok66 rfl rfl ha95) ?_
                      obtain ⟨a96, ha96, h⟩ := h
                      refine rv 293 rfl rfl rfl (q_indexAddrA (b := a95) (i := (IntKind.i64.wrap ((1 : Int) + (Int.tmod (IntKind.i64.wrap x42) (3 : Int))))) rfl Try.underlying66 ok59 rfl rfl ha96) ?_
                      obtain ⟨a97, ha97, h⟩ := h
                      refine rv 294 rfl rfl rfl (q_indexAddrA (b := a96) (i := d40) rfl Try.underlying59 ok4 rfl rfl ha97) ?_
                      obtain ⟨w98, hw98, hrw98, h⟩ := st_open h
                      refine ro_skip (d := none) rfl (.free rfl) rfl (q_store (T := tBool) (u := true) (a := a97) rfl ok4 rfl rfl hrw98 hw98) ?_
                      refine ro_nil ?_
                      refine wp_seq ?_
                      refine wp_text [0] rfl ?_
                      refine rv 29 rfl rfl rfl (q_assign (v := .int .i64 ((0 : Int))) rfl rfl) ?_
                      refine ro_nil ?_
                      refine wp_seq ?_
                      refine wp_seq ?_
                      refine wp_text [0] rfl ?_
                      refine rv 30 rfl rfl rfl (q_assign (v := .int .i64 ((0 : Int))) rfl rfl) ?_
                      refine ro_nil ?_
                      refine wp_block ?_
                      refine loop_at (σ := Int × Int) (fr := fun g (s : Int × Int) => upd (upd (upd (upd (upd (upd (upd (upd (upd (upd (upd (upd (upd (upd (g) 1 (tSlc.enc (l_2))) 5 (.int .i64 ((IntKind.i64.wrap ((1 : Int) + (Int.tmod (IntKind.i64.wrap size_1) (5 : Int))))))) 6 (.pointer (some a3))) 7 (.pointer (some a5))) 13 (.pointer (some a19))) 14 (.pointer (some a21))) 15 (.pointer (some a23))) 16 (.pointer (some a25))) 17 (.int .i64 (i_27))) 20 (.int .i64 ((IntKind.i64.wrap ((1 : Int) + (bits .and .i64 (IntKind.i64.wrap x41) (7 : Int))))))) 21 (.int .i64 ((IntKind.i64.wrap ((1 : Int) + (Int.tmod (IntKind.i64.wrap x42) (3 : Int))))))) 22 (.pointer ((some a43)))) 29 (.int .i64 (s.1))) 30 (.int .i64 (s.2))) (s0 := ((0 : Int), (0 : Int))) (upd_step (upd_step (upd_step (upd_step (upd_step (upd_step (upd_step (upd_step (upd_step (upd_step (upd_step (upd_step (upd_step (upd_step rfl rfl) rfl) rfl) rfl) rfl) rfl) rfl) rfl) rfl) rfl) rfl) rfl) rfl) rfl) h ?_
                      rintro ⟨count_99, j_100⟩ g w101 K102 h
                      unfold F6_l9 at h
                      refine wp_seq ?_
                      refine wp_seq ?_
                      refine wp_text [0, 1, 2] rfl ?_
                      refine rv 295 rfl rfl rfl (q_move (v := .int .i64 (j_100)) rfl rfl) ?_
                      refine rv 296 rfl rfl rfl (q_move (v := .int .i64 ((IntKind.i64.wrap ((1 : Int) + (Int.tmod (IntKind.i64.wrap size_1) (5 : Int)))))) rfl rfl) ?_
                      refine rv 297 rfl rfl rfl (q_lss (a := j_100) (b := (IntKind.i64.wrap ((1 : Int) + (Int.tmod (IntKind.i64.wrap size_1) (5 : Int))))) rfl rfl rfl) ?_
                      refine ro_nil ?_
                      refine wp_if (b := (decide (j_100 < (IntKind.i64.wrap ((1 : Int) + (Int.tmod (IntKind.i64.wrap size_1) (5 : Int))))))) rfl h (fun hb128 h => ?_) (fun hb128 h => ?_)
                      · refine wp_skip ?_
                        refine seq_join (σ := Int) (J := fun (s : Int) w => F6_j10 j_100 s w K102 R) (fr := fun g (s : Int) => upd (upd (upd (upd (upd (upd (upd (upd (upd (upd (upd (upd (upd (upd (g) 1 (tSlc.enc (l_2))) 5 (.int .i64 ((IntKind.i64.wrap ((1 : Int) + (Int.tmod (IntKind.i64.wrap size_1) (5 : Int))))))) 6 (.pointer (some a3))) 7 (.pointer (some a5))) 13 (.pointer (some a19))) 14 (.pointer (some a21))) 15 (.pointer (some a23))) 16 (.pointer (some a25))) 17 (.int .i64 (i_27))) 20 (.int .i64 ((IntKind.i64.wrap ((1 : Int) + (bits .and .i64 (IntKind.i64.wrap x41) (7 : Int))))))) 21 (.int .i64 ((IntKind.i64.wrap ((1 : Int) + (Int.tmod (IntKind.i64.wrap x42) (3 : Int))))))) 22 (.pointer ((some a43)))) 30 (.int .i64 (j_100))) 29 (.int .i64 (s))) ?_ ?_
                        · rintro count_103 g w104 h
                          unfold F6_j10 at h
                          refine wp_text [0, 1, 2] rfl ?_
                          refine rv 298 rfl rfl rfl (q_move (v := .int .i64 (j_100)) rfl rfl) ?_
                          refine rv 299 rfl rfl rfl (q_add (a := j_100) (b := (1 : Int)) rfl rfl rfl) ?_
                          refine rv 30 rfl rfl rfl (q_assign (v := .int .i64 ((IntKind.i64.wrap (j_100 + (1 : Int))))) rfl rfl) ?_
                          refine ro_nil ?_
                          exact ⟨(count_103, (IntKind.i64.wrap (j_100 + (1 : Int)))), _, arr (upd_step (upd_step (upd_step (upd_step (upd_step (upd_step (upd_step (upd_step (upd_step (upd_step (upd_step (upd_step (upd_step (upd_step rfl rfl) rfl) rfl) rfl) rfl) rfl) rfl) rfl) rfl) rfl) rfl) rfl) rfl) rfl), h⟩
                        · refine wp_block ?_
                          refine wp_seq ?_
                          refine wp_text [0, 1, 2, 3, 4, 5, 6] rfl ?_
                          refine rv 300 rfl rfl rfl (q_move (v := .int .i64 ((IntKind.i64.wrap ((1 : Int) + (bits .and .i64 (IntKind.i64.wrap x41) (7 : Int)))))) rfl rfl) ?_
                          refine rv 301 rfl rfl rfl (q_move (v := .int .i64 ((IntKind.i64.wrap ((1 : Int) + (Int.tmod (IntKind.i64.wrap x42) (3 : Int)))))) rfl rfl) ?_
                          refine rv 302 rfl rfl rfl (q_move (v := .int .i64 (j_100)) rfl rfl) ?_
                          obtain ⟨a105, ha105, h⟩ := h
                          refine rv 303 rfl rfl rfl (q_indexAddrA (b := a21) (i := (IntKind.i64.wrap ((1 : Int) + (bits .and .i64 (IntKind.i64.wrap x41) (7 : Int))))) rfl Try.underlying67 ok66 rfl rfl ha105) ?_
                          obtain ⟨a106, ha106, h⟩ := h
                          refine rv 304 rfl rfl rfl (q_indexAddrA (b := a105) (i := (IntKind.i64.wrap ((1 : Int) + (Int.tmod (IntKind.i64.wrap x42) (3 : Int))))) rfl Try.underlying66 ok59 rfl rfl ha106) ?_
                          obtain ⟨a107, ha107, h⟩ := h
                          refine rv 305 rfl rfl rfl (q_indexAddrA (b := a106) (i := j_100) rfl Try.underlying59 ok4 rfl rfl ha107) ?_
                          obtain ⟨x108, hx108, h⟩ := h
                          refine rv 306 rfl rfl rfl (q_load (T := tBool) (u := x108) (a := a107) rfl ok4 rfl hx108) ?_
                          refine ro_nil ?_
                          refine wp_if (b := x108) rfl h (fun hb109 h => ?_) (fun hb109 h => ?_)
                          · refine wp_text [0, 1, 2] rfl ?_
                            refine rv 307 rfl rfl rfl (q_move (v := .int .i64 (count_99)) rfl rfl) ?_
                            refine rv 308 rfl rfl rfl (q_add (a := count_99) (b := (1 : Int)) rfl rfl rfl) ?_
                            refine rv 29 rfl rfl rfl (q_assign (v := .int .i64 ((IntKind.i64.wrap (count_99 + (1 : Int))))) rfl rfl) ?_
                            refine ro_nil ?_
                            exact ⟨((IntKind.i64.wrap (count_99 + (1 : Int)))), _, arr (upd_step (upd_step (upd_step (upd_step (upd_step (upd_step (upd_step (upd_step (upd_step (upd_step (upd_step (upd_step (upd_step (upd_step rfl rfl) rfl) rfl) rfl) rfl) rfl) rfl) rfl) rfl) rfl) rfl) rfl) rfl) rfl), h⟩
                          · refine wp_skip ?_
                            exact ⟨(count_99), _, arr (upd_step (upd_step (upd_step (upd_step (upd_step (upd_step (upd_step (upd_step (upd_step (upd_step (upd_step (upd_step (upd_step (upd_step rfl rfl) rfl) rfl) rfl) rfl) rfl) rfl) rfl) rfl) rfl) rfl) rfl) rfl) rfl), h⟩
                      · refine wp_exit ?_
                        refine wp_seq ?_
                        refine wp_text [0, 1, 2, 3] rfl ?_
                        refine rv 309 rfl rfl rfl (q_move (v := .int .i64 (count_99)) rfl rfl) ?_
                        refine rv 310 rfl rfl rfl (q_mul (a := (2 : Int)) (b := count_99) rfl rfl rfl) ?_
                        refine rv 311 rfl rfl rfl (q_move (v := .int .i64 ((IntKind.i64.wrap ((1 : Int) + (Int.tmod (IntKind.i64.wrap size_1) (5 : Int)))))) rfl rfl) ?_
                        refine rv 312 rfl rfl rfl (q_gtr (a := (IntKind.i64.wrap ((2 : Int) * count_99))) (b := (IntKind.i64.wrap ((1 : Int) + (Int.tmod (IntKind.i64.wrap size_1) (5 : Int))))) rfl rfl rfl) ?_
                        refine ro_nil ?_
                        refine wp_if (b := (decide ((IntKind.i64.wrap ((2 : Int) * count_99)) > (IntKind.i64.wrap ((1 : Int) + (Int.tmod (IntKind.i64.wrap size_1) (5 : Int))))))) rfl h (fun hb127 h => ?_) (fun hb127 h => ?_)
                        · refine wp_seq ?_
                          refine wp_seq ?_
                          obtain ⟨w110, hw110, h⟩ := dr_open h
                          refine wp_drawn 15 mixed rfl (by kernel_rfl) (by intro c a d v w h; cases d <;> exact h) hw110 (fun hD => ?_)
                          refine rp 0 313 hD rfl rfl rfl (fun _ => q_move (v := .int .i64 ((IntKind.i64.wrap ((1 : Int) + (Int.tmod (IntKind.i64.wrap x42) (3 : Int)))))) rfl rfl) ?_
                          obtain ⟨a111, ha111, h⟩ := h
                          refine rp 1 314 hD rfl rfl rfl (fun _ => q_indexAddrA (b := a25) (i := (IntKind.i64.wrap ((1 : Int) + (Int.tmod (IntKind.i64.wrap x42) (3 : Int))))) rfl Try.underlying61 ok4 rfl rfl ha111) ?_
                          obtain ⟨x112, hx112, h⟩ := h
                          refine rd_read (i := 2) (d := (some 315)) (fun W => (RdAt tBool a111 W) x112) hD (by kernel_rfl) (by kernel_rfl) rfl (.free rfl) rfl (fun W hr => q_load (T := tBool) (u := x112) (a := a111) rfl ok4 rfl hr) hx112 ?_
                          refine rp 3 316 hD rfl rfl rfl (fun _ => q_move (v := .bool (x112)) rfl rfl) ?_
                          refine rd_gpure (i := 4) (g := x112) (d := (some 317)) hD (by kernel_rfl) (by kernel_rfl) rfl (.yes 3 316 true x112 rfl rfl rfl rfl) rfl (fun hg _ => q_move (v := .int .i64 ((IntKind.i64.wrap ((1 : Int) + (Int.tmod (IntKind.i64.wrap x42) (3 : Int)))))) rfl rfl) ?_
                          obtain ⟨a113, ha113, h⟩ := h
                          refine rd_gpure (i := 5) (g := x112) (d := (some 318)) hD (by kernel_rfl) (by kernel_rfl) rfl (.yes 3 316 true x112 rfl rfl rfl rfl) rfl (fun hg _ => q_indexAddrA (b := a23) (i := (IntKind.i64.wrap ((1 : Int) + (Int.tmod (IntKind.i64.wrap x42) (3 : Int))))) rfl Try.underlying62 ok9 rfl (gvb_yes hg) (ha113 hg)) ?_
                          refine rd_gpure (i := 7) (g := x112) (d := (some 320)) hD (by kernel_rfl) (by kernel_rfl) rfl (.yes 3 316 true x112 rfl rfl rfl rfl) rfl (fun hg _ => q_move (v := .pointer ((some a43))) rfl rfl) ?_
                          refine rd_gpure (i := 8) (g := x112) (d := (some 321)) hD (by kernel_rfl) (by kernel_rfl) rfl (.yes 3 316 true x112 rfl rfl rfl rfl) rfl (fun hg _ => q_move (v := .int .i64 ((IntKind.i64.wrap ((1 : Int) + (Int.tmod (IntKind.i64.wrap x42) (3 : Int)))))) rfl rfl) ?_
                          obtain ⟨a114, ha114, h⟩ := h
                          refine rd_gpure (i := 9) (g := x112) (d := (some 322)) hD (by kernel_rfl) (by kernel_rfl) rfl (.yes 3 316 true x112 rfl rfl rfl rfl) rfl (fun hg _ => q_nilCheck (a := a114) rfl ((gvb_yes hg).trans (congrArg Value.pointer (ha114 hg)))) ?_
                          refine rd_gpure (i := 10) (g := x112) (d := (some 323)) hD (by kernel_rfl) (by kernel_rfl) rfl (.yes 3 316 true x112 rfl rfl rfl rfl) rfl (fun hg _ => q_fieldAddr (a := a114) (off := 14) rfl Try.underlying64 rfl rfl ok62 (by decide) (gvb_yes hg)) ?_
                          obtain ⟨a115, ha115, h⟩ := h
                          refine rd_gpure (i := 11) (g := x112) (d := (some 324)) hD (by kernel_rfl) (by kernel_rfl) rfl (.yes 3 316 true x112 rfl rfl rfl rfl) rfl (fun hg _ => q_indexAddrA (b := (a114.add 14)) (i := (IntKind.i64.wrap ((1 : Int) + (Int.tmod (IntKind.i64.wrap x42) (3 : Int))))) rfl Try.underlying62 ok9 (gvb_yes hg) (gvb_yes hg) (ha115 hg)) ?_
                          obtain ⟨x116, hx116, h⟩ := h
                          refine rd_gread (i := 6) (g := x112) (d := (some 319)) (fun W => (RdAt tStr a113 W) x116) hD (by kernel_rfl) (by kernel_rfl) rfl (.yes 3 316 true x112 rfl rfl rfl rfl) rfl (fun hg W hr => q_load (T := tStr) (u := x116) (a := a113) rfl ok9 (gvb_yes hg) hr) hx116 ?_
                          obtain ⟨x117, hx117, h⟩ := h
                          refine rd_gread (i := 12) (g := x112) (d := (some 325)) (fun W => (RdAt tStr a115 W) x117) hD (by kernel_rfl) (by kernel_rfl) rfl (.yes 3 316 true x112 rfl rfl rfl rfl) rfl (fun hg W hr => q_load (T := tStr) (u := x117) (a := a115) rfl ok9 (gvb_yes hg) hr) hx117 ?_
                          refine rd_gpure (i := 13) (g := x112) (d := (some 326)) hD (by kernel_rfl) (by kernel_rfl) rfl (.yes 3 316 true x112 rfl rfl rfl rfl) rfl (fun hg _ => q_neS (a := x116) (b := x117) rfl (gvb_yes hg) (gvb_yes hg)) ?_
                          refine rp 14 327 hD rfl rfl rfl (fun _ => q_pickGT (a := x112) (b := (!(x116 == x117))) rfl rfl rfl rfl) ?_
                          refine rd_nil (by kernel_rfl) ?_
                          refine wp_if (b := (x112 && (!(x116 == x117)))) rfl h (fun hb126 h => ?_) (fun hb126 h => ?_)
                          · refine wp_seq ?_
                            refine wp_text [0] rfl ?_
                            refine rv 4 rfl rfl rfl (q_assign (v := .bool (false)) rfl rfl) ?_
                            refine ro_nil ?_
                            refine wp_ret ?_
                            exact ret_ok rfl (.cons (.tmp (v := .bool (false)) rfl) .nil) ⟨false, rfl, h⟩
                          · refine wp_skip ?_
                            obtain ⟨w118, hw118, h⟩ := dr_open h
                            refine wp_drawn 12 mixed rfl (by kernel_rfl) (by intro c a d v w h; cases d <;> exact h) hw118 (fun hD => ?_)
                            refine rp 0 328 hD rfl rfl rfl (fun _ => q_move (v := .int .i64 ((IntKind.i64.wrap ((1 : Int) + (Int.tmod (IntKind.i64.wrap x42) (3 : Int)))))) rfl rfl) ?_
                            refine rp 1 329 hD rfl rfl rfl (fun _ => q_move (v := .int .i64 ((IntKind.i64.wrap ((1 : Int) + (Int.tmod (IntKind.i64.wrap x42) (3 : Int)))))) rfl rfl) ?_
                            refine rp 2 330 hD rfl rfl rfl (fun _ => q_move (v := .pointer ((some a43))) rfl rfl) ?_
                            refine rp 3 331 hD rfl rfl rfl (fun _ => q_move (v := .int .i64 ((IntKind.i64.wrap ((1 : Int) + (Int.tmod (IntKind.i64.wrap x42) (3 : Int)))))) rfl rfl) ?_
                            refine rp 4 332 hD rfl rfl rfl (fun _ => q_nilCheck (a := a43) rfl rfl) ?_
                            refine rp 5 333 hD rfl rfl rfl (fun _ => q_fieldAddr (a := a43) (off := 14) rfl Try.underlying64 rfl rfl ok62 (by decide) rfl) ?_
                            obtain ⟨a119, ha119, h⟩ := h
                            refine rp 6 334 hD rfl rfl rfl (fun _ => q_indexAddrA (b := (a43.add 14)) (i := (IntKind.i64.wrap ((1 : Int) + (Int.tmod (IntKind.i64.wrap x42) (3 : Int))))) rfl Try.underlying62 ok9 rfl rfl ha119) ?_
                            obtain ⟨a120, ha120, h⟩ := h
                            refine rp 8 336 hD rfl rfl rfl (fun _ => q_indexAddrA (b := a25) (i := (IntKind.i64.wrap ((1 : Int) + (Int.tmod (IntKind.i64.wrap x42) (3 : Int))))) rfl Try.underlying61 ok4 rfl rfl ha120) ?_
                            obtain ⟨x121, hx121, h⟩ := h
                            refine rd_read (i := 7) (d := (some 335)) (fun W => (RdAt tStr a119 W) x121) hD (by kernel_rfl) (by kernel_rfl) rfl (.free rfl) rfl (fun W hr => q_load (T := tStr) (u := x121) (a := a119) rfl ok9 rfl hr) hx121 ?_
                            refine rd_one (i := 9) (by kernel_rfl) ?_
                            obtain ⟨w122, hw122, hrw122, h⟩ := st_open h
                            obtain ⟨hk123, h⟩ := h
                            refine po_skip (d := none) rfl (.free rfl) rfl (q_store (T := tBool) (u := true) (a := a120) rfl ok4 rfl rfl hrw122 hw122) ⟨(hk_keep (fun _ => hk123) hk_nil), ?_⟩
                            obtain ⟨a124, ha124, h⟩ := h
                            refine rp 10 337 hD rfl rfl rfl (fun _ => q_indexAddrA (b := a23) (i := (IntKind.i64.wrap ((1 : Int) + (Int.tmod (IntKind.i64.wrap x42) (3 : Int))))) rfl Try.underlying62 ok9 rfl rfl ha124) ?_
                            refine rd_one (i := 11) (by kernel_rfl) ?_
                            obtain ⟨w125, hw125, hrw125, h⟩ := st_open h
                            refine po_skip (d := none) rfl (.free rfl) rfl (q_store (T := tStr) (u := x121) (a := a124) rfl ok9 rfl rfl hrw125 hw125) ⟨(hk_wait (by kernel_rfl) hk_nil), ?_⟩
                            refine rd_nil (by kernel_rfl) ?_
                            exact ⟨(), _, arr (upd_step (upd_step (upd_step (upd_step (upd_step (upd_step (upd_step (upd_step (upd_step rfl rfl) rfl) rfl) rfl) rfl) rfl) rfl) rfl) rfl), h⟩
                        · refine wp_skip ?_
                          exact ⟨(), _, arr (upd_step (upd_step (upd_step (upd_step (upd_step (upd_step (upd_step (upd_step (upd_step rfl rfl) rfl) rfl) rfl) rfl) rfl) rfl) rfl) rfl), h⟩
                  · obtain ⟨w130, hw130, h⟩ := dr_open h
                    refine wp_drawn 29 mixed rfl (by kernel_rfl) (by intro c a d v w h; cases d <;> exact h) hw130 (fun hD => ?_)
                    refine rp 0 260 hD rfl rfl rfl (fun _ => q_move (v := .int .i64 (d40)) rfl rfl) ?_
                    obtain ⟨a131, ha131, h⟩ := h
                    refine rp 1 261 hD rfl rfl rfl (fun _ => q_indexAddrA (b := a5) (i := d40) rfl Try.underlying58 ok34 rfl rfl ha131) ?_
                    refine rp 3 263 hD rfl rfl rfl (fun _ => q_move (v := .int .i64 ((IntKind.i64.wrap ((1 : Int) + (bits .and .i64 (IntKind.i64.wrap x41) (7 : Int)))))) rfl rfl) ?_
                    refine rp 4 264 hD rfl rfl rfl (fun _ => q_move (v := .int .i64 ((IntKind.i64.wrap ((1 : Int) + (Int.tmod (IntKind.i64.wrap x42) (3 : Int)))))) rfl rfl) ?_
                    refine rp 5 265 hD rfl rfl rfl (fun _ => q_move (v := .pointer ((some a43))) rfl rfl) ?_
                    refine rp 6 266 hD rfl rfl rfl (fun _ => q_move (v := .int .i64 ((IntKind.i64.wrap ((1 : Int) + (Int.tmod (IntKind.i64.wrap x42) (3 : Int)))))) rfl rfl) ?_
                    refine rp 7 267 hD rfl rfl rfl (fun _ => q_nilCheck (a := a43) rfl rfl) ?_
                    refine rp 8 268 hD rfl rfl rfl (fun _ => q_fieldAddr (a := a43) (off := 14) rfl Try.underlying64 rfl rfl ok62 (by decide) rfl) ?_
                    obtain ⟨a132, ha132, h⟩ := h
                    refine rp 9 269 hD rfl rfl rfl (fun _ => q_indexAddrA (b := (a43.add 14)) (i := (IntKind.i64.wrap ((1 : Int) + (Int.tmod (IntKind.i64.wrap x42) (3 : Int))))) rfl Try.underlying62 ok9 rfl rfl ha132) ?_
                    obtain ⟨x133, hx133, h⟩ := h
                    refine rd_read (i := 2) (d := (some 262)) (fun W => (RdAt tPtr a131 W) x133) hD (by kernel_rfl) (by kernel_rfl) rfl (.free rfl) rfl (fun W hr => q_load (T := tPtr) (u := x133) (a := a131) rfl ok34 rfl hr) hx133 ?_
                    obtain ⟨x134, hx134, h⟩ := h
                    refine rd_read (i := 10) (d := (some 270)) (fun W => (RdAt tStr a132 W) x134) hD (by kernel_rfl) (by kernel_rfl) rfl (.free rfl) rfl (fun W hr => q_load (T := tStr) (u := x134) (a := a132) rfl ok9 rfl hr) hx134 ?_
                    refine rd_one (i := 11) (by kernel_rfl) ?_
                    refine po_wp rfl (.free rfl) (wp_cl (d := (some 271)) rfl (q_call (k := 16) (l := [.pointer (x133), .int .i64 ((IntKind.i64.wrap ((1 : Int) + (bits .and .i64 (IntKind.i64.wrap x41) (7 : Int))))), .int .i64 ((IntKind.i64.wrap ((1 : Int) + (Int.tmod (IntKind.i64.wrap x42) (3 : Int))))), .string ⟨(x134).toArray⟩]) rfl ent16 rfl) h ?_)
                    intro r136 w135 h
                    refine ⟨(hk_wait (by kernel_rfl) (hk_wait (by kernel_rfl) hk_nil)), ?_⟩
                    refine rp 12 272 hD rfl rfl rfl (fun _ => q_neq (a := r136) (b := (0 : Int)) rfl rfl rfl) ?_
                    refine rp 13 273 hD rfl rfl rfl (fun _ => q_move (v := .bool ((r136 != (0 : Int)))) rfl rfl) ?_
                    refine rd_gpure (i := 14) (g := (!(r136 != (0 : Int)))) (d := (some 274)) hD (by kernel_rfl) (by kernel_rfl) rfl (.no 13 273 true (r136 != (0 : Int)) rfl rfl rfl rfl) rfl (fun hg _ => q_fieldAddr (a := a35) (off := 4) rfl Try.underlying69 rfl rfl ok3 (by decide) rfl) ?_
                    obtain ⟨x137, hx137, h⟩ := h
                    refine rd_gread (i := 15) (g := (!(r136 != (0 : Int)))) (d := (some 275)) (fun W => (RdAt (tInt .i64) (a35.add 4) W) x137) hD (by kernel_rfl) (by kernel_rfl) rfl (.no 13 273 true (r136 != (0 : Int)) rfl rfl rfl rfl) rfl (fun hg W hr => q_load (T := (tInt .i64)) (u := x137) (a := (a35.add 4)) rfl ok3 (gvb_yes hg) hr) hx137 ?_
                    refine rd_gpure (i := 16) (g := (!(r136 != (0 : Int)))) (d := (some 276)) hD (by kernel_rfl) (by kernel_rfl) rfl (.no 13 273 true (r136 != (0 : Int)) rfl rfl rfl rfl) rfl (fun hg _ => q_and (a := x137) (b := (1 : Int)) rfl (gvb_yes hg) rfl) ?_
                    refine rd_gpure (i := 17) (g := (!(r136 != (0 : Int)))) (d := (some 277)) hD (by kernel_rfl) (by kernel_rfl) rfl (.no 13 273 true (r136 != (0 : Int)) rfl rfl rfl rfl) rfl (fun hg _ => q_eql (a := (bits .and .i64 x137 (1 : Int))) (b := (1 : Int)) rfl (gvb_yes hg) rfl) ?_
                    refine rp 18 278 hD rfl rfl rfl (fun _ => q_pickGF (a := (r136 != (0 : Int))) (c := ((bits .and .i64 x137 (1 : Int)) == (1 : Int))) rfl rfl rfl rfl) ?_
                    refine rp 19 279 hD rfl rfl rfl (fun _ => q_move (v := .bool (((r136 != (0 : Int)) || ((bits .and .i64 x137 (1 : Int)) == (1 : Int))))) rfl rfl) ?_
                    refine ro_if (b := ((r136 != (0 : Int)) || ((bits .and .i64 x137 (1 : Int)) == (1 : Int)))) h (fun hb138 h => ?_) (fun hb138 h => ?_)
                    · refine rd_bar (i := 20) (d := (some 280)) hD (by kernel_rfl) (by kernel_rfl) rfl (.by_ 19 false 279 ((r136 != (0 : Int)) || ((bits .and .i64 x137 (1 : Int)) == (1 : Int))) rfl rfl rfl hb138) rfl ?_
                      refine rd_bar (i := 21) (d := (some 281)) hD (by kernel_rfl) (by kernel_rfl) rfl (.by_ 19 false 279 ((r136 != (0 : Int)) || ((bits .and .i64 x137 (1 : Int)) == (1 : Int))) rfl rfl rfl hb138) rfl ?_
                      refine rd_bar (i := 22) (d := (some 282)) hD (by kernel_rfl) (by kernel_rfl) rfl (.by_ 19 false 279 ((r136 != (0 : Int)) || ((bits .and .i64 x137 (1 : Int)) == (1 : Int))) rfl rfl rfl hb138) rfl ?_
                      refine rd_bar (i := 23) (d := (some 283)) hD (by kernel_rfl) (by kernel_rfl) rfl (.by_ 19 false 279 ((r136 != (0 : Int)) || ((bits .and .i64 x137 (1 : Int)) == (1 : Int))) rfl rfl rfl hb138) rfl ?_
                      refine rd_bar (i := 24) (d := (some 284)) hD (by kernel_rfl) (by kernel_rfl) rfl (.by_ 19 false 279 ((r136 != (0 : Int)) || ((bits .and .i64 x137 (1 : Int)) == (1 : Int))) rfl rfl rfl hb138) rfl ?_
                      refine rd_bar (i := 25) (d := (some 285)) hD (by kernel_rfl) (by kernel_rfl) rfl (.by_ 19 false 279 ((r136 != (0 : Int)) || ((bits .and .i64 x137 (1 : Int)) == (1 : Int))) rfl rfl rfl hb138) rfl ?_
                      refine rd_one (i := 26) (by kernel_rfl) ?_
                      refine po_bar (d := (some 286)) rfl (.by_ 19 false 279 ((r136 != (0 : Int)) || ((bits .and .i64 x137 (1 : Int)) == (1 : Int))) rfl rfl rfl hb138) rfl ⟨fun _ _ _ h => h, ?_⟩
                      refine rd_bar (i := 27) (d := (some 287)) hD (by kernel_rfl) (by kernel_rfl) rfl (.by_ 19 false 279 ((r136 != (0 : Int)) || ((bits .and .i64 x137 (1 : Int)) == (1 : Int))) rfl rfl rfl hb138) rfl ?_
                      refine rp 28 288 hD rfl rfl rfl (fun _ => q_pickT (v := .bool (true)) (b := ((r136 != (0 : Int)) || ((bits .and .i64 x137 (1 : Int)) == (1 : Int)))) rfl rfl hb138 rfl) ?_
                      refine rd_nil (by kernel_rfl) ?_
                      exact ⟨(true), _, arr (upd_step (upd_step (upd_step (upd_step (upd_step (upd_step (upd_step (upd_step (upd_step (upd_step (upd_step (upd_step (upd_step (upd_step rfl rfl) rfl) rfl) rfl) rfl) rfl) rfl) rfl) rfl) rfl) rfl) rfl) rfl) rfl), h⟩
                    · refine rd_pure (i := 20) (d := (some 280)) hD (by kernel_rfl) (by kernel_rfl) rfl (.by_ 19 false 279 ((r136 != (0 : Int)) || ((bits .and .i64 x137 (1 : Int)) == (1 : Int))) rfl rfl rfl hb138) rfl (fun _ => q_move (v := .int .i64 (d40)) rfl rfl) ?_
                      obtain ⟨a139, ha139, h⟩ := h
                      refine rd_pure (i := 21) (d := (some 281)) hD (by kernel_rfl) (by kernel_rfl) rfl (.by_ 19 false 279 ((r136 != (0 : Int)) || ((bits .and .i64 x137 (1 : Int)) == (1 : Int))) rfl rfl rfl hb138) rfl (fun _ => q_indexAddrA (b := a5) (i := d40) rfl Try.underlying58 ok34 rfl rfl ha139) ?_
                      obtain ⟨x140, hx140, h⟩ := h
                      refine rd_read (i := 22) (d := (some 282)) (fun W => (RdAt tPtr a139 W) x140) hD (by kernel_rfl) (by kernel_rfl) rfl (.by_ 19 false 279 ((r136 != (0 : Int)) || ((bits .and .i64 x137 (1 : Int)) == (1 : Int))) rfl rfl rfl hb138) rfl (fun W hr => q_load (T := tPtr) (u := x140) (a := a139) rfl ok34 rfl hr) hx140 ?_
                      obtain ⟨a141, ha141, h⟩ := h
                      refine rd_pure (i := 23) (d := (some 283)) hD (by kernel_rfl) (by kernel_rfl) rfl (.by_ 19 false 279 ((r136 != (0 : Int)) || ((bits .and .i64 x137 (1 : Int)) == (1 : Int))) rfl rfl rfl hb138) rfl (fun _ => q_nilCheck (a := a141) rfl (congrArg Value.pointer ha141)) ?_
                      refine rd_pure (i := 24) (d := (some 284)) hD (by kernel_rfl) (by kernel_rfl) rfl (.by_ 19 false 279 ((r136 != (0 : Int)) || ((bits .and .i64 x137 (1 : Int)) == (1 : Int))) rfl rfl rfl hb138) rfl (fun _ => q_fieldAddr (a := a141) (off := 0) rfl Try.underlying53 rfl rfl ok50 (by decide) rfl) ?_
                      obtain ⟨x142, hx142, h⟩ := h
                      refine rd_read (i := 25) (d := (some 285)) (fun W => (RdAt tPtr (a141.add 0) W) x142) hD (by kernel_rfl) (by kernel_rfl) rfl (.by_ 19 false 279 ((r136 != (0 : Int)) || ((bits .and .i64 x137 (1 : Int)) == (1 : Int))) rfl rfl rfl hb138) rfl (fun W hr => q_load (T := tPtr) (u := x142) (a := (a141.add 0)) rfl ok50 rfl hr) hx142 ?_
                      refine rd_one (i := 26) (by kernel_rfl) ?_
                      refine po_wp rfl (.by_ 19 false 279 ((r136 != (0 : Int)) || ((bits .and .i64 x137 (1 : Int)) == (1 : Int))) rfl rfl rfl hb138) (wp_cl (d := (some 286)) rfl (q_call (k := 18) (l := [.pointer (x142)]) rfl ent18 rfl) h ?_)
                      intro r144 w143 h
                      obtain ⟨hk145, h⟩ := h
                      obtain ⟨hk146, h⟩ := h
                      obtain ⟨hk147, h⟩ := h
                      obtain ⟨hk148, h⟩ := h
                      refine ⟨(hk_wait (by kernel_rfl) (hk_keep (fun _ => hk148) (hk_keep (fun _ => hk147) (hk_keep (fun _ => hk146) (hk_keep (fun _ => hk145) hk_nil))))), ?_⟩
                      refine rd_pure (i := 27) (d := (some 287)) hD (by kernel_rfl) (by kernel_rfl) rfl (.by_ 19 false 279 ((r136 != (0 : Int)) || ((bits .and .i64 x137 (1 : Int)) == (1 : Int))) rfl rfl rfl hb138) rfl (fun _ => q_neq (a := r144) (b := (0 : Int)) rfl rfl rfl) ?_
                      refine rp 28 288 hD rfl rfl rfl (fun _ => q_pickF (v := .bool ((r144 != (0 : Int)))) (b := ((r136 != (0 : Int)) || ((bits .and .i64 x137 (1 : Int)) == (1 : Int)))) rfl rfl hb138 rfl) ?_
                      refine rd_nil (by kernel_rfl) ?_
                      exact ⟨((r144 != (0 : Int))), _, arr (upd_step (upd_step (upd_step (upd_step (upd_step (upd_step (upd_step (upd_step (upd_step (upd_step (upd_step (upd_step (upd_step (upd_step rfl rfl) rfl) rfl) rfl) rfl) rfl) rfl) rfl) rfl) rfl) rfl) rfl) rfl) rfl), h⟩
                · refine wp_seq ?_
                  refine wp_text [0, 1, 2, 3, 4, 5, 6] rfl ?_
                  refine rv 183 rfl rfl rfl (q_move (v := .pointer ((some a43))) rfl rfl) ?_
                  refine rv 184 rfl rfl rfl (q_move (v := .int .i64 ((IntKind.i64.wrap ((1 : Int) + (Int.tmod (IntKind.i64.wrap x42) (3 : Int)))))) rfl rfl) ?_
                  refine rv 185 rfl rfl rfl (q_nilCheck (a := a43) rfl rfl) ?_
                  refine rv 186 rfl rfl rfl (q_fieldAddr (a := a43) (off := 10) rfl Try.underlying64 rfl rfl ok61 (by decide) rfl) ?_
                  obtain ⟨a149, ha149, h⟩ := h
                  refine rv 187 rfl rfl rfl (q_indexAddrA (b := (a43.add 10)) (i := (IntKind.i64.wrap ((1 : Int) + (Int.tmod (IntKind.i64.wrap x42) (3 : Int))))) rfl Try.underlying61 ok4 rfl rfl ha149) ?_
                  obtain ⟨x150, hx150, h⟩ := h
                  refine rv 188 rfl rfl rfl (q_load (T := tBool) (u := x150) (a := a149) rfl ok4 rfl hx150) ?_
                  refine rv 189 rfl rfl rfl (q_not (b := x150) rfl rfl) ?_
                  refine ro_nil ?_
                  refine wp_if (b := (!x150)) rfl h (fun hb193 h => ?_) (fun hb193 h => ?_)
                  · refine wp_seq ?_
                    obtain ⟨w151, hw151, h⟩ := dr_open h
                    refine wp_drawn 22 mixed rfl (by kernel_rfl) (by intro c a d v w h; cases d <;> exact h) hw151 (fun hD => ?_)
                    refine rp 0 190 hD rfl rfl rfl (fun _ => q_move (v := .pointer ((some a43))) rfl rfl) ?_
                    refine rp 1 191 hD rfl rfl rfl (fun _ => q_move (v := .int .i64 ((IntKind.i64.wrap ((1 : Int) + (Int.tmod (IntKind.i64.wrap x42) (3 : Int)))))) rfl rfl) ?_
                    refine rp 2 192 hD rfl rfl rfl (fun _ => q_move (v := .pointer ((some a43))) rfl rfl) ?_
                    refine rp 3 193 hD rfl rfl rfl (fun _ => q_move (v := .int .i64 ((IntKind.i64.wrap ((1 : Int) + (Int.tmod (IntKind.i64.wrap x42) (3 : Int)))))) rfl rfl) ?_
                    refine rp 4 194 hD rfl rfl rfl (fun _ => q_move (v := .int .i64 ((IntKind.i64.wrap ((1 : Int) + (bits .and .i64 (IntKind.i64.wrap x41) (7 : Int)))))) rfl rfl) ?_
                    refine rp 5 195 hD rfl rfl rfl (fun _ => q_cvtI (a := (IntKind.i64.wrap ((1 : Int) + (bits .and .i64 (IntKind.i64.wrap x41) (7 : Int))))) rfl Try.underlying3 Try.underlying5 rfl) ?_
                    refine rp 6 196 hD rfl rfl rfl (fun _ => q_add (a := (48 : Int)) (b := (IntKind.u8.wrap (IntKind.i64.wrap ((1 : Int) + (bits .and .i64 (IntKind.i64.wrap x41) (7 : Int)))))) rfl rfl rfl) ?_
                    refine rp 7 197 hD rfl rfl rfl (fun _ => q_move (v := .int .i64 (i_27)) rfl rfl) ?_
                    refine rp 8 198 hD rfl rfl rfl (fun _ => q_rem (a := i_27) (b := (10 : Int)) rfl rfl rfl (by decide)) ?_
                    refine rp 9 199 hD rfl rfl rfl (fun _ => q_cvtI (a := (Int.tmod i_27 (10 : Int))) rfl Try.underlying3 Try.underlying5 rfl) ?_
                    refine rp 10 200 hD rfl rfl rfl (fun _ => q_add (a := (48 : Int)) (b := (IntKind.u8.wrap (Int.tmod i_27 (10 : Int)))) rfl rfl rfl) ?_
                    refine rp 14 204 hD rfl rfl rfl (fun _ => q_nilCheck (a := a43) rfl rfl) ?_
                    refine rp 15 205 hD rfl rfl rfl (fun _ => q_fieldAddr (a := a43) (off := 10) rfl Try.underlying64 rfl rfl ok61 (by decide) rfl) ?_
                    refine rp 18 207 hD rfl rfl rfl (fun _ => q_nilCheck (a := a43) rfl rfl) ?_
                    refine rp 19 208 hD rfl rfl rfl (fun _ => q_fieldAddr (a := a43) (off := 14) rfl Try.underlying64 rfl rfl ok62 (by decide) rfl) ?_
                    refine rd_one (i := 11) (by kernel_rfl) ?_
                    obtain ⟨a152, w153, ha152, hw153, h⟩ := nwS_open h
                    refine po_val (d := (some 201)) rfl (.free rfl) rfl (q_rowOf (T := (tInt .u8)) (xs := [(IntKind.u8.wrap ((48 : Int) + (IntKind.u8.wrap (IntKind.i64.wrap ((1 : Int) + (bits .and .i64 (IntKind.i64.wrap x41) (7 : Int))))))), (32 : Int), (IntKind.u8.wrap ((48 : Int) + (IntKind.u8.wrap (Int.tmod i_27 (10 : Int)))))]) rfl Try.underlying72 ok5 inf5 rfl (by decide) (by decide) rfl ha152 hw153) ⟨hk_nil, ?_⟩
                    obtain ⟨s154, hs154, h⟩ := h
                    refine rd_read (i := 12) (d := (some 202)) (fun W => (B2S (⟨some a152, 3, 3⟩ : Slc) W) s154) hD (by kernel_rfl) (by kernel_rfl) rfl (.free rfl) rfl (fun W hr => q_b2s (b := (⟨some a152, 3, 3⟩ : Slc)) (r := s154) rfl Try.underlying72 Try.underlying5 Try.underlying9 rfl hr) hs154 ?_
                    obtain ⟨s155, hs155, h⟩ := h
                    refine rp 13 203 hD rfl rfl rfl (fun _ => q_catS (a := ([118, 97, 108, 117, 101, 32] : List UInt8)) (b := s154) (r := s155) rfl rfl rfl hs155) ?_
                    obtain ⟨a156, ha156, h⟩ := h
                    refine rp 16 206 hD rfl rfl rfl (fun _ => q_indexAddrA (b := (a43.add 10)) (i := (IntKind.i64.wrap ((1 : Int) + (Int.tmod (IntKind.i64.wrap x42) (3 : Int))))) rfl Try.underlying61 ok4 rfl rfl ha156) ?_
                    refine rd_one (i := 17) (by kernel_rfl) ?_
                    obtain ⟨w157, hw157, hrw157, h⟩ := st_open h
                    refine po_skip (d := none) rfl (.free rfl) rfl (q_store (T := tBool) (u := true) (a := a156) rfl ok4 rfl rfl hrw157 hw157) ⟨(hk_wait (by kernel_rfl) hk_nil), ?_⟩
                    obtain ⟨a158, ha158, h⟩ := h
                    refine rp 20 209 hD rfl rfl rfl (fun _ => q_indexAddrA (b := (a43.add 14)) (i := (IntKind.i64.wrap ((1 : Int) + (Int.tmod (IntKind.i64.wrap x42) (3 : Int))))) rfl Try.underlying62 ok9 rfl rfl ha158) ?_
                    refine rd_one (i := 21) (by kernel_rfl) ?_
                    obtain ⟨w159, hw159, hrw159, h⟩ := st_open h
                    refine po_skip (d := none) rfl (.free rfl) rfl (q_store (T := tStr) (u := s155) (a := a158) rfl ok9 rfl rfl hrw159 hw159) ⟨(hk_wait (by kernel_rfl) hk_nil), ?_⟩
                    refine rd_nil (by kernel_rfl) ?_
                    refine wp_seq ?_
                    obtain ⟨w160, hw160, h⟩ := dr_open h
                    refine wp_drawn 28 mixed rfl (by kernel_rfl) (by intro c a d v w h; cases d <;> exact h) hw160 (fun hD => ?_)
                    refine rp 0 210 hD rfl rfl rfl (fun _ => q_move (v := .pointer ((some a43))) rfl rfl) ?_
                    refine rp 1 211 hD rfl rfl rfl (fun _ => q_nilCheck (a := a43) rfl rfl) ?_
                    refine rp 2 212 hD rfl rfl rfl (fun _ => q_fieldAddr (a := a43) (off := 5) rfl Try.underlying64 rfl rfl ok60 (by decide) rfl) ?_
                    obtain ⟨a161, ha161, h⟩ := h
                    refine rp 3 213 hD rfl rfl rfl (fun _ => q_indexAddrA (b := (a43.add 5)) (i := (0 : Int)) rfl Try.underlying60 ok23 rfl rfl ha161) ?_
                    refine rp 5 215 hD rfl rfl rfl (fun _ => q_move (v := .pointer ((some a43))) rfl rfl) ?_
                    refine rp 6 216 hD rfl rfl rfl (fun _ => q_nilCheck (a := a43) rfl rfl) ?_
                    refine rp 7 217 hD rfl rfl rfl (fun _ => q_fieldAddr (a := a43) (off := 5) rfl Try.underlying64 rfl rfl ok60 (by decide) rfl) ?_
                    obtain ⟨a162, ha162, h⟩ := h
                    refine rp 8 218 hD rfl rfl rfl (fun _ => q_indexAddrA (b := (a43.add 5)) (i := (1 : Int)) rfl Try.underlying60 ok23 rfl rfl ha162) ?_
                    refine rp 10 220 hD rfl rfl rfl (fun _ => q_move (v := .pointer ((some a43))) rfl rfl) ?_
                    refine rp 11 221 hD rfl rfl rfl (fun _ => q_nilCheck (a := a43) rfl rfl) ?_
                    refine rp 12 222 hD rfl rfl rfl (fun _ => q_fieldAddr (a := a43) (off := 5) rfl Try.underlying64 rfl rfl ok60 (by decide) rfl) ?_
                    obtain ⟨a163, ha163, h⟩ := h
                    refine rp 13 223 hD rfl rfl rfl (fun _ => q_indexAddrA (b := (a43.add 5)) (i := (2 : Int)) rfl Try.underlying60 ok23 rfl rfl ha163) ?_
                    refine rp 15 225 hD rfl rfl rfl (fun _ => q_move (v := .pointer ((some a43))) rfl rfl) ?_
                    refine rp 16 226 hD rfl rfl rfl (fun _ => q_nilCheck (a := a43) rfl rfl) ?_
                    refine rp 17 227 hD rfl rfl rfl (fun _ => q_fieldAddr (a := a43) (off := 5) rfl Try.underlying64 rfl rfl ok60 (by decide) rfl) ?_
                    obtain ⟨a164, ha164, h⟩ := h
                    refine rp 18 228 hD rfl rfl rfl (fun _ => q_indexAddrA (b := (a43.add 5)) (i := (3 : Int)) rfl Try.underlying60 ok23 rfl rfl ha164) ?_
                    refine rp 20 230 hD rfl rfl rfl (fun _ => q_move (v := .pointer ((some a43))) rfl rfl) ?_
                    refine rp 21 231 hD rfl rfl rfl (fun _ => q_nilCheck (a := a43) rfl rfl) ?_
                    refine rp 22 232 hD rfl rfl rfl (fun _ => q_fieldAddr (a := a43) (off := 5) rfl Try.underlying64 rfl rfl ok60 (by decide) rfl) ?_
                    obtain ⟨a165, ha165, h⟩ := h
                    refine rp 23 233 hD rfl rfl rfl (fun _ => q_indexAddrA (b := (a43.add 5)) (i := (4 : Int)) rfl Try.underlying60 ok23 rfl rfl ha165) ?_
                    obtain ⟨x166, hx166, h⟩ := h
                    refine rd_read (i := 4) (d := (some 214)) (fun W => (RdAt tSlc a161 W) x166) hD (by kernel_rfl) (by kernel_rfl) rfl (.free rfl) rfl (fun W hr => q_load (T := tSlc) (u := x166) (a := a161) rfl ok23 rfl hr) hx166 ?_
                    obtain ⟨x167, hx167, h⟩ := h
                    refine rd_read (i := 9) (d := (some 219)) (fun W => (RdAt tSlc a162 W) x167) hD (by kernel_rfl) (by kernel_rfl) rfl (.free rfl) rfl (fun W hr => q_load (T := tSlc) (u := x167) (a := a162) rfl ok23 rfl hr) hx167 ?_
                    obtain ⟨x168, hx168, h⟩ := h
                    refine rd_read (i := 14) (d := (some 224)) (fun W => (RdAt tSlc a163 W) x168) hD (by kernel_rfl) (by kernel_rfl) rfl (.free rfl) rfl (fun W hr => q_load (T := tSlc) (u := x168) (a := a163) rfl ok23 rfl hr) hx168 ?_
                    obtain ⟨x169, hx169, h⟩ := h
                    refine rd_read (i := 19) (d := (some 229)) (fun W => (RdAt tSlc a164 W) x169) hD (by kernel_rfl) (by kernel_rfl) rfl (.free rfl) rfl (fun W hr => q_load (T := tSlc) (u := x169) (a := a164) rfl ok23 rfl hr) hx169 ?_
                    obtain ⟨x170, hx170, h⟩ := h
                    refine rd_read (i := 24) (d := (some 234)) (fun W => (RdAt tSlc a165 W) x170) hD (by kernel_rfl) (by kernel_rfl) rfl (.free rfl) rfl (fun W hr => q_load (T := tSlc) (u := x170) (a := a165) rfl ok23 rfl hr) hx170 ?_
                    refine rd_one (i := 25) (by kernel_rfl) ?_
                    obtain ⟨a171, w172, ha171, hw172, h⟩ := nwS_open h
                    refine po_val (d := (some 235)) rfl (.free rfl) rfl (q_rowOf (T := tSlc) (xs := [x166, x167, x168, x169, x170]) rfl Try.underlying22 ok23 inf23 rfl (by decide) (by decide) rfl ha171 hw172) ⟨(hk_wait (by kernel_rfl) (hk_wait (by kernel_rfl) (hk_wait (by kernel_rfl) (hk_wait (by kernel_rfl) (hk_wait (by kernel_rfl) hk_nil))))), ?_⟩
                    refine rd_one (i := 26) (by kernel_rfl) ?_
                    refine po_wp rfl (.free rfl) (wp_cl (d := (some 236)) rfl (q_call (k := 8) (l := [tSlc.enc ((⟨some a171, 5, 5⟩ : Slc))]) rfl ent8 rfl) h ?_)
                    intro r174 w173 h
                    obtain ⟨hk175, h⟩ := h
                    obtain ⟨hk176, h⟩ := h
                    obtain ⟨hk177, h⟩ := h
                    obtain ⟨hk178, h⟩ := h
                    obtain ⟨hk179, h⟩ := h
                    refine ⟨(hk_keep (fun _ => hk179) (hk_keep (fun _ => hk178) (hk_keep (fun _ => hk177) (hk_keep (fun _ => hk176) (hk_keep (fun _ => hk175) hk_nil))))), ?_⟩
                    refine rp 27 27 hD rfl rfl rfl (fun _ => q_assign (v := tSlc.enc (r174)) rfl rfl) ?_
                    refine rd_nil (by kernel_rfl) ?_
                    refine wp_seq ?_
                    refine wp_text [0] rfl ?_
                    refine rv 28 rfl rfl rfl (q_assign (v := .int .i64 ((0 : Int))) rfl rfl) ?_
                    refine ro_nil ?_
                    refine wp_block ?_
                    refine loop_at (σ := Int) (fr := fun g (s : Int) => upd (upd (upd (upd (upd (upd (upd (upd (upd (upd (upd (upd (upd (upd (upd (upd (g) 1 (tSlc.enc (l_2))) 5 (.int .i64 ((IntKind.i64.wrap ((1 : Int) + (Int.tmod (IntKind.i64.wrap size_1) (5 : Int))))))) 6 (.pointer (some a3))) 7 (.pointer (some a5))) 13 (.pointer (some a19))) 14 (.pointer (some a21))) 15 (.pointer (some a23))) 16 (.pointer (some a25))) 17 (.int .i64 (i_27))) 18 (.pointer (some a35))) 19 (.int .i64 (d40))) 20 (.int .i64 ((IntKind.i64.wrap ((1 : Int) + (bits .and .i64 (IntKind.i64.wrap x41) (7 : Int))))))) 21 (.int .i64 ((IntKind.i64.wrap ((1 : Int) + (Int.tmod (IntKind.i64.wrap x42) (3 : Int))))))) 22 (.pointer ((some a43)))) 27 (tSlc.enc (r174))) 28 (.int .i64 (s))) (s0 := ((0 : Int))) (upd_step (upd_step (upd_step (upd_step (upd_step (upd_step (upd_step (upd_step (upd_step (upd_step (upd_step (upd_step (upd_step (upd_step (upd_step (upd_step rfl rfl) rfl) rfl) rfl) rfl) rfl) rfl) rfl) rfl) rfl) rfl) rfl) rfl) rfl) rfl) rfl) h ?_
                    rintro j_180 g w181 K182 h
                    unfold F6_l11 at h
                    refine wp_seq ?_
                    refine wp_seq ?_
                    refine wp_text [0, 1, 2, 3] rfl ?_
                    refine rv 237 rfl rfl rfl (q_move (v := .int .i64 (j_180)) rfl rfl) ?_
                    refine rv 238 rfl rfl rfl (q_move (v := tSlc.enc (r174)) rfl rfl) ?_
                    refine rv 239 rfl rfl rfl (q_len (s := r174) rfl Try.underlying23 rfl) ?_
                    refine rv 240 rfl rfl rfl (q_lss (a := j_180) (b := (r174.len : Int)) rfl rfl rfl) ?_
                    refine ro_nil ?_
                    refine wp_if (b := (decide (j_180 < (r174.len : Int)))) rfl h (fun hb192 h => ?_) (fun hb192 h => ?_)
                    · refine wp_skip ?_
                      refine seq_join (σ := Unit) (J := fun (s : Unit) w => F6_j12 j_180 w K182 R) (fr := fun g (s : Unit) => upd (upd (upd (upd (upd (upd (upd (upd (upd (upd (upd (upd (upd (upd (upd (upd (g) 1 (tSlc.enc (l_2))) 5 (.int .i64 ((IntKind.i64.wrap ((1 : Int) + (Int.tmod (IntKind.i64.wrap size_1) (5 : Int))))))) 6 (.pointer (some a3))) 7 (.pointer (some a5))) 13 (.pointer (some a19))) 14 (.pointer (some a21))) 15 (.pointer (some a23))) 16 (.pointer (some a25))) 17 (.int .i64 (i_27))) 18 (.pointer (some a35))) 19 (.int .i64 (d40))) 20 (.int .i64 ((IntKind.i64.wrap ((1 : Int) + (bits .and .i64 (IntKind.i64.wrap x41) (7 : Int))))))) 21 (.int .i64 ((IntKind.i64.wrap ((1 : Int) + (Int.tmod (IntKind.i64.wrap x42) (3 : Int))))))) 22 (.pointer ((some a43)))) 27 (tSlc.enc (r174))) 28 (.int .i64 (j_180))) ?_ ?_
                      · rintro ⟨⟩ g w183 h
                        unfold F6_j12 at h
                        refine wp_text [0, 1, 2] rfl ?_
                        refine rv 241 rfl rfl rfl (q_move (v := .int .i64 (j_180)) rfl rfl) ?_
                        refine rv 242 rfl rfl rfl (q_add (a := j_180) (b := (1 : Int)) rfl rfl rfl) ?_
                        refine rv 28 rfl rfl rfl (q_assign (v := .int .i64 ((IntKind.i64.wrap (j_180 + (1 : Int))))) rfl rfl) ?_
                        refine ro_nil ?_
                        exact ⟨((IntKind.i64.wrap (j_180 + (1 : Int)))), _, arr (upd_step (upd_step (upd_step (upd_step (upd_step (upd_step (upd_step (upd_step (upd_step (upd_step (upd_step (upd_step (upd_step (upd_step (upd_step (upd_step rfl rfl) rfl) rfl) rfl) rfl) rfl) rfl) rfl) rfl) rfl) rfl) rfl) rfl) rfl) rfl) rfl), h⟩
                      · refine wp_block ?_
                        refine wp_seq ?_
                        refine wp_text [0, 1, 2, 3, 4, 5, 6] rfl ?_
                        refine rv 243 rfl rfl rfl (q_move (v := tSlc.enc (r174)) rfl rfl) ?_
                        refine rv 244 rfl rfl rfl (q_move (v := .int .i64 (j_180)) rfl rfl) ?_
                        obtain ⟨a184, ha184, h⟩ := h
                        refine rv 245 rfl rfl rfl (q_indexAddr (s := r174) (i := j_180) rfl Try.underlying23 ok47 rfl rfl ha184) ?_
                        refine rv 246 rfl rfl rfl (q_fieldAddr (a := a184) (off := 0) rfl Try.underlying47 rfl rfl ok3 (by decide) rfl) ?_
                        obtain ⟨x185, hx185, h⟩ := h
                        refine rv 247 rfl rfl rfl (q_load (T := (tInt .i64)) (u := x185) (a := (a184.add 0)) rfl ok3 rfl hx185) ?_
                        refine rv 248 rfl rfl rfl (q_move (v := .int .i64 ((IntKind.i64.wrap ((1 : Int) + (Int.tmod (IntKind.i64.wrap x42) (3 : Int)))))) rfl rfl) ?_
                        refine rv 249 rfl rfl rfl (q_eql (a := x185) (b := (IntKind.i64.wrap ((1 : Int) + (Int.tmod (IntKind.i64.wrap x42) (3 : Int))))) rfl rfl rfl) ?_
                        refine ro_nil ?_
                        refine wp_if (b := (x185 == (IntKind.i64.wrap ((1 : Int) + (Int.tmod (IntKind.i64.wrap x42) (3 : Int)))))) rfl h (fun hb191 h => ?_) (fun hb191 h => ?_)
                        · obtain ⟨w186, hw186, h⟩ := dr_open h
                          refine wp_drawn 11 mixed rfl (by kernel_rfl) (by intro c a d v w h; cases d <;> exact h) hw186 (fun hD => ?_)
                          refine rp 0 250 hD rfl rfl rfl (fun _ => q_move (v := .pointer ((some a43))) rfl rfl) ?_
                          refine rp 1 251 hD rfl rfl rfl (fun _ => q_move (v := .int .i64 ((IntKind.i64.wrap ((1 : Int) + (Int.tmod (IntKind.i64.wrap x42) (3 : Int)))))) rfl rfl) ?_
                          refine rp 2 252 hD rfl rfl rfl (fun _ => q_move (v := tSlc.enc (r174)) rfl rfl) ?_
                          refine rp 3 253 hD rfl rfl rfl (fun _ => q_move (v := .int .i64 (j_180)) rfl rfl) ?_
                          obtain ⟨a187, ha187, h⟩ := h
                          refine rp 4 254 hD rfl rfl rfl (fun _ => q_indexAddr (s := r174) (i := j_180) rfl Try.underlying23 ok47 rfl rfl ha187) ?_
                          refine rp 5 255 hD rfl rfl rfl (fun _ => q_fieldAddr (a := a187) (off := 2) rfl Try.underlying47 rfl rfl ok9 (by decide) rfl) ?_
                          refine rp 7 257 hD rfl rfl rfl (fun _ => q_nilCheck (a := a43) rfl rfl) ?_
                          refine rp 8 258 hD rfl rfl rfl (fun _ => q_fieldAddr (a := a43) (off := 14) rfl Try.underlying64 rfl rfl ok62 (by decide) rfl) ?_
                          obtain ⟨x188, hx188, h⟩ := h
                          refine rd_read (i := 6) (d := (some 256)) (fun W => (RdAt tStr (a187.add 2) W) x188) hD (by kernel_rfl) (by kernel_rfl) rfl (.free rfl) rfl (fun W hr => q_load (T := tStr) (u := x188) (a := (a187.add 2)) rfl ok9 rfl hr) hx188 ?_
                          obtain ⟨a189, ha189, h⟩ := h
                          refine rp 9 259 hD rfl rfl rfl (fun _ => q_indexAddrA (b := (a43.add 14)) (i := (IntKind.i64.wrap ((1 : Int) + (Int.tmod (IntKind.i64.wrap x42) (3 : Int))))) rfl Try.underlying62 ok9 rfl rfl ha189) ?_
                          refine rd_one (i := 10) (by kernel_rfl) ?_
                          obtain ⟨w190, hw190, hrw190, h⟩ := st_open h
                          refine po_skip (d := none) rfl (.free rfl) rfl (q_store (T := tStr) (u := x188) (a := a189) rfl ok9 rfl rfl hrw190 hw190) ⟨(hk_wait (by kernel_rfl) hk_nil), ?_⟩
                          refine rd_nil (by kernel_rfl) ?_
                          exact ⟨(), _, arr (upd_step (upd_step (upd_step (upd_step (upd_step (upd_step (upd_step (upd_step (upd_step (upd_step (upd_step (upd_step (upd_step (upd_step (upd_step (upd_step rfl rfl) rfl) rfl) rfl) rfl) rfl) rfl) rfl) rfl) rfl) rfl) rfl) rfl) rfl) rfl) rfl), h⟩
                        · refine wp_skip ?_
                          exact ⟨(), _, arr (upd_step (upd_step (upd_step (upd_step (upd_step (upd_step (upd_step (upd_step (upd_step (upd_step (upd_step (upd_step (upd_step (upd_step (upd_step (upd_step rfl rfl) rfl) rfl) rfl) rfl) rfl) rfl) rfl) rfl) rfl) rfl) rfl) rfl) rfl) rfl) rfl), h⟩
                    · refine wp_exit ?_
                      exact ⟨(), _, arr (upd_step (upd_step (upd_step (upd_step (upd_step (upd_step (upd_step (upd_step (upd_step (upd_step (upd_step (upd_step (upd_step (upd_step rfl rfl) rfl) rfl) rfl) rfl) rfl) rfl) rfl) rfl) rfl) rfl) rfl) rfl) rfl), h⟩
                  · refine wp_skip ?_
                    exact ⟨(), _, arr (upd_step (upd_step (upd_step (upd_step (upd_step (upd_step (upd_step (upd_step (upd_step (upd_step (upd_step (upd_step (upd_step (upd_step rfl rfl) rfl) rfl) rfl) rfl) rfl) rfl) rfl) rfl) rfl) rfl) rfl) rfl) rfl), h⟩
      · refine wp_exit ?_
        refine wp_seq ?_
        refine wp_text [0, 1] rfl ?_
        refine ro_wp rfl (.free rfl) (wp_cl (d := (some 338)) rfl (q_call (k := 7) (l := []) rfl ent7 rfl) h ?_)
        intro r198 w197 h
        refine rv 4 rfl rfl rfl (q_assign (v := .bool (r198)) rfl rfl) ?_
        refine ro_nil ?_
        refine wp_ret ?_
        exact ret_ok rfl (.cons (.tmp (v := .bool (r198)) rfl) .nil) ⟨r198, rfl, h⟩
    · refine ro_if (b := ((decide (i_27 < (l_2.len : Int))) && (decide (i_27 < (80 : Int))))) h (fun hb200 h => ?_) (fun hb200 h => ?_)
      · refine ro_wp rfl (.by_ 8 true 73 ((decide (i_27 < (l_2.len : Int))) && (decide (i_27 < (80 : Int)))) rfl rfl rfl hb200) (wp_cl (d := (some 74)) rfl (q_call (k := 7) (l := []) rfl ent7 rfl) h ?_)
        intro r202 w201 h
        refine rv 75 rfl rfl rfl (q_pickT (v := .bool (r202)) (b := ((decide (i_27 < (l_2.len : Int))) && (decide (i_27 < (80 : Int))))) rfl rfl hb200 rfl) ?_
        refine ro_nil ?_
        exact ⟨(r202), _, arr (upd_step (upd_step (upd_step (upd_step (upd_step (upd_step (upd_step (upd_step (upd_step (upd_step rfl rfl) rfl) rfl) rfl) rfl) rfl) rfl) rfl) rfl) rfl), h⟩
      · refine ro_bar (d := (some 74)) rfl (.by_ 8 true 73 ((decide (i_27 < (l_2.len : Int))) && (decide (i_27 < (80 : Int)))) rfl rfl rfl hb200) rfl ?_
        refine rv 75 rfl rfl rfl (q_pickF (v := .bool (false)) (b := ((decide (i_27 < (l_2.len : Int))) && (decide (i_27 < (80 : Int))))) rfl rfl hb200 rfl) ?_
        refine ro_nil ?_
        exact ⟨(false), _, arr (upd_step (upd_step (upd_step (upd_step (upd_step (upd_step (upd_step (upd_step (upd_step (upd_step rfl rfl) rfl) rfl) rfl) rfl) rfl) rfl) rfl) rfl) rfl), h⟩

end Go.Proofs.Ytjkmeooncmhonaa.Cf
