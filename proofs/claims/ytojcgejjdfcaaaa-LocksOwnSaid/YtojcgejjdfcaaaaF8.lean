/- Characteristic formulae of Go functions, and that they are. Printed by gen.py (own tool). -/
import Derived.Test.YtojcgejjdfcaaaaTy
namespace Go.Proofs.Ytojcgejjdfcaaaa.Cf
open Go
set_option maxRecDepth 100000
set_option maxHeartbeats 1000000
set_option linter.unusedVariables false
set_option linter.unusedSimpArgs false

-- moiety/moietyref13.Ask
def F12_j3 (i_48 : Int) (w52 : World) (K50 : Int → World → Prop) (R : (S27 × S33 × Int) → World → Prop) : Prop :=
  K50 ((IntKind.i64.wrap (i_48 + (1 : Int)))) w52
def F12_j4 (a45 : Addr) (i_48 : Int) (a56 : Addr) (t_69 : Bool) (w70 : World) (K50 : Int → World → Prop) (R : (S27 × S33 × Int) → World → Prop) : Prop :=
  if t_69 = true then (
    ex (RdAt tSlc (a45.add 1) w70) fun x71 =>
    ex (RdAt (tInt .i64) (a56.add 0) w70) fun x72 =>
    apl 3 (tInt .i64) 1 8 x71 [x72] w70 fun r76 w75 =>
    st tSlc (a45.add 1) r76 w75 fun w77 =>
    F12_j3 i_48 w77 K50 R
  ) else (
    F12_j3 i_48 w70 K50 R
  )
def F12_j6 (t_86 : Int) (w89 : World) (K88 : Int → World → Prop) (R : (S27 × S33 × Int) → World → Prop) : Prop :=
  K88 ((IntKind.i64.wrap (t_86 + (1 : Int)))) w89
def F12_j8 (i_391 : Int) (w394 : World) (K393 : Int → World → Prop) (R : (S27 × S33 × Int) → World → Prop) : Prop :=
  K393 ((IntKind.i64.wrap (i_391 + (1 : Int)))) w394
def F12_l7 (tx_2 : Int) (a5 : Addr) (a7 : Addr) (a9 : Addr) (a45 : Addr) (r389 : (S27 × Slc)) (i_391 : Int) (w392 : World) (K393 : Int → World → Prop) (R : (S27 × S33 × Int) → World → Prop) : Prop :=
  if (decide (i_391 < (r389.2.len : Int))) = true then (
    ex (IxA r389.2 2 i_391) fun a395 =>
    ex (RdAt (tInt .i64) (a395.add 0) w392) fun x396 =>
    if (x396 == tx_2) = true then (
      st tBool (a45.add 0) true w392 fun w397 =>
      F12_j8 i_391 w397 K393 R
    ) else (
      dr w392 fun w398 =>
      ex (IxA r389.2 2 i_391) fun a399 =>
      ex (RdAt tSlc (a45.add 2) w398) fun x400 =>
      ex (RdAt T55 a399 w398) fun x401 =>
      apl 56 T55 2 16 x400 [x401] w398 fun r405 w404 =>
      kp ((RdAt T55 a399 w404) x401) <|
      st tSlc (a45.add 2) r405 w404 fun w407 =>
      F12_j8 i_391 w407 K393 R
    )
  ) else (
    dr w392 fun w409 =>
    ex (RdAt T27 a5 w409) fun x410 =>
    ex (RdAt T33 a45 w409) fun x411 =>
    st T27 a7 x410 w409 fun w412 =>
    kp ((RdAt T33 a45 w412) x411) <|
    st T33 a9 x411 w412 fun w414 =>
    ex (RdAt T27 a7 w414) fun x415 =>
    ex (RdAt T33 a9 w414) fun x416 =>
    R (x415, x416, (0 : Int)) w414
  )
def F12_l5 (tx_2 : Int) (a5 : Addr) (a7 : Addr) (a9 : Addr) (a42 : Addr) (a45 : Addr) (x85 : Slc) (t_86 : Int) (w87 : World) (K88 : Int → World → Prop) (R : (S27 × S33 × Int) → World → Prop) : Prop :=
  if (decide (t_86 < (x85.len : Int))) = true then (
    ex (IxA x85 1 t_86) fun a90 =>
    ex (RdAt (tInt .i64) a90 w87) fun x91 =>
    dr w87 fun w92 =>
    ex (RdAt tSlc (a5.add 0) w92) fun x93 =>
    ex (RdAt tSlc (a5.add 1) w92) fun x94 =>
    ex (RdAt tSlc (a5.add 2) w92) fun x95 =>
    bth (
      cl Try.prog 31 [tSlc.enc (x93), .int .i64 (x91)] tSlc w92 fun r97 w96 =>
      kp ((RdAt tSlc (a5.add 1) w96) x94) <|
      kp ((RdAt tSlc (a5.add 2) w96) x95) <|
      bth (
        cl Try.prog 31 [tSlc.enc (x94), .int .i64 (x91)] tSlc w96 fun r101 w100 =>
        kp ((RdAt tSlc (a5.add 0) w100) x93) <|
        kp ((RdAt tSlc (a5.add 2) w100) x95) <|
        bth (
          nwS 3 (tInt .i64) ([] : List Int) w100 fun a104 w105 =>
          bth (
            apd 3 (tInt .i64) 1 8 (⟨some a104, 0, 0⟩ : Slc) x95 w105 fun r107 w106 =>
            kp ((RdAt tSlc (a5.add 0) w106) x93) <|
            kp ((RdAt tSlc (a5.add 1) w106) x94) <|
            apl 3 (tInt .i64) 1 8 r107 [x91] w106 fun r113 w112 =>
            kp ((RdAt tSlc (a5.add 0) w112) x93) <|
            kp ((RdAt tSlc (a5.add 1) w112) x94) <|
            kp ((RdAt tSlc (a5.add 2) w112) x95) <|
            st tSlc (a5.add 0) r97 w112 fun w117 =>
            st tSlc (a5.add 1) r101 w117 fun w118 =>
            st tSlc (a5.add 2) r113 w118 fun w119 =>
            F12_j6 t_86 w119 K88 R
          ) (
            nwS 3 (tInt .i64) [x91] w105 fun a120 w121 =>
            apd 3 (tInt .i64) 1 8 (⟨some a104, 0, 0⟩ : Slc) x95 w121 fun r123 w122 =>
            kp ((RdAt tSlc (a5.add 0) w122) x93) <|
            kp ((RdAt tSlc (a5.add 1) w122) x94) <|
            apd 3 (tInt .i64) 1 8 r123 (⟨some a120, 1, 1⟩ : Slc) w122 fun r127 w126 =>
            kp ((RdAt tSlc (a5.add 0) w126) x93) <|
            kp ((RdAt tSlc (a5.add 1) w126) x94) <|
            kp ((RdAt tSlc (a5.add 2) w126) x95) <|
            st tSlc (a5.add 0) r97 w126 fun w131 =>
            st tSlc (a5.add 1) r101 w131 fun w132 =>
            st tSlc (a5.add 2) r127 w132 fun w133 =>
            F12_j6 t_86 w133 K88 R
          )
        ) (
          nwS 3 (tInt .i64) [x91] w100 fun a134 w135 =>
          nwS 3 (tInt .i64) ([] : List Int) w135 fun a136 w137 =>
          apd 3 (tInt .i64) 1 8 (⟨some a136, 0, 0⟩ : Slc) x95 w137 fun r139 w138 =>
          kp ((RdAt tSlc (a5.add 0) w138) x93) <|
          kp ((RdAt tSlc (a5.add 1) w138) x94) <|
          apd 3 (tInt .i64) 1 8 r139 (⟨some a134, 1, 1⟩ : Slc) w138 fun r143 w142 =>
          kp ((RdAt tSlc (a5.add 0) w142) x93) <|
          kp ((RdAt tSlc (a5.add 1) w142) x94) <|
          kp ((RdAt tSlc (a5.add 2) w142) x95) <|
          st tSlc (a5.add 0) r97 w142 fun w147 =>
          st tSlc (a5.add 1) r101 w147 fun w148 =>
          st tSlc (a5.add 2) r143 w148 fun w149 =>
          F12_j6 t_86 w149 K88 R
        )
      ) (
      bth (
        nwS 3 (tInt .i64) ([] : List Int) w96 fun a150 w151 =>
        bth (
          cl Try.prog 31 [tSlc.enc (x94), .int .i64 (x91)] tSlc w151 fun r153 w152 =>
          kp ((RdAt tSlc (a5.add 0) w152) x93) <|
          kp ((RdAt tSlc (a5.add 2) w152) x95) <|
          bth (
            apd 3 (tInt .i64) 1 8 (⟨some a150, 0, 0⟩ : Slc) x95 w152 fun r157 w156 =>
            kp ((RdAt tSlc (a5.add 0) w156) x93) <|
            kp ((RdAt tSlc (a5.add 1) w156) x94) <|
            apl 3 (tInt .i64) 1 8 r157 [x91] w156 fun r163 w162 =>
            kp ((RdAt tSlc (a5.add 0) w162) x93) <|
            kp ((RdAt tSlc (a5.add 1) w162) x94) <|
            kp ((RdAt tSlc (a5.add 2) w162) x95) <|
            st tSlc (a5.add 0) r97 w162 fun w167 =>
            st tSlc (a5.add 1) r153 w167 fun w168 =>
            st tSlc (a5.add 2) r163 w168 fun w169 =>
            F12_j6 t_86 w169 K88 R
          ) (
            nwS 3 (tInt .i64) [x91] w152 fun a170 w171 =>
            apd 3 (tInt .i64) 1 8 (⟨some a150, 0, 0⟩ : Slc) x95 w171 fun r173 w172 =>
            kp ((RdAt tSlc (a5.add 0) w172) x93) <|
            kp ((RdAt tSlc (a5.add 1) w172) x94) <|
            apd 3 (tInt .i64) 1 8 r173 (⟨some a170, 1, 1⟩ : Slc) w172 fun r177 w176 =>
            kp ((RdAt tSlc (a5.add 0) w176) x93) <|
            kp ((RdAt tSlc (a5.add 1) w176) x94) <|
            kp ((RdAt tSlc (a5.add 2) w176) x95) <|
            st tSlc (a5.add 0) r97 w176 fun w181 =>
            st tSlc (a5.add 1) r153 w181 fun w182 =>
            st tSlc (a5.add 2) r177 w182 fun w183 =>
            F12_j6 t_86 w183 K88 R
          )
        ) (
          nwS 3 (tInt .i64) [x91] w151 fun a184 w185 =>
          cl Try.prog 31 [tSlc.enc (x94), .int .i64 (x91)] tSlc w185 fun r187 w186 =>
          kp ((RdAt tSlc (a5.add 0) w186) x93) <|
          kp ((RdAt tSlc (a5.add 2) w186) x95) <|
          apd 3 (tInt .i64) 1 8 (⟨some a150, 0, 0⟩ : Slc) x95 w186 fun r191 w190 =>
          kp ((RdAt tSlc (a5.add 0) w190) x93) <|
          kp ((RdAt tSlc (a5.add 1) w190) x94) <|
          apd 3 (tInt .i64) 1 8 r191 (⟨some a184, 1, 1⟩ : Slc) w190 fun r195 w194 =>
          kp ((RdAt tSlc (a5.add 0) w194) x93) <|
          kp ((RdAt tSlc (a5.add 1) w194) x94) <|
          kp ((RdAt tSlc (a5.add 2) w194) x95) <|
          st tSlc (a5.add 0) r97 w194 fun w199 =>
          st tSlc (a5.add 1) r187 w199 fun w200 =>
          st tSlc (a5.add 2) r195 w200 fun w201 =>
          F12_j6 t_86 w201 K88 R
        )
      ) (
        nwS 3 (tInt .i64) [x91] w96 fun a202 w203 =>
        bth (
          cl Try.prog 31 [tSlc.enc (x94), .int .i64 (x91)] tSlc w203 fun r205 w204 =>
          kp ((RdAt tSlc (a5.add 0) w204) x93) <|
          kp ((RdAt tSlc (a5.add 2) w204) x95) <|
          nwS 3 (tInt .i64) ([] : List Int) w204 fun a208 w209 =>
          apd 3 (tInt .i64) 1 8 (⟨some a208, 0, 0⟩ : Slc) x95 w209 fun r211 w210 =>
          kp ((RdAt tSlc (a5.add 0) w210) x93) <|
          kp ((RdAt tSlc (a5.add 1) w210) x94) <|
          apd 3 (tInt .i64) 1 8 r211 (⟨some a202, 1, 1⟩ : Slc) w210 fun r215 w214 =>
          kp ((RdAt tSlc (a5.add 0) w214) x93) <|
          kp ((RdAt tSlc (a5.add 1) w214) x94) <|
          kp ((RdAt tSlc (a5.add 2) w214) x95) <|
          st tSlc (a5.add 0) r97 w214 fun w219 =>
          st tSlc (a5.add 1) r205 w219 fun w220 =>
          st tSlc (a5.add 2) r215 w220 fun w221 =>
          F12_j6 t_86 w221 K88 R
        ) (
          nwS 3 (tInt .i64) ([] : List Int) w203 fun a222 w223 =>
          cl Try.prog 31 [tSlc.enc (x94), .int .i64 (x91)] tSlc w223 fun r225 w224 =>
          kp ((RdAt tSlc (a5.add 0) w224) x93) <|
          kp ((RdAt tSlc (a5.add 2) w224) x95) <|
          apd 3 (tInt .i64) 1 8 (⟨some a222, 0, 0⟩ : Slc) x95 w224 fun r229 w228 =>
          kp ((RdAt tSlc (a5.add 0) w228) x93) <|
          kp ((RdAt tSlc (a5.add 1) w228) x94) <|
          apd 3 (tInt .i64) 1 8 r229 (⟨some a202, 1, 1⟩ : Slc) w228 fun r233 w232 =>
          kp ((RdAt tSlc (a5.add 0) w232) x93) <|
          kp ((RdAt tSlc (a5.add 1) w232) x94) <|
          kp ((RdAt tSlc (a5.add 2) w232) x95) <|
          st tSlc (a5.add 0) r97 w232 fun w237 =>
          st tSlc (a5.add 1) r225 w237 fun w238 =>
          st tSlc (a5.add 2) r233 w238 fun w239 =>
          F12_j6 t_86 w239 K88 R
        )
      ))
    ) (
    bth (
      nwS 3 (tInt .i64) ([] : List Int) w92 fun a240 w241 =>
      bth (
        cl Try.prog 31 [tSlc.enc (x93), .int .i64 (x91)] tSlc w241 fun r243 w242 =>
        kp ((RdAt tSlc (a5.add 1) w242) x94) <|
        kp ((RdAt tSlc (a5.add 2) w242) x95) <|
        bth (
          cl Try.prog 31 [tSlc.enc (x94), .int .i64 (x91)] tSlc w242 fun r247 w246 =>
          kp ((RdAt tSlc (a5.add 0) w246) x93) <|
          kp ((RdAt tSlc (a5.add 2) w246) x95) <|
          bth (
            apd 3 (tInt .i64) 1 8 (⟨some a240, 0, 0⟩ : Slc) x95 w246 fun r251 w250 =>
            kp ((RdAt tSlc (a5.add 0) w250) x93) <|
            kp ((RdAt tSlc (a5.add 1) w250) x94) <|
            apl 3 (tInt .i64) 1 8 r251 [x91] w250 fun r257 w256 =>
            kp ((RdAt tSlc (a5.add 0) w256) x93) <|
            kp ((RdAt tSlc (a5.add 1) w256) x94) <|
            kp ((RdAt tSlc (a5.add 2) w256) x95) <|
            st tSlc (a5.add 0) r243 w256 fun w261 =>
            st tSlc (a5.add 1) r247 w261 fun w262 =>
            st tSlc (a5.add 2) r257 w262 fun w263 =>
            F12_j6 t_86 w263 K88 R
          ) (
            nwS 3 (tInt .i64) [x91] w246 fun a264 w265 =>
            apd 3 (tInt .i64) 1 8 (⟨some a240, 0, 0⟩ : Slc) x95 w265 fun r267 w266 =>
            kp ((RdAt tSlc (a5.add 0) w266) x93) <|
            kp ((RdAt tSlc (a5.add 1) w266) x94) <|
            apd 3 (tInt .i64) 1 8 r267 (⟨some a264, 1, 1⟩ : Slc) w266 fun r271 w270 =>
            kp ((RdAt tSlc (a5.add 0) w270) x93) <|
            kp ((RdAt tSlc (a5.add 1) w270) x94) <|
            kp ((RdAt tSlc (a5.add 2) w270) x95) <|
            st tSlc (a5.add 0) r243 w270 fun w275 =>
            st tSlc (a5.add 1) r247 w275 fun w276 =>
            st tSlc (a5.add 2) r271 w276 fun w277 =>
            F12_j6 t_86 w277 K88 R
          )
        ) (
          nwS 3 (tInt .i64) [x91] w242 fun a278 w279 =>
          cl Try.prog 31 [tSlc.enc (x94), .int .i64 (x91)] tSlc w279 fun r281 w280 =>
          kp ((RdAt tSlc (a5.add 0) w280) x93) <|
          kp ((RdAt tSlc (a5.add 2) w280) x95) <|
          apd 3 (tInt .i64) 1 8 (⟨some a240, 0, 0⟩ : Slc) x95 w280 fun r285 w284 =>
          kp ((RdAt tSlc (a5.add 0) w284) x93) <|
          kp ((RdAt tSlc (a5.add 1) w284) x94) <|
          apd 3 (tInt .i64) 1 8 r285 (⟨some a278, 1, 1⟩ : Slc) w284 fun r289 w288 =>
          kp ((RdAt tSlc (a5.add 0) w288) x93) <|
          kp ((RdAt tSlc (a5.add 1) w288) x94) <|
          kp ((RdAt tSlc (a5.add 2) w288) x95) <|
          st tSlc (a5.add 0) r243 w288 fun w293 =>
          st tSlc (a5.add 1) r281 w293 fun w294 =>
          st tSlc (a5.add 2) r289 w294 fun w295 =>
          F12_j6 t_86 w295 K88 R
        )
      ) (
        nwS 3 (tInt .i64) [x91] w241 fun a296 w297 =>
        cl Try.prog 31 [tSlc.enc (x93), .int .i64 (x91)] tSlc w297 fun r299 w298 =>
        kp ((RdAt tSlc (a5.add 1) w298) x94) <|
        kp ((RdAt tSlc (a5.add 2) w298) x95) <|
        cl Try.prog 31 [tSlc.enc (x94), .int .i64 (x91)] tSlc w298 fun r303 w302 =>
        kp ((RdAt tSlc (a5.add 0) w302) x93) <|
        kp ((RdAt tSlc (a5.add 2) w302) x95) <|
        apd 3 (tInt .i64) 1 8 (⟨some a240, 0, 0⟩ : Slc) x95 w302 fun r307 w306 =>
        kp ((RdAt tSlc (a5.add 0) w306) x93) <|
        kp ((RdAt tSlc (a5.add 1) w306) x94) <|
        apd 3 (tInt .i64) 1 8 r307 (⟨some a296, 1, 1⟩ : Slc) w306 fun r311 w310 =>
        kp ((RdAt tSlc (a5.add 0) w310) x93) <|
        kp ((RdAt tSlc (a5.add 1) w310) x94) <|
        kp ((RdAt tSlc (a5.add 2) w310) x95) <|
        st tSlc (a5.add 0) r299 w310 fun w315 =>
        st tSlc (a5.add 1) r303 w315 fun w316 =>
        st tSlc (a5.add 2) r311 w316 fun w317 =>
        F12_j6 t_86 w317 K88 R
      )
    ) (
      nwS 3 (tInt .i64) [x91] w92 fun a318 w319 =>
      bth (
        cl Try.prog 31 [tSlc.enc (x93), .int .i64 (x91)] tSlc w319 fun r321 w320 =>
        kp ((RdAt tSlc (a5.add 1) w320) x94) <|
        kp ((RdAt tSlc (a5.add 2) w320) x95) <|
        bth (
          cl Try.prog 31 [tSlc.enc (x94), .int .i64 (x91)] tSlc w320 fun r325 w324 =>
          kp ((RdAt tSlc (a5.add 0) w324) x93) <|
          kp ((RdAt tSlc (a5.add 2) w324) x95) <|
          nwS 3 (tInt .i64) ([] : List Int) w324 fun a328 w329 =>
          apd 3 (tInt .i64) 1 8 (⟨some a328, 0, 0⟩ : Slc) x95 w329 fun r331 w330 =>
          kp ((RdAt tSlc (a5.add 0) w330) x93) <|
          kp ((RdAt tSlc (a5.add 1) w330) x94) <|
          apd 3 (tInt .i64) 1 8 r331 (⟨some a318, 1, 1⟩ : Slc) w330 fun r335 w334 =>
          kp ((RdAt tSlc (a5.add 0) w334) x93) <|
          kp ((RdAt tSlc (a5.add 1) w334) x94) <|
          kp ((RdAt tSlc (a5.add 2) w334) x95) <|
          st tSlc (a5.add 0) r321 w334 fun w339 =>
          st tSlc (a5.add 1) r325 w339 fun w340 =>
          st tSlc (a5.add 2) r335 w340 fun w341 =>
          F12_j6 t_86 w341 K88 R
        ) (
          nwS 3 (tInt .i64) ([] : List Int) w320 fun a342 w343 =>
          cl Try.prog 31 [tSlc.enc (x94), .int .i64 (x91)] tSlc w343 fun r345 w344 =>
          kp ((RdAt tSlc (a5.add 0) w344) x93) <|
          kp ((RdAt tSlc (a5.add 2) w344) x95) <|
          apd 3 (tInt .i64) 1 8 (⟨some a342, 0, 0⟩ : Slc) x95 w344 fun r349 w348 =>
          kp ((RdAt tSlc (a5.add 0) w348) x93) <|
          kp ((RdAt tSlc (a5.add 1) w348) x94) <|
          apd 3 (tInt .i64) 1 8 r349 (⟨some a318, 1, 1⟩ : Slc) w348 fun r353 w352 =>
          kp ((RdAt tSlc (a5.add 0) w352) x93) <|
          kp ((RdAt tSlc (a5.add 1) w352) x94) <|
          kp ((RdAt tSlc (a5.add 2) w352) x95) <|
          st tSlc (a5.add 0) r321 w352 fun w357 =>
          st tSlc (a5.add 1) r345 w357 fun w358 =>
          st tSlc (a5.add 2) r353 w358 fun w359 =>
          F12_j6 t_86 w359 K88 R
        )
      ) (
        nwS 3 (tInt .i64) ([] : List Int) w319 fun a360 w361 =>
        cl Try.prog 31 [tSlc.enc (x93), .int .i64 (x91)] tSlc w361 fun r363 w362 =>
        kp ((RdAt tSlc (a5.add 1) w362) x94) <|
        kp ((RdAt tSlc (a5.add 2) w362) x95) <|
        cl Try.prog 31 [tSlc.enc (x94), .int .i64 (x91)] tSlc w362 fun r367 w366 =>
        kp ((RdAt tSlc (a5.add 0) w366) x93) <|
        kp ((RdAt tSlc (a5.add 2) w366) x95) <|
        apd 3 (tInt .i64) 1 8 (⟨some a360, 0, 0⟩ : Slc) x95 w366 fun r371 w370 =>
        kp ((RdAt tSlc (a5.add 0) w370) x93) <|
        kp ((RdAt tSlc (a5.add 1) w370) x94) <|
        apd 3 (tInt .i64) 1 8 r371 (⟨some a318, 1, 1⟩ : Slc) w370 fun r375 w374 =>
        kp ((RdAt tSlc (a5.add 0) w374) x93) <|
        kp ((RdAt tSlc (a5.add 1) w374) x94) <|
        kp ((RdAt tSlc (a5.add 2) w374) x95) <|
        st tSlc (a5.add 0) r363 w374 fun w379 =>
        st tSlc (a5.add 1) r367 w379 fun w380 =>
        st tSlc (a5.add 2) r375 w380 fun w381 =>
        F12_j6 t_86 w381 K88 R
      )
    ))
  ) else (
    ex (RdAt tSlc (a5.add 1) w87) fun x382 =>
    ex (RdAt T79 a42 w87) fun x383 =>
    cl Try.prog 32 [tSlc.enc (x382), T79.enc (x383)] tSlc w87 fun r385 w384 =>
    st tSlc (a5.add 1) r385 w384 fun w386 =>
    ex (RdAt T27 a5 w386) fun x387 =>
    cl Try.prog 33 [T27.enc (x387)] (tTup2 T27 tSlc) w386 fun r389 w388 =>
    st T27 a5 r389.1 w388 fun w390 =>
    lp (fun (s : Int) w K => F12_l7 tx_2 a5 a7 a9 a45 r389 s w K R) ((0 : Int)) w390
  )
def F12_l2 (tx_2 : Int) (key_3 : Int) (write_4 : Bool) (a5 : Addr) (a7 : Addr) (a9 : Addr) (a42 : Addr) (a45 : Addr) (i_48 : Int) (w49 : World) (K50 : Int → World → Prop) (R : (S27 × S33 × Int) → World → Prop) : Prop :=
  ex (RdAt tSlc (a5.add 0) w49) fun x51 =>
  if (decide (i_48 < (x51.len : Int))) = true then (
    ex (RdAt tSlc (a5.add 0) w49) fun x53 =>
    ex (IxA x53 3 i_48) fun a54 =>
    ex (RdAt T79 a54 w49) fun x55 =>
    nw 80 T79 Z79 w49 fun a56 w57 =>
    st T79 a56 x55 w57 fun w58 =>
    ex (RdAt (tInt .i64) (a56.add 1) w58) fun x59 =>
    ex (fun x => (x59 == key_3) = true → (RdAt (tInt .i64) (a56.add 0) w58) x) fun x60 =>
    ex (fun x => ((x59 == key_3) && (x60 == tx_2)) = true → (RdAt tBool (a56.add 2) w58) x) fun x61 =>
    if (((x59 == key_3) && (x60 == tx_2)) && (x61 || (!write_4))) = true then (
      ex (RdAt T27 a5 w58) fun x62 =>
      st T27 a7 x62 w58 fun w63 =>
      st T33 a9 (⟨true, (⟨none, 0, 0⟩ : Slc), (⟨none, 0, 0⟩ : Slc)⟩ : S33) w63 fun w64 =>
      ex (RdAt T27 a7 w64) fun x65 =>
      ex (RdAt T33 a9 w64) fun x66 =>
      R (x65, x66, (0 : Int)) w64
    ) else (
      ex (RdAt (tInt .i64) (a56.add 1) w58) fun x67 =>
      ex (fun x => (x67 == key_3) = true → (RdAt (tInt .i64) (a56.add 0) w58) x) fun x68 =>
      if ((x67 == key_3) && (decide (x68 > tx_2))) = true then (
        ex (RdAt T79 a42 w58) fun x80 =>
        ex (RdAt T79 a56 w58) fun x81 =>
        cl Try.prog 30 [T79.enc (x80), T79.enc (x81)] tBool w58 fun r83 w82 =>
        F12_j4 a45 i_48 a56 (!r83) w82 K50 R
      ) else (
        F12_j4 a45 i_48 a56 false w58 K50 R
      )
    )
  ) else (
    ex (RdAt tSlc (a45.add 1) w49) fun x85 =>
    lp (fun (s : Int) w K => F12_l5 tx_2 a5 a7 a9 a42 a45 x85 s w K R) ((0 : Int)) w49
  )
def F12_l1 (tx_2 : Int) (key_3 : Int) (write_4 : Bool) (a5 : Addr) (a7 : Addr) (a9 : Addr) (i_29 : Int) (w30 : World) (K31 : Int → World → Prop) (R : (S27 × S33 × Int) → World → Prop) : Prop :=
  ex (RdAt tSlc (a5.add 1) w30) fun x32 =>
  if (decide (i_29 < (x32.len : Int))) = true then (
    ex (RdAt tSlc (a5.add 1) w30) fun x33 =>
    ex (IxA x33 3 i_29) fun a34 =>
    ex (RdAt (tInt .i64) (a34.add 0) w30) fun x35 =>
    if (x35 == tx_2) = true then (
      ex (RdAt T27 a5 w30) fun x36 =>
      st T27 a7 x36 w30 fun w37 =>
      st T33 a9 (⟨false, (⟨none, 0, 0⟩ : Slc), (⟨none, 0, 0⟩ : Slc)⟩ : S33) w37 fun w38 =>
      ex (RdAt T27 a7 w38) fun x39 =>
      ex (RdAt T33 a9 w38) fun x40 =>
      R (x39, x40, (133 : Int)) w38
    ) else (
      K31 ((IntKind.i64.wrap (i_29 + (1 : Int)))) w30
    )
  ) else (
    nw 80 T79 Z79 w30 fun a42 w43 =>
    st T79 a42 (⟨tx_2, key_3, write_4⟩ : S79) w43 fun w44 =>
    nw 34 T33 Z33 w44 fun a45 w46 =>
    st T33 a45 (⟨false, (⟨none, 0, 0⟩ : Slc), (⟨none, 0, 0⟩ : Slc)⟩ : S33) w46 fun w47 =>
    lp (fun (s : Int) w K => F12_l2 tx_2 key_3 write_4 a5 a7 a9 a42 a45 s w K R) ((0 : Int)) w47
  )
def F12 (t_1 : S27) (tx_2 : Int) (key_3 : Int) (write_4 : Bool) (w : World) (R : (S27 × S33 × Int) → World → Prop) : Prop :=
  nw 28 T27 t_1 w fun a5 w6 =>
  nw 28 T27 Z27 w6 fun a7 w8 =>
  nw 34 T33 Z33 w8 fun a9 w10 =>
  if (decide (tx_2 < (1 : Int))) = true then (
    ex (RdAt T27 a5 w10) fun x11 =>
    st T27 a7 x11 w10 fun w12 =>
    st T33 a9 (⟨false, (⟨none, 0, 0⟩ : Slc), (⟨none, 0, 0⟩ : Slc)⟩ : S33) w12 fun w13 =>
    ex (RdAt T27 a7 w13) fun x14 =>
    ex (RdAt T33 a9 w13) fun x15 =>
    R (x14, x15, (130 : Int)) w13
  ) else (
    if ((decide (key_3 < (0 : Int))) || (decide (key_3 > (8191 : Int)))) = true then (
      ex (RdAt T27 a5 w10) fun x16 =>
      st T27 a7 x16 w10 fun w17 =>
      st T33 a9 (⟨false, (⟨none, 0, 0⟩ : Slc), (⟨none, 0, 0⟩ : Slc)⟩ : S33) w17 fun w18 =>
      ex (RdAt T27 a7 w18) fun x19 =>
      ex (RdAt T33 a9 w18) fun x20 =>
      R (x19, x20, (131 : Int)) w18
    ) else (
      ex (RdAt tSlc (a5.add 2) w10) fun x21 =>
      cl Try.prog 19 [tSlc.enc (x21), .int .i64 (tx_2)] tBool w10 fun r23 w22 =>
      if r23 = true then (
        ex (RdAt T27 a5 w22) fun x24 =>
        st T27 a7 x24 w22 fun w25 =>
        st T33 a9 (⟨false, (⟨none, 0, 0⟩ : Slc), (⟨none, 0, 0⟩ : Slc)⟩ : S33) w25 fun w26 =>
        ex (RdAt T27 a7 w26) fun x27 =>
        ex (RdAt T33 a9 w26) fun x28 =>
        R (x27, x28, (132 : Int)) w26
      ) else (
        lp (fun (s : Int) w K => F12_l1 tx_2 key_3 write_4 a5 a7 a9 s w K R) ((0 : Int)) w22
      )
    )
  )
theorem F12_ok {t_1 : S27} {tx_2 : Int} {key_3 : Int} {write_4 : Bool} {w : World} {R : (S27 × S33 × Int) → World → Prop} (h : F12 t_1 tx_2 key_3 write_4 w R) : cl Try.prog 12 [T27.enc (t_1), .int .i64 (tx_2), .int .i64 (key_3), .bool (write_4)] (tTup3 T27 T33 (tInt .i64)) w R := by
  unfold F12 at h
  refine calls_start 176 Try.func12 rfl rfl (Nat.le_of_ble_eq_true rfl) ?_
  refine wp_seq ?_
  refine wp_text [0, 1, 2, 3] rfl ?_
  obtain ⟨a5, w6, ha5, hw6, h⟩ := nw_open h
  refine ro_val (d := (some 4)) rfl (.free rfl) rfl (q_box (u := t_1) rfl ok28 rfl ha5 hw6) ?_
  obtain ⟨a7, w8, ha7, hw8, h⟩ := nw_open h
  refine ro_val (d := (some 8)) rfl (.free rfl) rfl (q_alloc (u := Z27) rfl ok28 inf28 ha7 hw8) ?_
  obtain ⟨a9, w10, ha9, hw10, h⟩ := nw_open h
  refine ro_val (d := (some 9)) rfl (.free rfl) rfl (q_alloc (u := Z33) rfl ok34 inf34 ha9 hw10) ?_
  refine ro_val (d := (some 10)) rfl (.free rfl) rfl (q_assign (v := .int .i64 ((0 : Int))) rfl rfl) ?_
  refine ro_nil ?_
  refine wp_seq ?_
  refine wp_seq ?_
  refine wp_text [0, 1] rfl ?_
  refine ro_val (d := (some 20)) rfl (.free rfl) rfl (q_move (v := .int .i64 (tx_2)) rfl rfl) ?_
  refine ro_val (d := (some 21)) rfl (.free rfl) rfl (q_lss (a := tx_2) (b := (1 : Int)) rfl rfl rfl) ?_
  refine ro_nil ?_
  refine wp_if (b := (decide (tx_2 < (1 : Int)))) rfl h (fun hb423 h => ?_) (fun hb423 h => ?_)
  · refine wp_seq ?_
    refine wp_text [0, 1, 2, 3, 4] rfl ?_
    obtain ⟨x11, hx11, h⟩ := h
    refine ro_val (d := (some 22)) rfl (.free rfl) rfl (q_load (T := T27) (u := x11) (a := a5) rfl ok28 rfl hx11) ?_
    refine ro_val (d := (some 23)) rfl (.free rfl) rfl (q_build34_  rfl ) ?_
    obtain ⟨w12, hw12, hrw12, h⟩ := st_open h
    refine ro_skip (d := none) rfl (.free rfl) rfl (q_store (T := T27) (u := x11) (a := a7) rfl ok28 rfl rfl hrw12 hw12) ?_
    obtain ⟨w13, hw13, hrw13, h⟩ := st_open h
    refine ro_skip (d := none) rfl (.free rfl) rfl (q_store (T := T33) (u := (⟨false, (⟨none, 0, 0⟩ : Slc), (⟨none, 0, 0⟩ : Slc)⟩ : S33)) (a := a9) rfl ok34 rfl rfl hrw13 hw13) ?_
    refine ro_val (d := (some 10)) rfl (.free rfl) rfl (q_assign (v := .int .i64 ((130 : Int))) rfl rfl) ?_
    refine ro_nil ?_
    refine wp_ret ?_
    obtain ⟨x14, hx14, h⟩ := h
    obtain ⟨x15, hx15, h⟩ := h
    exact ret_ok rfl (.cons (.cell (T := T27) (u := x14) (a := a7) ok28 rfl hx14) (.cons (.cell (T := T33) (u := x15) (a := a9) ok34 rfl hx15) (.cons (.tmp (v := .int .i64 ((130 : Int))) rfl) .nil))) ⟨(x14, x15, (130 : Int)), rfl, h⟩
  · refine wp_skip ?_
    refine wp_seq ?_
    refine wp_seq ?_
    refine wp_text [0, 1, 2, 3, 4, 5] rfl ?_
    refine ro_val (d := (some 24)) rfl (.free rfl) rfl (q_move (v := .int .i64 (key_3)) rfl rfl) ?_
    refine ro_val (d := (some 25)) rfl (.free rfl) rfl (q_lss (a := key_3) (b := (0 : Int)) rfl rfl rfl) ?_
    refine ro_val (d := (some 26)) rfl (.free rfl) rfl (q_move (v := .bool ((decide (key_3 < (0 : Int))))) rfl rfl) ?_
    refine ro_gval (g := (!(decide (key_3 < (0 : Int))))) (d := (some 27)) rfl (.no 2 26 true (decide (key_3 < (0 : Int))) rfl rfl rfl rfl) rfl (fun hg => q_move (v := .int .i64 (key_3)) rfl rfl) ?_
    refine ro_gval (g := (!(decide (key_3 < (0 : Int))))) (d := (some 28)) rfl (.no 2 26 true (decide (key_3 < (0 : Int))) rfl rfl rfl rfl) rfl (fun hg => q_gtr (a := key_3) (b := (8191 : Int)) rfl (gvb_yes hg) rfl) ?_
    refine ro_val (d := (some 29)) rfl (.free rfl) rfl (q_pickGF (a := (decide (key_3 < (0 : Int)))) (c := (decide (key_3 > (8191 : Int)))) rfl rfl rfl rfl) ?_
    refine ro_nil ?_
    refine wp_if (b := ((decide (key_3 < (0 : Int))) || (decide (key_3 > (8191 : Int))))) rfl h (fun hb422 h => ?_) (fun hb422 h => ?_)
    · refine wp_seq ?_
      refine wp_text [0, 1, 2, 3, 4] rfl ?_
      obtain ⟨x16, hx16, h⟩ := h
      refine ro_val (d := (some 30)) rfl (.free rfl) rfl (q_load (T := T27) (u := x16) (a := a5) rfl ok28 rfl hx16) ?_
      refine ro_val (d := (some 31)) rfl (.free rfl) rfl (q_build34_  rfl ) ?_
      obtain ⟨w17, hw17, hrw17, h⟩ := st_open h
      refine ro_skip (d := none) rfl (.free rfl) rfl (q_store (T := T27) (u := x16) (a := a7) rfl ok28 rfl rfl hrw17 hw17) ?_
      obtain ⟨w18, hw18, hrw18, h⟩ := st_open h
      refine ro_skip (d := none) rfl (.free rfl) rfl (q_store (T := T33) (u := (⟨false, (⟨none, 0, 0⟩ : Slc), (⟨none, 0, 0⟩ : Slc)⟩ : S33)) (a := a9) rfl ok34 rfl rfl hrw18 hw18) ?_
      refine ro_val (d := (some 10)) rfl (.free rfl) rfl (q_assign (v := .int .i64 ((131 : Int))) rfl rfl) ?_
      refine ro_nil ?_
      refine wp_ret ?_
      obtain ⟨x19, hx19, h⟩ := h
      obtain ⟨x20, hx20, h⟩ := h
      exact ret_ok rfl (.cons (.cell (T := T27) (u := x19) (a := a7) ok28 rfl hx19) (.cons (.cell (T := T33) (u := x20) (a := a9) ok34 rfl hx20) (.cons (.tmp (v := .int .i64 ((131 : Int))) rfl) .nil))) ⟨(x19, x20, (131 : Int)), rfl, h⟩
    · refine wp_skip ?_
      refine wp_seq ?_
      refine wp_seq ?_
      refine wp_text [0, 1, 2, 3] rfl ?_
      refine ro_val (d := (some 32)) rfl (.free rfl) rfl (q_fieldAddr (a := a5) (off := 2) rfl Try.underlying28 rfl rfl ok26 (by decide) rfl) ?_
      obtain ⟨x21, hx21, h⟩ := h
      refine ro_val (d := (some 33)) rfl (.free rfl) rfl (q_load (T := tSlc) (u := x21) (a := (a5.add 2)) rfl ok26 rfl hx21) ?_
      refine ro_val (d := (some 34)) rfl (.free rfl) rfl (q_move (v := .int .i64 (tx_2)) rfl rfl) ?_
      refine ro_wp rfl (.free rfl) (wp_cl (d := (some 35)) rfl (q_call (k := 19) (l := [tSlc.enc (x21), .int .i64 (tx_2)]) rfl ent19 rfl) h ?_)
      intro r23 w22 h
      refine ro_nil ?_
      refine wp_if (b := r23) rfl h (fun hb421 h => ?_) (fun hb421 h => ?_)
      · refine wp_seq ?_
        refine wp_text [0, 1, 2, 3, 4] rfl ?_
        obtain ⟨x24, hx24, h⟩ := h
        refine ro_val (d := (some 36)) rfl (.free rfl) rfl (q_load (T := T27) (u := x24) (a := a5) rfl ok28 rfl hx24) ?_
        refine ro_val (d := (some 37)) rfl (.free rfl) rfl (q_build34_  rfl ) ?_
        obtain ⟨w25, hw25, hrw25, h⟩ := st_open h
        refine ro_skip (d := none) rfl (.free rfl) rfl (q_store (T := T27) (u := x24) (a := a7) rfl ok28 rfl rfl hrw25 hw25) ?_
        obtain ⟨w26, hw26, hrw26, h⟩ := st_open h
        refine ro_skip (d := none) rfl (.free rfl) rfl (q_store (T := T33) (u := (⟨false, (⟨none, 0, 0⟩ : Slc), (⟨none, 0, 0⟩ : Slc)⟩ : S33)) (a := a9) rfl ok34 rfl rfl hrw26 hw26) ?_
        refine ro_val (d := (some 10)) rfl (.free rfl) rfl (q_assign (v := .int .i64 ((132 : Int))) rfl rfl) ?_
        refine ro_nil ?_
        refine wp_ret ?_
        obtain ⟨x27, hx27, h⟩ := h
        obtain ⟨x28, hx28, h⟩ := h
        exact ret_ok rfl (.cons (.cell (T := T27) (u := x27) (a := a7) ok28 rfl hx27) (.cons (.cell (T := T33) (u := x28) (a := a9) ok34 rfl hx28) (.cons (.tmp (v := .int .i64 ((132 : Int))) rfl) .nil))) ⟨(x27, x28, (132 : Int)), rfl, h⟩
      · refine wp_skip ?_
        refine wp_seq ?_
        refine wp_seq ?_
        refine wp_text [0] rfl ?_
        refine ro_val (d := (some 11)) rfl (.free rfl) rfl (q_assign (v := .int .i64 ((0 : Int))) rfl rfl) ?_
        refine ro_nil ?_
        refine wp_block ?_
        refine loop_at (σ := Int) (fr := fun g (s : Int) => upd (upd (upd (upd (upd (upd (upd (g) 1 (.int .i64 (tx_2))) 2 (.int .i64 (key_3))) 3 (.bool (write_4))) 4 (.pointer (some a5))) 8 (.pointer (some a7))) 9 (.pointer (some a9))) 11 (.int .i64 (s))) (s0 := ((0 : Int))) (upd_step (upd_step (upd_step (upd_step (upd_step (upd_step (upd_step rfl rfl) rfl) rfl) rfl) rfl) rfl) rfl) h ?_
        rintro i_29 g w30 K31 h
        unfold F12_l1 at h
        refine wp_seq ?_
        refine wp_seq ?_
        refine wp_text [0, 1, 2, 3, 4] rfl ?_
        refine ro_val (d := (some 38)) rfl (.free rfl) rfl (q_move (v := .int .i64 (i_29)) rfl rfl) ?_
        refine ro_val (d := (some 39)) rfl (.free rfl) rfl (q_fieldAddr (a := a5) (off := 1) rfl Try.underlying28 rfl rfl ok25 (by decide) rfl) ?_
        obtain ⟨x32, hx32, h⟩ := h
        refine ro_val (d := (some 40)) rfl (.free rfl) rfl (q_load (T := tSlc) (u := x32) (a := (a5.add 1)) rfl ok25 rfl hx32) ?_
        refine ro_val (d := (some 41)) rfl (.free rfl) rfl (q_len (s := x32) rfl Try.underlying25 rfl) ?_
        refine ro_val (d := (some 42)) rfl (.free rfl) rfl (q_lss (a := i_29) (b := (x32.len : Int)) rfl rfl rfl) ?_
        refine ro_nil ?_
        refine wp_if (b := (decide (i_29 < (x32.len : Int)))) rfl h (fun hb420 h => ?_) (fun hb420 h => ?_)
        · refine wp_skip ?_
          refine wp_seq ?_
          refine wp_block ?_
          refine wp_seq ?_
          refine wp_text [0, 1, 2, 3, 4, 5, 6, 7] rfl ?_
          refine ro_val (d := (some 45)) rfl (.free rfl) rfl (q_fieldAddr (a := a5) (off := 1) rfl Try.underlying28 rfl rfl ok25 (by decide) rfl) ?_
          obtain ⟨x33, hx33, h⟩ := h
          refine ro_val (d := (some 46)) rfl (.free rfl) rfl (q_load (T := tSlc) (u := x33) (a := (a5.add 1)) rfl ok25 rfl hx33) ?_
          refine ro_val (d := (some 47)) rfl (.free rfl) rfl (q_move (v := .int .i64 (i_29)) rfl rfl) ?_
          obtain ⟨a34, ha34, h⟩ := h
          refine ro_val (d := (some 48)) rfl (.free rfl) rfl (q_indexAddr (s := x33) (i := i_29) rfl Try.underlying25 ok80 rfl rfl ha34) ?_
          refine ro_val (d := (some 49)) rfl (.free rfl) rfl (q_fieldAddr (a := a34) (off := 0) rfl Try.underlying80 rfl rfl ok3 (by decide) rfl) ?_
          obtain ⟨x35, hx35, h⟩ := h
          refine ro_val (d := (some 50)) rfl (.free rfl) rfl (q_load (T := (tInt .i64)) (u := x35) (a := (a34.add 0)) rfl ok3 rfl hx35) ?_
          refine ro_val (d := (some 51)) rfl (.free rfl) rfl (q_move (v := .int .i64 (tx_2)) rfl rfl) ?_
          refine ro_val (d := (some 52)) rfl (.free rfl) rfl (q_eql (a := x35) (b := tx_2) rfl rfl rfl) ?_
          refine ro_nil ?_
          refine wp_if (b := (x35 == tx_2)) rfl h (fun hb41 h => ?_) (fun hb41 h => ?_)
          · refine wp_seq ?_
            refine wp_text [0, 1, 2, 3, 4] rfl ?_
            obtain ⟨x36, hx36, h⟩ := h
            refine ro_val (d := (some 53)) rfl (.free rfl) rfl (q_load (T := T27) (u := x36) (a := a5) rfl ok28 rfl hx36) ?_
            refine ro_val (d := (some 54)) rfl (.free rfl) rfl (q_build34_  rfl ) ?_
            obtain ⟨w37, hw37, hrw37, h⟩ := st_open h
            refine ro_skip (d := none) rfl (.free rfl) rfl (q_store (T := T27) (u := x36) (a := a7) rfl ok28 rfl rfl hrw37 hw37) ?_
            obtain ⟨w38, hw38, hrw38, h⟩ := st_open h
            refine ro_skip (d := none) rfl (.free rfl) rfl (q_store (T := T33) (u := (⟨false, (⟨none, 0, 0⟩ : Slc), (⟨none, 0, 0⟩ : Slc)⟩ : S33)) (a := a9) rfl ok34 rfl rfl hrw38 hw38) ?_
            refine ro_val (d := (some 10)) rfl (.free rfl) rfl (q_assign (v := .int .i64 ((133 : Int))) rfl rfl) ?_
            refine ro_nil ?_
            refine wp_ret ?_
            obtain ⟨x39, hx39, h⟩ := h
            obtain ⟨x40, hx40, h⟩ := h
            exact ret_ok rfl (.cons (.cell (T := T27) (u := x39) (a := a7) ok28 rfl hx39) (.cons (.cell (T := T33) (u := x40) (a := a9) ok34 rfl hx40) (.cons (.tmp (v := .int .i64 ((133 : Int))) rfl) .nil))) ⟨(x39, x40, (133 : Int)), rfl, h⟩
          · refine wp_skip ?_
            refine wp_text [0, 1, 2] rfl ?_
            refine ro_val (d := (some 43)) rfl (.free rfl) rfl (q_move (v := .int .i64 (i_29)) rfl rfl) ?_
            refine ro_val (d := (some 44)) rfl (.free rfl) rfl (q_add (a := i_29) (b := (1 : Int)) rfl rfl rfl) ?_
            refine ro_val (d := (some 11)) rfl (.free rfl) rfl (q_assign (v := .int .i64 ((IntKind.i64.wrap (i_29 + (1 : Int))))) rfl rfl) ?_
            refine ro_nil ?_
            exact ⟨((IntKind.i64.wrap (i_29 + (1 : Int)))), _, arr (upd_step (upd_step (upd_step (upd_step (upd_step (upd_step (upd_step rfl rfl) rfl) rfl) rfl) rfl) rfl) rfl), h⟩
        · refine wp_exit ?_
          refine wp_seq ?_
          refine wp_text [0, 1, 2, 3, 4, 5] rfl ?_
          refine ro_val (d := (some 55)) rfl (.free rfl) rfl (q_move (v := .int .i64 (tx_2)) rfl rfl) ?_
          refine ro_val (d := (some 56)) rfl (.free rfl) rfl (q_move (v := .int .i64 (key_3)) rfl rfl) ?_
          refine ro_val (d := (some 57)) rfl (.free rfl) rfl (q_move (v := .bool (write_4)) rfl rfl) ?_
          refine ro_val (d := (some 58)) rfl (.free rfl) rfl (q_build80_0_1_2 (v0 := tx_2) (v1 := key_3) (v2 := write_4) rfl rfl rfl rfl) ?_
          obtain ⟨a42, w43, ha42, hw43, h⟩ := nw_open h
          refine ro_val (d := (some 12)) rfl (.free rfl) rfl (q_alloc (u := Z79) rfl ok80 inf80 ha42 hw43) ?_
          obtain ⟨w44, hw44, hrw44, h⟩ := st_open h
          refine ro_skip (d := none) rfl (.free rfl) rfl (q_store (T := T79) (u := (⟨tx_2, key_3, write_4⟩ : S79)) (a := a42) rfl ok80 rfl rfl hrw44 hw44) ?_
          refine ro_nil ?_
          refine wp_seq ?_
          refine wp_text [0, 1, 2] rfl ?_
          refine ro_val (d := (some 59)) rfl (.free rfl) rfl (q_build34_  rfl ) ?_
          obtain ⟨a45, w46, ha45, hw46, h⟩ := nw_open h
          refine ro_val (d := (some 13)) rfl (.free rfl) rfl (q_alloc (u := Z33) rfl ok34 inf34 ha45 hw46) ?_
          obtain ⟨w47, hw47, hrw47, h⟩ := st_open h
          refine ro_skip (d := none) rfl (.free rfl) rfl (q_store (T := T33) (u := (⟨false, (⟨none, 0, 0⟩ : Slc), (⟨none, 0, 0⟩ : Slc)⟩ : S33)) (a := a45) rfl ok34 rfl rfl hrw47 hw47) ?_
          refine ro_nil ?_
          refine wp_seq ?_
          refine wp_seq ?_
          refine wp_text [0] rfl ?_
          refine ro_val (d := (some 14)) rfl (.free rfl) rfl (q_assign (v := .int .i64 ((0 : Int))) rfl rfl) ?_
          refine ro_nil ?_
          refine wp_block ?_
          refine loop_at (σ := Int) (fr := fun g (s : Int) => upd (upd (upd (upd (upd (upd (upd (upd (upd (g) 1 (.int .i64 (tx_2))) 2 (.int .i64 (key_3))) 3 (.bool (write_4))) 4 (.pointer (some a5))) 8 (.pointer (some a7))) 9 (.pointer (some a9))) 12 (.pointer (some a42))) 13 (.pointer (some a45))) 14 (.int .i64 (s))) (s0 := ((0 : Int))) (upd_step (upd_step (upd_step (upd_step (upd_step (upd_step (upd_step (upd_step (upd_step rfl rfl) rfl) rfl) rfl) rfl) rfl) rfl) rfl) rfl) h ?_
          rintro i_48 g w49 K50 h
          unfold F12_l2 at h
          refine wp_seq ?_
          refine wp_seq ?_
          refine wp_text [0, 1, 2, 3, 4] rfl ?_
          refine ro_val (d := (some 60)) rfl (.free rfl) rfl (q_move (v := .int .i64 (i_48)) rfl rfl) ?_
          refine ro_val (d := (some 61)) rfl (.free rfl) rfl (q_fieldAddr (a := a5) (off := 0) rfl Try.underlying28 rfl rfl ok25 (by decide) rfl) ?_
          obtain ⟨x51, hx51, h⟩ := h
          refine ro_val (d := (some 62)) rfl (.free rfl) rfl (q_load (T := tSlc) (u := x51) (a := (a5.add 0)) rfl ok25 rfl hx51) ?_
          refine ro_val (d := (some 63)) rfl (.free rfl) rfl (q_len (s := x51) rfl Try.underlying25 rfl) ?_
          refine ro_val (d := (some 64)) rfl (.free rfl) rfl (q_lss (a := i_48) (b := (x51.len : Int)) rfl rfl rfl) ?_
          refine ro_nil ?_
          refine wp_if (b := (decide (i_48 < (x51.len : Int)))) rfl h (fun hb419 h => ?_) (fun hb419 h => ?_)
          · refine wp_skip ?_
            refine seq_join (σ := Unit) (J := fun (s : Unit) w => F12_j3 i_48 w K50 R) (fr := fun g (s : Unit) => upd (upd (upd (upd (upd (upd (upd (upd (upd (g) 1 (.int .i64 (tx_2))) 2 (.int .i64 (key_3))) 3 (.bool (write_4))) 4 (.pointer (some a5))) 8 (.pointer (some a7))) 9 (.pointer (some a9))) 12 (.pointer (some a42))) 13 (.pointer (some a45))) 14 (.int .i64 (i_48))) ?_ ?_
            · rintro ⟨⟩ g w52 h
              unfold F12_j3 at h
              refine wp_text [0, 1, 2] rfl ?_
              refine ro_val (d := (some 65)) rfl (.free rfl) rfl (q_move (v := .int .i64 (i_48)) rfl rfl) ?_
              refine ro_val (d := (some 66)) rfl (.free rfl) rfl (q_add (a := i_48) (b := (1 : Int)) rfl rfl rfl) ?_
              refine ro_val (d := (some 14)) rfl (.free rfl) rfl (q_assign (v := .int .i64 ((IntKind.i64.wrap (i_48 + (1 : Int))))) rfl rfl) ?_
              refine ro_nil ?_
              exact ⟨((IntKind.i64.wrap (i_48 + (1 : Int)))), _, arr (upd_step (upd_step (upd_step (upd_step (upd_step (upd_step (upd_step (upd_step (upd_step rfl rfl) rfl) rfl) rfl) rfl) rfl) rfl) rfl) rfl), h⟩
            · refine wp_block ?_
              refine wp_seq ?_
              refine wp_text [0, 1, 2, 3, 4, 5, 6] rfl ?_
              refine ro_val (d := (some 67)) rfl (.free rfl) rfl (q_fieldAddr (a := a5) (off := 0) rfl Try.underlying28 rfl rfl ok25 (by decide) rfl) ?_
              obtain ⟨x53, hx53, h⟩ := h
              refine ro_val (d := (some 68)) rfl (.free rfl) rfl (q_load (T := tSlc) (u := x53) (a := (a5.add 0)) rfl ok25 rfl hx53) ?_
              refine ro_val (d := (some 69)) rfl (.free rfl) rfl (q_move (v := .int .i64 (i_48)) rfl rfl) ?_
              obtain ⟨a54, ha54, h⟩ := h
              refine ro_val (d := (some 70)) rfl (.free rfl) rfl (q_indexAddr (s := x53) (i := i_48) rfl Try.underlying25 ok80 rfl rfl ha54) ?_
              obtain ⟨x55, hx55, h⟩ := h
              refine ro_val (d := (some 71)) rfl (.free rfl) rfl (q_load (T := T79) (u := x55) (a := a54) rfl ok80 rfl hx55) ?_
              obtain ⟨a56, w57, ha56, hw57, h⟩ := nw_open h
              refine ro_val (d := (some 15)) rfl (.free rfl) rfl (q_alloc (u := Z79) rfl ok80 inf80 ha56 hw57) ?_
              obtain ⟨w58, hw58, hrw58, h⟩ := st_open h
              refine ro_skip (d := none) rfl (.free rfl) rfl (q_store (T := T79) (u := x55) (a := a56) rfl ok80 rfl rfl hrw58 hw58) ?_
              refine ro_nil ?_
              refine wp_seq ?_
              refine wp_seq ?_
              refine wp_text [0, 1, 2, 3, 4, 5, 6, 7, 8, 9, 10, 11, 12, 13, 14, 15, 16, 17] rfl ?_
              refine ro_val (d := (some 72)) rfl (.free rfl) rfl (q_fieldAddr (a := a56) (off := 1) rfl Try.underlying80 rfl rfl ok3 (by decide) rfl) ?_
              obtain ⟨x59, hx59, h⟩ := h
              refine ro_val (d := (some 73)) rfl (.free rfl) rfl (q_load (T := (tInt .i64)) (u := x59) (a := (a56.add 1)) rfl ok3 rfl hx59) ?_
              refine ro_val (d := (some 74)) rfl (.free rfl) rfl (q_move (v := .int .i64 (key_3)) rfl rfl) ?_
              refine ro_val (d := (some 75)) rfl (.free rfl) rfl (q_eql (a := x59) (b := key_3) rfl rfl rfl) ?_
              refine ro_val (d := (some 76)) rfl (.free rfl) rfl (q_move (v := .bool ((x59 == key_3))) rfl rfl) ?_
              refine ro_gval (g := (x59 == key_3)) (d := (some 77)) rfl (.yes 4 76 true (x59 == key_3) rfl rfl rfl rfl) rfl (fun hg => q_fieldAddr (a := a56) (off := 0) rfl Try.underlying80 rfl rfl ok3 (by decide) rfl) ?_
              obtain ⟨x60, hx60, h⟩ := h
              refine ro_gval (g := (x59 == key_3)) (d := (some 78)) rfl (.yes 4 76 true (x59 == key_3) rfl rfl rfl rfl) rfl (fun hg => q_load (T := (tInt .i64)) (u := x60) (a := (a56.add 0)) rfl ok3 (gvb_yes hg) (hx60 hg)) ?_
              refine ro_gval (g := (x59 == key_3)) (d := (some 79)) rfl (.yes 4 76 true (x59 == key_3) rfl rfl rfl rfl) rfl (fun hg => q_move (v := .int .i64 (tx_2)) rfl rfl) ?_
              refine ro_gval (g := (x59 == key_3)) (d := (some 80)) rfl (.yes 4 76 true (x59 == key_3) rfl rfl rfl rfl) rfl (fun hg => q_eql (a := x60) (b := tx_2) rfl (gvb_yes hg) (gvb_yes hg)) ?_
              refine ro_val (d := (some 81)) rfl (.free rfl) rfl (q_pickGT (a := (x59 == key_3)) (b := (x60 == tx_2)) rfl rfl rfl rfl) ?_
              refine ro_val (d := (some 82)) rfl (.free rfl) rfl (q_move (v := .bool (((x59 == key_3) && (x60 == tx_2)))) rfl rfl) ?_
              refine ro_gval (g := ((x59 == key_3) && (x60 == tx_2))) (d := (some 83)) rfl (.yes 10 82 true ((x59 == key_3) && (x60 == tx_2)) rfl rfl rfl rfl) rfl (fun hg => q_fieldAddr (a := a56) (off := 2) rfl Try.underlying80 rfl rfl ok4 (by decide) rfl) ?_
              obtain ⟨x61, hx61, h⟩ := h
              refine ro_gval (g := ((x59 == key_3) && (x60 == tx_2))) (d := (some 84)) rfl (.yes 10 82 true ((x59 == key_3) && (x60 == tx_2)) rfl rfl rfl rfl) rfl (fun hg => q_load (T := tBool) (u := x61) (a := (a56.add 2)) rfl ok4 (gvb_yes hg) (hx61 hg)) ?_
              refine ro_gval (g := ((x59 == key_3) && (x60 == tx_2))) (d := (some 85)) rfl (.yes 10 82 true ((x59 == key_3) && (x60 == tx_2)) rfl rfl rfl rfl) rfl (fun hg => q_move (v := .bool (x61)) rfl (gvb_yes hg)) ?_
              refine ro_gval (g := (((x59 == key_3) && (x60 == tx_2)) && (!x61))) (d := (some 86)) rfl (.no 13 85 ((x59 == key_3) && (x60 == tx_2)) x61 rfl rfl rfl rfl) rfl (fun hg => q_move (v := .bool (write_4)) rfl rfl) ?_
              refine ro_gval (g := (((x59 == key_3) && (x60 == tx_2)) && (!x61))) (d := (some 87)) rfl (.no 13 85 ((x59 == key_3) && (x60 == tx_2)) x61 rfl rfl rfl rfl) rfl (fun hg => q_not (b := write_4) rfl (gvb_yes hg)) ?_
              refine ro_gval (g := ((x59 == key_3) && (x60 == tx_2))) (d := (some 88)) rfl (.yes 10 82 true ((x59 == key_3) && (x60 == tx_2)) rfl rfl rfl rfl) rfl (fun hg => q_pickNF (g0 := ((x59 == key_3) && (x60 == tx_2))) (a := x61) (c := (!write_4)) hg rfl rfl rfl rfl) ?_
              refine ro_val (d := (some 89)) rfl (.free rfl) rfl (q_pickGT (a := ((x59 == key_3) && (x60 == tx_2))) (b := (x61 || (!write_4))) rfl rfl rfl rfl) ?_
              refine ro_nil ?_
              refine wp_if (b := (((x59 == key_3) && (x60 == tx_2)) && (x61 || (!write_4)))) rfl h (fun hb84 h => ?_) (fun hb84 h => ?_)
              · refine wp_seq ?_
                refine wp_text [0, 1, 2, 3, 4] rfl ?_
                obtain ⟨x62, hx62, h⟩ := h
                refine ro_val (d := (some 90)) rfl (.free rfl) rfl (q_load (T := T27) (u := x62) (a := a5) rfl ok28 rfl hx62) ?_
                refine ro_val (d := (some 91)) rfl (.free rfl) rfl (q_build34_0 (v0 := true) rfl rfl) ?_
                obtain ⟨w63, hw63, hrw63, h⟩ := st_open h
                refine ro_skip (d := none) rfl (.free rfl) rfl (q_store (T := T27) (u := x62) (a := a7) rfl ok28 rfl rfl hrw63 hw63) ?_
                obtain ⟨w64, hw64, hrw64, h⟩ := st_open h
                refine ro_skip (d := none) rfl (.free rfl) rfl (q_store (T := T33) (u := (⟨true, (⟨none, 0, 0⟩ : Slc), (⟨none, 0, 0⟩ : Slc)⟩ : S33)) (a := a9) rfl ok34 rfl rfl hrw64 hw64) ?_
                refine ro_val (d := (some 10)) rfl (.free rfl) rfl (q_assign (v := .int .i64 ((0 : Int))) rfl rfl) ?_
                refine ro_nil ?_
                refine wp_ret ?_
                obtain ⟨x65, hx65, h⟩ := h
                obtain ⟨x66, hx66, h⟩ := h
                exact ret_ok rfl (.cons (.cell (T := T27) (u := x65) (a := a7) ok28 rfl hx65) (.cons (.cell (T := T33) (u := x66) (a := a9) ok34 rfl hx66) (.cons (.tmp (v := .int .i64 ((0 : Int))) rfl) .nil))) ⟨(x65, x66, (0 : Int)), rfl, h⟩
              · refine wp_skip ?_
                refine wp_seq ?_
                refine wp_text [0, 1, 2, 3, 4, 5, 6, 7, 8, 9, 10, 11, 12, 13, 14, 15] rfl ?_
                refine ro_val (d := (some 92)) rfl (.free rfl) rfl (q_fieldAddr (a := a56) (off := 1) rfl Try.underlying80 rfl rfl ok3 (by decide) rfl) ?_
                obtain ⟨x67, hx67, h⟩ := h
                refine ro_val (d := (some 93)) rfl (.free rfl) rfl (q_load (T := (tInt .i64)) (u := x67) (a := (a56.add 1)) rfl ok3 rfl hx67) ?_
                refine ro_val (d := (some 94)) rfl (.free rfl) rfl (q_move (v := .int .i64 (key_3)) rfl rfl) ?_
                refine ro_val (d := (some 95)) rfl (.free rfl) rfl (q_eql (a := x67) (b := key_3) rfl rfl rfl) ?_
                refine ro_val (d := (some 96)) rfl (.free rfl) rfl (q_move (v := .bool ((x67 == key_3))) rfl rfl) ?_
                refine ro_gval (g := (x67 == key_3)) (d := (some 97)) rfl (.yes 4 96 true (x67 == key_3) rfl rfl rfl rfl) rfl (fun hg => q_fieldAddr (a := a56) (off := 0) rfl Try.underlying80 rfl rfl ok3 (by decide) rfl) ?_
                obtain ⟨x68, hx68, h⟩ := h
                refine ro_gval (g := (x67 == key_3)) (d := (some 98)) rfl (.yes 4 96 true (x67 == key_3) rfl rfl rfl rfl) rfl (fun hg => q_load (T := (tInt .i64)) (u := x68) (a := (a56.add 0)) rfl ok3 (gvb_yes hg) (hx68 hg)) ?_
                refine ro_gval (g := (x67 == key_3)) (d := (some 99)) rfl (.yes 4 96 true (x67 == key_3) rfl rfl rfl rfl) rfl (fun hg => q_move (v := .int .i64 (tx_2)) rfl rfl) ?_
                refine ro_gval (g := (x67 == key_3)) (d := (some 100)) rfl (.yes 4 96 true (x67 == key_3) rfl rfl rfl rfl) rfl (fun hg => q_gtr (a := x68) (b := tx_2) rfl (gvb_yes hg) (gvb_yes hg)) ?_
                refine ro_val (d := (some 101)) rfl (.free rfl) rfl (q_pickGT (a := (x67 == key_3)) (b := (decide (x68 > tx_2))) rfl rfl rfl rfl) ?_
                refine ro_val (d := (some 102)) rfl (.free rfl) rfl (q_move (v := .bool (((x67 == key_3) && (decide (x68 > tx_2))))) rfl rfl) ?_
                refine ro_join (σ := Bool) (J := fun (s : Bool) w => F12_j4 a45 i_48 a56 s w K50 R) (fr := fun g (s : Bool) => upd (upd (upd (upd (upd (upd (upd (upd (upd (upd (upd (g) 1 (.int .i64 (tx_2))) 2 (.int .i64 (key_3))) 3 (.bool (write_4))) 4 (.pointer (some a5))) 8 (.pointer (some a7))) 9 (.pointer (some a9))) 12 (.pointer (some a42))) 13 (.pointer (some a45))) 14 (.int .i64 (i_48))) 15 (.pointer (some a56))) 107 (.bool (s))) [11, 12, 13, 14, 15] [] ?_ ?_
                · rintro t_69 g w70 h
                  unfold F12_j4 at h
                  refine ro_nil ?_
                  refine wp_if (b := t_69) rfl h (fun hb78 h => ?_) (fun hb78 h => ?_)
                  · refine wp_text [0, 1, 2, 3, 4, 5, 6, 7] rfl ?_
                    refine ro_val (d := (some 108)) rfl (.free rfl) rfl (q_fieldAddr (a := a45) (off := 1) rfl Try.underlying34 rfl rfl ok26 (by decide) rfl) ?_
                    obtain ⟨x71, hx71, h⟩ := h
                    refine ro_val (d := (some 109)) rfl (.free rfl) rfl (q_load (T := tSlc) (u := x71) (a := (a45.add 1)) rfl ok26 rfl hx71) ?_
                    refine ro_val (d := (some 110)) rfl (.free rfl) rfl (q_fieldAddr (a := a56) (off := 0) rfl Try.underlying80 rfl rfl ok3 (by decide) rfl) ?_
                    obtain ⟨x72, hx72, h⟩ := h
                    refine ro_val (d := (some 111)) rfl (.free rfl) rfl (q_load (T := (tInt .i64)) (u := x72) (a := (a56.add 0)) rfl ok3 rfl hx72) ?_
                    obtain ⟨a73, w74, ha73, hw74, h⟩ := apl_open h
                    refine ro_val (d := (some 112)) rfl (.free rfl) rfl (q_rowOf (T := (tInt .i64)) (xs := [x72]) rfl Try.underlying26 ok3 inf3 rfl (by decide) (by decide) rfl ha73 hw74) ?_
                    refine ro_wp rfl (.free rfl) (wp_append (d := (some 113)) (T := (tInt .i64)) rfl rfl Try.underlying26 ⟨_, Try.underlying26⟩ ok3 inf3 rfl rfl (Nat.lt_of_lt_of_le Nat.zero_lt_one (Nat.le_of_ble_eq_true rfl)) rfl rfl h ?_)
                    intro r76 w75 h
                    refine ro_val (d := (some 114)) rfl (.free rfl) rfl (q_fieldAddr (a := a45) (off := 1) rfl Try.underlying34 rfl rfl ok26 (by decide) rfl) ?_
                    obtain ⟨w77, hw77, hrw77, h⟩ := st_open h
                    refine ro_skip (d := none) rfl (.free rfl) rfl (q_store (T := tSlc) (u := r76) (a := (a45.add 1)) rfl ok26 rfl rfl hrw77 hw77) ?_
                    refine ro_nil ?_
                    exact ⟨(), _, arr (upd_step (upd_step (upd_step (upd_step (upd_step (upd_step (upd_step (upd_step (upd_step rfl rfl) rfl) rfl) rfl) rfl) rfl) rfl) rfl) rfl), h⟩
                  · refine wp_skip ?_
                    exact ⟨(), _, arr (upd_step (upd_step (upd_step (upd_step (upd_step (upd_step (upd_step (upd_step (upd_step rfl rfl) rfl) rfl) rfl) rfl) rfl) rfl) rfl) rfl), h⟩
                · refine ro_if (b := ((x67 == key_3) && (decide (x68 > tx_2)))) h (fun hb79 h => ?_) (fun hb79 h => ?_)
                  · obtain ⟨x80, hx80, h⟩ := h
                    refine ro_val (d := (some 103)) rfl (.by_ 10 true 102 ((x67 == key_3) && (decide (x68 > tx_2))) rfl rfl rfl hb79) rfl (q_load (T := T79) (u := x80) (a := a42) rfl ok80 rfl hx80) ?_
                    obtain ⟨x81, hx81, h⟩ := h
                    refine ro_val (d := (some 104)) rfl (.by_ 10 true 102 ((x67 == key_3) && (decide (x68 > tx_2))) rfl rfl rfl hb79) rfl (q_load (T := T79) (u := x81) (a := a56) rfl ok80 rfl hx81) ?_
                    refine ro_wp rfl (.by_ 10 true 102 ((x67 == key_3) && (decide (x68 > tx_2))) rfl rfl rfl hb79) (wp_cl (d := (some 105)) rfl (q_call (k := 30) (l := [T79.enc (x80), T79.enc (x81)]) rfl ent30 rfl) h ?_)
                    intro r83 w82 h
                    refine ro_val (d := (some 106)) rfl (.by_ 10 true 102 ((x67 == key_3) && (decide (x68 > tx_2))) rfl rfl rfl hb79) rfl (q_not (b := r83) rfl rfl) ?_
                    refine ro_val (d := (some 107)) rfl (.free rfl) rfl (q_pickT (v := .bool ((!r83))) (b := ((x67 == key_3) && (decide (x68 > tx_2)))) rfl rfl hb79 rfl) ?_
                    refine ro_nil ?_
                    exact ⟨((!r83)), _, arr (upd_step (upd_step (upd_step (upd_step (upd_step (upd_step (upd_step (upd_step (upd_step (upd_step (upd_step rfl rfl) rfl) rfl) rfl) rfl) rfl) rfl) rfl) rfl) rfl) rfl), h⟩
                  · refine ro_bar (d := (some 103)) rfl (.by_ 10 true 102 ((x67 == key_3) && (decide (x68 > tx_2))) rfl rfl rfl hb79) rfl ?_
                    refine ro_bar (d := (some 104)) rfl (.by_ 10 true 102 ((x67 == key_3) && (decide (x68 > tx_2))) rfl rfl rfl hb79) rfl ?_
                    refine ro_bar (d := (some 105)) rfl (.by_ 10 true 102 ((x67 == key_3) && (decide (x68 > tx_2))) rfl rfl rfl hb79) rfl ?_
                    refine ro_bar (d := (some 106)) rfl (.by_ 10 true 102 ((x67 == key_3) && (decide (x68 > tx_2))) rfl rfl rfl hb79) rfl ?_
                    refine ro_val (d := (some 107)) rfl (.free rfl) rfl (q_pickF (v := .bool (false)) (b := ((x67 == key_3) && (decide (x68 > tx_2)))) rfl rfl hb79 rfl) ?_
                    refine ro_nil ?_
                    exact ⟨(false), _, arr (upd_step (upd_step (upd_step (upd_step (upd_step (upd_step (upd_step (upd_step (upd_step (upd_step (upd_step rfl rfl) rfl) rfl) rfl) rfl) rfl) rfl) rfl) rfl) rfl) rfl), h⟩
          · refine wp_exit ?_
            refine wp_seq ?_
            refine wp_seq ?_
            refine wp_text [0, 1, 2, 3] rfl ?_
            refine ro_val (d := (some 115)) rfl (.free rfl) rfl (q_fieldAddr (a := a45) (off := 1) rfl Try.underlying34 rfl rfl ok26 (by decide) rfl) ?_
            obtain ⟨x85, hx85, h⟩ := h
            refine ro_val (d := (some 116)) rfl (.free rfl) rfl (q_load (T := tSlc) (u := x85) (a := (a45.add 1)) rfl ok26 rfl hx85) ?_
            refine ro_val (d := (some 117)) rfl (.free rfl) rfl (q_len (s := x85) rfl Try.underlying26 rfl) ?_
            refine ro_val (d := (some 118)) rfl (.free rfl) rfl (q_move (v := .int .i64 ((0 : Int))) rfl rfl) ?_
            refine ro_nil ?_
            refine wp_block ?_
            refine loop_at (σ := Int) (fr := fun g (s : Int) => upd (upd (upd (upd (upd (upd (upd (upd (upd (g) 1 (.int .i64 (tx_2))) 4 (.pointer (some a5))) 8 (.pointer (some a7))) 9 (.pointer (some a9))) 12 (.pointer (some a42))) 13 (.pointer (some a45))) 116 (tSlc.enc (x85))) 117 (.int .i64 ((x85.len : Int)))) 118 (.int .i64 (s))) (s0 := ((0 : Int))) (upd_step (upd_step (upd_step (upd_step (upd_step (upd_step (upd_step (upd_step (upd_step rfl rfl) rfl) rfl) rfl) rfl) rfl) rfl) rfl) rfl) h ?_
            rintro t_86 g w87 K88 h
            unfold F12_l5 at h
            refine wp_seq ?_
            refine wp_text [0] rfl ?_
            refine ro_val (d := (some 119)) rfl (.free rfl) rfl (q_lss (a := t_86) (b := (x85.len : Int)) rfl rfl rfl) ?_
            refine ro_nil ?_
            refine wp_seq ?_
            refine wp_if (b := (decide (t_86 < (x85.len : Int)))) rfl h (fun hb418 h => ?_) (fun hb418 h => ?_)
            · refine wp_skip ?_
              refine seq_join (σ := Unit) (J := fun (s : Unit) w => F12_j6 t_86 w K88 R) (fr := fun g (s : Unit) => upd (upd (upd (upd (upd (upd (upd (upd (upd (g) 1 (.int .i64 (tx_2))) 4 (.pointer (some a5))) 8 (.pointer (some a7))) 9 (.pointer (some a9))) 12 (.pointer (some a42))) 13 (.pointer (some a45))) 116 (tSlc.enc (x85))) 117 (.int .i64 ((x85.len : Int)))) 118 (.int .i64 (t_86))) ?_ ?_
              · rintro ⟨⟩ g w89 h
                unfold F12_j6 at h
                refine wp_text [0, 1] rfl ?_
                refine ro_val (d := (some 140)) rfl (.free rfl) rfl (q_add (a := t_86) (b := (1 : Int)) rfl rfl rfl) ?_
                refine ro_val (d := (some 118)) rfl (.free rfl) rfl (q_move (v := .int .i64 ((IntKind.i64.wrap (t_86 + (1 : Int))))) rfl rfl) ?_
                refine ro_nil ?_
                exact ⟨((IntKind.i64.wrap (t_86 + (1 : Int)))), _, arr (upd_step (upd_step (upd_step (upd_step (upd_step (upd_step (upd_step (upd_step (upd_step rfl rfl) rfl) rfl) rfl) rfl) rfl) rfl) rfl) rfl), h⟩
              · refine wp_block ?_
                refine wp_seq ?_
                refine wp_text [0, 1, 2] rfl ?_
                obtain ⟨a90, ha90, h⟩ := h
                refine ro_val (d := (some 120)) rfl (.free rfl) rfl (q_indexAddr (s := x85) (i := t_86) rfl Try.underlying26 ok3 rfl rfl ha90) ?_
                obtain ⟨x91, hx91, h⟩ := h
                refine ro_val (d := (some 121)) rfl (.free rfl) rfl (q_load (T := (tInt .i64)) (u := x91) (a := a90) rfl ok3 rfl hx91) ?_
                refine ro_val (d := (some 17)) rfl (.free rfl) rfl (q_assign (v := .int .i64 (x91)) rfl rfl) ?_
                refine ro_nil ?_
                obtain ⟨w92, hw92, h⟩ := dr_open h
                refine wp_drawn 21 mixed rfl (by kernel_rfl) (by intro c a d v w h; cases d <;> exact h) hw92 (fun hD => ?_)
                refine rd_pure (i := 0) (d := (some 122)) hD (by kernel_rfl) (by kernel_rfl) rfl (.free rfl) rfl (fun _ => q_fieldAddr (a := a5) (off := 0) rfl Try.underlying28 rfl rfl ok25 (by decide) rfl) ?_
                refine rd_pure (i := 2) (d := (some 124)) hD (by kernel_rfl) (by kernel_rfl) rfl (.free rfl) rfl (fun _ => q_move (v := .int .i64 (x91)) rfl rfl) ?_
                refine rd_pure (i := 4) (d := (some 126)) hD (by kernel_rfl) (by kernel_rfl) rfl (.free rfl) rfl (fun _ => q_fieldAddr (a := a5) (off := 1) rfl Try.underlying28 rfl rfl ok25 (by decide) rfl) ?_
                refine rd_pure (i := 6) (d := (some 128)) hD (by kernel_rfl) (by kernel_rfl) rfl (.free rfl) rfl (fun _ => q_move (v := .int .i64 (x91)) rfl rfl) ?_
                refine rd_pure (i := 9) (d := (some 131)) hD (by kernel_rfl) (by kernel_rfl) rfl (.free rfl) rfl (fun _ => q_fieldAddr (a := a5) (off := 2) rfl Try.underlying28 rfl rfl ok26 (by decide) rfl) ?_
                refine rd_pure (i := 12) (d := (some 134)) hD (by kernel_rfl) (by kernel_rfl) rfl (.free rfl) rfl (fun _ => q_move (v := .int .i64 (x91)) rfl rfl) ?_
                obtain ⟨x93, hx93, h⟩ := h
                refine rd_read (i := 1) (d := (some 123)) (fun W => (RdAt tSlc (a5.add 0) W) x93) hD (by kernel_rfl) (by kernel_rfl) rfl (.free rfl) rfl (fun W hr => q_load (T := tSlc) (u := x93) (a := (a5.add 0)) rfl ok25 rfl hr) hx93 ?_
                obtain ⟨x94, hx94, h⟩ := h
                refine rd_read (i := 5) (d := (some 127)) (fun W => (RdAt tSlc (a5.add 1) W) x94) hD (by kernel_rfl) (by kernel_rfl) rfl (.free rfl) rfl (fun W hr => q_load (T := tSlc) (u := x94) (a := (a5.add 1)) rfl ok25 rfl hr) hx94 ?_
                obtain ⟨x95, hx95, h⟩ := h
                refine rd_read (i := 10) (d := (some 132)) (fun W => (RdAt tSlc (a5.add 2) W) x95) hD (by kernel_rfl) (by kernel_rfl) rfl (.free rfl) rfl (fun W hr => q_load (T := tSlc) (u := x95) (a := (a5.add 2)) rfl ok26 rfl hr) hx95 ?_
                obtain ⟨h, h', h''⟩ := h
                refine rd_three (i := 3) (j := 8) (m := 13) (by kernel_rfl) ?_ ?_ ?_
                · clear h' h''
                  refine po_wp rfl (.free rfl) (wp_cl (d := (some 125)) rfl (q_call (k := 31) (l := [tSlc.enc (x93), .int .i64 (x91)]) rfl ent31 rfl) h ?_)
                  intro r97 w96 h
                  obtain ⟨hk98, h⟩ := h
                  obtain ⟨hk99, h⟩ := h
                  refine ⟨(hk_keep (fun _ => hk99) (hk_keep (fun _ => hk98) (hk_wait (by kernel_rfl) hk_nil))), ?_⟩
                  refine rd_pure (i := 15) (d := (some 137)) hD (by kernel_rfl) (by kernel_rfl) rfl (.free rfl) rfl (fun _ => q_fieldAddr (a := a5) (off := 0) rfl Try.underlying28 rfl rfl ok25 (by decide) rfl) ?_
                  obtain ⟨h, h', h''⟩ := h
                  refine rd_three (i := 7) (j := 8) (m := 13) (by kernel_rfl) ?_ ?_ ?_
                  · clear h' h''
                    refine po_wp rfl (.free rfl) (wp_cl (d := (some 129)) rfl (q_call (k := 31) (l := [tSlc.enc (x94), .int .i64 (x91)]) rfl ent31 rfl) h ?_)
                    intro r101 w100 h
                    obtain ⟨hk102, h⟩ := h
                    obtain ⟨hk103, h⟩ := h
                    refine ⟨(hk_keep (fun _ => hk103) (hk_wait (by kernel_rfl) (hk_keep (fun _ => hk102) hk_nil))), ?_⟩
                    obtain ⟨h, h'⟩ := h
                    refine rd_two (i := 8) (j := 13) (by kernel_rfl) ?_ ?_
                    · clear h'
                      obtain ⟨a104, w105, ha104, hw105, h⟩ := nwS_open h
                      refine po_val (d := (some 130)) rfl (.free rfl) rfl (q_row0 (T := (tInt .i64)) rfl Try.underlying26 ok3 inf3 ha104 hw105) ⟨(hk_keep (fun h => keep_RdAt hw105 h) (hk_keep (fun h => keep_RdAt hw105 h) (hk_keep (fun h => keep_RdAt hw105 h) hk_nil))), ?_⟩
                      obtain ⟨h, h'⟩ := h
                      refine rd_two (i := 11) (j := 13) (by kernel_rfl) ?_ ?_
                      · clear h'
                        refine po_wp rfl (.free rfl) (wp_append (d := (some 133)) (T := (tInt .i64)) rfl rfl Try.underlying26 ⟨_, Try.underlying26⟩ ok3 inf3 rfl rfl (Nat.lt_of_lt_of_le Nat.zero_lt_one (Nat.le_of_ble_eq_true rfl)) rfl rfl h ?_)
                        intro r107 w106 h
                        obtain ⟨hk108, h⟩ := h
                        obtain ⟨hk109, h⟩ := h
                        refine ⟨(hk_wait (by kernel_rfl) (hk_keep (fun _ => hk109) (hk_keep (fun _ => hk108) hk_nil))), ?_⟩
                        refine rd_one (i := 13) (by kernel_rfl) ?_
                        obtain ⟨a110, w111, ha110, hw111, h⟩ := apl_open h
                        refine po_val (d := (some 135)) rfl (.free rfl) rfl (q_rowOf (T := (tInt .i64)) (xs := [x91]) rfl Try.underlying26 ok3 inf3 rfl (by decide) (by decide) rfl ha110 hw111) ⟨(hk_keep (fun h => keep_RdAt hw111 h) (hk_keep (fun h => keep_RdAt hw111 h) (hk_keep (fun h => keep_RdAt hw111 h) hk_nil))), ?_⟩
                        refine rd_one (i := 14) (by kernel_rfl) ?_
                        refine po_wp rfl (.free rfl) (wp_append (d := (some 136)) (T := (tInt .i64)) rfl rfl Try.underlying26 ⟨_, Try.underlying26⟩ ok3 inf3 rfl rfl (Nat.lt_of_lt_of_le Nat.zero_lt_one (Nat.le_of_ble_eq_true rfl)) rfl rfl h ?_)
                        intro r113 w112 h
                        obtain ⟨hk114, h⟩ := h
                        obtain ⟨hk115, h⟩ := h
                        obtain ⟨hk116, h⟩ := h
                        refine ⟨(hk_keep (fun _ => hk116) (hk_keep (fun _ => hk115) (hk_keep (fun _ => hk114) hk_nil))), ?_⟩
                        refine rd_one (i := 16) (by kernel_rfl) ?_
                        obtain ⟨w117, hw117, hrw117, h⟩ := st_open h
                        refine po_skip (d := none) rfl (.free rfl) rfl (q_store (T := tSlc) (u := r97) (a := (a5.add 0)) rfl ok25 rfl rfl hrw117 hw117) ⟨(hk_wait (by kernel_rfl) (hk_wait (by kernel_rfl) (hk_wait (by kernel_rfl) hk_nil))), ?_⟩
                        refine rd_pure (i := 17) (d := (some 138)) hD (by kernel_rfl) (by kernel_rfl) rfl (.free rfl) rfl (fun _ => q_fieldAddr (a := a5) (off := 1) rfl Try.underlying28 rfl rfl ok25 (by decide) rfl) ?_
                        refine rd_one (i := 18) (by kernel_rfl) ?_
                        obtain ⟨w118, hw118, hrw118, h⟩ := st_open h
                        refine po_skip (d := none) rfl (.free rfl) rfl (q_store (T := tSlc) (u := r101) (a := (a5.add 1)) rfl ok25 rfl rfl hrw118 hw118) ⟨(hk_wait (by kernel_rfl) (hk_wait (by kernel_rfl) (hk_wait (by kernel_rfl) hk_nil))), ?_⟩
                        refine rd_pure (i := 19) (d := (some 139)) hD (by kernel_rfl) (by kernel_rfl) rfl (.free rfl) rfl (fun _ => q_fieldAddr (a := a5) (off := 2) rfl Try.underlying28 rfl rfl ok26 (by decide) rfl) ?_
                        refine rd_one (i := 20) (by kernel_rfl) ?_
                        obtain ⟨w119, hw119, hrw119, h⟩ := st_open h
                        refine po_skip (d := none) rfl (.free rfl) rfl (q_store (T := tSlc) (u := r113) (a := (a5.add 2)) rfl ok26 rfl rfl hrw119 hw119) ⟨(hk_wait (by kernel_rfl) (hk_wait (by kernel_rfl) (hk_wait (by kernel_rfl) hk_nil))), ?_⟩
                        refine rd_nil (by kernel_rfl) ?_
                        exact ⟨(), _, arr (upd_step (upd_step (upd_step (upd_step (upd_step (upd_step (upd_step (upd_step (upd_step rfl rfl) rfl) rfl) rfl) rfl) rfl) rfl) rfl) rfl), h⟩
                      · replace h := h'; clear h'
                        obtain ⟨a120, w121, ha120, hw121, h⟩ := nwS_open h
                        refine po_val (d := (some 135)) rfl (.free rfl) rfl (q_rowOf (T := (tInt .i64)) (xs := [x91]) rfl Try.underlying26 ok3 inf3 rfl (by decide) (by decide) rfl ha120 hw121) ⟨(hk_keep (fun h => keep_RdAt hw121 h) (hk_keep (fun h => keep_RdAt hw121 h) (hk_keep (fun h => keep_RdAt hw121 h) hk_nil))), ?_⟩
                        refine rd_one (i := 11) (by kernel_rfl) ?_
                        refine po_wp rfl (.free rfl) (wp_append (d := (some 133)) (T := (tInt .i64)) rfl rfl Try.underlying26 ⟨_, Try.underlying26⟩ ok3 inf3 rfl rfl (Nat.lt_of_lt_of_le Nat.zero_lt_one (Nat.le_of_ble_eq_true rfl)) rfl rfl h ?_)
                        intro r123 w122 h
                        obtain ⟨hk124, h⟩ := h
                        obtain ⟨hk125, h⟩ := h
                        refine ⟨(hk_wait (by kernel_rfl) (hk_keep (fun _ => hk125) (hk_keep (fun _ => hk124) hk_nil))), ?_⟩
                        refine rd_one (i := 14) (by kernel_rfl) ?_
                        refine po_wp rfl (.free rfl) (wp_append (d := (some 136)) (T := (tInt .i64)) rfl rfl Try.underlying26 ⟨_, Try.underlying26⟩ ok3 inf3 rfl rfl (Nat.lt_of_lt_of_le Nat.zero_lt_one (Nat.le_of_ble_eq_true rfl)) rfl rfl h ?_)
                        intro r127 w126 h
                        obtain ⟨hk128, h⟩ := h
                        obtain ⟨hk129, h⟩ := h
                        obtain ⟨hk130, h⟩ := h
                        refine ⟨(hk_keep (fun _ => hk130) (hk_keep (fun _ => hk129) (hk_keep (fun _ => hk128) hk_nil))), ?_⟩
                        refine rd_one (i := 16) (by kernel_rfl) ?_
                        obtain ⟨w131, hw131, hrw131, h⟩ := st_open h
                        refine po_skip (d := none) rfl (.free rfl) rfl (q_store (T := tSlc) (u := r97) (a := (a5.add 0)) rfl ok25 rfl rfl hrw131 hw131) ⟨(hk_wait (by kernel_rfl) (hk_wait (by kernel_rfl) (hk_wait (by kernel_rfl) hk_nil))), ?_⟩
                        refine rd_pure (i := 17) (d := (some 138)) hD (by kernel_rfl) (by kernel_rfl) rfl (.free rfl) rfl (fun _ => q_fieldAddr (a := a5) (off := 1) rfl Try.underlying28 rfl rfl ok25 (by decide) rfl) ?_
                        refine rd_one (i := 18) (by kernel_rfl) ?_
                        obtain ⟨w132, hw132, hrw132, h⟩ := st_open h
                        refine po_skip (d := none) rfl (.free rfl) rfl (q_store (T := tSlc) (u := r101) (a := (a5.add 1)) rfl ok25 rfl rfl hrw132 hw132) ⟨(hk_wait (by kernel_rfl) (hk_wait (by kernel_rfl) (hk_wait (by kernel_rfl) hk_nil))), ?_⟩
                        refine rd_pure (i := 19) (d := (some 139)) hD (by kernel_rfl) (by kernel_rfl) rfl (.free rfl) rfl (fun _ => q_fieldAddr (a := a5) (off := 2) rfl Try.underlying28 rfl rfl ok26 (by decide) rfl) ?_
                        refine rd_one (i := 20) (by kernel_rfl) ?_
                        obtain ⟨w133, hw133, hrw133, h⟩ := st_open h
                        refine po_skip (d := none) rfl (.free rfl) rfl (q_store (T := tSlc) (u := r127) (a := (a5.add 2)) rfl ok26 rfl rfl hrw133 hw133) ⟨(hk_wait (by kernel_rfl) (hk_wait (by kernel_rfl) (hk_wait (by kernel_rfl) hk_nil))), ?_⟩
                        refine rd_nil (by kernel_rfl) ?_
                        exact ⟨(), _, arr (upd_step (upd_step (upd_step (upd_step (upd_step (upd_step (upd_step (upd_step (upd_step rfl rfl) rfl) rfl) rfl) rfl) rfl) rfl) rfl) rfl), h⟩
                    · replace h := h'; clear h'
                      obtain ⟨a134, w135, ha134, hw135, h⟩ := nwS_open h
                      refine po_val (d := (some 135)) rfl (.free rfl) rfl (q_rowOf (T := (tInt .i64)) (xs := [x91]) rfl Try.underlying26 ok3 inf3 rfl (by decide) (by decide) rfl ha134 hw135) ⟨(hk_keep (fun h => keep_RdAt hw135 h) (hk_keep (fun h => keep_RdAt hw135 h) (hk_keep (fun h => keep_RdAt hw135 h) hk_nil))), ?_⟩
                      refine rd_one (i := 8) (by kernel_rfl) ?_
                      obtain ⟨a136, w137, ha136, hw137, h⟩ := nwS_open h
                      refine po_val (d := (some 130)) rfl (.free rfl) rfl (q_row0 (T := (tInt .i64)) rfl Try.underlying26 ok3 inf3 ha136 hw137) ⟨(hk_keep (fun h => keep_RdAt hw137 h) (hk_keep (fun h => keep_RdAt hw137 h) (hk_keep (fun h => keep_RdAt hw137 h) hk_nil))), ?_⟩
                      refine rd_one (i := 11) (by kernel_rfl) ?_
                      refine po_wp rfl (.free rfl) (wp_append (d := (some 133)) (T := (tInt .i64)) rfl rfl Try.underlying26 ⟨_, Try.underlying26⟩ ok3 inf3 rfl rfl (Nat.lt_of_lt_of_le Nat.zero_lt_one (Nat.le_of_ble_eq_true rfl)) rfl rfl h ?_)
                      intro r139 w138 h
                      obtain ⟨hk140, h⟩ := h
                      obtain ⟨hk141, h⟩ := h
                      refine ⟨(hk_wait (by kernel_rfl) (hk_keep (fun _ => hk141) (hk_keep (fun _ => hk140) hk_nil))), ?_⟩
                      refine rd_one (i := 14) (by kernel_rfl) ?_
                      refine po_wp rfl (.free rfl) (wp_append (d := (some 136)) (T := (tInt .i64)) rfl rfl Try.underlying26 ⟨_, Try.underlying26⟩ ok3 inf3 rfl rfl (Nat.lt_of_lt_of_le Nat.zero_lt_one (Nat.le_of_ble_eq_true rfl)) rfl rfl h ?_)
                      intro r143 w142 h
                      obtain ⟨hk144, h⟩ := h
                      obtain ⟨hk145, h⟩ := h
                      obtain ⟨hk146, h⟩ := h
                      refine ⟨(hk_keep (fun _ => hk146) (hk_keep (fun _ => hk145) (hk_keep (fun _ => hk144) hk_nil))), ?_⟩
                      refine rd_one (i := 16) (by kernel_rfl) ?_
                      obtain ⟨w147, hw147, hrw147, h⟩ := st_open h
                      refine po_skip (d := none) rfl (.free rfl) rfl (q_store (T := tSlc) (u := r97) (a := (a5.add 0)) rfl ok25 rfl rfl hrw147 hw147) ⟨(hk_wait (by kernel_rfl) (hk_wait (by kernel_rfl) (hk_wait (by kernel_rfl) hk_nil))), ?_⟩
                      refine rd_pure (i := 17) (d := (some 138)) hD (by kernel_rfl) (by kernel_rfl) rfl (.free rfl) rfl (fun _ => q_fieldAddr (a := a5) (off := 1) rfl Try.underlying28 rfl rfl ok25 (by decide) rfl) ?_
                      refine rd_one (i := 18) (by kernel_rfl) ?_
                      obtain ⟨w148, hw148, hrw148, h⟩ := st_open h
                      refine po_skip (d := none) rfl (.free rfl) rfl (q_store (T := tSlc) (u := r101) (a := (a5.add 1)) rfl ok25 rfl rfl hrw148 hw148) ⟨(hk_wait (by kernel_rfl) (hk_wait (by kernel_rfl) (hk_wait (by kernel_rfl) hk_nil))), ?_⟩
                      refine rd_pure (i := 19) (d := (some 139)) hD (by kernel_rfl) (by kernel_rfl) rfl (.free rfl) rfl (fun _ => q_fieldAddr (a := a5) (off := 2) rfl Try.underlying28 rfl rfl ok26 (by decide) rfl) ?_
                      refine rd_one (i := 20) (by kernel_rfl) ?_
                      obtain ⟨w149, hw149, hrw149, h⟩ := st_open h
                      refine po_skip (d := none) rfl (.free rfl) rfl (q_store (T := tSlc) (u := r143) (a := (a5.add 2)) rfl ok26 rfl rfl hrw149 hw149) ⟨(hk_wait (by kernel_rfl) (hk_wait (by kernel_rfl) (hk_wait (by kernel_rfl) hk_nil))), ?_⟩
                      refine rd_nil (by kernel_rfl) ?_
                      exact ⟨(), _, arr (upd_step (upd_step (upd_step (upd_step (upd_step (upd_step (upd_step (upd_step (upd_step rfl rfl) rfl) rfl) rfl) rfl) rfl) rfl) rfl) rfl), h⟩
                  · replace h := h'; clear h' h''
                    obtain ⟨a150, w151, ha150, hw151, h⟩ := nwS_open h
                    refine po_val (d := (some 130)) rfl (.free rfl) rfl (q_row0 (T := (tInt .i64)) rfl Try.underlying26 ok3 inf3 ha150 hw151) ⟨(hk_keep (fun h => keep_RdAt hw151 h) (hk_keep (fun h => keep_RdAt hw151 h) (hk_keep (fun h => keep_RdAt hw151 h) hk_nil))), ?_⟩
                    obtain ⟨h, h'⟩ := h
                    refine rd_two (i := 7) (j := 13) (by kernel_rfl) ?_ ?_
                    · clear h'
                      refine po_wp rfl (.free rfl) (wp_cl (d := (some 129)) rfl (q_call (k := 31) (l := [tSlc.enc (x94), .int .i64 (x91)]) rfl ent31 rfl) h ?_)
                      intro r153 w152 h
                      obtain ⟨hk154, h⟩ := h
                      obtain ⟨hk155, h⟩ := h
                      refine ⟨(hk_keep (fun _ => hk155) (hk_wait (by kernel_rfl) (hk_keep (fun _ => hk154) hk_nil))), ?_⟩
                      obtain ⟨h, h'⟩ := h
                      refine rd_two (i := 11) (j := 13) (by kernel_rfl) ?_ ?_
                      · clear h'
                        refine po_wp rfl (.free rfl) (wp_append (d := (some 133)) (T := (tInt .i64)) rfl rfl Try.underlying26 ⟨_, Try.underlying26⟩ ok3 inf3 rfl rfl (Nat.lt_of_lt_of_le Nat.zero_lt_one (Nat.le_of_ble_eq_true rfl)) rfl rfl h ?_)
                        intro r157 w156 h
                        obtain ⟨hk158, h⟩ := h
                        obtain ⟨hk159, h⟩ := h
                        refine ⟨(hk_wait (by kernel_rfl) (hk_keep (fun _ => hk159) (hk_keep (fun _ => hk158) hk_nil))), ?_⟩
                        refine rd_one (i := 13) (by kernel_rfl) ?_
                        obtain ⟨a160, w161, ha160, hw161, h⟩ := apl_open h
                        refine po_val (d := (some 135)) rfl (.free rfl) rfl (q_rowOf (T := (tInt .i64)) (xs := [x91]) rfl Try.underlying26 ok3 inf3 rfl (by decide) (by decide) rfl ha160 hw161) ⟨(hk_keep (fun h => keep_RdAt hw161 h) (hk_keep (fun h => keep_RdAt hw161 h) (hk_keep (fun h => keep_RdAt hw161 h) hk_nil))), ?_⟩
                        refine rd_one (i := 14) (by kernel_rfl) ?_
                        refine po_wp rfl (.free rfl) (wp_append (d := (some 136)) (T := (tInt .i64)) rfl rfl Try.underlying26 ⟨_, Try.underlying26⟩ ok3 inf3 rfl rfl (Nat.lt_of_lt_of_le Nat.zero_lt_one (Nat.le_of_ble_eq_true rfl)) rfl rfl h ?_)
                        intro r163 w162 h
                        obtain ⟨hk164, h⟩ := h
                        obtain ⟨hk165, h⟩ := h
                        obtain ⟨hk166, h⟩ := h
                        refine ⟨(hk_keep (fun _ => hk166) (hk_keep (fun _ => hk165) (hk_keep (fun _ => hk164) hk_nil))), ?_⟩
                        refine rd_one (i := 16) (by kernel_rfl) ?_
                        obtain ⟨w167, hw167, hrw167, h⟩ := st_open h
                        refine po_skip (d := none) rfl (.free rfl) rfl (q_store (T := tSlc) (u := r97) (a := (a5.add 0)) rfl ok25 rfl rfl hrw167 hw167) ⟨(hk_wait (by kernel_rfl) (hk_wait (by kernel_rfl) (hk_wait (by kernel_rfl) hk_nil))), ?_⟩
                        refine rd_pure (i := 17) (d := (some 138)) hD (by kernel_rfl) (by kernel_rfl) rfl (.free rfl) rfl (fun _ => q_fieldAddr (a := a5) (off := 1) rfl Try.underlying28 rfl rfl ok25 (by decide) rfl) ?_
                        refine rd_one (i := 18) (by kernel_rfl) ?_
                        obtain ⟨w168, hw168, hrw168, h⟩ := st_open h
                        refine po_skip (d := none) rfl (.free rfl) rfl (q_store (T := tSlc) (u := r153) (a := (a5.add 1)) rfl ok25 rfl rfl hrw168 hw168) ⟨(hk_wait (by kernel_rfl) (hk_wait (by kernel_rfl) (hk_wait (by kernel_rfl) hk_nil))), ?_⟩
                        refine rd_pure (i := 19) (d := (some 139)) hD (by kernel_rfl) (by kernel_rfl) rfl (.free rfl) rfl (fun _ => q_fieldAddr (a := a5) (off := 2) rfl Try.underlying28 rfl rfl ok26 (by decide) rfl) ?_
                        refine rd_one (i := 20) (by kernel_rfl) ?_
                        obtain ⟨w169, hw169, hrw169, h⟩ := st_open h
                        refine po_skip (d := none) rfl (.free rfl) rfl (q_store (T := tSlc) (u := r163) (a := (a5.add 2)) rfl ok26 rfl rfl hrw169 hw169) ⟨(hk_wait (by kernel_rfl) (hk_wait (by kernel_rfl) (hk_wait (by kernel_rfl) hk_nil))), ?_⟩
                        refine rd_nil (by kernel_rfl) ?_
                        exact ⟨(), _, arr (upd_step (upd_step (upd_step (upd_step (upd_step (upd_step (upd_step (upd_step (upd_step rfl rfl) rfl) rfl) rfl) rfl) rfl) rfl) rfl) rfl), h⟩
                      · replace h := h'; clear h'
                        obtain ⟨a170, w171, ha170, hw171, h⟩ := nwS_open h
                        refine po_val (d := (some 135)) rfl (.free rfl) rfl (q_rowOf (T := (tInt .i64)) (xs := [x91]) rfl Try.underlying26 ok3 inf3 rfl (by decide) (by decide) rfl ha170 hw171) ⟨(hk_keep (fun h => keep_RdAt hw171 h) (hk_keep (fun h => keep_RdAt hw171 h) (hk_keep (fun h => keep_RdAt hw171 h) hk_nil))), ?_⟩
                        refine rd_one (i := 11) (by kernel_rfl) ?_
                        refine po_wp rfl (.free rfl) (wp_append (d := (some 133)) (T := (tInt .i64)) rfl rfl Try.underlying26 ⟨_, Try.underlying26⟩ ok3 inf3 rfl rfl (Nat.lt_of_lt_of_le Nat.zero_lt_one (Nat.le_of_ble_eq_true rfl)) rfl rfl h ?_)
                        intro r173 w172 h
                        obtain ⟨hk174, h⟩ := h
                        obtain ⟨hk175, h⟩ := h
                        refine ⟨(hk_wait (by kernel_rfl) (hk_keep (fun _ => hk175) (hk_keep (fun _ => hk174) hk_nil))), ?_⟩
                        refine rd_one (i := 14) (by kernel_rfl) ?_
                        refine po_wp rfl (.free rfl) (wp_append (d := (some 136)) (T := (tInt .i64)) rfl rfl Try.underlying26 ⟨_, Try.underlying26⟩ ok3 inf3 rfl rfl (Nat.lt_of_lt_of_le Nat.zero_lt_one (Nat.le_of_ble_eq_true rfl)) rfl rfl h ?_)
                        intro r177 w176 h
                        obtain ⟨hk178, h⟩ := h
                        obtain ⟨hk179, h⟩ := h
                        obtain ⟨hk180, h⟩ := h
                        refine ⟨(hk_keep (fun _ => hk180) (hk_keep (fun _ => hk179) (hk_keep (fun _ => hk178) hk_nil))), ?_⟩
                        refine rd_one (i := 16) (by kernel_rfl) ?_
                        obtain ⟨w181, hw181, hrw181, h⟩ := st_open h
                        refine po_skip (d := none) rfl (.free rfl) rfl (q_store (T := tSlc) (u := r97) (a := (a5.add 0)) rfl ok25 rfl rfl hrw181 hw181) ⟨(hk_wait (by kernel_rfl) (hk_wait (by kernel_rfl) (hk_wait (by kernel_rfl) hk_nil))), ?_⟩
                        refine rd_pure (i := 17) (d := (some 138)) hD (by kernel_rfl) (by kernel_rfl) rfl (.free rfl) rfl (fun _ => q_fieldAddr (a := a5) (off := 1) rfl Try.underlying28 rfl rfl ok25 (by decide) rfl) ?_
                        refine rd_one (i := 18) (by kernel_rfl) ?_
                        obtain ⟨w182, hw182, hrw182, h⟩ := st_open h
                        refine po_skip (d := none) rfl (.free rfl) rfl (q_store (T := tSlc) (u := r153) (a := (a5.add 1)) rfl ok25 rfl rfl hrw182 hw182) ⟨(hk_wait (by kernel_rfl) (hk_wait (by kernel_rfl) (hk_wait (by kernel_rfl) hk_nil))), ?_⟩
                        refine rd_pure (i := 19) (d := (some 139)) hD (by kernel_rfl) (by kernel_rfl) rfl (.free rfl) rfl (fun _ => q_fieldAddr (a := a5) (off := 2) rfl Try.underlying28 rfl rfl ok26 (by decide) rfl) ?_
                        refine rd_one (i := 20) (by kernel_rfl) ?_
                        obtain ⟨w183, hw183, hrw183, h⟩ := st_open h
                        refine po_skip (d := none) rfl (.free rfl) rfl (q_store (T := tSlc) (u := r177) (a := (a5.add 2)) rfl ok26 rfl rfl hrw183 hw183) ⟨(hk_wait (by kernel_rfl) (hk_wait (by kernel_rfl) (hk_wait (by kernel_rfl) hk_nil))), ?_⟩
                        refine rd_nil (by kernel_rfl) ?_
                        exact ⟨(), _, arr (upd_step (upd_step (upd_step (upd_step (upd_step (upd_step (upd_step (upd_step (upd_step rfl rfl) rfl) rfl) rfl) rfl) rfl) rfl) rfl) rfl), h⟩
                    · replace h := h'; clear h'
                      obtain ⟨a184, w185, ha184, hw185, h⟩ := nwS_open h
                      refine po_val (d := (some 135)) rfl (.free rfl) rfl (q_rowOf (T := (tInt .i64)) (xs := [x91]) rfl Try.underlying26 ok3 inf3 rfl (by decide) (by decide) rfl ha184 hw185) ⟨(hk_keep (fun h => keep_RdAt hw185 h) (hk_keep (fun h => keep_RdAt hw185 h) (hk_keep (fun h => keep_RdAt hw185 h) hk_nil))), ?_⟩
                      refine rd_one (i := 7) (by kernel_rfl) ?_
                      refine po_wp rfl (.free rfl) (wp_cl (d := (some 129)) rfl (q_call (k := 31) (l := [tSlc.enc (x94), .int .i64 (x91)]) rfl ent31 rfl) h ?_)
                      intro r187 w186 h
                      obtain ⟨hk188, h⟩ := h
                      obtain ⟨hk189, h⟩ := h
                      refine ⟨(hk_keep (fun _ => hk189) (hk_wait (by kernel_rfl) (hk_keep (fun _ => hk188) hk_nil))), ?_⟩
                      refine rd_one (i := 11) (by kernel_rfl) ?_
                      refine po_wp rfl (.free rfl) (wp_append (d := (some 133)) (T := (tInt .i64)) rfl rfl Try.underlying26 ⟨_, Try.underlying26⟩ ok3 inf3 rfl rfl (Nat.lt_of_lt_of_le Nat.zero_lt_one (Nat.le_of_ble_eq_true rfl)) rfl rfl h ?_)
                      intro r191 w190 h
                      obtain ⟨hk192, h⟩ := h
                      obtain ⟨hk193, h⟩ := h
                      refine ⟨(hk_wait (by kernel_rfl) (hk_keep (fun _ => hk193) (hk_keep (fun _ => hk192) hk_nil))), ?_⟩
                      refine rd_one (i := 14) (by kernel_rfl) ?_
                      refine po_wp rfl (.free rfl) (wp_append (d := (some 136)) (T := (tInt .i64)) rfl rfl Try.underlying26 ⟨_, Try.underlying26⟩ ok3 inf3 rfl rfl (Nat.lt_of_lt_of_le Nat.zero_lt_one (Nat.le_of_ble_eq_true rfl)) rfl rfl h ?_)
                      intro r195 w194 h
                      obtain ⟨hk196, h⟩ := h
                      obtain ⟨hk197, h⟩ := h
                      obtain ⟨hk198, h⟩ := h
                      refine ⟨(hk_keep (fun _ => hk198) (hk_keep (fun _ => hk197) (hk_keep (fun _ => hk196) hk_nil))), ?_⟩
                      refine rd_one (i := 16) (by kernel_rfl) ?_
                      obtain ⟨w199, hw199, hrw199, h⟩ := st_open h
                      refine po_skip (d := none) rfl (.free rfl) rfl (q_store (T := tSlc) (u := r97) (a := (a5.add 0)) rfl ok25 rfl rfl hrw199 hw199) ⟨(hk_wait (by kernel_rfl) (hk_wait (by kernel_rfl) (hk_wait (by kernel_rfl) hk_nil))), ?_⟩
                      refine rd_pure (i := 17) (d := (some 138)) hD (by kernel_rfl) (by kernel_rfl) rfl (.free rfl) rfl (fun _ => q_fieldAddr (a := a5) (off := 1) rfl Try.underlying28 rfl rfl ok25 (by decide) rfl) ?_
                      refine rd_one (i := 18) (by kernel_rfl) ?_
                      obtain ⟨w200, hw200, hrw200, h⟩ := st_open h
                      refine po_skip (d := none) rfl (.free rfl) rfl (q_store (T := tSlc) (u := r187) (a := (a5.add 1)) rfl ok25 rfl rfl hrw200 hw200) ⟨(hk_wait (by kernel_rfl) (hk_wait (by kernel_rfl) (hk_wait (by kernel_rfl) hk_nil))), ?_⟩
                      refine rd_pure (i := 19) (d := (some 139)) hD (by kernel_rfl) (by kernel_rfl) rfl (.free rfl) rfl (fun _ => q_fieldAddr (a := a5) (off := 2) rfl Try.underlying28 rfl rfl ok26 (by decide) rfl) ?_
                      refine rd_one (i := 20) (by kernel_rfl) ?_
                      obtain ⟨w201, hw201, hrw201, h⟩ := st_open h
                      refine po_skip (d := none) rfl (.free rfl) rfl (q_store (T := tSlc) (u := r195) (a := (a5.add 2)) rfl ok26 rfl rfl hrw201 hw201) ⟨(hk_wait (by kernel_rfl) (hk_wait (by kernel_rfl) (hk_wait (by kernel_rfl) hk_nil))), ?_⟩
                      refine rd_nil (by kernel_rfl) ?_
                      exact ⟨(), _, arr (upd_step (upd_step (upd_step (upd_step (upd_step (upd_step (upd_step (upd_step (upd_step rfl rfl) rfl) rfl) rfl) rfl) rfl) rfl) rfl) rfl), h⟩
                  · replace h := h''; clear h' h''
                    obtain ⟨a202, w203, ha202, hw203, h⟩ := nwS_open h
                    refine po_val (d := (some 135)) rfl (.free rfl) rfl (q_rowOf (T := (tInt .i64)) (xs := [x91]) rfl Try.underlying26 ok3 inf3 rfl (by decide) (by decide) rfl ha202 hw203) ⟨(hk_keep (fun h => keep_RdAt hw203 h) (hk_keep (fun h => keep_RdAt hw203 h) (hk_keep (fun h => keep_RdAt hw203 h) hk_nil))), ?_⟩
                    obtain ⟨h, h'⟩ := h
                    refine rd_two (i := 7) (j := 8) (by kernel_rfl) ?_ ?_
                    · clear h'
                      refine po_wp rfl (.free rfl) (wp_cl (d := (some 129)) rfl (q_call (k := 31) (l := [tSlc.enc (x94), .int .i64 (x91)]) rfl ent31 rfl) h ?_)
                      intro r205 w204 h
                      obtain ⟨hk206, h⟩ := h
                      obtain ⟨hk207, h⟩ := h
                      refine ⟨(hk_keep (fun _ => hk207) (hk_wait (by kernel_rfl) (hk_keep (fun _ => hk206) hk_nil))), ?_⟩
                      refine rd_one (i := 8) (by kernel_rfl) ?_
                      obtain ⟨a208, w209, ha208, hw209, h⟩ := nwS_open h
                      refine po_val (d := (some 130)) rfl (.free rfl) rfl (q_row0 (T := (tInt .i64)) rfl Try.underlying26 ok3 inf3 ha208 hw209) ⟨(hk_keep (fun h => keep_RdAt hw209 h) (hk_keep (fun h => keep_RdAt hw209 h) (hk_keep (fun h => keep_RdAt hw209 h) hk_nil))), ?_⟩
                      refine rd_one (i := 11) (by kernel_rfl) ?_
                      refine po_wp rfl (.free rfl) (wp_append (d := (some 133)) (T := (tInt .i64)) rfl rfl Try.underlying26 ⟨_, Try.underlying26⟩ ok3 inf3 rfl rfl (Nat.lt_of_lt_of_le Nat.zero_lt_one (Nat.le_of_ble_eq_true rfl)) rfl rfl h ?_)
                      intro r211 w210 h
                      obtain ⟨hk212, h⟩ := h
                      obtain ⟨hk213, h⟩ := h
                      refine ⟨(hk_wait (by kernel_rfl) (hk_keep (fun _ => hk213) (hk_keep (fun _ => hk212) hk_nil))), ?_⟩
                      refine rd_one (i := 14) (by kernel_rfl) ?_
                      refine po_wp rfl (.free rfl) (wp_append (d := (some 136)) (T := (tInt .i64)) rfl rfl Try.underlying26 ⟨_, Try.underlying26⟩ ok3 inf3 rfl rfl (Nat.lt_of_lt_of_le Nat.zero_lt_one (Nat.le_of_ble_eq_true rfl)) rfl rfl h ?_)
                      intro r215 w214 h
                      obtain ⟨hk216, h⟩ := h
                      obtain ⟨hk217, h⟩ := h
                      obtain ⟨hk218, h⟩ := h
                      refine ⟨(hk_keep (fun _ => hk218) (hk_keep (fun _ => hk217) (hk_keep (fun _ => hk216) hk_nil))), ?_⟩
                      refine rd_one (i := 16) (by kernel_rfl) ?_
                      obtain ⟨w219, hw219, hrw219, h⟩ := st_open h
                      refine po_skip (d := none) rfl (.free rfl) rfl (q_store (T := tSlc) (u := r97) (a := (a5.add 0)) rfl ok25 rfl rfl hrw219 hw219) ⟨(hk_wait (by kernel_rfl) (hk_wait (by kernel_rfl) (hk_wait (by kernel_rfl) hk_nil))), ?_⟩
                      refine rd_pure (i := 17) (d := (some 138)) hD (by kernel_rfl) (by kernel_rfl) rfl (.free rfl) rfl (fun _ => q_fieldAddr (a := a5) (off := 1) rfl Try.underlying28 rfl rfl ok25 (by decide) rfl) ?_
                      refine rd_one (i := 18) (by kernel_rfl) ?_
                      obtain ⟨w220, hw220, hrw220, h⟩ := st_open h
                      refine po_skip (d := none) rfl (.free rfl) rfl (q_store (T := tSlc) (u := r205) (a := (a5.add 1)) rfl ok25 rfl rfl hrw220 hw220) ⟨(hk_wait (by kernel_rfl) (hk_wait (by kernel_rfl) (hk_wait (by kernel_rfl) hk_nil))), ?_⟩
                      refine rd_pure (i := 19) (d := (some 139)) hD (by kernel_rfl) (by kernel_rfl) rfl (.free rfl) rfl (fun _ => q_fieldAddr (a := a5) (off := 2) rfl Try.underlying28 rfl rfl ok26 (by decide) rfl) ?_
                      refine rd_one (i := 20) (by kernel_rfl) ?_
                      obtain ⟨w221, hw221, hrw221, h⟩ := st_open h
                      refine po_skip (d := none) rfl (.free rfl) rfl (q_store (T := tSlc) (u := r215) (a := (a5.add 2)) rfl ok26 rfl rfl hrw221 hw221) ⟨(hk_wait (by kernel_rfl) (hk_wait (by kernel_rfl) (hk_wait (by kernel_rfl) hk_nil))), ?_⟩
                      refine rd_nil (by kernel_rfl) ?_
                      exact ⟨(), _, arr (upd_step (upd_step (upd_step (upd_step (upd_step (upd_step (upd_step (upd_step (upd_step rfl rfl) rfl) rfl) rfl) rfl) rfl) rfl) rfl) rfl), h⟩
                    · replace h := h'; clear h'
                      obtain ⟨a222, w223, ha222, hw223, h⟩ := nwS_open h
                      refine po_val (d := (some 130)) rfl (.free rfl) rfl (q_row0 (T := (tInt .i64)) rfl Try.underlying26 ok3 inf3 ha222 hw223) ⟨(hk_keep (fun h => keep_RdAt hw223 h) (hk_keep (fun h => keep_RdAt hw223 h) (hk_keep (fun h => keep_RdAt hw223 h) hk_nil))), ?_⟩
                      refine rd_one (i := 7) (by kernel_rfl) ?_
                      refine po_wp rfl (.free rfl) (wp_cl (d := (some 129)) rfl (q_call (k := 31) (l := [tSlc.enc (x94), .int .i64 (x91)]) rfl ent31 rfl) h ?_)
                      intro r225 w224 h
                      obtain ⟨hk226, h⟩ := h
                      obtain ⟨hk227, h⟩ := h
                      refine ⟨(hk_keep (fun _ => hk227) (hk_wait (by kernel_rfl) (hk_keep (fun _ => hk226) hk_nil))), ?_⟩
                      refine rd_one (i := 11) (by kernel_rfl) ?_
                      refine po_wp rfl (.free rfl) (wp_append (d := (some 133)) (T := (tInt .i64)) rfl rfl Try.underlying26 ⟨_, Try.underlying26⟩ ok3 inf3 rfl rfl (Nat.lt_of_lt_of_le Nat.zero_lt_one (Nat.le_of_ble_eq_true rfl)) rfl rfl h ?_)
                      intro r229 w228 h
                      obtain ⟨hk230, h⟩ := h
                      obtain ⟨hk231, h⟩ := h
                      refine ⟨(hk_wait (by kernel_rfl) (hk_keep (fun _ => hk231) (hk_keep (fun _ => hk230) hk_nil))), ?_⟩
                      refine rd_one (i := 14) (by kernel_rfl) ?_
                      refine po_wp rfl (.free rfl) (wp_append (d := (some 136)) (T := (tInt .i64)) rfl rfl Try.underlying26 ⟨_, Try.underlying26⟩ ok3 inf3 rfl rfl (Nat.lt_of_lt_of_le Nat.zero_lt_one (Nat.le_of_ble_eq_true rfl)) rfl rfl h ?_)
                      intro r233 w232 h
                      obtain ⟨hk234, h⟩ := h
                      obtain ⟨hk235, h⟩ := h
                      obtain ⟨hk236, h⟩ := h
                      refine ⟨(hk_keep (fun _ => hk236) (hk_keep (fun _ => hk235) (hk_keep (fun _ => hk234) hk_nil))), ?_⟩
                      refine rd_one (i := 16) (by kernel_rfl) ?_
                      obtain ⟨w237, hw237, hrw237, h⟩ := st_open h
                      refine po_skip (d := none) rfl (.free rfl) rfl (q_store (T := tSlc) (u := r97) (a := (a5.add 0)) rfl ok25 rfl rfl hrw237 hw237) ⟨(hk_wait (by kernel_rfl) (hk_wait (by kernel_rfl) (hk_wait (by kernel_rfl) hk_nil))), ?_⟩
                      refine rd_pure (i := 17) (d := (some 138)) hD (by kernel_rfl) (by kernel_rfl) rfl (.free rfl) rfl (fun _ => q_fieldAddr (a := a5) (off := 1) rfl Try.underlying28 rfl rfl ok25 (by decide) rfl) ?_
                      refine rd_one (i := 18) (by kernel_rfl) ?_
                      obtain ⟨w238, hw238, hrw238, h⟩ := st_open h
                      refine po_skip (d := none) rfl (.free rfl) rfl (q_store (T := tSlc) (u := r225) (a := (a5.add 1)) rfl ok25 rfl rfl hrw238 hw238) ⟨(hk_wait (by kernel_rfl) (hk_wait (by kernel_rfl) (hk_wait (by kernel_rfl) hk_nil))), ?_⟩
                      refine rd_pure (i := 19) (d := (some 139)) hD (by kernel_rfl) (by kernel_rfl) rfl (.free rfl) rfl (fun _ => q_fieldAddr (a := a5) (off := 2) rfl Try.underlying28 rfl rfl ok26 (by decide) rfl) ?_
                      refine rd_one (i := 20) (by kernel_rfl) ?_
                      obtain ⟨w239, hw239, hrw239, h⟩ := st_open h
                      refine po_skip (d := none) rfl (.free rfl) rfl (q_store (T := tSlc) (u := r233) (a := (a5.add 2)) rfl ok26 rfl rfl hrw239 hw239) ⟨(hk_wait (by kernel_rfl) (hk_wait (by kernel_rfl) (hk_wait (by kernel_rfl) hk_nil))), ?_⟩
                      refine rd_nil (by kernel_rfl) ?_
                      exact ⟨(), _, arr (upd_step (upd_step (upd_step (upd_step (upd_step (upd_step (upd_step (upd_step (upd_step rfl rfl) rfl) rfl) rfl) rfl) rfl) rfl) rfl) rfl), h⟩
                · replace h := h'; clear h' h''
                  obtain ⟨a240, w241, ha240, hw241, h⟩ := nwS_open h
                  refine po_val (d := (some 130)) rfl (.free rfl) rfl (q_row0 (T := (tInt .i64)) rfl Try.underlying26 ok3 inf3 ha240 hw241) ⟨(hk_keep (fun h => keep_RdAt hw241 h) (hk_keep (fun h => keep_RdAt hw241 h) (hk_keep (fun h => keep_RdAt hw241 h) hk_nil))), ?_⟩
                  obtain ⟨h, h'⟩ := h
                  refine rd_two (i := 3) (j := 13) (by kernel_rfl) ?_ ?_
                  · clear h'
                    refine po_wp rfl (.free rfl) (wp_cl (d := (some 125)) rfl (q_call (k := 31) (l := [tSlc.enc (x93), .int .i64 (x91)]) rfl ent31 rfl) h ?_)
                    intro r243 w242 h
                    obtain ⟨hk244, h⟩ := h
                    obtain ⟨hk245, h⟩ := h
                    refine ⟨(hk_keep (fun _ => hk245) (hk_keep (fun _ => hk244) (hk_wait (by kernel_rfl) hk_nil))), ?_⟩
                    refine rd_pure (i := 15) (d := (some 137)) hD (by kernel_rfl) (by kernel_rfl) rfl (.free rfl) rfl (fun _ => q_fieldAddr (a := a5) (off := 0) rfl Try.underlying28 rfl rfl ok25 (by decide) rfl) ?_
                    obtain ⟨h, h'⟩ := h
                    refine rd_two (i := 7) (j := 13) (by kernel_rfl) ?_ ?_
                    · clear h'
                      refine po_wp rfl (.free rfl) (wp_cl (d := (some 129)) rfl (q_call (k := 31) (l := [tSlc.enc (x94), .int .i64 (x91)]) rfl ent31 rfl) h ?_)
                      intro r247 w246 h
                      obtain ⟨hk248, h⟩ := h
                      obtain ⟨hk249, h⟩ := h
                      refine ⟨(hk_keep (fun _ => hk249) (hk_wait (by kernel_rfl) (hk_keep (fun _ => hk248) hk_nil))), ?_⟩
                      obtain ⟨h, h'⟩ := h
                      refine rd_two (i := 11) (j := 13) (by kernel_rfl) ?_ ?_
                      · clear h'
                        refine po_wp rfl (.free rfl) (wp_append (d := (some 133)) (T := (tInt .i64)) rfl rfl Try.underlying26 ⟨_, Try.underlying26⟩ ok3 inf3 rfl rfl (Nat.lt_of_lt_of_le Nat.zero_lt_one (Nat.le_of_ble_eq_true rfl)) rfl rfl h ?_)
                        intro r251 w250 h
                        obtain ⟨hk252, h⟩ := h
                        obtain ⟨hk253, h⟩ := h
                        refine ⟨(hk_wait (by kernel_rfl) (hk_keep (fun _ => hk253) (hk_keep (fun _ => hk252) hk_nil))), ?_⟩
                        refine rd_one (i := 13) (by kernel_rfl) ?_
                        obtain ⟨a254, w255, ha254, hw255, h⟩ := apl_open h
                        refine po_val (d := (some 135)) rfl (.free rfl) rfl (q_rowOf (T := (tInt .i64)) (xs := [x91]) rfl Try.underlying26 ok3 inf3 rfl (by decide) (by decide) rfl ha254 hw255) ⟨(hk_keep (fun h => keep_RdAt hw255 h) (hk_keep (fun h => keep_RdAt hw255 h) (hk_keep (fun h => keep_RdAt hw255 h) hk_nil))), ?_⟩
                        refine rd_one (i := 14) (by kernel_rfl) ?_
                        refine po_wp rfl (.free rfl) (wp_append (d := (some 136)) (T := (tInt .i64)) rfl rfl Try.underlying26 ⟨_, Try.underlying26⟩ ok3 inf3 rfl rfl (Nat.lt_of_lt_of_le Nat.zero_lt_one (Nat.le_of_ble_eq_true rfl)) rfl rfl h ?_)
                        intro r257 w256 h
                        obtain ⟨hk258, h⟩ := h
                        obtain ⟨hk259, h⟩ := h
                        obtain ⟨hk260, h⟩ := h
                        refine ⟨(hk_keep (fun _ => hk260) (hk_keep (fun _ => hk259) (hk_keep (fun _ => hk258) hk_nil))), ?_⟩
                        refine rd_one (i := 16) (by kernel_rfl) ?_
                        obtain ⟨w261, hw261, hrw261, h⟩ := st_open h
                        refine po_skip (d := none) rfl (.free rfl) rfl (q_store (T := tSlc) (u := r243) (a := (a5.add 0)) rfl ok25 rfl rfl hrw261 hw261) ⟨(hk_wait (by kernel_rfl) (hk_wait (by kernel_rfl) (hk_wait (by kernel_rfl) hk_nil))), ?_⟩
                        refine rd_pure (i := 17) (d := (some 138)) hD (by kernel_rfl) (by kernel_rfl) rfl (.free rfl) rfl (fun _ => q_fieldAddr (a := a5) (off := 1) rfl Try.underlying28 rfl rfl ok25 (by decide) rfl) ?_
                        refine rd_one (i := 18) (by kernel_rfl) ?_
                        obtain ⟨w262, hw262, hrw262, h⟩ := st_open h
                        refine po_skip (d := none) rfl (.free rfl) rfl (q_store (T := tSlc) (u := r247) (a := (a5.add 1)) rfl ok25 rfl rfl hrw262 hw262) ⟨(hk_wait (by kernel_rfl) (hk_wait (by kernel_rfl) (hk_wait (by kernel_rfl) hk_nil))), ?_⟩
                        refine rd_pure (i := 19) (d := (some 139)) hD (by kernel_rfl) (by kernel_rfl) rfl (.free rfl) rfl (fun _ => q_fieldAddr (a := a5) (off := 2) rfl Try.underlying28 rfl rfl ok26 (by decide) rfl) ?_
                        refine rd_one (i := 20) (by kernel_rfl) ?_
                        obtain ⟨w263, hw263, hrw263, h⟩ := st_open h
                        refine po_skip (d := none) rfl (.free rfl) rfl (q_store (T := tSlc) (u := r257) (a := (a5.add 2)) rfl ok26 rfl rfl hrw263 hw263) ⟨(hk_wait (by kernel_rfl) (hk_wait (by kernel_rfl) (hk_wait (by kernel_rfl) hk_nil))), ?_⟩
                        refine rd_nil (by kernel_rfl) ?_
                        exact ⟨(), _, arr (upd_step (upd_step (upd_step (upd_step (upd_step (upd_step (upd_step (upd_step (upd_step rfl rfl) rfl) rfl) rfl) rfl) rfl) rfl) rfl) rfl), h⟩
                      · replace h := h'; clear h'
                        obtain ⟨a264, w265, ha264, hw265, h⟩ := nwS_open h
                        refine po_val (d := (some 135)) rfl (.free rfl) rfl (q_rowOf (T := (tInt .i64)) (xs := [x91]) rfl Try.underlying26 ok3 inf3 rfl (by decide) (by decide) rfl ha264 hw265) ⟨(hk_keep (fun h => keep_RdAt hw265 h) (hk_keep (fun h => keep_RdAt hw265 h) (hk_keep (fun h => keep_RdAt hw265 h) hk_nil))), ?_⟩
                        refine rd_one (i := 11) (by kernel_rfl) ?_
                        refine po_wp rfl (.free rfl) (wp_append (d := (some 133)) (T := (tInt .i64)) rfl rfl Try.underlying26 ⟨_, Try.underlying26⟩ ok3 inf3 rfl rfl (Nat.lt_of_lt_of_le Nat.zero_lt_one (Nat.le_of_ble_eq_true rfl)) rfl rfl h ?_)
                        intro r267 w266 h
                        obtain ⟨hk268, h⟩ := h
                        obtain ⟨hk269, h⟩ := h
                        refine ⟨(hk_wait (by kernel_rfl) (hk_keep (fun _ => hk269) (hk_keep (fun _ => hk268) hk_nil))), ?_⟩
                        refine rd_one (i := 14) (by kernel_rfl) ?_
                        refine po_wp rfl (.free rfl) (wp_append (d := (some 136)) (T := (tInt .i64)) rfl rfl Try.underlying26 ⟨_, Try.underlying26⟩ ok3 inf3 rfl rfl (Nat.lt_of_lt_of_le Nat.zero_lt_one (Nat.le_of_ble_eq_true rfl)) rfl rfl h ?_)
                        intro r271 w270 h
                        obtain ⟨hk272, h⟩ := h
                        obtain ⟨hk273, h⟩ := h
                        obtain ⟨hk274, h⟩ := h
                        refine ⟨(hk_keep (fun _ => hk274) (hk_keep (fun _ => hk273) (hk_keep (fun _ => hk272) hk_nil))), ?_⟩
                        refine rd_one (i := 16) (by kernel_rfl) ?_
                        obtain ⟨w275, hw275, hrw275, h⟩ := st_open h
                        refine po_skip (d := none) rfl (.free rfl) rfl (q_store (T := tSlc) (u := r243) (a := (a5.add 0)) rfl ok25 rfl rfl hrw275 hw275) ⟨(hk_wait (by kernel_rfl) (hk_wait (by kernel_rfl) (hk_wait (by kernel_rfl) hk_nil))), ?_⟩
                        refine rd_pure (i := 17) (d := (some 138)) hD (by kernel_rfl) (by kernel_rfl) rfl (.free rfl) rfl (fun _ => q_fieldAddr (a := a5) (off := 1) rfl Try.underlying28 rfl rfl ok25 (by decide) rfl) ?_
                        refine rd_one (i := 18) (by kernel_rfl) ?_
                        obtain ⟨w276, hw276, hrw276, h⟩ := st_open h
                        refine po_skip (d := none) rfl (.free rfl) rfl (q_store (T := tSlc) (u := r247) (a := (a5.add 1)) rfl ok25 rfl rfl hrw276 hw276) ⟨(hk_wait (by kernel_rfl) (hk_wait (by kernel_rfl) (hk_wait (by kernel_rfl) hk_nil))), ?_⟩
                        refine rd_pure (i := 19) (d := (some 139)) hD (by kernel_rfl) (by kernel_rfl) rfl (.free rfl) rfl (fun _ => q_fieldAddr (a := a5) (off := 2) rfl Try.underlying28 rfl rfl ok26 (by decide) rfl) ?_
                        refine rd_one (i := 20) (by kernel_rfl) ?_
                        obtain ⟨w277, hw277, hrw277, h⟩ := st_open h
                        refine po_skip (d := none) rfl (.free rfl) rfl (q_store (T := tSlc) (u := r271) (a := (a5.add 2)) rfl ok26 rfl rfl hrw277 hw277) ⟨(hk_wait (by kernel_rfl) (hk_wait (by kernel_rfl) (hk_wait (by kernel_rfl) hk_nil))), ?_⟩
                        refine rd_nil (by kernel_rfl) ?_
                        exact ⟨(), _, arr (upd_step (upd_step (upd_step (upd_step (upd_step (upd_step (upd_step (upd_step (upd_step rfl rfl) rfl) rfl) rfl) rfl) rfl) rfl) rfl) rfl), h⟩
                    · replace h := h'; clear h'
                      obtain ⟨a278, w279, ha278, hw279, h⟩ := nwS_open h
                      refine po_val (d := (some 135)) rfl (.free rfl) rfl (q_rowOf (T := (tInt .i64)) (xs := [x91]) rfl Try.underlying26 ok3 inf3 rfl (by decide) (by decide) rfl ha278 hw279) ⟨(hk_keep (fun h => keep_RdAt hw279 h) (hk_keep (fun h => keep_RdAt hw279 h) (hk_keep (fun h => keep_RdAt hw279 h) hk_nil))), ?_⟩
                      refine rd_one (i := 7) (by kernel_rfl) ?_
                      refine po_wp rfl (.free rfl) (wp_cl (d := (some 129)) rfl (q_call (k := 31) (l := [tSlc.enc (x94), .int .i64 (x91)]) rfl ent31 rfl) h ?_)
                      intro r281 w280 h
                      obtain ⟨hk282, h⟩ := h
                      obtain ⟨hk283, h⟩ := h
                      refine ⟨(hk_keep (fun _ => hk283) (hk_wait (by kernel_rfl) (hk_keep (fun _ => hk282) hk_nil))), ?_⟩
                      refine rd_one (i := 11) (by kernel_rfl) ?_
                      refine po_wp rfl (.free rfl) (wp_append (d := (some 133)) (T := (tInt .i64)) rfl rfl Try.underlying26 ⟨_, Try.underlying26⟩ ok3 inf3 rfl rfl (Nat.lt_of_lt_of_le Nat.zero_lt_one (Nat.le_of_ble_eq_true rfl)) rfl rfl h ?_)
                      intro r285 w284 h
                      obtain ⟨hk286, h⟩ := h
                      obtain ⟨hk287, h⟩ := h
                      refine ⟨(hk_wait (by kernel_rfl) (hk_keep (fun _ => hk287) (hk_keep (fun _ => hk286) hk_nil))), ?_⟩
                      refine rd_one (i := 14) (by kernel_rfl) ?_
                      refine po_wp rfl (.free rfl) (wp_append (d := (some 136)) (T := (tInt .i64)) rfl rfl Try.underlying26 ⟨_, Try.underlying26⟩ ok3 inf3 rfl rfl (Nat.lt_of_lt_of_le Nat.zero_lt_one (Nat.le_of_ble_eq_true rfl)) rfl rfl h ?_)
                      intro r289 w288 h
                      obtain ⟨hk290, h⟩ := h
                      obtain ⟨hk291, h⟩ := h
                      obtain ⟨hk292, h⟩ := h
                      refine ⟨(hk_keep (fun _ => hk292) (hk_keep (fun _ => hk291) (hk_keep (fun _ => hk290) hk_nil))), ?_⟩
                      refine rd_one (i := 16) (by kernel_rfl) ?_
                      obtain ⟨w293, hw293, hrw293, h⟩ := st_open h
                      refine po_skip (d := none) rfl (.free rfl) rfl (q_store (T := tSlc) (u := r243) (a := (a5.add 0)) rfl ok25 rfl rfl hrw293 hw293) ⟨(hk_wait (by kernel_rfl) (hk_wait (by kernel_rfl) (hk_wait (by kernel_rfl) hk_nil))), ?_⟩
                      refine rd_pure (i := 17) (d := (some 138)) hD (by kernel_rfl) (by kernel_rfl) rfl (.free rfl) rfl (fun _ => q_fieldAddr (a := a5) (off := 1) rfl Try.underlying28 rfl rfl ok25 (by decide) rfl) ?_
                      refine rd_one (i := 18) (by kernel_rfl) ?_
                      obtain ⟨w294, hw294, hrw294, h⟩ := st_open h
                      refine po_skip (d := none) rfl (.free rfl) rfl (q_store (T := tSlc) (u := r281) (a := (a5.add 1)) rfl ok25 rfl rfl hrw294 hw294) ⟨(hk_wait (by kernel_rfl) (hk_wait (by kernel_rfl) (hk_wait (by kernel_rfl) hk_nil))), ?_⟩
                      refine rd_pure (i := 19) (d := (some 139)) hD (by kernel_rfl) (by kernel_rfl) rfl (.free rfl) rfl (fun _ => q_fieldAddr (a := a5) (off := 2) rfl Try.underlying28 rfl rfl ok26 (by decide) rfl) ?_
                      refine rd_one (i := 20) (by kernel_rfl) ?_
                      obtain ⟨w295, hw295, hrw295, h⟩ := st_open h
                      refine po_skip (d := none) rfl (.free rfl) rfl (q_store (T := tSlc) (u := r289) (a := (a5.add 2)) rfl ok26 rfl rfl hrw295 hw295) ⟨(hk_wait (by kernel_rfl) (hk_wait (by kernel_rfl) (hk_wait (by kernel_rfl) hk_nil))), ?_⟩
                      refine rd_nil (by kernel_rfl) ?_
                      exact ⟨(), _, arr (upd_step (upd_step (upd_step (upd_step (upd_step (upd_step (upd_step (upd_step (upd_step rfl rfl) rfl) rfl) rfl) rfl) rfl) rfl) rfl) rfl), h⟩
                  · replace h := h'; clear h'
                    obtain ⟨a296, w297, ha296, hw297, h⟩ := nwS_open h
                    refine po_val (d := (some 135)) rfl (.free rfl) rfl (q_rowOf (T := (tInt .i64)) (xs := [x91]) rfl Try.underlying26 ok3 inf3 rfl (by decide) (by decide) rfl ha296 hw297) ⟨(hk_keep (fun h => keep_RdAt hw297 h) (hk_keep (fun h => keep_RdAt hw297 h) (hk_keep (fun h => keep_RdAt hw297 h) hk_nil))), ?_⟩
                    refine rd_one (i := 3) (by kernel_rfl) ?_
                    refine po_wp rfl (.free rfl) (wp_cl (d := (some 125)) rfl (q_call (k := 31) (l := [tSlc.enc (x93), .int .i64 (x91)]) rfl ent31 rfl) h ?_)
                    intro r299 w298 h
                    obtain ⟨hk300, h⟩ := h
                    obtain ⟨hk301, h⟩ := h
                    refine ⟨(hk_keep (fun _ => hk301) (hk_keep (fun _ => hk300) (hk_wait (by kernel_rfl) hk_nil))), ?_⟩
                    refine rd_pure (i := 15) (d := (some 137)) hD (by kernel_rfl) (by kernel_rfl) rfl (.free rfl) rfl (fun _ => q_fieldAddr (a := a5) (off := 0) rfl Try.underlying28 rfl rfl ok25 (by decide) rfl) ?_
                    refine rd_one (i := 7) (by kernel_rfl) ?_
                    refine po_wp rfl (.free rfl) (wp_cl (d := (some 129)) rfl (q_call (k := 31) (l := [tSlc.enc (x94), .int .i64 (x91)]) rfl ent31 rfl) h ?_)
                    intro r303 w302 h
                    obtain ⟨hk304, h⟩ := h
                    obtain ⟨hk305, h⟩ := h
                    refine ⟨(hk_keep (fun _ => hk305) (hk_wait (by kernel_rfl) (hk_keep (fun _ => hk304) hk_nil))), ?_⟩
                    refine rd_one (i := 11) (by kernel_rfl) ?_
                    refine po_wp rfl (.free rfl) (wp_append (d := (some 133)) (T := (tInt .i64)) rfl rfl Try.underlying26 ⟨_, Try.underlying26⟩ ok3 inf3 rfl rfl (Nat.lt_of_lt_of_le Nat.zero_lt_one (Nat.le_of_ble_eq_true rfl)) rfl rfl h ?_)
                    intro r307 w306 h
                    obtain ⟨hk308, h⟩ := h
                    obtain ⟨hk309, h⟩ := h
                    refine ⟨(hk_wait (by kernel_rfl) (hk_keep (fun _ => hk309) (hk_keep (fun _ => hk308) hk_nil))), ?_⟩
                    refine rd_one (i := 14) (by kernel_rfl) ?_
                    refine po_wp rfl (.free rfl) (wp_append (d := (some 136)) (T := (tInt .i64)) rfl rfl Try.underlying26 ⟨_, Try.underlying26⟩ ok3 inf3 rfl rfl (Nat.lt_of_lt_of_le Nat.zero_lt_one (Nat.le_of_ble_eq_true rfl)) rfl rfl h ?_)
                    intro r311 w310 h
                    obtain ⟨hk312, h⟩ := h
                    obtain ⟨hk313, h⟩ := h
                    obtain ⟨hk314, h⟩ := h
                    refine ⟨(hk_keep (fun _ => hk314) (hk_keep (fun _ => hk313) (hk_keep (fun _ => hk312) hk_nil))), ?_⟩
                    refine rd_one (i := 16) (by kernel_rfl) ?_
                    obtain ⟨w315, hw315, hrw315, h⟩ := st_open h
                    refine po_skip (d := none) rfl (.free rfl) rfl (q_store (T := tSlc) (u := r299) (a := (a5.add 0)) rfl ok25 rfl rfl hrw315 hw315) ⟨(hk_wait (by kernel_rfl) (hk_wait (by kernel_rfl) (hk_wait (by kernel_rfl) hk_nil))), ?_⟩
                    refine rd_pure (i := 17) (d := (some 138)) hD (by kernel_rfl) (by kernel_rfl) rfl (.free rfl) rfl (fun _ => q_fieldAddr (a := a5) (off := 1) rfl Try.underlying28 rfl rfl ok25 (by decide) rfl) ?_
                    refine rd_one (i := 18) (by kernel_rfl) ?_
                    obtain ⟨w316, hw316, hrw316, h⟩ := st_open h
                    refine po_skip (d := none) rfl (.free rfl) rfl (q_store (T := tSlc) (u := r303) (a := (a5.add 1)) rfl ok25 rfl rfl hrw316 hw316) ⟨(hk_wait (by kernel_rfl) (hk_wait (by kernel_rfl) (hk_wait (by kernel_rfl) hk_nil))), ?_⟩
                    refine rd_pure (i := 19) (d := (some 139)) hD (by kernel_rfl) (by kernel_rfl) rfl (.free rfl) rfl (fun _ => q_fieldAddr (a := a5) (off := 2) rfl Try.underlying28 rfl rfl ok26 (by decide) rfl) ?_
                    refine rd_one (i := 20) (by kernel_rfl) ?_
                    obtain ⟨w317, hw317, hrw317, h⟩ := st_open h
                    refine po_skip (d := none) rfl (.free rfl) rfl (q_store (T := tSlc) (u := r311) (a := (a5.add 2)) rfl ok26 rfl rfl hrw317 hw317) ⟨(hk_wait (by kernel_rfl) (hk_wait (by kernel_rfl) (hk_wait (by kernel_rfl) hk_nil))), ?_⟩
                    refine rd_nil (by kernel_rfl) ?_
                    exact ⟨(), _, arr (upd_step (upd_step (upd_step (upd_step (upd_step (upd_step (upd_step (upd_step (upd_step rfl rfl) rfl) rfl) rfl) rfl) rfl) rfl) rfl) rfl), h⟩
                · replace h := h''; clear h' h''
                  obtain ⟨a318, w319, ha318, hw319, h⟩ := nwS_open h
                  refine po_val (d := (some 135)) rfl (.free rfl) rfl (q_rowOf (T := (tInt .i64)) (xs := [x91]) rfl Try.underlying26 ok3 inf3 rfl (by decide) (by decide) rfl ha318 hw319) ⟨(hk_keep (fun h => keep_RdAt hw319 h) (hk_keep (fun h => keep_RdAt hw319 h) (hk_keep (fun h => keep_RdAt hw319 h) hk_nil))), ?_⟩
                  obtain ⟨h, h'⟩ := h
                  refine rd_two (i := 3) (j := 8) (by kernel_rfl) ?_ ?_
                  · clear h'
                    refine po_wp rfl (.free rfl) (wp_cl (d := (some 125)) rfl (q_call (k := 31) (l := [tSlc.enc (x93), .int .i64 (x91)]) rfl ent31 rfl) h ?_)
                    intro r321 w320 h
                    obtain ⟨hk322, h⟩ := h
                    obtain ⟨hk323, h⟩ := h
                    refine ⟨(hk_keep (fun _ => hk323) (hk_keep (fun _ => hk322) (hk_wait (by kernel_rfl) hk_nil))), ?_⟩
                    refine rd_pure (i := 15) (d := (some 137)) hD (by kernel_rfl) (by kernel_rfl) rfl (.free rfl) rfl (fun _ => q_fieldAddr (a := a5) (off := 0) rfl Try.underlying28 rfl rfl ok25 (by decide) rfl) ?_
                    obtain ⟨h, h'⟩ := h
                    refine rd_two (i := 7) (j := 8) (by kernel_rfl) ?_ ?_
                    · clear h'
                      refine po_wp rfl (.free rfl) (wp_cl (d := (some 129)) rfl (q_call (k := 31) (l := [tSlc.enc (x94), .int .i64 (x91)]) rfl ent31 rfl) h ?_)
                      intro r325 w324 h
                      obtain ⟨hk326, h⟩ := h
                      obtain ⟨hk327, h⟩ := h
                      refine ⟨(hk_keep (fun _ => hk327) (hk_wait (by kernel_rfl) (hk_keep (fun _ => hk326) hk_nil))), ?_⟩
                      refine rd_one (i := 8) (by kernel_rfl) ?_
                      obtain ⟨a328, w329, ha328, hw329, h⟩ := nwS_open h
                      refine po_val (d := (some 130)) rfl (.free rfl) rfl (q_row0 (T := (tInt .i64)) rfl Try.underlying26 ok3 inf3 ha328 hw329) ⟨(hk_keep (fun h => keep_RdAt hw329 h) (hk_keep (fun h => keep_RdAt hw329 h) (hk_keep (fun h => keep_RdAt hw329 h) hk_nil))), ?_⟩
                      refine rd_one (i := 11) (by kernel_rfl) ?_
                      refine po_wp rfl (.free rfl) (wp_append (d := (some 133)) (T := (tInt .i64)) rfl rfl Try.underlying26 ⟨_, Try.underlying26⟩ ok3 inf3 rfl rfl (Nat.lt_of_lt_of_le Nat.zero_lt_one (Nat.le_of_ble_eq_true rfl)) rfl rfl h ?_)
                      intro r331 w330 h
                      obtain ⟨hk332, h⟩ := h
                      obtain ⟨hk333, h⟩ := h
                      refine ⟨(hk_wait (by kernel_rfl) (hk_keep (fun _ => hk333) (hk_keep (fun _ => hk332) hk_nil))), ?_⟩
                      refine rd_one (i := 14) (by kernel_rfl) ?_
                      refine po_wp rfl (.free rfl) (wp_append (d := (some 136)) (T := (tInt .i64)) rfl rfl Try.underlying26 ⟨_, Try.underlying26⟩ ok3 inf3 rfl rfl (Nat.lt_of_lt_of_le Nat.zero_lt_one (Nat.le_of_ble_eq_true rfl)) rfl rfl h ?_)
                      intro r335 w334 h
                      obtain ⟨hk336, h⟩ := h
                      obtain ⟨hk337, h⟩ := h
                      obtain ⟨hk338, h⟩ := h
                      refine ⟨(hk_keep (fun _ => hk338) (hk_keep (fun _ => hk337) (hk_keep (fun _ => hk336) hk_nil))), ?_⟩
                      refine rd_one (i := 16) (by kernel_rfl) ?_
                      obtain ⟨w339, hw339, hrw339, h⟩ := st_open h
                      refine po_skip (d := none) rfl (.free rfl) rfl (q_store (T := tSlc) (u := r321) (a := (a5.add 0)) rfl ok25 rfl rfl hrw339 hw339) ⟨(hk_wait (by kernel_rfl) (hk_wait (by kernel_rfl) (hk_wait (by kernel_rfl) hk_nil))), ?_⟩
                      refine rd_pure (i := 17) (d := (some 138)) hD (by kernel_rfl) (by kernel_rfl) rfl (.free rfl) rfl (fun _ => q_fieldAddr (a := a5) (off := 1) rfl Try.underlying28 rfl rfl ok25 (by decide) rfl) ?_
                      refine rd_one (i := 18) (by kernel_rfl) ?_
                      obtain ⟨w340, hw340, hrw340, h⟩ := st_open h
                      refine po_skip (d := none) rfl (.free rfl) rfl (q_store (T := tSlc) (u := r325) (a := (a5.add 1)) rfl ok25 rfl rfl hrw340 hw340) ⟨(hk_wait (by kernel_rfl) (hk_wait (by kernel_rfl) (hk_wait (by kernel_rfl) hk_nil))), ?_⟩
                      refine rd_pure (i := 19) (d := (some 139)) hD (by kernel_rfl) (by kernel_rfl) rfl (.free rfl) rfl (fun _ => q_fieldAddr (a := a5) (off := 2) rfl Try.underlying28 rfl rfl ok26 (by decide) rfl) ?_
                      refine rd_one (i := 20) (by kernel_rfl) ?_
                      obtain ⟨w341, hw341, hrw341, h⟩ := st_open h
                      refine po_skip (d := none) rfl (.free rfl) rfl (q_store (T := tSlc) (u := r335) (a := (a5.add 2)) rfl ok26 rfl rfl hrw341 hw341) ⟨(hk_wait (by kernel_rfl) (hk_wait (by kernel_rfl) (hk_wait (by kernel_rfl) hk_nil))), ?_⟩
                      refine rd_nil (by kernel_rfl) ?_
                      exact ⟨(), _, arr (upd_step (upd_step (upd_step (upd_step (upd_step (upd_step (upd_step (upd_step (upd_step rfl rfl) rfl) rfl) rfl) rfl) rfl) rfl) rfl) rfl), h⟩
                    · replace h := h'; clear h'
                      obtain ⟨a342, w343, ha342, hw343, h⟩ := nwS_open h
                      refine po_val (d := (some 130)) rfl (.free rfl) rfl (q_row0 (T := (tInt .i64)) rfl Try.underlying26 ok3 inf3 ha342 hw343) ⟨(hk_keep (fun h => keep_RdAt hw343 h) (hk_keep (fun h => keep_RdAt hw343 h) (hk_keep (fun h => keep_RdAt hw343 h) hk_nil))), ?_⟩
                      refine rd_one (i := 7) (by kernel_rfl) ?_
                      refine po_wp rfl (.free rfl) (wp_cl (d := (some 129)) rfl (q_call (k := 31) (l := [tSlc.enc (x94), .int .i64 (x91)]) rfl ent31 rfl) h ?_)
                      intro r345 w344 h
                      obtain ⟨hk346, h⟩ := h
                      obtain ⟨hk347, h⟩ := h
                      refine ⟨(hk_keep (fun _ => hk347) (hk_wait (by kernel_rfl) (hk_keep (fun _ => hk346) hk_nil))), ?_⟩
                      refine rd_one (i := 11) (by kernel_rfl) ?_
                      refine po_wp rfl (.free rfl) (wp_append (d := (some 133)) (T := (tInt .i64)) rfl rfl Try.underlying26 ⟨_, Try.underlying26⟩ ok3 inf3 rfl rfl (Nat.lt_of_lt_of_le Nat.zero_lt_one (Nat.le_of_ble_eq_true rfl)) rfl rfl h ?_)
                      intro r349 w348 h
                      obtain ⟨hk350, h⟩ := h
                      obtain ⟨hk351, h⟩ := h
                      refine ⟨(hk_wait (by kernel_rfl) (hk_keep (fun _ => hk351) (hk_keep (fun _ => hk350) hk_nil))), ?_⟩
                      refine rd_one (i := 14) (by kernel_rfl) ?_
                      refine po_wp rfl (.free rfl) (wp_append (d := (some 136)) (T := (tInt .i64)) rfl rfl Try.underlying26 ⟨_, Try.underlying26⟩ ok3 inf3 rfl rfl (Nat.lt_of_lt_of_le Nat.zero_lt_one (Nat.le_of_ble_eq_true rfl)) rfl rfl h ?_)
                      intro r353 w352 h
                      obtain ⟨hk354, h⟩ := h
                      obtain ⟨hk355, h⟩ := h
                      obtain ⟨hk356, h⟩ := h
                      refine ⟨(hk_keep (fun _ => hk356) (hk_keep (fun _ => hk355) (hk_keep (fun _ => hk354) hk_nil))), ?_⟩
                      refine rd_one (i := 16) (by kernel_rfl) ?_
                      obtain ⟨w357, hw357, hrw357, h⟩ := st_open h
                      refine po_skip (d := none) rfl (.free rfl) rfl (q_store (T := tSlc) (u := r321) (a := (a5.add 0)) rfl ok25 rfl rfl hrw357 hw357) ⟨(hk_wait (by kernel_rfl) (hk_wait (by kernel_rfl) (hk_wait (by kernel_rfl) hk_nil))), ?_⟩
                      refine rd_pure (i := 17) (d := (some 138)) hD (by kernel_rfl) (by kernel_rfl) rfl (.free rfl) rfl (fun _ => q_fieldAddr (a := a5) (off := 1) rfl Try.underlying28 rfl rfl ok25 (by decide) rfl) ?_
                      refine rd_one (i := 18) (by kernel_rfl) ?_
                      obtain ⟨w358, hw358, hrw358, h⟩ := st_open h
                      refine po_skip (d := none) rfl (.free rfl) rfl (q_store (T := tSlc) (u := r345) (a := (a5.add 1)) rfl ok25 rfl rfl hrw358 hw358) ⟨(hk_wait (by kernel_rfl) (hk_wait (by kernel_rfl) (hk_wait (by kernel_rfl) hk_nil))), ?_⟩
                      refine rd_pure (i := 19) (d := (some 139)) hD (by kernel_rfl) (by kernel_rfl) rfl (.free rfl) rfl (fun _ => q_fieldAddr (a := a5) (off := 2) rfl Try.underlying28 rfl rfl ok26 (by decide) rfl) ?_
                      refine rd_one (i := 20) (by kernel_rfl) ?_
                      obtain ⟨w359, hw359, hrw359, h⟩ := st_open h
                      refine po_skip (d := none) rfl (.free rfl) rfl (q_store (T := tSlc) (u := r353) (a := (a5.add 2)) rfl ok26 rfl rfl hrw359 hw359) ⟨(hk_wait (by kernel_rfl) (hk_wait (by kernel_rfl) (hk_wait (by kernel_rfl) hk_nil))), ?_⟩
                      refine rd_nil (by kernel_rfl) ?_
                      exact ⟨(), _, arr (upd_step (upd_step (upd_step (upd_step (upd_step (upd_step (upd_step (upd_step (upd_step rfl rfl) rfl) rfl) rfl) rfl) rfl) rfl) rfl) rfl), h⟩
                  · replace h := h'; clear h'
                    obtain ⟨a360, w361, ha360, hw361, h⟩ := nwS_open h
                    refine po_val (d := (some 130)) rfl (.free rfl) rfl (q_row0 (T := (tInt .i64)) rfl Try.underlying26 ok3 inf3 ha360 hw361) ⟨(hk_keep (fun h => keep_RdAt hw361 h) (hk_keep (fun h => keep_RdAt hw361 h) (hk_keep (fun h => keep_RdAt hw361 h) hk_nil))), ?_⟩
                    refine rd_one (i := 3) (by kernel_rfl) ?_
                    refine po_wp rfl (.free rfl) (wp_cl (d := (some 125)) rfl (q_call (k := 31) (l := [tSlc.enc (x93), .int .i64 (x91)]) rfl ent31 rfl) h ?_)
                    intro r363 w362 h
                    obtain ⟨hk364, h⟩ := h
                    obtain ⟨hk365, h⟩ := h
                    refine ⟨(hk_keep (fun _ => hk365) (hk_keep (fun _ => hk364) (hk_wait (by kernel_rfl) hk_nil))), ?_⟩
                    refine rd_pure (i := 15) (d := (some 137)) hD (by kernel_rfl) (by kernel_rfl) rfl (.free rfl) rfl (fun _ => q_fieldAddr (a := a5) (off := 0) rfl Try.underlying28 rfl rfl ok25 (by decide) rfl) ?_
                    refine rd_one (i := 7) (by kernel_rfl) ?_
                    refine po_wp rfl (.free rfl) (wp_cl (d := (some 129)) rfl (q_call (k := 31) (l := [tSlc.enc (x94), .int .i64 (x91)]) rfl ent31 rfl) h ?_)
                    intro r367 w366 h
                    obtain ⟨hk368, h⟩ := h
                    obtain ⟨hk369, h⟩ := h
                    refine ⟨(hk_keep (fun _ => hk369) (hk_wait (by kernel_rfl) (hk_keep (fun _ => hk368) hk_nil))), ?_⟩
                    refine rd_one (i := 11) (by kernel_rfl) ?_
                    refine po_wp rfl (.free rfl) (wp_append (d := (some 133)) (T := (tInt .i64)) rfl rfl Try.underlying26 ⟨_, Try.underlying26⟩ ok3 inf3 rfl rfl (Nat.lt_of_lt_of_le Nat.zero_lt_one (Nat.le_of_ble_eq_true rfl)) rfl rfl h ?_)
                    intro r371 w370 h
                    obtain ⟨hk372, h⟩ := h
                    obtain ⟨hk373, h⟩ := h
                    refine ⟨(hk_wait (by kernel_rfl) (hk_keep (fun _ => hk373) (hk_keep (fun _ => hk372) hk_nil))), ?_⟩
                    refine rd_one (i := 14) (by kernel_rfl) ?_
                    refine po_wp rfl (.free rfl) (wp_append (d := (some 136)) (T := (tInt .i64)) rfl rfl Try.underlying26 ⟨_, Try.underlying26⟩ ok3 inf3 rfl rfl (Nat.lt_of_lt_of_le Nat.zero_lt_one (Nat.le_of_ble_eq_true rfl)) rfl rfl h ?_)
                    intro r375 w374 h
                    obtain ⟨hk376, h⟩ := h
                    obtain ⟨hk377, h⟩ := h
                    obtain ⟨hk378, h⟩ := h
                    refine ⟨(hk_keep (fun _ => hk378) (hk_keep (fun _ => hk377) (hk_keep (fun _ => hk376) hk_nil))), ?_⟩
                    refine rd_one (i := 16) (by kernel_rfl) ?_
                    obtain ⟨w379, hw379, hrw379, h⟩ := st_open h
                    refine po_skip (d := none) rfl (.free rfl) rfl (q_store (T := tSlc) (u := r363) (a := (a5.add 0)) rfl ok25 rfl rfl hrw379 hw379) ⟨(hk_wait (by kernel_rfl) (hk_wait (by kernel_rfl) (hk_wait (by kernel_rfl) hk_nil))), ?_⟩
                    refine rd_pure (i := 17) (d := (some 138)) hD (by kernel_rfl) (by kernel_rfl) rfl (.free rfl) rfl (fun _ => q_fieldAddr (a := a5) (off := 1) rfl Try.underlying28 rfl rfl ok25 (by decide) rfl) ?_
                    refine rd_one (i := 18) (by kernel_rfl) ?_
                    obtain ⟨w380, hw380, hrw380, h⟩ := st_open h
                    refine po_skip (d := none) rfl (.free rfl) rfl (q_store (T := tSlc) (u := r367) (a := (a5.add 1)) rfl ok25 rfl rfl hrw380 hw380) ⟨(hk_wait (by kernel_rfl) (hk_wait (by kernel_rfl) (hk_wait (by kernel_rfl) hk_nil))), ?_⟩
                    refine rd_pure (i := 19) (d := (some 139)) hD (by kernel_rfl) (by kernel_rfl) rfl (.free rfl) rfl (fun _ => q_fieldAddr (a := a5) (off := 2) rfl Try.underlying28 rfl rfl ok26 (by decide) rfl) ?_
                    refine rd_one (i := 20) (by kernel_rfl) ?_
                    obtain ⟨w381, hw381, hrw381, h⟩ := st_open h
                    refine po_skip (d := none) rfl (.free rfl) rfl (q_store (T := tSlc) (u := r375) (a := (a5.add 2)) rfl ok26 rfl rfl hrw381 hw381) ⟨(hk_wait (by kernel_rfl) (hk_wait (by kernel_rfl) (hk_wait (by kernel_rfl) hk_nil))), ?_⟩
                    refine rd_nil (by kernel_rfl) ?_
                    exact ⟨(), _, arr (upd_step (upd_step (upd_step (upd_step (upd_step (upd_step (upd_step (upd_step (upd_step rfl rfl) rfl) rfl) rfl) rfl) rfl) rfl) rfl) rfl), h⟩
            · refine wp_exit ?_
              refine wp_seq ?_
              refine wp_text [0, 1, 2, 3, 4, 5] rfl ?_
              refine ro_val (d := (some 141)) rfl (.free rfl) rfl (q_fieldAddr (a := a5) (off := 1) rfl Try.underlying28 rfl rfl ok25 (by decide) rfl) ?_
              obtain ⟨x382, hx382, h⟩ := h
              refine ro_val (d := (some 142)) rfl (.free rfl) rfl (q_load (T := tSlc) (u := x382) (a := (a5.add 1)) rfl ok25 rfl hx382) ?_
              obtain ⟨x383, hx383, h⟩ := h
              refine ro_val (d := (some 143)) rfl (.free rfl) rfl (q_load (T := T79) (u := x383) (a := a42) rfl ok80 rfl hx383) ?_
              refine ro_wp rfl (.free rfl) (wp_cl (d := (some 144)) rfl (q_call (k := 32) (l := [tSlc.enc (x382), T79.enc (x383)]) rfl ent32 rfl) h ?_)
              intro r385 w384 h
              refine ro_val (d := (some 145)) rfl (.free rfl) rfl (q_fieldAddr (a := a5) (off := 1) rfl Try.underlying28 rfl rfl ok25 (by decide) rfl) ?_
              obtain ⟨w386, hw386, hrw386, h⟩ := st_open h
              refine ro_skip (d := none) rfl (.free rfl) rfl (q_store (T := tSlc) (u := r385) (a := (a5.add 1)) rfl ok25 rfl rfl hrw386 hw386) ?_
              refine ro_nil ?_
              refine wp_seq ?_
              refine wp_text [0, 1, 2, 3, 4, 5, 6] rfl ?_
              obtain ⟨x387, hx387, h⟩ := h
              refine ro_val (d := (some 147)) rfl (.free rfl) rfl (q_load (T := T27) (u := x387) (a := a5) rfl ok28 rfl hx387) ?_
              refine ro_wp rfl (.free rfl) (wp_cl (d := (some 148)) rfl (q_call (k := 33) (l := [T27.enc (x387)]) rfl ent33 rfl) h ?_)
              intro r389 w388 h
              refine ro_val (d := (some 146)) rfl (.free rfl) rfl (q_move (v := (tTup2 T27 tSlc).enc (r389)) rfl rfl) ?_
              refine ro_val (d := (some 149)) rfl (.free rfl) rfl (q_extract (vs := #[T27.enc (r389.1), tSlc.enc (r389.2)]) (v := T27.enc (r389.1)) rfl rfl rfl) ?_
              refine ro_val (d := (some 150)) rfl (.free rfl) rfl (q_extract (vs := #[T27.enc (r389.1), tSlc.enc (r389.2)]) (v := tSlc.enc (r389.2)) rfl rfl rfl) ?_
              obtain ⟨w390, hw390, hrw390, h⟩ := st_open h
              refine ro_skip (d := none) rfl (.free rfl) rfl (q_store (T := T27) (u := r389.1) (a := a5) rfl ok28 rfl rfl hrw390 hw390) ?_
              refine ro_val (d := (some 18)) rfl (.free rfl) rfl (q_assign (v := tSlc.enc (r389.2)) rfl rfl) ?_
              refine ro_nil ?_
              refine wp_seq ?_
              refine wp_seq ?_
              refine wp_text [0] rfl ?_
              refine ro_val (d := (some 19)) rfl (.free rfl) rfl (q_assign (v := .int .i64 ((0 : Int))) rfl rfl) ?_
              refine ro_nil ?_
              refine wp_block ?_
              refine loop_at (σ := Int) (fr := fun g (s : Int) => upd (upd (upd (upd (upd (upd (upd (g) 1 (.int .i64 (tx_2))) 4 (.pointer (some a5))) 8 (.pointer (some a7))) 9 (.pointer (some a9))) 13 (.pointer (some a45))) 18 (tSlc.enc (r389.2))) 19 (.int .i64 (s))) (s0 := ((0 : Int))) (upd_step (upd_step (upd_step (upd_step (upd_step (upd_step (upd_step rfl rfl) rfl) rfl) rfl) rfl) rfl) rfl) h ?_
              rintro i_391 g w392 K393 h
              unfold F12_l7 at h
              refine wp_seq ?_
              refine wp_seq ?_
              refine wp_text [0, 1, 2, 3] rfl ?_
              refine ro_val (d := (some 151)) rfl (.free rfl) rfl (q_move (v := .int .i64 (i_391)) rfl rfl) ?_
              refine ro_val (d := (some 152)) rfl (.free rfl) rfl (q_move (v := tSlc.enc (r389.2)) rfl rfl) ?_
              refine ro_val (d := (some 153)) rfl (.free rfl) rfl (q_len (s := r389.2) rfl Try.underlying32 rfl) ?_
              refine ro_val (d := (some 154)) rfl (.free rfl) rfl (q_lss (a := i_391) (b := (r389.2.len : Int)) rfl rfl rfl) ?_
              refine ro_nil ?_
              refine wp_if (b := (decide (i_391 < (r389.2.len : Int)))) rfl h (fun hb417 h => ?_) (fun hb417 h => ?_)
              · refine wp_skip ?_
                refine seq_join (σ := Unit) (J := fun (s : Unit) w => F12_j8 i_391 w K393 R) (fr := fun g (s : Unit) => upd (upd (upd (upd (upd (upd (upd (g) 1 (.int .i64 (tx_2))) 4 (.pointer (some a5))) 8 (.pointer (some a7))) 9 (.pointer (some a9))) 13 (.pointer (some a45))) 18 (tSlc.enc (r389.2))) 19 (.int .i64 (i_391))) ?_ ?_
                · rintro ⟨⟩ g w394 h
                  unfold F12_j8 at h
                  refine wp_text [0, 1, 2] rfl ?_
                  refine ro_val (d := (some 155)) rfl (.free rfl) rfl (q_move (v := .int .i64 (i_391)) rfl rfl) ?_
                  refine ro_val (d := (some 156)) rfl (.free rfl) rfl (q_add (a := i_391) (b := (1 : Int)) rfl rfl rfl) ?_
                  refine ro_val (d := (some 19)) rfl (.free rfl) rfl (q_assign (v := .int .i64 ((IntKind.i64.wrap (i_391 + (1 : Int))))) rfl rfl) ?_
                  refine ro_nil ?_
                  exact ⟨((IntKind.i64.wrap (i_391 + (1 : Int)))), _, arr (upd_step (upd_step (upd_step (upd_step (upd_step (upd_step (upd_step rfl rfl) rfl) rfl) rfl) rfl) rfl) rfl), h⟩
                · refine wp_block ?_
                  refine wp_seq ?_
                  refine wp_text [0, 1, 2, 3, 4, 5, 6] rfl ?_
                  refine ro_val (d := (some 157)) rfl (.free rfl) rfl (q_move (v := tSlc.enc (r389.2)) rfl rfl) ?_
                  refine ro_val (d := (some 158)) rfl (.free rfl) rfl (q_move (v := .int .i64 (i_391)) rfl rfl) ?_
                  obtain ⟨a395, ha395, h⟩ := h
                  refine ro_val (d := (some 159)) rfl (.free rfl) rfl (q_indexAddr (s := r389.2) (i := i_391) rfl Try.underlying32 ok56 rfl rfl ha395) ?_
                  refine ro_val (d := (some 160)) rfl (.free rfl) rfl (q_fieldAddr (a := a395) (off := 0) rfl Try.underlying56 rfl rfl ok3 (by decide) rfl) ?_
                  obtain ⟨x396, hx396, h⟩ := h
                  refine ro_val (d := (some 161)) rfl (.free rfl) rfl (q_load (T := (tInt .i64)) (u := x396) (a := (a395.add 0)) rfl ok3 rfl hx396) ?_
                  refine ro_val (d := (some 162)) rfl (.free rfl) rfl (q_move (v := .int .i64 (tx_2)) rfl rfl) ?_
                  refine ro_val (d := (some 163)) rfl (.free rfl) rfl (q_eql (a := x396) (b := tx_2) rfl rfl rfl) ?_
                  refine ro_nil ?_
                  refine wp_if (b := (x396 == tx_2)) rfl h (fun hb408 h => ?_) (fun hb408 h => ?_)
                  · refine wp_text [0, 1] rfl ?_
                    refine ro_val (d := (some 164)) rfl (.free rfl) rfl (q_fieldAddr (a := a45) (off := 0) rfl Try.underlying34 rfl rfl ok4 (by decide) rfl) ?_
                    obtain ⟨w397, hw397, hrw397, h⟩ := st_open h
                    refine ro_skip (d := none) rfl (.free rfl) rfl (q_store (T := tBool) (u := true) (a := (a45.add 0)) rfl ok4 rfl rfl hrw397 hw397) ?_
                    refine ro_nil ?_
                    exact ⟨(), _, arr (upd_step (upd_step (upd_step (upd_step (upd_step (upd_step (upd_step rfl rfl) rfl) rfl) rfl) rfl) rfl) rfl), h⟩
                  · obtain ⟨w398, hw398, h⟩ := dr_open h
                    refine wp_drawn 10 mixed rfl (by kernel_rfl) (by intro c a d v w h; cases d <;> exact h) hw398 (fun hD => ?_)
                    refine rd_pure (i := 0) (d := (some 165)) hD (by kernel_rfl) (by kernel_rfl) rfl (.free rfl) rfl (fun _ => q_fieldAddr (a := a45) (off := 2) rfl Try.underlying34 rfl rfl ok32 (by decide) rfl) ?_
                    refine rd_pure (i := 2) (d := (some 167)) hD (by kernel_rfl) (by kernel_rfl) rfl (.free rfl) rfl (fun _ => q_move (v := tSlc.enc (r389.2)) rfl rfl) ?_
                    refine rd_pure (i := 3) (d := (some 168)) hD (by kernel_rfl) (by kernel_rfl) rfl (.free rfl) rfl (fun _ => q_move (v := .int .i64 (i_391)) rfl rfl) ?_
                    obtain ⟨a399, ha399, h⟩ := h
                    refine rd_pure (i := 4) (d := (some 169)) hD (by kernel_rfl) (by kernel_rfl) rfl (.free rfl) rfl (fun _ => q_indexAddr (s := r389.2) (i := i_391) rfl Try.underlying32 ok56 rfl rfl ha399) ?_
                    obtain ⟨x400, hx400, h⟩ := h
                    refine rd_read (i := 1) (d := (some 166)) (fun W => (RdAt tSlc (a45.add 2) W) x400) hD (by kernel_rfl) (by kernel_rfl) rfl (.free rfl) rfl (fun W hr => q_load (T := tSlc) (u := x400) (a := (a45.add 2)) rfl ok32 rfl hr) hx400 ?_
                    obtain ⟨x401, hx401, h⟩ := h
                    refine rd_read (i := 5) (d := (some 170)) (fun W => (RdAt T55 a399 W) x401) hD (by kernel_rfl) (by kernel_rfl) rfl (.free rfl) rfl (fun W hr => q_load (T := T55) (u := x401) (a := a399) rfl ok56 rfl hr) hx401 ?_
                    refine rd_one (i := 6) (by kernel_rfl) ?_
                    obtain ⟨a402, w403, ha402, hw403, h⟩ := apl_open h
                    refine po_val (d := (some 171)) rfl (.free rfl) rfl (q_rowOf (T := T55) (xs := [x401]) rfl Try.underlying32 ok56 inf56 rfl (by decide) (by decide) rfl ha402 hw403) ⟨(hk_wait (by kernel_rfl) (hk_keep (fun h => keep_RdAt hw403 h) hk_nil)), ?_⟩
                    refine rd_one (i := 7) (by kernel_rfl) ?_
                    refine po_wp rfl (.free rfl) (wp_append (d := (some 172)) (T := T55) rfl rfl Try.underlying32 ⟨_, Try.underlying32⟩ ok56 inf56 rfl rfl (Nat.lt_of_lt_of_le Nat.zero_lt_one (Nat.le_of_ble_eq_true rfl)) rfl rfl h ?_)
                    intro r405 w404 h
                    obtain ⟨hk406, h⟩ := h
                    refine ⟨(hk_keep (fun _ => hk406) (hk_wait (by kernel_rfl) hk_nil)), ?_⟩
                    refine rd_pure (i := 8) (d := (some 173)) hD (by kernel_rfl) (by kernel_rfl) rfl (.free rfl) rfl (fun _ => q_fieldAddr (a := a45) (off := 2) rfl Try.underlying34 rfl rfl ok32 (by decide) rfl) ?_
                    refine rd_one (i := 9) (by kernel_rfl) ?_
                    obtain ⟨w407, hw407, hrw407, h⟩ := st_open h
                    refine po_skip (d := none) rfl (.free rfl) rfl (q_store (T := tSlc) (u := r405) (a := (a45.add 2)) rfl ok32 rfl rfl hrw407 hw407) ⟨(hk_wait (by kernel_rfl) (hk_wait (by kernel_rfl) hk_nil)), ?_⟩
                    refine rd_nil (by kernel_rfl) ?_
                    exact ⟨(), _, arr (upd_step (upd_step (upd_step (upd_step (upd_step (upd_step (upd_step rfl rfl) rfl) rfl) rfl) rfl) rfl) rfl), h⟩
              · refine wp_exit ?_
                refine wp_seq ?_
                obtain ⟨w409, hw409, h⟩ := dr_open h
                refine wp_drawn 5 mixed rfl (by kernel_rfl) (by intro c a d v w h; cases d <;> exact h) hw409 (fun hD => ?_)
                obtain ⟨x410, hx410, h⟩ := h
                refine rd_read (i := 0) (d := (some 174)) (fun W => (RdAt T27 a5 W) x410) hD (by kernel_rfl) (by kernel_rfl) rfl (.free rfl) rfl (fun W hr => q_load (T := T27) (u := x410) (a := a5) rfl ok28 rfl hr) hx410 ?_
                obtain ⟨x411, hx411, h⟩ := h
                refine rd_read (i := 1) (d := (some 175)) (fun W => (RdAt T33 a45 W) x411) hD (by kernel_rfl) (by kernel_rfl) rfl (.free rfl) rfl (fun W hr => q_load (T := T33) (u := x411) (a := a45) rfl ok34 rfl hr) hx411 ?_
                refine rd_one (i := 2) (by kernel_rfl) ?_
                obtain ⟨w412, hw412, hrw412, h⟩ := st_open h
                obtain ⟨hk413, h⟩ := h
                refine po_skip (d := none) rfl (.free rfl) rfl (q_store (T := T27) (u := x410) (a := a7) rfl ok28 rfl rfl hrw412 hw412) ⟨(hk_keep (fun _ => hk413) (hk_wait (by kernel_rfl) hk_nil)), ?_⟩
                refine rd_one (i := 3) (by kernel_rfl) ?_
                obtain ⟨w414, hw414, hrw414, h⟩ := st_open h
                refine po_skip (d := none) rfl (.free rfl) rfl (q_store (T := T33) (u := x411) (a := a9) rfl ok34 rfl rfl hrw414 hw414) ⟨(hk_wait (by kernel_rfl) (hk_wait (by kernel_rfl) hk_nil)), ?_⟩
                refine rd_pure (i := 4) (d := (some 10)) hD (by kernel_rfl) (by kernel_rfl) rfl (.free rfl) rfl (fun _ => q_assign (v := .int .i64 ((0 : Int))) rfl rfl) ?_
                refine rd_nil (by kernel_rfl) ?_
                refine wp_ret ?_
                obtain ⟨x415, hx415, h⟩ := h
                obtain ⟨x416, hx416, h⟩ := h
                exact ret_ok rfl (.cons (.cell (T := T27) (u := x415) (a := a7) ok28 rfl hx415) (.cons (.cell (T := T33) (u := x416) (a := a9) ok34 rfl hx416) (.cons (.tmp (v := .int .i64 ((0 : Int))) rfl) .nil))) ⟨(x415, x416, (0 : Int)), rfl, h⟩

end Go.Proofs.Ytojcgejjdfcaaaa.Cf
