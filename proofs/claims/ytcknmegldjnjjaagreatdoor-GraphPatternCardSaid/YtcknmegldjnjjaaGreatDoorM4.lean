/- Models of functions of the program, printed. -/
import Derived.Test.YtcknmegldjnjjaaGreatDoorM3
namespace M
open Sx
set_option linter.unusedVariables false
def sparseref03_rounded_j2 (x1 : Bool) (x7 : Int) (x21 : Int) (x22 : Int) : Option (Int) :=
  if ((decide ((4503599627370496 : Int) ≤ x22)) && (decide ((1024 : Int) < (wa .i64 x21 53)))) = true then
    (sparseref03_over x1 x7).bind fun r26 =>
    some r26
  else
    if (4503599627370496 : Int) ≤ x22 then
      (sparseref03_signed x1 (wor .u64 (wslc .u64 (wc .u64 (wa .i64 x21 1075)) 52) (wc .u64 (ws .i64 x22 4503599627370496)))).bind fun r28 =>
      some r28
    else
      (sparseref03_signed x1 (wc .u64 x22)).bind fun r29 =>
      some r29
def sparseref03_rounded_j1 (x1 : Bool) (x7 : Int) (x5 : Int) (r9 : Int) (x17 : Bool) (x19 : List Int) : Option (Int) :=
  (sparseref01_Int x17 x19).bind fun r20 =>
  if r20.1 = 9007199254740992 then
    sparseref03_rounded_j2 x1 x7 (wa .i64 (imax (ws .i64 (ws .i64 (wa .i64 x5 r9) 1) 52) (-1074)) 1) 4503599627370496
  else
    sparseref03_rounded_j2 x1 x7 (imax (ws .i64 (ws .i64 (wa .i64 x5 r9) 1) 52) (-1074)) r20.1
def sparseref03_rounded (x1 : Bool) (x2 : Bool) (x3 : List Int) (x5 : Int) (x6 : Bool) (x7 : Int) : Option (Int) :=
  (sparseref01_BitLen x2 x3).bind fun r9 =>
  if (1024 : Int) ≤ (ws .i64 (wa .i64 x5 r9) 1) then
    (sparseref03_over x1 x7).bind fun r11 =>
    some r11
  else
    if x5 ≤ (imax (ws .i64 (ws .i64 (wa .i64 x5 r9) 1) 52) (-1074)) then
      (sparseref02_Cut x1 x2 x3 (ws .i64 (imax (ws .i64 (ws .i64 (wa .i64 x5 r9) 1) 52) (-1074)) x5) x6 x7).bind fun r32 =>
      sparseref03_rounded_j1 x1 x7 x5 r9 r32.1 r32.2
    else
      (sparseref01_Shift x2 x3 (ws .i64 x5 (imax (ws .i64 (ws .i64 (wa .i64 x5 r9) 1) 52) (-1074)))).bind fun r34 =>
      sparseref03_rounded_j1 x1 x7 x5 r9 r34.1 r34.2

def sparseref03_Round (x1 : Bool) (x2 : Bool) (x3 : List Int) (x5 : Int) (x6 : Int) : Option (Int) :=
  (sparseref02_Norm x1 x2 x3 x5).bind fun r8 =>
  if r8.1 = true then
    some 9221120237041090560
  else
    (sparseref01_Sign r8.2.1 r8.2.2.1).bind fun r11 =>
    if r11 = 0 then
      some 0
    else
      (sparseref01_Abs r8.2.1 r8.2.2.1).bind fun r13 =>
      (sparseref03_rounded r8.2.1 r13.1 r13.2 r8.2.2.2 false x6).bind fun r15 =>
      some r15

def sparsemake_Value_j1 (r2 : Int) (x3 : Int) : Option (Int) :=
  (sparseref02_FromInt (ws .i64 r2 8)).bind fun r4 =>
  (sparseref02_Scale r4.1 r4.2.1 r4.2.2.1 r4.2.2.2 x3).bind fun r6 =>
  (sparseref03_Round r6.1 r6.2.1 r6.2.2.1 r6.2.2.2 0).bind fun r8 =>
  some r8
def sparsemake_Value (x1 : Int) : Option (Int) :=
  (sparsekit_Place x1 17).bind fun r2 =>
  if (wrc (wc .i64 (wqc .u64 (wc .u64 x1) 17)) 3) = 0 then
    sparsemake_Value_j1 r2 (ws .i64 (wrc (wqc .i64 (wc .i64 (wqc .u64 (wc .u64 x1) 17)) 3) 13) 6)
  else
    sparsemake_Value_j1 r2 0

def sparseref09_Pack_j14 (x232 : Int) (x276 : List Int) (x278 : List Int) : Option (((List Int) × (List Int) × Int) ⊕ (((List Int) × (List Int)))) :=
  some (.inl (x276, x278, wa .i64 x232 1))
def sparseref09_Pack_l13 (x1 : Int) (x23 : List Int) (x111 : Int) (x3 : List (Int × Int × Int)) : (List Int) × (List Int) × Int → Option (((List Int) × (List Int) × Int) ⊕ (((List Int) × (List Int)))) := fun (x229, x231, x232) =>
  if x232 < x1 then
    (getI x23 (wa .i64 (wm .i64 x111 x1) x232)).bind fun x267 =>
    if (0 : Int) < x267 then
      (app x229 [x232]).bind fun x282 =>
      (getI x3 (ws .i64 x267 1)).bind fun x283 =>
      (app x231 [x283.2.2]).bind fun x286 =>
      sparseref09_Pack_j14 x232 x282 x286
    else
      sparseref09_Pack_j14 x232 x229 x231
  else
    some (.inr (x229, x231))
def sparseref09_Pack_l10 (x2 : Int) (x1 : Int) (x23 : List Int) (x3 : List (Int × Int × Int)) : (List Int) × (List Int) × (List Int) × Int → Option (((List Int) × (List Int) × (List Int) × Int) ⊕ (((List Int) × (List Int) × (List Int)))) := fun (x106, x108, x110, x111) =>
  if x111 < x2 then
    (loop (sparseref09_Pack_l13 x1 x23 x111 x3) (x108, x110, 0)).bind fun (x260, x262) =>
    (app x106 [(x260.length : Int)]).bind fun x265 =>
    some (.inl (x265, x260, x262, wa .i64 x111 1))
  else
    some (.inr (x106, x108, x110))
def sparseref09_Pack_l1 (x3 : List (Int × Int × Int)) (x1 : Int) : (List Int) × Int → Option (((List Int) × Int) ⊕ (((List Int)))) := fun (x15, x16) =>
  if x16 < (x3.length : Int) then
    (getI x3 x16).bind fun x288 =>
    (getI x3 x16).bind fun x289 =>
    (setI x15 (wa .i64 (wm .i64 x288.2.1 x1) x289.1) (wa .i64 x16 1)).bind fun x290 =>
    some (.inl (x290, wa .i64 x16 1))
  else
    some (.inr x15)
def sparseref09_Pack (x1 : Int) (x2 : Int) (x3 : List (Int × Int × Int)) : Option (Int × Int × (List Int) × (List Int) × (List Int)) :=
  (mkL 0 (wm .i64 x1 x2)).bind fun x10 =>
  (loop (sparseref09_Pack_l1 x3 x1) (x10, 0)).bind fun x23 =>
  (loop (sparseref09_Pack_l10 x2 x1 x23 x3) ([0], [], [], 0)).bind fun (x201, x203, x205) =>
  some (x1, x2, x201, x203, x205)

def sparsemake_Matrix_l5 (x3 : List Int) (x1 : Int) (x2 : Int) : (List (Int × Int × Int)) × Int → Option (((List (Int × Int × Int)) × Int) ⊕ (((List (Int × Int × Int))))) := fun (x21, x22) =>
  if (((decide ((wa .i64 x22 2) < (x3.length : Int))) && (decide ((0 : Int) < x1))) && (decide ((0 : Int) < x2))) = true then
    (getI x3 x22).bind fun x51 =>
    (sparsekit_Place x51 x1).bind fun r52 =>
    (getI x3 (wa .i64 x22 1)).bind fun x53 =>
    (sparsekit_Place x53 x2).bind fun r54 =>
    (getI x3 (wa .i64 x22 2)).bind fun x55 =>
    (sparsemake_Value x55).bind fun r56 =>
    (app x21 [(r52, r54, r56)]).bind fun x59 =>
    some (.inl (x59, wa .i64 x22 3))
  else
    some (.inr x21)
def sparsemake_Matrix (x1 : Int) (x2 : Int) (x3 : List Int) : Option (Int × Int × (List Int) × (List Int) × (List Int)) :=
  (loop (sparsemake_Matrix_l5 x3 x1 x2) ([], 0)).bind fun x41 =>
  (sparseref09_Pack x1 x2 x41).bind fun r42 =>
  some (r42.1, r42.2.1, r42.2.2.1, r42.2.2.2.1, r42.2.2.2.2)

def matrix_within (x1 : Int) (x2 : Int) (x3 : Int) : Option (Bool) :=
  some ((decide (x2 ≤ x1)) && (decide (x1 ≤ x3)))

def slices_IsSorted_int_l1 (x1 : List Int) : Int → Option ((Int) ⊕ (Unit ⊕ Unit)) := fun x8 =>
  if (0 : Int) < x8 then
    (getI x1 x8).bind fun x16 =>
    (getI x1 (ws .i64 x8 1)).bind fun x17 =>
    (cmp_Less_int x16 x17).bind fun r18 =>
    if r18 = true then
      some (.inr (.inr ()))
    else
      some (.inl (ws .i64 x8 1))
  else
    some (.inr (.inl ()))
def slices_IsSorted_int (x1 : List Int) : Option (Bool) :=
  (loop (slices_IsSorted_int_l1 x1) (ws .i64 (x1.length : Int) 1)).bind (fun o => match o with
    | .inl () =>
      some true
    | .inr () =>
      some false)

def matrix_columns_l27 (x80 : List Int) (x1 : Int) : Int × Int → Option ((Int × Int) ⊕ (Unit ⊕ Unit)) := fun (x86, x87) =>
  if x87 < (x80.length : Int) then
    (getI x80 x87).bind fun x96 =>
    if ((decide (x96 ≤ x86)) || (decide (x1 ≤ x96))) = true then
      some (.inr (.inr ()))
    else
      some (.inl (x96, wa .i64 x87 1))
  else
    some (.inr (.inl ()))
def matrix_columns_l24 (x2 : Int) (x3 : List Int) (x5 : List Int) (x1 : Int) : Int → Option ((Int) ⊕ (Unit ⊕ Unit)) := fun x52 =>
  if x52 < x2 then
    (getI x3 x52).bind fun x78 =>
    (getI x3 (wa .i64 x52 1)).bind fun x79 =>
    (sli x5 x78 x79).bind fun x80 =>
    (loop (matrix_columns_l27 x80 x1) ((-1), 0)).bind (fun o => match o with
      | .inl () =>
        some (.inl (wa .i64 x52 1))
      | .inr () =>
        some (.inr (.inr ())))
  else
    some (.inr (.inl ()))
def matrix_columns (x1 : Int) (x2 : Int) (x3 : List Int) (x5 : List Int) (x7 : List Int) : Option (Bool) :=
  (if (x3.length : Int) = (wa .i64 x2 1) then
    (getI x3 0).bind fun x16 =>
    some (!(decide (x16 = 0)))
  else
    some true).bind fun r10 =>
  (if r10 = true then
    some true
  else
    (slices_IsSorted_int x3).bind fun r20 =>
    some (!(r20))).bind fun r11 =>
  (if r11 = true then
    some true
  else
    (getI x3 x2).bind fun x23 =>
    some (!(decide (x23 = (x5.length : Int))))).bind fun r12 =>
  (if r12 = true then
    some true
  else
    some (!(decide ((x5.length : Int) = (x7.length : Int))))).bind fun r13 =>
  if r13 = true then
    some false
  else
    (loop (matrix_columns_l24 x2 x3 x5 x1) 0).bind (fun o => match o with
      | .inl () =>
        some true
      | .inr () =>
        some false)

def float_parts (x1 : Int) : Option (Int × Int) :=
  some (wc .i64 (wand .u64 (wsrc .u64 x1 52) 2047), wand .u64 x1 4503599627370495)

def float_IsFinite (x1 : Int) : Option (Bool) :=
  (float_parts x1).bind fun r2 =>
  some (!(decide (r2.1 = 2047)))

def matrix_Check_1 (x1 : Int) : Option (Bool) :=
  (float_IsFinite x1).bind fun r2 =>
  some (!(r2))

def slices_IndexFunc_apiFloat_l1 (x1 : List Int) : Int → Option ((Int) ⊕ (Unit ⊕ Int)) := fun x7 =>
  if x7 < (x1.length : Int) then
    (getI x1 x7).bind fun x15 =>
    (matrix_Check_1 x15).bind fun r16 =>
    if r16 = true then
      some (.inr (.inr x7))
    else
      some (.inl (wa .i64 x7 1))
  else
    some (.inr (.inl ()))
def slices_IndexFunc_apiFloat (x1 : List Int) : Option (Int) :=
  (loop (slices_IndexFunc_apiFloat_l1 x1) 0).bind (fun o => match o with
    | .inl () =>
      some (-1)
    | .inr x13 =>
      some x13)
end M
