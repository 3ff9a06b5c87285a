/- Models of functions of the program, printed. -/
import Derived.Test.YtcknmegldjnjjaaM2
namespace M
open Sx
set_option linter.unusedVariables false
def graph_Relabel (x1 : List (List Int)) (x3 : List Int) : Option ((List (List Int)) × Int) :=
  (graph_Permuted x1 x3).bind fun r7 =>
  if r7 = 0 then
    (graph_induced x1 x3).bind fun r9 =>
    some (r9, 0)
  else
    some ([], r7)

def sparsekit_Ascending_l1 (x1 : List Int) : Int → Option ((Int) ⊕ (Unit ⊕ Unit)) := fun x7 =>
  if x7 < (x1.length : Int) then
    (getI x1 x7).bind fun x14 =>
    (getI x1 (ws .i64 x7 1)).bind fun x15 =>
    if x14 ≤ x15 then
      some (.inr (.inr ()))
    else
      some (.inl (wa .i64 x7 1))
  else
    some (.inr (.inl ()))
def sparsekit_Ascending (x1 : List Int) : Option (Bool) :=
  (loop (sparsekit_Ascending_l1 x1) 1).bind (fun o => match o with
    | .inl () =>
      some true
    | .inr () =>
      some false)

def sparseref12_Check_l28 (x1 : List (List Int)) (x72 : Int) : Int → Option ((Int) ⊕ (Unit ⊕ Unit)) := fun x166 =>
  (getI x1 x72).bind fun x188 =>
  if x166 < (x188.length : Int) then
    (getI x1 x72).bind fun x191 =>
    (getI x191 x166).bind fun x193 =>
    (if (((decide (x193 < 0)) || (decide ((x1.length : Int) ≤ x193))) || (decide (x193 = x72))) = true then
      some true
    else
      (getI x1 x193).bind fun x204 =>
      (sparsekit_In x204 x72).bind fun r206 =>
      some (!(r206))).bind fun r201 =>
    if r201 = true then
      some (.inr (.inr ()))
    else
      some (.inl (wa .i64 x166 1))
  else
    some (.inr (.inl ()))
def sparseref12_Check_l21 (x1 : List (List Int)) : Int → Option ((Int) ⊕ (Unit ⊕ Unit)) := fun x72 =>
  if x72 < (x1.length : Int) then
    (getI x1 x72).bind fun x142 =>
    (sparsekit_Ascending x142).bind fun r144 =>
    if r144 = true then
      (loop (sparseref12_Check_l28 x1 x72) 0).bind (fun o => match o with
        | .inl () =>
          some (.inl (wa .i64 x72 1))
        | .inr () =>
          some (.inr (.inr ())))
    else
      some (.inr (.inr ()))
  else
    some (.inr (.inl ()))
def sparseref12_Check (x1 : List (List Int)) : Option (Int) :=
  if (200 : Int) < (x1.length : Int) then
    some 6
  else
    (loop (sparseref12_Check_l21 x1) 0).bind (fun o => match o with
      | .inl () =>
        some 0
      | .inr () =>
        some 1)

def sparsekit_Perm_l5 (x3 : Int) (x1 : List Int) : (List Bool) × Int → Option (((List Bool) × Int) ⊕ (Unit ⊕ Unit)) := fun (x25, x26) =>
  if x26 < x3 then
    (getI x1 x26).bind fun x47 =>
    (if x47 < 0 then
      some true
    else
      (getI x1 x26).bind fun x52 =>
      some (decide (x3 ≤ x52))).bind fun r49 =>
    (if r49 = true then
      some true
    else
      (getI x1 x26).bind fun x58 =>
      (getI x25 x58).bind fun x59 =>
      some x59).bind fun r55 =>
    if r55 = true then
      some (.inr (.inr ()))
    else
      (getI x1 x26).bind fun x61 =>
      (setI x25 x61 true).bind fun x62 =>
      some (.inl (x62, wa .i64 x26 1))
  else
    some (.inr (.inl ()))
def sparsekit_Perm (x1 : List Int) (x3 : Int) : Option (Bool) :=
  if (x1.length : Int) = x3 then
    (mkL false x3).bind fun x7 =>
    (loop (sparsekit_Perm_l5 x3 x1) (x7, 0)).bind (fun o => match o with
      | .inl () =>
        some true
      | .inr () =>
        some false)
  else
    some false

def sparseref09_Range_l3 (x1 : List Int) (x3 : Int) : Int → Option ((Int) ⊕ (Unit ⊕ Unit)) := fun x12 =>
  if x12 < (x1.length : Int) then
    (getI x1 x12).bind fun x23 =>
    (if x23 < 0 then
      some true
    else
      (getI x1 x12).bind fun x28 =>
      some (decide (x3 ≤ x28))).bind fun r25 =>
    if r25 = true then
      some (.inr (.inr ()))
    else
      some (.inl (wa .i64 x12 1))
  else
    some (.inr (.inl ()))
def sparseref09_Range (x1 : List Int) (x3 : Int) : Option (Bool) :=
  (loop (sparseref09_Range_l3 x1 x3) 0).bind (fun o => match o with
    | .inl () =>
      some true
    | .inr () =>
      some false)

def sparseref09_Twice_l1 (x1 : List Int) : Int → Option ((Int) ⊕ (Unit ⊕ Unit)) := fun x8 =>
  if x8 < (x1.length : Int) then
    (sli x1 0 x8).bind fun x16 =>
    (getI x1 x8).bind fun x17 =>
    (sparsekit_In x16 x17).bind fun r18 =>
    if r18 = true then
      some (.inr (.inr ()))
    else
      some (.inl (wa .i64 x8 1))
  else
    some (.inr (.inl ()))
def sparseref09_Twice (x1 : List Int) : Option (Bool) :=
  (loop (sparseref09_Twice_l1 x1) 0).bind (fun o => match o with
    | .inl () =>
      some false
    | .inr () =>
      some true)

def sparseref12_Table_l4 (x1 : List (List Int)) (x42 : Int) : (List Bool) × Int → Option (((List Bool) × Int) ⊕ (((List Bool)))) := fun (x96, x97) =>
  (getI x1 x42).bind fun x113 =>
  if x97 < (x113.length : Int) then
    (getI x1 x42).bind fun x116 =>
    (getI x116 x97).bind fun x118 =>
    (setI x96 x118 true).bind fun x119 =>
    some (.inl (x119, wa .i64 x97 1))
  else
    some (.inr x96)
def sparseref12_Table_l3 (x1 : List (List Int)) : (List (List Bool)) × Int → Option (((List (List Bool)) × Int) ⊕ (((List (List Bool))))) := fun (x41, x42) =>
  if x42 < (x1.length : Int) then
    (mkL false (x1.length : Int)).bind fun x88 =>
    (loop (sparseref12_Table_l4 x1 x42) (x88, 0)).bind fun x107 =>
    (app x41 [x107]).bind fun x111 =>
    some (.inl (x111, wa .i64 x42 1))
  else
    some (.inr x41)
def sparseref12_Table (x1 : List (List Int)) : Option ((List (List Bool))) :=
  (loop (sparseref12_Table_l3 x1) ([], 0)).bind fun x84 =>
  some x84

def sparseref12_empty_l1 (x1 : Int) : (List (List Bool)) × Int → Option (((List (List Bool)) × Int) ⊕ (((List (List Bool))))) := fun (x13, x14) =>
  if x14 < x1 then
    (mkL false x1).bind fun x34 =>
    (app x13 [x34]).bind fun x38 =>
    some (.inl (x38, wa .i64 x14 1))
  else
    some (.inr x13)
def sparseref12_empty (x1 : Int) : Option ((List (List Bool))) :=
  (loop (sparseref12_empty_l1 x1) ([], 0)).bind fun x30 =>
  some x30

def sparseref12_Induced_l4 (x3 : List Int) (x56 : Int) (r13 : (List (List Bool))) : (List (List Bool)) × Int → Option (((List (List Bool)) × Int) ⊕ (((List (List Bool))))) := fun (x109, x110) =>
  if x110 < (x3.length : Int) then
    (getI x109 x56).bind fun x125 =>
    (getI x3 x56).bind fun x127 =>
    (getI r13 x127).bind fun x128 =>
    (getI x3 x110).bind fun x130 =>
    (getI x128 x130).bind fun x131 =>
    (setI x125 x110 x131).bind fun x132 =>
    (setI x109 x56 x132).bind fun x133 =>
    some (.inl (x133, wa .i64 x110 1))
  else
    some (.inr x109)
def sparseref12_Induced_l3 (x3 : List Int) (r13 : (List (List Bool))) : (List (List Bool)) × Int → Option (((List (List Bool)) × Int) ⊕ (((List (List Bool))))) := fun (x55, x56) =>
  if x56 < (x3.length : Int) then
    (loop (sparseref12_Induced_l4 x3 x56 r13) (x55, 0)).bind fun x123 =>
    some (.inl (x123, wa .i64 x56 1))
  else
    some (.inr x55)
def sparseref12_Induced (x1 : List (List Int)) (x3 : List Int) : Option ((List (List Int)) × Int) :=
  (sparseref12_Check x1).bind fun r7 =>
  if r7 = 0 then
    (sparseref09_Range x3 (x1.length : Int)).bind fun r9 =>
    if r9 = true then
      (sparseref09_Twice x3).bind fun r11 =>
      if r11 = true then
        some ([], 90)
      else
        (sparseref12_Table x1).bind fun r13 =>
        (sparseref12_empty (x3.length : Int)).bind fun r16 =>
        (loop (sparseref12_Induced_l3 x3 r13) (r16, 0)).bind fun x95 =>
        (sparseref12_FromTable x95).bind fun r96 =>
        some (r96, 0)
    else
      some ([], 3)
  else
    some ([], r7)

def sparseref12_Relabel (x1 : List (List Int)) (x3 : List Int) : Option ((List (List Int)) × Int) :=
  (sparseref12_Check x1).bind fun r7 =>
  if r7 = 0 then
    if (x3.length : Int) = (x1.length : Int) then
      (sparsekit_Perm x3 (x1.length : Int)).bind fun r10 =>
      if r10 = true then
        (sparseref12_Induced x1 x3).bind fun r12 =>
        some (r12.1, r12.2)
      else
        some ([], 90)
    else
      some ([], 2)
  else
    some ([], r7)

def sparsekit_Graph (x1 : List (List Int)) (x3 : List (List Int)) : Option (Bool) :=
  (sparsekit_Lists x1 x3).bind fun r7 =>
  some r7

def sparseref12_Levels_j98 (x499 : Int) (x527 : List Bool) (x529 : List Int) : Option (((List Bool) × (List Int) × Int) ⊕ (((List Bool) × (List Int)))) :=
  some (.inl (x527, x529, wa .i64 x499 1))
def sparseref12_Levels_l97 (x1 : List (List Int)) (x481 : List Bool) : (List Bool) × (List Int) × Int → Option (((List Bool) × (List Int) × Int) ⊕ (((List Bool) × (List Int)))) := fun (x496, x498, x499) =>
  if x499 < (x1.length : Int) then
    (getI x481 x499).bind fun x522 =>
    if x522 = true then
      (app x498 [x499]).bind fun x533 =>
      (setI x496 x499 true).bind fun x534 =>
      sparseref12_Levels_j98 x499 x534 x533
    else
      sparseref12_Levels_j98 x499 x496 x498
  else
    some (.inr (x496, x498))
def sparseref12_Levels_l105 (x537 : List Int) (x198 : List Bool) : (List Bool) × Int → Option (((List Bool) × Int) ⊕ (((List Bool)))) := fun (x549, x550) =>
  if x550 < (x537.length : Int) then
    (getI x537 x550).bind fun x565 =>
    (getI x537 x550).bind fun x566 =>
    (getI x549 x566).bind fun x567 =>
    (if x567 = true then
      some true
    else
      (getI x537 x550).bind fun x572 =>
      (getI x198 x572).bind fun x573 =>
      some (!(x573))).bind fun r568 =>
    (setI x549 x565 r568).bind fun x569 =>
    some (.inl (x569, wa .i64 x550 1))
  else
    some (.inr x549)
def sparseref12_Levels_l94 (x200 : List Int) (x1 : List (List Int)) (x198 : List Bool) : (List Bool) × Int → Option (((List Bool) × Int) ⊕ (((List Bool)))) := fun (x438, x439) =>
  if x439 < (x200.length : Int) then
    (getI x200 x439).bind fun x536 =>
    (getI x1 x536).bind fun x537 =>
    (loop (sparseref12_Levels_l105 x537 x198) (x438, 0)).bind fun x563 =>
    some (.inl (x563, wa .i64 x439 1))
  else
    some (.inr x438)
def sparseref12_Levels_l73 (x1 : List (List Int)) : (List Bool) × (List Int) × (List (List Int)) → Option (((List Bool) × (List Int) × (List (List Int))) ⊕ (((List (List Int))))) := fun (x198, x200, x202) =>
  if (0 : Int) < (x200.length : Int) then
    (app x202 [x200]).bind fun x395 =>
    (mkL false (x1.length : Int)).bind fun x398 =>
    (loop (sparseref12_Levels_l94 x200 x1 x198) (x398, 0)).bind fun x481 =>
    (loop (sparseref12_Levels_l97 x1 x481) (x198, [], 0)).bind fun (x518, x520) =>
    some (.inl (x518, x520, x395))
  else
    some (.inr x202)
def sparseref12_Levels (x1 : List (List Int)) (x3 : Int) : Option ((List (List Int))) :=
  (sparseref12_Check x1).bind fun r5 =>
  if (((!(decide (r5 = 0))) || (decide (x3 < 0))) || (decide ((x1.length : Int) ≤ x3))) = true then
    some []
  else
    (mkL false (x1.length : Int)).bind fun x13 =>
    (setI x13 x3 true).bind fun x14 =>
    (loop (sparseref12_Levels_l73 x1) (x14, [x3], [])).bind fun x391 =>
    some x391
end M
