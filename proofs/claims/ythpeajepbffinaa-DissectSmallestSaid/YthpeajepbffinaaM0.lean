/- Models of functions of the program, printed. -/
import Derived.Test.YthpeajepbffinaaTm
namespace M
open Sx
set_option linter.unusedVariables false
def graph_ascending_l3 (x1 : List Int) (x3 : Int) : Int × Int → Option ((Int × Int) ⊕ (Unit ⊕ Unit)) := fun (x9, x10) =>
 if x10 < (x1.length : Int) then
  (getI x1 x10).bind fun x19 =>
  if ((decide (x19 ≤ x9)) || (decide (x3 ≤ x19))) = true then
   some (.inr (.inr ()))
  else
   some (.inl (x19, wa .i64 x10 1))
 else
  some (.inr (.inl ()))
def graph_ascending (x1 : List Int) (x3 : Int) : Option (Bool) :=
 (loop (graph_ascending_l3 x1 x3) ((-1), 0)).bind (fun o => match o with
  | .inl () =>
   some true
  | .inr () =>
   some false)

def cmp_isNaN_int (x1 : Int) : Option (Bool) :=
 some (!(decide (x1 = x1)))

def cmp_Less_int (x1 : Int) (x2 : Int) : Option (Bool) :=
 (cmp_isNaN_int x1).bind fun r3 =>
 (if r3 = true then
  (cmp_isNaN_int x2).bind fun r8 =>
  some (!(r8))
 else
  some false).bind fun r5 =>
 some (r5 || (decide (x1 < x2)))

def slices_isNaN_int (x1 : Int) : Option (Bool) :=
 some (!(decide (x1 = x1)))

def slices_BinarySearch_int_j11 (x63 : Int) (x64 : Int) : Option ((Int × Int) ⊕ (Int)) :=
 some (.inl (x63, x64))
def slices_BinarySearch_int_l3 (x1 : List Int) (x3 : Int) : Int × Int → Option ((Int × Int) ⊕ (Int)) := fun (x10, x11) =>
 if x10 < x11 then
  (getI x1 (wc .i64 (wsrc .u64 (wc .u64 (wa .i64 x10 x11)) 1))).bind fun x61 =>
  (cmp_Less_int x61 x3).bind fun r62 =>
  if r62 = true then
   slices_BinarySearch_int_j11 (wa .i64 (wc .i64 (wsrc .u64 (wc .u64 (wa .i64 x10 x11)) 1)) 1) x11
  else
   slices_BinarySearch_int_j11 x10 (wc .i64 (wsrc .u64 (wc .u64 (wa .i64 x10 x11)) 1))
 else
  some (.inr x10)
def slices_BinarySearch_int (x1 : List Int) (x3 : Int) : Option (Int × Bool) :=
 (loop (slices_BinarySearch_int_l3 x1 x3) (0, (x1.length : Int))).bind fun x20 =>
 (if x20 < (x1.length : Int) then
  (getI x1 x20).bind fun x42 =>
  (if x42 = x3 then
   some true
  else
   (getI x1 x20).bind fun x53 =>
   (slices_isNaN_int x53).bind fun r54 =>
   (if r54 = true then
    (slices_isNaN_int x3).bind fun r59 =>
    some r59
   else
    some false).bind fun r56 =>
   some r56).bind fun r50 =>
  some r50
 else
  some false).bind fun r39 =>
 some (x20, r39)

def graph_joined (x1 : List (List Int)) (x3 : Int) (x4 : Int) : Option (Bool) :=
 (getI x1 x3).bind fun x6 =>
 (slices_BinarySearch_int x6 x4).bind fun r8 =>
 some r8.2

def graph_Check_l7 (x64 : List Int) (x1 : List (List Int)) (x44 : Int) : Int → Option ((Int) ⊕ (Unit ⊕ Unit)) := fun x70 =>
 if x70 < (x64.length : Int) then
  (getI x64 x70).bind fun x77 =>
  (graph_joined x1 x77 x44).bind fun r78 =>
  if r78 = true then
   some (.inl (wa .i64 x70 1))
  else
   some (.inr (.inr ()))
 else
  some (.inr (.inl ()))
def graph_Check_l6 (x1 : List (List Int)) : Int → Option ((Int) ⊕ (Unit ⊕ Unit)) := fun x44 =>
 if x44 < (x1.length : Int) then
  (getI x1 x44).bind fun x64 =>
  (loop (graph_Check_l7 x64 x1 x44) 0).bind (fun o => match o with
   | .inl () =>
    some (.inl (wa .i64 x44 1))
   | .inr () =>
    some (.inr (.inr ())))
 else
  some (.inr (.inl ()))
def graph_Check_l3 (x1 : List (List Int)) : Int → Option ((Int) ⊕ (Unit ⊕ Unit)) := fun x15 =>
 if x15 < (x1.length : Int) then
  (getI x1 x15).bind fun x81 =>
  (graph_ascending x81 (x1.length : Int)).bind fun r83 =>
  (if r83 = true then
   (graph_joined x1 x15 x15).bind fun r88 =>
   some r88
  else
   some true).bind fun r85 =>
  if r85 = true then
   some (.inr (.inr ()))
  else
   some (.inl (wa .i64 x15 1))
 else
  some (.inr (.inl ()))
def graph_Check (x1 : List (List Int)) : Option (Int) :=
 if (200 : Int) < (x1.length : Int) then
  some 6
 else
  (loop (graph_Check_l3 x1) 0).bind (fun o => match o with
   | .inl () =>
    (loop (graph_Check_l6 x1) 0).bind (fun o => match o with
     | .inl () =>
      some 0
     | .inr () =>
      some 1)
   | .inr () =>
    some 1)

def math_bits_Mul64 (x1 : Int) (x2 : Int) : Option (Int × Int) :=
 some (wa .u64 (wa .u64 (wm .u64 (wsrc .u64 x1 32) (wsrc .u64 x2 32)) (wsrc .u64 (wa .u64 (wm .u64 (wsrc .u64 x1 32) (wand .u64 x2 4294967295)) (wsrc .u64 (wm .u64 (wand .u64 x1 4294967295) (wand .u64 x2 4294967295)) 32)) 32)) (wsrc .u64 (wa .u64 (wand .u64 (wa .u64 (wm .u64 (wsrc .u64 x1 32) (wand .u64 x2 4294967295)) (wsrc .u64 (wm .u64 (wand .u64 x1 4294967295) (wand .u64 x2 4294967295)) 32)) 4294967295) (wm .u64 (wand .u64 x1 4294967295) (wsrc .u64 x2 32))) 32), wm .u64 x1 x2)

def math_bits_Mul (x1 : Int) (x2 : Int) : Option (Int × Int) :=
 (math_bits_Mul64 x1 x2).bind fun r3 =>
 some (r3.1, r3.2)

def slices_Repeat_int_l4 : (List Int) × Int → Option (((List Int) × Int) ⊕ (((List Int)))) := fun (x15, x16) =>
 if x16 < (x15.length : Int) then
  (sli x15 x16 (x15.length : Int)).bind fun x25 =>
  (sli x15 0 x16).bind fun x26 =>
  (cpI x15 x16 (x15.length : Int) x26).bind fun x27 =>
  some (.inl (x27.1, wa .i64 x16 x27.2))
 else
  some (.inr x15)
def slices_Repeat_int_j3 (r4 : Int × Int) (x1 : List Int) : Option ((List Int)) :=
 (mkL 0 (wc .i64 r4.2)).bind fun x9 =>
 (cpI x9 0 (x9.length : Int) x1).bind fun x10 =>
 (loop (slices_Repeat_int_l4) (x10.1, x10.2)).bind fun x23 =>
 some x23
def slices_Repeat_int_j1 (x1 : List Int) (x3 : Int) : Option ((List Int)) :=
 (math_bits_Mul (wc .u64 (x1.length : Int)) (wc .u64 x3)).bind fun r4 =>
 if ((decide ((0 : Int) < r4.1)) || (decide ((9223372036854775807 : Int) < r4.2))) = true then
  none
 else
  slices_Repeat_int_j3 r4 x1
def slices_Repeat_int (x1 : List Int) (x3 : Int) : Option ((List Int)) :=
 if x3 < 0 then
  none
 else
  slices_Repeat_int_j1 x1 x3

def dissect_units_l2 (x1 : List (List Int)) : (List (List Int)) × Int → Option (((List (List Int)) × Int) ⊕ (((List (List Int))))) := fun (x22, x23) =>
 if x23 < (x1.length : Int) then
  (getI x1 x23).bind fun x39 =>
  (slices_Repeat_int [1] (x39.length : Int)).bind fun r42 =>
  (app x22 [r42]).bind fun x46 =>
  some (.inl (x46, wa .i64 x23 1))
 else
  some (.inr x22)
def dissect_units (x1 : List (List Int)) : Option ((List (List Int)) × (List Int) × (List (List Int))) :=
 (slices_Repeat_int [1] (x1.length : Int)).bind fun r6 =>
 (loop (dissect_units_l2 x1) ([], 0)).bind fun x37 =>
 some (x1, r6, x37)

def dissect_total_l1 (x1 : List Int) : Int × Int → Option ((Int × Int) ⊕ (Int)) := fun (x5, x6) =>
 if x6 < (x1.length : Int) then
  (getI x1 x6).bind fun x13 =>
  some (.inl (wa .i64 x5 x13, wa .i64 x6 1))
 else
  some (.inr x5)
def dissect_total (x1 : List Int) : Option (Int) :=
 (loop (dissect_total_l1 x1) (0, 0)).bind fun x11 =>
 some x11

def graph_levels_j40 (x572 : Int) (x602 : List Bool) (x604 : List Int) : Option (((List Bool) × (List Int) × Int) ⊕ (((List Bool) × (List Int)))) :=
 some (.inl (x602, x604, wa .i64 x572 1))
def graph_levels_l39 (x552 : List Int) : (List Bool) × (List Int) × Int → Option (((List Bool) × (List Int) × Int) ⊕ (((List Bool) × (List Int)))) := fun (x569, x571, x572) =>
 if x572 < (x552.length : Int) then
  (getI x552 x572).bind fun x596 =>
  (getI x569 x596).bind fun x597 =>
  if x597 = true then
   graph_levels_j40 x572 x569 x571
  else
   (setI x569 x596 true).bind fun x606 =>
   (app x571 [x596]).bind fun x609 =>
   graph_levels_j40 x572 x606 x609
 else
  some (.inr (x569, x571))
def graph_levels_l36 (x210 : List Int) (x1 : List (List Int)) : (List Bool) × (List Int) × Int → Option (((List Bool) × (List Int) × Int) ⊕ (((List Bool) × (List Int)))) := fun (x478, x480, x481) =>
 if x481 < (x210.length : Int) then
  (getI x210 x481).bind fun x551 =>
  (getI x1 x551).bind fun x552 =>
  (loop (graph_levels_l39 x552) (x478, x480, 0)).bind fun (x592, x594) =>
  some (.inl (x592, x594, wa .i64 x481 1))
 else
  some (.inr (x478, x480))
def graph_levels_l27 (x1 : List (List Int)) : (List Bool) × (List (List Int)) × (List Int) → Option (((List Bool) × (List (List Int)) × (List Int)) ⊕ (((List (List Int))))) := fun (x206, x208, x210) =>
 if (0 : Int) < (x210.length : Int) then
  (app x208 [x210]).bind fun x417 =>
  (loop (graph_levels_l36 x210 x1) (x206, [], 0)).bind fun (x546, x548) =>
  (sortI x548).bind fun r549 =>
  some (.inl (x546, x417, r549))
 else
  some (.inr x208)
def graph_levels (x1 : List (List Int)) (x3 : Int) : Option ((List (List Int))) :=
 (mkL false (x1.length : Int)).bind fun x7 =>
 (setI x7 x3 true).bind fun x8 =>
 (loop (graph_levels_l27 x1) (x8, [], [x3])).bind fun x413 =>
 some x413

def slices_Grow_int_j2 (x7 : List Int) : Option ((List Int)) :=
 some x7
def slices_Grow_int_j1 (x1 : Int) : Option ((List Int)) :=
 if (0 : Int) < (ws .i64 x1 (ws .i64 0 0)) then
  (mkLp 0 (ws .i64 x1 (ws .i64 0 0))).bind fun x10 =>
  (sli x10 0 0).bind fun x11 =>
  slices_Grow_int_j2 x11
 else
  slices_Grow_int_j2 []
def slices_Grow_int (x1 : Int) : Option ((List Int)) :=
 if x1 < 0 then
  none
 else
  slices_Grow_int_j1 x1
end M
