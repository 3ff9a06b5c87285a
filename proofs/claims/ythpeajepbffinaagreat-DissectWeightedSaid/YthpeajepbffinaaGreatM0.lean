/- Models of functions of the program, printed. -/
import Derived.Test.YthpeajepbffinaaGreatTm
namespace M
open Sx
set_option linter.unusedVariables false
def sparselaw18_smallGraph_l3 (x1 : List (List Int)) : Int → Option ((Int) ⊕ (Unit ⊕ Unit)) := fun x14 =>
 if x14 < (x1.length : Int) then
  (getI x1 x14).bind fun x21 =>
  if (20 : Int) < (x21.length : Int) then
   some (.inr (.inr ()))
  else
   some (.inl (wa .i64 x14 1))
 else
  some (.inr (.inl ()))
def sparselaw18_smallGraph (x1 : List (List Int)) (x3 : Int) : Option (Bool) :=
 if (((decide (x3 < (x1.length : Int))) && (decide ((x1.length : Int) ≤ 200))) || (decide ((400 : Int) < (x1.length : Int)))) = true then
  some false
 else
  (loop (sparselaw18_smallGraph_l3 x1) 0).bind (fun o => match o with
   | .inl () =>
    some true
   | .inr () =>
    some false)

def sparselaw18_small_l3 (x5 : List (List Int)) : Int → Option ((Int) ⊕ (Unit ⊕ Unit)) := fun x18 =>
 if x18 < (x5.length : Int) then
  (getI x5 x18).bind fun x25 =>
  if (20 : Int) < (x25.length : Int) then
   some (.inr (.inr ()))
  else
   some (.inl (wa .i64 x18 1))
 else
  some (.inr (.inl ()))
def sparselaw18_small (x1 : List (List Int)) (x3 : List Int) (x5 : List (List Int)) : Option (Bool) :=
 (sparselaw18_smallGraph x1 12).bind fun r8 =>
 if (((!(r8)) || (decide ((400 : Int) < (x3.length : Int)))) || (decide ((400 : Int) < (x5.length : Int)))) = true then
  some false
 else
  (loop (sparselaw18_small_l3 x5) 0).bind (fun o => match o with
   | .inl () =>
    some true
   | .inr () =>
    some false)

def graph_ascending_l3 (x1 : List Int) (x3 : Int) : Int × Int → Option ((Int × Int) ⊕ (Unit ⊕ Unit)) := fun (x9, x10) =>
 if x10 < (x1.length : Int) then
  (getI x1 x10).bind fun x19 =>
  if ((decide (x19 ≤ x9)) || (decide (x3 ≤ x19))) = true then
   some (.inr (.inr ()))
  else
   some (.inl (x19, wa .i64 x10 1))
 else
  some (.inr (.inl ()))
def graph_ascending (x1 : List Int) (x3 : Int) : Option (Bool) :=
 (loop (graph_ascending_l3 x1 x3) ((-1), 0)).bind (fun o => match o with
  | .inl () =>
   some true
  | .inr () =>
   some false)

def cmp_isNaN_int (x1 : Int) : Option (Bool) :=
 some (!(decide (x1 = x1)))

def cmp_Less_int (x1 : Int) (x2 : Int) : Option (Bool) :=
 (cmp_isNaN_int x1).bind fun r3 =>
 (if r3 = true then
  (cmp_isNaN_int x2).bind fun r8 =>
  some (!(r8))
 else
  some false).bind fun r5 =>
 some (r5 || (decide (x1 < x2)))

def slices_isNaN_int (x1 : Int) : Option (Bool) :=
 some (!(decide (x1 = x1)))

def slices_BinarySearch_int_j11 (x63 : Int) (x64 : Int) : Option ((Int × Int) ⊕ (Int)) :=
 some (.inl (x63, x64))
def slices_BinarySearch_int_l3 (x1 : List Int) (x3 : Int) : Int × Int → Option ((Int × Int) ⊕ (Int)) := fun (x10, x11) =>
 if x10 < x11 then
  (getI x1 (wc .i64 (wsrc .u64 (wc .u64 (wa .i64 x10 x11)) 1))).bind fun x61 =>
  (cmp_Less_int x61 x3).bind fun r62 =>
  if r62 = true then
   slices_BinarySearch_int_j11 (wa .i64 (wc .i64 (wsrc .u64 (wc .u64 (wa .i64 x10 x11)) 1)) 1) x11
  else
   slices_BinarySearch_int_j11 x10 (wc .i64 (wsrc .u64 (wc .u64 (wa .i64 x10 x11)) 1))
 else
  some (.inr x10)
def slices_BinarySearch_int (x1 : List Int) (x3 : Int) : Option (Int × Bool) :=
 (loop (slices_BinarySearch_int_l3 x1 x3) (0, (x1.length : Int))).bind fun x20 =>
 (if x20 < (x1.length : Int) then
  (getI x1 x20).bind fun x42 =>
  (if x42 = x3 then
   some true
  else
   (getI x1 x20).bind fun x53 =>
   (slices_isNaN_int x53).bind fun r54 =>
   (if r54 = true then
    (slices_isNaN_int x3).bind fun r59 =>
    some r59
   else
    some false).bind fun r56 =>
   some r56).bind fun r50 =>
  some r50
 else
  some false).bind fun r39 =>
 some (x20, r39)

def graph_joined (x1 : List (List Int)) (x3 : Int) (x4 : Int) : Option (Bool) :=
 (getI x1 x3).bind fun x6 =>
 (slices_BinarySearch_int x6 x4).bind fun r8 =>
 some r8.2

def graph_Check_l7 (x64 : List Int) (x1 : List (List Int)) (x44 : Int) : Int → Option ((Int) ⊕ (Unit ⊕ Unit)) := fun x70 =>
 if x70 < (x64.length : Int) then
  (getI x64 x70).bind fun x77 =>
  (graph_joined x1 x77 x44).bind fun r78 =>
  if r78 = true then
   some (.inl (wa .i64 x70 1))
  else
   some (.inr (.inr ()))
 else
  some (.inr (.inl ()))
def graph_Check_l6 (x1 : List (List Int)) : Int → Option ((Int) ⊕ (Unit ⊕ Unit)) := fun x44 =>
 if x44 < (x1.length : Int) then
  (getI x1 x44).bind fun x64 =>
  (loop (graph_Check_l7 x64 x1 x44) 0).bind (fun o => match o with
   | .inl () =>
    some (.inl (wa .i64 x44 1))
   | .inr () =>
    some (.inr (.inr ())))
 else
  some (.inr (.inl ()))
def graph_Check_l3 (x1 : List (List Int)) : Int → Option ((Int) ⊕ (Unit ⊕ Unit)) := fun x15 =>
 if x15 < (x1.length : Int) then
  (getI x1 x15).bind fun x81 =>
  (graph_ascending x81 (x1.length : Int)).bind fun r83 =>
  (if r83 = true then
   (graph_joined x1 x15 x15).bind fun r88 =>
   some r88
  else
   some true).bind fun r85 =>
  if r85 = true then
   some (.inr (.inr ()))
  else
   some (.inl (wa .i64 x15 1))
 else
  some (.inr (.inl ()))
def graph_Check (x1 : List (List Int)) : Option (Int) :=
 if (200 : Int) < (x1.length : Int) then
  some 6
 else
  (loop (graph_Check_l3 x1) 0).bind (fun o => match o with
   | .inl () =>
    (loop (graph_Check_l6 x1) 0).bind (fun o => match o with
     | .inl () =>
      some 0
     | .inr () =>
      some 1)
   | .inr () =>
    some 1)

def math_bits_Mul64 (x1 : Int) (x2 : Int) : Option (Int × Int) :=
 some (wa .u64 (wa .u64 (wm .u64 (wsrc .u64 x1 32) (wsrc .u64 x2 32)) (wsrc .u64 (wa .u64 (wm .u64 (wsrc .u64 x1 32) (wand .u64 x2 4294967295)) (wsrc .u64 (wm .u64 (wand .u64 x1 4294967295) (wand .u64 x2 4294967295)) 32)) 32)) (wsrc .u64 (wa .u64 (wand .u64 (wa .u64 (wm .u64 (wsrc .u64 x1 32) (wand .u64 x2 4294967295)) (wsrc .u64 (wm .u64 (wand .u64 x1 4294967295) (wand .u64 x2 4294967295)) 32)) 4294967295) (wm .u64 (wand .u64 x1 4294967295) (wsrc .u64 x2 32))) 32), wm .u64 x1 x2)

def math_bits_Mul (x1 : Int) (x2 : Int) : Option (Int × Int) :=
 (math_bits_Mul64 x1 x2).bind fun r3 =>
 some (r3.1, r3.2)

def slices_Repeat_int_l4 : (List Int) × Int → Option (((List Int) × Int) ⊕ (((List Int)))) := fun (x15, x16) =>
 if x16 < (x15.length : Int) then
  (sli x15 x16 (x15.length : Int)).bind fun x25 =>
  (sli x15 0 x16).bind fun x26 =>
  (cpI x15 x16 (x15.length : Int) x26).bind fun x27 =>
  some (.inl (x27.1, wa .i64 x16 x27.2))
 else
  some (.inr x15)
def slices_Repeat_int_j3 (r4 : Int × Int) (x1 : List Int) : Option ((List Int)) :=
 (mkL 0 (wc .i64 r4.2)).bind fun x9 =>
 (cpI x9 0 (x9.length : Int) x1).bind fun x10 =>
 (loop (slices_Repeat_int_l4) (x10.1, x10.2)).bind fun x23 =>
 some x23
def slices_Repeat_int_j1 (x1 : List Int) (x3 : Int) : Option ((List Int)) :=
 (math_bits_Mul (wc .u64 (x1.length : Int)) (wc .u64 x3)).bind fun r4 =>
 if ((decide ((0 : Int) < r4.1)) || (decide ((9223372036854775807 : Int) < r4.2))) = true then
  none
 else
  slices_Repeat_int_j3 r4 x1
def slices_Repeat_int (x1 : List Int) (x3 : Int) : Option ((List Int)) :=
 if x3 < 0 then
  none
 else
  slices_Repeat_int_j1 x1 x3

def dissect_units_l2 (x1 : List (List Int)) : (List (List Int)) × Int → Option (((List (List Int)) × Int) ⊕ (((List (List Int))))) := fun (x22, x23) =>
 if x23 < (x1.length : Int) then
  (getI x1 x23).bind fun x39 =>
  (slices_Repeat_int [1] (x39.length : Int)).bind fun r42 =>
  (app x22 [r42]).bind fun x46 =>
  some (.inl (x46, wa .i64 x23 1))
 else
  some (.inr x22)
def dissect_units (x1 : List (List Int)) : Option ((List (List Int)) × (List Int) × (List (List Int))) :=
 (slices_Repeat_int [1] (x1.length : Int)).bind fun r6 =>
 (loop (dissect_units_l2 x1) ([], 0)).bind fun x37 =>
 some (x1, r6, x37)

def dissect_total_l1 (x1 : List Int) : Int × Int → Option ((Int × Int) ⊕ (Int)) := fun (x5, x6) =>
 if x6 < (x1.length : Int) then
  (getI x1 x6).bind fun x13 =>
  some (.inl (wa .i64 x5 x13, wa .i64 x6 1))
 else
  some (.inr x5)
def dissect_total (x1 : List Int) : Option (Int) :=
 (loop (dissect_total_l1 x1) (0, 0)).bind fun x11 =>
 some x11
end M
