/- Models of functions of the program, printed. -/
import Derived.Test.YthpeajepbffinaaGreatM5
namespace M
open Sx
set_option linter.unusedVariables false
def sparseref12_Table_l4 (x1 : List (List Int)) (x42 : Int) : (List Bool) × Int → Option (((List Bool) × Int) ⊕ (((List Bool)))) := fun (x96, x97) =>
 (getI x1 x42).bind fun x113 =>
 if x97 < (x113.length : Int) then
  (getI x1 x42).bind fun x116 =>
  (getI x116 x97).bind fun x118 =>
  (setI x96 x118 true).bind fun x119 =>
  some (.inl (x119, wa .i64 x97 1))
 else
  some (.inr x96)
def sparseref12_Table_l3 (x1 : List (List Int)) : (List (List Bool)) × Int → Option (((List (List Bool)) × Int) ⊕ (((List (List Bool))))) := fun (x41, x42) =>
 if x42 < (x1.length : Int) then
  (mkL false (x1.length : Int)).bind fun x88 =>
  (loop (sparseref12_Table_l4 x1 x42) (x88, 0)).bind fun x107 =>
  (app x41 [x107]).bind fun x111 =>
  some (.inl (x111, wa .i64 x42 1))
 else
  some (.inr x41)
def sparseref12_Table (x1 : List (List Int)) : Option ((List (List Bool))) :=
 (loop (sparseref12_Table_l3 x1) ([], 0)).bind fun x84 =>
 some x84

def sparseref12_empty_l1 (x1 : Int) : (List (List Bool)) × Int → Option (((List (List Bool)) × Int) ⊕ (((List (List Bool))))) := fun (x13, x14) =>
 if x14 < x1 then
  (mkL false x1).bind fun x34 =>
  (app x13 [x34]).bind fun x38 =>
  some (.inl (x38, wa .i64 x14 1))
 else
  some (.inr x13)
def sparseref12_empty (x1 : Int) : Option ((List (List Bool))) :=
 (loop (sparseref12_empty_l1 x1) ([], 0)).bind fun x30 =>
 some x30

def sparseref12_Induced_l4 (x3 : List Int) (x56 : Int) (r13 : (List (List Bool))) : (List (List Bool)) × Int → Option (((List (List Bool)) × Int) ⊕ (((List (List Bool))))) := fun (x109, x110) =>
 if x110 < (x3.length : Int) then
  (getI x109 x56).bind fun x125 =>
  (getI x3 x56).bind fun x127 =>
  (getI r13 x127).bind fun x128 =>
  (getI x3 x110).bind fun x130 =>
  (getI x128 x130).bind fun x131 =>
  (setI x125 x110 x131).bind fun x132 =>
  (setI x109 x56 x132).bind fun x133 =>
  some (.inl (x133, wa .i64 x110 1))
 else
  some (.inr x109)
def sparseref12_Induced_l3 (x3 : List Int) (r13 : (List (List Bool))) : (List (List Bool)) × Int → Option (((List (List Bool)) × Int) ⊕ (((List (List Bool))))) := fun (x55, x56) =>
 if x56 < (x3.length : Int) then
  (loop (sparseref12_Induced_l4 x3 x56 r13) (x55, 0)).bind fun x123 =>
  some (.inl (x123, wa .i64 x56 1))
 else
  some (.inr x55)
def sparseref12_Induced (x1 : List (List Int)) (x3 : List Int) : Option ((List (List Int)) × Int) :=
 (sparseref12_Check x1).bind fun r7 =>
 if r7 = 0 then
  (sparseref09_Range x3 (x1.length : Int)).bind fun r9 =>
  if r9 = true then
   (sparseref09_Twice x3).bind fun r11 =>
   if r11 = true then
    some ([], 90)
   else
    (sparseref12_Table x1).bind fun r13 =>
    (sparseref12_empty (x3.length : Int)).bind fun r16 =>
    (loop (sparseref12_Induced_l3 x3 r13) (r16, 0)).bind fun x95 =>
    (sparseref12_FromTable x95).bind fun r96 =>
    some (r96, 0)
  else
   some ([], 3)
 else
  some ([], r7)

def sparselaw18_DissectParts_l23 (r59 : (List Int) × Int) (r12 : (List Int) × (List Int) × (List Int) × Int) (r17 : (List Int) × Int) : Int → Option ((Int) ⊕ (Unit ⊕ Unit)) := fun x79 =>
 if x79 < (r59.1.length : Int) then
  (getI r59.1 x79).bind fun x98 =>
  (if x98 < 0 then
   some true
  else
   (getI r59.1 x79).bind fun x106 =>
   some (decide ((r12.1.length : Int) ≤ x106))).bind fun r99 =>
  (if r99 = true then
   some true
  else
   (getI r17.1 x79).bind fun x108 =>
   (getI r59.1 x79).bind fun x109 =>
   (getI r12.1 x109).bind fun x110 =>
   some (!(decide (x108 = x110)))).bind fun r100 =>
  if r100 = true then
   some (.inr (.inr ()))
  else
   some (.inl (wa .i64 x79 1))
 else
  some (.inr (.inl ()))
def sparselaw18_DissectParts_j31 (r17 : (List Int) × Int) (x44 : Int) (x116 : List Int) : Option ((Int) ⊕ (Unit ⊕ Unit)) :=
 (getI r17.1 x44).bind fun x117 =>
 (sparsekit_In x116 x117).bind fun r118 =>
 if r118 = true then
  some (.inl (wa .i64 x44 1))
 else
  some (.inr (.inr ()))
def sparselaw18_DissectParts_j30 (r12 : (List Int) × (List Int) × (List Int) × Int) (x44 : Int) (r17 : (List Int) × Int) (x114 : List Int) : Option ((Int) ⊕ (Unit ⊕ Unit)) :=
 if (wa .i64 (r12.1.length : Int) (r12.2.1.length : Int)) ≤ x44 then
  sparselaw18_DissectParts_j31 r17 x44 r12.2.2.1
 else
  sparselaw18_DissectParts_j31 r17 x44 x114
def sparselaw18_DissectParts_l9 (r7 : Int) (r12 : (List Int) × (List Int) × (List Int) × Int) (r17 : (List Int) × Int) : Int → Option ((Int) ⊕ (Unit ⊕ Unit)) := fun x44 =>
 if x44 < r7 then
  if (r12.1.length : Int) ≤ x44 then
   sparselaw18_DissectParts_j30 r12 x44 r17 r12.2.1
  else
   sparselaw18_DissectParts_j30 r12 x44 r17 r12.1
 else
  some (.inr (.inl ()))
def sparselaw18_DissectParts (x1 : Int) (x2 : List Int) (x4 : Int) : Option (Bool) :=
 if (90 : Int) < (x2.length : Int) then
  (sparselaw18_awake).bind fun r6 =>
  some r6
 else
  (sparsekit_Place x1 19).bind fun r7 =>
  (sparsekit_Place x4 6).bind fun r8 =>
  (sparsemake_Graph r7 x2).bind fun r9 =>
  (dissect_Separate r9).bind fun r12 =>
  (dissect_Order r9 (wa .i64 1 r8)).bind fun r17 =>
  (if ((!(decide (r12.2.2.2 = 0))) || (!(decide (r17.2 = 0)))) = true then
   some true
  else
   (sparsekit_Perm r17.1 r7).bind fun r25 =>
   some (!(r25))).bind fun r22 =>
  if r22 = true then
   some false
  else
   if (((decide (r7 ≤ (wa .i64 1 r8))) || (decide ((r12.1.length : Int) = 0))) || (decide ((r12.2.1.length : Int) = 0))) = true then
    (sparselaw18_awake).bind fun r32 =>
    some r32
   else
    if (wa .i64 (wa .i64 (r12.1.length : Int) (r12.2.1.length : Int)) (r12.2.2.1.length : Int)) = r7 then
     (loop (sparselaw18_DissectParts_l9 r7 r12 r17) 0).bind (fun o => match o with
      | .inl () =>
       (sparseref12_Induced r9 r12.1).bind fun r56 =>
       (dissect_Order r56.1 (wa .i64 1 r8)).bind fun r59 =>
       if ((!(decide (r59.2 = 0))) || (!(decide ((r59.1.length : Int) = (r12.1.length : Int))))) = true then
        some false
       else
        (loop (sparselaw18_DissectParts_l23 r59 r12 r17) 0).bind (fun o => match o with
         | .inl () =>
          (sparselaw18_awake).bind fun r96 =>
          some r96
         | .inr () =>
          some false)
      | .inr () =>
       some false)
    else
     some false
end M
