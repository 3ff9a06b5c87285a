/- Models of functions of the program, printed. -/
import Derived.Test.YthpeajepbffinaaGreatM5
namespace M
open Sx
set_option linter.unusedVariables false
def slices_IndexFunc_int_v3_l1 (x1 : List Int) : Int → Option ((Int) ⊕ (Unit ⊕ Int)) := fun x7 =>
 if x7 < (x1.length : Int) then
  (getI x1 x7).bind fun x15 =>
  (dissect_Cut_1 x15).bind fun r16 =>
  if r16 = true then
   some (.inr (.inr x7))
  else
   some (.inl (wa .i64 x7 1))
 else
  some (.inr (.inl ()))
def slices_IndexFunc_int_v3 (x1 : List Int) : Option (Int) :=
 (loop (slices_IndexFunc_int_v3_l1 x1) 0).bind (fun o => match o with
  | .inl () =>
   some (-1)
  | .inr x13 =>
   some x13)

def slices_ContainsFunc_int_v3 (x1 : List Int) : Option (Bool) :=
 (slices_IndexFunc_int_v3 x1).bind fun r3 =>
 some (decide ((0 : Int) ≤ r3))

def dissect_Cut_j40 (x152 : Int) (x183 : Int) : Option ((Int × Int) ⊕ (Int)) :=
 some (.inl (x183, wa .i64 x152 1))
def dissect_Cut_l36 (x133 : List Int) (x72 : Int) (x7 : List Int) (x5 : List (List Int)) : Int × Int → Option ((Int × Int) ⊕ (Int)) := fun (x151, x152) =>
 if x152 < (x133.length : Int) then
  (getI x133 x152).bind fun x173 =>
  (if x173 < x72 then
   (getI x7 x173).bind fun x178 =>
   (getI x7 x72).bind fun x179 =>
   some (!(decide (x178 = x179)))
  else
   some false).bind fun r174 =>
  if r174 = true then
   (getI x5 x72).bind fun x185 =>
   (getI x185 x152).bind fun x187 =>
   dissect_Cut_j40 x152 (wa .i64 x151 x187)
  else
   dissect_Cut_j40 x152 x151
 else
  some (.inr x151)
def dissect_Cut_l27 (x1 : List (List Int)) (x7 : List Int) (x5 : List (List Int)) : Int × Int → Option ((Int × Int) ⊕ (Int)) := fun (x71, x72) =>
 if x72 < (x1.length : Int) then
  (getI x1 x72).bind fun x133 =>
  (loop (dissect_Cut_l36 x133 x72 x7 x5) (x71, 0)).bind fun x171 =>
  some (.inl (x171, wa .i64 x72 1))
 else
  some (.inr x71)
def dissect_Cut (x1 : List (List Int)) (x3 : List Int) (x5 : List (List Int)) (x7 : List Int) : Option (Int × Int) :=
 (dissect_CheckWeighted x1 x3 x5).bind fun r10 =>
 if r10 = 0 then
  if (x7.length : Int) = (x3.length : Int) then
   (slices_ContainsFunc_int_v3 x7).bind fun r13 =>
   if r13 = true then
    some (0, 1)
   else
    (loop (dissect_Cut_l27 x1 x7 x5) (0, 0)).bind fun x131 =>
    some (x131, 0)
  else
   some (0, 2)
 else
  some (0, r10)

def sparseref18_Cut_j25 (x211 : Int) (x256 : Int) : Option ((Int × Int) ⊕ (Int)) :=
 some (.inl (x256, wa .i64 x211 1))
def sparseref18_Cut_l23 (x5 : List (List Int)) (x107 : Int) (x7 : List Int) (x1 : List (List Int)) : Int × Int → Option ((Int × Int) ⊕ (Int)) := fun (x210, x211) =>
 (getI x5 x107).bind fun x238 =>
 if x211 < (x238.length : Int) then
  (getI x7 x107).bind fun x241 =>
  (if x241 = 0 then
   (getI x1 x107).bind fun x249 =>
   (getI x249 x211).bind fun x251 =>
   (getI x7 x251).bind fun x252 =>
   some (decide (x252 = 1))
  else
   some false).bind fun r246 =>
  if r246 = true then
   (getI x5 x107).bind fun x258 =>
   (getI x258 x211).bind fun x260 =>
   sparseref18_Cut_j25 x211 (wa .i64 x210 x260)
  else
   sparseref18_Cut_j25 x211 x210
 else
  some (.inr x210)
def sparseref18_Cut_l18 (x7 : List Int) (x5 : List (List Int)) (x1 : List (List Int)) : Int × Int → Option ((Int × Int) ⊕ (Int)) := fun (x106, x107) =>
 if x107 < (x7.length : Int) then
  (loop (sparseref18_Cut_l23 x5 x107 x7 x1) (x106, 0)).bind fun x237 =>
  some (.inl (x237, wa .i64 x107 1))
 else
  some (.inr x106)
def sparseref18_Cut_l3 (x7 : List Int) : Int → Option ((Int) ⊕ (Unit ⊕ Unit)) := fun x21 =>
 if x21 < (x7.length : Int) then
  (getI x7 x21).bind fun x262 =>
  (if x262 = 0 then
   some false
  else
   (getI x7 x21).bind fun x267 =>
   some (!(decide (x267 = 1)))).bind fun r264 =>
  if r264 = true then
   some (.inr (.inr ()))
  else
   some (.inl (wa .i64 x21 1))
 else
  some (.inr (.inl ()))
def sparseref18_Cut (x1 : List (List Int)) (x3 : List Int) (x5 : List (List Int)) (x7 : List Int) : Option (Int × Int) :=
 (sparseref18_CheckWeighted x1 x3 x5).bind fun r10 =>
 if r10 = 0 then
  if (x7.length : Int) = (x3.length : Int) then
   (loop (sparseref18_Cut_l3 x7) 0).bind (fun o => match o with
    | .inl () =>
     (loop (sparseref18_Cut_l18 x7 x5 x1) (0, 0)).bind fun x185 =>
     some (x185, 0)
    | .inr () =>
     some (0, 1))
  else
   some (0, 2)
 else
  some (0, r10)

def sparsekit_Lists_l1 (x1 : List (List Int)) (x3 : List (List Int)) : Int → Option ((Int) ⊕ (Unit ⊕ Unit)) := fun x13 =>
 if x13 < (x1.length : Int) then
  (getI x1 x13).bind fun x23 =>
  (getI x3 x13).bind fun x25 =>
  (sparsekit_Ints x23 x25).bind fun r27 =>
  if r27 = true then
   some (.inl (wa .i64 x13 1))
  else
   some (.inr (.inr ()))
 else
  some (.inr (.inl ()))
def sparsekit_Lists (x1 : List (List Int)) (x3 : List (List Int)) : Option (Bool) :=
 if (x1.length : Int) = (x3.length : Int) then
  (loop (sparsekit_Lists_l1 x1 x3) 0).bind (fun o => match o with
   | .inl () =>
    some true
   | .inr () =>
    some false)
 else
  some false

def sparsekit_Graph (x1 : List (List Int)) (x3 : List (List Int)) : Option (Bool) :=
 (sparsekit_Lists x1 x3).bind fun r7 =>
 some r7

def sparsekit_Weighted (x1 : List (List Int)) (x3 : List Int) (x5 : List (List Int)) (x7 : List (List Int)) (x9 : List Int) (x11 : List (List Int)) : Option (Bool) :=
 (sparsekit_Graph x1 x7).bind fun r15 =>
 (if r15 = true then
  (sparsekit_Ints x3 x9).bind fun r20 =>
  some r20
 else
  some false).bind fun r17 =>
 (if r17 = true then
  (sparsekit_Lists x5 x11).bind fun r25 =>
  some r25
 else
  some false).bind fun r22 =>
 some r22

def sparselaw18_DissectWeighted (x1 : List (List Int)) (x3 : List Int) (x5 : List (List Int)) (x7 : List Int) : Option (Bool) :=
 (sparselaw18_small x1 x3 x5).bind fun r10 =>
 if ((!(r10)) || (decide ((20 : Int) < (x7.length : Int)))) = true then
  (sparselaw18_awake).bind fun r14 =>
  some r14
 else
  (sparsekit_TwinWeighted x1 x3 x5).bind fun r15 =>
  (dissect_Match r15.1 r15.2.1 r15.2.2).bind fun r20 =>
  (sparseref18_Match x1 x3 x5).bind fun r22 =>
  (dissect_Coarsen r15.1 r15.2.1 r15.2.2 x7).bind fun r24 =>
  (sparseref18_Coarsen x1 x3 x5 x7).bind fun r32 =>
  (dissect_Bisect r15.1 r15.2.1 r15.2.2).bind fun r40 =>
  (sparseref18_Bisect FUEL x1 x3 x5).bind fun r42 =>
  (dissect_Cut r15.1 r15.2.1 r15.2.2 x7).bind fun r44 =>
  (sparseref18_Cut x1 x3 x5 x7).bind fun r45 =>
  (dissect_CheckWeighted r15.1 r15.2.1 r15.2.2).bind fun r46 =>
  (sparseref18_CheckWeighted x1 x3 x5).bind fun r47 =>
  (if r46 = r47 then
   (sparsekit_Ints r20.1 r22.1).bind fun r72 =>
   some r72
  else
   some false).bind fun r48 =>
  (if r48 = true then
   some (decide (r20.2 = r22.2))
  else
   some false).bind fun r49 =>
  (if r49 = true then
   (sparsekit_Weighted r24.1 r24.2.1 r24.2.2.1 r32.1 r32.2.1 r32.2.2.1).bind fun r75 =>
   some r75
  else
   some false).bind fun r50 =>
  (if r50 = true then
   (sparsekit_Ints r24.2.2.2.1 r32.2.2.2.1).bind fun r77 =>
   some r77
  else
   some false).bind fun r51 =>
  (if r51 = true then
   some (decide (r24.2.2.2.2 = r32.2.2.2.2))
  else
   some false).bind fun r52 =>
  (if r52 = true then
   (sparsekit_Ints r40.1 r42.1).bind fun r80 =>
   some r80
  else
   some false).bind fun r53 =>
  (if r53 = true then
   some (decide (r40.2 = r42.2))
  else
   some false).bind fun r54 =>
  (if r54 = true then
   some (decide (r44.1 = r45.1))
  else
   some false).bind fun r55 =>
  (if r55 = true then
   some (decide (r44.2 = r45.2))
  else
   some false).bind fun r56 =>
  (if r56 = true then
   (sparsekit_Weighted r15.1 r15.2.1 r15.2.2 x1 x3 x5).bind fun r85 =>
   some r85
  else
   some false).bind fun r57 =>
  (if r57 = true then
   (sparselaw18_awake).bind fun r87 =>
   some r87
  else
   some false).bind fun r58 =>
  some r58
end M
