/- Models of functions of the program, printed. -/
import Derived.Test.YthpeajepbffinaaGreatM3
namespace M
open Sx
set_option linter.unusedVariables false
def dissect_Check_l12 (x84 : List Int) (r14 : (List Int) × Bool) (x49 : Int) : Int → Option ((Int) ⊕ (Unit ⊕ Unit)) := fun x95 =>
 if x95 < (x84.length : Int) then
  (getI x84 x95).bind fun x107 =>
  (getI r14.1 x49).bind fun x108 =>
  (if x108 = 0 then
   (getI r14.1 x107).bind fun x113 =>
   some (decide (x113 = 1))
  else
   some false).bind fun r110 =>
  if r110 = true then
   some (.inr (.inr ()))
  else
   some (.inl (wa .i64 x95 1))
 else
  some (.inr (.inl ()))
def dissect_Check_l9 (x1 : List (List Int)) (r14 : (List Int) × Bool) : Int → Option ((Int) ⊕ (Unit ⊕ Unit)) := fun x49 =>
 if x49 < (x1.length : Int) then
  (getI x1 x49).bind fun x84 =>
  (loop (dissect_Check_l12 x84 r14 x49) 0).bind (fun o => match o with
   | .inl () =>
    some (.inl (wa .i64 x49 1))
   | .inr () =>
    some (.inr (.inr ())))
 else
  some (.inr (.inl ()))
def dissect_Check (x1 : List (List Int)) (x3 : List Int) (x5 : List Int) (x7 : List Int) : Option (Int) :=
 (graph_Check x1).bind fun r11 =>
 if r11 = 0 then
  (dissect_parts (x1.length : Int) [x3, x5, x7]).bind fun r14 =>
  if r14.2 = true then
   (loop (dissect_Check_l9 x1 r14) 0).bind (fun o => match o with
    | .inl () =>
     some 0
    | .inr () =>
     some 180)
  else
   some 180
 else
  some r11

def sparselaw18_awake : Option (Bool) :=
 (dissect_Separate [[1], [0, 2], [1, 3], [2]]).bind fun r7 =>
 (if r7.2.2.2 = 0 then
  (sparsekit_Split r7.1 r7.2.1 r7.2.2.1 [0, 1] [3] [2]).bind fun r22 =>
  some r22
 else
  some false).bind fun r16 =>
 (if r16 = true then
  (dissect_Check [[1], [0, 2], [1, 3], [2]] r7.1 r7.2.1 r7.2.2.1).bind fun r27 =>
  some (decide (r27 = 0))
 else
  some false).bind fun r24 =>
 some r24

def sparsekit_TwinInts_l1 (x1 : List Int) : (List Int) × Int → Option (((List Int) × Int) ⊕ (((List Int)))) := fun (x9, x10) =>
 if x10 < (x1.length : Int) then
  (getI x1 x10).bind fun x22 =>
  (app x9 [x22]).bind fun x25 =>
  some (.inl (x25, wa .i64 x10 1))
 else
  some (.inr x9)
def sparsekit_TwinInts (x1 : List Int) : Option ((List Int)) :=
 (loop (sparsekit_TwinInts_l1 x1) ([], 0)).bind fun x20 =>
 some x20

def sparsekit_TwinLists_l1 (x1 : List (List Int)) : (List (List Int)) × Int → Option (((List (List Int)) × Int) ⊕ (((List (List Int))))) := fun (x12, x13) =>
 if x13 < (x1.length : Int) then
  (getI x1 x13).bind fun x28 =>
  (sparsekit_TwinInts x28).bind fun r30 =>
  (app x12 [r30]).bind fun x34 =>
  some (.inl (x34, wa .i64 x13 1))
 else
  some (.inr x12)
def sparsekit_TwinLists (x1 : List (List Int)) : Option ((List (List Int))) :=
 (loop (sparsekit_TwinLists_l1 x1) ([], 0)).bind fun x26 =>
 some x26

def sparsekit_TwinGraph (x1 : List (List Int)) : Option ((List (List Int))) :=
 (sparsekit_TwinLists x1).bind fun r5 =>
 some r5

def sparsekit_TwinWeighted (x1 : List (List Int)) (x3 : List Int) (x5 : List (List Int)) : Option ((List (List Int)) × (List Int) × (List (List Int))) :=
 (sparsekit_TwinGraph x1).bind fun r9 =>
 (sparsekit_TwinInts x3).bind fun r11 =>
 (sparsekit_TwinLists x5).bind fun r13 =>
 some (r9, r11, r13)

def dissect_weight (x1 : List (List Int)) (x3 : List Int) (x5 : List (List Int)) (x7 : Int) (x8 : Int) : Option (Int) :=
 (getI x1 x7).bind fun x10 =>
 (slices_BinarySearch_int x10 x8).bind fun r12 =>
 (getI x5 x7).bind fun x13 =>
 (getI x13 r12.1).bind fun x15 =>
 some x15

def dissect_CheckWeighted_l9 (x105 : List Int) (x5 : List (List Int)) (x76 : Int) (x1 : List (List Int)) (x3 : List Int) : Int → Option ((Int) ⊕ (Unit ⊕ Unit)) := fun x114 =>
 if x114 < (x105.length : Int) then
  (getI x105 x114).bind fun x124 =>
  (getI x5 x76).bind fun x125 =>
  (getI x125 x114).bind fun x127 =>
  (dissect_weight x1 x3 x5 x124 x76).bind fun r128 =>
  if x127 = r128 then
   some (.inl (wa .i64 x114 1))
  else
   some (.inr (.inr ()))
 else
  some (.inr (.inl ()))
def dissect_CheckWeighted_l8 (x1 : List (List Int)) (x5 : List (List Int)) (x3 : List Int) : Int → Option ((Int) ⊕ (Unit ⊕ Unit)) := fun x76 =>
 if x76 < (x1.length : Int) then
  (getI x1 x76).bind fun x105 =>
  (loop (dissect_CheckWeighted_l9 x105 x5 x76 x1 x3) 0).bind (fun o => match o with
   | .inl () =>
    some (.inl (wa .i64 x76 1))
   | .inr () =>
    some (.inr (.inr ())))
 else
  some (.inr (.inl ()))
def dissect_CheckWeighted_l5 (x1 : List (List Int)) (x5 : List (List Int)) : Int → Option ((Int) ⊕ (Unit ⊕ Unit)) := fun x33 =>
 if x33 < (x1.length : Int) then
  (getI x1 x33).bind fun x131 =>
  (getI x5 x33).bind fun x133 =>
  (if (x133.length : Int) = (x131.length : Int) then
   (getI x5 x33).bind fun x141 =>
   (dissect_weights x141).bind fun r143 =>
   some (!(r143))
  else
   some true).bind fun r138 =>
  if r138 = true then
   some (.inr (.inr ()))
  else
   some (.inl (wa .i64 x33 1))
 else
  some (.inr (.inl ()))
def dissect_CheckWeighted (x1 : List (List Int)) (x3 : List Int) (x5 : List (List Int)) : Option (Int) :=
 (graph_Check x1).bind fun r8 =>
 if r8 = 0 then
  (if ((!(decide ((x3.length : Int) = (x1.length : Int)))) || (!(decide ((x5.length : Int) = (x1.length : Int))))) = true then
   some true
  else
   (dissect_weights x3).bind fun r16 =>
   some (!(r16))).bind fun r13 =>
  if r13 = true then
   some 1
  else
   (loop (dissect_CheckWeighted_l5 x1 x5) 0).bind (fun o => match o with
    | .inl () =>
     (loop (dissect_CheckWeighted_l8 x1 x5 x3) 0).bind (fun o => match o with
      | .inl () =>
       some 0
      | .inr () =>
       some 1)
    | .inr () =>
     some 1)
 else
  some r8

def dissect_Match (x1 : List (List Int)) (x3 : List Int) (x5 : List (List Int)) : Option ((List Int) × Int) :=
 (dissect_CheckWeighted x1 x3 x5).bind fun r8 =>
 if r8 = 0 then
  (dissect_match x1 x3 x5).bind fun r10 =>
  some (r10, 0)
 else
  some ([], r8)

def sparsekit_Ascending_l1 (x1 : List Int) : Int → Option ((Int) ⊕ (Unit ⊕ Unit)) := fun x7 =>
 if x7 < (x1.length : Int) then
  (getI x1 x7).bind fun x14 =>
  (getI x1 (ws .i64 x7 1)).bind fun x15 =>
  if x14 ≤ x15 then
   some (.inr (.inr ()))
  else
   some (.inl (wa .i64 x7 1))
 else
  some (.inr (.inl ()))
def sparsekit_Ascending (x1 : List Int) : Option (Bool) :=
 (loop (sparsekit_Ascending_l1 x1) 1).bind (fun o => match o with
  | .inl () =>
   some true
  | .inr () =>
   some false)

def sparsekit_In_l1 (x1 : List Int) (x3 : Int) : Int → Option ((Int) ⊕ (Unit ⊕ Unit)) := fun x7 =>
 if x7 < (x1.length : Int) then
  (getI x1 x7).bind fun x13 =>
  if x13 = x3 then
   some (.inr (.inr ()))
  else
   some (.inl (wa .i64 x7 1))
 else
  some (.inr (.inl ()))
def sparsekit_In (x1 : List Int) (x3 : Int) : Option (Bool) :=
 (loop (sparsekit_In_l1 x1 x3) 0).bind (fun o => match o with
  | .inl () =>
   some false
  | .inr () =>
   some true)

def sparseref12_Check_l28 (x1 : List (List Int)) (x72 : Int) : Int → Option ((Int) ⊕ (Unit ⊕ Unit)) := fun x166 =>
 (getI x1 x72).bind fun x188 =>
 if x166 < (x188.length : Int) then
  (getI x1 x72).bind fun x191 =>
  (getI x191 x166).bind fun x193 =>
  (if (((decide (x193 < 0)) || (decide ((x1.length : Int) ≤ x193))) || (decide (x193 = x72))) = true then
   some true
  else
   (getI x1 x193).bind fun x204 =>
   (sparsekit_In x204 x72).bind fun r206 =>
   some (!(r206))).bind fun r201 =>
  if r201 = true then
   some (.inr (.inr ()))
  else
   some (.inl (wa .i64 x166 1))
 else
  some (.inr (.inl ()))
def sparseref12_Check_l21 (x1 : List (List Int)) : Int → Option ((Int) ⊕ (Unit ⊕ Unit)) := fun x72 =>
 if x72 < (x1.length : Int) then
  (getI x1 x72).bind fun x142 =>
  (sparsekit_Ascending x142).bind fun r144 =>
  if r144 = true then
   (loop (sparseref12_Check_l28 x1 x72) 0).bind (fun o => match o with
    | .inl () =>
     some (.inl (wa .i64 x72 1))
    | .inr () =>
     some (.inr (.inr ())))
  else
   some (.inr (.inr ()))
 else
  some (.inr (.inl ()))
def sparseref12_Check (x1 : List (List Int)) : Option (Int) :=
 if (200 : Int) < (x1.length : Int) then
  some 6
 else
  (loop (sparseref12_Check_l21 x1) 0).bind (fun o => match o with
   | .inl () =>
    some 0
   | .inr () =>
    some 1)

def sparseref18_edge_l1 (x1 : List (List Int)) (x7 : Int) (x8 : Int) (x5 : List (List Int)) : Int → Option ((Int) ⊕ (Unit ⊕ Int)) := fun x20 =>
 (getI x1 x7).bind fun x33 =>
 if x20 < (x33.length : Int) then
  (getI x1 x7).bind fun x36 =>
  (getI x36 x20).bind fun x38 =>
  if x38 = x8 then
   (getI x5 x7).bind fun x40 =>
   (getI x40 x20).bind fun x42 =>
   some (.inr (.inr x42))
  else
   some (.inl (wa .i64 x20 1))
 else
  some (.inr (.inl ()))
def sparseref18_edge (x1 : List (List Int)) (x3 : List Int) (x5 : List (List Int)) (x7 : Int) (x8 : Int) : Option (Int) :=
 (loop (sparseref18_edge_l1 x1 x7 x8 x5) 0).bind (fun o => match o with
  | .inl () =>
   some 0
  | .inr x32 =>
   some x32)

def sparseref18_CheckWeighted_l57 (x5 : List (List Int)) (x94 : Int) (x1 : List (List Int)) (x3 : List Int) : Int → Option ((Int) ⊕ (Unit ⊕ Unit)) := fun x190 =>
 (getI x5 x94).bind fun x211 =>
 if x190 < (x211.length : Int) then
  (getI x5 x94).bind fun x214 =>
  (getI x214 x190).bind fun x216 =>
  (if x216 < 1 then
   some true
  else
   some (decide ((1099511627776 : Int) < x216))).bind fun r217 =>
  (if r217 = true then
   some true
  else
   (getI x1 x94).bind fun x225 =>
   (getI x225 x190).bind fun x227 =>
   (sparseref18_edge x1 x3 x5 x227 x94).bind fun r228 =>
   some (!(decide (x216 = r228)))).bind fun r218 =>
  if r218 = true then
   some (.inr (.inr ()))
  else
   some (.inl (wa .i64 x190 1))
 else
  some (.inr (.inl ()))
def sparseref18_CheckWeighted_l43 (x1 : List (List Int)) (x3 : List Int) (x5 : List (List Int)) : Int → Option ((Int) ⊕ (Unit ⊕ Unit)) := fun x94 =>
 if x94 < (x1.length : Int) then
  (getI x3 x94).bind fun x164 =>
  (if x164 < 1 then
   some true
  else
   (getI x3 x94).bind fun x169 =>
   some (decide ((1099511627776 : Int) < x169))).bind fun r166 =>
  if r166 = true then
   some (.inr (.inr ()))
  else
   (loop (sparseref18_CheckWeighted_l57 x5 x94 x1 x3) 0).bind (fun o => match o with
    | .inl () =>
     some (.inl (wa .i64 x94 1))
    | .inr () =>
     some (.inr (.inr ())))
 else
  some (.inr (.inl ()))
def sparseref18_CheckWeighted_l2 (x1 : List (List Int)) (x5 : List (List Int)) : Int → Option ((Int) ⊕ (Unit ⊕ Unit)) := fun x19 =>
 if x19 < (x1.length : Int) then
  (getI x5 x19).bind fun x231 =>
  (getI x1 x19).bind fun x233 =>
  if (x231.length : Int) = (x233.length : Int) then
   some (.inl (wa .i64 x19 1))
  else
   some (.inr (.inr ()))
 else
  some (.inr (.inl ()))
def sparseref18_CheckWeighted (x1 : List (List Int)) (x3 : List Int) (x5 : List (List Int)) : Option (Int) :=
 (sparseref12_Check x1).bind fun r8 =>
 if r8 = 0 then
  if ((!(decide ((x3.length : Int) = (x1.length : Int)))) || (!(decide ((x5.length : Int) = (x1.length : Int))))) = true then
   some 1
  else
   (loop (sparseref18_CheckWeighted_l2 x1 x5) 0).bind (fun o => match o with
    | .inl () =>
     (loop (sparseref18_CheckWeighted_l43 x1 x3 x5) 0).bind (fun o => match o with
      | .inl () =>
       some 0
      | .inr () =>
       some 1)
    | .inr () =>
     some 1)
 else
  some r8
end M
