/- Models of functions of the program, printed. -/
import Derived.Test.YthpeajepbffinaaGreatM4
namespace M
open Sx
set_option linter.unusedVariables false
def slices_Collect_int (x2 : List Int) : Option ((List Int)) :=
 (colV x2).bind fun r4 =>
 some r4

def slices_Sorted_int (x2 : List Int) : Option ((List Int)) :=
 (slices_Collect_int x2).bind fun r4 =>
 (sortI r4).bind fun r6 =>
 some r6

def graph_twice (x1 : List Int) : Option (Bool) :=
 (slices_Values_int x1).bind fun r3 =>
 (slices_Sorted_int x1).bind fun r5 =>
 (compactI r5).bind fun r7 =>
 some (decide ((r7.length : Int) < (x1.length : Int)))

def graph_Sets_Graph_l1 (x1 : List (List Bool)) : (List (List Int)) × Int → Option (((List (List Int)) × Int) ⊕ (((List (List Int))))) := fun (x12, x13) =>
 if x13 < (x1.length : Int) then
  (graph_Sets_List x1 x13).bind fun r22 =>
  (setI x12 x13 r22).bind fun x24 =>
  some (.inl (x24, wa .i64 x13 1))
 else
  some (.inr x12)
def graph_Sets_Graph (x1 : List (List Bool)) : Option ((List (List Int))) :=
 (mkL ([] : List Int) (x1.length : Int)).bind fun x6 =>
 (loop (graph_Sets_Graph_l1 x1) (x6, 0)).bind fun x20 =>
 some x20

def graph_induced_j13 (x86 : Int) (x101 : List (List Bool)) : Option (((List (List Bool)) × Int) ⊕ (((List (List Bool))))) :=
 some (.inl (x101, wa .i64 x86 1))
def graph_induced_l12 (x77 : List Int) (x1 : List (List Int)) (x76 : Int) (x40 : Int) : (List (List Bool)) × Int → Option (((List (List Bool)) × Int) ⊕ (((List (List Bool))))) := fun (x85, x86) =>
 if x86 < (x77.length : Int) then
  (getI x77 x86).bind fun x98 =>
  (graph_joined x1 x76 x98).bind fun r99 =>
  if r99 = true then
   (graph_Sets_Join x85 x40 x86).bind fun r103 =>
   graph_induced_j13 x86 r103
  else
   graph_induced_j13 x86 x85
 else
  some (.inr x85)
def graph_induced_l9 (x3 : List Int) (x1 : List (List Int)) : (List (List Bool)) × Int → Option (((List (List Bool)) × Int) ⊕ (((List (List Bool))))) := fun (x39, x40) =>
 if x40 < (x3.length : Int) then
  (getI x3 x40).bind fun x76 =>
  (sli x3 0 x40).bind fun x77 =>
  (loop (graph_induced_l12 x77 x1 x76 x40) (x39, 0)).bind fun x96 =>
  some (.inl (x96, wa .i64 x40 1))
 else
  some (.inr x39)
def graph_induced (x1 : List (List Int)) (x3 : List Int) : Option ((List (List Int))) :=
 (graph_NewSets (x3.length : Int)).bind fun r7 =>
 (loop (graph_induced_l9 x3 x1) (r7, 0)).bind fun x72 =>
 (graph_Sets_Graph x72).bind fun r73 =>
 some r73

def graph_Induced (x1 : List (List Int)) (x3 : List Int) : Option ((List (List Int)) × Int) :=
 (graph_Check x1).bind fun r7 =>
 if r7 = 0 then
  (slices_ContainsFunc_int_v3 x3 x1).bind fun r9 =>
  if r9 = true then
   some ([], 3)
  else
   (graph_twice x3).bind fun r11 =>
   if r11 = true then
    some ([], 90)
   else
    (graph_induced x1 x3).bind fun r13 =>
    some (r13, 0)
 else
  some ([], r7)

def dissect_dissected_l6 (r106 : (List Int)) (x101 : List Int) : (List Int) × Int → Option (((List Int) × Int) ⊕ (((List Int)))) := fun (x115, x116) =>
 if x116 < (r106.length : Int) then
  (getI r106 x116).bind fun x129 =>
  (getI x101 x129).bind fun x130 =>
  (app x115 [x130]).bind fun x133 =>
  some (.inl (x133, wa .i64 x116 1))
 else
  some (.inr x115)
def dissect_dissected_l5 (rec : (List (List Int)) → Int → Option ((List Int))) (x11 : List Int) (x13 : List Int) (x1 : List (List Int)) (x3 : Int) : (List Int) × Int → Option (((List Int) × Int) ⊕ (((List Int)))) := fun (x57, x58) =>
 if x58 < ([x11, x13].length : Int) then
  (getI [x11, x13] x58).bind fun x101 =>
  (graph_Induced x1 x101).bind fun r103 =>
  (rec r103.1 x3).bind fun r106 =>
  (loop (dissect_dissected_l6 r106 x101) (x57, 0)).bind fun x127 =>
  some (.inl (x127, wa .i64 x58 1))
 else
  some (.inr x57)
def dissect_dissected_j1 (rec : (List (List Int)) → Int → Option ((List Int))) (x1 : List (List Int)) (x3 : Int) (x11 : List Int) (x13 : List Int) (x15 : List Int) : Option ((List Int)) :=
 if ((decide ((x11.length : Int) = 0)) || (decide ((x13.length : Int) = 0))) = true then
  (mindeg_Exact x1).bind fun r19 =>
  some r19.1
 else
  (loop (dissect_dissected_l5 rec x11 x13 x1 x3) ([], 0)).bind fun x97 =>
  (app x97 x15).bind fun x99 =>
  some x99
def dissect_dissected_body (rec : (List (List Int)) → Int → Option ((List Int))) (x1 : List (List Int)) (x3 : Int) : Option ((List Int)) :=
 if x3 < (x1.length : Int) then
  (dissect_separate x1).bind fun r135 =>
  dissect_dissected_j1 rec x1 x3 r135.1 r135.2.1 r135.2.2
 else
  dissect_dissected_j1 rec x1 x3 [] [] []
def dissect_dissected : Nat → (List (List Int)) → Int → Option ((List Int))
 | 0 => fun _ _ => none
 | n + 1 => dissect_dissected_body (dissect_dissected n)

def dissect_Order (x1 : List (List Int)) (x3 : Int) : Option ((List Int) × Int) :=
 (graph_Check x1).bind fun r5 =>
 if r5 = 0 then
  if ((decide (x3 < 1)) || (decide ((200 : Int) < x3))) = true then
   some ([], 1)
  else
   (dissect_dissected FUEL x1 x3).bind fun r10 =>
   some (r10, 0)
 else
  some ([], r5)

def sparsekit_Perm_l5 (x3 : Int) (x1 : List Int) : (List Bool) × Int → Option (((List Bool) × Int) ⊕ (Unit ⊕ Unit)) := fun (x25, x26) =>
 if x26 < x3 then
  (getI x1 x26).bind fun x47 =>
  (if x47 < 0 then
   some true
  else
   (getI x1 x26).bind fun x52 =>
   some (decide (x3 ≤ x52))).bind fun r49 =>
  (if r49 = true then
   some true
  else
   (getI x1 x26).bind fun x58 =>
   (getI x25 x58).bind fun x59 =>
   some x59).bind fun r55 =>
  if r55 = true then
   some (.inr (.inr ()))
  else
   (getI x1 x26).bind fun x61 =>
   (setI x25 x61 true).bind fun x62 =>
   some (.inl (x62, wa .i64 x26 1))
 else
  some (.inr (.inl ()))
def sparsekit_Perm (x1 : List Int) (x3 : Int) : Option (Bool) :=
 if (x1.length : Int) = x3 then
  (mkL false x3).bind fun x7 =>
  (loop (sparsekit_Perm_l5 x3 x1) (x7, 0)).bind (fun o => match o with
   | .inl () =>
    some true
   | .inr () =>
    some false)
 else
  some false

def sparsekit_In_l1 (x1 : List Int) (x3 : Int) : Int → Option ((Int) ⊕ (Unit ⊕ Unit)) := fun x7 =>
 if x7 < (x1.length : Int) then
  (getI x1 x7).bind fun x13 =>
  if x13 = x3 then
   some (.inr (.inr ()))
  else
   some (.inl (wa .i64 x7 1))
 else
  some (.inr (.inl ()))
def sparsekit_In (x1 : List Int) (x3 : Int) : Option (Bool) :=
 (loop (sparsekit_In_l1 x1 x3) 0).bind (fun o => match o with
  | .inl () =>
   some false
  | .inr () =>
   some true)

def sparsekit_Ascending_l1 (x1 : List Int) : Int → Option ((Int) ⊕ (Unit ⊕ Unit)) := fun x7 =>
 if x7 < (x1.length : Int) then
  (getI x1 x7).bind fun x14 =>
  (getI x1 (ws .i64 x7 1)).bind fun x15 =>
  if x14 ≤ x15 then
   some (.inr (.inr ()))
  else
   some (.inl (wa .i64 x7 1))
 else
  some (.inr (.inl ()))
def sparsekit_Ascending (x1 : List Int) : Option (Bool) :=
 (loop (sparsekit_Ascending_l1 x1) 1).bind (fun o => match o with
  | .inl () =>
   some true
  | .inr () =>
   some false)

def sparseref12_Check_l28 (x1 : List (List Int)) (x72 : Int) : Int → Option ((Int) ⊕ (Unit ⊕ Unit)) := fun x166 =>
 (getI x1 x72).bind fun x188 =>
 if x166 < (x188.length : Int) then
  (getI x1 x72).bind fun x191 =>
  (getI x191 x166).bind fun x193 =>
  (if (((decide (x193 < 0)) || (decide ((x1.length : Int) ≤ x193))) || (decide (x193 = x72))) = true then
   some true
  else
   (getI x1 x193).bind fun x204 =>
   (sparsekit_In x204 x72).bind fun r206 =>
   some (!(r206))).bind fun r201 =>
  if r201 = true then
   some (.inr (.inr ()))
  else
   some (.inl (wa .i64 x166 1))
 else
  some (.inr (.inl ()))
def sparseref12_Check_l21 (x1 : List (List Int)) : Int → Option ((Int) ⊕ (Unit ⊕ Unit)) := fun x72 =>
 if x72 < (x1.length : Int) then
  (getI x1 x72).bind fun x142 =>
  (sparsekit_Ascending x142).bind fun r144 =>
  if r144 = true then
   (loop (sparseref12_Check_l28 x1 x72) 0).bind (fun o => match o with
    | .inl () =>
     some (.inl (wa .i64 x72 1))
    | .inr () =>
     some (.inr (.inr ())))
  else
   some (.inr (.inr ()))
 else
  some (.inr (.inl ()))
def sparseref12_Check (x1 : List (List Int)) : Option (Int) :=
 if (200 : Int) < (x1.length : Int) then
  some 6
 else
  (loop (sparseref12_Check_l21 x1) 0).bind (fun o => match o with
   | .inl () =>
    some 0
   | .inr () =>
    some 1)

def sparseref09_Range_l3 (x1 : List Int) (x3 : Int) : Int → Option ((Int) ⊕ (Unit ⊕ Unit)) := fun x12 =>
 if x12 < (x1.length : Int) then
  (getI x1 x12).bind fun x23 =>
  (if x23 < 0 then
   some true
  else
   (getI x1 x12).bind fun x28 =>
   some (decide (x3 ≤ x28))).bind fun r25 =>
  if r25 = true then
   some (.inr (.inr ()))
  else
   some (.inl (wa .i64 x12 1))
 else
  some (.inr (.inl ()))
def sparseref09_Range (x1 : List Int) (x3 : Int) : Option (Bool) :=
 (loop (sparseref09_Range_l3 x1 x3) 0).bind (fun o => match o with
  | .inl () =>
   some true
  | .inr () =>
   some false)

def sparseref09_Twice_l1 (x1 : List Int) : Int → Option ((Int) ⊕ (Unit ⊕ Unit)) := fun x8 =>
 if x8 < (x1.length : Int) then
  (sli x1 0 x8).bind fun x16 =>
  (getI x1 x8).bind fun x17 =>
  (sparsekit_In x16 x17).bind fun r18 =>
  if r18 = true then
   some (.inr (.inr ()))
  else
   some (.inl (wa .i64 x8 1))
 else
  some (.inr (.inl ()))
def sparseref09_Twice (x1 : List Int) : Option (Bool) :=
 (loop (sparseref09_Twice_l1 x1) 0).bind (fun o => match o with
  | .inl () =>
   some false
  | .inr () =>
   some true)
end M
