/- Models of functions of the program, printed. -/
import Derived.Test.YtcknmegldjnjjaaGreatDoorM6
namespace M
open Sx
set_option linter.unusedVariables false
def sparsekit_In_l1 (x1 : List Int) (x3 : Int) : Int → Option ((Int) ⊕ (Unit ⊕ Unit)) := fun x7 =>
  if x7 < (x1.length : Int) then
    (getI x1 x7).bind fun x13 =>
    if x13 = x3 then
      some (.inr (.inr ()))
    else
      some (.inl (wa .i64 x7 1))
  else
    some (.inr (.inl ()))
def sparsekit_In (x1 : List Int) (x3 : Int) : Option (Bool) :=
  (loop (sparsekit_In_l1 x1 x3) 0).bind (fun o => match o with
    | .inl () =>
      some false
    | .inr () =>
      some true)

def sparselaw12_GraphNormal_l121 (r9 : Int) (x258 : Int) (x541 : Int) (r11 : Int × Int × (List Int) × (List Int) × (List Int)) : Bool × Int → Option ((Bool × Int) ⊕ (Bool)) := fun (x624, x625) =>
  if x625 < r9 then
    (if x624 = true then
      some true
    else
      (if x258 = x541 then
        some false
      else
        (sparseref09_Stored r11.1 r11.2.1 r11.2.2.1 r11.2.2.2.1 r11.2.2.2.2 x625 x258).bind fun r675 =>
        some r675).bind fun r672 =>
      (if r672 = true then
        (sparseref09_Stored r11.1 r11.2.1 r11.2.2.1 r11.2.2.2.1 r11.2.2.2.2 x625 x541).bind fun r680 =>
        some r680
      else
        some false).bind fun r677 =>
      some r677).bind fun r668 =>
    some (.inl (r668, wa .i64 x625 1))
  else
    some (.inr x624)
def sparselaw12_GraphNormal_l113 (r10 : Int) (r9 : Int) (x258 : Int) (r11 : Int × Int × (List Int) × (List Int) × (List Int)) (r16 : (List (List Int)) × Int) : Int → Option ((Int) ⊕ (Unit ⊕ Unit)) := fun x541 =>
  if x541 < r10 then
    (loop (sparselaw12_GraphNormal_l121 r9 x258 x541 r11) (false, 0)).bind fun x652 =>
    (getI r16.1 x258).bind fun x653 =>
    (sparsekit_In x653 x541).bind fun r655 =>
    if (r655 == x652) = true then
      some (.inl (wa .i64 x541 1))
    else
      some (.inr (.inr ()))
  else
    some (.inr (.inl ()))
def sparselaw12_GraphNormal_l86 (r10 : Int) (r9 : Int) (r11 : Int × Int × (List Int) × (List Int) × (List Int)) (r16 : (List (List Int)) × Int) : Int → Option ((Int) ⊕ (Unit ⊕ Unit)) := fun x258 =>
  if x258 < r10 then
    (loop (sparselaw12_GraphNormal_l113 r10 r9 x258 r11 r16) 0).bind (fun o => match o with
      | .inl () =>
        some (.inl (wa .i64 x258 1))
      | .inr () =>
        some (.inr (.inr ())))
  else
    some (.inr (.inl ()))
def sparselaw12_GraphNormal (x1 : Int) (x2 : Int) (x3 : List Int) (x5 : List Int) : Option (Bool) :=
  if (60 : Int) < (x3.length : Int) then
    (sparselaw12_awake).bind fun r8 =>
    some r8
  else
    (sparsekit_Place x1 7).bind fun r9 =>
    (sparsekit_Place x2 7).bind fun r10 =>
    (sparsemake_Matrix r9 r10 x3).bind fun r11 =>
    (graph_FromNormal r11.1 r11.2.1 r11.2.2.1 r11.2.2.2.1 r11.2.2.2.2).bind fun r16 =>
    (sparsekit_Shuffle x5 r9).bind fun r19 =>
    (sparsekit_Shuffle [] r10).bind fun r21 =>
    (matrix_Permute r11.1 r11.2.1 r11.2.2.1 r11.2.2.2.1 r11.2.2.2.2 r19 r21).bind fun r23 =>
    (graph_FromNormal r23.1 r23.2.1 r23.2.2.1 r23.2.2.2.1 r23.2.2.2.2.1).bind fun r33 =>
    (if ((((!(decide (r16.2 = 0))) || (!(decide (r23.2.2.2.2.2 = 0)))) || (!(decide (r33.2 = 0)))) || (!(decide ((r16.1.length : Int) = r10)))) = true then
      some true
    else
      (sparsekit_Graph r16.1 r33.1).bind fun r46 =>
      some (!(r46))).bind fun r43 =>
    if r43 = true then
      some false
    else
      (loop (sparselaw12_GraphNormal_l86 r10 r9 r11 r16) 0).bind (fun o => match o with
        | .inl () =>
          (sparselaw12_awake).bind fun r470 =>
          some r470
        | .inr () =>
          some false)

def graph_FromMatrix_l1 (r17 : (List (Int × Int × Int))) : (List (List Bool)) × Int → Option (((List (List Bool)) × Int) ⊕ (((List (List Bool))))) := fun (x23, x24) =>
  if x24 < (r17.length : Int) then
    (getI r17 x24).bind fun x35 =>
    (graph_Sets_Join x23 x35.1 x35.2.1).bind fun r37 =>
    some (.inl (r37, wa .i64 x24 1))
  else
    some (.inr x23)
def graph_FromMatrix (x1 : Int) (x2 : Int) (x3 : List Int) (x5 : List Int) (x7 : List Int) : Option ((List (List Int)) × Int) :=
  (matrix_Check x1 x2 x3 x5 x7).bind fun r11 =>
  if r11 = 0 then
    if x1 = x2 then
      (graph_NewSets x2).bind fun r14 =>
      (matrix_Entries x1 x2 x3 x5 x7).bind fun r17 =>
      (loop (graph_FromMatrix_l1 r17) (r14, 0)).bind fun x31 =>
      (graph_Sets_Graph x31).bind fun r32 =>
      some (r32, 0)
    else
      some ([], 5)
  else
    some ([], r11)

def matrix_Transpose_l1 (r13 : (List (Int × Int × Int))) : (List (Int × Int × Int)) × Int → Option (((List (Int × Int × Int)) × Int) ⊕ (((List (Int × Int × Int))))) := fun (x24, x25) =>
  if x25 < (r13.length : Int) then
    (getI x24 x25).bind fun x43 =>
    (getI x24 x25).bind fun x45 =>
    (getI x24 x25).bind fun x46 =>
    (setI x24 x25 (x43.2.1, x46.2.1, x46.2.2)).bind fun x47 =>
    (getI x47 x25).bind fun x48 =>
    (getI x47 x25).bind fun x49 =>
    (setI x47 x25 (x49.1, x43.1, x49.2.2)).bind fun x50 =>
    some (.inl (x50, wa .i64 x25 1))
  else
    some (.inr x24)
def matrix_Transpose (x1 : Int) (x2 : Int) (x3 : List Int) (x5 : List Int) (x7 : List Int) : Option (Int × Int × (List Int) × (List Int) × (List Int) × Int) :=
  (matrix_Check x1 x2 x3 x5 x7).bind fun r11 =>
  if r11 = 0 then
    (matrix_entries x1 x2 x3 x5 x7).bind fun r13 =>
    (loop (matrix_Transpose_l1 r13) (r13, 0)).bind fun x37 =>
    (matrix_build x2 x1 x37).bind fun r38 =>
    some (r38.1, r38.2.1, r38.2.2.1, r38.2.2.2.1, r38.2.2.2.2, 0)
  else
    some (0, 0, [], [], [], r11)

def graph_Permuted_1 (x1 : Int) (x3 : List (List Int)) : Option (Bool) :=
  (graph_vertex x3 x1).bind fun r5 =>
  some (!(r5))

def slices_IndexFunc_int_l1 (x1 : List Int) (x4 : List (List Int)) : Int → Option ((Int) ⊕ (Unit ⊕ Int)) := fun x10 =>
  if x10 < (x1.length : Int) then
    (getI x1 x10).bind fun x18 =>
    (graph_Permuted_1 x18 x4).bind fun r19 =>
    if r19 = true then
      some (.inr (.inr x10))
    else
      some (.inl (wa .i64 x10 1))
  else
    some (.inr (.inl ()))
def slices_IndexFunc_int (x1 : List Int) (x4 : List (List Int)) : Option (Int) :=
  (loop (slices_IndexFunc_int_l1 x1 x4) 0).bind (fun o => match o with
    | .inl () =>
      some (-1)
    | .inr x16 =>
      some x16)

def slices_ContainsFunc_int (x1 : List Int) (x4 : List (List Int)) : Option (Bool) :=
  (slices_IndexFunc_int x1 x4).bind fun r6 =>
  some (decide ((0 : Int) ≤ r6))

def slices_Values_int (x1 : List Int) : Option (Unit) :=
  some ()

def slices_Collect_int (x2 : List Int) : Option ((List Int)) :=
  (colV x2).bind fun r4 =>
  some r4

def slices_Sorted_int (x2 : List Int) : Option ((List Int)) :=
  (slices_Collect_int x2).bind fun r4 =>
  (sortI r4).bind fun r6 =>
  some r6

def graph_twice (x1 : List Int) : Option (Bool) :=
  (slices_Values_int x1).bind fun r3 =>
  (slices_Sorted_int x1).bind fun r5 =>
  (compactI r5).bind fun r7 =>
  some (decide ((r7.length : Int) < (x1.length : Int)))

def graph_Permuted (x1 : List (List Int)) (x3 : List Int) : Option (Int) :=
  (graph_Check x1).bind fun r6 =>
  if r6 = 0 then
    if (x3.length : Int) = (x1.length : Int) then
      (slices_ContainsFunc_int x3 x1).bind fun r9 =>
      (if r9 = true then
        some true
      else
        (graph_twice x3).bind fun r14 =>
        some r14).bind fun r11 =>
      if r11 = true then
        some 90
      else
        some 0
    else
      some 2
  else
    some r6
end M
