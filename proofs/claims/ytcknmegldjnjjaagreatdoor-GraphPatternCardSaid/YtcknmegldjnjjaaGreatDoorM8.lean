/- Models of functions of the program, printed. -/
import Derived.Test.YtcknmegldjnjjaaGreatDoorM7
namespace M
open Sx
set_option linter.unusedVariables false
def graph_induced_j13 (x86 : Int) (x101 : List (List Bool)) : Option (((List (List Bool)) × Int) ⊕ (((List (List Bool))))) :=
  some (.inl (x101, wa .i64 x86 1))
def graph_induced_l12 (x77 : List Int) (x1 : List (List Int)) (x76 : Int) (x40 : Int) : (List (List Bool)) × Int → Option (((List (List Bool)) × Int) ⊕ (((List (List Bool))))) := fun (x85, x86) =>
  if x86 < (x77.length : Int) then
    (getI x77 x86).bind fun x98 =>
    (graph_joined x1 x76 x98).bind fun r99 =>
    if r99 = true then
      (graph_Sets_Join x85 x40 x86).bind fun r103 =>
      graph_induced_j13 x86 r103
    else
      graph_induced_j13 x86 x85
  else
    some (.inr x85)
def graph_induced_l9 (x3 : List Int) (x1 : List (List Int)) : (List (List Bool)) × Int → Option (((List (List Bool)) × Int) ⊕ (((List (List Bool))))) := fun (x39, x40) =>
  if x40 < (x3.length : Int) then
    (getI x3 x40).bind fun x76 =>
    (sli x3 0 x40).bind fun x77 =>
    (loop (graph_induced_l12 x77 x1 x76 x40) (x39, 0)).bind fun x96 =>
    some (.inl (x96, wa .i64 x40 1))
  else
    some (.inr x39)
def graph_induced (x1 : List (List Int)) (x3 : List Int) : Option ((List (List Int))) :=
  (graph_NewSets (x3.length : Int)).bind fun r7 =>
  (loop (graph_induced_l9 x3 x1) (r7, 0)).bind fun x72 =>
  (graph_Sets_Graph x72).bind fun r73 =>
  some r73

def graph_Relabel (x1 : List (List Int)) (x3 : List Int) : Option ((List (List Int)) × Int) :=
  (graph_Permuted x1 x3).bind fun r7 =>
  if r7 = 0 then
    (graph_induced x1 x3).bind fun r9 =>
    some (r9, 0)
  else
    some ([], r7)

def sparsekit_TwinInts_l1 (x1 : List Int) : (List Int) × Int → Option (((List Int) × Int) ⊕ (((List Int)))) := fun (x9, x10) =>
  if x10 < (x1.length : Int) then
    (getI x1 x10).bind fun x22 =>
    (app x9 [x22]).bind fun x25 =>
    some (.inl (x25, wa .i64 x10 1))
  else
    some (.inr x9)
def sparsekit_TwinInts (x1 : List Int) : Option ((List Int)) :=
  (loop (sparsekit_TwinInts_l1 x1) ([], 0)).bind fun x20 =>
  some x20

def sparsekit_TwinFloats_l1 (x1 : List Int) : (List Int) × Int → Option (((List Int) × Int) ⊕ (((List Int)))) := fun (x9, x10) =>
  if x10 < (x1.length : Int) then
    (getI x1 x10).bind fun x22 =>
    (app x9 [x22]).bind fun x25 =>
    some (.inl (x25, wa .i64 x10 1))
  else
    some (.inr x9)
def sparsekit_TwinFloats (x1 : List Int) : Option ((List Int)) :=
  (loop (sparsekit_TwinFloats_l1 x1) ([], 0)).bind fun x20 =>
  some x20

def sparsekit_TwinMatrix (x1 : Int) (x2 : Int) (x3 : List Int) (x5 : List Int) (x7 : List Int) : Option (Int × Int × (List Int) × (List Int) × (List Int)) :=
  (sparsekit_TwinInts x3).bind fun r11 =>
  (sparsekit_TwinInts x5).bind fun r13 =>
  (sparsekit_TwinFloats x7).bind fun r15 =>
  some (x1, x2, r11, r13, r15)

def sparselaw12_GraphPattern_l1 : (List Int) × Int → Option (((List Int) × Int) ⊕ (((List Int)))) := fun (x45, x46) =>
  if x46 < (x45.length : Int) then
    (setI x45 x46 4607182418800017408).bind fun x90 =>
    some (.inl (x90, wa .i64 x46 1))
  else
    some (.inr x45)
def sparselaw12_GraphPattern (x1 : Int) (x2 : List Int) (x4 : List Int) : Option (Bool) :=
  if (60 : Int) < (x2.length : Int) then
    (sparselaw12_awake).bind fun r7 =>
    some r7
  else
    (sparsekit_Place x1 8).bind fun r8 =>
    (sparsemake_Matrix r8 r8 x2).bind fun r9 =>
    (graph_FromMatrix r9.1 r9.2.1 r9.2.2.1 r9.2.2.2.1 r9.2.2.2.2).bind fun r14 =>
    (matrix_Transpose r9.1 r9.2.1 r9.2.2.1 r9.2.2.2.1 r9.2.2.2.2).bind fun r17 =>
    (graph_FromMatrix r17.1 r17.2.1 r17.2.2.1 r17.2.2.2.1 r17.2.2.2.2.1).bind fun r22 =>
    (sparsekit_Shuffle x4 r8).bind fun r25 =>
    (matrix_Permute r9.1 r9.2.1 r9.2.2.1 r9.2.2.2.1 r9.2.2.2.2 r25 r25).bind fun r27 =>
    (graph_FromMatrix r27.1 r27.2.1 r27.2.2.1 r27.2.2.2.1 r27.2.2.2.2.1).bind fun r32 =>
    (graph_Relabel r14.1 r25).bind fun r35 =>
    (sparsekit_TwinMatrix r9.1 r9.2.1 r9.2.2.1 r9.2.2.2.1 r9.2.2.2.2).bind fun r38 =>
    (loop (sparselaw12_GraphPattern_l1) (r38.2.2.2.2, 0)).bind fun x51 =>
    (graph_FromMatrix r38.1 r38.2.1 r38.2.2.1 r38.2.2.2.1 x51).bind fun r52 =>
    (if ((((((((decide (r14.2 = 0)) && (decide (r17.2.2.2.2.2 = 0))) && (decide (r22.2 = 0))) && (decide (r27.2.2.2.2.2 = 0))) && (decide (r32.2 = 0))) && (decide (r35.2 = 0))) && (decide (r52.2 = 0))) && (decide ((r14.1.length : Int) = r8))) = true then
      (sparsekit_Graph r14.1 r22.1).bind fun r73 =>
      some r73
    else
      some false).bind fun r70 =>
    (if r70 = true then
      (sparsekit_Graph r32.1 r35.1).bind fun r78 =>
      some r78
    else
      some false).bind fun r75 =>
    (if r75 = true then
      (sparsekit_Graph r14.1 r52.1).bind fun r83 =>
      some r83
    else
      some false).bind fun r80 =>
    (if r80 = true then
      (sparselaw12_awake).bind fun r88 =>
      some r88
    else
      some false).bind fun r85 =>
    some r85
end M
