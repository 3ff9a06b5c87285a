/- Models of functions of the program, printed. -/
import Derived.Test.YthpeajepbffinaaGreatM3
namespace M
open Sx
set_option linter.unusedVariables false
def sparsekit_Place (x1 : Int) (x2 : Int) : Option (Int) :=
 (wr (wc .u64 x1) (wc .u64 x2)).bind fun x3 =>
 some (wc .i64 x3)

def sparseref12_FromTable_j40 (x299 : Int) (x377 : List Int) : Option (((List Int) × Int) ⊕ (((List Int)))) :=
 some (.inl (x377, wa .i64 x299 1))
def sparseref12_FromTable_l36 (x1 : List (List Bool)) (x130 : Int) : (List Int) × Int → Option (((List Int) × Int) ⊕ (((List Int)))) := fun (x298, x299) =>
 if x299 < (x1.length : Int) then
  (if x130 = x299 then
   some false
  else
   (getI x1 x130).bind fun x361 =>
   (getI x361 x299).bind fun x363 =>
   (if x363 = true then
    some true
   else
    (getI x1 x299).bind fun x370 =>
    (getI x370 x130).bind fun x372 =>
    some x372).bind fun r367 =>
   some r367).bind fun r358 =>
  if r358 = true then
   (app x298 [x299]).bind fun x381 =>
   sparseref12_FromTable_j40 x299 x381
  else
   sparseref12_FromTable_j40 x299 x298
 else
  some (.inr x298)
def sparseref12_FromTable_l27 (x1 : List (List Bool)) : (List (List Int)) × Int → Option (((List (List Int)) × Int) ⊕ (((List (List Int))))) := fun (x129, x130) =>
 if x130 < (x1.length : Int) then
  (loop (sparseref12_FromTable_l36 x1 x130) ([], 0)).bind fun x341 =>
  (app x129 [x341]).bind fun x344 =>
  some (.inl (x344, wa .i64 x130 1))
 else
  some (.inr x129)
def sparseref12_FromTable (x1 : List (List Bool)) : Option ((List (List Int))) :=
 (loop (sparseref12_FromTable_l27 x1) ([], 0)).bind fun x258 =>
 some x258

def sparsemake_Graph_l4 (x2 : List Int) (x1 : Int) : (List (List Bool)) × Int → Option (((List (List Bool)) × Int) ⊕ (((List (List Bool))))) := fun (x45, x46) =>
 if ((decide ((wa .i64 x46 1) < (x2.length : Int))) && (decide ((0 : Int) < x1))) = true then
  (getI x2 x46).bind fun x66 =>
  (sparsekit_Place x66 x1).bind fun r67 =>
  (getI x45 r67).bind fun x68 =>
  (getI x2 (wa .i64 x46 1)).bind fun x70 =>
  (sparsekit_Place x70 x1).bind fun r71 =>
  (setI x68 r71 true).bind fun x72 =>
  (setI x45 r67 x72).bind fun x73 =>
  some (.inl (x73, wa .i64 x46 2))
 else
  some (.inr x45)
def sparsemake_Graph_l1 (x1 : Int) : (List (List Bool)) × Int → Option (((List (List Bool)) × Int) ⊕ (((List (List Bool))))) := fun (x16, x17) =>
 if x17 < x1 then
  (mkL false x1).bind fun x77 =>
  (app x16 [x77]).bind fun x81 =>
  some (.inl (x81, wa .i64 x17 1))
 else
  some (.inr x16)
def sparsemake_Graph (x1 : Int) (x2 : List Int) : Option ((List (List Int))) :=
 (loop (sparsemake_Graph_l1 x1) ([], 0)).bind fun x33 =>
 (loop (sparsemake_Graph_l4 x2 x1) (x33, 0)).bind fun x60 =>
 (sparseref12_FromTable x60).bind fun r61 =>
 some r61

def graph_NewSets_l1 (x4 : List (List Bool)) (x1 : Int) : (List (List Bool)) × Int → Option (((List (List Bool)) × Int) ⊕ (((List (List Bool))))) := fun (x12, x13) =>
 if x13 < (x4.length : Int) then
  (mkL false x1).bind fun x28 =>
  (setI x12 x13 x28).bind fun x29 =>
  some (.inl (x29, wa .i64 x13 1))
 else
  some (.inr x12)
def graph_NewSets (x1 : Int) : Option ((List (List Bool))) :=
 (mkL ([] : List Bool) x1).bind fun x4 =>
 (loop (graph_NewSets_l1 x4 x1) (x4, 0)).bind fun x24 =>
 some x24

def graph_Sets_Join_j1 (x15 : List (List Bool)) : Option ((List (List Bool))) :=
 some x15
def graph_Sets_Join (x1 : List (List Bool)) (x4 : Int) (x5 : Int) : Option ((List (List Bool))) :=
 if x4 = x5 then
  graph_Sets_Join_j1 x1
 else
  (getI x1 x4).bind fun x17 =>
  (getI x1 x5).bind fun x19 =>
  (setI x17 x5 true).bind fun x21 =>
  (setI x1 x4 x21).bind fun x22 =>
  (getI x22 x5).bind fun x23 =>
  (setI x23 x4 true).bind fun x24 =>
  (setI x22 x5 x24).bind fun x25 =>
  graph_Sets_Join_j1 x25

def graph_Table_l4 (x47 : List Int) (x25 : Int) : (List (List Bool)) × Int → Option (((List (List Bool)) × Int) ⊕ (((List (List Bool))))) := fun (x52, x53) =>
 if x53 < (x47.length : Int) then
  (getI x47 x53).bind fun x61 =>
  (graph_Sets_Join x52 x25 x61).bind fun r62 =>
  some (.inl (r62, wa .i64 x53 1))
 else
  some (.inr x52)
def graph_Table_l3 (x1 : List (List Int)) : (List (List Bool)) × Int → Option (((List (List Bool)) × Int) ⊕ (((List (List Bool))))) := fun (x24, x25) =>
 if x25 < (x1.length : Int) then
  (getI x1 x25).bind fun x47 =>
  (loop (graph_Table_l4 x47 x25) (x24, 0)).bind fun x59 =>
  some (.inl (x59, wa .i64 x25 1))
 else
  some (.inr x24)
def graph_Table (x1 : List (List Int)) : Option ((List (List Bool))) :=
 (graph_NewSets (x1.length : Int)).bind fun r4 =>
 (loop (graph_Table_l3 x1) (r4, 0)).bind fun x45 =>
 some x45

def mindeg_Start (x1 : List (List Int)) : Option ((List (List Bool)) × (List Bool)) :=
 (graph_Table x1).bind fun r4 =>
 (mkL false (x1.length : Int)).bind fun x9 =>
 some (r4, x9)

def graph_Sets_List_j4 (x19 : Int) (x42 : List Int) : Option (((List Int) × Int) ⊕ (((List Int)))) :=
 some (.inl (x42, wa .i64 x19 1))
def graph_Sets_List_l3 (x4 : List Bool) : (List Int) × Int → Option (((List Int) × Int) ⊕ (((List Int)))) := fun (x18, x19) =>
 if x19 < (x4.length : Int) then
  (getI x4 x19).bind fun x37 =>
  if x37 = true then
   (app x18 [x19]).bind fun x46 =>
   graph_Sets_List_j4 x19 x46
  else
   graph_Sets_List_j4 x19 x18
 else
  some (.inr x18)
def graph_Sets_List (x1 : List (List Bool)) (x3 : Int) : Option ((List Int)) :=
 (getI x1 x3).bind fun x4 =>
 (loop (graph_Sets_List_l3 x4) ([], 0)).bind fun x35 =>
 some x35

def mindeg_Elimination_Eliminate_l4 (x70 : List Int) (x69 : Int) : (List (List Bool)) × Int → Option (((List (List Bool)) × Int) ⊕ (((List (List Bool))))) := fun (x74, x75) =>
 if x75 < (x70.length : Int) then
  (getI x70 x75).bind fun x92 =>
  (graph_Sets_Join x74 x69 x92).bind fun r93 =>
  some (.inl (r93, wa .i64 x75 1))
 else
  some (.inr x74)
def mindeg_Elimination_Eliminate_l3 (r8 : (List Int)) (x7 : Int) : (List (List Bool)) × Int → Option (((List (List Bool)) × Int) ⊕ (((List (List Bool))))) := fun (x36, x37) =>
 if x37 < (r8.length : Int) then
  (getI r8 x37).bind fun x69 =>
  (sli r8 0 x37).bind fun x70 =>
  (loop (mindeg_Elimination_Eliminate_l4 x70 x69) (x36, 0)).bind fun x81 =>
  (getI x81 x69).bind fun x82 =>
  (getI x81 x7).bind fun x84 =>
  (setI x82 x7 false).bind fun x86 =>
  (setI x81 x69 x86).bind fun x87 =>
  (getI x87 x7).bind fun x88 =>
  (setI x88 x69 false).bind fun x89 =>
  (setI x87 x7 x89).bind fun x90 =>
  some (.inl (x90, wa .i64 x37 1))
 else
  some (.inr x36)
def mindeg_Elimination_Eliminate (x2 : List (List Bool)) (x5 : List Bool) (x7 : Int) : Option ((List (List Bool)) × (List Bool) × (List Int)) :=
 (graph_Sets_List x2 x7).bind fun r8 =>
 (loop (mindeg_Elimination_Eliminate_l3 r8 x7) (x2, 0)).bind fun x66 =>
 (setI x5 x7 true).bind fun x67 =>
 some (x66, x67, r8)

def mindeg_Exact_j40 (x143 : Int) (x176 : Int) (x177 : Int) : Option ((Int × Int × Int) ⊕ (Int)) :=
 some (.inl (x176, x177, wa .i64 x143 1))
def mindeg_Exact_l36 (x1 : List (List Int)) (x63 : List (List Bool)) (x64 : List Bool) : Int × Int × Int → Option ((Int × Int × Int) ⊕ (Int)) := fun (x141, x142, x143) =>
 if x143 < (x1.length : Int) then
  (graph_Sets_List x63 x143).bind fun r167 =>
  (getI x64 x143).bind fun x169 =>
  if ((!(x169)) && ((decide (x141 < 0)) || (decide ((r167.length : Int) < x142)))) = true then
   mindeg_Exact_j40 x143 x143 (r167.length : Int)
  else
   mindeg_Exact_j40 x143 x141 x142
 else
  some (.inr x141)
def mindeg_Exact_l27 (x1 : List (List Int)) : (List (List Bool)) × (List Bool) × (List Int) × Int → Option (((List (List Bool)) × (List Bool) × (List Int) × Int) ⊕ (((List Int)))) := fun (x63, x64, x66, x67) =>
 if x67 < (x1.length : Int) then
  (loop (mindeg_Exact_l36 x1 x63 x64) ((-1), 0, 0)).bind fun x160 =>
  (mindeg_Elimination_Eliminate x63 x64 x160).bind fun r161 =>
  (app x66 [x160]).bind fun x165 =>
  some (.inl (r161.1, r161.2.1, x165, wa .i64 x67 1))
 else
  some (.inr x66)
def mindeg_Exact (x1 : List (List Int)) : Option ((List Int) × Int) :=
 (graph_Check x1).bind fun r4 =>
 if r4 = 0 then
  (mindeg_Start x1).bind fun r6 =>
  (loop (mindeg_Exact_l27 x1) (r6.1, r6.2, [], 0)).bind fun x126 =>
  some (x126, 0)
 else
  some ([], r4)

def graph_Induced_1 (x1 : Int) (x3 : List (List Int)) : Option (Bool) :=
 (graph_vertex x3 x1).bind fun r5 =>
 some (!(r5))

def slices_IndexFunc_int_v3_l1 (x1 : List Int) (x4 : List (List Int)) : Int → Option ((Int) ⊕ (Unit ⊕ Int)) := fun x10 =>
 if x10 < (x1.length : Int) then
  (getI x1 x10).bind fun x18 =>
  (graph_Induced_1 x18 x4).bind fun r19 =>
  if r19 = true then
   some (.inr (.inr x10))
  else
   some (.inl (wa .i64 x10 1))
 else
  some (.inr (.inl ()))
def slices_IndexFunc_int_v3 (x1 : List Int) (x4 : List (List Int)) : Option (Int) :=
 (loop (slices_IndexFunc_int_v3_l1 x1 x4) 0).bind (fun o => match o with
  | .inl () =>
   some (-1)
  | .inr x16 =>
   some x16)

def slices_ContainsFunc_int_v3 (x1 : List Int) (x4 : List (List Int)) : Option (Bool) :=
 (slices_IndexFunc_int_v3 x1 x4).bind fun r6 =>
 some (decide ((0 : Int) ≤ r6))

def slices_Values_int (x1 : List Int) : Option (Unit) :=
 some ()
end M
