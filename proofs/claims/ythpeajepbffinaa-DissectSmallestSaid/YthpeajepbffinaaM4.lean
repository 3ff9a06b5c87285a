/- Models of functions of the program, printed. -/
import Derived.Test.YthpeajepbffinaaM3
namespace M
open Sx
set_option linter.unusedVariables false
def sparsekit_Place (x1 : Int) (x2 : Int) : Option (Int) :=
 (wr (wc .u64 x1) (wc .u64 x2)).bind fun x3 =>
 some (wc .i64 x3)

def sparseref12_FromTable_j40 (x299 : Int) (x377 : List Int) : Option (((List Int) × Int) ⊕ (((List Int)))) :=
 some (.inl (x377, wa .i64 x299 1))
def sparseref12_FromTable_l36 (x1 : List (List Bool)) (x130 : Int) : (List Int) × Int → Option (((List Int) × Int) ⊕ (((List Int)))) := fun (x298, x299) =>
 if x299 < (x1.length : Int) then
  (if x130 = x299 then
   some false
  else
   (getI x1 x130).bind fun x361 =>
   (getI x361 x299).bind fun x363 =>
   (if x363 = true then
    some true
   else
    (getI x1 x299).bind fun x370 =>
    (getI x370 x130).bind fun x372 =>
    some x372).bind fun r367 =>
   some r367).bind fun r358 =>
  if r358 = true then
   (app x298 [x299]).bind fun x381 =>
   sparseref12_FromTable_j40 x299 x381
  else
   sparseref12_FromTable_j40 x299 x298
 else
  some (.inr x298)
def sparseref12_FromTable_l27 (x1 : List (List Bool)) : (List (List Int)) × Int → Option (((List (List Int)) × Int) ⊕ (((List (List Int))))) := fun (x129, x130) =>
 if x130 < (x1.length : Int) then
  (loop (sparseref12_FromTable_l36 x1 x130) ([], 0)).bind fun x341 =>
  (app x129 [x341]).bind fun x344 =>
  some (.inl (x344, wa .i64 x130 1))
 else
  some (.inr x129)
def sparseref12_FromTable (x1 : List (List Bool)) : Option ((List (List Int))) :=
 (loop (sparseref12_FromTable_l27 x1) ([], 0)).bind fun x258 =>
 some x258

def sparsemake_Graph_l4 (x2 : List Int) (x1 : Int) : (List (List Bool)) × Int → Option (((List (List Bool)) × Int) ⊕ (((List (List Bool))))) := fun (x45, x46) =>
 if ((decide ((wa .i64 x46 1) < (x2.length : Int))) && (decide ((0 : Int) < x1))) = true then
  (getI x2 x46).bind fun x66 =>
  (sparsekit_Place x66 x1).bind fun r67 =>
  (getI x45 r67).bind fun x68 =>
  (getI x2 (wa .i64 x46 1)).bind fun x70 =>
  (sparsekit_Place x70 x1).bind fun r71 =>
  (setI x68 r71 true).bind fun x72 =>
  (setI x45 r67 x72).bind fun x73 =>
  some (.inl (x73, wa .i64 x46 2))
 else
  some (.inr x45)
def sparsemake_Graph_l1 (x1 : Int) : (List (List Bool)) × Int → Option (((List (List Bool)) × Int) ⊕ (((List (List Bool))))) := fun (x16, x17) =>
 if x17 < x1 then
  (mkL false x1).bind fun x77 =>
  (app x16 [x77]).bind fun x81 =>
  some (.inl (x81, wa .i64 x17 1))
 else
  some (.inr x16)
def sparsemake_Graph (x1 : Int) (x2 : List Int) : Option ((List (List Int))) :=
 (loop (sparsemake_Graph_l1 x1) ([], 0)).bind fun x33 =>
 (loop (sparsemake_Graph_l4 x2 x1) (x33, 0)).bind fun x60 =>
 (sparseref12_FromTable x60).bind fun r61 =>
 some r61

def sparseref18_Ones_l4 (x1 : List (List Int)) (x43 : Int) : (List Int) × Int → Option (((List Int) × Int) ⊕ (((List Int)))) := fun (x94, x95) =>
 (getI x1 x43).bind fun x113 =>
 if x95 < (x113.length : Int) then
  (app x94 [1]).bind fun x118 =>
  some (.inl (x118, wa .i64 x95 1))
 else
  some (.inr x94)
def sparseref18_Ones_l3 (x1 : List (List Int)) : (List Int) × (List (List Int)) × Int → Option (((List Int) × (List (List Int)) × Int) ⊕ (((List Int) × (List (List Int))))) := fun (x40, x42, x43) =>
 if x43 < (x1.length : Int) then
  (loop (sparseref18_Ones_l4 x1 x43) ([], 0)).bind fun x106 =>
  (app x40 [1]).bind fun x109 =>
  (app x42 [x106]).bind fun x112 =>
  some (.inl (x109, x112, wa .i64 x43 1))
 else
  some (.inr (x40, x42))
def sparseref18_Ones (x1 : List (List Int)) : Option ((List (List Int)) × (List Int) × (List (List Int))) :=
 (loop (sparseref18_Ones_l3 x1) ([], [], 0)).bind fun (x83, x85) =>
 some (x1, x83, x85)

def dissect_weight (x1 : List (List Int)) (x3 : List Int) (x5 : List (List Int)) (x7 : Int) (x8 : Int) : Option (Int) :=
 (getI x1 x7).bind fun x10 =>
 (slices_BinarySearch_int x10 x8).bind fun r12 =>
 (getI x5 x7).bind fun x13 =>
 (getI x13 r12.1).bind fun x15 =>
 some x15

def dissect_CheckWeighted_l9 (x105 : List Int) (x5 : List (List Int)) (x76 : Int) (x1 : List (List Int)) (x3 : List Int) : Int → Option ((Int) ⊕ (Unit ⊕ Unit)) := fun x114 =>
 if x114 < (x105.length : Int) then
  (getI x105 x114).bind fun x124 =>
  (getI x5 x76).bind fun x125 =>
  (getI x125 x114).bind fun x127 =>
  (dissect_weight x1 x3 x5 x124 x76).bind fun r128 =>
  if x127 = r128 then
   some (.inl (wa .i64 x114 1))
  else
   some (.inr (.inr ()))
 else
  some (.inr (.inl ()))
def dissect_CheckWeighted_l8 (x1 : List (List Int)) (x5 : List (List Int)) (x3 : List Int) : Int → Option ((Int) ⊕ (Unit ⊕ Unit)) := fun x76 =>
 if x76 < (x1.length : Int) then
  (getI x1 x76).bind fun x105 =>
  (loop (dissect_CheckWeighted_l9 x105 x5 x76 x1 x3) 0).bind (fun o => match o with
   | .inl () =>
    some (.inl (wa .i64 x76 1))
   | .inr () =>
    some (.inr (.inr ())))
 else
  some (.inr (.inl ()))
def dissect_CheckWeighted_l5 (x1 : List (List Int)) (x5 : List (List Int)) : Int → Option ((Int) ⊕ (Unit ⊕ Unit)) := fun x33 =>
 if x33 < (x1.length : Int) then
  (getI x1 x33).bind fun x131 =>
  (getI x5 x33).bind fun x133 =>
  (if (x133.length : Int) = (x131.length : Int) then
   (getI x5 x33).bind fun x141 =>
   (dissect_weights x141).bind fun r143 =>
   some (!(r143))
  else
   some true).bind fun r138 =>
  if r138 = true then
   some (.inr (.inr ()))
  else
   some (.inl (wa .i64 x33 1))
 else
  some (.inr (.inl ()))
def dissect_CheckWeighted (x1 : List (List Int)) (x3 : List Int) (x5 : List (List Int)) : Option (Int) :=
 (graph_Check x1).bind fun r8 =>
 if r8 = 0 then
  (if ((!(decide ((x3.length : Int) = (x1.length : Int)))) || (!(decide ((x5.length : Int) = (x1.length : Int))))) = true then
   some true
  else
   (dissect_weights x3).bind fun r16 =>
   some (!(r16))).bind fun r13 =>
  if r13 = true then
   some 1
  else
   (loop (dissect_CheckWeighted_l5 x1 x5) 0).bind (fun o => match o with
    | .inl () =>
     (loop (dissect_CheckWeighted_l8 x1 x5 x3) 0).bind (fun o => match o with
      | .inl () =>
       some 0
      | .inr () =>
       some 1)
    | .inr () =>
     some 1)
 else
  some r8

def dissect_Bisect (x1 : List (List Int)) (x3 : List Int) (x5 : List (List Int)) : Option ((List Int) × Int) :=
 (dissect_CheckWeighted x1 x3 x5).bind fun r8 =>
 if r8 = 0 then
  (dissect_bisect FUEL x1 x3 x5).bind fun r10 =>
  if r10.2 = true then
   some (r10.1, 0)
  else
   some ([], 3)
 else
  some ([], r8)

def sparsekit_TwinInts_l1 (x1 : List Int) : (List Int) × Int → Option (((List Int) × Int) ⊕ (((List Int)))) := fun (x9, x10) =>
 if x10 < (x1.length : Int) then
  (getI x1 x10).bind fun x22 =>
  (app x9 [x22]).bind fun x25 =>
  some (.inl (x25, wa .i64 x10 1))
 else
  some (.inr x9)
def sparsekit_TwinInts (x1 : List Int) : Option ((List Int)) :=
 (loop (sparsekit_TwinInts_l1 x1) ([], 0)).bind fun x20 =>
 some x20

def sparsekit_Perm_l5 (x3 : Int) (x1 : List Int) : (List Bool) × Int → Option (((List Bool) × Int) ⊕ (Unit ⊕ Unit)) := fun (x25, x26) =>
 if x26 < x3 then
  (getI x1 x26).bind fun x47 =>
  (if x47 < 0 then
   some true
  else
   (getI x1 x26).bind fun x52 =>
   some (decide (x3 ≤ x52))).bind fun r49 =>
  (if r49 = true then
   some true
  else
   (getI x1 x26).bind fun x58 =>
   (getI x25 x58).bind fun x59 =>
   some x59).bind fun r55 =>
  if r55 = true then
   some (.inr (.inr ()))
  else
   (getI x1 x26).bind fun x61 =>
   (setI x25 x61 true).bind fun x62 =>
   some (.inl (x62, wa .i64 x26 1))
 else
  some (.inr (.inl ()))
def sparsekit_Perm (x1 : List Int) (x3 : Int) : Option (Bool) :=
 if (x1.length : Int) = x3 then
  (mkL false x3).bind fun x7 =>
  (loop (sparsekit_Perm_l5 x3 x1) (x7, 0)).bind (fun o => match o with
   | .inl () =>
    some true
   | .inr () =>
    some false)
 else
  some false

def sparsekit_In_l1 (x1 : List Int) (x3 : Int) : Int → Option ((Int) ⊕ (Unit ⊕ Unit)) := fun x7 =>
 if x7 < (x1.length : Int) then
  (getI x1 x7).bind fun x13 =>
  if x13 = x3 then
   some (.inr (.inr ()))
  else
   some (.inl (wa .i64 x7 1))
 else
  some (.inr (.inl ()))
def sparsekit_In (x1 : List Int) (x3 : Int) : Option (Bool) :=
 (loop (sparsekit_In_l1 x1 x3) 0).bind (fun o => match o with
  | .inl () =>
   some false
  | .inr () =>
   some true)

def sparseref09_Pack_j14 (x232 : Int) (x276 : List Int) (x278 : List Int) : Option (((List Int) × (List Int) × Int) ⊕ (((List Int) × (List Int)))) :=
 some (.inl (x276, x278, wa .i64 x232 1))
def sparseref09_Pack_l13 (x1 : Int) (x23 : List Int) (x111 : Int) (x3 : List (Int × Int × Int)) : (List Int) × (List Int) × Int → Option (((List Int) × (List Int) × Int) ⊕ (((List Int) × (List Int)))) := fun (x229, x231, x232) =>
 if x232 < x1 then
  (getI x23 (wa .i64 (wm .i64 x111 x1) x232)).bind fun x267 =>
  if (0 : Int) < x267 then
   (app x229 [x232]).bind fun x282 =>
   (getI x3 (ws .i64 x267 1)).bind fun x283 =>
   (app x231 [x283.2.2]).bind fun x286 =>
   sparseref09_Pack_j14 x232 x282 x286
  else
   sparseref09_Pack_j14 x232 x229 x231
 else
  some (.inr (x229, x231))
def sparseref09_Pack_l10 (x2 : Int) (x1 : Int) (x23 : List Int) (x3 : List (Int × Int × Int)) : (List Int) × (List Int) × (List Int) × Int → Option (((List Int) × (List Int) × (List Int) × Int) ⊕ (((List Int) × (List Int) × (List Int)))) := fun (x106, x108, x110, x111) =>
 if x111 < x2 then
  (loop (sparseref09_Pack_l13 x1 x23 x111 x3) (x108, x110, 0)).bind fun (x260, x262) =>
  (app x106 [(x260.length : Int)]).bind fun x265 =>
  some (.inl (x265, x260, x262, wa .i64 x111 1))
 else
  some (.inr (x106, x108, x110))
def sparseref09_Pack_l1 (x3 : List (Int × Int × Int)) (x1 : Int) : (List Int) × Int → Option (((List Int) × Int) ⊕ (((List Int)))) := fun (x15, x16) =>
 if x16 < (x3.length : Int) then
  (getI x3 x16).bind fun x288 =>
  (getI x3 x16).bind fun x289 =>
  (setI x15 (wa .i64 (wm .i64 x288.2.1 x1) x289.1) (wa .i64 x16 1)).bind fun x290 =>
  some (.inl (x290, wa .i64 x16 1))
 else
  some (.inr x15)
def sparseref09_Pack (x1 : Int) (x2 : Int) (x3 : List (Int × Int × Int)) : Option (Int × Int × (List Int) × (List Int) × (List Int)) :=
 (mkL 0 (wm .i64 x1 x2)).bind fun x10 =>
 (loop (sparseref09_Pack_l1 x3 x1) (x10, 0)).bind fun x23 =>
 (loop (sparseref09_Pack_l10 x2 x1 x23 x3) ([0], [], [], 0)).bind fun (x201, x203, x205) =>
 some (x1, x2, x201, x203, x205)

def matching_Maximum (x1 : Int) (x2 : Int) (x3 : List Int) (x5 : List Int) (x7 : List Int) : Option ((List Int) × Int) :=
 (matrix_Check x1 x2 x3 x5 x7).bind fun r10 =>
 if r10 = 0 then
  (matching_matched x1 x2 x3 x5 x7).bind fun r12 =>
  some (r12.2.1, 0)
 else
  some ([], r10)

def sparselaw18_DissectSmallest_j62 (x469 : Int) (x488 : Int) : Option ((Int × Int) ⊕ (Int)) :=
 some (.inl (x488, wa .i64 x469 1))
def sparselaw18_DissectSmallest_l58 (r462 : (List Int) × Int) : Int × Int → Option ((Int × Int) ⊕ (Int)) := fun (x468, x469) =>
 if x469 < (r462.1.length : Int) then
  (getI r462.1 x469).bind fun x487 =>
  if (0 : Int) ≤ x487 then
   sparselaw18_DissectSmallest_j62 x469 (wa .i64 x468 1)
  else
   sparselaw18_DissectSmallest_j62 x469 x468
 else
  some (.inr x468)
def sparselaw18_DissectSmallest_j82 (x558 : Int) (x673 : List (Int × Int × Int)) : Option (((List (Int × Int × Int)) × Int) ⊕ (((List (Int × Int × Int))) ⊕ Unit)) :=
 some (.inl (x673, wa .i64 x558 1))
def sparselaw18_DissectSmallest_l77 (r7 : (List (List Int))) (x248 : Int) (r19 : (List Int) × Int) (r10 : (List Int) × (List Int) × (List Int) × Int) : (List (Int × Int × Int)) × Int → Option (((List (Int × Int × Int)) × Int) ⊕ (((List (Int × Int × Int))) ⊕ Unit)) := fun (x557, x558) =>
 (getI r7 x248).bind fun x629 =>
 if x558 < (x629.length : Int) then
  (getI r7 x248).bind fun x674 =>
  (getI x674 x558).bind fun x676 =>
  (getI r19.1 x248).bind fun x677 =>
  (if x677 = 0 then
   (getI r19.1 x676).bind fun x682 =>
   some (!(decide (x682 = 1)))
  else
   some true).bind fun r679 =>
  if r679 = true then
   sparselaw18_DissectSmallest_j82 x558 x557
  else
   (app x557 [(x248, x676, 0)]).bind fun x686 =>
   (sparsekit_In r10.2.2.1 x248).bind fun r687 =>
   (if r687 = true then
    some false
   else
    (sparsekit_In r10.2.2.1 x676).bind fun r692 =>
    some (!(r692))).bind fun r689 =>
   if r689 = true then
    some (.inr (.inr ()))
   else
    sparselaw18_DissectSmallest_j82 x558 x686
 else
  some (.inr (.inl x557))
def sparselaw18_DissectSmallest_l55 (r6 : Int) (r7 : (List (List Int))) (r19 : (List Int) × Int) (r10 : (List Int) × (List Int) × (List Int) × Int) : (List (Int × Int × Int)) × Int → Option (((List (Int × Int × Int)) × Int) ⊕ (((List (Int × Int × Int))) ⊕ Unit)) := fun (x247, x248) =>
 if x248 < r6 then
  (loop (sparselaw18_DissectSmallest_l77 r7 x248 r19 r10) (x247, 0)).bind (fun o => match o with
   | .inl x628 =>
    some (.inl (x628, wa .i64 x248 1))
   | .inr () =>
    some (.inr (.inr ())))
 else
  some (.inr (.inl x247))
def sparselaw18_DissectSmallest (x1 : Int) (x2 : List Int) : Option (Bool) :=
 if (90 : Int) < (x2.length : Int) then
  (sparselaw18_awake).bind fun r5 =>
  some r5
 else
  (sparsekit_Place x1 19).bind fun r6 =>
  (sparsemake_Graph r6 x2).bind fun r7 =>
  (dissect_Separate r7).bind fun r10 =>
  (sparseref18_Ones r7).bind fun r15 =>
  (dissect_Bisect r15.1 r15.2.1 r15.2.2).bind fun r19 =>
  (if r10.2.2.2 = 0 then
   some (!(decide (r19.2 = 0)))
  else
   some true).bind fun r21 =>
  (if r21 = true then
   some true
  else
   some (!(decide ((r19.1.length : Int) = r6)))).bind fun r22 =>
  (if r22 = true then
   some true
  else
   (sparsekit_TwinInts r10.1).bind fun r32 =>
   (app r32 r10.2.1).bind fun x35 =>
   (app x35 r10.2.2.1).bind fun x37 =>
   (sparsekit_Perm x37 r6).bind fun r38 =>
   some (!(r38))).bind fun r23 =>
  if r23 = true then
   some false
  else
   (loop (sparselaw18_DissectSmallest_l55 r6 r7 r19 r10) ([], 0)).bind (fun o => match o with
    | .inl x457 =>
     (sparseref09_Pack r6 r6 x457).bind fun r458 =>
     (matching_Maximum r458.1 r458.2.1 r458.2.2.1 r458.2.2.2.1 r458.2.2.2.2).bind fun r462 =>
     (loop (sparselaw18_DissectSmallest_l58 r462) (0, 0)).bind fun x476 =>
     (if (((decide (r462.2 = 0)) && (decide ((r462.1.length : Int) = r6))) && (decide (x476 = (r10.2.2.1.length : Int)))) = true then
      (sparselaw18_awake).bind fun r485 =>
      some r485
     else
      some false).bind fun r482 =>
     some r482
    | .inr () =>
     some false)
end M
