/- Models of functions of the program, printed. -/
import Derived.Test.YthpeajepbffinaaGreatM3
namespace M
open Sx
set_option linter.unusedVariables false
def sparsekit_Place (x1 : Int) (x2 : Int) : Option (Int) :=
 (wr (wc .u64 x1) (wc .u64 x2)).bind fun x3 =>
 some (wc .i64 x3)

def sparseref12_FromTable_j40 (x299 : Int) (x377 : List Int) : Option (((List Int) × Int) ⊕ (((List Int)))) :=
 some (.inl (x377, wa .i64 x299 1))
def sparseref12_FromTable_l36 (x1 : List (List Bool)) (x130 : Int) : (List Int) × Int → Option (((List Int) × Int) ⊕ (((List Int)))) := fun (x298, x299) =>
 if x299 < (x1.length : Int) then
  (if x130 = x299 then
   some false
  else
   (getI x1 x130).bind fun x361 =>
   (getI x361 x299).bind fun x363 =>
   (if x363 = true then
    some true
   else
    (getI x1 x299).bind fun x370 =>
    (getI x370 x130).bind fun x372 =>
    some x372).bind fun r367 =>
   some r367).bind fun r358 =>
  if r358 = true then
   (app x298 [x299]).bind fun x381 =>
   sparseref12_FromTable_j40 x299 x381
  else
   sparseref12_FromTable_j40 x299 x298
 else
  some (.inr x298)
def sparseref12_FromTable_l27 (x1 : List (List Bool)) : (List (List Int)) × Int → Option (((List (List Int)) × Int) ⊕ (((List (List Int))))) := fun (x129, x130) =>
 if x130 < (x1.length : Int) then
  (loop (sparseref12_FromTable_l36 x1 x130) ([], 0)).bind fun x341 =>
  (app x129 [x341]).bind fun x344 =>
  some (.inl (x344, wa .i64 x130 1))
 else
  some (.inr x129)
def sparseref12_FromTable (x1 : List (List Bool)) : Option ((List (List Int))) :=
 (loop (sparseref12_FromTable_l27 x1) ([], 0)).bind fun x258 =>
 some x258

def sparsemake_Graph_l4 (x2 : List Int) (x1 : Int) : (List (List Bool)) × Int → Option (((List (List Bool)) × Int) ⊕ (((List (List Bool))))) := fun (x45, x46) =>
 if ((decide ((wa .i64 x46 1) < (x2.length : Int))) && (decide ((0 : Int) < x1))) = true then
  (getI x2 x46).bind fun x66 =>
  (sparsekit_Place x66 x1).bind fun r67 =>
  (getI x45 r67).bind fun x68 =>
  (getI x2 (wa .i64 x46 1)).bind fun x70 =>
  (sparsekit_Place x70 x1).bind fun r71 =>
  (setI x68 r71 true).bind fun x72 =>
  (setI x45 r67 x72).bind fun x73 =>
  some (.inl (x73, wa .i64 x46 2))
 else
  some (.inr x45)
def sparsemake_Graph_l1 (x1 : Int) : (List (List Bool)) × Int → Option (((List (List Bool)) × Int) ⊕ (((List (List Bool))))) := fun (x16, x17) =>
 if x17 < x1 then
  (mkL false x1).bind fun x77 =>
  (app x16 [x77]).bind fun x81 =>
  some (.inl (x81, wa .i64 x17 1))
 else
  some (.inr x16)
def sparsemake_Graph (x1 : Int) (x2 : List Int) : Option ((List (List Int))) :=
 (loop (sparsemake_Graph_l1 x1) ([], 0)).bind fun x33 =>
 (loop (sparsemake_Graph_l4 x2 x1) (x33, 0)).bind fun x60 =>
 (sparseref12_FromTable x60).bind fun r61 =>
 some r61

def sparsemake_At (x1 : List Int) (x3 : Int) : Option (Int) :=
 if x3 < (x1.length : Int) then
  (getI x1 x3).bind fun x5 =>
  some x5
 else
  some 0

def sparsemake_Weighted_l4 (r7 : (List (List Int))) (x68 : Int) (x4 : List Int) (x1 : Int) : (List Int) × Int → Option (((List Int) × Int) ⊕ (((List Int)))) := fun (x150, x151) =>
 (getI r7 x68).bind fun x172 =>
 if x151 < (x172.length : Int) then
  (getI r7 x68).bind fun x175 =>
  (getI x175 x151).bind fun x177 =>
  (sparsemake_At x4 (wa .i64 x1 (imax x177 x68))).bind fun r178 =>
  (sparsemake_At x4 (wa .i64 x1 (imin x177 x68))).bind fun r179 =>
  (sparsekit_Place (wa .i64 r178 (wm .i64 3 r179)) 7).bind fun r180 =>
  (app x150 [wa .i64 1 r180]).bind fun x183 =>
  some (.inl (x183, wa .i64 x151 1))
 else
  some (.inr x150)
def sparsemake_Weighted_l3 (x1 : Int) (x4 : List Int) (r7 : (List (List Int))) : (List Int) × (List (List Int)) × Int → Option (((List Int) × (List (List Int)) × Int) ⊕ (((List Int) × (List (List Int))))) := fun (x65, x67, x68) =>
 if x68 < x1 then
  (sparsemake_At x4 x68).bind fun r132 =>
  (sparsekit_Place r132 5).bind fun r133 =>
  (app x65 [wa .i64 1 r133]).bind fun x136 =>
  (loop (sparsemake_Weighted_l4 r7 x68 x4 x1) ([], 0)).bind fun x168 =>
  (app x67 [x168]).bind fun x171 =>
  some (.inl (x136, x171, wa .i64 x68 1))
 else
  some (.inr (x65, x67))
def sparsemake_Weighted (x1 : Int) (x2 : List Int) (x4 : List Int) : Option ((List (List Int)) × (List Int) × (List (List Int))) :=
 (sparsemake_Graph x1 x2).bind fun r7 =>
 (loop (sparsemake_Weighted_l3 x1 x4 r7) ([], [], 0)).bind fun (x128, x130) =>
 some (r7, x128, x130)

def dissect_weight (x1 : List (List Int)) (x3 : List Int) (x5 : List (List Int)) (x7 : Int) (x8 : Int) : Option (Int) :=
 (getI x1 x7).bind fun x10 =>
 (slices_BinarySearch_int x10 x8).bind fun r12 =>
 (getI x5 x7).bind fun x13 =>
 (getI x13 r12.1).bind fun x15 =>
 some x15

def dissect_CheckWeighted_l9 (x105 : List Int) (x5 : List (List Int)) (x76 : Int) (x1 : List (List Int)) (x3 : List Int) : Int → Option ((Int) ⊕ (Unit ⊕ Unit)) := fun x114 =>
 if x114 < (x105.length : Int) then
  (getI x105 x114).bind fun x124 =>
  (getI x5 x76).bind fun x125 =>
  (getI x125 x114).bind fun x127 =>
  (dissect_weight x1 x3 x5 x124 x76).bind fun r128 =>
  if x127 = r128 then
   some (.inl (wa .i64 x114 1))
  else
   some (.inr (.inr ()))
 else
  some (.inr (.inl ()))
def dissect_CheckWeighted_l8 (x1 : List (List Int)) (x5 : List (List Int)) (x3 : List Int) : Int → Option ((Int) ⊕ (Unit ⊕ Unit)) := fun x76 =>
 if x76 < (x1.length : Int) then
  (getI x1 x76).bind fun x105 =>
  (loop (dissect_CheckWeighted_l9 x105 x5 x76 x1 x3) 0).bind (fun o => match o with
   | .inl () =>
    some (.inl (wa .i64 x76 1))
   | .inr () =>
    some (.inr (.inr ())))
 else
  some (.inr (.inl ()))
def dissect_CheckWeighted_l5 (x1 : List (List Int)) (x5 : List (List Int)) : Int → Option ((Int) ⊕ (Unit ⊕ Unit)) := fun x33 =>
 if x33 < (x1.length : Int) then
  (getI x1 x33).bind fun x131 =>
  (getI x5 x33).bind fun x133 =>
  (if (x133.length : Int) = (x131.length : Int) then
   (getI x5 x33).bind fun x141 =>
   (dissect_weights x141).bind fun r143 =>
   some (!(r143))
  else
   some true).bind fun r138 =>
  if r138 = true then
   some (.inr (.inr ()))
  else
   some (.inl (wa .i64 x33 1))
 else
  some (.inr (.inl ()))
def dissect_CheckWeighted (x1 : List (List Int)) (x3 : List Int) (x5 : List (List Int)) : Option (Int) :=
 (graph_Check x1).bind fun r8 =>
 if r8 = 0 then
  (if ((!(decide ((x3.length : Int) = (x1.length : Int)))) || (!(decide ((x5.length : Int) = (x1.length : Int))))) = true then
   some true
  else
   (dissect_weights x3).bind fun r16 =>
   some (!(r16))).bind fun r13 =>
  if r13 = true then
   some 1
  else
   (loop (dissect_CheckWeighted_l5 x1 x5) 0).bind (fun o => match o with
    | .inl () =>
     (loop (dissect_CheckWeighted_l8 x1 x5 x3) 0).bind (fun o => match o with
      | .inl () =>
       some 0
      | .inr () =>
       some 1)
    | .inr () =>
     some 1)
 else
  some r8

def dissect_Match (x1 : List (List Int)) (x3 : List Int) (x5 : List (List Int)) : Option ((List Int) × Int) :=
 (dissect_CheckWeighted x1 x3 x5).bind fun r8 =>
 if r8 = 0 then
  (dissect_match x1 x3 x5).bind fun r10 =>
  some (r10, 0)
 else
  some ([], r8)

def sparsekit_Ascending_l1 (x1 : List Int) : Int → Option ((Int) ⊕ (Unit ⊕ Unit)) := fun x7 =>
 if x7 < (x1.length : Int) then
  (getI x1 x7).bind fun x14 =>
  (getI x1 (ws .i64 x7 1)).bind fun x15 =>
  if x14 ≤ x15 then
   some (.inr (.inr ()))
  else
   some (.inl (wa .i64 x7 1))
 else
  some (.inr (.inl ()))
def sparsekit_Ascending (x1 : List Int) : Option (Bool) :=
 (loop (sparsekit_Ascending_l1 x1) 1).bind (fun o => match o with
  | .inl () =>
   some true
  | .inr () =>
   some false)

def sparsekit_In_l1 (x1 : List Int) (x3 : Int) : Int → Option ((Int) ⊕ (Unit ⊕ Unit)) := fun x7 =>
 if x7 < (x1.length : Int) then
  (getI x1 x7).bind fun x13 =>
  if x13 = x3 then
   some (.inr (.inr ()))
  else
   some (.inl (wa .i64 x7 1))
 else
  some (.inr (.inl ()))
def sparsekit_In (x1 : List Int) (x3 : Int) : Option (Bool) :=
 (loop (sparsekit_In_l1 x1 x3) 0).bind (fun o => match o with
  | .inl () =>
   some false
  | .inr () =>
   some true)

def sparseref12_Check_l28 (x1 : List (List Int)) (x72 : Int) : Int → Option ((Int) ⊕ (Unit ⊕ Unit)) := fun x166 =>
 (getI x1 x72).bind fun x188 =>
 if x166 < (x188.length : Int) then
  (getI x1 x72).bind fun x191 =>
  (getI x191 x166).bind fun x193 =>
  (if (((decide (x193 < 0)) || (decide ((x1.length : Int) ≤ x193))) || (decide (x193 = x72))) = true then
   some true
  else
   (getI x1 x193).bind fun x204 =>
   (sparsekit_In x204 x72).bind fun r206 =>
   some (!(r206))).bind fun r201 =>
  if r201 = true then
   some (.inr (.inr ()))
  else
   some (.inl (wa .i64 x166 1))
 else
  some (.inr (.inl ()))
def sparseref12_Check_l21 (x1 : List (List Int)) : Int → Option ((Int) ⊕ (Unit ⊕ Unit)) := fun x72 =>
 if x72 < (x1.length : Int) then
  (getI x1 x72).bind fun x142 =>
  (sparsekit_Ascending x142).bind fun r144 =>
  if r144 = true then
   (loop (sparseref12_Check_l28 x1 x72) 0).bind (fun o => match o with
    | .inl () =>
     some (.inl (wa .i64 x72 1))
    | .inr () =>
     some (.inr (.inr ())))
  else
   some (.inr (.inr ()))
 else
  some (.inr (.inl ()))
def sparseref12_Check (x1 : List (List Int)) : Option (Int) :=
 if (200 : Int) < (x1.length : Int) then
  some 6
 else
  (loop (sparseref12_Check_l21 x1) 0).bind (fun o => match o with
   | .inl () =>
    some 0
   | .inr () =>
    some 1)

def sparseref18_edge_l1 (x1 : List (List Int)) (x7 : Int) (x8 : Int) (x5 : List (List Int)) : Int → Option ((Int) ⊕ (Unit ⊕ Int)) := fun x20 =>
 (getI x1 x7).bind fun x33 =>
 if x20 < (x33.length : Int) then
  (getI x1 x7).bind fun x36 =>
  (getI x36 x20).bind fun x38 =>
  if x38 = x8 then
   (getI x5 x7).bind fun x40 =>
   (getI x40 x20).bind fun x42 =>
   some (.inr (.inr x42))
  else
   some (.inl (wa .i64 x20 1))
 else
  some (.inr (.inl ()))
def sparseref18_edge (x1 : List (List Int)) (x3 : List Int) (x5 : List (List Int)) (x7 : Int) (x8 : Int) : Option (Int) :=
 (loop (sparseref18_edge_l1 x1 x7 x8 x5) 0).bind (fun o => match o with
  | .inl () =>
   some 0
  | .inr x32 =>
   some x32)

def sparseref18_CheckWeighted_l57 (x5 : List (List Int)) (x88 : Int) (x1 : List (List Int)) (x3 : List Int) : Int → Option ((Int) ⊕ (Unit ⊕ Unit)) := fun x176 =>
 (getI x5 x88).bind fun x195 =>
 if x176 < (x195.length : Int) then
  (getI x5 x88).bind fun x198 =>
  (getI x198 x176).bind fun x200 =>
  (if x200 < 1 then
   some true
  else
   some (decide ((1099511627776 : Int) < x200))).bind fun r201 =>
  (if r201 = true then
   some true
  else
   (getI x1 x88).bind fun x207 =>
   (getI x207 x176).bind fun x209 =>
   (sparseref18_edge x1 x3 x5 x209 x88).bind fun r210 =>
   some (!(decide (x200 = r210)))).bind fun r202 =>
  if r202 = true then
   some (.inr (.inr ()))
  else
   some (.inl (wa .i64 x176 1))
 else
  some (.inr (.inl ()))
def sparseref18_CheckWeighted_l43 (x1 : List (List Int)) (x3 : List Int) (x5 : List (List Int)) : Int → Option ((Int) ⊕ (Unit ⊕ Unit)) := fun x88 =>
 if x88 < (x1.length : Int) then
  (getI x3 x88).bind fun x152 =>
  (if x152 < 1 then
   some true
  else
   (getI x3 x88).bind fun x157 =>
   some (decide ((1099511627776 : Int) < x157))).bind fun r154 =>
  if r154 = true then
   some (.inr (.inr ()))
  else
   (loop (sparseref18_CheckWeighted_l57 x5 x88 x1 x3) 0).bind (fun o => match o with
    | .inl () =>
     some (.inl (wa .i64 x88 1))
    | .inr () =>
     some (.inr (.inr ())))
 else
  some (.inr (.inl ()))
def sparseref18_CheckWeighted_l2 (x1 : List (List Int)) (x5 : List (List Int)) : Int → Option ((Int) ⊕ (Unit ⊕ Unit)) := fun x19 =>
 if x19 < (x1.length : Int) then
  (getI x5 x19).bind fun x213 =>
  (getI x1 x19).bind fun x215 =>
  if (x213.length : Int) = (x215.length : Int) then
   some (.inl (wa .i64 x19 1))
  else
   some (.inr (.inr ()))
 else
  some (.inr (.inl ()))
def sparseref18_CheckWeighted (x1 : List (List Int)) (x3 : List Int) (x5 : List (List Int)) : Option (Int) :=
 (sparseref12_Check x1).bind fun r8 =>
 if r8 = 0 then
  if ((!(decide ((x3.length : Int) = (x1.length : Int)))) || (!(decide ((x5.length : Int) = (x1.length : Int))))) = true then
   some 1
  else
   (loop (sparseref18_CheckWeighted_l2 x1 x5) 0).bind (fun o => match o with
    | .inl () =>
     (loop (sparseref18_CheckWeighted_l43 x1 x3 x5) 0).bind (fun o => match o with
      | .inl () =>
       some 0
      | .inr () =>
       some 1)
    | .inr () =>
     some 1)
 else
  some r8

def sparseref18_Match_j61 (x287 : Int) (x724 : List Int) : Option (((List Int) × Int) ⊕ (((List Int)))) :=
 some (.inl (x724, wa .i64 x287 1))
def sparseref18_Match_j68 (x754 : Int) (x805 : Int) (x806 : Int) : Option ((Int × Int × Int) ⊕ (Int)) :=
 some (.inl (x805, x806, wa .i64 x754 1))
def sparseref18_Match_l66 (x5 : List (List Int)) (x287 : Int) (x1 : List (List Int)) (x286 : List Int) : Int × Int × Int → Option ((Int × Int × Int) ⊕ (Int)) := fun (x752, x753, x754) =>
 (getI x5 x287).bind fun x786 =>
 if x754 < (x786.length : Int) then
  (getI x1 x287).bind fun x789 =>
  (getI x789 x754).bind fun x791 =>
  (getI x286 x791).bind fun x792 =>
  (if x792 < 0 then
   (getI x5 x287).bind fun x799 =>
   (getI x799 x754).bind fun x801 =>
   some (decide (x753 < x801))
  else
   some false).bind fun r796 =>
  if r796 = true then
   (getI x5 x287).bind fun x808 =>
   (getI x808 x754).bind fun x810 =>
   sparseref18_Match_j68 x754 x791 x810
  else
   sparseref18_Match_j68 x754 x752 x753
 else
  some (.inr x752)
def sparseref18_Match_l46 (x3 : List Int) (x5 : List (List Int)) (x1 : List (List Int)) : (List Int) × Int → Option (((List Int) × Int) ⊕ (((List Int)))) := fun (x286, x287) =>
 if x287 < (x3.length : Int) then
  (getI x286 x287).bind fun x725 =>
  if (0 : Int) ≤ x725 then
   sparseref18_Match_j61 x287 x286
  else
   (loop (sparseref18_Match_l66 x5 x287 x1 x286) (x287, 0, 0)).bind fun x783 =>
   (setI x286 x287 x783).bind fun x784 =>
   (setI x784 x783 x287).bind fun x785 =>
   sparseref18_Match_j61 x287 x785
 else
  some (.inr x286)
def sparseref18_Match_l1 (x3 : List Int) : (List Int) × Int → Option (((List Int) × Int) ⊕ (((List Int)))) := fun (x15, x16) =>
 if x16 < (x3.length : Int) then
  (app x15 [(-1)]).bind fun x814 =>
  some (.inl (x814, wa .i64 x16 1))
 else
  some (.inr x15)
def sparseref18_Match (x1 : List (List Int)) (x3 : List Int) (x5 : List (List Int)) : Option ((List Int) × Int) :=
 (sparseref18_CheckWeighted x1 x3 x5).bind fun r8 =>
 if r8 = 0 then
  (loop (sparseref18_Match_l1 x3) ([], 0)).bind fun x25 =>
  (loop (sparseref18_Match_l46 x3 x5 x1) (x25, 0)).bind fun x550 =>
  some (x550, 0)
 else
  some ([], r8)
end M
