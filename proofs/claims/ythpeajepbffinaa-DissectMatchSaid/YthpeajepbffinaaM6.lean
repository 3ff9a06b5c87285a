/- Models of functions of the program, printed. -/
import Derived.Test.YthpeajepbffinaaM5
namespace M
open Sx
set_option linter.unusedVariables false
def sparsemake_Weighted_l4 (r7 : (List (List Int))) (x68 : Int) (x4 : List Int) (x1 : Int) : (List Int) × Int → Option (((List Int) × Int) ⊕ (((List Int)))) := fun (x150, x151) =>
  (getI r7 x68).bind fun x172 =>
  if x151 < (x172.length : Int) then
    (getI r7 x68).bind fun x175 =>
    (getI x175 x151).bind fun x177 =>
    (sparsemake_At x4 (wa .i64 x1 (imax x177 x68))).bind fun r178 =>
    (sparsemake_At x4 (wa .i64 x1 (imin x177 x68))).bind fun r179 =>
    (sparsekit_Place (wa .i64 r178 (wm .i64 3 r179)) 7).bind fun r180 =>
    (app x150 [wa .i64 1 r180]).bind fun x183 =>
    some (.inl (x183, wa .i64 x151 1))
  else
    some (.inr x150)
def sparsemake_Weighted_l3 (x1 : Int) (x4 : List Int) (r7 : (List (List Int))) : (List Int) × (List (List Int)) × Int → Option (((List Int) × (List (List Int)) × Int) ⊕ (((List Int) × (List (List Int))))) := fun (x65, x67, x68) =>
  if x68 < x1 then
    (sparsemake_At x4 x68).bind fun r132 =>
    (sparsekit_Place r132 5).bind fun r133 =>
    (app x65 [wa .i64 1 r133]).bind fun x136 =>
    (loop (sparsemake_Weighted_l4 r7 x68 x4 x1) ([], 0)).bind fun x168 =>
    (app x67 [x168]).bind fun x171 =>
    some (.inl (x136, x171, wa .i64 x68 1))
  else
    some (.inr (x65, x67))
def sparsemake_Weighted (x1 : Int) (x2 : List Int) (x4 : List Int) : Option ((List (List Int)) × (List Int) × (List (List Int))) :=
  (sparsemake_Graph x1 x2).bind fun r7 =>
  (loop (sparsemake_Weighted_l3 x1 x4 r7) ([], [], 0)).bind fun (x128, x130) =>
  some (r7, x128, x130)

def dissect_weight (x1 : List (List Int)) (x3 : List Int) (x5 : List (List Int)) (x7 : Int) (x8 : Int) : Option (Int) :=
  (getI x1 x7).bind fun x10 =>
  (slices_BinarySearch_int x10 x8).bind fun r12 =>
  (getI x5 x7).bind fun x13 =>
  (getI x13 r12.1).bind fun x15 =>
  some x15

def dissect_CheckWeighted_l9 (x105 : List Int) (x5 : List (List Int)) (x76 : Int) (x1 : List (List Int)) (x3 : List Int) : Int → Option ((Int) ⊕ (Unit ⊕ Unit)) := fun x114 =>
  if x114 < (x105.length : Int) then
    (getI x105 x114).bind fun x124 =>
    (getI x5 x76).bind fun x125 =>
    (getI x125 x114).bind fun x127 =>
    (dissect_weight x1 x3 x5 x124 x76).bind fun r128 =>
    if x127 = r128 then
      some (.inl (wa .i64 x114 1))
    else
      some (.inr (.inr ()))
  else
    some (.inr (.inl ()))
def dissect_CheckWeighted_l8 (x1 : List (List Int)) (x5 : List (List Int)) (x3 : List Int) : Int → Option ((Int) ⊕ (Unit ⊕ Unit)) := fun x76 =>
  if x76 < (x1.length : Int) then
    (getI x1 x76).bind fun x105 =>
    (loop (dissect_CheckWeighted_l9 x105 x5 x76 x1 x3) 0).bind (fun o => match o with
      | .inl () =>
        some (.inl (wa .i64 x76 1))
      | .inr () =>
        some (.inr (.inr ())))
  else
    some (.inr (.inl ()))
def dissect_CheckWeighted_l5 (x1 : List (List Int)) (x5 : List (List Int)) : Int → Option ((Int) ⊕ (Unit ⊕ Unit)) := fun x33 =>
  if x33 < (x1.length : Int) then
    (getI x1 x33).bind fun x131 =>
    (getI x5 x33).bind fun x133 =>
    (if (x133.length : Int) = (x131.length : Int) then
      (getI x5 x33).bind fun x141 =>
      (dissect_weights x141).bind fun r143 =>
      some (!(r143))
    else
      some true).bind fun r138 =>
    if r138 = true then
      some (.inr (.inr ()))
    else
      some (.inl (wa .i64 x33 1))
  else
    some (.inr (.inl ()))
def dissect_CheckWeighted (x1 : List (List Int)) (x3 : List Int) (x5 : List (List Int)) : Option (Int) :=
  (graph_Check x1).bind fun r8 =>
  if r8 = 0 then
    (if ((!(decide ((x3.length : Int) = (x1.length : Int)))) || (!(decide ((x5.length : Int) = (x1.length : Int))))) = true then
      some true
    else
      (dissect_weights x3).bind fun r16 =>
      some (!(r16))).bind fun r13 =>
    if r13 = true then
      some 1
    else
      (loop (dissect_CheckWeighted_l5 x1 x5) 0).bind (fun o => match o with
        | .inl () =>
          (loop (dissect_CheckWeighted_l8 x1 x5 x3) 0).bind (fun o => match o with
            | .inl () =>
              some 0
            | .inr () =>
              some 1)
        | .inr () =>
          some 1)
  else
    some r8

def dissect_Match (x1 : List (List Int)) (x3 : List Int) (x5 : List (List Int)) : Option ((List Int) × Int) :=
  (dissect_CheckWeighted x1 x3 x5).bind fun r8 =>
  if r8 = 0 then
    (dissect_match x1 x3 x5).bind fun r10 =>
    some (r10, 0)
  else
    some ([], r8)

def sparsekit_In_l1 (x1 : List Int) (x3 : Int) : Int → Option ((Int) ⊕ (Unit ⊕ Unit)) := fun x7 =>
  if x7 < (x1.length : Int) then
    (getI x1 x7).bind fun x13 =>
    if x13 = x3 then
      some (.inr (.inr ()))
    else
      some (.inl (wa .i64 x7 1))
  else
    some (.inr (.inl ()))
def sparsekit_In (x1 : List Int) (x3 : Int) : Option (Bool) :=
  (loop (sparsekit_In_l1 x1 x3) 0).bind (fun o => match o with
    | .inl () =>
      some false
    | .inr () =>
      some true)

def sparselaw18_DissectMatch_l39 (r11 : (List (List Int)) × (List Int) × (List (List Int))) (x111 : Int) (r16 : (List Int) × Int) : Int → Option ((Int) ⊕ (Unit ⊕ Unit)) := fun x170 =>
  (getI r11.1 x111).bind fun x185 =>
  if x170 < (x185.length : Int) then
    (getI r11.1 x111).bind fun x188 =>
    (getI x188 x170).bind fun x190 =>
    (getI r16.1 x111).bind fun x191 =>
    (if x191 = x111 then
      (getI r16.1 x190).bind fun x196 =>
      some (decide (x196 = x190))
    else
      some false).bind fun r193 =>
    if r193 = true then
      some (.inr (.inr ()))
    else
      some (.inl (wa .i64 x170 1))
  else
    some (.inr (.inl ()))
def sparselaw18_DissectMatch_l36 (r10 : Int) (r11 : (List (List Int)) × (List Int) × (List (List Int))) (r16 : (List Int) × Int) : Int → Option ((Int) ⊕ (Unit ⊕ Unit)) := fun x111 =>
  if x111 < r10 then
    (loop (sparselaw18_DissectMatch_l39 r11 x111 r16) 0).bind (fun o => match o with
      | .inl () =>
        some (.inl (wa .i64 x111 1))
      | .inr () =>
        some (.inr (.inr ())))
  else
    some (.inr (.inl ()))
def sparselaw18_DissectMatch_l27 (r10 : Int) (r16 : (List Int) × Int) (r11 : (List (List Int)) × (List Int) × (List (List Int))) : Int → Option ((Int) ⊕ (Unit ⊕ Unit)) := fun x44 =>
  if x44 < r10 then
    (getI r16.1 x44).bind fun x199 =>
    (if x199 < 0 then
      some true
    else
      (getI r16.1 x44).bind fun x207 =>
      some (decide (r10 ≤ x207))).bind fun r200 =>
    (if r200 = true then
      some true
    else
      (getI r16.1 x44).bind fun x210 =>
      (getI r16.1 x210).bind fun x211 =>
      some (!(decide (x211 = x44)))).bind fun r201 =>
    (if r201 = true then
      some true
    else
      (getI r16.1 x44).bind fun x213 =>
      (if x213 = x44 then
        some false
      else
        (getI r11.1 x44).bind fun x216 =>
        (getI r16.1 x44).bind fun x218 =>
        (sparsekit_In x216 x218).bind fun r219 =>
        some (!(r219))).bind fun r214 =>
      some r214).bind fun r202 =>
    if r202 = true then
      some (.inr (.inr ()))
    else
      some (.inl (wa .i64 x44 1))
  else
    some (.inr (.inl ()))
def sparselaw18_DissectMatch (x1 : Int) (x2 : List Int) (x4 : List Int) : Option (Bool) :=
  if ((decide ((90 : Int) < (x2.length : Int))) || (decide ((60 : Int) < (x4.length : Int)))) = true then
    (sparselaw18_awake).bind fun r9 =>
    some r9
  else
    (sparsekit_Place x1 25).bind fun r10 =>
    (sparsemake_Weighted r10 x2 x4).bind fun r11 =>
    (dissect_Match r11.1 r11.2.1 r11.2.2).bind fun r16 =>
    if ((!(decide (r16.2 = 0))) || (!(decide ((r16.1.length : Int) = r10)))) = true then
      some false
    else
      (loop (sparselaw18_DissectMatch_l27 r10 r16 r11) 0).bind (fun o => match o with
        | .inl () =>
          (loop (sparselaw18_DissectMatch_l36 r10 r11 r16) 0).bind (fun o => match o with
            | .inl () =>
              (sparselaw18_awake).bind fun r155 =>
              some r155
            | .inr () =>
              some false)
        | .inr () =>
          some false)

def sparseref18_Ones_l4 (x1 : List (List Int)) (x43 : Int) : (List Int) × Int → Option (((List Int) × Int) ⊕ (((List Int)))) := fun (x94, x95) =>
  (getI x1 x43).bind fun x113 =>
  if x95 < (x113.length : Int) then
    (app x94 [1]).bind fun x118 =>
    some (.inl (x118, wa .i64 x95 1))
  else
    some (.inr x94)
def sparseref18_Ones_l3 (x1 : List (List Int)) : (List Int) × (List (List Int)) × Int → Option (((List Int) × (List (List Int)) × Int) ⊕ (((List Int) × (List (List Int))))) := fun (x40, x42, x43) =>
  if x43 < (x1.length : Int) then
    (loop (sparseref18_Ones_l4 x1 x43) ([], 0)).bind fun x106 =>
    (app x40 [1]).bind fun x109 =>
    (app x42 [x106]).bind fun x112 =>
    some (.inl (x109, x112, wa .i64 x43 1))
  else
    some (.inr (x40, x42))
def sparseref18_Ones (x1 : List (List Int)) : Option ((List (List Int)) × (List Int) × (List (List Int))) :=
  (loop (sparseref18_Ones_l3 x1) ([], [], 0)).bind fun (x83, x85) =>
  some (x1, x83, x85)

def dissect_Bisect (x1 : List (List Int)) (x3 : List Int) (x5 : List (List Int)) : Option ((List Int) × Int) :=
  (dissect_CheckWeighted x1 x3 x5).bind fun r8 =>
  if r8 = 0 then
    (dissect_bisect FUEL x1 x3 x5).bind fun r10 =>
    if r10.2 = true then
      some (r10.1, 0)
    else
      some ([], 3)
  else
    some ([], r8)

def sparsekit_TwinInts_l1 (x1 : List Int) : (List Int) × Int → Option (((List Int) × Int) ⊕ (((List Int)))) := fun (x9, x10) =>
  if x10 < (x1.length : Int) then
    (getI x1 x10).bind fun x22 =>
    (app x9 [x22]).bind fun x25 =>
    some (.inl (x25, wa .i64 x10 1))
  else
    some (.inr x9)
def sparsekit_TwinInts (x1 : List Int) : Option ((List Int)) :=
  (loop (sparsekit_TwinInts_l1 x1) ([], 0)).bind fun x20 =>
  some x20

def sparsekit_Perm_l5 (x3 : Int) (x1 : List Int) : (List Bool) × Int → Option (((List Bool) × Int) ⊕ (Unit ⊕ Unit)) := fun (x25, x26) =>
  if x26 < x3 then
    (getI x1 x26).bind fun x47 =>
    (if x47 < 0 then
      some true
    else
      (getI x1 x26).bind fun x52 =>
      some (decide (x3 ≤ x52))).bind fun r49 =>
    (if r49 = true then
      some true
    else
      (getI x1 x26).bind fun x58 =>
      (getI x25 x58).bind fun x59 =>
      some x59).bind fun r55 =>
    if r55 = true then
      some (.inr (.inr ()))
    else
      (getI x1 x26).bind fun x61 =>
      (setI x25 x61 true).bind fun x62 =>
      some (.inl (x62, wa .i64 x26 1))
  else
    some (.inr (.inl ()))
def sparsekit_Perm (x1 : List Int) (x3 : Int) : Option (Bool) :=
  if (x1.length : Int) = x3 then
    (mkL false x3).bind fun x7 =>
    (loop (sparsekit_Perm_l5 x3 x1) (x7, 0)).bind (fun o => match o with
      | .inl () =>
        some true
      | .inr () =>
        some false)
  else
    some false
end M
