/- Models of functions of the program, printed. -/
import Derived.Test.YtcknmegldjnjjaaM4
namespace M
open Sx
set_option linter.unusedVariables false
def sparseref12_Peripheral_j15 (x116 : Int) (x140 : Int) : Option ((Int × Int) ⊕ (Int)) :=
  some (.inl (x140, wa .i64 x116 1))
def sparseref12_Peripheral_l14 (x102 : List Int) (x1 : List (List Int)) : Int × Int → Option ((Int × Int) ⊕ (Int)) := fun (x115, x116) =>
  if x116 < (x102.length : Int) then
    (getI x102 x116).bind fun x134 =>
    (getI x1 x134).bind fun x135 =>
    (getI x1 x115).bind fun x137 =>
    if (x135.length : Int) < (x137.length : Int) then
      (getI x102 x116).bind fun x142 =>
      sparseref12_Peripheral_j15 x116 x142
    else
      sparseref12_Peripheral_j15 x116 x115
  else
    some (.inr x115)
def sparseref12_Peripheral_l11 (x1 : List (List Int)) : Int → Option ((Int) ⊕ (Int)) := fun x54 =>
  (sparseref12_Levels x1 x54).bind fun r100 =>
  (getI r100 (ws .i64 (r100.length : Int) 1)).bind fun x102 =>
  (getI x102 0).bind fun x104 =>
  (loop (sparseref12_Peripheral_l14 x102 x1) (x104, 1)).bind fun x129 =>
  (sparseref12_Levels x1 x129).bind fun r130 =>
  if (r130.length : Int) ≤ (r100.length : Int) then
    some (.inr x54)
  else
    some (.inl x129)
def sparseref12_Peripheral (x1 : List (List Int)) (x3 : Int) : Option (Int) :=
  (sparseref12_Check x1).bind fun r5 =>
  if (((!(decide (r5 = 0))) || (decide (x3 < 0))) || (decide ((x1.length : Int) ≤ x3))) = true then
    some (-1)
  else
    (loop (sparseref12_Peripheral_l11 x1) x3).bind fun x99 =>
    some x99

def sparseref12_Components_j68 (x463 : Int) (x1220 : List Bool) (x1222 : List (List Int)) : Option (((List Bool) × (List (List Int)) × Int) ⊕ (((List (List Int))))) :=
  some (.inl (x1220, x1222, wa .i64 x463 1))
def sparseref12_Components_j75 (x1306 : Int) (x1337 : List Bool) (x1339 : List Int) : Option (((List Bool) × (List Int) × Int) ⊕ (((List Bool) × (List Int)))) :=
  some (.inl (x1337, x1339, wa .i64 x1306 1))
def sparseref12_Components_l74 (x1 : List (List Int)) (x1288 : List Bool) : (List Bool) × (List Int) × Int → Option (((List Bool) × (List Int) × Int) ⊕ (((List Bool) × (List Int)))) := fun (x1303, x1305, x1306) =>
  if x1306 < (x1.length : Int) then
    (getI x1288 x1306).bind fun x1332 =>
    if x1332 = true then
      (app x1305 [x1306]).bind fun x1343 =>
      (setI x1303 x1306 true).bind fun x1344 =>
      sparseref12_Components_j75 x1306 x1344 x1343
    else
      sparseref12_Components_j75 x1306 x1303 x1305
  else
    some (.inr (x1303, x1305))
def sparseref12_Components_l76 (r1225 : (List (List Int))) (x1258 : Int) : (List Bool) × Int → Option (((List Bool) × Int) ⊕ (((List Bool)))) := fun (x1353, x1354) =>
  (getI r1225 x1258).bind fun x1365 =>
  if x1354 < (x1365.length : Int) then
    (getI r1225 x1258).bind fun x1368 =>
    (getI x1368 x1354).bind fun x1370 =>
    (setI x1353 x1370 true).bind fun x1371 =>
    some (.inl (x1371, wa .i64 x1354 1))
  else
    some (.inr x1353)
def sparseref12_Components_l71 (r1225 : (List (List Int))) : (List Bool) × Int → Option (((List Bool) × Int) ⊕ (((List Bool)))) := fun (x1257, x1258) =>
  if x1258 < (r1225.length : Int) then
    (loop (sparseref12_Components_l76 r1225 x1258) (x1257, 0)).bind fun x1364 =>
    some (.inl (x1364, wa .i64 x1258 1))
  else
    some (.inr x1257)
def sparseref12_Components_l51 (x1 : List (List Int)) : (List Bool) × (List (List Int)) × Int → Option (((List Bool) × (List (List Int)) × Int) ⊕ (((List (List Int))))) := fun (x460, x462, x463) =>
  if x463 < (x1.length : Int) then
    (getI x460 x463).bind fun x1223 =>
    if x1223 = true then
      sparseref12_Components_j68 x463 x460 x462
    else
      (sparseref12_Levels x1 x463).bind fun r1225 =>
      (mkL false (x1.length : Int)).bind fun x1229 =>
      (loop (sparseref12_Components_l71 r1225) (x1229, 0)).bind fun x1288 =>
      (loop (sparseref12_Components_l74 x1 x1288) (x460, [], 0)).bind fun (x1325, x1327) =>
      (app x462 [x1327]).bind fun x1330 =>
      sparseref12_Components_j68 x463 x1325 x1330
  else
    some (.inr x462)
def sparseref12_Components (x1 : List (List Int)) : Option ((List (List Int))) :=
  (sparseref12_Check x1).bind fun r4 =>
  if r4 = 0 then
    (mkL false (x1.length : Int)).bind fun x8 =>
    (loop (sparseref12_Components_l51 x1) (x8, [], 0)).bind fun x920 =>
    some x920
  else
    some []

def sparselaw12_GraphMade (x1 : Int) (x2 : List Int) (x4 : Int) (x5 : List Int) : Option (Bool) :=
  if (60 : Int) < (x2.length : Int) then
    (sparselaw12_awake).bind fun r8 =>
    some r8
  else
    (sparsekit_Place x1 13).bind fun r9 =>
    (sparsemake_Graph r9 x2).bind fun r10 =>
    (sparsekit_Shuffle x5 r9).bind fun r13 =>
    (graph_Relabel r10 r13).bind fun r15 =>
    (sparseref12_Relabel r10 r13).bind fun r18 =>
    (sparsekit_Place x4 (wa .i64 r9 1)).bind fun r21 =>
    (graph_Check r10).bind fun r22 =>
    (if r22 = 0 then
      some (decide (r15.2 = 0))
    else
      some false).bind fun r23 =>
    (if r23 = true then
      (sparsekit_Graph r15.1 r18.1).bind fun r32 =>
      some r32
    else
      some false).bind fun r24 =>
    (if r24 = true then
      (graph_Levels r10 r21).bind fun r34 =>
      (sparseref12_Levels r10 r21).bind fun r36 =>
      (sparsekit_Lists r34 r36).bind fun r38 =>
      some r38
    else
      some false).bind fun r25 =>
    (if r25 = true then
      (graph_Peripheral r10 r21).bind fun r40 =>
      (sparseref12_Peripheral r10 r21).bind fun r41 =>
      some (decide (r40 = r41))
    else
      some false).bind fun r26 =>
    (if r26 = true then
      (graph_Components r10).bind fun r43 =>
      (sparseref12_Components r10).bind fun r45 =>
      (sparsekit_Lists r43 r45).bind fun r47 =>
      some r47
    else
      some false).bind fun r27 =>
    (if r27 = true then
      (sparselaw12_awake).bind fun r49 =>
      some r49
    else
      some false).bind fun r28 =>
    some r28
end M
