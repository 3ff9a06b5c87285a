/- Models of functions of the program, printed. -/
import Derived.Test.YtcknmegldjnjjaaM3
namespace M
open Sx
set_option linter.unusedVariables false
def sparseref12_Peripheral_j15 (x116 : Int) (x140 : Int) : Option ((Int × Int) ⊕ (Int)) :=
  some (.inl (x140, wa .i64 x116 1))
def sparseref12_Peripheral_l14 (x102 : List Int) (x1 : List (List Int)) : Int × Int → Option ((Int × Int) ⊕ (Int)) := fun (x115, x116) =>
  if x116 < (x102.length : Int) then
    (getI x102 x116).bind fun x134 =>
    (getI x1 x134).bind fun x135 =>
    (getI x1 x115).bind fun x137 =>
    if (x135.length : Int) < (x137.length : Int) then
      (getI x102 x116).bind fun x142 =>
      sparseref12_Peripheral_j15 x116 x142
    else
      sparseref12_Peripheral_j15 x116 x115
  else
    some (.inr x115)
def sparseref12_Peripheral_l11 (x1 : List (List Int)) : Int → Option ((Int) ⊕ (Int)) := fun x54 =>
  (sparseref12_Levels x1 x54).bind fun r100 =>
  (getI r100 (ws .i64 (r100.length : Int) 1)).bind fun x102 =>
  (getI x102 0).bind fun x104 =>
  (loop (sparseref12_Peripheral_l14 x102 x1) (x104, 1)).bind fun x129 =>
  (sparseref12_Levels x1 x129).bind fun r130 =>
  if (r130.length : Int) ≤ (r100.length : Int) then
    some (.inr x54)
  else
    some (.inl x129)
def sparseref12_Peripheral (x1 : List (List Int)) (x3 : Int) : Option (Int) :=
  (sparseref12_Check x1).bind fun r5 =>
  if (((!(decide (r5 = 0))) || (decide (x3 < 0))) || (decide ((x1.length : Int) ≤ x3))) = true then
    some (-1)
  else
    (loop (sparseref12_Peripheral_l11 x1) x3).bind fun x99 =>
    some x99

def sparseref12_Components_j68 (x463 : Int) (x1220 : List Bool) (x1222 : List (List Int)) : Option (((List Bool) × (List (List Int)) × Int) ⊕ (((List (List Int))))) :=
  some (.inl (x1220, x1222, wa .i64 x463 1))
def sparseref12_Components_j75 (x1306 : Int) (x1337 : List Bool) (x1339 : List Int) : Option (((List Bool) × (List Int) × Int) ⊕ (((List Bool) × (List Int)))) :=
  some (.inl (x1337, x1339, wa .i64 x1306 1))
def sparseref12_Components_l74 (x1 : List (List Int)) (x1288 : List Bool) : (List Bool) × (List Int) × Int → Option (((List Bool) × (List Int) × Int) ⊕ (((List Bool) × (List Int)))) := fun (x1303, x1305, x1306) =>
  if x1306 < (x1.length : Int) then
    (getI x1288 x1306).bind fun x1332 =>
    if x1332 = true then
      (app x1305 [x1306]).bind fun x1343 =>
      (setI x1303 x1306 true).bind fun x1344 =>
      sparseref12_Components_j75 x1306 x1344 x1343
    else
      sparseref12_Components_j75 x1306 x1303 x1305
  else
    some (.inr (x1303, x1305))
def sparseref12_Components_l76 (r1225 : (List (List Int))) (x1258 : Int) : (List Bool) × Int → Option (((List Bool) × Int) ⊕ (((List Bool)))) := fun (x1353, x1354) =>
  (getI r1225 x1258).bind fun x1365 =>
  if x1354 < (x1365.length : Int) then
    (getI r1225 x1258).bind fun x1368 =>
    (getI x1368 x1354).bind fun x1370 =>
    (setI x1353 x1370 true).bind fun x1371 =>
    some (.inl (x1371, wa .i64 x1354 1))
  else
    some (.inr x1353)
def sparseref12_Components_l71 (r1225 : (List (List Int))) : (List Bool) × Int → Option (((List Bool) × Int) ⊕ (((List Bool)))) := fun (x1257, x1258) =>
  if x1258 < (r1225.length : Int) then
    (loop (sparseref12_Components_l76 r1225 x1258) (x1257, 0)).bind fun x1364 =>
    some (.inl (x1364, wa .i64 x1258 1))
  else
    some (.inr x1257)
def sparseref12_Components_l51 (x1 : List (List Int)) : (List Bool) × (List (List Int)) × Int → Option (((List Bool) × (List (List Int)) × Int) ⊕ (((List (List Int))))) := fun (x460, x462, x463) =>
  if x463 < (x1.length : Int) then
    (getI x460 x463).bind fun x1223 =>
    if x1223 = true then
      sparseref12_Components_j68 x463 x460 x462
    else
      (sparseref12_Levels x1 x463).bind fun r1225 =>
      (mkL false (x1.length : Int)).bind fun x1229 =>
      (loop (sparseref12_Components_l71 r1225) (x1229, 0)).bind fun x1288 =>
      (loop (sparseref12_Components_l74 x1 x1288) (x460, [], 0)).bind fun (x1325, x1327) =>
      (app x462 [x1327]).bind fun x1330 =>
      sparseref12_Components_j68 x463 x1325 x1330
  else
    some (.inr x462)
def sparseref12_Components (x1 : List (List Int)) : Option ((List (List Int))) :=
  (sparseref12_Check x1).bind fun r4 =>
  if r4 = 0 then
    (mkL false (x1.length : Int)).bind fun x8 =>
    (loop (sparseref12_Components_l51 x1) (x8, [], 0)).bind fun x920 =>
    some x920
  else
    some []

def sparselaw12_GraphMade (x1 : Int) (x2 : List Int) (x4 : Int) (x5 : List Int) : Option (Bool) :=
  if (60 : Int) < (x2.length : Int) then
    (sparselaw12_awake).bind fun r8 =>
    some r8
  else
    (sparsekit_Place x1 13).bind fun r9 =>
    (sparsemake_Graph r9 x2).bind fun r10 =>
    (sparsekit_Shuffle x5 r9).bind fun r13 =>
    (graph_Relabel r10 r13).bind fun r15 =>
    (sparseref12_Relabel r10 r13).bind fun r18 =>
    (sparsekit_Place x4 (wa .i64 r9 1)).bind fun r21 =>
    (graph_Check r10).bind fun r22 =>
    (if r22 = 0 then
      some (decide (r15.2 = 0))
    else
      some false).bind fun r23 =>
    (if r23 = true then
      (sparsekit_Graph r15.1 r18.1).bind fun r32 =>
      some r32
    else
      some false).bind fun r24 =>
    (if r24 = true then
      (graph_Levels r10 r21).bind fun r34 =>
      (sparseref12_Levels r10 r21).bind fun r36 =>
      (sparsekit_Lists r34 r36).bind fun r38 =>
      some r38
    else
      some false).bind fun r25 =>
    (if r25 = true then
      (graph_Peripheral r10 r21).bind fun r40 =>
      (sparseref12_Peripheral r10 r21).bind fun r41 =>
      some (decide (r40 = r41))
    else
      some false).bind fun r26 =>
    (if r26 = true then
      (graph_Components r10).bind fun r43 =>
      (sparseref12_Components r10).bind fun r45 =>
      (sparsekit_Lists r43 r45).bind fun r47 =>
      some r47
    else
      some false).bind fun r27 =>
    (if r27 = true then
      (sparselaw12_awake).bind fun r49 =>
      some r49
    else
      some false).bind fun r28 =>
    some r28

def sparselaw12_small_l3 (x1 : List (List Int)) : Int → Option ((Int) ⊕ (Unit ⊕ Unit)) := fun x13 =>
  if x13 < (x1.length : Int) then
    (getI x1 x13).bind fun x20 =>
    if (20 : Int) < (x20.length : Int) then
      some (.inr (.inr ()))
    else
      some (.inl (wa .i64 x13 1))
  else
    some (.inr (.inl ()))
def sparselaw12_small (x1 : List (List Int)) : Option (Bool) :=
  if (((decide ((12 : Int) < (x1.length : Int))) && (decide ((x1.length : Int) ≤ 200))) || (decide ((400 : Int) < (x1.length : Int)))) = true then
    some false
  else
    (loop (sparselaw12_small_l3 x1) 0).bind (fun o => match o with
      | .inl () =>
        some true
      | .inr () =>
        some false)

def sparsekit_TwinInts_l1 (x1 : List Int) : (List Int) × Int → Option (((List Int) × Int) ⊕ (((List Int)))) := fun (x9, x10) =>
  if x10 < (x1.length : Int) then
    (getI x1 x10).bind fun x22 =>
    (app x9 [x22]).bind fun x25 =>
    some (.inl (x25, wa .i64 x10 1))
  else
    some (.inr x9)
def sparsekit_TwinInts (x1 : List Int) : Option ((List Int)) :=
  (loop (sparsekit_TwinInts_l1 x1) ([], 0)).bind fun x20 =>
  some x20

def sparsekit_TwinLists_l1 (x1 : List (List Int)) : (List (List Int)) × Int → Option (((List (List Int)) × Int) ⊕ (((List (List Int))))) := fun (x12, x13) =>
  if x13 < (x1.length : Int) then
    (getI x1 x13).bind fun x28 =>
    (sparsekit_TwinInts x28).bind fun r30 =>
    (app x12 [r30]).bind fun x34 =>
    some (.inl (x34, wa .i64 x13 1))
  else
    some (.inr x12)
def sparsekit_TwinLists (x1 : List (List Int)) : Option ((List (List Int))) :=
  (loop (sparsekit_TwinLists_l1 x1) ([], 0)).bind fun x26 =>
  some x26

def sparsekit_TwinGraph (x1 : List (List Int)) : Option ((List (List Int))) :=
  (sparsekit_TwinLists x1).bind fun r5 =>
  some r5

def graph_Induced_1 (x1 : Int) (x3 : List (List Int)) : Option (Bool) :=
  (graph_vertex x3 x1).bind fun r5 =>
  some (!(r5))

def slices_IndexFunc_int_v2_l1 (x1 : List Int) (x4 : List (List Int)) : Int → Option ((Int) ⊕ (Unit ⊕ Int)) := fun x10 =>
  if x10 < (x1.length : Int) then
    (getI x1 x10).bind fun x18 =>
    (graph_Induced_1 x18 x4).bind fun r19 =>
    if r19 = true then
      some (.inr (.inr x10))
    else
      some (.inl (wa .i64 x10 1))
  else
    some (.inr (.inl ()))
def slices_IndexFunc_int_v2 (x1 : List Int) (x4 : List (List Int)) : Option (Int) :=
  (loop (slices_IndexFunc_int_v2_l1 x1 x4) 0).bind (fun o => match o with
    | .inl () =>
      some (-1)
    | .inr x16 =>
      some x16)

def slices_ContainsFunc_int_v2 (x1 : List Int) (x4 : List (List Int)) : Option (Bool) :=
  (slices_IndexFunc_int_v2 x1 x4).bind fun r6 =>
  some (decide ((0 : Int) ≤ r6))

def graph_Induced (x1 : List (List Int)) (x3 : List Int) : Option ((List (List Int)) × Int) :=
  (graph_Check x1).bind fun r7 =>
  if r7 = 0 then
    (slices_ContainsFunc_int_v2 x3 x1).bind fun r9 =>
    if r9 = true then
      some ([], 3)
    else
      (graph_twice x3).bind fun r11 =>
      if r11 = true then
        some ([], 90)
      else
        (graph_induced x1 x3).bind fun r13 =>
        some (r13, 0)
  else
    some ([], r7)

def sparselaw12_GraphAny (x1 : List (List Int)) (x3 : Int) (x4 : List Int) : Option (Bool) :=
  (sparselaw12_small x1).bind fun r7 =>
  if ((!(r7)) || (decide ((20 : Int) < (x4.length : Int)))) = true then
    (sparselaw12_awake).bind fun r11 =>
    some r11
  else
    (sparsekit_TwinGraph x1).bind fun r12 =>
    (graph_Induced r12 x4).bind fun r15 =>
    (sparseref12_Induced x1 x4).bind fun r18 =>
    (graph_Relabel r12 x4).bind fun r21 =>
    (sparseref12_Relabel x1 x4).bind fun r24 =>
    (graph_Check r12).bind fun r27 =>
    (sparseref12_Check x1).bind fun r28 =>
    (if r27 = r28 then
      (graph_Components r12).bind fun r34 =>
      (sparseref12_Components x1).bind fun r36 =>
      (sparsekit_Lists r34 r36).bind fun r38 =>
      some (!(r38))
    else
      some true).bind fun r29 =>
    (if r29 = true then
      some true
    else
      (graph_Levels r12 x3).bind fun r41 =>
      (sparseref12_Levels x1 x3).bind fun r43 =>
      (sparsekit_Lists r41 r43).bind fun r45 =>
      some (!(r45))).bind fun r30 =>
    (if r30 = true then
      some true
    else
      (graph_Peripheral r12 x3).bind fun r47 =>
      (sparseref12_Peripheral x1 x3).bind fun r48 =>
      some (!(decide (r47 = r48)))).bind fun r31 =>
    if r31 = true then
      some false
    else
      (sparsekit_Graph r15.1 r18.1).bind fun r52 =>
      (if (r52 && (decide (r15.2 = r18.2))) = true then
        (sparsekit_Graph r21.1 r24.1).bind fun r59 =>
        some r59
      else
        some false).bind fun r56 =>
      (if (r56 && (decide (r21.2 = r24.2))) = true then
        (sparsekit_Graph r12 x1).bind fun r66 =>
        some r66
      else
        some false).bind fun r63 =>
      (if r63 = true then
        (sparselaw12_awake).bind fun r71 =>
        some r71
      else
        some false).bind fun r68 =>
      some r68
end M
