/- Models of functions of the program, printed. -/
import Derived.Test.YthpeajepbffinaaM4
namespace M
open Sx
set_option linter.unusedVariables false
def sparsekit_In_l1 (x1 : List Int) (x3 : Int) : Int → Option ((Int) ⊕ (Unit ⊕ Unit)) := fun x7 =>
  if x7 < (x1.length : Int) then
    (getI x1 x7).bind fun x13 =>
    if x13 = x3 then
      some (.inr (.inr ()))
    else
      some (.inl (wa .i64 x7 1))
  else
    some (.inr (.inl ()))
def sparsekit_In (x1 : List Int) (x3 : Int) : Option (Bool) :=
  (loop (sparsekit_In_l1 x1 x3) 0).bind (fun o => match o with
    | .inl () =>
      some false
    | .inr () =>
      some true)

def sparseref12_Check_l28 (x1 : List (List Int)) (x72 : Int) : Int → Option ((Int) ⊕ (Unit ⊕ Unit)) := fun x166 =>
  (getI x1 x72).bind fun x188 =>
  if x166 < (x188.length : Int) then
    (getI x1 x72).bind fun x191 =>
    (getI x191 x166).bind fun x193 =>
    (if (((decide (x193 < 0)) || (decide ((x1.length : Int) ≤ x193))) || (decide (x193 = x72))) = true then
      some true
    else
      (getI x1 x193).bind fun x204 =>
      (sparsekit_In x204 x72).bind fun r206 =>
      some (!(r206))).bind fun r201 =>
    if r201 = true then
      some (.inr (.inr ()))
    else
      some (.inl (wa .i64 x166 1))
  else
    some (.inr (.inl ()))
def sparseref12_Check_l21 (x1 : List (List Int)) : Int → Option ((Int) ⊕ (Unit ⊕ Unit)) := fun x72 =>
  if x72 < (x1.length : Int) then
    (getI x1 x72).bind fun x142 =>
    (sparsekit_Ascending x142).bind fun r144 =>
    if r144 = true then
      (loop (sparseref12_Check_l28 x1 x72) 0).bind (fun o => match o with
        | .inl () =>
          some (.inl (wa .i64 x72 1))
        | .inr () =>
          some (.inr (.inr ())))
    else
      some (.inr (.inr ()))
  else
    some (.inr (.inl ()))
def sparseref12_Check (x1 : List (List Int)) : Option (Int) :=
  if (200 : Int) < (x1.length : Int) then
    some 6
  else
    (loop (sparseref12_Check_l21 x1) 0).bind (fun o => match o with
      | .inl () =>
        some 0
      | .inr () =>
        some 1)

def sparseref12_Levels_j98 (x499 : Int) (x527 : List Bool) (x529 : List Int) : Option (((List Bool) × (List Int) × Int) ⊕ (((List Bool) × (List Int)))) :=
  some (.inl (x527, x529, wa .i64 x499 1))
def sparseref12_Levels_l97 (x1 : List (List Int)) (x481 : List Bool) : (List Bool) × (List Int) × Int → Option (((List Bool) × (List Int) × Int) ⊕ (((List Bool) × (List Int)))) := fun (x496, x498, x499) =>
  if x499 < (x1.length : Int) then
    (getI x481 x499).bind fun x522 =>
    if x522 = true then
      (app x498 [x499]).bind fun x533 =>
      (setI x496 x499 true).bind fun x534 =>
      sparseref12_Levels_j98 x499 x534 x533
    else
      sparseref12_Levels_j98 x499 x496 x498
  else
    some (.inr (x496, x498))
def sparseref12_Levels_l105 (x537 : List Int) (x198 : List Bool) : (List Bool) × Int → Option (((List Bool) × Int) ⊕ (((List Bool)))) := fun (x549, x550) =>
  if x550 < (x537.length : Int) then
    (getI x537 x550).bind fun x565 =>
    (getI x537 x550).bind fun x566 =>
    (getI x549 x566).bind fun x567 =>
    (if x567 = true then
      some true
    else
      (getI x537 x550).bind fun x572 =>
      (getI x198 x572).bind fun x573 =>
      some (!(x573))).bind fun r568 =>
    (setI x549 x565 r568).bind fun x569 =>
    some (.inl (x569, wa .i64 x550 1))
  else
    some (.inr x549)
def sparseref12_Levels_l94 (x200 : List Int) (x1 : List (List Int)) (x198 : List Bool) : (List Bool) × Int → Option (((List Bool) × Int) ⊕ (((List Bool)))) := fun (x438, x439) =>
  if x439 < (x200.length : Int) then
    (getI x200 x439).bind fun x536 =>
    (getI x1 x536).bind fun x537 =>
    (loop (sparseref12_Levels_l105 x537 x198) (x438, 0)).bind fun x563 =>
    some (.inl (x563, wa .i64 x439 1))
  else
    some (.inr x438)
def sparseref12_Levels_l73 (x1 : List (List Int)) : (List Bool) × (List Int) × (List (List Int)) → Option (((List Bool) × (List Int) × (List (List Int))) ⊕ (((List (List Int))))) := fun (x198, x200, x202) =>
  if (0 : Int) < (x200.length : Int) then
    (app x202 [x200]).bind fun x395 =>
    (mkL false (x1.length : Int)).bind fun x398 =>
    (loop (sparseref12_Levels_l94 x200 x1 x198) (x398, 0)).bind fun x481 =>
    (loop (sparseref12_Levels_l97 x1 x481) (x198, [], 0)).bind fun (x518, x520) =>
    some (.inl (x518, x520, x395))
  else
    some (.inr x202)
def sparseref12_Levels (x1 : List (List Int)) (x3 : Int) : Option ((List (List Int))) :=
  (sparseref12_Check x1).bind fun r5 =>
  if (((!(decide (r5 = 0))) || (decide (x3 < 0))) || (decide ((x1.length : Int) ≤ x3))) = true then
    some []
  else
    (mkL false (x1.length : Int)).bind fun x13 =>
    (setI x13 x3 true).bind fun x14 =>
    (loop (sparseref12_Levels_l73 x1) (x14, [x3], [])).bind fun x391 =>
    some x391

def sparseref12_Components_j68 (x463 : Int) (x1220 : List Bool) (x1222 : List (List Int)) : Option (((List Bool) × (List (List Int)) × Int) ⊕ (((List (List Int))))) :=
  some (.inl (x1220, x1222, wa .i64 x463 1))
def sparseref12_Components_j75 (x1306 : Int) (x1337 : List Bool) (x1339 : List Int) : Option (((List Bool) × (List Int) × Int) ⊕ (((List Bool) × (List Int)))) :=
  some (.inl (x1337, x1339, wa .i64 x1306 1))
def sparseref12_Components_l74 (x1 : List (List Int)) (x1288 : List Bool) : (List Bool) × (List Int) × Int → Option (((List Bool) × (List Int) × Int) ⊕ (((List Bool) × (List Int)))) := fun (x1303, x1305, x1306) =>
  if x1306 < (x1.length : Int) then
    (getI x1288 x1306).bind fun x1332 =>
    if x1332 = true then
      (app x1305 [x1306]).bind fun x1343 =>
      (setI x1303 x1306 true).bind fun x1344 =>
      sparseref12_Components_j75 x1306 x1344 x1343
    else
      sparseref12_Components_j75 x1306 x1303 x1305
  else
    some (.inr (x1303, x1305))
def sparseref12_Components_l76 (r1225 : (List (List Int))) (x1258 : Int) : (List Bool) × Int → Option (((List Bool) × Int) ⊕ (((List Bool)))) := fun (x1353, x1354) =>
  (getI r1225 x1258).bind fun x1365 =>
  if x1354 < (x1365.length : Int) then
    (getI r1225 x1258).bind fun x1368 =>
    (getI x1368 x1354).bind fun x1370 =>
    (setI x1353 x1370 true).bind fun x1371 =>
    some (.inl (x1371, wa .i64 x1354 1))
  else
    some (.inr x1353)
def sparseref12_Components_l71 (r1225 : (List (List Int))) : (List Bool) × Int → Option (((List Bool) × Int) ⊕ (((List Bool)))) := fun (x1257, x1258) =>
  if x1258 < (r1225.length : Int) then
    (loop (sparseref12_Components_l76 r1225 x1258) (x1257, 0)).bind fun x1364 =>
    some (.inl (x1364, wa .i64 x1258 1))
  else
    some (.inr x1257)
def sparseref12_Components_l51 (x1 : List (List Int)) : (List Bool) × (List (List Int)) × Int → Option (((List Bool) × (List (List Int)) × Int) ⊕ (((List (List Int))))) := fun (x460, x462, x463) =>
  if x463 < (x1.length : Int) then
    (getI x460 x463).bind fun x1223 =>
    if x1223 = true then
      sparseref12_Components_j68 x463 x460 x462
    else
      (sparseref12_Levels x1 x463).bind fun r1225 =>
      (mkL false (x1.length : Int)).bind fun x1229 =>
      (loop (sparseref12_Components_l71 r1225) (x1229, 0)).bind fun x1288 =>
      (loop (sparseref12_Components_l74 x1 x1288) (x460, [], 0)).bind fun (x1325, x1327) =>
      (app x462 [x1327]).bind fun x1330 =>
      sparseref12_Components_j68 x463 x1325 x1330
  else
    some (.inr x462)
def sparseref12_Components (x1 : List (List Int)) : Option ((List (List Int))) :=
  (sparseref12_Check x1).bind fun r4 =>
  if r4 = 0 then
    (mkL false (x1.length : Int)).bind fun x8 =>
    (loop (sparseref12_Components_l51 x1) (x8, [], 0)).bind fun x920 =>
    some x920
  else
    some []

def sparseref12_Peripheral_j15 (x116 : Int) (x140 : Int) : Option ((Int × Int) ⊕ (Int)) :=
  some (.inl (x140, wa .i64 x116 1))
def sparseref12_Peripheral_l14 (x102 : List Int) (x1 : List (List Int)) : Int × Int → Option ((Int × Int) ⊕ (Int)) := fun (x115, x116) =>
  if x116 < (x102.length : Int) then
    (getI x102 x116).bind fun x134 =>
    (getI x1 x134).bind fun x135 =>
    (getI x1 x115).bind fun x137 =>
    if (x135.length : Int) < (x137.length : Int) then
      (getI x102 x116).bind fun x142 =>
      sparseref12_Peripheral_j15 x116 x142
    else
      sparseref12_Peripheral_j15 x116 x115
  else
    some (.inr x115)
def sparseref12_Peripheral_l11 (x1 : List (List Int)) : Int → Option ((Int) ⊕ (Int)) := fun x54 =>
  (sparseref12_Levels x1 x54).bind fun r100 =>
  (getI r100 (ws .i64 (r100.length : Int) 1)).bind fun x102 =>
  (getI x102 0).bind fun x104 =>
  (loop (sparseref12_Peripheral_l14 x102 x1) (x104, 1)).bind fun x129 =>
  (sparseref12_Levels x1 x129).bind fun r130 =>
  if (r130.length : Int) ≤ (r100.length : Int) then
    some (.inr x54)
  else
    some (.inl x129)
def sparseref12_Peripheral (x1 : List (List Int)) (x3 : Int) : Option (Int) :=
  (sparseref12_Check x1).bind fun r5 =>
  if (((!(decide (r5 = 0))) || (decide (x3 < 0))) || (decide ((x1.length : Int) ≤ x3))) = true then
    some (-1)
  else
    (loop (sparseref12_Peripheral_l11 x1) x3).bind fun x99 =>
    some x99

def sparseref18_Grow_l14 (r344 : (List (List Int))) (x394 : Int) (r20 : Int) (x3 : List Int) : (List Int) × Int × Int → Option (((List Int) × Int × Int) ⊕ (((List Int) × Int) ⊕ ((List Int)))) := fun (x460, x461, x462) =>
  (getI r344 x394).bind fun x481 =>
  if x462 < (x481.length : Int) then
    if r20 ≤ (wm .i64 2 x461) then
      some (.inr (.inr x460))
    else
      (getI r344 x394).bind fun x485 =>
      (getI x485 x462).bind fun x487 =>
      (setI x460 x487 0).bind fun x488 =>
      (getI r344 x394).bind fun x489 =>
      (getI x489 x462).bind fun x491 =>
      (getI x3 x491).bind fun x492 =>
      some (.inl (x488, wa .i64 x461 x492, wa .i64 x462 1))
  else
    some (.inr (.inl (x460, x461)))
def sparseref18_Grow_l13 (r344 : (List (List Int))) (r20 : Int) (x3 : List Int) : (List Int) × Int × Int → Option (((List Int) × Int × Int) ⊕ (((List Int) × Int) ⊕ ((List Int)))) := fun (x392, x393, x394) =>
  if x394 < (r344.length : Int) then
    (loop (sparseref18_Grow_l14 r344 x394 r20 x3) (x392, x393, 0)).bind (fun o => match o with
      | .inl (x478, x479) =>
        some (.inl (x478, x479, wa .i64 x394 1))
      | .inr x480 =>
        some (.inr (.inr x480)))
  else
    some (.inr (.inl (x392, x393)))
def sparseref18_Grow_l10 (r21 : (List (List Int))) (x1 : List (List Int)) (r20 : Int) (x3 : List Int) : (List Int) × Int × Int → Option (((List Int) × Int × Int) ⊕ (((List Int)) ⊕ ((List Int)))) := fun (x177, x178, x179) =>
  if x179 < (r21.length : Int) then
    (getI r21 x179).bind fun x340 =>
    (getI x340 0).bind fun x342 =>
    (sparseref12_Peripheral x1 x342).bind fun r343 =>
    (sparseref12_Levels x1 r343).bind fun r344 =>
    (loop (sparseref18_Grow_l13 r344 r20 x3) (x177, x178, 0)).bind (fun o => match o with
      | .inl (x444, x445) =>
        some (.inl (x444, x445, wa .i64 x179 1))
      | .inr x446 =>
        some (.inr (.inr x446)))
  else
    some (.inr (.inl x177))
def sparseref18_Grow_l1 : (List Int) × Int → Option (((List Int) × Int) ⊕ (((List Int)))) := fun (x13, x14) =>
  if x14 < (x13.length : Int) then
    (setI x13 x14 1).bind fun x494 =>
    some (.inl (x494, wa .i64 x14 1))
  else
    some (.inr x13)
def sparseref18_Grow (x1 : List (List Int)) (x3 : List Int) (x5 : List (List Int)) : Option ((List Int)) :=
  (mkL 0 (x3.length : Int)).bind fun x10 =>
  (loop (sparseref18_Grow_l1) (x10, 0)).bind fun x19 =>
  (sparseref18_Total x1 x3 x5).bind fun r20 =>
  (sparseref12_Components x1).bind fun r21 =>
  (loop (sparseref18_Grow_l10 r21 x1 r20 x3) (x19, 0, 0)).bind (fun o => match o with
    | .inl x337 =>
      some x337
    | .inr x338 =>
      some x338)

def sparselaw18_DissectRefined (x1 : Int) (x2 : List Int) (x4 : List Int) : Option (Bool) :=
  if ((decide ((90 : Int) < (x2.length : Int))) || (decide ((60 : Int) < (x4.length : Int)))) = true then
    (sparselaw18_awake).bind fun r9 =>
    some r9
  else
    (sparsekit_Place x1 9).bind fun r10 =>
    (sparsemake_Weighted r10 x2 x4).bind fun r11 =>
    (dissect_Bisect r11.1 r11.2.1 r11.2.2).bind fun r16 =>
    if ((!(decide (r16.2 = 0))) || (!(decide ((r16.1.length : Int) = r10)))) = true then
      some false
    else
      (dissect_Cut r11.1 r11.2.1 r11.2.2 r16.1).bind fun r21 =>
      (sparseref18_Grow r11.1 r11.2.1 r11.2.2).bind fun r22 =>
      (dissect_Cut r11.1 r11.2.1 r11.2.2 r22).bind fun r24 =>
      (if (((decide (r21.2 = 0)) && (decide (r24.2 = 0))) && (decide (r21.1 ≤ r24.1))) = true then
        (sparselaw18_awake).bind fun r33 =>
        some r33
      else
        some false).bind fun r30 =>
      some r30
end M
