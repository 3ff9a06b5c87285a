/- Models of functions of the program, printed. -/
import Derived.Test.YtcknmegldjnjjaaM1
namespace M
open Sx
set_option linter.unusedVariables false
def graph_Components_j12 (x88 : Int) (x220 : List Bool) (x222 : List (List Int)) : Option (((List Bool) × (List (List Int)) × Int) ⊕ (((List (List Int))))) :=
  some (.inl (x220, x222, wa .i64 x88 1))
def graph_Components_l13 (r229 : (List Int)) : (List Bool) × Int → Option (((List Bool) × Int) ⊕ (((List Bool)))) := fun (x233, x234) =>
  if x234 < (r229.length : Int) then
    (getI r229 x234).bind fun x245 =>
    (setI x233 x245 true).bind fun x246 =>
    some (.inl (x246, wa .i64 x234 1))
  else
    some (.inr x233)
def graph_Components_l9 (x1 : List (List Int)) : (List Bool) × (List (List Int)) × Int → Option (((List Bool) × (List (List Int)) × Int) ⊕ (((List (List Int))))) := fun (x85, x87, x88) =>
  if x88 < (x1.length : Int) then
    (getI x85 x88).bind fun x223 =>
    if x223 = true then
      graph_Components_j12 x88 x85 x87
    else
      (graph_levels x1 x88).bind fun r225 =>
      (slices_Concat_int r225).bind fun r227 =>
      (slices_Sort_int r227).bind fun r229 =>
      (loop (graph_Components_l13 r229) (x85, 0)).bind fun x240 =>
      (app x87 [r229]).bind fun x243 =>
      graph_Components_j12 x88 x240 x243
  else
    some (.inr x87)
def graph_Components (x1 : List (List Int)) : Option ((List (List Int))) :=
  (graph_Check x1).bind fun r4 =>
  if r4 = 0 then
    (mkL false (x1.length : Int)).bind fun x8 =>
    (loop (graph_Components_l9 x1) (x8, [], 0)).bind fun x170 =>
    some x170
  else
    some []

def sparselaw12_awake : Option (Bool) :=
  (graph_Check [[1], [0, 2], [1, 3], [2]]).bind fun r7 =>
  (if r7 = 0 then
    (graph_Peripheral [[1], [0, 2], [1, 3], [2]] 1).bind fun r12 =>
    some (decide (r12 = 3))
  else
    some false).bind fun r9 =>
  (if r9 = true then
    (graph_Levels [[1], [0, 2], [1, 3], [2]] 1).bind fun r23 =>
    (sparsekit_Lists r23 [[1], [0, 2], [3]]).bind fun r29 =>
    some r29
  else
    some false).bind fun r20 =>
  (if r20 = true then
    (graph_Components [[1], [0, 2], [1, 3], [2]]).bind fun r35 =>
    some (decide ((r35.length : Int) = 1))
  else
    some false).bind fun r32 =>
  some r32

def sparsekit_Place (x1 : Int) (x2 : Int) : Option (Int) :=
  (wr (wc .u64 x1) (wc .u64 x2)).bind fun x3 =>
  some (wc .i64 x3)

def sparseref12_FromTable_j40 (x299 : Int) (x377 : List Int) : Option (((List Int) × Int) ⊕ (((List Int)))) :=
  some (.inl (x377, wa .i64 x299 1))
def sparseref12_FromTable_l36 (x1 : List (List Bool)) (x130 : Int) : (List Int) × Int → Option (((List Int) × Int) ⊕ (((List Int)))) := fun (x298, x299) =>
  if x299 < (x1.length : Int) then
    (if x130 = x299 then
      some false
    else
      (getI x1 x130).bind fun x361 =>
      (getI x361 x299).bind fun x363 =>
      (if x363 = true then
        some true
      else
        (getI x1 x299).bind fun x370 =>
        (getI x370 x130).bind fun x372 =>
        some x372).bind fun r367 =>
      some r367).bind fun r358 =>
    if r358 = true then
      (app x298 [x299]).bind fun x381 =>
      sparseref12_FromTable_j40 x299 x381
    else
      sparseref12_FromTable_j40 x299 x298
  else
    some (.inr x298)
def sparseref12_FromTable_l27 (x1 : List (List Bool)) : (List (List Int)) × Int → Option (((List (List Int)) × Int) ⊕ (((List (List Int))))) := fun (x129, x130) =>
  if x130 < (x1.length : Int) then
    (loop (sparseref12_FromTable_l36 x1 x130) ([], 0)).bind fun x341 =>
    (app x129 [x341]).bind fun x344 =>
    some (.inl (x344, wa .i64 x130 1))
  else
    some (.inr x129)
def sparseref12_FromTable (x1 : List (List Bool)) : Option ((List (List Int))) :=
  (loop (sparseref12_FromTable_l27 x1) ([], 0)).bind fun x258 =>
  some x258

def sparsemake_Graph_l4 (x2 : List Int) (x1 : Int) : (List (List Bool)) × Int → Option (((List (List Bool)) × Int) ⊕ (((List (List Bool))))) := fun (x45, x46) =>
  if ((decide ((wa .i64 x46 1) < (x2.length : Int))) && (decide ((0 : Int) < x1))) = true then
    (getI x2 x46).bind fun x66 =>
    (sparsekit_Place x66 x1).bind fun r67 =>
    (getI x45 r67).bind fun x68 =>
    (getI x2 (wa .i64 x46 1)).bind fun x70 =>
    (sparsekit_Place x70 x1).bind fun r71 =>
    (setI x68 r71 true).bind fun x72 =>
    (setI x45 r67 x72).bind fun x73 =>
    some (.inl (x73, wa .i64 x46 2))
  else
    some (.inr x45)
def sparsemake_Graph_l1 (x1 : Int) : (List (List Bool)) × Int → Option (((List (List Bool)) × Int) ⊕ (((List (List Bool))))) := fun (x16, x17) =>
  if x17 < x1 then
    (mkL false x1).bind fun x77 =>
    (app x16 [x77]).bind fun x81 =>
    some (.inl (x81, wa .i64 x17 1))
  else
    some (.inr x16)
def sparsemake_Graph (x1 : Int) (x2 : List Int) : Option ((List (List Int))) :=
  (loop (sparsemake_Graph_l1 x1) ([], 0)).bind fun x33 =>
  (loop (sparsemake_Graph_l4 x2 x1) (x33, 0)).bind fun x60 =>
  (sparseref12_FromTable x60).bind fun r61 =>
  some r61

def sparsekit_Ascending_l1 (x1 : List Int) : Int → Option ((Int) ⊕ (Unit ⊕ Unit)) := fun x7 =>
  if x7 < (x1.length : Int) then
    (getI x1 x7).bind fun x14 =>
    (getI x1 (ws .i64 x7 1)).bind fun x15 =>
    if x14 ≤ x15 then
      some (.inr (.inr ()))
    else
      some (.inl (wa .i64 x7 1))
  else
    some (.inr (.inl ()))
def sparsekit_Ascending (x1 : List Int) : Option (Bool) :=
  (loop (sparsekit_Ascending_l1 x1) 1).bind (fun o => match o with
    | .inl () =>
      some true
    | .inr () =>
      some false)

def sparselaw12_GraphLevels_l95 (r8 : (List (List Int))) (x245 : Int) (x147 : List Int) : Bool × Int → Option ((Bool × Int) ⊕ (Bool ⊕ Unit)) := fun (x354, x355) =>
  (getI r8 x245).bind fun x384 =>
  if x355 < (x384.length : Int) then
    (getI r8 x245).bind fun x387 =>
    (getI x387 x355).bind fun x389 =>
    (getI x147 x245).bind fun x390 =>
    (getI x147 x389).bind fun x391 =>
    (if (1 : Int) < (ws .i64 x390 x391) then
      some true
    else
      (getI x147 x389).bind fun x397 =>
      (getI x147 x245).bind fun x398 =>
      some (decide ((1 : Int) < (ws .i64 x397 x398)))).bind fun r392 =>
    (if r392 = true then
      some true
    else
      (getI x147 x245).bind fun x400 =>
      (getI x147 x389).bind fun x401 =>
      some (!(((decide (x400 = 0)) == (decide (x401 = 0)))))).bind fun r393 =>
    if r393 = true then
      some (.inr (.inr ()))
    else
      (if x354 = true then
        some true
      else
        (getI x147 x389).bind fun x406 =>
        (getI x147 x245).bind fun x407 =>
        some (decide (x406 = (ws .i64 x407 1)))).bind fun r403 =>
      some (.inl (r403, wa .i64 x355 1))
  else
    some (.inr (.inl x354))
def sparselaw12_GraphLevels_l76 (r7 : Int) (x147 : List Int) (r8 : (List (List Int))) : Int → Option ((Int) ⊕ (Unit ⊕ Unit)) := fun x245 =>
  if x245 < (wa .i64 1 r7) then
    (getI x147 x245).bind fun x329 =>
    (loop (sparselaw12_GraphLevels_l95 r8 x245 x147) (decide (x329 ≤ 1), 0)).bind (fun o => match o with
      | .inl x382 =>
        if x382 = true then
          some (.inl (wa .i64 x245 1))
        else
          some (.inr (.inr ()))
      | .inr () =>
        some (.inr (.inr ())))
  else
    some (.inr (.inl ()))
def sparselaw12_GraphLevels_l110 (r12 : (List (List Int))) (x81 : Int) (r7 : Int) : (List Int) × Int → Option (((List Int) × Int) ⊕ (((List Int)) ⊕ Unit)) := fun (x436, x437) =>
  (getI r12 x81).bind fun x456 =>
  if x437 < (x456.length : Int) then
    (getI r12 x81).bind fun x459 =>
    (getI x459 x437).bind fun x461 =>
    (if ((decide (x461 < 0)) || (decide ((wa .i64 1 r7) ≤ x461))) = true then
      some true
    else
      (getI x436 x461).bind fun x468 =>
      some (!(decide (x468 = 0)))).bind fun r465 =>
    if r465 = true then
      some (.inr (.inr ()))
    else
      (setI x436 x461 (wa .i64 x81 1)).bind fun x470 =>
      some (.inl (x470, wa .i64 x437 1))
  else
    some (.inr (.inl x436))
def sparselaw12_GraphLevels_l17 (r12 : (List (List Int))) (r7 : Int) : (List Int) × Int → Option (((List Int) × Int) ⊕ (((List Int)) ⊕ Unit)) := fun (x80, x81) =>
  if x81 < (r12.length : Int) then
    (getI r12 x81).bind fun x409 =>
    (if (x409.length : Int) = 0 then
      some true
    else
      (getI r12 x81).bind fun x417 =>
      (sparsekit_Ascending x417).bind fun r419 =>
      some (!(r419))).bind fun r414 =>
    if r414 = true then
      some (.inr (.inr ()))
    else
      (loop (sparselaw12_GraphLevels_l110 r12 x81 r7) (x80, 0)).bind (fun o => match o with
        | .inl x455 =>
          some (.inl (x455, wa .i64 x81 1))
        | .inr () =>
          some (.inr (.inr ())))
  else
    some (.inr (.inl x80))
def sparselaw12_GraphLevels (x1 : Int) (x2 : List Int) (x4 : Int) : Option (Bool) :=
  if (60 : Int) < (x2.length : Int) then
    (sparselaw12_awake).bind fun r6 =>
    some r6
  else
    (sparsekit_Place x1 12).bind fun r7 =>
    (sparsemake_Graph (wa .i64 1 r7) x2).bind fun r8 =>
    (sparsekit_Place x4 (wa .i64 1 r7)).bind fun r11 =>
    (graph_Levels r8 r11).bind fun r12 =>
    (mkL 0 (wa .i64 1 r7)).bind fun x16 =>
    (loop (sparselaw12_GraphLevels_l17 r12 r7) (x16, 0)).bind (fun o => match o with
      | .inl x147 =>
        (if (r12.length : Int) = 0 then
          some true
        else
          (getI r12 0).bind fun x153 =>
          some (!(decide ((x153.length : Int) = 1)))).bind fun r150 =>
        (if r150 = true then
          some true
        else
          (getI r12 0).bind fun x161 =>
          (getI x161 0).bind fun x163 =>
          some (!(decide (x163 = r11)))).bind fun r158 =>
        if r158 = true then
          some false
        else
          (loop (sparselaw12_GraphLevels_l76 r7 x147 r8) 0).bind (fun o => match o with
            | .inl () =>
              (sparselaw12_awake).bind fun r327 =>
              some r327
            | .inr () =>
              some false)
      | .inr () =>
        some false)

def sparsekit_In_l1 (x1 : List Int) (x3 : Int) : Int → Option ((Int) ⊕ (Unit ⊕ Unit)) := fun x7 =>
  if x7 < (x1.length : Int) then
    (getI x1 x7).bind fun x13 =>
    if x13 = x3 then
      some (.inr (.inr ()))
    else
      some (.inl (wa .i64 x7 1))
  else
    some (.inr (.inl ()))
def sparsekit_In (x1 : List Int) (x3 : Int) : Option (Bool) :=
  (loop (sparsekit_In_l1 x1 x3) 0).bind (fun o => match o with
    | .inl () =>
      some false
    | .inr () =>
      some true)

def sparseref12_Check_l28 (x1 : List (List Int)) (x72 : Int) : Int → Option ((Int) ⊕ (Unit ⊕ Unit)) := fun x166 =>
  (getI x1 x72).bind fun x188 =>
  if x166 < (x188.length : Int) then
    (getI x1 x72).bind fun x191 =>
    (getI x191 x166).bind fun x193 =>
    (if (((decide (x193 < 0)) || (decide ((x1.length : Int) ≤ x193))) || (decide (x193 = x72))) = true then
      some true
    else
      (getI x1 x193).bind fun x204 =>
      (sparsekit_In x204 x72).bind fun r206 =>
      some (!(r206))).bind fun r201 =>
    if r201 = true then
      some (.inr (.inr ()))
    else
      some (.inl (wa .i64 x166 1))
  else
    some (.inr (.inl ()))
def sparseref12_Check_l21 (x1 : List (List Int)) : Int → Option ((Int) ⊕ (Unit ⊕ Unit)) := fun x72 =>
  if x72 < (x1.length : Int) then
    (getI x1 x72).bind fun x142 =>
    (sparsekit_Ascending x142).bind fun r144 =>
    if r144 = true then
      (loop (sparseref12_Check_l28 x1 x72) 0).bind (fun o => match o with
        | .inl () =>
          some (.inl (wa .i64 x72 1))
        | .inr () =>
          some (.inr (.inr ())))
    else
      some (.inr (.inr ()))
  else
    some (.inr (.inl ()))
def sparseref12_Check (x1 : List (List Int)) : Option (Int) :=
  if (200 : Int) < (x1.length : Int) then
    some 6
  else
    (loop (sparseref12_Check_l21 x1) 0).bind (fun o => match o with
      | .inl () =>
        some 0
      | .inr () =>
        some 1)

def sparseref12_Levels_j98 (x499 : Int) (x527 : List Bool) (x529 : List Int) : Option (((List Bool) × (List Int) × Int) ⊕ (((List Bool) × (List Int)))) :=
  some (.inl (x527, x529, wa .i64 x499 1))
def sparseref12_Levels_l97 (x1 : List (List Int)) (x481 : List Bool) : (List Bool) × (List Int) × Int → Option (((List Bool) × (List Int) × Int) ⊕ (((List Bool) × (List Int)))) := fun (x496, x498, x499) =>
  if x499 < (x1.length : Int) then
    (getI x481 x499).bind fun x522 =>
    if x522 = true then
      (app x498 [x499]).bind fun x533 =>
      (setI x496 x499 true).bind fun x534 =>
      sparseref12_Levels_j98 x499 x534 x533
    else
      sparseref12_Levels_j98 x499 x496 x498
  else
    some (.inr (x496, x498))
def sparseref12_Levels_l105 (x537 : List Int) (x198 : List Bool) : (List Bool) × Int → Option (((List Bool) × Int) ⊕ (((List Bool)))) := fun (x549, x550) =>
  if x550 < (x537.length : Int) then
    (getI x537 x550).bind fun x565 =>
    (getI x537 x550).bind fun x566 =>
    (getI x549 x566).bind fun x567 =>
    (if x567 = true then
      some true
    else
      (getI x537 x550).bind fun x572 =>
      (getI x198 x572).bind fun x573 =>
      some (!(x573))).bind fun r568 =>
    (setI x549 x565 r568).bind fun x569 =>
    some (.inl (x569, wa .i64 x550 1))
  else
    some (.inr x549)
def sparseref12_Levels_l94 (x200 : List Int) (x1 : List (List Int)) (x198 : List Bool) : (List Bool) × Int → Option (((List Bool) × Int) ⊕ (((List Bool)))) := fun (x438, x439) =>
  if x439 < (x200.length : Int) then
    (getI x200 x439).bind fun x536 =>
    (getI x1 x536).bind fun x537 =>
    (loop (sparseref12_Levels_l105 x537 x198) (x438, 0)).bind fun x563 =>
    some (.inl (x563, wa .i64 x439 1))
  else
    some (.inr x438)
def sparseref12_Levels_l73 (x1 : List (List Int)) : (List Bool) × (List Int) × (List (List Int)) → Option (((List Bool) × (List Int) × (List (List Int))) ⊕ (((List (List Int))))) := fun (x198, x200, x202) =>
  if (0 : Int) < (x200.length : Int) then
    (app x202 [x200]).bind fun x395 =>
    (mkL false (x1.length : Int)).bind fun x398 =>
    (loop (sparseref12_Levels_l94 x200 x1 x198) (x398, 0)).bind fun x481 =>
    (loop (sparseref12_Levels_l97 x1 x481) (x198, [], 0)).bind fun (x518, x520) =>
    some (.inl (x518, x520, x395))
  else
    some (.inr x202)
def sparseref12_Levels (x1 : List (List Int)) (x3 : Int) : Option ((List (List Int))) :=
  (sparseref12_Check x1).bind fun r5 =>
  if (((!(decide (r5 = 0))) || (decide (x3 < 0))) || (decide ((x1.length : Int) ≤ x3))) = true then
    some []
  else
    (mkL false (x1.length : Int)).bind fun x13 =>
    (setI x13 x3 true).bind fun x14 =>
    (loop (sparseref12_Levels_l73 x1) (x14, [x3], [])).bind fun x391 =>
    some x391

def sparsekit_Perm_l5 (x3 : Int) (x1 : List Int) : (List Bool) × Int → Option (((List Bool) × Int) ⊕ (Unit ⊕ Unit)) := fun (x25, x26) =>
  if x26 < x3 then
    (getI x1 x26).bind fun x47 =>
    (if x47 < 0 then
      some true
    else
      (getI x1 x26).bind fun x52 =>
      some (decide (x3 ≤ x52))).bind fun r49 =>
    (if r49 = true then
      some true
    else
      (getI x1 x26).bind fun x58 =>
      (getI x25 x58).bind fun x59 =>
      some x59).bind fun r55 =>
    if r55 = true then
      some (.inr (.inr ()))
    else
      (getI x1 x26).bind fun x61 =>
      (setI x25 x61 true).bind fun x62 =>
      some (.inl (x62, wa .i64 x26 1))
  else
    some (.inr (.inl ()))
def sparsekit_Perm (x1 : List Int) (x3 : Int) : Option (Bool) :=
  if (x1.length : Int) = x3 then
    (mkL false x3).bind fun x7 =>
    (loop (sparsekit_Perm_l5 x3 x1) (x7, 0)).bind (fun o => match o with
      | .inl () =>
        some true
      | .inr () =>
        some false)
  else
    some false

def sparselaw12_GraphComponents_l31 (r7 : (List (List Int))) (x282 : Int) (x249 : List Int) : Int → Option ((Int) ⊕ (Unit ⊕ Unit)) := fun x325 =>
  (getI r7 x282).bind fun x336 =>
  if x325 < (x336.length : Int) then
    (getI r7 x282).bind fun x339 =>
    (getI x339 x325).bind fun x341 =>
    (getI x249 x341).bind fun x342 =>
    (getI x249 x282).bind fun x343 =>
    if x342 = x343 then
      some (.inl (wa .i64 x325 1))
    else
      some (.inr (.inr ()))
  else
    some (.inr (.inl ()))
def sparselaw12_GraphComponents_l30 (r6 : Int) (r7 : (List (List Int))) (x249 : List Int) : Int → Option ((Int) ⊕ (Unit ⊕ Unit)) := fun x282 =>
  if x282 < r6 then
    (loop (sparselaw12_GraphComponents_l31 r7 x282 x249) 0).bind (fun o => match o with
      | .inl () =>
        some (.inl (wa .i64 x282 1))
      | .inr () =>
        some (.inr (.inr ())))
  else
    some (.inr (.inl ()))
def sparselaw12_GraphComponents_l43 (r414 : (List (List Int))) : Int × Int → Option ((Int × Int) ⊕ (Int)) := fun (x419, x420) =>
  if x420 < (r414.length : Int) then
    (getI r414 x420).bind fun x435 =>
    some (.inl (wa .i64 x419 (x435.length : Int), wa .i64 x420 1))
  else
    some (.inr x419)
def sparselaw12_GraphComponents_l42 (r10 : (List (List Int))) (x130 : Int) (r6 : Int) : (List Int) × Int → Option (((List Int) × Int) ⊕ (((List Int)) ⊕ Unit)) := fun (x386, x387) =>
  (getI r10 x130).bind fun x437 =>
  if x387 < (x437.length : Int) then
    (getI r10 x130).bind fun x440 =>
    (getI x440 x387).bind fun x442 =>
    (if x442 < 0 then
      some true
    else
      (getI r10 x130).bind fun x449 =>
      (getI x449 x387).bind fun x451 =>
      some (decide (r6 ≤ x451))).bind fun r446 =>
    if r446 = true then
      some (.inr (.inr ()))
    else
      (getI r10 x130).bind fun x453 =>
      (getI x453 x387).bind fun x455 =>
      (setI x386 x455 x130).bind fun x456 =>
      some (.inl (x456, wa .i64 x387 1))
  else
    some (.inr (.inl x386))
def sparselaw12_GraphComponents_l27 (r10 : (List (List Int))) (r6 : Int) (r7 : (List (List Int))) : (List Int) × (List Int) × Int → Option (((List Int) × (List Int) × Int) ⊕ (((List Int) × (List Int)) ⊕ Unit)) := fun (x128, x129, x130) =>
  if x130 < (r10.length : Int) then
    (getI r10 x130).bind fun x346 =>
    (if (x346.length : Int) = 0 then
      some true
    else
      (getI r10 x130).bind fun x353 =>
      (sparsekit_Ascending x353).bind fun r355 =>
      some (!(r355))).bind fun r348 =>
    (if r348 = true then
      some true
    else
      (if (0 : Int) < x130 then
        (getI r10 x130).bind fun x359 =>
        (getI x359 0).bind fun x361 =>
        (getI r10 (ws .i64 x130 1)).bind fun x362 =>
        (getI x362 0).bind fun x364 =>
        some (decide (x361 < x364))
      else
        some false).bind fun r357 =>
      some r357).bind fun r349 =>
    if r349 = true then
      some (.inr (.inr ()))
    else
      (loop (sparselaw12_GraphComponents_l42 r10 x130 r6) (x129, 0)).bind (fun o => match o with
        | .inl x410 =>
          (getI r10 x130).bind fun x411 =>
          (getI x411 0).bind fun x413 =>
          (sparseref12_Levels r7 x413).bind fun r414 =>
          (loop (sparselaw12_GraphComponents_l43 r414) (0, 0)).bind fun x426 =>
          (getI r10 x130).bind fun x427 =>
          if x426 = (x427.length : Int) then
            (getI r10 x130).bind fun x430 =>
            (app x128 x430).bind fun x433 =>
            some (.inl (x433, x410, wa .i64 x130 1))
          else
            some (.inr (.inr ()))
        | .inr () =>
          some (.inr (.inr ())))
  else
    some (.inr (.inl (x128, x129)))
def sparselaw12_GraphComponents (x1 : Int) (x2 : List Int) : Option (Bool) :=
  if (60 : Int) < (x2.length : Int) then
    (sparselaw12_awake).bind fun r5 =>
    some r5
  else
    (sparsekit_Place x1 13).bind fun r6 =>
    (sparsemake_Graph r6 x2).bind fun r7 =>
    (graph_Components r7).bind fun r10 =>
    (mkL 0 r6).bind fun x14 =>
    (loop (sparselaw12_GraphComponents_l27 r10 r6 r7) ([], x14, 0)).bind (fun o => match o with
      | .inl (x248, x249) =>
        (sparsekit_Perm x248 r6).bind fun r250 =>
        if r250 = true then
          (loop (sparselaw12_GraphComponents_l30 r6 r7 x249) 0).bind (fun o => match o with
            | .inl () =>
              (sparselaw12_awake).bind fun r314 =>
              some r314
            | .inr () =>
              some false)
        else
          some false
      | .inr () =>
        some false)
end M
