/- Models of functions of the program, printed. -/
import Derived.Test.YthpeajepbffinaaGreatM4
namespace M
open Sx
set_option linter.unusedVariables false
def sparseref18_Match_j61 (x287 : Int) (x724 : List Int) : Option (((List Int) × Int) ⊕ (((List Int)))) :=
 some (.inl (x724, wa .i64 x287 1))
def sparseref18_Match_j68 (x754 : Int) (x805 : Int) (x806 : Int) : Option ((Int × Int × Int) ⊕ (Int)) :=
 some (.inl (x805, x806, wa .i64 x754 1))
def sparseref18_Match_l66 (x5 : List (List Int)) (x287 : Int) (x1 : List (List Int)) (x286 : List Int) : Int × Int × Int → Option ((Int × Int × Int) ⊕ (Int)) := fun (x752, x753, x754) =>
 (getI x5 x287).bind fun x786 =>
 if x754 < (x786.length : Int) then
  (getI x1 x287).bind fun x789 =>
  (getI x789 x754).bind fun x791 =>
  (getI x286 x791).bind fun x792 =>
  (if x792 < 0 then
   (getI x5 x287).bind fun x799 =>
   (getI x799 x754).bind fun x801 =>
   some (decide (x753 < x801))
  else
   some false).bind fun r796 =>
  if r796 = true then
   (getI x5 x287).bind fun x808 =>
   (getI x808 x754).bind fun x810 =>
   sparseref18_Match_j68 x754 x791 x810
  else
   sparseref18_Match_j68 x754 x752 x753
 else
  some (.inr x752)
def sparseref18_Match_l46 (x3 : List Int) (x5 : List (List Int)) (x1 : List (List Int)) : (List Int) × Int → Option (((List Int) × Int) ⊕ (((List Int)))) := fun (x286, x287) =>
 if x287 < (x3.length : Int) then
  (getI x286 x287).bind fun x725 =>
  if (0 : Int) ≤ x725 then
   sparseref18_Match_j61 x287 x286
  else
   (loop (sparseref18_Match_l66 x5 x287 x1 x286) (x287, 0, 0)).bind fun x783 =>
   (setI x286 x287 x783).bind fun x784 =>
   (setI x784 x783 x287).bind fun x785 =>
   sparseref18_Match_j61 x287 x785
 else
  some (.inr x286)
def sparseref18_Match_l1 (x3 : List Int) : (List Int) × Int → Option (((List Int) × Int) ⊕ (((List Int)))) := fun (x15, x16) =>
 if x16 < (x3.length : Int) then
  (app x15 [(-1)]).bind fun x814 =>
  some (.inl (x814, wa .i64 x16 1))
 else
  some (.inr x15)
def sparseref18_Match (x1 : List (List Int)) (x3 : List Int) (x5 : List (List Int)) : Option ((List Int) × Int) :=
 (sparseref18_CheckWeighted x1 x3 x5).bind fun r8 =>
 if r8 = 0 then
  (loop (sparseref18_Match_l1 x3) ([], 0)).bind fun x25 =>
  (loop (sparseref18_Match_l46 x3 x5 x1) (x25, 0)).bind fun x550 =>
  some (x550, 0)
 else
  some ([], r8)

def dissect_mates_l5 (x1 : List Int) : Int → Option ((Int) ⊕ (Unit ⊕ Unit)) := fun x13 =>
 if x13 < (x1.length : Int) then
  (getI x1 x13).bind fun x26 =>
  (if ((decide (x26 < 0)) || (decide ((x1.length : Int) ≤ x26))) = true then
   some true
  else
   (getI x1 x26).bind fun x33 =>
   some (!(decide (x33 = x13)))).bind fun r30 =>
  if r30 = true then
   some (.inr (.inr ()))
  else
   some (.inl (wa .i64 x13 1))
 else
  some (.inr (.inl ()))
def dissect_mates (x1 : List Int) : Option (Bool) :=
 (loop (dissect_mates_l5 x1) 0).bind (fun o => match o with
  | .inl () =>
   some true
  | .inr () =>
   some false)

def dissect_Coarsen (x1 : List (List Int)) (x3 : List Int) (x5 : List (List Int)) (x7 : List Int) : Option ((List (List Int)) × (List Int) × (List (List Int)) × (List Int) × Int) :=
 (dissect_CheckWeighted x1 x3 x5).bind fun r11 =>
 if r11 = 0 then
  if (x7.length : Int) = (x3.length : Int) then
   (dissect_mates x7).bind fun r14 =>
   if r14 = true then
    (dissect_coarsen x1 x3 x5 x7).bind fun r16 =>
    if r16.2.2.2.2 = true then
     some (r16.1, r16.2.1, r16.2.2.1, r16.2.2.2.1, 0)
    else
     some ([], [], [], [], 3)
   else
    some ([], [], [], [], 130)
  else
   some ([], [], [], [], 2)
 else
  some ([], [], [], [], r11)

def sparseref18_Coarsen_j51 (x906 : Int) (x1048 : List Int) (x1050 : List Int) : Option (((List Int) × (List Int) × Int) ⊕ (((List Int) × (List Int)) ⊕ Unit)) :=
 some (.inl (x1048, x1050, wa .i64 x906 1))
def sparseref18_Coarsen_l48 (x158 : List Int) (x562 : Int) (x306 : List (List Int)) : (List Int) × (List Int) × Int → Option (((List Int) × (List Int) × Int) ⊕ (((List Int) × (List Int)) ⊕ Unit)) := fun (x903, x905, x906) =>
 if x906 < (x158.length : Int) then
  (if x562 = x906 then
   some true
  else
   (getI x306 x562).bind fun x1057 =>
   (getI x1057 x906).bind fun x1059 =>
   some (decide (x1059 = 0))).bind fun r1054 =>
  if r1054 = true then
   sparseref18_Coarsen_j51 x906 x903 x905
  else
   (getI x306 x562).bind fun x1061 =>
   (getI x1061 x906).bind fun x1063 =>
   if (1099511627776 : Int) < x1063 then
    some (.inr (.inr ()))
   else
    (app x903 [x906]).bind fun x1067 =>
    (getI x306 x562).bind fun x1068 =>
    (getI x1068 x906).bind fun x1070 =>
    (app x905 [x1070]).bind fun x1073 =>
    sparseref18_Coarsen_j51 x906 x1067 x1073
 else
  some (.inr (.inl (x903, x905)))
def sparseref18_Coarsen_l39 (x158 : List Int) (x306 : List (List Int)) : (List (List Int)) × (List (List Int)) × Int → Option (((List (List Int)) × (List (List Int)) × Int) ⊕ (((List (List Int)) × (List (List Int))) ⊕ Unit)) := fun (x558, x561, x562) =>
 if x562 < (x158.length : Int) then
  (getI x158 x562).bind fun x826 =>
  if (1099511627776 : Int) < x826 then
   some (.inr (.inr ()))
  else
   (loop (sparseref18_Coarsen_l48 x158 x562 x306) ([], [], 0)).bind (fun o => match o with
    | .inl (x987, x989) =>
     (app x558 [x987]).bind fun x993 =>
     (app x561 [x989]).bind fun x998 =>
     some (.inl (x993, x998, wa .i64 x562 1))
    | .inr () =>
     some (.inr (.inr ())))
 else
  some (.inr (.inl (x558, x561)))
def sparseref18_Coarsen_l53 (x5 : List (List Int)) (x243 : Int) (x156 : List Int) (x1 : List (List Int)) : (List (List Int)) × Int → Option (((List (List Int)) × Int) ⊕ (((List (List Int))))) := fun (x1093, x1094) =>
 (getI x5 x243).bind fun x1116 =>
 if x1094 < (x1116.length : Int) then
  (getI x156 x243).bind fun x1119 =>
  (getI x1 x243).bind fun x1120 =>
  (getI x1120 x1094).bind fun x1122 =>
  (getI x156 x1122).bind fun x1123 =>
  (getI x1093 x1119).bind fun x1124 =>
  (getI x1093 x1119).bind fun x1126 =>
  (getI x1126 x1123).bind fun x1128 =>
  (getI x5 x243).bind fun x1129 =>
  (getI x1129 x1094).bind fun x1131 =>
  (setI x1124 x1123 (wa .i64 x1128 x1131)).bind fun x1132 =>
  (setI x1093 x1119 x1132).bind fun x1133 =>
  some (.inl (x1133, wa .i64 x1094 1))
 else
  some (.inr x1093)
def sparseref18_Coarsen_l12 (x3 : List Int) (x5 : List (List Int)) (x156 : List Int) (x1 : List (List Int)) : (List (List Int)) × Int → Option (((List (List Int)) × Int) ⊕ (((List (List Int))))) := fun (x242, x243) =>
 if x243 < (x3.length : Int) then
  (loop (sparseref18_Coarsen_l53 x5 x243 x156 x1) (x242, 0)).bind fun x1115 =>
  some (.inl (x1115, wa .i64 x243 1))
 else
  some (.inr x242)
def sparseref18_Coarsen_l9 (x158 : List Int) : (List (List Int)) × Int → Option (((List (List Int)) × Int) ⊕ (((List (List Int))))) := fun (x169, x170) =>
 if x170 < (x158.length : Int) then
  (mkL 0 (x158.length : Int)).bind fun x1137 =>
  (setI x169 x170 x1137).bind fun x1138 =>
  some (.inl (x1138, wa .i64 x170 1))
 else
  some (.inr x169)
def sparseref18_Coarsen_j54 (x102 : Int) (x1171 : List Int) (x1173 : List Int) : Option (((List Int) × (List Int) × Int) ⊕ (((List Int) × (List Int)))) :=
 some (.inl (x1171, x1173, wa .i64 x102 1))
def sparseref18_Coarsen_l8 (x3 : List Int) (x7 : List Int) : (List Int) × (List Int) × Int → Option (((List Int) × (List Int) × Int) ⊕ (((List Int) × (List Int)))) := fun (x99, x101, x102) =>
 if x102 < (x3.length : Int) then
  (getI x7 x102).bind fun x1174 =>
  if x1174 < x102 then
   (getI x7 x102).bind fun x1176 =>
   (getI x99 x1176).bind fun x1177 =>
   (setI x99 x102 x1177).bind fun x1178 =>
   (getI x1178 x102).bind fun x1179 =>
   (getI x1178 x102).bind fun x1180 =>
   (getI x101 x1180).bind fun x1181 =>
   (getI x3 x102).bind fun x1182 =>
   (setI x101 x1179 (wa .i64 x1181 x1182)).bind fun x1183 =>
   sparseref18_Coarsen_j54 x102 x1178 x1183
  else
   (setI x99 x102 (x101.length : Int)).bind fun x1184 =>
   (getI x3 x102).bind fun x1185 =>
   (app x101 [x1185]).bind fun x1188 =>
   sparseref18_Coarsen_j54 x102 x1184 x1188
 else
  some (.inr (x99, x101))
def sparseref18_Coarsen_l5 (x3 : List Int) (x7 : List Int) : Int → Option ((Int) ⊕ (Unit ⊕ Unit)) := fun x29 =>
 if x29 < (x3.length : Int) then
  (getI x7 x29).bind fun x1190 =>
  (if x1190 < 0 then
   some true
  else
   (getI x7 x29).bind fun x1195 =>
   some (decide ((x3.length : Int) ≤ x1195))).bind fun r1192 =>
  (if r1192 = true then
   some true
  else
   (getI x7 x29).bind fun x1201 =>
   (getI x7 x1201).bind fun x1202 =>
   some (!(decide (x1202 = x29)))).bind fun r1198 =>
  if r1198 = true then
   some (.inr (.inr ()))
  else
   some (.inl (wa .i64 x29 1))
 else
  some (.inr (.inl ()))
def sparseref18_Coarsen (x1 : List (List Int)) (x3 : List Int) (x5 : List (List Int)) (x7 : List Int) : Option ((List (List Int)) × (List Int) × (List (List Int)) × (List Int) × Int) :=
 (sparseref18_CheckWeighted x1 x3 x5).bind fun r11 =>
 if r11 = 0 then
  if (x7.length : Int) = (x3.length : Int) then
   (loop (sparseref18_Coarsen_l5 x3 x7) 0).bind (fun o => match o with
    | .inl () =>
     (mkL 0 (x3.length : Int)).bind fun x48 =>
     (loop (sparseref18_Coarsen_l8 x3 x7) (x48, [], 0)).bind fun (x156, x158) =>
     (mkL ([] : List Int) (x158.length : Int)).bind fun x161 =>
     (loop (sparseref18_Coarsen_l9 x158) (x161, 0)).bind fun x181 =>
     (loop (sparseref18_Coarsen_l12 x3 x5 x156 x1) (x181, 0)).bind fun x306 =>
     (loop (sparseref18_Coarsen_l39 x158 x306) ([], [], 0)).bind (fun o => match o with
      | .inl (x821, x824) =>
       some (x821, x158, x824, x156, 0)
      | .inr () =>
       some ([], [], [], [], 3))
    | .inr () =>
     some ([], [], [], [], 130))
  else
   some ([], [], [], [], 2)
 else
  some ([], [], [], [], r11)

def dissect_Bisect (x1 : List (List Int)) (x3 : List Int) (x5 : List (List Int)) : Option ((List Int) × Int) :=
 (dissect_CheckWeighted x1 x3 x5).bind fun r8 =>
 if r8 = 0 then
  (dissect_bisect FUEL x1 x3 x5).bind fun r10 =>
  if r10.2 = true then
   some (r10.1, 0)
  else
   some ([], 3)
 else
  some ([], r8)

def sparseref18_Total_l1 (x3 : List Int) : Int × Int → Option ((Int × Int) ⊕ (Int)) := fun (x10, x11) =>
 if x11 < (x3.length : Int) then
  (getI x3 x11).bind fun x18 =>
  some (.inl (wa .i64 x10 x18, wa .i64 x11 1))
 else
  some (.inr x10)
def sparseref18_Total (x1 : List (List Int)) (x3 : List Int) (x5 : List (List Int)) : Option (Int) :=
 (loop (sparseref18_Total_l1 x3) (0, 0)).bind fun x16 =>
 some x16

def sparseref12_Levels_j98 (x523 : Int) (x551 : List Bool) (x553 : List Int) : Option (((List Bool) × (List Int) × Int) ⊕ (((List Bool) × (List Int)))) :=
 some (.inl (x551, x553, wa .i64 x523 1))
def sparseref12_Levels_l97 (x1 : List (List Int)) (x505 : List Bool) : (List Bool) × (List Int) × Int → Option (((List Bool) × (List Int) × Int) ⊕ (((List Bool) × (List Int)))) := fun (x520, x522, x523) =>
 if x523 < (x1.length : Int) then
  (getI x505 x523).bind fun x546 =>
  if x546 = true then
   (app x522 [x523]).bind fun x557 =>
   (setI x520 x523 true).bind fun x558 =>
   sparseref12_Levels_j98 x523 x558 x557
  else
   sparseref12_Levels_j98 x523 x520 x522
 else
  some (.inr (x520, x522))
def sparseref12_Levels_l105 (x561 : List Int) (x207 : List Bool) : (List Bool) × Int → Option (((List Bool) × Int) ⊕ (((List Bool)))) := fun (x574, x575) =>
 if x575 < (x561.length : Int) then
  (getI x561 x575).bind fun x591 =>
  (getI x561 x575).bind fun x592 =>
  (getI x574 x592).bind fun x593 =>
  (if x593 = true then
   some true
  else
   (getI x561 x575).bind fun x599 =>
   (getI x207 x599).bind fun x600 =>
   some (!(x600))).bind fun r594 =>
  (setI x574 x591 r594).bind fun x595 =>
  some (.inl (x595, wa .i64 x575 1))
 else
  some (.inr x574)
def sparseref12_Levels_l94 (x209 : List Int) (x1 : List (List Int)) (x207 : List Bool) : (List Bool) × Int → Option (((List Bool) × Int) ⊕ (((List Bool)))) := fun (x459, x460) =>
 if x460 < (x209.length : Int) then
  (getI x209 x460).bind fun x560 =>
  (getI x1 x560).bind fun x561 =>
  (loop (sparseref12_Levels_l105 x561 x207) (x459, 0)).bind fun x589 =>
  some (.inl (x589, wa .i64 x460 1))
 else
  some (.inr x459)
def sparseref12_Levels_l73 (x1 : List (List Int)) : (List Bool) × (List Int) × (List (List Int)) → Option (((List Bool) × (List Int) × (List (List Int))) ⊕ (((List (List Int))))) := fun (x207, x209, x211) =>
 if (0 : Int) < (x209.length : Int) then
  (app x211 [x209]).bind fun x413 =>
  (mkL false (x1.length : Int)).bind fun x416 =>
  (loop (sparseref12_Levels_l94 x209 x1 x207) (x416, 0)).bind fun x505 =>
  (loop (sparseref12_Levels_l97 x1 x505) (x207, [], 0)).bind fun (x542, x544) =>
  some (.inl (x542, x544, x413))
 else
  some (.inr x211)
def sparseref12_Levels (x1 : List (List Int)) (x3 : Int) : Option ((List (List Int))) :=
 (sparseref12_Check x1).bind fun r5 =>
 if (((!(decide (r5 = 0))) || (decide (x3 < 0))) || (decide ((x1.length : Int) ≤ x3))) = true then
  some []
 else
  (mkL false (x1.length : Int)).bind fun x13 =>
  (setI x13 x3 true).bind fun x14 =>
  (loop (sparseref12_Levels_l73 x1) (x14, [x3], [])).bind fun x409 =>
  some x409

def sparseref12_Components_j68 (x463 : Int) (x1220 : List Bool) (x1222 : List (List Int)) : Option (((List Bool) × (List (List Int)) × Int) ⊕ (((List (List Int))))) :=
 some (.inl (x1220, x1222, wa .i64 x463 1))
def sparseref12_Components_j75 (x1306 : Int) (x1337 : List Bool) (x1339 : List Int) : Option (((List Bool) × (List Int) × Int) ⊕ (((List Bool) × (List Int)))) :=
 some (.inl (x1337, x1339, wa .i64 x1306 1))
def sparseref12_Components_l74 (x1 : List (List Int)) (x1288 : List Bool) : (List Bool) × (List Int) × Int → Option (((List Bool) × (List Int) × Int) ⊕ (((List Bool) × (List Int)))) := fun (x1303, x1305, x1306) =>
 if x1306 < (x1.length : Int) then
  (getI x1288 x1306).bind fun x1332 =>
  if x1332 = true then
   (app x1305 [x1306]).bind fun x1343 =>
   (setI x1303 x1306 true).bind fun x1344 =>
   sparseref12_Components_j75 x1306 x1344 x1343
  else
   sparseref12_Components_j75 x1306 x1303 x1305
 else
  some (.inr (x1303, x1305))
def sparseref12_Components_l76 (r1225 : (List (List Int))) (x1258 : Int) : (List Bool) × Int → Option (((List Bool) × Int) ⊕ (((List Bool)))) := fun (x1353, x1354) =>
 (getI r1225 x1258).bind fun x1365 =>
 if x1354 < (x1365.length : Int) then
  (getI r1225 x1258).bind fun x1368 =>
  (getI x1368 x1354).bind fun x1370 =>
  (setI x1353 x1370 true).bind fun x1371 =>
  some (.inl (x1371, wa .i64 x1354 1))
 else
  some (.inr x1353)
def sparseref12_Components_l71 (r1225 : (List (List Int))) : (List Bool) × Int → Option (((List Bool) × Int) ⊕ (((List Bool)))) := fun (x1257, x1258) =>
 if x1258 < (r1225.length : Int) then
  (loop (sparseref12_Components_l76 r1225 x1258) (x1257, 0)).bind fun x1364 =>
  some (.inl (x1364, wa .i64 x1258 1))
 else
  some (.inr x1257)
def sparseref12_Components_l51 (x1 : List (List Int)) : (List Bool) × (List (List Int)) × Int → Option (((List Bool) × (List (List Int)) × Int) ⊕ (((List (List Int))))) := fun (x460, x462, x463) =>
 if x463 < (x1.length : Int) then
  (getI x460 x463).bind fun x1223 =>
  if x1223 = true then
   sparseref12_Components_j68 x463 x460 x462
  else
   (sparseref12_Levels x1 x463).bind fun r1225 =>
   (mkL false (x1.length : Int)).bind fun x1229 =>
   (loop (sparseref12_Components_l71 r1225) (x1229, 0)).bind fun x1288 =>
   (loop (sparseref12_Components_l74 x1 x1288) (x460, [], 0)).bind fun (x1325, x1327) =>
   (app x462 [x1327]).bind fun x1330 =>
   sparseref12_Components_j68 x463 x1325 x1330
 else
  some (.inr x462)
def sparseref12_Components (x1 : List (List Int)) : Option ((List (List Int))) :=
 (sparseref12_Check x1).bind fun r4 =>
 if r4 = 0 then
  (mkL false (x1.length : Int)).bind fun x8 =>
  (loop (sparseref12_Components_l51 x1) (x8, [], 0)).bind fun x920 =>
  some x920
 else
  some []

def sparseref12_Peripheral_j15 (x116 : Int) (x140 : Int) : Option ((Int × Int) ⊕ (Int)) :=
 some (.inl (x140, wa .i64 x116 1))
def sparseref12_Peripheral_l14 (x102 : List Int) (x1 : List (List Int)) : Int × Int → Option ((Int × Int) ⊕ (Int)) := fun (x115, x116) =>
 if x116 < (x102.length : Int) then
  (getI x102 x116).bind fun x134 =>
  (getI x1 x134).bind fun x135 =>
  (getI x1 x115).bind fun x137 =>
  if (x135.length : Int) < (x137.length : Int) then
   (getI x102 x116).bind fun x142 =>
   sparseref12_Peripheral_j15 x116 x142
  else
   sparseref12_Peripheral_j15 x116 x115
 else
  some (.inr x115)
def sparseref12_Peripheral_l11 (x1 : List (List Int)) : Int → Option ((Int) ⊕ (Int)) := fun x54 =>
 (sparseref12_Levels x1 x54).bind fun r100 =>
 (getI r100 (ws .i64 (r100.length : Int) 1)).bind fun x102 =>
 (getI x102 0).bind fun x104 =>
 (loop (sparseref12_Peripheral_l14 x102 x1) (x104, 1)).bind fun x129 =>
 (sparseref12_Levels x1 x129).bind fun r130 =>
 if (r130.length : Int) ≤ (r100.length : Int) then
  some (.inr x54)
 else
  some (.inl x129)
def sparseref12_Peripheral (x1 : List (List Int)) (x3 : Int) : Option (Int) :=
 (sparseref12_Check x1).bind fun r5 =>
 if (((!(decide (r5 = 0))) || (decide (x3 < 0))) || (decide ((x1.length : Int) ≤ x3))) = true then
  some (-1)
 else
  (loop (sparseref12_Peripheral_l11 x1) x3).bind fun x99 =>
  some x99

def sparseref18_Grow_l14 (r344 : (List (List Int))) (x394 : Int) (r20 : Int) (x3 : List Int) : (List Int) × Int × Int → Option (((List Int) × Int × Int) ⊕ (((List Int) × Int) ⊕ ((List Int)))) := fun (x460, x461, x462) =>
 (getI r344 x394).bind fun x481 =>
 if x462 < (x481.length : Int) then
  if r20 ≤ (wm .i64 2 x461) then
   some (.inr (.inr x460))
  else
   (getI r344 x394).bind fun x485 =>
   (getI x485 x462).bind fun x487 =>
   (setI x460 x487 0).bind fun x488 =>
   (getI r344 x394).bind fun x489 =>
   (getI x489 x462).bind fun x491 =>
   (getI x3 x491).bind fun x492 =>
   some (.inl (x488, wa .i64 x461 x492, wa .i64 x462 1))
 else
  some (.inr (.inl (x460, x461)))
def sparseref18_Grow_l13 (r344 : (List (List Int))) (r20 : Int) (x3 : List Int) : (List Int) × Int × Int → Option (((List Int) × Int × Int) ⊕ (((List Int) × Int) ⊕ ((List Int)))) := fun (x392, x393, x394) =>
 if x394 < (r344.length : Int) then
  (loop (sparseref18_Grow_l14 r344 x394 r20 x3) (x392, x393, 0)).bind (fun o => match o with
   | .inl (x478, x479) =>
    some (.inl (x478, x479, wa .i64 x394 1))
   | .inr x480 =>
    some (.inr (.inr x480)))
 else
  some (.inr (.inl (x392, x393)))
def sparseref18_Grow_l10 (r21 : (List (List Int))) (x1 : List (List Int)) (r20 : Int) (x3 : List Int) : (List Int) × Int × Int → Option (((List Int) × Int × Int) ⊕ (((List Int)) ⊕ ((List Int)))) := fun (x177, x178, x179) =>
 if x179 < (r21.length : Int) then
  (getI r21 x179).bind fun x340 =>
  (getI x340 0).bind fun x342 =>
  (sparseref12_Peripheral x1 x342).bind fun r343 =>
  (sparseref12_Levels x1 r343).bind fun r344 =>
  (loop (sparseref18_Grow_l13 r344 r20 x3) (x177, x178, 0)).bind (fun o => match o with
   | .inl (x444, x445) =>
    some (.inl (x444, x445, wa .i64 x179 1))
   | .inr x446 =>
    some (.inr (.inr x446)))
 else
  some (.inr (.inl x177))
def sparseref18_Grow_l1 : (List Int) × Int → Option (((List Int) × Int) ⊕ (((List Int)))) := fun (x13, x14) =>
 if x14 < (x13.length : Int) then
  (setI x13 x14 1).bind fun x494 =>
  some (.inl (x494, wa .i64 x14 1))
 else
  some (.inr x13)
def sparseref18_Grow (x1 : List (List Int)) (x3 : List Int) (x5 : List (List Int)) : Option ((List Int)) :=
 (mkL 0 (x3.length : Int)).bind fun x10 =>
 (loop (sparseref18_Grow_l1) (x10, 0)).bind fun x19 =>
 (sparseref18_Total x1 x3 x5).bind fun r20 =>
 (sparseref12_Components x1).bind fun r21 =>
 (loop (sparseref18_Grow_l10 r21 x1 r20 x3) (x19, 0, 0)).bind (fun o => match o with
  | .inl x337 =>
   some x337
  | .inr x338 =>
   some x338)

def sparseref18_weightOf_j4 (x18 : Int) (x31 : Int) : Option ((Int × Int) ⊕ (Int)) :=
 some (.inl (x31, wa .i64 x18 1))
def sparseref18_weightOf_l3 (x7 : List Int) (x9 : Int) (x3 : List Int) : Int × Int → Option ((Int × Int) ⊕ (Int)) := fun (x17, x18) =>
 if x18 < (x7.length : Int) then
  (getI x7 x18).bind fun x29 =>
  if x29 = x9 then
   (getI x3 x18).bind fun x33 =>
   sparseref18_weightOf_j4 x18 (wa .i64 x17 x33)
  else
   sparseref18_weightOf_j4 x18 x17
 else
  some (.inr x17)
def sparseref18_weightOf (x1 : List (List Int)) (x3 : List Int) (x5 : List (List Int)) (x7 : List Int) (x9 : Int) : Option (Int) :=
 (loop (sparseref18_weightOf_l3 x7 x9 x3) (0, 0)).bind fun x27 =>
 some x27

def sparseref18_Refine_j397 (x4012 : Int) (x4428 : List Int) (x4429 : Bool) : Option (((List Int) × Bool × Int) ⊕ (((List Int) × Bool))) :=
 some (.inl (x4428, x4429, wa .i64 x4012 1))
def sparseref18_Refine_j404 (x4453 : Int) (x4503 : Int) : Option ((Int × Int) ⊕ (Int)) :=
 some (.inl (x4503, wa .i64 x4453 1))
def sparseref18_Refine_l400 (x5 : List (List Int)) (x4012 : Int) (x1 : List (List Int)) (x4010 : List Int) : Int × Int → Option ((Int × Int) ⊕ (Int)) := fun (x4452, x4453) =>
 (getI x5 x4012).bind fun x4489 =>
 if x4453 < (x4489.length : Int) then
  (getI x1 x4012).bind fun x4492 =>
  (getI x4492 x4453).bind fun x4494 =>
  (getI x4010 x4494).bind fun x4495 =>
  (getI x4010 x4012).bind fun x4496 =>
  if x4495 = x4496 then
   (getI x5 x4012).bind fun x4505 =>
   (getI x4505 x4453).bind fun x4507 =>
   sparseref18_Refine_j404 x4453 (ws .i64 x4452 x4507)
  else
   (getI x5 x4012).bind fun x4508 =>
   (getI x4508 x4453).bind fun x4510 =>
   sparseref18_Refine_j404 x4453 (wa .i64 x4452 x4510)
 else
  some (.inr x4452)
def sparseref18_Refine_l382 (x5 : List (List Int)) (x1 : List (List Int)) (x3 : List Int) (r12 : Int) : (List Int) × Bool × Int → Option (((List Int) × Bool × Int) ⊕ (((List Int) × Bool))) := fun (x4010, x4011, x4012) =>
 if x4012 < (x4010.length : Int) then
  (loop (sparseref18_Refine_l400 x5 x4012 x1 x4010) (0, 0)).bind fun x4478 =>
  (if x4478 ≤ 0 then
   some true
  else
   (getI x4010 x4012).bind fun x4483 =>
   (sparseref18_weightOf x1 x3 x5 x4010 (ws .i64 1 x4483)).bind fun r4484 =>
   (getI x3 x4012).bind fun x4485 =>
   some (decide ((wm .i64 2 r12) < (wm .i64 3 (wa .i64 r4484 x4485))))).bind fun r4479 =>
  if r4479 = true then
   sparseref18_Refine_j397 x4012 x4010 x4011
  else
   (getI x4010 x4012).bind fun x4487 =>
   (setI x4010 x4012 (ws .i64 1 x4487)).bind fun x4488 =>
   sparseref18_Refine_j397 x4012 x4488 true
 else
  some (.inr (x4010, x4011))
def sparseref18_Refine_l337 (x5 : List (List Int)) (x1 : List (List Int)) (x3 : List Int) (r12 : Int) : (List Int) × Int → Option (((List Int) × Int) ⊕ (((List Int)))) := fun (x3010, x3011) =>
 if x3011 < 4 then
  (loop (sparseref18_Refine_l382 x5 x1 x3 r12) (x3010, false, 0)).bind fun (x4262, x4263) =>
  if x4263 = true then
   some (.inl (x4262, wa .i64 x3011 1))
  else
   some (.inr x4262)
 else
  some (.inr x3010)
def sparseref18_Refine (x1 : List (List Int)) (x3 : List Int) (x5 : List (List Int)) (x7 : List Int) : Option ((List Int)) :=
 (sparsekit_TwinInts x7).bind fun r10 =>
 (sparseref18_Total x1 x3 x5).bind fun r12 =>
 (loop (sparseref18_Refine_l337 x5 x1 x3 r12) (r10, 0)).bind fun x3762 =>
 some x3762

def sparseref18_Bisect_l1 (x3 : List Int) (r16 : (List (List Int)) × (List Int) × (List (List Int)) × (List Int) × Int) (r30 : (List Int) × Int) : (List Int) × Int → Option (((List Int) × Int) ⊕ (((List Int)))) := fun (x40, x41) =>
 if x41 < (x3.length : Int) then
  (getI r16.2.2.2.1 x41).bind fun x52 =>
  (getI r30.1 x52).bind fun x53 =>
  (setI x40 x41 x53).bind fun x54 =>
  some (.inl (x54, wa .i64 x41 1))
 else
  some (.inr x40)
def sparseref18_Bisect_body (rec : (List (List Int)) → (List Int) → (List (List Int)) → Option ((List Int) × Int)) (x1 : List (List Int)) (x3 : List Int) (x5 : List (List Int)) : Option ((List Int) × Int) :=
 (sparseref18_Match x1 x3 x5).bind fun r8 =>
 if r8.2 = 0 then
  if (x3.length : Int) ≤ 8 then
   (sparseref18_Grow x1 x3 x5).bind fun r12 =>
   (sparseref18_Refine x1 x3 x5 r12).bind fun r14 =>
   some (r14, 0)
  else
   (sparseref18_Coarsen x1 x3 x5 r8.1).bind fun r16 =>
   if r16.2.2.2.2 = 0 then
    if (r16.2.1.length : Int) = (x3.length : Int) then
     (sparseref18_Grow x1 x3 x5).bind fun r26 =>
     (sparseref18_Refine x1 x3 x5 r26).bind fun r28 =>
     some (r28, 0)
    else
     (rec r16.1 r16.2.1 r16.2.2.1).bind fun r30 =>
     if r30.2 = 0 then
      (mkL 0 (x3.length : Int)).bind fun x35 =>
      (loop (sparseref18_Bisect_l1 x3 r16 r30) (x35, 0)).bind fun x48 =>
      (sparseref18_Refine x1 x3 x5 x48).bind fun r49 =>
      some (r49, 0)
     else
      some ([], r30.2)
   else
    some ([], r16.2.2.2.2)
 else
  some ([], r8.2)
def sparseref18_Bisect : Nat → (List (List Int)) → (List Int) → (List (List Int)) → Option ((List Int) × Int)
 | 0 => fun _ _ _ => none
 | n + 1 => sparseref18_Bisect_body (sparseref18_Bisect n)

def dissect_Cut_1 (x1 : Int) : Option (Bool) :=
 some ((!(decide (x1 = 0))) && (!(decide (x1 = 1))))
end M
