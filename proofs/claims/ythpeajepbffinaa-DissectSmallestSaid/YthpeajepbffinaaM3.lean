/- Models of functions of the program, printed. -/
import Derived.Test.YthpeajepbffinaaM2
namespace M
open Sx
set_option linter.unusedVariables false
def matching_full_l1 (x5 : List Int) (x2 : Int) : (List Int) × Int → Option (((List Int) × Int) ⊕ (((List Int)))) := fun (x8, x9) =>
 if x9 < (x5.length : Int) then
  (setI x8 x9 x2).bind fun x16 =>
  some (.inl (x16, wa .i64 x9 1))
 else
  some (.inr x8)
def matching_full (x1 : Int) (x2 : Int) : Option ((List Int)) :=
 (mkL 0 x1).bind fun x5 =>
 (loop (matching_full_l1 x5 x2) (x5, 0)).bind fun x14 =>
 some x14

def matching_kuhn_try_j12 (x74 : Int) (x180 : List Int) (x181 : List Int) (x182 : List Bool) : Option (((List Int) × (List Int) × (List Bool) × Int) ⊕ (((List Int) × (List Int) × (List Bool)) ⊕ ((List Int) × (List Int) × (List Bool)))) :=
 some (.inl (x180, x181, x182, wa .i64 x74 1))
def matching_kuhn_try_l9 (rec : (List (List Int)) → (List Int) → (List Int) → (List Bool) → Int → Option ((List Int) × (List Int) × (List Bool) × Bool)) (x11 : List Int) (x2 : List (List Int)) (x10 : Int) : (List Int) × (List Int) × (List Bool) × Int → Option (((List Int) × (List Int) × (List Bool) × Int) ⊕ (((List Int) × (List Int) × (List Bool)) ⊕ ((List Int) × (List Int) × (List Bool)))) := fun (x71, x72, x73, x74) =>
 if x74 < (x11.length : Int) then
  (getI x11 x74).bind fun x183 =>
  (getI x73 x183).bind fun x184 =>
  if x184 = true then
   matching_kuhn_try_j12 x74 x71 x72 x73
  else
   (setI x73 x183 true).bind fun x186 =>
   (getI x72 x183).bind fun x187 =>
   (if x187 = (-1) then
    some (true, x71, x72, x186)
   else
    (getI x72 x183).bind fun x196 =>
    (rec x2 x71 x72 x186 x196).bind fun r197 =>
    some (r197.2.2.2, r197.1, r197.2.1, r197.2.2.1)).bind fun r190 =>
   if r190.1 = true then
    (setI r190.2.1 x10 x183).bind fun x199 =>
    (setI r190.2.2.1 x183 x10).bind fun x200 =>
    some (.inr (.inr (x199, x200, r190.2.2.2)))
   else
    matching_kuhn_try_j12 x74 r190.2.1 r190.2.2.1 r190.2.2.2
 else
  some (.inr (.inl (x71, x72, x73)))
def matching_kuhn_try_body (rec : (List (List Int)) → (List Int) → (List Int) → (List Bool) → Int → Option ((List Int) × (List Int) × (List Bool) × Bool)) (x2 : List (List Int)) (x4 : List Int) (x6 : List Int) (x8 : List Bool) (x10 : Int) : Option ((List Int) × (List Int) × (List Bool) × Bool) :=
 (getI x2 x10).bind fun x11 =>
 (loop (matching_kuhn_try_l9 rec x11 x2 x10) (x4, x6, x8, 0)).bind (fun o => match o with
  | .inl (x137, x138, x139) =>
   some (x137, x138, x139, false)
  | .inr (x140, x141, x142) =>
   some (x140, x141, x142, true))
def matching_kuhn_try : Nat → (List (List Int)) → (List Int) → (List Int) → (List Bool) → Int → Option ((List Int) × (List Int) × (List Bool) × Bool)
 | 0 => fun _ _ _ _ _ => none
 | n + 1 => matching_kuhn_try_body (matching_kuhn_try n)

def matching_matched_l1 (x2 : Int) (x1 : Int) (r10 : (List (List Int))) : (List Int) × (List Int) × (List Bool) × Int → Option (((List Int) × (List Int) × (List Bool) × Int) ⊕ (((List Int) × (List Int) × (List Bool)))) := fun (x22, x23, x25, x26) =>
 if x26 < x2 then
  (mkL false x1).bind fun x44 =>
  (matching_kuhn_try FUEL r10 x22 x23 x44 x26).bind fun r45 =>
  some (.inl (r45.1, r45.2.1, r45.2.2.1, wa .i64 x26 1))
 else
  some (.inr (x22, x23, x25))
def matching_matched (x1 : Int) (x2 : Int) (x3 : List Int) (x5 : List Int) (x7 : List Int) : Option ((List (List Int)) × (List Int) × (List Int) × (List Bool)) :=
 (matching_Edges x1 x2 x3 x5 x7).bind fun r10 =>
 (matching_full x2 (-1)).bind fun r12 =>
 (matching_full x1 (-1)).bind fun r14 =>
 (loop (matching_matched_l1 x2 x1 r10) (r12, r14, [], 0)).bind fun (x37, x38, x40) =>
 some (r10, x37, x38, x40)

def matching_Reachable_j26 (x301 : List Bool) (x268 : Int) (x312 : List Bool) (x314 : List Int) : Option (((List Bool) × (List Bool) × (List Int) × Int) ⊕ (((List Bool) × (List Bool) × (List Int)))) :=
 some (.inl (x301, x312, x314, wa .i64 x268 1))
def matching_Reachable_l24 (x241 : List Int) (r10 : (List (List Int)) × (List Int) × (List Int) × (List Bool)) : (List Bool) × (List Bool) × (List Int) × Int → Option (((List Bool) × (List Bool) × (List Int) × Int) ⊕ (((List Bool) × (List Bool) × (List Int)))) := fun (x264, x265, x267, x268) =>
 if x268 < (x241.length : Int) then
  (getI x241 x268).bind fun x300 =>
  (setI x264 x300 true).bind fun x301 =>
  (getI r10.2.2.1 x300).bind fun x302 =>
  (if x302 = (-1) then
   some false
  else
   (getI x265 x302).bind fun x307 =>
   some (!(x307))).bind fun r304 =>
  if r304 = true then
   (setI x265 x302 true).bind fun x316 =>
   (app x267 [x302]).bind fun x319 =>
   matching_Reachable_j26 x301 x268 x316 x319
  else
   matching_Reachable_j26 x301 x268 x265 x267
 else
  some (.inr (x264, x265, x267))
def matching_Reachable_l19 (r10 : (List (List Int)) × (List Int) × (List Int) × (List Bool)) : (List Bool) × (List Bool) × (List Int) → Option (((List Bool) × (List Bool) × (List Int)) ⊕ (((List Bool) × (List Bool)))) := fun (x146, x147, x149) =>
 if (0 : Int) < (x149.length : Int) then
  (getI x149 0).bind fun x239 =>
  (sli x149 1 (x149.length : Int)).bind fun x240 =>
  (getI r10.1 x239).bind fun x241 =>
  (loop (matching_Reachable_l24 x241 r10) (x146, x147, x240, 0)).bind fun (x295, x296, x298) =>
  some (.inl (x295, x296, x298))
 else
  some (.inr (x146, x147))
def matching_Reachable_j27 (x42 : Int) (x326 : List Bool) (x328 : List Int) : Option (((List Bool) × (List Int) × Int) ⊕ (((List Bool) × (List Int)))) :=
 some (.inl (x326, x328, wa .i64 x42 1))
def matching_Reachable_l4 (r10 : (List (List Int)) × (List Int) × (List Int) × (List Bool)) : (List Bool) × (List Int) × Int → Option (((List Bool) × (List Int) × Int) ⊕ (((List Bool) × (List Int)))) := fun (x39, x41, x42) =>
 if x42 < (r10.2.1.length : Int) then
  (getI r10.2.1 x42).bind fun x321 =>
  if x321 = (-1) then
   (setI x39 x42 true).bind fun x330 =>
   (app x41 [x42]).bind fun x333 =>
   matching_Reachable_j27 x42 x330 x333
  else
   matching_Reachable_j27 x42 x39 x41
 else
  some (.inr (x39, x41))
def matching_Reachable (x1 : Int) (x2 : Int) (x3 : List Int) (x5 : List Int) (x7 : List Int) : Option ((List Bool) × (List Bool)) :=
 (matching_matched x1 x2 x3 x5 x7).bind fun r10 =>
 (mkL false x1).bind fun x18 =>
 (mkL false x2).bind fun x21 =>
 (loop (matching_Reachable_l4 r10) (x21, [], 0)).bind fun (x61, x63) =>
 (loop (matching_Reachable_l19 r10) (x18, x61, x63)).bind fun (x236, x237) =>
 some (x236, x237)

def matching_List_j4 (x17 : Int) (x40 : List Int) : Option (((List Int) × Int) ⊕ (((List Int)))) :=
 some (.inl (x40, wa .i64 x17 1))
def matching_List_l3 (x1 : List Bool) (x3 : Bool) : (List Int) × Int → Option (((List Int) × Int) ⊕ (((List Int)))) := fun (x16, x17) =>
 if x17 < (x1.length : Int) then
  (getI x1 x17).bind fun x35 =>
  if (x35 == x3) = true then
   (app x16 [x17]).bind fun x44 =>
   matching_List_j4 x17 x44
  else
   matching_List_j4 x17 x16
 else
  some (.inr x16)
def matching_List (x1 : List Bool) (x3 : Bool) : Option ((List Int)) :=
 (loop (matching_List_l3 x1 x3) ([], 0)).bind fun x33 =>
 some x33

def matching_Cover (x1 : Int) (x2 : Int) (x3 : List Int) (x5 : List Int) (x7 : List Int) : Option ((List Int) × (List Int) × Int) :=
 (matrix_Check x1 x2 x3 x5 x7).bind fun r11 =>
 if r11 = 0 then
  (matching_Reachable x1 x2 x3 x5 x7).bind fun r13 =>
  (matching_List r13.1 true).bind fun r16 =>
  (matching_List r13.2 false).bind fun r18 =>
  some (r16, r18, 0)
 else
  some ([], [], r11)

def dissect_cover_l23 (r241 : (List Int) × (List Int) × Int) (r8 : (List Int)) : (List Bool) × Int → Option (((List Bool) × Int) ⊕ (((List Bool)))) := fun (x263, x264) =>
 if x264 < (r241.2.1.length : Int) then
  (getI r241.2.1 x264).bind fun x273 =>
  (getI r8 x273).bind fun x274 =>
  (setI x263 x274 true).bind fun x275 =>
  some (.inl (x275, wa .i64 x264 1))
 else
  some (.inr x263)
def dissect_cover_l22 (r241 : (List Int) × (List Int) × Int) (r6 : (List Int)) : (List Bool) × Int → Option (((List Bool) × Int) ⊕ (((List Bool)))) := fun (x250, x251) =>
 if x251 < (r241.1.length : Int) then
  (getI r241.1 x251).bind fun x277 =>
  (getI r6 x277).bind fun x278 =>
  (setI x250 x278 true).bind fun x279 =>
  some (.inl (x279, wa .i64 x251 1))
 else
  some (.inr x250)
def dissect_cover_j32 (x314 : Int) (x370 : List Int) (x372 : List Int) : Option (((List Int) × (List Int) × Int) ⊕ (((List Int) × (List Int)))) :=
 some (.inl (x370, x372, wa .i64 x314 1))
def dissect_cover_l30 (r6 : (List Int)) (x1 : List (List Int)) (x281 : Int) : (List Int) × (List Int) × Int → Option (((List Int) × (List Int) × Int) ⊕ (((List Int) × (List Int)))) := fun (x311, x313, x314) =>
 if x314 < (r6.length : Int) then
  (getI r6 x314).bind fun x356 =>
  (getI x1 x281).bind fun x357 =>
  (slices_BinarySearch_int x357 x356).bind fun r359 =>
  if r359.2 = true then
   (app x311 [x314]).bind fun x376 =>
   (app x313 [4607182418800017408]).bind fun x379 =>
   dissect_cover_j32 x314 x376 x379
  else
   dissect_cover_j32 x314 x311 x313
 else
  some (.inr (x311, x313))
def dissect_cover_l21 (r8 : (List Int)) (r6 : (List Int)) (x1 : List (List Int)) : (List Int) × (List Int) × (List Int) × Int → Option (((List Int) × (List Int) × (List Int) × Int) ⊕ (((List Int) × (List Int) × (List Int)))) := fun (x116, x118, x120, x121) =>
 if x121 < (r8.length : Int) then
  (getI r8 x121).bind fun x281 =>
  (loop (dissect_cover_l30 r6 x1 x281) (x118, x120, 0)).bind fun (x349, x351) =>
  (app x116 [(x349.length : Int)]).bind fun x354 =>
  some (.inl (x354, x349, x351, wa .i64 x121 1))
 else
  some (.inr (x116, x118, x120))
def dissect_cover (x1 : List (List Int)) (x3 : List Int) : Option ((List Bool)) :=
 (dissect_border x1 x3 0).bind fun r6 =>
 (dissect_border x1 x3 1).bind fun r8 =>
 (loop (dissect_cover_l21 r8 r6 x1) ([0], [], [], 0)).bind fun (x233, x235, x237) =>
 (mkL false (x1.length : Int)).bind fun x240 =>
 (matching_Cover (r6.length : Int) (r8.length : Int) x233 x235 x237).bind fun r241 =>
 if r241.2.2 = 0 then
  (loop (dissect_cover_l22 r241 r6) (x240, 0)).bind fun x258 =>
  (loop (dissect_cover_l23 r241 r8) (x258, 0)).bind fun x271 =>
  some x271
 else
  some x240

def dissect_separate_j9 (x71 : Int) (x160 : List Int) (x162 : List Int) (x164 : List Int) : Option (((List Int) × (List Int) × (List Int) × Int) ⊕ (((List Int) × (List Int) × (List Int)))) :=
 some (.inl (x160, x162, x164, wa .i64 x71 1))
def dissect_separate_j10 (x71 : Int) (x70 : List Int) (x177 : List Int) (x179 : List Int) : Option (((List Int) × (List Int) × (List Int) × Int) ⊕ (((List Int) × (List Int) × (List Int)))) :=
 dissect_separate_j9 x71 x177 x179 x70
def dissect_separate_l7 (x1 : List (List Int)) (r11 : (List Bool)) (r9 : (List Int) × Bool) : (List Int) × (List Int) × (List Int) × Int → Option (((List Int) × (List Int) × (List Int) × Int) ⊕ (((List Int) × (List Int) × (List Int)))) := fun (x66, x68, x70, x71) =>
 if x71 < (x1.length : Int) then
  (getI r11 x71).bind fun x137 =>
  if x137 = true then
   (app x70 [x71]).bind fun x168 =>
   dissect_separate_j9 x71 x66 x68 x168
  else
   (getI r9.1 x71).bind fun x169 =>
   if x169 = 0 then
    (app x66 [x71]).bind fun x183 =>
    dissect_separate_j10 x71 x70 x183 x68
   else
    (app x68 [x71]).bind fun x186 =>
    dissect_separate_j10 x71 x70 x66 x186
 else
  some (.inr (x66, x68, x70))
def dissect_separate (x1 : List (List Int)) : Option ((List Int) × (List Int) × (List Int)) :=
 (dissect_units x1).bind fun r5 =>
 (dissect_bisect FUEL r5.1 r5.2.1 r5.2.2).bind fun r9 =>
 (dissect_cover x1 r9.1).bind fun r11 =>
 (loop (dissect_separate_l7 x1 r11 r9) ([], [], [], 0)).bind fun (x131, x133, x135) =>
 some (x131, x133, x135)

def dissect_Separate (x1 : List (List Int)) : Option ((List Int) × (List Int) × (List Int) × Int) :=
 (graph_Check x1).bind fun r5 =>
 if r5 = 0 then
  (dissect_separate x1).bind fun r7 =>
  some (r7.1, r7.2.1, r7.2.2, 0)
 else
  some ([], [], [], r5)

def sparsekit_Ints_l1 (x1 : List Int) (x3 : List Int) : Int → Option ((Int) ⊕ (Unit ⊕ Unit)) := fun x10 =>
 if x10 < (x1.length : Int) then
  (getI x1 x10).bind fun x17 =>
  (getI x3 x10).bind fun x18 =>
  if x17 = x18 then
   some (.inl (wa .i64 x10 1))
  else
   some (.inr (.inr ()))
 else
  some (.inr (.inl ()))
def sparsekit_Ints (x1 : List Int) (x3 : List Int) : Option (Bool) :=
 if (x1.length : Int) = (x3.length : Int) then
  (loop (sparsekit_Ints_l1 x1 x3) 0).bind (fun o => match o with
   | .inl () =>
    some true
   | .inr () =>
    some false)
 else
  some false

def sparsekit_Split (x1 : List Int) (x3 : List Int) (x5 : List Int) (x7 : List Int) (x9 : List Int) (x11 : List Int) : Option (Bool) :=
 (sparsekit_Ints x1 x7).bind fun r15 =>
 (if r15 = true then
  (sparsekit_Ints x3 x9).bind fun r20 =>
  some r20
 else
  some false).bind fun r17 =>
 (if r17 = true then
  (sparsekit_Ints x5 x11).bind fun r25 =>
  some r25
 else
  some false).bind fun r22 =>
 some r22

def dissect_parts_l20 (x108 : List Int) (x1 : Int) (x55 : Int) : (List Int) × Int × Int × Int → Option (((List Int) × Int × Int × Int) ⊕ (((List Int) × Int) ⊕ Unit)) := fun (x121, x122, x123, x124) =>
 if x124 < (x108.length : Int) then
  (getI x108 x124).bind fun x143 =>
  (if ((decide (x143 ≤ x123)) || (decide (x1 ≤ x143))) = true then
   some true
  else
   (getI x121 x143).bind fun x150 =>
   some (!(decide (x150 = (-1))))).bind fun r147 =>
  if r147 = true then
   some (.inr (.inr ()))
  else
   (setI x121 x143 x55).bind fun x152 =>
   some (.inl (x152, wa .i64 x122 1, x143, wa .i64 x124 1))
 else
  some (.inr (.inl (x121, x122)))
def dissect_parts_l15 (x2 : List (List Int)) (x1 : Int) : (List Int) × Int × Int → Option (((List Int) × Int × Int) ⊕ (((List Int) × Int) ⊕ Unit)) := fun (x53, x54, x55) =>
 if x55 < (x2.length : Int) then
  (getI x2 x55).bind fun x108 =>
  (loop (dissect_parts_l20 x108 x1 x55) (x53, x54, (-1), 0)).bind (fun o => match o with
   | .inl (x140, x141) =>
    some (.inl (x140, x141, wa .i64 x55 1))
   | .inr () =>
    some (.inr (.inr ())))
 else
  some (.inr (.inl (x53, x54)))
def dissect_parts (x1 : Int) (x2 : List (List Int)) : Option ((List Int) × Bool) :=
 (slices_Repeat_int [(-1)] x1).bind fun r5 =>
 (loop (dissect_parts_l15 x2 x1) (r5, 0, 0)).bind (fun o => match o with
  | .inl (x105, x106) =>
   some (x105, decide (x106 = x1))
  | .inr () =>
   some ([], false))

def dissect_Check_l12 (x84 : List Int) (r14 : (List Int) × Bool) (x49 : Int) : Int → Option ((Int) ⊕ (Unit ⊕ Unit)) := fun x95 =>
 if x95 < (x84.length : Int) then
  (getI x84 x95).bind fun x107 =>
  (getI r14.1 x49).bind fun x108 =>
  (if x108 = 0 then
   (getI r14.1 x107).bind fun x113 =>
   some (decide (x113 = 1))
  else
   some false).bind fun r110 =>
  if r110 = true then
   some (.inr (.inr ()))
  else
   some (.inl (wa .i64 x95 1))
 else
  some (.inr (.inl ()))
def dissect_Check_l9 (x1 : List (List Int)) (r14 : (List Int) × Bool) : Int → Option ((Int) ⊕ (Unit ⊕ Unit)) := fun x49 =>
 if x49 < (x1.length : Int) then
  (getI x1 x49).bind fun x84 =>
  (loop (dissect_Check_l12 x84 r14 x49) 0).bind (fun o => match o with
   | .inl () =>
    some (.inl (wa .i64 x49 1))
   | .inr () =>
    some (.inr (.inr ())))
 else
  some (.inr (.inl ()))
def dissect_Check (x1 : List (List Int)) (x3 : List Int) (x5 : List Int) (x7 : List Int) : Option (Int) :=
 (graph_Check x1).bind fun r11 =>
 if r11 = 0 then
  (dissect_parts (x1.length : Int) [x3, x5, x7]).bind fun r14 =>
  if r14.2 = true then
   (loop (dissect_Check_l9 x1 r14) 0).bind (fun o => match o with
    | .inl () =>
     some 0
    | .inr () =>
     some 180)
  else
   some 180
 else
  some r11

def sparselaw18_awake : Option (Bool) :=
 (dissect_Separate [[1], [0, 2], [1, 3], [2]]).bind fun r7 =>
 (if r7.2.2.2 = 0 then
  (sparsekit_Split r7.1 r7.2.1 r7.2.2.1 [0, 1] [3] [2]).bind fun r22 =>
  some r22
 else
  some false).bind fun r16 =>
 (if r16 = true then
  (dissect_Check [[1], [0, 2], [1, 3], [2]] r7.1 r7.2.1 r7.2.2.1).bind fun r27 =>
  some (decide (r27 = 0))
 else
  some false).bind fun r24 =>
 some r24
end M
