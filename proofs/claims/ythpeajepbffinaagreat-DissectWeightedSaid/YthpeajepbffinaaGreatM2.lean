/- Models of functions of the program, printed. -/
import Derived.Test.YthpeajepbffinaaGreatM1
namespace M
open Sx
set_option linter.unusedVariables false
def dissect_refine_j76 (x654 : Int) (x803 : List Int) (x804 : List Int) (x805 : Bool) : Option (((List Int) × (List Int) × Bool × Int) ⊕ (((List Int) × (List Int) × Bool))) :=
 some (.inl (x803, x804, x805, wa .i64 x654 1))
def dissect_refine_j77 (x769 : Int) (x823 : Int) : Option ((Int × Int) ⊕ (Int)) :=
 some (.inl (x823, wa .i64 x769 1))
def dissect_refine_l72 (x749 : List Int) (x651 : List Int) (x748 : Int) (x5 : List (List Int)) (x654 : Int) : Int × Int → Option ((Int × Int) ⊕ (Int)) := fun (x768, x769) =>
 if x769 < (x749.length : Int) then
  (getI x749 x769).bind fun x815 =>
  (getI x651 x815).bind fun x816 =>
  if x816 = x748 then
   (getI x5 x654).bind fun x825 =>
   (getI x825 x769).bind fun x827 =>
   dissect_refine_j77 x769 (ws .i64 x768 x827)
  else
   (getI x5 x654).bind fun x828 =>
   (getI x828 x769).bind fun x830 =>
   dissect_refine_j77 x769 (wa .i64 x768 x830)
 else
  some (.inr x768)
def dissect_refine_l69 (x293 : List Int) (x1 : List (List Int)) (x5 : List (List Int)) (x3 : List Int) (x26 : Int) (x27 : Int) : (List Int) × (List Int) × Bool × Int → Option (((List Int) × (List Int) × Bool × Int) ⊕ (((List Int) × (List Int) × Bool))) := fun (x651, x652, x653, x654) =>
 if x654 < (x293.length : Int) then
  (getI x651 x654).bind fun x748 =>
  (getI x1 x654).bind fun x749 =>
  (loop (dissect_refine_l72 x749 x651 x748 x5 x654) (0, 0)).bind fun x789 =>
  (if (0 : Int) < x789 then
   (getI x652 (ws .i64 1 x748)).bind fun x794 =>
   (getI x3 x654).bind fun x795 =>
   some (decide ((wm .i64 3 (wa .i64 x794 x795)) ≤ (wm .i64 2 (wa .i64 x26 x27))))
  else
   some false).bind fun r790 =>
  if r790 = true then
   (setI x651 x654 (ws .i64 1 x748)).bind fun x807 =>
   (getI x652 x748).bind fun x808 =>
   (getI x3 x654).bind fun x809 =>
   (setI x652 x748 (ws .i64 x808 x809)).bind fun x810 =>
   (getI x810 (ws .i64 1 x748)).bind fun x811 =>
   (getI x3 x654).bind fun x812 =>
   (setI x810 (ws .i64 1 x748) (wa .i64 x811 x812)).bind fun x813 =>
   dissect_refine_j76 x654 x807 x813 true
  else
   dissect_refine_j76 x654 x651 x652 x653
 else
  some (.inr (x651, x652, x653))
def dissect_refine_l52 (x1 : List (List Int)) (x5 : List (List Int)) (x3 : List Int) (x26 : Int) (x27 : Int) : (List Int) × (List Int) × Int → Option (((List Int) × (List Int) × Int) ⊕ (((List Int)) ⊕ ((List Int)))) := fun (x293, x294, x295) =>
 if x295 < 4 then
  (loop (dissect_refine_l69 x293 x1 x5 x3 x26 x27) (x293, x294, false, 0)).bind fun (x743, x744, x745) =>
  if x745 = true then
   some (.inl (x743, x744, wa .i64 x295 1))
  else
   some (.inr (.inr x743))
 else
  some (.inr (.inl x293))
def dissect_refine_l1 (x7 : List Int) (x3 : List Int) : (List Int) × Int → Option (((List Int) × Int) ⊕ (((List Int)))) := fun (x16, x17) =>
 if x17 < (x7.length : Int) then
  (getI x7 x17).bind fun x832 =>
  (getI x16 x832).bind fun x833 =>
  (getI x3 x17).bind fun x834 =>
  (setI x16 x832 (wa .i64 x833 x834)).bind fun x835 =>
  some (.inl (x835, wa .i64 x17 1))
 else
  some (.inr x16)
def dissect_refine (x1 : List (List Int)) (x3 : List Int) (x5 : List (List Int)) (x7 : List Int) : Option ((List Int)) :=
 (loop (dissect_refine_l1 x7 x3) ([0, 0], 0)).bind fun x25 =>
 (getI x25 0).bind fun x26 =>
 (getI x25 1).bind fun x27 =>
 (loop (dissect_refine_l52 x1 x5 x3 x26 x27) (x7, x25, 0)).bind (fun o => match o with
  | .inl x564 =>
   some x564
  | .inr x565 =>
   some x565)

def dissect_bisect_j5 (x1 : List (List Int)) (x3 : List Int) (x5 : List (List Int)) (x71 : List Int) : Option ((List Int) × Bool) :=
 (dissect_refine x1 x3 x5 x71).bind fun r72 =>
 some (r72, true)
def dissect_bisect_j8 (x1 : List (List Int)) (x3 : List Int) (x5 : List (List Int)) (x113 : List Int) : Option ((List Int) × Bool) :=
 dissect_bisect_j5 x1 x3 x5 x113
def dissect_bisect_l9 (r76 : (List (List Int)) × (List Int) × (List (List Int)) × (List Int) × Bool) (r115 : (List Int) × Bool) : (List Int) × Int → Option (((List Int) × Int) ⊕ (((List Int)))) := fun (x122, x123) =>
 if x123 < (r76.2.2.2.1.length : Int) then
  (getI r76.2.2.2.1 x123).bind fun x132 =>
  (getI r115.1 x132).bind fun x133 =>
  (setI x122 x123 x133).bind fun x134 =>
  some (.inl (x134, wa .i64 x123 1))
 else
  some (.inr x122)
def dissect_bisect_body (rec : (List (List Int)) → (List Int) → (List (List Int)) → Option ((List Int) × Bool)) (x1 : List (List Int)) (x3 : List Int) (x5 : List (List Int)) : Option ((List Int) × Bool) :=
 (dissect_grown x1 x3 x5).bind fun r8 =>
 if (8 : Int) < (x3.length : Int) then
  (dissect_match x1 x3 x5).bind fun r74 =>
  (dissect_coarsen x1 x3 x5 r74).bind fun r76 =>
  if r76.2.2.2.2 = true then
   if (r76.2.1.length : Int) < (x3.length : Int) then
    (rec r76.1 r76.2.1 r76.2.2.1).bind fun r115 =>
    if r115.2 = true then
     (loop (dissect_bisect_l9 r76 r115) (r8, 0)).bind fun x130 =>
     dissect_bisect_j8 x1 x3 x5 x130
    else
     some ([], false)
   else
    dissect_bisect_j8 x1 x3 x5 r8
  else
   some ([], false)
 else
  dissect_bisect_j5 x1 x3 x5 r8
def dissect_bisect : Nat → (List (List Int)) → (List Int) → (List (List Int)) → Option ((List Int) × Bool)
 | 0 => fun _ _ _ => none
 | n + 1 => dissect_bisect_body (dissect_bisect n)

def dissect_border_1 (x1 : Int) (x3 : List Int) (x6 : Int) : Option (Bool) :=
 (getI x3 x1).bind fun x7 =>
 some (!(decide (x7 = x6)))

def slices_IndexFunc_int_v2_l1 (x1 : List Int) (x4 : List Int) (x7 : Int) : Int → Option ((Int) ⊕ (Unit ⊕ Int)) := fun x12 =>
 if x12 < (x1.length : Int) then
  (getI x1 x12).bind fun x20 =>
  (dissect_border_1 x20 x4 x7).bind fun r21 =>
  if r21 = true then
   some (.inr (.inr x12))
  else
   some (.inl (wa .i64 x12 1))
 else
  some (.inr (.inl ()))
def slices_IndexFunc_int_v2 (x1 : List Int) (x4 : List Int) (x7 : Int) : Option (Int) :=
 (loop (slices_IndexFunc_int_v2_l1 x1 x4 x7) 0).bind (fun o => match o with
  | .inl () =>
   some (-1)
  | .inr x18 =>
   some x18)

def slices_ContainsFunc_int_v2 (x1 : List Int) (x4 : List Int) (x7 : Int) : Option (Bool) :=
 (slices_IndexFunc_int_v2 x1 x4 x7).bind fun r8 =>
 some (decide ((0 : Int) ≤ r8))

def dissect_border_j13 (x29 : Int) (x66 : List Int) : Option (((List Int) × Int) ⊕ (((List Int)))) :=
 some (.inl (x66, wa .i64 x29 1))
def dissect_border_l9 (x1 : List (List Int)) (x3 : List Int) (x5 : Int) : (List Int) × Int → Option (((List Int) × Int) ⊕ (((List Int)))) := fun (x28, x29) =>
 if x29 < (x1.length : Int) then
  (getI x1 x29).bind fun x54 =>
  (getI x3 x29).bind fun x56 =>
  (if x56 = x5 then
   (slices_ContainsFunc_int_v2 x54 x3 x5).bind fun r61 =>
   some r61
  else
   some false).bind fun r57 =>
  if r57 = true then
   (app x28 [x29]).bind fun x70 =>
   dissect_border_j13 x29 x70
  else
   dissect_border_j13 x29 x28
 else
  some (.inr x28)
def dissect_border (x1 : List (List Int)) (x3 : List Int) (x5 : Int) : Option ((List Int)) :=
 (loop (dissect_border_l9 x1 x3 x5) ([], 0)).bind fun x52 =>
 some x52

def matrix_within (x1 : Int) (x2 : Int) (x3 : Int) : Option (Bool) :=
 some ((decide (x2 ≤ x1)) && (decide (x1 ≤ x3)))

def slices_IsSorted_int_l1 (x1 : List Int) : Int → Option ((Int) ⊕ (Unit ⊕ Unit)) := fun x8 =>
 if (0 : Int) < x8 then
  (getI x1 x8).bind fun x16 =>
  (getI x1 (ws .i64 x8 1)).bind fun x17 =>
  (cmp_Less_int x16 x17).bind fun r18 =>
  if r18 = true then
   some (.inr (.inr ()))
  else
   some (.inl (ws .i64 x8 1))
 else
  some (.inr (.inl ()))
def slices_IsSorted_int (x1 : List Int) : Option (Bool) :=
 (loop (slices_IsSorted_int_l1 x1) (ws .i64 (x1.length : Int) 1)).bind (fun o => match o with
  | .inl () =>
   some true
  | .inr () =>
   some false)

def matrix_columns_l27 (x84 : List Int) (x1 : Int) : Int × Int → Option ((Int × Int) ⊕ (Unit ⊕ Unit)) := fun (x90, x91) =>
 if x91 < (x84.length : Int) then
  (getI x84 x91).bind fun x100 =>
  if ((decide (x100 ≤ x90)) || (decide (x1 ≤ x100))) = true then
   some (.inr (.inr ()))
  else
   some (.inl (x100, wa .i64 x91 1))
 else
  some (.inr (.inl ()))
def matrix_columns_l24 (x2 : Int) (x3 : List Int) (x5 : List Int) (x1 : Int) : Int → Option ((Int) ⊕ (Unit ⊕ Unit)) := fun x56 =>
 if x56 < x2 then
  (getI x3 x56).bind fun x82 =>
  (getI x3 (wa .i64 x56 1)).bind fun x83 =>
  (sli x5 x82 x83).bind fun x84 =>
  (loop (matrix_columns_l27 x84 x1) ((-1), 0)).bind (fun o => match o with
   | .inl () =>
    some (.inl (wa .i64 x56 1))
   | .inr () =>
    some (.inr (.inr ())))
 else
  some (.inr (.inl ()))
def matrix_columns (x1 : Int) (x2 : Int) (x3 : List Int) (x5 : List Int) (x7 : List Int) : Option (Bool) :=
 (if (x3.length : Int) = (wa .i64 x2 1) then
  (getI x3 0).bind fun x20 =>
  some (!(decide (x20 = 0)))
 else
  some true).bind fun r10 =>
 (if r10 = true then
  some true
 else
  (slices_IsSorted_int x3).bind fun r24 =>
  some (!(r24))).bind fun r11 =>
 (if r11 = true then
  some true
 else
  (getI x3 x2).bind fun x27 =>
  some (!(decide (x27 = (x5.length : Int))))).bind fun r12 =>
 (if r12 = true then
  some true
 else
  some (!(decide ((x5.length : Int) = (x7.length : Int))))).bind fun r13 =>
 if r13 = true then
  some false
 else
  (loop (matrix_columns_l24 x2 x3 x5 x1) 0).bind (fun o => match o with
   | .inl () =>
    some true
   | .inr () =>
    some false)

def float_parts (x1 : Int) : Option (Int × Int) :=
 some (wc .i64 (wand .u64 (wsrc .u64 x1 52) 2047), wand .u64 x1 4503599627370495)

def float_IsFinite (x1 : Int) : Option (Bool) :=
 (float_parts x1).bind fun r2 =>
 some (!(decide (r2.1 = 2047)))

def matrix_Check_1 (x1 : Int) : Option (Bool) :=
 (float_IsFinite x1).bind fun r2 =>
 some (!(r2))

def slices_IndexFunc_apiFloat_l1 (x1 : List Int) : Int → Option ((Int) ⊕ (Unit ⊕ Int)) := fun x7 =>
 if x7 < (x1.length : Int) then
  (getI x1 x7).bind fun x15 =>
  (matrix_Check_1 x15).bind fun r16 =>
  if r16 = true then
   some (.inr (.inr x7))
  else
   some (.inl (wa .i64 x7 1))
 else
  some (.inr (.inl ()))
def slices_IndexFunc_apiFloat (x1 : List Int) : Option (Int) :=
 (loop (slices_IndexFunc_apiFloat_l1 x1) 0).bind (fun o => match o with
  | .inl () =>
   some (-1)
  | .inr x13 =>
   some x13)

def slices_ContainsFunc_apiFloat (x1 : List Int) : Option (Bool) :=
 (slices_IndexFunc_apiFloat x1).bind fun r3 =>
 some (decide ((0 : Int) ≤ r3))
end M
