/- Models of functions of the program, printed. -/
import Derived.Test.YtnfamnfdndaekaaGreatDoorM0
namespace M
open Sx
set_option linter.unusedVariables false
def modular_subtract_l1 (c : LI) (e : Int) (d : Int) : LI × Int → Option ((LI × Int) ⊕ (LI)) := fun (b, a) =>
  if a < (c.length : Int) then
    (getI c a).bind fun f =>
    (getI b a).bind fun g =>
    (wr (wm .i64 e f) d).bind fun h =>
    (modular_mod (ws .i64 g h) d).bind fun i =>
    (setI b a i).bind fun j =>
    some (.inl (j, wa .i64 a 1))
  else
    some (.inr b)
def modular_subtract (a : LI) (b : LI) (c : Int) (d : Int) : Option (LI) :=
  (loop (modular_subtract_l1 b c d) (a, 0)).bind fun e =>
  some e

def modular_echelon_j161 (a : Int) (b : L2) (c : LI) (d : Int) : Option ((L2 × LI × Int × Int) ⊕ ((L2 × LI × Int))) :=
  some (.inl (b, c, d, wa .i64 a 1))
def modular_echelon_j170 (a : Int) (b : L2) : Option ((L2 × Int) ⊕ (L2)) :=
  some (.inl (b, wa .i64 a 1))
def modular_echelon_l168 (f : L2) (c : LI) (e : Int) (g : Int) : L2 × Int → Option ((L2 × Int) ⊕ (L2)) := fun (b, a) =>
  if a < (f.length : Int) then
    (getI b a).bind fun d =>
    (if a = (c.length : Int) then
      some false
    else
      (getI d e).bind fun h =>
      some (!(decide (h = 0)))).bind fun i =>
    if i = true then
      (getI b (c.length : Int)).bind fun j =>
      (getI d e).bind fun k =>
      (neI a (c.length : Int)).bind fun u2628 =>
      (modular_subtract d j k g).bind fun l =>
      (setI b a l).bind fun m =>
      modular_echelon_j170 a m
    else
      modular_echelon_j170 a b
  else
    some (.inr b)
def modular_echelon_l163 (d : LI) (c : LI) (e : Int) (f : Int) : L2 × Int → Option ((L2 × Int) ⊕ (L2)) := fun (a, b) =>
  if b < (d.length : Int) then
    (getI a (c.length : Int)).bind fun g =>
    (getI a (c.length : Int)).bind fun h =>
    (getI h b).bind fun i =>
    (wr (wm .i64 i e) f).bind fun j =>
    (setI g b j).bind fun k =>
    (setI a (c.length : Int) k).bind fun l =>
    some (.inl (l, wa .i64 b 1))
  else
    some (.inr a)
def modular_echelon_j162 (a : LI) (b : Int) (c : Int) (d : L2) (f : Int) : Option ((L2 × LI × Int × Int) ⊕ ((L2 × LI × Int))) :=
  (getI d (a.length : Int)).bind fun g =>
  (getI g b).bind fun h =>
  (wr (wm .i64 f h) c).bind fun i =>
  (getI d (a.length : Int)).bind fun j =>
  (getI j b).bind fun k =>
  (modular_inverse k c).bind fun l =>
  (getI d (a.length : Int)).bind fun m =>
  (loop (modular_echelon_l163 m a l c) (d, 0)).bind fun e =>
  (loop (modular_echelon_l168 e a b c) (e, 0)).bind fun n =>
  (app a [b]).bind fun o =>
  modular_echelon_j161 b n o i
def modular_echelon_l142 (g : Int) (f : Int) : L2 × LI × Int × Int → Option ((L2 × LI × Int × Int) ⊕ ((L2 × LI × Int))) := fun (b, a, c, d) =>
  if d < g then
    if (a.length : Int) = (b.length : Int) then
      some (.inr (b, a, c))
    else
      (sli b (a.length : Int) (b.length : Int)).bind fun h =>
      (slices_IndexFunc_int_v2 h d).bind fun e =>
      if (wa .i64 (a.length : Int) e) < (a.length : Int) then
        modular_echelon_j161 d b a c
      else
        if (a.length : Int) < (wa .i64 (a.length : Int) e) then
          (getI b (wa .i64 (a.length : Int) e)).bind fun i =>
          (getI b (a.length : Int)).bind fun j =>
          (setI b (a.length : Int) i).bind fun k =>
          (setI k (wa .i64 (a.length : Int) e) j).bind fun l =>
          (modular_mod (wneg .i64 c) f).bind fun m =>
          modular_echelon_j162 a d f l m
        else
          modular_echelon_j162 a d f b c
  else
    some (.inr (b, a, c))
def modular_echelon (a : L2) (b : Int) : Option (L2 × LI × Int) :=
  (modular_columns a).bind fun c =>
  (loop (modular_echelon_l142 c b) (a, [], 1, 0)).bind fun (d, e, f) =>
  some (d, e, f)

def modular_Kernel_l4 (b : L2 × LI × Int) (d : Int) (e : Int) : LI × Int → Option ((LI × Int) ⊕ (LI)) := fun (c, a) =>
  if a < (b.2.1.length : Int) then
    (getI b.2.1 a).bind fun f =>
    (getI b.1 a).bind fun g =>
    (getI g d).bind fun h =>
    (modular_mod (wneg .i64 h) e).bind fun i =>
    (setI c f i).bind fun j =>
    some (.inl (j, wa .i64 a 1))
  else
    some (.inr c)
def modular_Kernel_l3 (b : L2 × LI × Int) : Int → Option ((Int) ⊕ (Int)) := fun a =>
  (if a < (b.2.1.length : Int) then
    (getI b.2.1 a).bind fun c =>
    some (decide (c = a))
  else
    some false).bind fun d =>
  if d = true then
    some (.inl (wa .i64 a 1))
  else
    some (.inr a)
def modular_Kernel (b : L2) (a : Int) : Option (LI × Int) :=
  (modular_check b a).bind fun d =>
  if d = 0 then
    (modular_reduced b a).bind fun g =>
    (modular_echelon g a).bind fun e =>
    (modular_columns b).bind fun f =>
    (loop (modular_Kernel_l3 e) 0).bind fun c =>
    if c = f then
      some ([], 0)
    else
      (mkL 0 f).bind fun h =>
      (setI h c 1).bind fun i =>
      (loop (modular_Kernel_l4 e c a) (i, 0)).bind fun j =>
      some (j, 0)
  else
    some ([], d)

def modular_Combine_1 (a : Int) : Option (Bool) :=
  (modular_IsPrime a).bind fun b =>
  some (!(b))

def slices_IndexFunc_int_v3_l1 (b : LI) : Int → Option ((Int) ⊕ (Unit ⊕ Int)) := fun a =>
  if a < (b.length : Int) then
    (getI b a).bind fun c =>
    (modular_Combine_1 c).bind fun d =>
    if d = true then
      some (.inr (.inr a))
    else
      some (.inl (wa .i64 a 1))
  else
    some (.inr (.inl ()))
def slices_IndexFunc_int_v3 (a : LI) : Option (Int) :=
  (loop (slices_IndexFunc_int_v3_l1 a) 0).bind (fun o => match o with
    | .inl () =>
      some (-1)
    | .inr b =>
      some b)

def slices_ContainsFunc_int_v2 (a : LI) : Option (Bool) :=
  (slices_IndexFunc_int_v3 a).bind fun b =>
  some (decide ((0 : Int) ≤ b))

def slices_Values_int (a : LI) : Option (Unit) :=
  some ()

def slices_Collect_int (a : LI) : Option (LI) :=
  (colV a).bind fun b =>
  some b

def slices_Sorted_int (a : LI) : Option (LI) :=
  (slices_Collect_int a).bind fun b =>
  (sortI b).bind fun c =>
  some c

def integer_trim_l3 (b : LI) : Int → Option ((Int) ⊕ (Int)) := fun a =>
  (if (0 : Int) < a then
    (getI b (ws .i64 a 1)).bind fun c =>
    some (decide (c = 0))
  else
    some false).bind fun d =>
  if d = true then
    some (.inl (ws .i64 a 1))
  else
    some (.inr a)
def integer_trim (a : LI) : Option (LI) :=
  (loop (integer_trim_l3 a) (a.length : Int)).bind fun b =>
  (sli a 0 b).bind fun c =>
  some c

def integer_big (b : Bool) (c : LI) : Option (Bool × LI) :=
  (integer_trim c).bind fun a =>
  if (a.length : Int) = 0 then
    some (false, [])
  else
    some (b, a)

def integer_FromInt_j1 (c : Int) (a : Int) : Option (Bool × LI) :=
  (integer_big (decide (c < 0)) [wc .u32 (wand .u64 a 4294967295), wc .u32 (wsrc .u64 a 32)]).bind fun b =>
  some (b.1, b.2)
def integer_FromInt (a : Int) : Option (Bool × LI) :=
  if a < 0 then
    integer_FromInt_j1 a (wneg .u64 (wc .u64 a))
  else
    integer_FromInt_j1 a (wc .u64 a)

def cmp_isNaN_uint32 (a : Int) : Option (Bool) :=
  some (!(decide (a = a)))

def cmp_Compare_uint32 (a : Int) (b : Int) : Option (Int) :=
  (cmp_isNaN_uint32 a).bind fun d =>
  (cmp_isNaN_uint32 b).bind fun c =>
  if d = true then
    if c = true then
      some 0
    else
      some (-1)
  else
    if c = true then
      some 1
    else
      if a < b then
        some (-1)
      else
        if b < a then
          some 1
        else
          some 0
end M
