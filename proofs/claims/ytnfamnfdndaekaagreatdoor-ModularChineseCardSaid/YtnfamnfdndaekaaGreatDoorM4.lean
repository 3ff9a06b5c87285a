/- Models of functions of the program, printed. -/
import Derived.Test.YtnfamnfdndaekaaGreatDoorM3
namespace M
open Sx
set_option linter.unusedVariables false
def modular_subtract_l1 (c : LI) (e : Int) (d : Int) : LI × Int → Option ((LI × Int) ⊕ (LI)) := fun (b, a) =>
  if a < (c.length : Int) then
    (getI c a).bind fun f =>
    (getI b a).bind fun g =>
    (wr (wm .i64 e f) d).bind fun h =>
    (modular_mod (ws .i64 g h) d).bind fun i =>
    (setI b a i).bind fun j =>
    some (.inl (j, wa .i64 a 1))
  else
    some (.inr b)
def modular_subtract (a : LI) (b : LI) (c : Int) (d : Int) : Option (LI) :=
  (loop (modular_subtract_l1 b c d) (a, 0)).bind fun e =>
  some e

def modular_echelon_j161 (a : Int) (b : L2) (c : LI) (d : Int) : Option ((L2 × LI × Int × Int) ⊕ ((L2 × LI × Int))) :=
  some (.inl (b, c, d, wa .i64 a 1))
def modular_echelon_j170 (a : Int) (b : L2) : Option ((L2 × Int) ⊕ (L2)) :=
  some (.inl (b, wa .i64 a 1))
def modular_echelon_l168 (f : L2) (c : LI) (e : Int) (g : Int) : L2 × Int → Option ((L2 × Int) ⊕ (L2)) := fun (b, a) =>
  if a < (f.length : Int) then
    (getI b a).bind fun d =>
    (if a = (c.length : Int) then
      some false
    else
      (getI d e).bind fun h =>
      some (!(decide (h = 0)))).bind fun i =>
    if i = true then
      (getI b (c.length : Int)).bind fun j =>
      (getI d e).bind fun k =>
      (neI a (c.length : Int)).bind fun u2628 =>
      (modular_subtract d j k g).bind fun l =>
      (setI b a l).bind fun m =>
      modular_echelon_j170 a m
    else
      modular_echelon_j170 a b
  else
    some (.inr b)
def modular_echelon_l163 (d : LI) (c : LI) (e : Int) (f : Int) : L2 × Int → Option ((L2 × Int) ⊕ (L2)) := fun (a, b) =>
  if b < (d.length : Int) then
    (getI a (c.length : Int)).bind fun g =>
    (getI a (c.length : Int)).bind fun h =>
    (getI h b).bind fun i =>
    (wr (wm .i64 i e) f).bind fun j =>
    (setI g b j).bind fun k =>
    (setI a (c.length : Int) k).bind fun l =>
    some (.inl (l, wa .i64 b 1))
  else
    some (.inr a)
def modular_echelon_j162 (a : LI) (b : Int) (c : Int) (d : L2) (f : Int) : Option ((L2 × LI × Int × Int) ⊕ ((L2 × LI × Int))) :=
  (getI d (a.length : Int)).bind fun g =>
  (getI g b).bind fun h =>
  (wr (wm .i64 f h) c).bind fun i =>
  (getI d (a.length : Int)).bind fun j =>
  (getI j b).bind fun k =>
  (modular_inverse k c).bind fun l =>
  (getI d (a.length : Int)).bind fun m =>
  (loop (modular_echelon_l163 m a l c) (d, 0)).bind fun e =>
  (loop (modular_echelon_l168 e a b c) (e, 0)).bind fun n =>
  (app a [b]).bind fun o =>
  modular_echelon_j161 b n o i
def modular_echelon_l142 (g : Int) (f : Int) : L2 × LI × Int × Int → Option ((L2 × LI × Int × Int) ⊕ ((L2 × LI × Int))) := fun (b, a, c, d) =>
  if d < g then
    if (a.length : Int) = (b.length : Int) then
      some (.inr (b, a, c))
    else
      (sli b (a.length : Int) (b.length : Int)).bind fun h =>
      (slices_IndexFunc_int_v3 h d).bind fun e =>
      if (wa .i64 (a.length : Int) e) < (a.length : Int) then
        modular_echelon_j161 d b a c
      else
        if (a.length : Int) < (wa .i64 (a.length : Int) e) then
          (getI b (wa .i64 (a.length : Int) e)).bind fun i =>
          (getI b (a.length : Int)).bind fun j =>
          (setI b (a.length : Int) i).bind fun k =>
          (setI k (wa .i64 (a.length : Int) e) j).bind fun l =>
          (modular_mod (wneg .i64 c) f).bind fun m =>
          modular_echelon_j162 a d f l m
        else
          modular_echelon_j162 a d f b c
  else
    some (.inr (b, a, c))
def modular_echelon (a : L2) (b : Int) : Option (L2 × LI × Int) :=
  (modular_columns a).bind fun c =>
  (loop (modular_echelon_l142 c b) (a, [], 1, 0)).bind fun (d, e, f) =>
  some (d, e, f)

def modular_Kernel_l4 (b : L2 × LI × Int) (d : Int) (e : Int) : LI × Int → Option ((LI × Int) ⊕ (LI)) := fun (c, a) =>
  if a < (b.2.1.length : Int) then
    (getI b.2.1 a).bind fun f =>
    (getI b.1 a).bind fun g =>
    (getI g d).bind fun h =>
    (modular_mod (wneg .i64 h) e).bind fun i =>
    (setI c f i).bind fun j =>
    some (.inl (j, wa .i64 a 1))
  else
    some (.inr c)
def modular_Kernel_l3 (b : L2 × LI × Int) : Int → Option ((Int) ⊕ (Int)) := fun a =>
  (if a < (b.2.1.length : Int) then
    (getI b.2.1 a).bind fun c =>
    some (decide (c = a))
  else
    some false).bind fun d =>
  if d = true then
    some (.inl (wa .i64 a 1))
  else
    some (.inr a)
def modular_Kernel (b : L2) (a : Int) : Option (LI × Int) :=
  (modular_check b a).bind fun d =>
  if d = 0 then
    (modular_reduced b a).bind fun g =>
    (modular_echelon g a).bind fun e =>
    (modular_columns b).bind fun f =>
    (loop (modular_Kernel_l3 e) 0).bind fun c =>
    if c = f then
      some ([], 0)
    else
      (mkL 0 f).bind fun h =>
      (setI h c 1).bind fun i =>
      (loop (modular_Kernel_l4 e c a) (i, 0)).bind fun j =>
      some (j, 0)
  else
    some ([], d)

def sparsekit_Ints_l1 (b : LI) (c : LI) : Int → Option ((Int) ⊕ (Unit ⊕ Unit)) := fun a =>
  if a < (b.length : Int) then
    (getI b a).bind fun d =>
    (getI c a).bind fun e =>
    if d = e then
      some (.inl (wa .i64 a 1))
    else
      some (.inr (.inr ()))
  else
    some (.inr (.inl ()))
def sparsekit_Ints (a : LI) (b : LI) : Option (Bool) :=
  if (a.length : Int) = (b.length : Int) then
    (loop (sparsekit_Ints_l1 a b) 0).bind (fun o => match o with
      | .inl () =>
        some true
      | .inr () =>
        some false)
  else
    some false

def slices_Reverse_string_l1 : (List ByteArray) × Int × Int → Option (((List ByteArray) × Int × Int) ⊕ (((List ByteArray)))) := fun (a, b, c) =>
  if b < c then
    (getI a c).bind fun d =>
    (getI a b).bind fun e =>
    (setI a b d).bind fun f =>
    (setI f c e).bind fun g =>
    some (.inl (g, wa .i64 b 1, ws .i64 c 1))
  else
    some (.inr a)
def slices_Reverse_string (a : List ByteArray) : Option ((List ByteArray)) :=
  (loop (slices_Reverse_string_l1) (a, 0, ws .i64 (a.length : Int) 1)).bind fun b =>
  some b

def integer_Format_j4 (a : List ByteArray) : Option (ByteArray) :=
  (slices_Reverse_string a).bind fun b =>
  (joinG b (⟨#[]⟩ : ByteArray)).bind fun c =>
  some c
def integer_Format_j5 (a : List ByteArray) (b : ByteArray) (c : LI × Int) : Option ((LI × (List ByteArray)) ⊕ (((List ByteArray)))) :=
  (app a [b]).bind fun d =>
  some (.inl (c.1, d))
def integer_Format_l3 : LI × (List ByteArray) → Option ((LI × (List ByteArray)) ⊕ (((List ByteArray)))) := fun (b, c) =>
  if (0 : Int) < (b.length : Int) then
    (integer_short b 1000000000).bind fun a =>
    (itoaG (wc .i64 a.2)).bind fun d =>
    if (0 : Int) < (a.1.length : Int) then
      none
    else
      integer_Format_j5 c d a
  else
    some (.inr c)
def integer_Format (b : Bool) (c : LI) : Option (ByteArray) :=
  (integer_trim c).bind fun d =>
  (slices_Clone_uint32 d).bind fun e =>
  (loop (integer_Format_l3) (e, [])).bind fun a =>
  if (a.length : Int) = 0 then
    some (⟨#[48]⟩ : ByteArray)
  else
    if b = true then
      (app a [(⟨#[45]⟩ : ByteArray)]).bind fun f =>
      integer_Format_j4 f
    else
      integer_Format_j4 a

def sparselaw07_awake : Option (Bool) :=
  (modular_Inverse 3 7).bind fun b =>
  (modular_Kernel [[1, 2]] 7).bind fun c =>
  (modular_Combine [1, 2] [2, 3]).bind fun a =>
  (if (((decide (b.2 = 0)) && (decide (b.1 = 5))) && (decide (c.2 = 0))) = true then
    (sparsekit_Ints c.1 [5, 1]).bind fun d =>
    some d
  else
    some false).bind fun e =>
  (if (e && (decide (a.2.2.2.2 = 0))) = true then
    (integer_Format a.1 a.2.1).bind fun f =>
    some (decide (f = (⟨#[45, 49]⟩ : ByteArray)))
  else
    some false).bind fun g =>
  (if g = true then
    (integer_Format a.2.2.1 a.2.2.2.1).bind fun h =>
    some (decide (h = (⟨#[54]⟩ : ByteArray)))
  else
    some false).bind fun i =>
  (if i = true then
    (modular_IsPrime 2).bind fun j =>
    some j
  else
    some false).bind fun k =>
  (if k = true then
    (modular_IsPrime 9).bind fun l =>
    some (!(l))
  else
    some false).bind fun m =>
  some m

def sparselaw07_ModularChinese_j8 (a : LI) (b : Int) (c : Int) : Option ((LI × Int) ⊕ ((LI) ⊕ Unit)) :=
  (app a [c]).bind fun d =>
  some (.inl (d, wa .i64 b 1))
def sparselaw07_ModularChinese_l3 (e : Bool) (f : LI) (d : LI) : LI × Int → Option ((LI × Int) ⊕ ((LI) ⊕ Unit)) := fun (b, a) =>
  if a < 5 then
    (getI [3, 101, 65537, 1000003, 2147483647] a).bind fun g =>
    (modular_Reduce e f g).bind fun c =>
    if c.2 = 0 then
      if a < (d.length : Int) then
        (getI [3, 101, 65537, 1000003, 2147483647] a).bind fun h =>
        (getI d a).bind fun i =>
        (sparsekit_Place i 3).bind fun j =>
        sparselaw07_ModularChinese_j8 b a (ws .i64 c.1 (wm .i64 h j))
      else
        sparselaw07_ModularChinese_j8 b a c.1
    else
      some (.inr (.inr ()))
  else
    some (.inr (.inl b))
def sparselaw07_ModularChinese (b : Bool) (c : LI) (j : LI) : Option (Bool) :=
  (sparsekit_Slim b c 2).bind fun k =>
  if k = true then
    (loop (sparselaw07_ModularChinese_l3 b c j) ([], 0)).bind (fun o => match o with
      | .inl l =>
        (modular_Combine l [3, 101, 65537, 1000003, 2147483647]).bind fun a =>
        (if a.2.2.2.2 = 0 then
          (integer_Norm b c).bind fun d =>
          (sparsekit_Big a.1 a.2.1 d.1 d.2).bind fun m =>
          some (!(m))
        else
          some true).bind fun n =>
        if n = true then
          some false
        else
          (integer_FromInt 19857711).bind fun e =>
          (integer_FromInt 1000003).bind fun f =>
          (integer_Mul e.1 e.2 f.1 f.2).bind fun g =>
          (integer_FromInt 2147483647).bind fun h =>
          (integer_Mul g.1 g.2 h.1 h.2).bind fun i =>
          (sparsekit_Big a.2.2.1 a.2.2.2.1 i.1 i.2).bind fun p =>
          (if p = true then
            (sparselaw07_awake).bind fun q =>
            some q
          else
            some false).bind fun r =>
          some r
      | .inr () =>
        some false)
  else
    (sparselaw07_awake).bind fun s =>
    some s
end M
