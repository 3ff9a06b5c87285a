/- Models of functions of the program, printed. -/
import Derived.Test.YtnfamnfdndaekaaGreatDoorM3
namespace M
open Sx
set_option linter.unusedVariables false
def integer_Format_j4 (a : List ByteArray) : Option (ByteArray) :=
  (slices_Reverse_string a).bind fun b =>
  (joinG b (⟨#[]⟩ : ByteArray)).bind fun c =>
  some c
def integer_Format_j5 (a : List ByteArray) (b : ByteArray) (c : LI × Int) : Option ((LI × (List ByteArray)) ⊕ (((List ByteArray)))) :=
  (app a [b]).bind fun d =>
  some (.inl (c.1, d))
def integer_Format_l3 : LI × (List ByteArray) → Option ((LI × (List ByteArray)) ⊕ (((List ByteArray)))) := fun (b, c) =>
  if (0 : Int) < (b.length : Int) then
    (integer_short b 1000000000).bind fun a =>
    (itoaG (wc .i64 a.2)).bind fun d =>
    if (0 : Int) < (a.1.length : Int) then
      none
    else
      integer_Format_j5 c d a
  else
    some (.inr c)
def integer_Format (b : Bool) (c : LI) : Option (ByteArray) :=
  (integer_trim c).bind fun d =>
  (slices_Clone_uint32 d).bind fun e =>
  (loop (integer_Format_l3) (e, [])).bind fun a =>
  if (a.length : Int) = 0 then
    some (⟨#[48]⟩ : ByteArray)
  else
    if b = true then
      (app a [(⟨#[45]⟩ : ByteArray)]).bind fun f =>
      integer_Format_j4 f
    else
      integer_Format_j4 a

def sparselaw07_awake : Option (Bool) :=
  (modular_Inverse 3 7).bind fun b =>
  (modular_Kernel [[1, 2]] 7).bind fun c =>
  (modular_Combine [1, 2] [2, 3]).bind fun a =>
  (if (((decide (b.2 = 0)) && (decide (b.1 = 5))) && (decide (c.2 = 0))) = true then
    (sparsekit_Ints c.1 [5, 1]).bind fun d =>
    some d
  else
    some false).bind fun e =>
  (if (e && (decide (a.2.2.2.2 = 0))) = true then
    (integer_Format a.1 a.2.1).bind fun f =>
    some (decide (f = (⟨#[45, 49]⟩ : ByteArray)))
  else
    some false).bind fun g =>
  (if g = true then
    (integer_Format a.2.2.1 a.2.2.2.1).bind fun h =>
    some (decide (h = (⟨#[54]⟩ : ByteArray)))
  else
    some false).bind fun i =>
  (if i = true then
    (modular_IsPrime 2).bind fun j =>
    some j
  else
    some false).bind fun k =>
  (if k = true then
    (modular_IsPrime 9).bind fun l =>
    some (!(l))
  else
    some false).bind fun m =>
  some m

def sparsekit_TwinInts_l1 (b : LI) : LI × Int → Option ((LI × Int) ⊕ (LI)) := fun (c, a) =>
  if a < (b.length : Int) then
    (getI b a).bind fun d =>
    (app c [d]).bind fun e =>
    some (.inl (e, wa .i64 a 1))
  else
    some (.inr c)
def sparsekit_TwinInts (a : LI) : Option (LI) :=
  (loop (sparsekit_TwinInts_l1 a) ([], 0)).bind fun b =>
  some b

def sparsekit_TwinLists_l1 (b : L2) : L2 × Int → Option ((L2 × Int) ⊕ (L2)) := fun (c, a) =>
  if a < (b.length : Int) then
    (getI b a).bind fun d =>
    (sparsekit_TwinInts d).bind fun e =>
    (app c [e]).bind fun f =>
    some (.inl (f, wa .i64 a 1))
  else
    some (.inr c)
def sparsekit_TwinLists (a : L2) : Option (L2) :=
  (loop (sparsekit_TwinLists_l1 a) ([], 0)).bind fun b =>
  some b

def modular_Rank (b : L2) (a : Int) : Option (Int × Int) :=
  (modular_check b a).bind fun c =>
  if c = 0 then
    (modular_reduced b a).bind fun d =>
    (modular_echelon d a).bind fun e =>
    some ((e.2.1.length : Int), 0)
  else
    some (0, c)

def modular_square (a : L2) (c : Int) : Option (Int) :=
  (modular_check a c).bind fun b =>
  (if b = 0 then
    (modular_columns a).bind fun d =>
    some (!(decide ((a.length : Int) = d)))
  else
    some false).bind fun e =>
  if e = true then
    some 5
  else
    some b

def modular_Det (a : L2) (b : Int) : Option (Int × Int) :=
  (modular_square a b).bind fun c =>
  if c = 0 then
    (modular_reduced a b).bind fun e =>
    (modular_echelon e b).bind fun d =>
    if (d.2.1.length : Int) < (a.length : Int) then
      some (0, 0)
    else
      some (d.2.2, 0)
  else
    some (0, c)

def modular_Solve_l4 (c : L2) (b : L2 × LI × Int) : LI × Int → Option ((LI × Int) ⊕ ((LI) ⊕ Unit)) := fun (d, a) =>
  if a < (c.length : Int) then
    (if (b.2.1.length : Int) ≤ a then
      some true
    else
      (getI b.2.1 a).bind fun e =>
      some (!(decide (e = a)))).bind fun f =>
    if f = true then
      some (.inr (.inr ()))
    else
      (getI b.1 a).bind fun g =>
      (getI g (c.length : Int)).bind fun h =>
      (app d [h]).bind fun i =>
      some (.inl (i, wa .i64 a 1))
  else
    some (.inr (.inl d))
def modular_Solve_l1 (c : LI) (d : Int) : L2 × Int → Option ((L2 × Int) ⊕ (L2)) := fun (b, a) =>
  if a < (c.length : Int) then
    (getI c a).bind fun e =>
    (getI b a).bind fun f =>
    (modular_mod e d).bind fun g =>
    (app f [g]).bind fun h =>
    (setI b a h).bind fun i =>
    some (.inl (i, wa .i64 a 1))
  else
    some (.inr b)
def modular_Solve (a : L2) (c : LI) (b : Int) : Option (LI × Int) :=
  (modular_square a b).bind fun d =>
  if d = 0 then
    if (c.length : Int) = (a.length : Int) then
      (modular_reduced a b).bind fun e =>
      (loop (modular_Solve_l1 c b) (e, 0)).bind fun f =>
      (modular_echelon f b).bind fun g =>
      (loop (modular_Solve_l4 a g) ([], 0)).bind (fun o => match o with
        | .inl h =>
          some (h, 0)
        | .inr () =>
          some ([], 9))
    else
      some ([], 2)
  else
    some ([], d)

def sparsekit_Lists_l1 (b : L2) (c : L2) : Int → Option ((Int) ⊕ (Unit ⊕ Unit)) := fun a =>
  if a < (b.length : Int) then
    (getI b a).bind fun d =>
    (getI c a).bind fun e =>
    (sparsekit_Ints d e).bind fun f =>
    if f = true then
      some (.inl (wa .i64 a 1))
    else
      some (.inr (.inr ()))
  else
    some (.inr (.inl ()))
def sparsekit_Lists (a : L2) (b : L2) : Option (Bool) :=
  if (a.length : Int) = (b.length : Int) then
    (loop (sparsekit_Lists_l1 a b) 0).bind (fun o => match o with
      | .inl () =>
        some true
      | .inr () =>
        some false)
  else
    some false

def sparseref07_IsPrime_l2 (b : Int) : Int → Option ((Int) ⊕ (Unit ⊕ Unit)) := fun a =>
  if (wm .i64 a a) ≤ b then
    (wr b a).bind fun c =>
    if c = 0 then
      some (.inr (.inr ()))
    else
      some (.inl (wa .i64 a 1))
  else
    some (.inr (.inl ()))
def sparseref07_IsPrime (a : Int) : Option (Bool) :=
  if ((decide (a < 2)) || (decide ((2147483647 : Int) < a))) = true then
    some false
  else
    (loop (sparseref07_IsPrime_l2 a) 2).bind (fun o => match o with
      | .inl () =>
        some true
      | .inr () =>
        some false)

def sparseref07_Shape_l1 (a : LI) : Int → Option ((Int) ⊕ (Unit ⊕ Unit)) := fun b =>
  if b < (a.length : Int) then
    (getI a b).bind fun c =>
    (getI a 0).bind fun d =>
    if c = d then
      some (.inl (wa .i64 b 1))
    else
      some (.inr (.inr ()))
  else
    some (.inr (.inl ()))
def sparseref07_Shape (a : LI) : Option (Int) :=
  (loop (sparseref07_Shape_l1 a) 0).bind (fun o => match o with
    | .inl () =>
      (if (200 : Int) < (a.length : Int) then
        some true
      else
        (if (0 : Int) < (a.length : Int) then
          (getI a 0).bind fun b =>
          some (decide ((200 : Int) < b))
        else
          some false).bind fun c =>
        some c).bind fun d =>
      if d = true then
        some 6
      else
        some 0
    | .inr () =>
      some 5)

def sparseref07_Check_l1 (b : L2) : LI × Int → Option ((LI × Int) ⊕ (LI)) := fun (c, a) =>
  if a < (b.length : Int) then
    (getI b a).bind fun d =>
    (app c [(d.length : Int)]).bind fun e =>
    some (.inl (e, wa .i64 a 1))
  else
    some (.inr c)
def sparseref07_Check (a : L2) (b : Int) : Option (Int) :=
  (sparseref07_IsPrime b).bind fun c =>
  if c = true then
    (loop (sparseref07_Check_l1 a) ([], 0)).bind fun d =>
    (sparseref07_Shape d).bind fun e =>
    some e
  else
    some 70

def sparseref07_Mod_j1 (a : Int) : Option (Int) :=
  some a
def sparseref07_Mod (c : Int) (b : Int) : Option (Int) :=
  (wr c b).bind fun a =>
  if a < 0 then
    sparseref07_Mod_j1 (wa .i64 a b)
  else
    sparseref07_Mod_j1 a

def sparseref07_cols (a : L2) : Option (Int) :=
  if (a.length : Int) = 0 then
    some 0
  else
    (getI a 0).bind fun b =>
    some (b.length : Int)
end M
