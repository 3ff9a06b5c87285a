/- Models of functions of the program, printed. -/
import Derived.Test.YtpfmbaidflhamaaGreatDoorTm
namespace M
open Sx
set_option linter.unusedVariables false
def sparsekit_Slim (c : Bool) (a : LI) (b : Int) : Option (Bool) :=
  some (decide ((a.length : Int) ≤ b))

def sparselaw08_slim_l1 (b : List (Bool × LI)) : Int → Option ((Int) ⊕ (Unit ⊕ Unit)) := fun a =>
  if a < (b.length : Int) then
    (getI b a).bind fun c =>
    (sparsekit_Slim c.1 c.2 4).bind fun d =>
    if d = true then
      some (.inl (wa .i64 a 1))
    else
      some (.inr (.inr ()))
  else
    some (.inr (.inl ()))
def sparselaw08_slim (a : List (Bool × LI)) : Option (Bool) :=
  (loop (sparselaw08_slim_l1 a) 0).bind (fun o => match o with
    | .inl () =>
      some (decide ((a.length : Int) ≤ 32))
    | .inr () =>
      some false)

def sparselaw08_small_l9 (b : List (List (Bool × LI))) : Int → Option ((Int) ⊕ (Unit ⊕ Unit)) := fun a =>
  if a < (b.length : Int) then
    (getI b a).bind fun c =>
    (if (4 : Int) < (c.length : Int) then
      (getI b a).bind fun d =>
      some (decide ((d.length : Int) ≤ 16))
    else
      some false).bind fun e =>
    (if e = true then
      some true
    else
      (getI b a).bind fun f =>
      some (decide ((32 : Int) < (f.length : Int)))).bind fun g =>
    (if g = true then
      some true
    else
      (getI b a).bind fun h =>
      (sparselaw08_slim h).bind fun i =>
      some (!(i))).bind fun j =>
    if j = true then
      some (.inr (.inr ()))
    else
      some (.inl (wa .i64 a 1))
  else
    some (.inr (.inl ()))
def sparselaw08_small (a : List (List (Bool × LI))) : Option (Bool) :=
  if (((decide ((4 : Int) < (a.length : Int))) && (decide ((a.length : Int) ≤ 16))) || (decide ((32 : Int) < (a.length : Int)))) = true then
    some false
  else
    (loop (sparselaw08_small_l9 a) 0).bind (fun o => match o with
      | .inl () =>
        some true
      | .inr () =>
        some false)

def sparsekit_TwinBig_l1 (b : LI) : LI × Int → Option ((LI × Int) ⊕ (LI)) := fun (c, a) =>
  if a < (b.length : Int) then
    (getI b a).bind fun d =>
    (app c [d]).bind fun e =>
    some (.inl (e, wa .i64 a 1))
  else
    some (.inr c)
def sparsekit_TwinBig (a : Bool) (b : LI) : Option (Bool × LI) :=
  (loop (sparsekit_TwinBig_l1 b) ([], 0)).bind fun c =>
  some (a, c)

def sparsekit_TwinBigs_l1 (b : List (Bool × LI)) : (List (Bool × LI)) × Int → Option (((List (Bool × LI)) × Int) ⊕ (((List (Bool × LI))))) := fun (c, a) =>
  if a < (b.length : Int) then
    (getI b a).bind fun d =>
    (sparsekit_TwinBig d.1 d.2).bind fun e =>
    (app c [(e.1, e.2)]).bind fun f =>
    some (.inl (f, wa .i64 a 1))
  else
    some (.inr c)
def sparsekit_TwinBigs (a : List (Bool × LI)) : Option ((List (Bool × LI))) :=
  (loop (sparsekit_TwinBigs_l1 a) ([], 0)).bind fun b =>
  some b

def sparsekit_TwinRows_l1 (b : List (List (Bool × LI))) : (List (List (Bool × LI))) × Int → Option (((List (List (Bool × LI))) × Int) ⊕ (((List (List (Bool × LI)))))) := fun (c, a) =>
  if a < (b.length : Int) then
    (getI b a).bind fun d =>
    (sparsekit_TwinBigs d).bind fun e =>
    (app c [e]).bind fun f =>
    some (.inl (f, wa .i64 a 1))
  else
    some (.inr c)
def sparsekit_TwinRows (a : List (List (Bool × LI))) : Option ((List (List (Bool × LI)))) :=
  (loop (sparsekit_TwinRows_l1 a) ([], 0)).bind fun b =>
  some b

def sparseref07_Shape_l1 (a : LI) : Int → Option ((Int) ⊕ (Unit ⊕ Unit)) := fun b =>
  if b < (a.length : Int) then
    (getI a b).bind fun c =>
    (getI a 0).bind fun d =>
    if c = d then
      some (.inl (wa .i64 b 1))
    else
      some (.inr (.inr ()))
  else
    some (.inr (.inl ()))
def sparseref07_Shape (a : LI) : Option (Int) :=
  (loop (sparseref07_Shape_l1 a) 0).bind (fun o => match o with
    | .inl () =>
      (if (200 : Int) < (a.length : Int) then
        some true
      else
        (if (0 : Int) < (a.length : Int) then
          (getI a 0).bind fun b =>
          some (decide ((200 : Int) < b))
        else
          some false).bind fun c =>
        some c).bind fun d =>
      if d = true then
        some 6
      else
        some 0
    | .inr () =>
      some 5)

def sparseref08_Cols (a : List (List (Bool × LI))) : Option (Int) :=
  if (a.length : Int) = 0 then
    some 0
  else
    (getI a 0).bind fun b =>
    some (b.length : Int)

def sparseref08_Check_l1 (b : List (List (Bool × LI))) : LI × Int → Option ((LI × Int) ⊕ (LI)) := fun (c, a) =>
  if a < (b.length : Int) then
    (getI b a).bind fun d =>
    (app c [(d.length : Int)]).bind fun e =>
    some (.inl (e, wa .i64 a 1))
  else
    some (.inr c)
def sparseref08_Check (a : List (List (Bool × LI))) : Option (Int) :=
  (loop (sparseref08_Check_l1 a) ([], 0)).bind fun b =>
  (sparseref07_Shape b).bind fun c =>
  if c = 5 then
    some 5
  else
    (if (16 : Int) < (a.length : Int) then
      some true
    else
      (sparseref08_Cols a).bind fun d =>
      some (decide ((16 : Int) < d))).bind fun e =>
    if e = true then
      some 6
    else
      some 0

def exact_columns (a : List (List (Bool × LI))) : Option (Int) :=
  if (a.length : Int) = 0 then
    some 0
  else
    (getI a 0).bind fun b =>
    some (b.length : Int)

def exact_check_1 (a : List (Bool × LI)) (b : Int) : Option (Bool) :=
  some (!(decide ((a.length : Int) = b)))

def slices_IndexFunc_apiBig_l1 (b : List (List (Bool × LI))) (c : Int) : Int → Option ((Int) ⊕ (Unit ⊕ Int)) := fun a =>
  if a < (b.length : Int) then
    (getI b a).bind fun d =>
    (exact_check_1 d c).bind fun e =>
    if e = true then
      some (.inr (.inr a))
    else
      some (.inl (wa .i64 a 1))
  else
    some (.inr (.inl ()))
def slices_IndexFunc_apiBig (a : List (List (Bool × LI))) (b : Int) : Option (Int) :=
  (loop (slices_IndexFunc_apiBig_l1 a b) 0).bind (fun o => match o with
    | .inl () =>
      some (-1)
    | .inr c =>
      some c)

def slices_ContainsFunc_apiBig (a : List (List (Bool × LI))) (b : Int) : Option (Bool) :=
  (slices_IndexFunc_apiBig a b).bind fun c =>
  some (decide ((0 : Int) ≤ c))

def exact_check (a : List (List (Bool × LI))) : Option (Int) :=
  (exact_columns a).bind fun b =>
  (slices_ContainsFunc_apiBig a b).bind fun c =>
  if c = true then
    some 5
  else
    if ((decide ((16 : Int) < (a.length : Int))) || (decide ((16 : Int) < b))) = true then
      some 6
    else
      some 0
end M
