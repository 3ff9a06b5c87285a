/- Models of functions of the program, printed. -/
import Derived.Test.YtnfamnfdndaekaaGreatDoorTm
namespace M
open Sx
set_option linter.unusedVariables false
def sparsekit_Slim (c : Bool) (a : LI) (b : Int) : Option (Bool) :=
  some (decide ((a.length : Int) ≤ b))

def modular_IsPrime_l2 (b : Int) : Int → Option ((Int) ⊕ (Unit ⊕ Unit)) := fun a =>
  if (wm .i64 a a) ≤ b then
    (wr b a).bind fun c =>
    if c = 0 then
      some (.inr (.inr ()))
    else
      some (.inl (wa .i64 a 1))
  else
    some (.inr (.inl ()))
def modular_IsPrime (a : Int) : Option (Bool) :=
  if ((decide (a < 2)) || (decide ((2147483647 : Int) < a))) = true then
    some false
  else
    (loop (modular_IsPrime_l2 a) 2).bind (fun o => match o with
      | .inl () =>
        some true
      | .inr () =>
        some false)

def modular_mod_j1 (a : Int) : Option (Int) :=
  some a
def modular_mod (c : Int) (b : Int) : Option (Int) :=
  (wr c b).bind fun a =>
  if a < 0 then
    modular_mod_j1 (wa .i64 a b)
  else
    modular_mod_j1 a

def modular_raise_j4 (a : Int) (b : Int) (c : Int) (d : Int) : Option ((Int × Int × Int) ⊕ (Int)) :=
  (wr (wm .i64 a a) b).bind fun e =>
  some (.inl (e, wqc .i64 c 2, d))
def modular_raise_l3 (b : Int) : Int × Int × Int → Option ((Int × Int × Int) ⊕ (Int)) := fun (c, a, d) =>
  if (0 : Int) < a then
    if (wrc a 2) = 1 then
      (wr (wm .i64 d c) b).bind fun e =>
      modular_raise_j4 c b a e
    else
      modular_raise_j4 c b a d
  else
    some (.inr d)
def modular_raise (a : Int) (b : Int) (c : Int) : Option (Int) :=
  (loop (modular_raise_l3 c) (a, b, 1)).bind fun d =>
  some d

def modular_inverse (b : Int) (a : Int) : Option (Int) :=
  (modular_raise b (ws .i64 a 2) a).bind fun c =>
  some c

def modular_Inverse (b : Int) (a : Int) : Option (Int × Int) :=
  (modular_IsPrime a).bind fun c =>
  if c = true then
    (modular_mod b a).bind fun d =>
    if d = 0 then
      some (0, 8)
    else
      (modular_mod b a).bind fun e =>
      (modular_inverse e a).bind fun f =>
      some (f, 0)
  else
    some (0, 70)

def modular_columns (a : L2) : Option (Int) :=
  if (a.length : Int) = 0 then
    some 0
  else
    (getI a 0).bind fun b =>
    some (b.length : Int)

def modular_check_1 (a : LI) (b : Int) : Option (Bool) :=
  some (!(decide ((a.length : Int) = b)))

def slices_IndexFunc_int_l1 (b : L2) (c : Int) : Int → Option ((Int) ⊕ (Unit ⊕ Int)) := fun a =>
  if a < (b.length : Int) then
    (getI b a).bind fun d =>
    (modular_check_1 d c).bind fun e =>
    if e = true then
      some (.inr (.inr a))
    else
      some (.inl (wa .i64 a 1))
  else
    some (.inr (.inl ()))
def slices_IndexFunc_int (a : L2) (b : Int) : Option (Int) :=
  (loop (slices_IndexFunc_int_l1 a b) 0).bind (fun o => match o with
    | .inl () =>
      some (-1)
    | .inr c =>
      some c)

def slices_ContainsFunc_int (a : L2) (b : Int) : Option (Bool) :=
  (slices_IndexFunc_int a b).bind fun c =>
  some (decide ((0 : Int) ≤ c))

def modular_check (a : L2) (c : Int) : Option (Int) :=
  (modular_columns a).bind fun b =>
  (modular_IsPrime c).bind fun d =>
  if d = true then
    (slices_ContainsFunc_int a b).bind fun e =>
    if e = true then
      some 5
    else
      if ((decide ((200 : Int) < (a.length : Int))) || (decide ((200 : Int) < b))) = true then
        some 6
      else
        some 0
  else
    some 70

def modular_reduced_l4 (b : LI) (d : Int) : LI × Int → Option ((LI × Int) ⊕ (LI)) := fun (c, a) =>
  if a < (b.length : Int) then
    (getI b a).bind fun e =>
    (modular_mod e d).bind fun f =>
    (app c [f]).bind fun g =>
    some (.inl (g, wa .i64 a 1))
  else
    some (.inr c)
def modular_reduced_l3 (b : L2) (d : Int) : L2 × Int → Option ((L2 × Int) ⊕ (L2)) := fun (c, a) =>
  if a < (b.length : Int) then
    (getI b a).bind fun e =>
    (loop (modular_reduced_l4 e d) ([], 0)).bind fun f =>
    (app c [f]).bind fun g =>
    some (.inl (g, wa .i64 a 1))
  else
    some (.inr c)
def modular_reduced (a : L2) (b : Int) : Option (L2) :=
  (loop (modular_reduced_l3 a b) ([], 0)).bind fun c =>
  some c

def modular_echelon_1 (a : LI) (b : Int) : Option (Bool) :=
  (getI a b).bind fun c =>
  some (!(decide (c = 0)))

def slices_IndexFunc_int_v2_l1 (b : L2) (c : Int) : Int → Option ((Int) ⊕ (Unit ⊕ Int)) := fun a =>
  if a < (b.length : Int) then
    (getI b a).bind fun d =>
    (modular_echelon_1 d c).bind fun e =>
    if e = true then
      some (.inr (.inr a))
    else
      some (.inl (wa .i64 a 1))
  else
    some (.inr (.inl ()))
def slices_IndexFunc_int_v2 (a : L2) (b : Int) : Option (Int) :=
  (loop (slices_IndexFunc_int_v2_l1 a b) 0).bind (fun o => match o with
    | .inl () =>
      some (-1)
    | .inr c =>
      some c)
end M
