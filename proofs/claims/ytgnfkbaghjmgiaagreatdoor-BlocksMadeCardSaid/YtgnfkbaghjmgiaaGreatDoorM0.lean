/- Models of functions of the program, printed. -/
import Derived.Test.YtgnfkbaghjmgiaaGreatDoorTm
namespace M
open Sx
set_option linter.unusedVariables false
def matrix_within (a : Int) (b : Int) (c : Int) : Option (Bool) :=
  some ((decide (b ≤ a)) && (decide (a ≤ c)))

def cmp_isNaN_int (a : Int) : Option (Bool) :=
  some (!(decide (a = a)))

def cmp_Less_int (a : Int) (b : Int) : Option (Bool) :=
  (cmp_isNaN_int a).bind fun c =>
  (if c = true then
    (cmp_isNaN_int b).bind fun d =>
    some (!(d))
  else
    some false).bind fun e =>
  some (e || (decide (a < b)))

def slices_IsSorted_int_l1 (b : LI) : Int → Option ((Int) ⊕ (Unit ⊕ Unit)) := fun a =>
  if (0 : Int) < a then
    (getI b a).bind fun c =>
    (getI b (ws .i64 a 1)).bind fun d =>
    (cmp_Less_int c d).bind fun e =>
    if e = true then
      some (.inr (.inr ()))
    else
      some (.inl (ws .i64 a 1))
  else
    some (.inr (.inl ()))
def slices_IsSorted_int (a : LI) : Option (Bool) :=
  (loop (slices_IsSorted_int_l1 a) (ws .i64 (a.length : Int) 1)).bind (fun o => match o with
    | .inl () =>
      some true
    | .inr () =>
      some false)

def matrix_columns_l27 (c : LI) (d : Int) : Int × Int → Option ((Int × Int) ⊕ (Unit ⊕ Unit)) := fun (e, a) =>
  if a < (c.length : Int) then
    (getI c a).bind fun b =>
    if ((decide (b ≤ e)) || (decide (d ≤ b))) = true then
      some (.inr (.inr ()))
    else
      some (.inl (b, wa .i64 a 1))
  else
    some (.inr (.inl ()))
def matrix_columns_l24 (c : Int) (b : LI) (d : LI) (e : Int) : Int → Option ((Int) ⊕ (Unit ⊕ Unit)) := fun a =>
  if a < c then
    (getI b a).bind fun f =>
    (getI b (wa .i64 a 1)).bind fun g =>
    (sli d f g).bind fun h =>
    (loop (matrix_columns_l27 h e) ((-1), 0)).bind (fun o => match o with
      | .inl () =>
        some (.inl (wa .i64 a 1))
      | .inr () =>
        some (.inr (.inr ())))
  else
    some (.inr (.inl ()))
def matrix_columns (d : Int) (b : Int) (a : LI) (c : LI) (e : LI) : Option (Bool) :=
  (if (a.length : Int) = (wa .i64 b 1) then
    (getI a 0).bind fun f =>
    some (!(decide (f = 0)))
  else
    some true).bind fun g =>
  (if g = true then
    some true
  else
    (slices_IsSorted_int a).bind fun h =>
    some (!(h))).bind fun i =>
  (if i = true then
    some true
  else
    (getI a b).bind fun j =>
    some (!(decide (j = (c.length : Int))))).bind fun k =>
  (if k = true then
    some true
  else
    some (!(decide ((c.length : Int) = (e.length : Int))))).bind fun l =>
  if l = true then
    some false
  else
    (loop (matrix_columns_l24 b a c d) 0).bind (fun o => match o with
      | .inl () =>
        some true
      | .inr () =>
        some false)

def float_parts (a : Int) : Option (Int × Int) :=
  some (wc .i64 (wand .u64 (wsrc .u64 a 52) 2047), wand .u64 a 4503599627370495)

def float_IsFinite (a : Int) : Option (Bool) :=
  (float_parts a).bind fun b =>
  some (!(decide (b.1 = 2047)))

def matrix_Check_1 (a : Int) : Option (Bool) :=
  (float_IsFinite a).bind fun b =>
  some (!(b))

def slices_IndexFunc_apiFloat_l1 (b : LI) : Int → Option ((Int) ⊕ (Unit ⊕ Int)) := fun a =>
  if a < (b.length : Int) then
    (getI b a).bind fun c =>
    (matrix_Check_1 c).bind fun d =>
    if d = true then
      some (.inr (.inr a))
    else
      some (.inl (wa .i64 a 1))
  else
    some (.inr (.inl ()))
def slices_IndexFunc_apiFloat (a : LI) : Option (Int) :=
  (loop (slices_IndexFunc_apiFloat_l1 a) 0).bind (fun o => match o with
    | .inl () =>
      some (-1)
    | .inr b =>
      some b)

def slices_ContainsFunc_apiFloat (a : LI) : Option (Bool) :=
  (slices_IndexFunc_apiFloat a).bind fun b =>
  some (decide ((0 : Int) ≤ b))

def matrix_Check (a : Int) (b : Int) (e : LI) (c : LI) (d : LI) : Option (Int) :=
  (matrix_within a 0 200).bind fun f =>
  (if f = true then
    (matrix_within b 0 200).bind fun g =>
    some (!(g))
  else
    some true).bind fun h =>
  if (h || (decide ((10000 : Int) < (c.length : Int)))) = true then
    some 6
  else
    (matrix_columns a b e c d).bind fun i =>
    if i = true then
      (slices_ContainsFunc_apiFloat d).bind fun j =>
      if j = true then
        some 4
      else
        some 0
    else
      some 1

def blocks_square (a : Int) (b : Int) (d : LI) (e : LI) (f : LI) : Option (Int) :=
  (matrix_Check a b d e f).bind fun c =>
  if ((decide (c = 0)) && (!(decide (a = b)))) = true then
    some 5
  else
    some c

def matching_Edges_l1 (d : L2) (b : LI) (e : LI) : L2 × Int → Option ((L2 × Int) ⊕ (L2)) := fun (c, a) =>
  if a < (d.length : Int) then
    (getI b a).bind fun f =>
    (getI b (wa .i64 a 1)).bind fun g =>
    (sli e f g).bind fun h =>
    (setI c a h).bind fun i =>
    some (.inl (i, wa .i64 a 1))
  else
    some (.inr c)
def matching_Edges (f : Int) (b : Int) (c : LI) (d : LI) (g : LI) : Option (L2) :=
  (mkL ([] : LI) b).bind fun a =>
  (loop (matching_Edges_l1 a c d) (a, 0)).bind fun e =>
  some e

def matching_full_l1 (c : LI) (d : Int) : LI × Int → Option ((LI × Int) ⊕ (LI)) := fun (b, a) =>
  if a < (c.length : Int) then
    (setI b a d).bind fun e =>
    some (.inl (e, wa .i64 a 1))
  else
    some (.inr b)
def matching_full (b : Int) (c : Int) : Option (LI) :=
  (mkL 0 b).bind fun a =>
  (loop (matching_full_l1 a c) (a, 0)).bind fun d =>
  some d
end M
