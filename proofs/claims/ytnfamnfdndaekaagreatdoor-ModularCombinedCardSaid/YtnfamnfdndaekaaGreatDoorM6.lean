/- Models of functions of the program, printed. -/
import Derived.Test.YtnfamnfdndaekaaGreatDoorM5
namespace M
open Sx
set_option linter.unusedVariables false
def sparseref01_Cmp (b : Bool) (c : LI) (d : Bool) (e : LI) : Option (Int) :=
  (sparseref01_Sub b c d e).bind fun a =>
  (sparseref01_Sign a.1 a.2).bind fun f =>
  some f

def sparseref07_Combine_j2 (a : Bool) (b : LI) (c : Bool) (d : LI) : Option (Bool × LI × Bool × LI) :=
  some (c, d, a, b)
def sparseref07_Combine_l1 (g : LI) (m : LI) : Bool × LI × Bool × LI × Int → Option ((Bool × LI × Bool × LI × Int) ⊕ ((Bool × LI × Bool × LI))) := fun (e, f, b, c, d) =>
  if d < (g.length : Int) then
    (getI g d).bind fun a =>
    (getI m d).bind fun n =>
    (sparseref07_Mod n a).bind fun o =>
    (sparseref07_Reduce e f a).bind fun p =>
    (sparseref07_Mod (ws .i64 o p) a).bind fun q =>
    (sparseref07_Reduce b c a).bind fun r =>
    (sparseref07_Inverse r a).bind fun s =>
    (wr (wm .i64 q s) a).bind fun t =>
    (sparseref01_FromInt t).bind fun h =>
    (sparseref01_Mul b c h.1 h.2).bind fun i =>
    (sparseref01_Add e f i.1 i.2).bind fun j =>
    (sparseref01_FromInt a).bind fun k =>
    (sparseref01_Mul b c k.1 k.2).bind fun l =>
    some (.inl (j.1, j.2, l.1, l.2, wa .i64 d 1))
  else
    some (.inr (e, f, b, c))
def sparseref07_Combine (h : LI) (i : LI) : Option (Bool × LI × Bool × LI) :=
  (sparseref01_FromInt 1).bind fun e =>
  (loop (sparseref07_Combine_l1 i h) (false, [], e.1, e.2, 0)).bind fun (c, d, a, b) =>
  (sparseref01_Shift c d 1).bind fun f =>
  (sparseref01_Cmp f.1 f.2 a b).bind fun j =>
  if (0 : Int) < j then
    (sparseref01_Sub c d a b).bind fun g =>
    sparseref07_Combine_j2 a b g.1 g.2
  else
    sparseref07_Combine_j2 a b c d

def sparsekit_Limbs_l1 (b : LI) (c : LI) : Int → Option ((Int) ⊕ (Unit ⊕ Unit)) := fun a =>
  if a < (b.length : Int) then
    (getI b a).bind fun d =>
    (getI c a).bind fun e =>
    if d = e then
      some (.inl (wa .i64 a 1))
    else
      some (.inr (.inr ()))
  else
    some (.inr (.inl ()))
def sparsekit_Limbs (a : LI) (b : LI) : Option (Bool) :=
  if (a.length : Int) = (b.length : Int) then
    (loop (sparsekit_Limbs_l1 a b) 0).bind (fun o => match o with
      | .inl () =>
        some true
      | .inr () =>
        some false)
  else
    some false

def sparsekit_Big (a : Bool) (b : LI) (c : Bool) (d : LI) : Option (Bool) :=
  (if (a == c) = true then
    (sparsekit_Limbs b d).bind fun e =>
    some e
  else
    some false).bind fun f =>
  some f

def sparselaw07_ModularCombined_j21 (a : Int) (b : Int) : Option ((Int × Int) ⊕ (Int)) :=
  some (.inl (b, wa .i64 a 1))
def sparselaw07_ModularCombined_l13 (b : LI) : Int × Int → Option ((Int × Int) ⊕ (Int)) := fun (c, a) =>
  if ((decide (a < (b.length : Int))) && (decide (c = 0))) = true then
    (sli b 0 a).bind fun d =>
    (getI b a).bind fun e =>
    (sparsekit_In d e).bind fun f =>
    if f = true then
      sparselaw07_ModularCombined_j21 a 1
    else
      sparselaw07_ModularCombined_j21 a c
  else
    some (.inr c)
def sparselaw07_ModularCombined_j23 (a : Int) (b : Int) : Option ((Int × Int) ⊕ (Int)) :=
  some (.inl (b, wa .i64 a 1))
def sparselaw07_ModularCombined_l8 (c : LI) : Int × Int → Option ((Int × Int) ⊕ (Int)) := fun (b, a) =>
  if ((decide (a < (c.length : Int))) && (decide (b = 0))) = true then
    (getI c a).bind fun d =>
    (sparseref07_IsPrime d).bind fun e =>
    if e = true then
      sparselaw07_ModularCombined_j23 a b
    else
      sparselaw07_ModularCombined_j23 a 70
  else
    some (.inr b)
def sparselaw07_ModularCombined_j3 (c : LI) (e : LI) (a : Bool × LI × Bool × LI × Int) (f : Int) : Option (Bool) :=
  (loop (sparselaw07_ModularCombined_l8 c) (f, 0)).bind fun g =>
  (loop (sparselaw07_ModularCombined_l13 c) (g, 0)).bind fun d =>
  if d = 0 then
    (sparseref07_Combine e c).bind fun b =>
    (if a.2.2.2.2 = 0 then
      (sparsekit_Big a.1 a.2.1 b.1 b.2.1).bind fun h =>
      some h
    else
      some false).bind fun i =>
    (if i = true then
      (sparsekit_Big a.2.2.1 a.2.2.2.1 b.2.2.1 b.2.2.2).bind fun j =>
      some j
    else
      some false).bind fun k =>
    (if k = true then
      (sparselaw07_awake).bind fun l =>
      some l
    else
      some false).bind fun m =>
    some m
  else
    (if a.2.2.2.2 = d then
      (sparsekit_Big a.1 a.2.1 false []).bind fun n =>
      some n
    else
      some false).bind fun o =>
    (if o = true then
      (sparsekit_Big a.2.2.1 a.2.2.2.1 false []).bind fun p =>
      some p
    else
      some false).bind fun q =>
    (if q = true then
      (sparselaw07_awake).bind fun r =>
      some r
    else
      some false).bind fun s =>
    some s
def sparselaw07_ModularCombined_l2 (b : LI) : Int → Option ((Int) ⊕ (Unit ⊕ Bool)) := fun a =>
  if a < (b.length : Int) then
    (getI b a).bind fun c =>
    (sparselaw07_modulus c).bind fun d =>
    if d = true then
      some (.inl (wa .i64 a 1))
    else
      (sparselaw07_awake).bind fun e =>
      some (.inr (.inr e))
  else
    some (.inr (.inl ()))
def sparselaw07_ModularCombined (b : LI) (a : LI) : Option (Bool) :=
  if ((decide ((6 : Int) < (b.length : Int))) || (decide ((6 : Int) < (a.length : Int)))) = true then
    (sparselaw07_awake).bind fun d =>
    some d
  else
    (loop (sparselaw07_ModularCombined_l2 a) 0).bind (fun o => match o with
      | .inl () =>
        (modular_Combine b a).bind fun c =>
        if (b.length : Int) = (a.length : Int) then
          sparselaw07_ModularCombined_j3 a b c 0
        else
          sparselaw07_ModularCombined_j3 a b c 2
      | .inr e =>
        some e)
end M
