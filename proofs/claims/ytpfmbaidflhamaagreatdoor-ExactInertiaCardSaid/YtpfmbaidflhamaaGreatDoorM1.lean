/- Models of functions of the program, printed. -/
import Derived.Test.YtpfmbaidflhamaaGreatDoorM0
namespace M
open Sx
set_option linter.unusedVariables false
def exact_square (a : List (List (Bool × LI))) : Option (Int) :=
  (exact_check a).bind fun b =>
  (if b = 0 then
    (exact_columns a).bind fun c =>
    some (!(decide ((a.length : Int) = c)))
  else
    some false).bind fun d =>
  if d = true then
    some 5
  else
    some b

def integer_trim_l3 (b : LI) : Int → Option ((Int) ⊕ (Int)) := fun a =>
  (if (0 : Int) < a then
    (getI b (ws .i64 a 1)).bind fun c =>
    some (decide (c = 0))
  else
    some false).bind fun d =>
  if d = true then
    some (.inl (ws .i64 a 1))
  else
    some (.inr a)
def integer_trim (a : LI) : Option (LI) :=
  (loop (integer_trim_l3 a) (a.length : Int)).bind fun b =>
  (sli a 0 b).bind fun c =>
  some c

def integer_Sign (a : Bool) (b : LI) : Option (Int) :=
  (integer_trim b).bind fun c =>
  if (c.length : Int) = 0 then
    some 0
  else
    if a = true then
      some (-1)
    else
      some 1

def cmp_isNaN_uint32 (a : Int) : Option (Bool) :=
  some (!(decide (a = a)))

def cmp_Compare_uint32 (a : Int) (b : Int) : Option (Int) :=
  (cmp_isNaN_uint32 a).bind fun d =>
  (cmp_isNaN_uint32 b).bind fun c =>
  if d = true then
    if c = true then
      some 0
    else
      some (-1)
  else
    if c = true then
      some 1
    else
      if a < b then
        some (-1)
      else
        if b < a then
          some 1
        else
          some 0

def cmp_isNaN_int (a : Int) : Option (Bool) :=
  some (!(decide (a = a)))

def cmp_Compare_int (a : Int) (b : Int) : Option (Int) :=
  (cmp_isNaN_int a).bind fun d =>
  (cmp_isNaN_int b).bind fun c =>
  if d = true then
    if c = true then
      some 0
    else
      some (-1)
  else
    if c = true then
      some 1
    else
      if a < b then
        some (-1)
      else
        if b < a then
          some 1
        else
          some 0

def integer_compare_l1 (b : LI) (c : LI) : Int → Option ((Int) ⊕ (Unit ⊕ Int)) := fun a =>
  if (0 : Int) ≤ a then
    (getI b a).bind fun d =>
    (getI c a).bind fun e =>
    if d = e then
      some (.inl (ws .i64 a 1))
    else
      (getI b a).bind fun f =>
      (getI c a).bind fun g =>
      (cmp_Compare_uint32 f g).bind fun h =>
      some (.inr (.inr h))
  else
    some (.inr (.inl ()))
def integer_compare (a : LI) (b : LI) : Option (Int) :=
  if (a.length : Int) = (b.length : Int) then
    (loop (integer_compare_l1 a b) (ws .i64 (a.length : Int) 1)).bind (fun o => match o with
      | .inl () =>
        some 0
      | .inr c =>
        some c)
  else
    (cmp_Compare_int (a.length : Int) (b.length : Int)).bind fun d =>
    some d

def integer_Cmp (e : Bool) (b : LI) (f : Bool) (c : LI) : Option (Int) :=
  (integer_Sign e b).bind fun a =>
  (integer_Sign f c).bind fun d =>
  if a < d then
    some (-1)
  else
    if d < a then
      some 1
    else
      (integer_trim b).bind fun g =>
      (integer_trim c).bind fun h =>
      (integer_compare g h).bind fun i =>
      some (wm .i64 a i)

def slices_Clone_uint32 (a : LI) : Option (LI) :=
  (app [] a).bind fun b =>
  some b

def integer_big (b : Bool) (c : LI) : Option (Bool × LI) :=
  (integer_trim c).bind fun a =>
  if (a.length : Int) = 0 then
    some (false, [])
  else
    some (b, a)

def integer_Norm (b : Bool) (c : LI) : Option (Bool × LI) :=
  (slices_Clone_uint32 c).bind fun d =>
  (integer_big b d).bind fun a =>
  some (a.1, a.2)

def exact_twin_j7 (a : List (List (Bool × LI))) (b : Int) (c : List (Bool × LI)) : Option (((List (List (Bool × LI))) × Int) ⊕ (((List (List (Bool × LI)))))) :=
  (app a [c]).bind fun d =>
  some (.inl (d, wa .i64 b 1))
def exact_twin_l6 (b : List (Bool × LI)) : (List (Bool × LI)) × Int → Option (((List (Bool × LI)) × Int) ⊕ (((List (Bool × LI))))) := fun (c, a) =>
  if a < (b.length : Int) then
    (getI b a).bind fun d =>
    (integer_Norm d.1 d.2).bind fun e =>
    (app c [(e.1, e.2)]).bind fun f =>
    some (.inl (f, wa .i64 a 1))
  else
    some (.inr c)
def exact_twin_l5 (c : List (List (Bool × LI))) (d : List (Bool × LI)) : (List (List (Bool × LI))) × Int → Option (((List (List (Bool × LI))) × Int) ⊕ (((List (List (Bool × LI)))))) := fun (b, a) =>
  if a < (c.length : Int) then
    (getI c a).bind fun h =>
    (loop (exact_twin_l6 h) ([], 0)).bind fun e =>
    if a < (d.length : Int) then
      (getI d a).bind fun f =>
      (integer_Norm f.1 f.2).bind fun g =>
      (app e [(g.1, g.2)]).bind fun i =>
      exact_twin_j7 b a i
    else
      exact_twin_j7 b a e
  else
    some (.inr b)
def exact_twin (a : List (List (Bool × LI))) (b : List (Bool × LI)) : Option ((List (List (Bool × LI)))) :=
  (loop (exact_twin_l5 a b) ([], 0)).bind fun c =>
  some c

def integer_FromInt_j1 (c : Int) (a : Int) : Option (Bool × LI) :=
  (integer_big (decide (c < 0)) [wc .u32 (wand .u64 a 4294967295), wc .u32 (wsrc .u64 a 32)]).bind fun b =>
  some (b.1, b.2)
def integer_FromInt (a : Int) : Option (Bool × LI) :=
  if a < 0 then
    integer_FromInt_j1 a (wneg .u64 (wc .u64 a))
  else
    integer_FromInt_j1 a (wc .u64 a)
end M
