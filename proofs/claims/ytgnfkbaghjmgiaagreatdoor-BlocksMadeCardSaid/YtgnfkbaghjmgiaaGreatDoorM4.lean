/- Models of functions of the program, printed. -/
import Derived.Test.YtgnfkbaghjmgiaaGreatDoorM3
namespace M
open Sx
set_option linter.unusedVariables false
def sparseref02_Bad : Option (Bool × Bool × Int) :=
  some (true, false, 0)

def sparseref01_TrailingZeros_l1 (b : LI) : Int → Option ((Int) ⊕ (Unit ⊕ Int)) := fun a =>
  if a < (b.length : Int) then
    (getI b a).bind fun c =>
    if c = 0 then
      some (.inl (wa .i64 a 1))
    else
      (getI b a).bind fun d =>
      (tz32 d).bind fun e =>
      some (.inr (.inr (wa .i64 (wm .i64 32 a) e)))
  else
    some (.inr (.inl ()))
def sparseref01_TrailingZeros (d : Bool) (a : LI) : Option (Int) :=
  (sparseref01_trim a).bind fun b =>
  (loop (sparseref01_TrailingZeros_l1 b) 0).bind (fun o => match o with
    | .inl () =>
      some 0
    | .inr c =>
      some c)

def sparseref01_Abs (c : Bool) (b : LI) : Option (Bool × LI) :=
  (sparseref01_make1 false b).bind fun a =>
  some (a.1, a.2)

def sparseref01_shl_l1 (c : LI) (f : Int) : LI × Int × Int → Option ((LI × Int × Int) ⊕ ((LI × Int))) := fun (d, a, b) =>
  if b < (c.length : Int) then
    (getI c b).bind fun g =>
    (wshl .u64 (wc .u64 g) (wrc f 32)).bind fun e =>
    (app d [wc .u32 (wor .u64 a e)]).bind fun h =>
    some (.inl (h, wsrc .u64 (wor .u64 a e) 32, wa .i64 b 1))
  else
    some (.inr (d, a))
def sparseref01_shl (b : LI) (a : Int) : Option (LI) :=
  (mkL 0 (wqc .i64 a 32)).bind fun c =>
  (loop (sparseref01_shl_l1 b a) (c, 0, 0)).bind fun (d, e) =>
  (app d [wc .u32 e]).bind fun f =>
  some f

def sparseref01_shr_j20 (a : Int) (b : Int) (c : LI) (d : Int) (e : Bool) : Option ((Bool × LI × Int) ⊕ ((Bool × LI))) :=
  (wshr .u64 a (wrc b 32)).bind fun f =>
  (app c [wc .u32 f]).bind fun g =>
  some (.inl (e, g, wa .i64 d 1))
def sparseref01_shr_j16 (a : Int) (b : Int) (e : LI) (c : LI) (f : Bool) (d : Int) : Option ((Bool × LI × Int) ⊕ ((Bool × LI))) :=
  (if a = (wqc .i64 b 32) then
    (getI e a).bind fun g =>
    (wshl .u32 1 (wrc b 32)).bind fun h =>
    some (!(decide ((wand .u32 g (ws .u32 h 1)) = 0)))
  else
    some false).bind fun i =>
  if i = true then
    sparseref01_shr_j20 d b c a true
  else
    sparseref01_shr_j20 d b c a f
def sparseref01_shr_l15 (a : LI) (e : Int) : Bool × LI × Int → Option ((Bool × LI × Int) ⊕ ((Bool × LI))) := fun (c, d, b) =>
  if b < (a.length : Int) then
    (getI a b).bind fun f =>
    if (wa .i64 b 1) < (a.length : Int) then
      (getI a (wa .i64 b 1)).bind fun g =>
      sparseref01_shr_j16 b e a d c (wor .u64 (wc .u64 f) (wslc .u64 (wc .u64 g) 32))
    else
      sparseref01_shr_j16 b e a d c (wc .u64 f)
  else
    some (.inr (c, d))
def sparseref01_shr_l4 (d : Int) (b : LI) : Bool × Int → Option ((Bool × Int) ⊕ (Bool)) := fun (c, a) =>
  if ((decide (a < (wqc .i64 d 32))) && (decide (a < (b.length : Int)))) = true then
    (if c = true then
      some true
    else
      (getI b a).bind fun e =>
      some (!(decide (e = 0)))).bind fun f =>
    some (.inl (f, wa .i64 a 1))
  else
    some (.inr c)
def sparseref01_shr (b : LI) (a : Int) : Option (LI × Bool) :=
  (loop (sparseref01_shr_l4 a b) (false, 0)).bind fun c =>
  (loop (sparseref01_shr_l15 b a) (c, [], wqc .i64 a 32)).bind fun (d, e) =>
  some (e, d)

def sparseref01_Neg (b : Bool) (c : LI) : Option (Bool × LI) :=
  (sparseref01_make1 (!(b)) c).bind fun a =>
  some (a.1, a.2)

def sparseref01_addMag_j7 (b : LI) (c : Int) (a : Int) : Option ((LI × Int × Int) ⊕ ((LI × Int))) :=
  (app b [wc .u32 a]).bind fun d =>
  some (.inl (d, wsrc .u64 a 32, wa .i64 c 1))
def sparseref01_addMag_j6 (a : Int) (b : LI) (c : LI) (d : Int) : Option ((LI × Int × Int) ⊕ ((LI × Int))) :=
  if a < (b.length : Int) then
    (getI b a).bind fun e =>
    sparseref01_addMag_j7 c a (wa .u64 d (wc .u64 e))
  else
    sparseref01_addMag_j7 c a d
def sparseref01_addMag_l5 (b : LI) (c : LI) : LI × Int × Int → Option ((LI × Int × Int) ⊕ ((LI × Int))) := fun (d, e, a) =>
  if a < (imax (b.length : Int) (c.length : Int)) then
    if a < (b.length : Int) then
      (getI b a).bind fun f =>
      sparseref01_addMag_j6 a c d (wa .u64 e (wc .u64 f))
    else
      sparseref01_addMag_j6 a c d e
  else
    some (.inr (d, e))
def sparseref01_addMag (a : LI) (b : LI) : Option (LI) :=
  (loop (sparseref01_addMag_l5 a b) ([], 0, 0)).bind fun (c, d) =>
  (app c [wc .u32 d]).bind fun e =>
  some e

def sparseref01_cmpMag_l1 (b : LI) (c : LI) : Int → Option ((Int) ⊕ (Unit ⊕ Int)) := fun a =>
  if (0 : Int) ≤ a then
    (getI b a).bind fun d =>
    (getI c a).bind fun e =>
    if d = e then
      some (.inl (ws .i64 a 1))
    else
      (getI b a).bind fun f =>
      (getI c a).bind fun g =>
      if f < g then
        some (.inr (.inr (-1)))
      else
        some (.inr (.inr 1))
  else
    some (.inr (.inl ()))
def sparseref01_cmpMag (a : LI) (b : LI) : Option (Int) :=
  if (a.length : Int) = (b.length : Int) then
    (loop (sparseref01_cmpMag_l1 a b) (ws .i64 (a.length : Int) 1)).bind (fun o => match o with
      | .inl () =>
        some 0
      | .inr c =>
        some c)
  else
    if (a.length : Int) < (b.length : Int) then
      some (-1)
    else
      some 1

def sparseref01_subMag_j4 (b : LI) (c : Int) (a : Int) : Option ((LI × Int × Int) ⊕ (LI)) :=
  (app b [wc .u32 a]).bind fun d =>
  some (.inl (d, wsrc .u64 a 63, wa .i64 c 1))
def sparseref01_subMag_l3 (c : LI) (d : LI) : LI × Int × Int → Option ((LI × Int × Int) ⊕ (LI)) := fun (b, e, a) =>
  if a < (c.length : Int) then
    (getI c a).bind fun f =>
    if a < (d.length : Int) then
      (getI d a).bind fun g =>
      sparseref01_subMag_j4 b a (ws .u64 (ws .u64 (wc .u64 f) e) (wc .u64 g))
    else
      sparseref01_subMag_j4 b a (ws .u64 (wc .u64 f) e)
  else
    some (.inr b)
def sparseref01_subMag (a : LI) (b : LI) : Option (LI) :=
  (loop (sparseref01_subMag_l3 a b) ([], 0, 0)).bind fun c =>
  some c

def sparseref01_Add (c : Bool) (h : LI) (d : Bool) (i : LI) : Option (Bool × LI) :=
  (sparseref01_trim h).bind fun a =>
  (sparseref01_trim i).bind fun b =>
  if (c == d) = true then
    (sparseref01_addMag a b).bind fun j =>
    (sparseref01_make1 c j).bind fun e =>
    some (e.1, e.2)
  else
    (sparseref01_cmpMag a b).bind fun k =>
    if (0 : Int) ≤ k then
      (sparseref01_subMag a b).bind fun l =>
      (sparseref01_make1 c l).bind fun f =>
      some (f.1, f.2)
    else
      (sparseref01_subMag b a).bind fun m =>
      (sparseref01_make1 d m).bind fun g =>
      some (g.1, g.2)

def sparseref01_Sub (c : Bool) (d : LI) (e : Bool) (f : LI) : Option (Bool × LI) :=
  (sparseref01_Neg e f).bind fun a =>
  (sparseref01_Add c d a.1 a.2).bind fun b =>
  some (b.1, b.2)

def sparseref01_Shift_j2 (a : Bool) (b : LI) : Option (Bool × LI) :=
  some (a, b)
def sparseref01_Shift (h : Bool) (i : LI) (c : Int) : Option (Bool × LI) :=
  (sparseref01_Norm h i).bind fun a =>
  if (0 : Int) ≤ c then
    (sparseref01_shl a.2 c).bind fun j =>
    (sparseref01_make1 a.1 j).bind fun d =>
    some (d.1, d.2)
  else
    (sparseref01_shr a.2 (wneg .i64 c)).bind fun e =>
    (sparseref01_make1 a.1 e.1).bind fun b =>
    if (a.1 && e.2) = true then
      (sparseref01_FromInt 1).bind fun f =>
      (sparseref01_Sub b.1 b.2 f.1 f.2).bind fun g =>
      sparseref01_Shift_j2 g.1 g.2
    else
      sparseref01_Shift_j2 b.1 b.2

def sparseref02_down_l1 : Int × Bool × LI → Option ((Int × Bool × LI) ⊕ ((Int × Bool × LI))) := fun (a, b, c) =>
  if (1048576 : Int) < a then
    (sparseref01_Shift b c (-1048576)).bind fun d =>
    some (.inl (ws .i64 a 1048576, d.1, d.2))
  else
    some (.inr (a, b, c))
def sparseref02_down (b : Bool) (c : LI) (d : Int) : Option (Bool × LI) :=
  (loop (sparseref02_down_l1) (d, b, c)).bind fun (e, f, g) =>
  (sparseref01_Shift f g (wneg .i64 e)).bind fun a =>
  some (a.1, a.2)

def math_bits_Len32_j2 (a : Int) (b : Int) : Option (Int) :=
  (getI [0, 1, 2, 2, 3, 3, 3, 3, 4, 4, 4, 4, 4, 4, 4, 4, 5, 5, 5, 5, 5, 5, 5, 5, 5, 5, 5, 5, 5, 5, 5, 5, 6, 6, 6, 6, 6, 6, 6, 6, 6, 6, 6, 6, 6, 6, 6, 6, 6, 6, 6, 6, 6, 6, 6, 6, 6, 6, 6, 6, 6, 6, 6, 6, 7, 7, 7, 7, 7, 7, 7, 7, 7, 7, 7, 7, 7, 7, 7, 7, 7, 7, 7, 7, 7, 7, 7, 7, 7, 7, 7, 7, 7, 7, 7, 7, 7, 7, 7, 7, 7, 7, 7, 7, 7, 7, 7, 7, 7, 7, 7, 7, 7, 7, 7, 7, 7, 7, 7, 7, 7, 7, 7, 7, 7, 7, 7, 7, 8, 8, 8, 8, 8, 8, 8, 8, 8, 8, 8, 8, 8, 8, 8, 8, 8, 8, 8, 8, 8, 8, 8, 8, 8, 8, 8, 8, 8, 8, 8, 8, 8, 8, 8, 8, 8, 8, 8, 8, 8, 8, 8, 8, 8, 8, 8, 8, 8, 8, 8, 8, 8, 8, 8, 8, 8, 8, 8, 8, 8, 8, 8, 8, 8, 8, 8, 8, 8, 8, 8, 8, 8, 8, 8, 8, 8, 8, 8, 8, 8, 8, 8, 8, 8, 8, 8, 8, 8, 8, 8, 8, 8, 8, 8, 8, 8, 8, 8, 8, 8, 8, 8, 8, 8, 8, 8, 8, 8, 8, 8, 8, 8, 8, 8, 8, 8, 8, 8, 8, 8, 8, 8, 8, 8, 8, 8, 8] (wc .u8 a)).bind fun c =>
  some (wa .i64 b (wc .i64 c))
def math_bits_Len32_j1 (a : Int) (b : Int) : Option (Int) :=
  if (256 : Int) ≤ a then
    math_bits_Len32_j2 (wsrc .u32 a 8) (wa .i64 b 8)
  else
    math_bits_Len32_j2 a b
def math_bits_Len32 (a : Int) : Option (Int) :=
  if (65536 : Int) ≤ a then
    math_bits_Len32_j1 (wsrc .u32 a 16) 16
  else
    math_bits_Len32_j1 a 0
end M
