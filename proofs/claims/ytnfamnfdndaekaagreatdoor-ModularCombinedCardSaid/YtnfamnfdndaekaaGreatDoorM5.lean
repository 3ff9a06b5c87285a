/- Models of functions of the program, printed. -/
import Derived.Test.YtnfamnfdndaekaaGreatDoorM4
namespace M
open Sx
set_option linter.unusedVariables false
def sparseref01_Abs (c : Bool) (b : LI) : Option (Bool × LI) :=
  (sparseref01_make1 false b).bind fun a =>
  some (a.1, a.2)

def sparseref01_addMag_j7 (b : LI) (c : Int) (a : Int) : Option ((LI × Int × Int) ⊕ ((LI × Int))) :=
  (app b [wc .u32 a]).bind fun d =>
  some (.inl (d, wsrc .u64 a 32, wa .i64 c 1))
def sparseref01_addMag_j6 (a : Int) (b : LI) (c : LI) (d : Int) : Option ((LI × Int × Int) ⊕ ((LI × Int))) :=
  if a < (b.length : Int) then
    (getI b a).bind fun e =>
    sparseref01_addMag_j7 c a (wa .u64 d (wc .u64 e))
  else
    sparseref01_addMag_j7 c a d
def sparseref01_addMag_l5 (b : LI) (c : LI) : LI × Int × Int → Option ((LI × Int × Int) ⊕ ((LI × Int))) := fun (d, e, a) =>
  if a < (imax (b.length : Int) (c.length : Int)) then
    if a < (b.length : Int) then
      (getI b a).bind fun f =>
      sparseref01_addMag_j6 a c d (wa .u64 e (wc .u64 f))
    else
      sparseref01_addMag_j6 a c d e
  else
    some (.inr (d, e))
def sparseref01_addMag (a : LI) (b : LI) : Option (LI) :=
  (loop (sparseref01_addMag_l5 a b) ([], 0, 0)).bind fun (c, d) =>
  (app c [wc .u32 d]).bind fun e =>
  some e

def sparseref01_subMag_j4 (b : LI) (c : Int) (a : Int) : Option ((LI × Int × Int) ⊕ (LI)) :=
  (app b [wc .u32 a]).bind fun d =>
  some (.inl (d, wsrc .u64 a 63, wa .i64 c 1))
def sparseref01_subMag_l3 (c : LI) (d : LI) : LI × Int × Int → Option ((LI × Int × Int) ⊕ (LI)) := fun (b, e, a) =>
  if a < (c.length : Int) then
    (getI c a).bind fun f =>
    if a < (d.length : Int) then
      (getI d a).bind fun g =>
      sparseref01_subMag_j4 b a (ws .u64 (ws .u64 (wc .u64 f) e) (wc .u64 g))
    else
      sparseref01_subMag_j4 b a (ws .u64 (wc .u64 f) e)
  else
    some (.inr b)
def sparseref01_subMag (a : LI) (b : LI) : Option (LI) :=
  (loop (sparseref01_subMag_l3 a b) ([], 0, 0)).bind fun c =>
  some c

def sparseref01_Add (c : Bool) (h : LI) (d : Bool) (i : LI) : Option (Bool × LI) :=
  (sparseref01_trim h).bind fun a =>
  (sparseref01_trim i).bind fun b =>
  if (c == d) = true then
    (sparseref01_addMag a b).bind fun j =>
    (sparseref01_make1 c j).bind fun e =>
    some (e.1, e.2)
  else
    (sparseref01_cmpMag a b).bind fun k =>
    if (0 : Int) ≤ k then
      (sparseref01_subMag a b).bind fun l =>
      (sparseref01_make1 c l).bind fun f =>
      some (f.1, f.2)
    else
      (sparseref01_subMag b a).bind fun m =>
      (sparseref01_make1 d m).bind fun g =>
      some (g.1, g.2)

def sparseref01_Neg (b : Bool) (c : LI) : Option (Bool × LI) :=
  (sparseref01_make1 (!(b)) c).bind fun a =>
  some (a.1, a.2)

def sparseref01_Sub (c : Bool) (d : LI) (e : Bool) (f : LI) : Option (Bool × LI) :=
  (sparseref01_Neg e f).bind fun a =>
  (sparseref01_Add c d a.1 a.2).bind fun b =>
  some (b.1, b.2)

def sparseref01_DivMod_j3 (a : Bool) (b : LI) (c : Bool) (d : LI) : Option (Bool × LI × Bool × LI) :=
  some (a, b, c, d)
def sparseref01_DivMod_j4 (a : Bool × LI) (b : Bool) (c : LI) : Option (Bool × LI × Bool × LI) :=
  sparseref01_DivMod_j3 b c a.1 a.2
def sparseref01_DivMod (l : Bool) (m : LI) (n : Bool) (o : LI) : Option (Bool × LI × Bool × LI) :=
  (sparseref01_Norm l m).bind fun d =>
  (sparseref01_Norm n o).bind fun c =>
  (sparseref01_divMag d.2 c.2).bind fun e =>
  (sparseref01_make1 (!((d.1 == c.1))) e.1).bind fun a =>
  (sparseref01_make1 d.1 e.2).bind fun b =>
  (sparseref01_Sign b.1 b.2).bind fun p =>
  if p < 0 then
    (sparseref01_Abs c.1 c.2).bind fun f =>
    (sparseref01_Add b.1 b.2 f.1 f.2).bind fun g =>
    if c.1 = true then
      (sparseref01_FromInt 1).bind fun h =>
      (sparseref01_Add a.1 a.2 h.1 h.2).bind fun i =>
      sparseref01_DivMod_j4 g i.1 i.2
    else
      (sparseref01_FromInt 1).bind fun j =>
      (sparseref01_Sub a.1 a.2 j.1 j.2).bind fun k =>
      sparseref01_DivMod_j4 g k.1 k.2
  else
    sparseref01_DivMod_j3 a.1 a.2 b.1 b.2

def sparseref01_Int_l1 (b : Bool × LI) : Int × Int → Option ((Int × Int) ⊕ (Int)) := fun (c, a) =>
  if a < (b.2.length : Int) then
    (getI b.2 a).bind fun d =>
    (wshl .u64 (wc .u64 d) (wm .i64 32 a)).bind fun e =>
    some (.inl (wor .u64 c e, wa .i64 a 1))
  else
    some (.inr c)
def sparseref01_Int (c : Bool) (d : LI) : Option (Int × Bool) :=
  (sparseref01_Norm c d).bind fun b =>
  if (2 : Int) < (b.2.length : Int) then
    some (0, false)
  else
    (loop (sparseref01_Int_l1 b) (0, 0)).bind fun a =>
    if b.1 = true then
      if (9223372036854775808 : Int) < a then
        some (0, false)
      else
        some (ws .i64 (wneg .i64 (wc .i64 (ws .u64 a 1))) 1, true)
    else
      if (9223372036854775807 : Int) < a then
        some (0, false)
      else
        some (wc .i64 a, true)

def sparseref07_Reduce (c : Bool) (d : LI) (e : Int) : Option (Int) :=
  (sparseref01_FromInt e).bind fun a =>
  (sparseref01_DivMod c d a.1 a.2).bind fun b =>
  (sparseref01_Int b.2.2.1 b.2.2.2).bind fun f =>
  some f.1

def sparseref07_Power_j4 (a : Int) (b : Int) (c : Int) (d : Int) : Option ((Int × Int × Int) ⊕ (Int)) :=
  (wr (wm .i64 a a) b).bind fun e =>
  some (.inl (e, wqc .i64 c 2, d))
def sparseref07_Power_l3 (b : Int) : Int × Int × Int → Option ((Int × Int × Int) ⊕ (Int)) := fun (c, a, d) =>
  if (0 : Int) < a then
    if (wrc a 2) = 1 then
      (wr (wm .i64 d c) b).bind fun e =>
      sparseref07_Power_j4 c b a e
    else
      sparseref07_Power_j4 c b a d
  else
    some (.inr d)
def sparseref07_Power (b : Int) (c : Int) (a : Int) : Option (Int) :=
  (sparseref07_Mod b a).bind fun d =>
  (loop (sparseref07_Power_l3 a) (d, c, 1)).bind fun e =>
  some e

def sparseref07_Inverse (b : Int) (a : Int) : Option (Int) :=
  (sparseref07_Power b (ws .i64 a 2) a).bind fun c =>
  some c

def sparseref01_mulMag_l4 (e : LI) (i : LI) (b : Int) : LI × Int × Int → Option ((LI × Int × Int) ⊕ ((LI × Int))) := fun (c, d, a) =>
  if a < (e.length : Int) then
    (getI i b).bind fun f =>
    (getI e a).bind fun g =>
    (getI c (wa .i64 b a)).bind fun h =>
    (setI c (wa .i64 b a) (wc .u32 (wa .u64 (wa .u64 d (wm .u64 (wc .u64 f) (wc .u64 g))) (wc .u64 h)))).bind fun j =>
    some (.inl (j, wsrc .u64 (wa .u64 (wa .u64 d (wm .u64 (wc .u64 f) (wc .u64 g))) (wc .u64 h)) 32, wa .i64 a 1))
  else
    some (.inr (c, d))
def sparseref01_mulMag_l3 (b : LI) (c : LI) : LI × Int → Option ((LI × Int) ⊕ (LI)) := fun (d, a) =>
  if a < (b.length : Int) then
    (loop (sparseref01_mulMag_l4 c b a) (d, 0, 0)).bind fun (e, f) =>
    (setI e (wa .i64 a (c.length : Int)) (wc .u32 f)).bind fun g =>
    some (.inl (g, wa .i64 a 1))
  else
    some (.inr d)
def sparseref01_mulMag (a : LI) (b : LI) : Option (LI) :=
  (mkL 0 (wa .i64 (a.length : Int) (b.length : Int))).bind fun c =>
  (loop (sparseref01_mulMag_l3 a b) (c, 0)).bind fun d =>
  some d

def sparseref01_Mul (b : Bool) (c : LI) (d : Bool) (e : LI) : Option (Bool × LI) :=
  (sparseref01_trim c).bind fun f =>
  (sparseref01_trim e).bind fun g =>
  (sparseref01_mulMag f g).bind fun h =>
  (sparseref01_make1 (!((b == d))) h).bind fun a =>
  some (a.1, a.2)

def sparseref01_Shift_j2 (a : Bool) (b : LI) : Option (Bool × LI) :=
  some (a, b)
def sparseref01_Shift (h : Bool) (i : LI) (c : Int) : Option (Bool × LI) :=
  (sparseref01_Norm h i).bind fun a =>
  if (0 : Int) ≤ c then
    (sparseref01_shl a.2 c).bind fun j =>
    (sparseref01_make1 a.1 j).bind fun d =>
    some (d.1, d.2)
  else
    (sparseref01_shr a.2 (wneg .i64 c)).bind fun e =>
    (sparseref01_make1 a.1 e.1).bind fun b =>
    if (a.1 && e.2) = true then
      (sparseref01_FromInt 1).bind fun f =>
      (sparseref01_Sub b.1 b.2 f.1 f.2).bind fun g =>
      sparseref01_Shift_j2 g.1 g.2
    else
      sparseref01_Shift_j2 b.1 b.2
end M
