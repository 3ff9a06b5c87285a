/- Models of functions of the program, printed. -/
import Derived.Test.YtnfamnfdndaekaaGreatDoorM3
namespace M
open Sx
set_option linter.unusedVariables false
def sparselaw07_modulus (a : Int) : Option (Bool) :=
  some ((decide (a < 100000)) || (decide ((2147483637 : Int) < a)))

def sparseref07_IsPrime_l2 (b : Int) : Int → Option ((Int) ⊕ (Unit ⊕ Unit)) := fun a =>
  if (wm .i64 a a) ≤ b then
    (wr b a).bind fun c =>
    if c = 0 then
      some (.inr (.inr ()))
    else
      some (.inl (wa .i64 a 1))
  else
    some (.inr (.inl ()))
def sparseref07_IsPrime (a : Int) : Option (Bool) :=
  if ((decide (a < 2)) || (decide ((2147483647 : Int) < a))) = true then
    some false
  else
    (loop (sparseref07_IsPrime_l2 a) 2).bind (fun o => match o with
      | .inl () =>
        some true
      | .inr () =>
        some false)

def sparsekit_In_l1 (b : LI) (c : Int) : Int → Option ((Int) ⊕ (Unit ⊕ Unit)) := fun a =>
  if a < (b.length : Int) then
    (getI b a).bind fun d =>
    if d = c then
      some (.inr (.inr ()))
    else
      some (.inl (wa .i64 a 1))
  else
    some (.inr (.inl ()))
def sparsekit_In (a : LI) (b : Int) : Option (Bool) :=
  (loop (sparsekit_In_l1 a b) 0).bind (fun o => match o with
    | .inl () =>
      some false
    | .inr () =>
      some true)

def sparseref01_trim_l4 (c : Int) (d : LI) : LI × Int → Option ((LI × Int) ⊕ (LI)) := fun (b, a) =>
  if a < c then
    (getI d a).bind fun e =>
    (app b [e]).bind fun f =>
    some (.inl (f, wa .i64 a 1))
  else
    some (.inr b)
def sparseref01_trim_l3 (b : LI) : Int → Option ((Int) ⊕ (Int)) := fun a =>
  (if (0 : Int) < a then
    (getI b (ws .i64 a 1)).bind fun c =>
    some (decide (c = 0))
  else
    some false).bind fun d =>
  if d = true then
    some (.inl (ws .i64 a 1))
  else
    some (.inr a)
def sparseref01_trim (a : LI) : Option (LI) :=
  (loop (sparseref01_trim_l3 a) (a.length : Int)).bind fun b =>
  (loop (sparseref01_trim_l4 b a) ([], 0)).bind fun c =>
  some c

def sparseref01_make1 (b : Bool) (c : LI) : Option (Bool × LI) :=
  (sparseref01_trim c).bind fun a =>
  some ((b && (decide ((0 : Int) < (a.length : Int)))), a)

def sparseref01_FromInt_j1 (c : Int) (a : Int) : Option (Bool × LI) :=
  (sparseref01_make1 (decide (c < 0)) [wc .u32 a, wc .u32 (wsrc .u64 a 32)]).bind fun b =>
  some (b.1, b.2)
def sparseref01_FromInt (a : Int) : Option (Bool × LI) :=
  if a < 0 then
    sparseref01_FromInt_j1 a (wa .u64 (wc .u64 (wneg .i64 (wa .i64 a 1))) 1)
  else
    sparseref01_FromInt_j1 a (wc .u64 a)

def sparseref07_Mod_j1 (a : Int) : Option (Int) :=
  some a
def sparseref07_Mod (c : Int) (b : Int) : Option (Int) :=
  (wr c b).bind fun a =>
  if a < 0 then
    sparseref07_Mod_j1 (wa .i64 a b)
  else
    sparseref07_Mod_j1 a

def sparseref01_Norm (b : Bool) (c : LI) : Option (Bool × LI) :=
  (sparseref01_make1 b c).bind fun a =>
  some (a.1, a.2)

def sparseref01_cmpMag_l1 (b : LI) (c : LI) : Int → Option ((Int) ⊕ (Unit ⊕ Int)) := fun a =>
  if (0 : Int) ≤ a then
    (getI b a).bind fun d =>
    (getI c a).bind fun e =>
    if d = e then
      some (.inl (ws .i64 a 1))
    else
      (getI b a).bind fun f =>
      (getI c a).bind fun g =>
      if f < g then
        some (.inr (.inr (-1)))
      else
        some (.inr (.inr 1))
  else
    some (.inr (.inl ()))
def sparseref01_cmpMag (a : LI) (b : LI) : Option (Int) :=
  if (a.length : Int) = (b.length : Int) then
    (loop (sparseref01_cmpMag_l1 a b) (ws .i64 (a.length : Int) 1)).bind (fun o => match o with
      | .inl () =>
        some 0
      | .inr c =>
        some c)
  else
    if (a.length : Int) < (b.length : Int) then
      some (-1)
    else
      some 1

def sparseref01_shl_l1 (c : LI) (f : Int) : LI × Int × Int → Option ((LI × Int × Int) ⊕ ((LI × Int))) := fun (d, a, b) =>
  if b < (c.length : Int) then
    (getI c b).bind fun g =>
    (wshl .u64 (wc .u64 g) (wrc f 32)).bind fun e =>
    (app d [wc .u32 (wor .u64 a e)]).bind fun h =>
    some (.inl (h, wsrc .u64 (wor .u64 a e) 32, wa .i64 b 1))
  else
    some (.inr (d, a))
def sparseref01_shl (b : LI) (a : Int) : Option (LI) :=
  (mkL 0 (wqc .i64 a 32)).bind fun c =>
  (loop (sparseref01_shl_l1 b a) (c, 0, 0)).bind fun (d, e) =>
  (app d [wc .u32 e]).bind fun f =>
  some f

def sparseref01_take_l4 (c : LI) (d : LI) (e : Int) : LI × Int → Option ((LI × Int) ⊕ (LI)) := fun (b, a) =>
  if a ≤ (c.length : Int) then
    (getI d a).bind fun f =>
    (setI b (wa .i64 a e) f).bind fun g =>
    some (.inl (g, wa .i64 a 1))
  else
    some (.inr b)
def sparseref01_take_j5 (e : LI) (a : Int) (f : Int) (g : LI) (c : Int) (b : Int) : Option ((LI × Int × Int × Int) ⊕ ((LI × Int))) :=
  (getI e (wa .i64 a f)).bind fun d =>
  (setI g a (wc .u32 (ws .u64 (ws .u64 (wc .u64 d) c) (wand .u64 b 4294967295)))).bind fun h =>
  some (.inl (h, wsrc .u64 (ws .u64 (ws .u64 (wc .u64 d) c) (wand .u64 b 4294967295)) 63, wsrc .u64 b 32, wa .i64 a 1))
def sparseref01_take_l3 (b : LI) (e : LI) (f : Int) (h : Int) : LI × Int × Int × Int → Option ((LI × Int × Int × Int) ⊕ ((LI × Int))) := fun (c, d, g, a) =>
  if a ≤ (b.length : Int) then
    if a < (b.length : Int) then
      (getI b a).bind fun i =>
      sparseref01_take_j5 e a f c d (wa .u64 g (wm .u64 h (wc .u64 i)))
    else
      sparseref01_take_j5 e a f c d g
  else
    some (.inr (c, d))
def sparseref01_take (a : LI) (b : LI) (c : Int) (d : Int) : Option (LI × Bool) :=
  (mkL 0 (wa .i64 (b.length : Int) 1)).bind fun e =>
  (loop (sparseref01_take_l3 b a c d) (e, 0, 0, 0)).bind fun (f, g) =>
  if g = 0 then
    (loop (sparseref01_take_l4 b f c) (a, 0)).bind fun h =>
    some (h, true)
  else
    some (a, false)

def sparseref01_shr_j20 (a : Int) (b : Int) (c : LI) (d : Int) (e : Bool) : Option ((Bool × LI × Int) ⊕ ((Bool × LI))) :=
  (wshr .u64 a (wrc b 32)).bind fun f =>
  (app c [wc .u32 f]).bind fun g =>
  some (.inl (e, g, wa .i64 d 1))
def sparseref01_shr_j16 (a : Int) (b : Int) (e : LI) (c : LI) (f : Bool) (d : Int) : Option ((Bool × LI × Int) ⊕ ((Bool × LI))) :=
  (if a = (wqc .i64 b 32) then
    (getI e a).bind fun g =>
    (wshl .u32 1 (wrc b 32)).bind fun h =>
    some (!(decide ((wand .u32 g (ws .u32 h 1)) = 0)))
  else
    some false).bind fun i =>
  if i = true then
    sparseref01_shr_j20 d b c a true
  else
    sparseref01_shr_j20 d b c a f
def sparseref01_shr_l15 (a : LI) (e : Int) : Bool × LI × Int → Option ((Bool × LI × Int) ⊕ ((Bool × LI))) := fun (c, d, b) =>
  if b < (a.length : Int) then
    (getI a b).bind fun f =>
    if (wa .i64 b 1) < (a.length : Int) then
      (getI a (wa .i64 b 1)).bind fun g =>
      sparseref01_shr_j16 b e a d c (wor .u64 (wc .u64 f) (wslc .u64 (wc .u64 g) 32))
    else
      sparseref01_shr_j16 b e a d c (wc .u64 f)
  else
    some (.inr (c, d))
def sparseref01_shr_l4 (d : Int) (b : LI) : Bool × Int → Option ((Bool × Int) ⊕ (Bool)) := fun (c, a) =>
  if ((decide (a < (wqc .i64 d 32))) && (decide (a < (b.length : Int)))) = true then
    (if c = true then
      some true
    else
      (getI b a).bind fun e =>
      some (!(decide (e = 0)))).bind fun f =>
    some (.inl (f, wa .i64 a 1))
  else
    some (.inr c)
def sparseref01_shr (b : LI) (a : Int) : Option (LI × Bool) :=
  (loop (sparseref01_shr_l4 a b) (false, 0)).bind fun c =>
  (loop (sparseref01_shr_l15 b a) (c, [], wqc .i64 a 32)).bind fun (d, e) =>
  some (e, d)

def sparseref01_divMag_l5 (c : LI) (d : Int) : LI × Int → Option ((LI × Int) ⊕ ((LI × Int))) := fun (e, a) =>
  (sparseref01_take e c d a).bind fun b =>
  if b.2 = true then
    some (.inr (b.1, a))
  else
    some (.inl (b.1, ws .u64 a 1))
def sparseref01_divMag_l4 (c : LI) (d : LI) : LI × LI × Int → Option ((LI × LI × Int) ⊕ ((LI × LI))) := fun (b, e, a) =>
  if (0 : Int) ≤ a then
    (getI b (wa .i64 a (c.length : Int))).bind fun f =>
    (getI b (ws .i64 (wa .i64 a (c.length : Int)) 1)).bind fun g =>
    (getI d (ws .i64 (c.length : Int) 1)).bind fun h =>
    (wq .u64 (wor .u64 (wslc .u64 (wc .u64 f) 32) (wc .u64 g)) (wc .u64 h)).bind fun i =>
    (loop (sparseref01_divMag_l5 d a) (b, imin i 4294967295)).bind fun (j, k) =>
    (setI e a (wc .u32 k)).bind fun l =>
    some (.inl (j, l, ws .i64 a 1))
  else
    some (.inr (b, e))
def sparseref01_divMag_j1 (b : LI) (a : LI) (c : LI) (d : Int) (e : LI) : Option (LI × LI) :=
  (mkL 0 (wa .i64 (ws .i64 (b.length : Int) (a.length : Int)) 1)).bind fun f =>
  (loop (sparseref01_divMag_l4 a c) (e, f, ws .i64 (b.length : Int) (a.length : Int))).bind fun (g, h) =>
  (sparseref01_trim g).bind fun i =>
  (sparseref01_shr i d).bind fun j =>
  (sparseref01_trim h).bind fun k =>
  (sparseref01_trim j.1).bind fun l =>
  some (k, l)
def sparseref01_divMag (b : LI) (a : LI) : Option (LI × LI) :=
  (sparseref01_cmpMag b a).bind fun f =>
  if f < 0 then
    some ([], b)
  else
    (getI a (ws .i64 (a.length : Int) 1)).bind fun g =>
    (math_bits_LeadingZeros32 g).bind fun c =>
    (sparseref01_shl b c).bind fun d =>
    (sparseref01_shl a c).bind fun h =>
    (sli h 0 (a.length : Int)).bind fun e =>
    if (d.length : Int) = (b.length : Int) then
      (app d [0]).bind fun i =>
      sparseref01_divMag_j1 b a e c i
    else
      sparseref01_divMag_j1 b a e c d

def sparseref01_Sign (b : Bool) (c : LI) : Option (Int) :=
  (sparseref01_Norm b c).bind fun a =>
  if (a.2.length : Int) = 0 then
    some 0
  else
    if a.1 = true then
      some (-1)
    else
      some 1
end M
