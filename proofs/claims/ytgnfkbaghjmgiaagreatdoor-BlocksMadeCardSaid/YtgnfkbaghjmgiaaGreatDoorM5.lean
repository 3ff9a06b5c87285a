/- Models of functions of the program, printed. -/
import Derived.Test.YtgnfkbaghjmgiaaGreatDoorM4
namespace M
open Sx
set_option linter.unusedVariables false
def sparseref01_BitLen (e : Bool) (b : LI) : Option (Int) :=
  (sparseref01_trim b).bind fun a =>
  if (a.length : Int) = 0 then
    some 0
  else
    (getI a (ws .i64 (a.length : Int) 1)).bind fun c =>
    (math_bits_Len32 c).bind fun d =>
    some (wa .i64 (wm .i64 32 (ws .i64 (a.length : Int) 1)) d)

def sparseref02_Make (g : Bool) (i : LI) (b : Int) : Option (Bool × Bool × LI × Int) :=
  (sparseref01_Norm g i).bind fun a =>
  if (a.2.length : Int) = 0 then
    some (false, false, [], 0)
  else
    if (65536 : Int) < b then
      (sparseref02_Bad).bind fun d =>
      some (d.1, d.2.1, [], d.2.2)
    else
      (sparseref01_TrailingZeros a.1 a.2).bind fun c =>
      (sparseref01_Abs a.1 a.2).bind fun h =>
      (sparseref02_down h.1 h.2 c).bind fun e =>
      (if (wa .i64 b c) < (-65536) then
        some true
      else
        (sparseref01_BitLen e.1 e.2).bind fun j =>
        some (decide ((65536 : Int) < (wa .i64 (wa .i64 b c) j)))).bind fun k =>
      if k = true then
        (sparseref02_Bad).bind fun f =>
        some (f.1, f.2.1, [], f.2.2)
      else
        some (false, g, e.2, wa .i64 b c)

def sparseref02_FromInt (c : Int) : Option (Bool × Bool × LI × Int) :=
  (sparseref01_FromInt c).bind fun b =>
  (sparseref02_Make b.1 b.2 0).bind fun a =>
  some (a.1, a.2.1, a.2.2.1, a.2.2.2)

def sparseref02_Norm (c : Bool) (d : Bool) (e : LI) (f : Int) : Option (Bool × Bool × LI × Int) :=
  if c = true then
    (sparseref02_Bad).bind fun b =>
    some (b.1, b.2.1, [], b.2.2)
  else
    (sparseref02_Make d e f).bind fun a =>
    some (a.1, a.2.1, a.2.2.1, a.2.2.2)

def sparseref01_Sign (b : Bool) (c : LI) : Option (Int) :=
  (sparseref01_Norm b c).bind fun a =>
  if (a.2.length : Int) = 0 then
    some 0
  else
    if a.1 = true then
      some (-1)
    else
      some 1

def sparseref02_Scale (e : Bool) (f : Bool) (g : LI) (h : Int) (c : Int) : Option (Bool × Bool × LI × Int) :=
  (sparseref02_Norm e f g h).bind fun a =>
  (if a.1 = true then
    some true
  else
    (sparseref01_Sign a.2.1 a.2.2.1).bind fun i =>
    some (decide (i = 0))).bind fun j =>
  if j = true then
    some (a.1, a.2.1, a.2.2.1, a.2.2.2)
  else
    if ((decide ((262144 : Int) < c)) || (decide (c < (-262144)))) = true then
      (sparseref02_Bad).bind fun d =>
      some (d.1, d.2.1, [], d.2.2)
    else
      (sparseref02_Make a.2.1 a.2.2.1 (wa .i64 a.2.2.2 c)).bind fun b =>
      some (b.1, b.2.1, b.2.2.1, b.2.2.2)

def sparseref03_signed (b : Bool) (a : Int) : Option (Int) :=
  if b = true then
    some (wor .u64 a 9223372036854775808)
  else
    some a

def sparseref03_over (a : Bool) (b : Int) : Option (Int) :=
  if (((decide (b = 3)) || ((decide (b = 1)) && (!(a)))) || ((decide (b = 2)) && a)) = true then
    (sparseref03_signed a 9218868437227405311).bind fun c =>
    some c
  else
    (sparseref03_signed a 9218868437227405312).bind fun d =>
    some d

def sparseref01_Lost (e : Bool) (a : LI) (b : Int) : Option (Bool) :=
  (sparseref01_trim a).bind fun c =>
  (sparseref01_shr c b).bind fun d =>
  some d.2

def sparseref02_Up (b : Bool) (c : Int) (d : Bool) (a : Int) : Option (Bool) :=
  if a = 1 then
    some b
  else
    if a = 2 then
      some (!(b))
    else
      if a = 3 then
        some false
      else
        some ((decide ((0 : Int) < c)) || ((decide (c = 0)) && d))

def sparseref02_Cut_j10 (a : Bool) (b : LI) : Option (Bool × LI) :=
  some (a, b)
def sparseref02_Cut_j8 (a : Bool × LI) (d : Bool) (e : Int) (f : Int) : Option (Bool × LI) :=
  (sparseref01_Sign a.1 a.2).bind fun g =>
  (if g = 0 then
    some false
  else
    (sparseref01_TrailingZeros a.1 a.2).bind fun h =>
    some (decide (h = 0))).bind fun i =>
  (sparseref02_Up d f i e).bind fun j =>
  if j = true then
    (sparseref01_FromInt 1).bind fun b =>
    (sparseref01_Add a.1 a.2 b.1 b.2).bind fun c =>
    sparseref02_Cut_j10 c.1 c.2
  else
    sparseref02_Cut_j10 a.1 a.2
def sparseref02_Cut_j14 (a : Bool × LI) (b : Bool) (c : Int) (d : Int) : Option (Bool × LI) :=
  sparseref02_Cut_j8 a b c d
def sparseref02_Cut_j16 (a : Bool × LI) (b : Bool) (c : Int) (d : Int) : Option (Bool × LI) :=
  sparseref02_Cut_j14 a b c d
def sparseref02_Cut (c : Bool) (d : Bool) (e : LI) (b : Int) (h : Bool) (f : Int) : Option (Bool × LI) :=
  (sparseref02_down d e b).bind fun a =>
  (sparseref01_Lost d e b).bind fun i =>
  if ((!(i)) && (!(h))) = true then
    some (a.1, a.2)
  else
    if (0 : Int) < b then
      (sparseref02_down d e (ws .i64 b 1)).bind fun g =>
      (sparseref01_TrailingZeros g.1 g.2).bind fun j =>
      (if j = 0 then
        (sparseref01_Sign g.1 g.2).bind fun k =>
        some (!(decide (k = 0)))
      else
        some false).bind fun l =>
      if l = true then
        (if h = true then
          some true
        else
          (sparseref01_Lost d e (ws .i64 b 1)).bind fun m =>
          some m).bind fun n =>
        if n = true then
          sparseref02_Cut_j16 a c f 1
        else
          sparseref02_Cut_j16 a c f 0
      else
        sparseref02_Cut_j14 a c f (-1)
    else
      sparseref02_Cut_j8 a c f (-1)

def sparseref01_Int_l1 (b : Bool × LI) : Int × Int → Option ((Int × Int) ⊕ (Int)) := fun (c, a) =>
  if a < (b.2.length : Int) then
    (getI b.2 a).bind fun d =>
    (wshl .u64 (wc .u64 d) (wm .i64 32 a)).bind fun e =>
    some (.inl (wor .u64 c e, wa .i64 a 1))
  else
    some (.inr c)
def sparseref01_Int (c : Bool) (d : LI) : Option (Int × Bool) :=
  (sparseref01_Norm c d).bind fun b =>
  if (2 : Int) < (b.2.length : Int) then
    some (0, false)
  else
    (loop (sparseref01_Int_l1 b) (0, 0)).bind fun a =>
    if b.1 = true then
      if (9223372036854775808 : Int) < a then
        some (0, false)
      else
        some (ws .i64 (wneg .i64 (wc .i64 (ws .u64 a 1))) 1, true)
    else
      if (9223372036854775807 : Int) < a then
        some (0, false)
      else
        some (wc .i64 a, true)

def sparseref03_rounded_j2 (b : Bool) (d : Int) (c : Int) (a : Int) : Option (Int) :=
  if ((decide ((4503599627370496 : Int) ≤ a)) && (decide ((1024 : Int) < (wa .i64 c 53)))) = true then
    (sparseref03_over b d).bind fun e =>
    some e
  else
    if (4503599627370496 : Int) ≤ a then
      (sparseref03_signed b (wor .u64 (wslc .u64 (wc .u64 (wa .i64 c 1075)) 52) (wc .u64 (ws .i64 a 4503599627370496)))).bind fun f =>
      some f
    else
      (sparseref03_signed b (wc .u64 a)).bind fun g =>
      some g
def sparseref03_rounded_j1 (a : Bool) (b : Int) (c : Int) (d : Int) (f : Bool) (g : LI) : Option (Int) :=
  (sparseref01_Int f g).bind fun e =>
  if e.1 = 9007199254740992 then
    sparseref03_rounded_j2 a b (wa .i64 (imax (ws .i64 (ws .i64 (wa .i64 c d) 1) 52) (-1074)) 1) 4503599627370496
  else
    sparseref03_rounded_j2 a b (imax (ws .i64 (ws .i64 (wa .i64 c d) 1) 52) (-1074)) e.1
def sparseref03_rounded (c : Bool) (e : Bool) (f : LI) (a : Int) (i : Bool) (d : Int) : Option (Int) :=
  (sparseref01_BitLen e f).bind fun b =>
  if (1024 : Int) ≤ (ws .i64 (wa .i64 a b) 1) then
    (sparseref03_over c d).bind fun j =>
    some j
  else
    if a ≤ (imax (ws .i64 (ws .i64 (wa .i64 a b) 1) 52) (-1074)) then
      (sparseref02_Cut c e f (ws .i64 (imax (ws .i64 (ws .i64 (wa .i64 a b) 1) 52) (-1074)) a) i d).bind fun g =>
      sparseref03_rounded_j1 c d a b g.1 g.2
    else
      (sparseref01_Shift e f (ws .i64 a (imax (ws .i64 (ws .i64 (wa .i64 a b) 1) 52) (-1074)))).bind fun h =>
      sparseref03_rounded_j1 c d a b h.1 h.2

def sparseref03_Round (c : Bool) (d : Bool) (e : LI) (f : Int) (g : Int) : Option (Int) :=
  (sparseref02_Norm c d e f).bind fun a =>
  if a.1 = true then
    some 9221120237041090560
  else
    (sparseref01_Sign a.2.1 a.2.2.1).bind fun h =>
    if h = 0 then
      some 0
    else
      (sparseref01_Abs a.2.1 a.2.2.1).bind fun b =>
      (sparseref03_rounded a.2.1 b.1 b.2 a.2.2.2 false g).bind fun i =>
      some i
end M
