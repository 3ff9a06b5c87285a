/- Models of functions of the program, printed. -/
import Derived.Test.YtpfmbaidflhamaaGreatDoorM3
namespace M
open Sx
set_option linter.unusedVariables false
def sparseref01_Add (c : Bool) (h : LI) (d : Bool) (i : LI) : Option (Bool × LI) :=
  (sparseref01_trim h).bind fun a =>
  (sparseref01_trim i).bind fun b =>
  if (c == d) = true then
    (sparseref01_addMag a b).bind fun j =>
    (sparseref01_make1 c j).bind fun e =>
    some (e.1, e.2)
  else
    (sparseref01_cmpMag a b).bind fun k =>
    if (0 : Int) ≤ k then
      (sparseref01_subMag a b).bind fun l =>
      (sparseref01_make1 c l).bind fun f =>
      some (f.1, f.2)
    else
      (sparseref01_subMag b a).bind fun m =>
      (sparseref01_make1 d m).bind fun g =>
      some (g.1, g.2)

def sparseref01_Sub (c : Bool) (d : LI) (e : Bool) (f : LI) : Option (Bool × LI) :=
  (sparseref01_Neg e f).bind fun a =>
  (sparseref01_Add c d a.1 a.2).bind fun b =>
  some (b.1, b.2)

def sparseref01_Norm (b : Bool) (c : LI) : Option (Bool × LI) :=
  (sparseref01_make1 b c).bind fun a =>
  some (a.1, a.2)

def sparseref01_Sign (b : Bool) (c : LI) : Option (Int) :=
  (sparseref01_Norm b c).bind fun a =>
  if (a.2.length : Int) = 0 then
    some 0
  else
    if a.1 = true then
      some (-1)
    else
      some 1

def sparseref01_Cmp (b : Bool) (c : LI) (d : Bool) (e : LI) : Option (Int) :=
  (sparseref01_Sub b c d e).bind fun a =>
  (sparseref01_Sign a.1 a.2).bind fun f =>
  some f

def sparseref08_Symmetric_l4 (b : Int) (c : List (List (Bool × LI))) : Int → Option ((Int) ⊕ (Unit ⊕ Unit)) := fun a =>
  if a < b then
    (getI c b).bind fun f =>
    (getI f a).bind fun d =>
    (getI c a).bind fun g =>
    (getI g b).bind fun e =>
    (sparseref01_Cmp d.1 d.2 e.1 e.2).bind fun h =>
    if h = 0 then
      some (.inl (wa .i64 a 1))
    else
      some (.inr (.inr ()))
  else
    some (.inr (.inl ()))
def sparseref08_Symmetric_l3 (b : List (List (Bool × LI))) : Int → Option ((Int) ⊕ (Unit ⊕ Unit)) := fun a =>
  if a < (b.length : Int) then
    (loop (sparseref08_Symmetric_l4 a b) 0).bind (fun o => match o with
      | .inl () =>
        some (.inl (wa .i64 a 1))
      | .inr () =>
        some (.inr (.inr ())))
  else
    some (.inr (.inl ()))
def sparseref08_Symmetric (a : List (List (Bool × LI))) : Option (Bool) :=
  (loop (sparseref08_Symmetric_l3 a) 0).bind (fun o => match o with
    | .inl () =>
      some true
    | .inr () =>
      some false)

def sparseref01_FromInt_j1 (c : Int) (a : Int) : Option (Bool × LI) :=
  (sparseref01_make1 (decide (c < 0)) [wc .u32 a, wc .u32 (wsrc .u64 a 32)]).bind fun b =>
  some (b.1, b.2)
def sparseref01_FromInt (a : Int) : Option (Bool × LI) :=
  if a < 0 then
    sparseref01_FromInt_j1 a (wa .u64 (wc .u64 (wneg .i64 (wa .i64 a 1))) 1)
  else
    sparseref01_FromInt_j1 a (wc .u64 a)

def sparseref08_fracs_l4 (b : List (List (Bool × LI))) (c : Int) : (List (Bool × LI × Bool × LI)) × Int → Option (((List (Bool × LI × Bool × LI)) × Int) ⊕ (((List (Bool × LI × Bool × LI))))) := fun (d, a) =>
  (getI b c).bind fun h =>
  if a < (h.length : Int) then
    (getI b c).bind fun i =>
    (getI i a).bind fun e =>
    (sparseref01_Norm e.1 e.2).bind fun f =>
    (sparseref01_FromInt 1).bind fun g =>
    (app d [(f.1, f.2, g.1, g.2)]).bind fun j =>
    some (.inl (j, wa .i64 a 1))
  else
    some (.inr d)
def sparseref08_fracs_l3 (b : List (List (Bool × LI))) : (List (List (Bool × LI × Bool × LI))) × Int → Option (((List (List (Bool × LI × Bool × LI))) × Int) ⊕ (((List (List (Bool × LI × Bool × LI)))))) := fun (c, a) =>
  if a < (b.length : Int) then
    (loop (sparseref08_fracs_l4 b a) ([], 0)).bind fun d =>
    (app c [d]).bind fun e =>
    some (.inl (e, wa .i64 a 1))
  else
    some (.inr c)
def sparseref08_fracs (a : List (List (Bool × LI))) : Option ((List (List (Bool × LI × Bool × LI)))) :=
  (loop (sparseref08_fracs_l3 a) ([], 0)).bind fun b =>
  some b

def sparseref08_zero (a : Bool) (b : LI) (d : Bool) (e : LI) : Option (Bool) :=
  (sparseref01_Sign a b).bind fun c =>
  some (decide (c = 0))

def sparseref08_pivot_l5 (d : Int) (a : LI) (e : List (List (Bool × LI × Bool × LI))) : Int → Option ((Int) ⊕ (Unit ⊕ (Int × Int))) := fun b =>
  if b < d then
    (getI a d).bind fun f =>
    (getI e f).bind fun g =>
    (getI a b).bind fun h =>
    (getI g h).bind fun c =>
    (sparseref08_zero c.1 c.2.1 c.2.2.1 c.2.2.2).bind fun i =>
    if i = true then
      some (.inl (wa .i64 b 1))
    else
      (getI a d).bind fun j =>
      (getI a b).bind fun k =>
      some (.inr (.inr (j, k)))
  else
    some (.inr (.inl ()))
def sparseref08_pivot_l4 (b : LI) (c : List (List (Bool × LI × Bool × LI))) : Int → Option ((Int) ⊕ (Unit ⊕ (Int × Int))) := fun a =>
  if a < (b.length : Int) then
    (loop (sparseref08_pivot_l5 a b c) 0).bind (fun o => match o with
      | .inl () =>
        some (.inl (wa .i64 a 1))
      | .inr (d, e) =>
        some (.inr (.inr (d, e))))
  else
    some (.inr (.inl ()))
def sparseref08_pivot_l1 (b : LI) (d : List (List (Bool × LI × Bool × LI))) : Int → Option ((Int) ⊕ (Unit ⊕ (Int × Int))) := fun a =>
  if a < (b.length : Int) then
    (getI b a).bind fun e =>
    (getI d e).bind fun f =>
    (getI b a).bind fun g =>
    (getI f g).bind fun c =>
    (sparseref08_zero c.1 c.2.1 c.2.2.1 c.2.2.2).bind fun h =>
    if h = true then
      some (.inl (wa .i64 a 1))
    else
      (getI b a).bind fun i =>
      (getI b a).bind fun j =>
      some (.inr (.inr (i, j)))
  else
    some (.inr (.inl ()))
def sparseref08_pivot (a : List (List (Bool × LI × Bool × LI))) (b : LI) : Option (Int × Int) :=
  (loop (sparseref08_pivot_l1 b a) 0).bind (fun o => match o with
    | .inl () =>
      (loop (sparseref08_pivot_l4 b a) 0).bind (fun o => match o with
        | .inl () =>
          some ((-1), (-1))
        | .inr (c, d) =>
          some (c, d))
    | .inr (e, f) =>
      some (e, f))

def sparseref01_mulMag_l4 (e : LI) (i : LI) (b : Int) : LI × Int × Int → Option ((LI × Int × Int) ⊕ ((LI × Int))) := fun (c, d, a) =>
  if a < (e.length : Int) then
    (getI i b).bind fun f =>
    (getI e a).bind fun g =>
    (getI c (wa .i64 b a)).bind fun h =>
    (setI c (wa .i64 b a) (wc .u32 (wa .u64 (wa .u64 d (wm .u64 (wc .u64 f) (wc .u64 g))) (wc .u64 h)))).bind fun j =>
    some (.inl (j, wsrc .u64 (wa .u64 (wa .u64 d (wm .u64 (wc .u64 f) (wc .u64 g))) (wc .u64 h)) 32, wa .i64 a 1))
  else
    some (.inr (c, d))
def sparseref01_mulMag_l3 (b : LI) (c : LI) : LI × Int → Option ((LI × Int) ⊕ (LI)) := fun (d, a) =>
  if a < (b.length : Int) then
    (loop (sparseref01_mulMag_l4 c b a) (d, 0, 0)).bind fun (e, f) =>
    (setI e (wa .i64 a (c.length : Int)) (wc .u32 f)).bind fun g =>
    some (.inl (g, wa .i64 a 1))
  else
    some (.inr d)
def sparseref01_mulMag (a : LI) (b : LI) : Option (LI) :=
  (mkL 0 (wa .i64 (a.length : Int) (b.length : Int))).bind fun c =>
  (loop (sparseref01_mulMag_l3 a b) (c, 0)).bind fun d =>
  some d

def sparseref01_Mul (b : Bool) (c : LI) (d : Bool) (e : LI) : Option (Bool × LI) :=
  (sparseref01_trim c).bind fun f =>
  (sparseref01_trim e).bind fun g =>
  (sparseref01_mulMag f g).bind fun h =>
  (sparseref01_make1 (!((b == d))) h).bind fun a =>
  some (a.1, a.2)

def sparseref01_Abs (c : Bool) (b : LI) : Option (Bool × LI) :=
  (sparseref01_make1 false b).bind fun a =>
  some (a.1, a.2)

def sparseref01_shl_l1 (c : LI) (f : Int) : LI × Int × Int → Option ((LI × Int × Int) ⊕ ((LI × Int))) := fun (d, a, b) =>
  if b < (c.length : Int) then
    (getI c b).bind fun g =>
    (wshl .u64 (wc .u64 g) (wrc f 32)).bind fun e =>
    (app d [wc .u32 (wor .u64 a e)]).bind fun h =>
    some (.inl (h, wsrc .u64 (wor .u64 a e) 32, wa .i64 b 1))
  else
    some (.inr (d, a))
def sparseref01_shl (b : LI) (a : Int) : Option (LI) :=
  (mkL 0 (wqc .i64 a 32)).bind fun c =>
  (loop (sparseref01_shl_l1 b a) (c, 0, 0)).bind fun (d, e) =>
  (app d [wc .u32 e]).bind fun f =>
  some f
end M
