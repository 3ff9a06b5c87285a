/- Models of functions of the program, printed. -/
import Derived.Test.YtnfamnfdndaekaaGreatDoorM5
namespace M
open Sx
set_option linter.unusedVariables false
def sparseref01_GCD_l2 : Bool × LI × Bool × LI → Option ((Bool × LI × Bool × LI) ⊕ ((Bool × LI))) := fun (c, d, a, b) =>
  (sparseref01_Sign a b).bind fun f =>
  if f = 0 then
    some (.inr (c, d))
  else
    (sparseref01_DivMod c d a b).bind fun e =>
    some (.inl (a, b, e.2.2.1, e.2.2.2))
def sparseref01_GCD (c : Bool) (d : LI) (e : Bool) (f : LI) : Option (Bool × LI) :=
  (sparseref01_Abs c d).bind fun a =>
  (sparseref01_Abs e f).bind fun b =>
  (loop (sparseref01_GCD_l2) (a.1, a.2, b.1, b.2)).bind fun (g, h) =>
  some (g, h)

def sparseref07_Rational_j3 (k : Bool) (l : LI) (c : Bool) (d : LI) (a : Bool) (b : LI) : Option (Bool × LI × Bool × LI × Bool) :=
  (sparseref01_Mul a b a b).bind fun e =>
  (sparseref01_Shift e.1 e.2 1).bind fun f =>
  (sparseref01_Cmp f.1 f.2 k l).bind fun m =>
  (if (0 : Int) < m then
    some true
  else
    (sparseref01_GCD c d a b).bind fun g =>
    (sparseref01_FromInt 1).bind fun h =>
    (sparseref01_Cmp g.1 g.2 h.1 h.2).bind fun n =>
    some (!(decide (n = 0)))).bind fun o =>
  if o = true then
    some (false, [], false, [], false)
  else
    (sparseref01_Norm c d).bind fun i =>
    (sparseref01_Norm a b).bind fun j =>
    some (i.1, i.2, j.1, j.2, true)
def sparseref07_Rational_l2 (j : Bool) (k : LI) : Bool × LI × Bool × LI × Bool × LI × Bool × LI → Option ((Bool × LI × Bool × LI × Bool × LI × Bool × LI) ⊕ ((Bool × LI × Bool × LI))) := fun (l, m, a, b, n, o, d, e) =>
  (sparseref01_Mul a b a b).bind fun f =>
  (sparseref01_Shift f.1 f.2 1).bind fun g =>
  (sparseref01_Cmp g.1 g.2 j k).bind fun p =>
  if (0 : Int) < p then
    (sparseref01_DivMod l m a b).bind fun c =>
    (sparseref01_Mul c.1 c.2.1 d e).bind fun h =>
    (sparseref01_Sub n o h.1 h.2).bind fun i =>
    some (.inl (a, b, c.2.2.1, c.2.2.2, d, e, i.1, i.2))
  else
    some (.inr (a, b, d, e))
def sparseref07_Rational (k : Bool) (l : LI) (a : Bool) (b : LI) : Option (Bool × LI × Bool × LI × Bool) :=
  (sparseref01_Sign a b).bind fun m =>
  if m ≤ 0 then
    some (false, [], false, [], false)
  else
    (sparseref01_DivMod k l a b).bind fun e =>
    (sparseref01_FromInt 1).bind fun f =>
    (loop (sparseref07_Rational_l2 a b) (a, b, e.2.2.1, e.2.2.2, false, [], f.1, f.2)).bind fun (g, h, c, d) =>
    (sparseref01_Sign c d).bind fun n =>
    if n < 0 then
      (sparseref01_Neg g h).bind fun i =>
      (sparseref01_Neg c d).bind fun j =>
      sparseref07_Rational_j3 a b i.1 i.2 j.1 j.2
    else
      sparseref07_Rational_j3 a b g h c d

def sparsekit_Limbs_l1 (b : LI) (c : LI) : Int → Option ((Int) ⊕ (Unit ⊕ Unit)) := fun a =>
  if a < (b.length : Int) then
    (getI b a).bind fun d =>
    (getI c a).bind fun e =>
    if d = e then
      some (.inl (wa .i64 a 1))
    else
      some (.inr (.inr ()))
  else
    some (.inr (.inl ()))
def sparsekit_Limbs (a : LI) (b : LI) : Option (Bool) :=
  if (a.length : Int) = (b.length : Int) then
    (loop (sparsekit_Limbs_l1 a b) 0).bind (fun o => match o with
      | .inl () =>
        some true
      | .inr () =>
        some false)
  else
    some false

def sparsekit_Big (a : Bool) (b : LI) (c : Bool) (d : LI) : Option (Bool) :=
  (if (a == c) = true then
    (sparsekit_Limbs b d).bind fun e =>
    some e
  else
    some false).bind fun f =>
  some f

def sparsekit_Place (a : Int) (b : Int) : Option (Int) :=
  (wr (wc .u64 a) (wc .u64 b)).bind fun c =>
  some (wc .i64 c)

def sparseref01_Int_l1 (b : Bool × LI) : Int × Int → Option ((Int × Int) ⊕ (Int)) := fun (c, a) =>
  if a < (b.2.length : Int) then
    (getI b.2 a).bind fun d =>
    (wshl .u64 (wc .u64 d) (wm .i64 32 a)).bind fun e =>
    some (.inl (wor .u64 c e, wa .i64 a 1))
  else
    some (.inr c)
def sparseref01_Int (c : Bool) (d : LI) : Option (Int × Bool) :=
  (sparseref01_Norm c d).bind fun b =>
  if (2 : Int) < (b.2.length : Int) then
    some (0, false)
  else
    (loop (sparseref01_Int_l1 b) (0, 0)).bind fun a =>
    if b.1 = true then
      if (9223372036854775808 : Int) < a then
        some (0, false)
      else
        some (ws .i64 (wneg .i64 (wc .i64 (ws .u64 a 1))) 1, true)
    else
      if (9223372036854775807 : Int) < a then
        some (0, false)
      else
        some (wc .i64 a, true)

def sparselaw07_ModularRational (d : Bool) (e : LI) (f : Bool) (g : LI) (w : Int) (x : Int) (b2 : Int) : Option (Bool) :=
  (sparsekit_Slim d e 10).bind fun y =>
  (if y = true then
    (sparsekit_Slim f g 10).bind fun z =>
    some (!(z))
  else
    some true).bind fun a0 =>
  if a0 = true then
    (sparselaw07_awake).bind fun a1 =>
    some a1
  else
    (modular_Rational d e f g).bind fun a =>
    (sparseref07_Rational d e f g).bind fun b =>
    (sparsekit_Big a.1 a.2.1 b.1 b.2.1).bind fun a2 =>
    (if a2 = true then
      (sparsekit_Big a.2.2.1 a.2.2.2.1 b.2.2.1 b.2.2.2.1).bind fun a3 =>
      some (!(a3))
    else
      some true).bind fun a4 =>
    if (a4 || (!((a.2.2.2.2 == b.2.2.2.2)))) = true then
      some false
    else
      (sparsekit_Place w 2001).bind fun h =>
      (sparsekit_Place x 1000).bind fun i =>
      (sparseref01_FromInt (ws .i64 h 1000)).bind fun j =>
      (sparseref01_FromInt (wa .i64 1 i)).bind fun k =>
      (sparseref01_GCD j.1 j.2 k.1 k.2).bind fun l =>
      (sparseref01_Int l.1 l.2).bind fun m =>
      (wq .i64 (ws .i64 h 1000) m.1).bind fun n =>
      (wq .i64 (wa .i64 1 i) m.1).bind fun o =>
      (modular_Inverse o 2147483647).bind fun p =>
      (integer_FromInt n).bind fun q =>
      (integer_FromInt p.1).bind fun r =>
      (integer_Mul q.1 q.2 r.1 r.2).bind fun s =>
      (integer_FromInt 2147483647).bind fun t =>
      (modular_Rational s.1 s.2 t.1 t.2).bind fun c =>
      (if p.2 = 0 then
        some c.2.2.2.2
      else
        some false).bind fun a5 =>
      (if a5 = true then
        (sparseref01_FromInt n).bind fun u =>
        (sparsekit_Big c.1 c.2.1 u.1 u.2).bind fun a6 =>
        some a6
      else
        some false).bind fun a7 =>
      (if a7 = true then
        (sparseref01_FromInt o).bind fun v =>
        (sparsekit_Big c.2.2.1 c.2.2.2.1 v.1 v.2).bind fun a8 =>
        some a8
      else
        some false).bind fun a9 =>
      (if a9 = true then
        (sparselaw07_awake).bind fun b0 =>
        some b0
      else
        some false).bind fun b1 =>
      some b1
end M
