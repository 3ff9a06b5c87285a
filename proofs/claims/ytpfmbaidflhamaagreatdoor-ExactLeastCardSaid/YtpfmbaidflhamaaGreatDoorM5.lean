/- Models of functions of the program, printed. -/
import Derived.Test.YtpfmbaidflhamaaGreatDoorM4
namespace M
open Sx
set_option linter.unusedVariables false
def sparseref08_Times_l1 (b : List (List (Bool × LI))) (e : List (Bool × LI)) : (List (Bool × LI)) × Int → Option (((List (Bool × LI)) × Int) ⊕ (((List (Bool × LI))))) := fun (c, a) =>
  if a < (b.length : Int) then
    (getI b a).bind fun f =>
    (sparseref08_Dot f e).bind fun d =>
    (app c [(d.1, d.2)]).bind fun g =>
    some (.inl (g, wa .i64 a 1))
  else
    some (.inr c)
def sparseref08_Times (a : List (List (Bool × LI))) (b : List (Bool × LI)) : Option ((List (Bool × LI))) :=
  (loop (sparseref08_Times_l1 a b) ([], 0)).bind fun c =>
  some c

def sparseref08_Cols (a : List (List (Bool × LI))) : Option (Int) :=
  if (a.length : Int) = 0 then
    some 0
  else
    (getI a 0).bind fun b =>
    some (b.length : Int)

def sparseref08_Transpose_l4 (b : List (List (Bool × LI))) (e : Int) : (List (Bool × LI)) × Int → Option (((List (Bool × LI)) × Int) ⊕ (((List (Bool × LI))))) := fun (c, a) =>
  if a < (b.length : Int) then
    (getI b a).bind fun f =>
    (getI f e).bind fun d =>
    (app c [(d.1, d.2)]).bind fun g =>
    some (.inl (g, wa .i64 a 1))
  else
    some (.inr c)
def sparseref08_Transpose_l3 (b : List (List (Bool × LI))) : (List (List (Bool × LI))) × Int → Option (((List (List (Bool × LI))) × Int) ⊕ (((List (List (Bool × LI)))))) := fun (c, a) =>
  (sparseref08_Cols b).bind fun d =>
  if a < d then
    (loop (sparseref08_Transpose_l4 b a) ([], 0)).bind fun e =>
    (app c [e]).bind fun f =>
    some (.inl (f, wa .i64 a 1))
  else
    some (.inr c)
def sparseref08_Transpose (a : List (List (Bool × LI))) : Option ((List (List (Bool × LI)))) :=
  (loop (sparseref08_Transpose_l3 a) ([], 0)).bind fun b =>
  some b

def sparseref01_Norm (b : Bool) (c : LI) : Option (Bool × LI) :=
  (sparseref01_make1 b c).bind fun a =>
  some (a.1, a.2)

def sparseref01_Sign (b : Bool) (c : LI) : Option (Int) :=
  (sparseref01_Norm b c).bind fun a =>
  if (a.2.length : Int) = 0 then
    some 0
  else
    if a.1 = true then
      some (-1)
    else
      some 1

def sparselaw08_ExactLeast_l12 (b : Int) (d : Int) (e : List (Bool × LI)) : Int → Option ((Int) ⊕ (Unit ⊕ Unit)) := fun a =>
  if ((decide (a < (wa .i64 1 b))) && (decide ((wa .i64 1 d) = (wa .i64 1 b)))) = true then
    (getI e a).bind fun c =>
    (sparseref01_Sign c.1 c.2).bind fun f =>
    if f = 0 then
      some (.inl (wa .i64 a 1))
    else
      some (.inr (.inr ()))
  else
    some (.inr (.inl ()))
def sparselaw08_ExactLeast_l9 (c : Int) (d : (List (Bool × LI))) : Int → Option ((Int) ⊕ (Unit ⊕ Unit)) := fun a =>
  if a < (wa .i64 1 c) then
    (getI d a).bind fun b =>
    (sparseref01_Sign b.1 b.2).bind fun e =>
    if e = 0 then
      some (.inl (wa .i64 a 1))
    else
      some (.inr (.inr ()))
  else
    some (.inr (.inl ()))
def sparselaw08_ExactLeast_l8 (h : Int) (i : List (Bool × LI)) (c : (List (Bool × LI)) × Bool × LI × Int) : (List (Bool × LI)) × Int → Option (((List (Bool × LI)) × Int) ⊕ (((List (Bool × LI))))) := fun (b, a) =>
  if a < (wa .i64 1 h) then
    (getI b a).bind fun d =>
    (getI i a).bind fun e =>
    (integer_Mul c.2.1 c.2.2.1 e.1 e.2).bind fun f =>
    (integer_Sub d.1 d.2 f.1 f.2).bind fun g =>
    (setI b a (g.1, g.2)).bind fun j =>
    some (.inl (j, wa .i64 a 1))
  else
    some (.inr b)
def sparselaw08_ExactLeast_l2 (c : Int) (d : Int) : (List (List (Bool × LI))) × Int → Option (((List (List (Bool × LI))) × Int) ⊕ (((List (List (Bool × LI)))))) := fun (b, a) =>
  if a < (wa .i64 1 c) then
    (getI b a).bind fun e =>
    (sli e 0 (wa .i64 1 d)).bind fun f =>
    (setI b a f).bind fun g =>
    some (.inl (g, wa .i64 a 1))
  else
    some (.inr b)
def sparselaw08_ExactLeast (e : LI) (f : LI) (j : Int) (k : Int) : Option (Bool) :=
  if ((decide ((25 : Int) < (e.length : Int))) || (decide ((25 : Int) < (f.length : Int)))) = true then
    (sparselaw08_awake).bind fun l =>
    some l
  else
    (sparsekit_Place j 4).bind fun b =>
    (sparsekit_Place k (wa .i64 1 b)).bind fun c =>
    (sparselaw08_square e (wa .i64 1 b)).bind fun m =>
    (sparselaw08_square f (wa .i64 1 b)).bind fun n =>
    (getI n 0).bind fun g =>
    (loop (sparselaw08_ExactLeast_l2 b c) (m, 0)).bind fun d =>
    (exact_Least d g).bind fun a =>
    (exact_Rank d).bind fun h =>
    if (((!(decide (h.2 = 0))) || (!(((decide (a.2.2.2 = 0)) == (decide (h.1 = (wa .i64 1 c))))))) || ((!(decide (a.2.2.2 = 0))) && (!(decide (a.2.2.2 = 9))))) = true then
      some false
    else
      if a.2.2.2 = 0 then
        (if (a.1.length : Int) = (wa .i64 1 c) then
          (integer_Sign a.2.1 a.2.2.1).bind fun p =>
          some (decide (p ≤ 0))
        else
          some true).bind fun q =>
        if q = true then
          some false
        else
          (sparseref08_Times d a.1).bind fun r =>
          (loop (sparselaw08_ExactLeast_l8 b g a) (r, 0)).bind fun i =>
          (sparseref08_Transpose d).bind fun s =>
          (sparseref08_Times s i).bind fun t =>
          (loop (sparselaw08_ExactLeast_l9 c t) 0).bind (fun o => match o with
            | .inl () =>
              (loop (sparselaw08_ExactLeast_l12 b c i) 0).bind (fun o => match o with
                | .inl () =>
                  (sparselaw08_awake).bind fun u =>
                  some u
                | .inr () =>
                  some false)
            | .inr () =>
              some false)
      else
        (sparselaw08_awake).bind fun v =>
        some v
end M
