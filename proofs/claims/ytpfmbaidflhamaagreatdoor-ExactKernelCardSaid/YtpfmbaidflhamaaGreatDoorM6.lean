/- Models of functions of the program, printed. -/
import Derived.Test.YtpfmbaidflhamaaGreatDoorM5
namespace M
open Sx
set_option linter.unusedVariables false
def sparseref08_Times_l1 (b : List (List (Bool × LI))) (e : List (Bool × LI)) : (List (Bool × LI)) × Int → Option (((List (Bool × LI)) × Int) ⊕ (((List (Bool × LI))))) := fun (c, a) =>
  if a < (b.length : Int) then
    (getI b a).bind fun f =>
    (sparseref08_Dot f e).bind fun d =>
    (app c [(d.1, d.2)]).bind fun g =>
    some (.inl (g, wa .i64 a 1))
  else
    some (.inr c)
def sparseref08_Times (a : List (List (Bool × LI))) (b : List (Bool × LI)) : Option ((List (Bool × LI))) :=
  (loop (sparseref08_Times_l1 a b) ([], 0)).bind fun c =>
  some c

def sparseref01_Sign (b : Bool) (c : LI) : Option (Int) :=
  (sparseref01_Norm b c).bind fun a =>
  if (a.2.length : Int) = 0 then
    some 0
  else
    if a.1 = true then
      some (-1)
    else
      some 1

def sparselaw08_ExactKernel_l8 (f : Int) (g : (List (Bool × LI)) × Int) : Bool × LI × Int → Option ((Bool × LI × Int) ⊕ ((Bool × LI))) := fun (b, c, a) =>
  if a < (wa .i64 1 f) then
    (getI g.1 a).bind fun d =>
    (integer_GCD b c d.1 d.2).bind fun e =>
    some (.inl (e.1, e.2, wa .i64 a 1))
  else
    some (.inr (b, c))
def sparselaw08_ExactKernel_l7 (b : (List (Bool × LI))) : Int → Option ((Int) ⊕ (Unit ⊕ Unit)) := fun a =>
  if a < (b.length : Int) then
    (getI b a).bind fun c =>
    (sparseref01_Sign c.1 c.2).bind fun d =>
    if d = 0 then
      some (.inl (wa .i64 a 1))
    else
      some (.inr (.inr ()))
  else
    some (.inr (.inl ()))
def sparselaw08_ExactKernel_l10 (d : Int) (e : List (List (Bool × LI))) (f : Int) : LI × Int → Option ((LI × Int) ⊕ (LI)) := fun (b, a) =>
  if a < (wa .i64 1 d) then
    (getI e f).bind fun g =>
    (getI g a).bind fun c =>
    (sparseref01_Int c.1 c.2).bind fun h =>
    (app b [h.1]).bind fun i =>
    some (.inl (i, wa .i64 a 1))
  else
    some (.inr b)
def sparselaw08_ExactKernel_l5 (b : List (List (Bool × LI))) (d : Int) : L2 × Int → Option ((L2 × Int) ⊕ (L2)) := fun (c, a) =>
  if a < (b.length : Int) then
    (loop (sparselaw08_ExactKernel_l10 d b a) ([], 0)).bind fun e =>
    (app c [e]).bind fun f =>
    some (.inl (f, wa .i64 a 1))
  else
    some (.inr c)
def sparselaw08_ExactKernel (e : LI) (g : Int) (h : Int) : Option (Bool) :=
  if (25 : Int) < (e.length : Int) then
    (sparselaw08_awake).bind fun i =>
    some i
  else
    (sparsekit_Place g 4).bind fun a =>
    (sparselaw08_square e (wa .i64 1 a)).bind fun j =>
    (sparsekit_Place h (wa .i64 1 a)).bind fun k =>
    (sli j 0 (wa .i64 1 k)).bind fun c =>
    (exact_Kernel c).bind fun b =>
    (exact_Rank c).bind fun d =>
    if (((!(decide (b.2 = 0))) || (!(decide (d.2 = 0)))) || (!(((decide ((0 : Int) < (b.1.length : Int))) == (decide (d.1 < (wa .i64 1 a))))))) = true then
      some false
    else
      (loop (sparselaw08_ExactKernel_l5 c a) ([], 0)).bind fun l =>
      (modular_Rank l 101).bind fun f =>
      if ((!(decide (f.2 = 0))) || (decide (d.1 < f.1))) = true then
        some false
      else
        if (b.1.length : Int) = 0 then
          (sparselaw08_awake).bind fun m =>
          some m
        else
          if (b.1.length : Int) = (wa .i64 1 a) then
            (sparseref08_Times c b.1).bind fun n =>
            (loop (sparselaw08_ExactKernel_l7 n) 0).bind (fun o => match o with
              | .inl () =>
                (loop (sparselaw08_ExactKernel_l8 a b) (false, [], 0)).bind fun (p, q) =>
                (integer_Format p q).bind fun r =>
                (if r = (⟨#[49]⟩ : ByteArray) then
                  (sparselaw08_awake).bind fun s =>
                  some s
                else
                  some false).bind fun t =>
                some t
              | .inr () =>
                some false)
          else
            some false
end M
