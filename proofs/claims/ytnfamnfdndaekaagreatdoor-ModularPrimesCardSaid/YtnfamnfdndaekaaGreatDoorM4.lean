/- Models of functions of the program, printed. -/
import Derived.Test.YtnfamnfdndaekaaGreatDoorM3
namespace M
open Sx
set_option linter.unusedVariables false
def sparseref07_IsPrime_l2 (b : Int) : Int → Option ((Int) ⊕ (Unit ⊕ Unit)) := fun a =>
  if (wm .i64 a a) ≤ b then
    (wr b a).bind fun c =>
    if c = 0 then
      some (.inr (.inr ()))
    else
      some (.inl (wa .i64 a 1))
  else
    some (.inr (.inl ()))
def sparseref07_IsPrime (a : Int) : Option (Bool) :=
  if ((decide (a < 2)) || (decide ((2147483647 : Int) < a))) = true then
    some false
  else
    (loop (sparseref07_IsPrime_l2 a) 2).bind (fun o => match o with
      | .inl () =>
        some true
      | .inr () =>
        some false)

def modular_Primes_j7 (a : Int) (b : LI) : Option ((LI × Int) ⊕ (LI)) :=
  some (.inl (b, ws .i64 a 1))
def modular_Primes_l5 (c : Int) : LI × Int → Option ((LI × Int) ⊕ (LI)) := fun (b, a) =>
  if ((decide ((2 : Int) ≤ a)) && (decide ((b.length : Int) < (imin c 100)))) = true then
    (modular_IsPrime a).bind fun d =>
    if d = true then
      (app b [a]).bind fun e =>
      modular_Primes_j7 a e
    else
      modular_Primes_j7 a b
  else
    some (.inr b)
def modular_Primes (a : Int) (b : Int) : Option (LI) :=
  if a ≤ 2 then
    some []
  else
    (loop (modular_Primes_l5 b) ([], imin (ws .i64 a 1) 2147483647)).bind fun c =>
    some c

def sparseref07_Primes_j7 (a : Int) (b : LI) : Option ((LI × Int) ⊕ (LI)) :=
  some (.inl (b, ws .i64 a 1))
def sparseref07_Primes_l5 (c : Int) : LI × Int → Option ((LI × Int) ⊕ (LI)) := fun (b, a) =>
  if ((decide ((1 : Int) < a)) && (decide ((b.length : Int) < (imin c 100)))) = true then
    (sparseref07_IsPrime a).bind fun d =>
    if d = true then
      (app b [a]).bind fun e =>
      sparseref07_Primes_j7 a e
    else
      sparseref07_Primes_j7 a b
  else
    some (.inr b)
def sparseref07_Primes (a : Int) (b : Int) : Option (LI) :=
  if a ≤ 2 then
    some []
  else
    (loop (sparseref07_Primes_l5 b) ([], ws .i64 (imin a 2147483648) 1)).bind fun c =>
    some c

def sparselaw07_ModularPrimes_j8 (a : Int) (b : Int) (c : Int) : Option (Bool) :=
  (modular_IsPrime a).bind fun d =>
  (sparseref07_IsPrime a).bind fun e =>
  (if (d == e) = true then
    (modular_Primes b c).bind fun f =>
    (sparseref07_Primes b c).bind fun g =>
    (sparsekit_Ints f g).bind fun h =>
    some h
  else
    some false).bind fun i =>
  (if i = true then
    (sparselaw07_awake).bind fun j =>
    some j
  else
    some false).bind fun k =>
  some k
def sparselaw07_ModularPrimes (b : Int) (a : Int) (c : Int) : Option (Bool) :=
  (sparselaw07_modulus b).bind fun d =>
  if (((!(d)) || ((decide ((5000 : Int) < a)) && (decide (a ≤ 2147483637)))) || ((decide ((4 : Int) < c)) && (decide ((1000 : Int) < a)))) = true then
    (sparselaw07_awake).bind fun e =>
    some e
  else
    if ((decide ((2147483637 : Int) < a)) && (decide ((2 : Int) < c))) = true then
      sparselaw07_ModularPrimes_j8 b a 2
    else
      sparselaw07_ModularPrimes_j8 b a c
end M
