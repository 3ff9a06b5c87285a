/- Models of functions of the program, printed. -/
import Derived.Test.YtpfmbaidflhamaaGreatDoorM3
namespace M
open Sx
set_option linter.unusedVariables false
def sparselaw08_square_j13 (b : List (Bool × LI)) (c : Int) (d : Int) : Option (((List (Bool × LI)) × Int) ⊕ (((List (Bool × LI))))) :=
  (sparselaw08_num d).bind fun a =>
  (app b [(a.1, a.2)]).bind fun e =>
  some (.inl (e, wa .i64 c 1))
def sparselaw08_square_l12 (b : Int) (d : Int) (e : LI) : (List (Bool × LI)) × Int → Option (((List (Bool × LI)) × Int) ⊕ (((List (Bool × LI))))) := fun (c, a) =>
  if a < b then
    if (wa .i64 (wm .i64 b d) a) < (e.length : Int) then
      (getI e (wa .i64 (wm .i64 b d) a)).bind fun f =>
      (sparsekit_Place f 201).bind fun g =>
      sparselaw08_square_j13 c a (ws .i64 g 100)
    else
      sparselaw08_square_j13 c a 0
  else
    some (.inr c)
def sparselaw08_square_l9 (b : Int) (d : LI) : (List (List (Bool × LI))) × Int → Option (((List (List (Bool × LI))) × Int) ⊕ (((List (List (Bool × LI)))))) := fun (c, a) =>
  if a < b then
    (loop (sparselaw08_square_l12 b a d) ([], 0)).bind fun e =>
    (app c [e]).bind fun f =>
    some (.inl (f, wa .i64 a 1))
  else
    some (.inr c)
def sparselaw08_square (a : LI) (b : Int) : Option ((List (List (Bool × LI)))) :=
  (loop (sparselaw08_square_l9 b a) ([], 0)).bind fun c =>
  some c

def integer_GCD_l1 : LI × LI → Option ((LI × LI) ⊕ (LI)) := fun (b, a) =>
  if (0 : Int) < (a.length : Int) then
    (integer_divide b a).bind fun c =>
    some (.inl (a, c.2))
  else
    some (.inr b)
def integer_GCD (i : Bool) (b : LI) (j : Bool) (c : LI) : Option (Bool × LI) :=
  (integer_trim b).bind fun d =>
  (slices_Clone_uint32 d).bind fun e =>
  (integer_trim c).bind fun f =>
  (slices_Clone_uint32 f).bind fun g =>
  (loop (integer_GCD_l1) (e, g)).bind fun h =>
  (integer_big false h).bind fun a =>
  some (a.1, a.2)

def exact_Kernel_l5 (e : List (Bool × LI)) (f : Bool) (g : LI) : (List (Bool × LI)) × Int → Option (((List (Bool × LI)) × Int) ⊕ (((List (Bool × LI))))) := fun (b, a) =>
  if a < (e.length : Int) then
    (getI b a).bind fun c =>
    (integer_Quo c.1 c.2 f g).bind fun d =>
    (setI b a (d.1, d.2.1)).bind fun h =>
    some (.inl (h, wa .i64 a 1))
  else
    some (.inr b)
def exact_Kernel_l4 (a : (List (List (Bool × LI))) × LI × Bool × LI × Int) (m : Int) : (List (Bool × LI)) × Bool × LI × Int → Option (((List (Bool × LI)) × Bool × LI × Int) ⊕ (((List (Bool × LI)) × Bool × LI))) := fun (c, d, e, b) =>
  if b < (a.2.1.length : Int) then
    (getI a.2.1 b).bind fun f =>
    (getI a.1 b).bind fun n =>
    (getI n m).bind fun g =>
    (exact_reduced_turned a.1 a.2.1 a.2.2.1 a.2.2.2.1 a.2.2.2.2 g.1 g.2).bind fun h =>
    (integer_Neg h.1 h.2).bind fun i =>
    (setI c f (i.1, i.2)).bind fun j =>
    (getI j f).bind fun k =>
    (integer_GCD d e k.1 k.2).bind fun l =>
    some (.inl (j, l.1, l.2, wa .i64 b 1))
  else
    some (.inr (c, d, e))
def exact_Kernel_l3 (b : (List (List (Bool × LI))) × LI × Bool × LI × Int) : Int → Option ((Int) ⊕ (Int)) := fun a =>
  (if a < (b.2.1.length : Int) then
    (getI b.2.1 a).bind fun c =>
    some (decide (c = a))
  else
    some false).bind fun d =>
  if d = true then
    some (.inl (wa .i64 a 1))
  else
    some (.inr a)
def exact_Kernel (c : List (List (Bool × LI))) : Option ((List (Bool × LI)) × Int) :=
  (exact_check c).bind fun e =>
  if e = 0 then
    (exact_columns c).bind fun d =>
    (exact_twin c []).bind fun j =>
    (exact_eliminate j d).bind fun a =>
    (loop (exact_Kernel_l3 a) 0).bind fun b =>
    if b = d then
      some ([], 0)
    else
      (mkL (false, []) d).bind fun k =>
      (integer_Abs a.2.2.1 a.2.2.2.1).bind fun f =>
      (setI k b (f.1, f.2)).bind fun g =>
      (getI g b).bind fun h =>
      (loop (exact_Kernel_l4 a b) (g, h.1, h.2, 0)).bind fun (i, l, m) =>
      (loop (exact_Kernel_l5 i l m) (i, 0)).bind fun n =>
      some (n, 0)
  else
    some ([], e)

def exact_Rank (a : List (List (Bool × LI))) : Option (Int × Int) :=
  (exact_check a).bind fun b =>
  if b = 0 then
    (exact_twin a []).bind fun c =>
    (exact_columns a).bind fun d =>
    (exact_eliminate c d).bind fun e =>
    some ((e.2.1.length : Int), 0)
  else
    some (0, b)

def sparseref01_Norm (b : Bool) (c : LI) : Option (Bool × LI) :=
  (sparseref01_make1 b c).bind fun a =>
  some (a.1, a.2)

def sparseref01_Int_l1 (b : Bool × LI) : Int × Int → Option ((Int × Int) ⊕ (Int)) := fun (c, a) =>
  if a < (b.2.length : Int) then
    (getI b.2 a).bind fun d =>
    (wshl .u64 (wc .u64 d) (wm .i64 32 a)).bind fun e =>
    some (.inl (wor .u64 c e, wa .i64 a 1))
  else
    some (.inr c)
def sparseref01_Int (c : Bool) (d : LI) : Option (Int × Bool) :=
  (sparseref01_Norm c d).bind fun b =>
  if (2 : Int) < (b.2.length : Int) then
    some (0, false)
  else
    (loop (sparseref01_Int_l1 b) (0, 0)).bind fun a =>
    if b.1 = true then
      if (9223372036854775808 : Int) < a then
        some (0, false)
      else
        some (ws .i64 (wneg .i64 (wc .i64 (ws .u64 a 1))) 1, true)
    else
      if (9223372036854775807 : Int) < a then
        some (0, false)
      else
        some (wc .i64 a, true)

def modular_columns (a : L2) : Option (Int) :=
  if (a.length : Int) = 0 then
    some 0
  else
    (getI a 0).bind fun b =>
    some (b.length : Int)

def modular_IsPrime_l2 (b : Int) : Int → Option ((Int) ⊕ (Unit ⊕ Unit)) := fun a =>
  if (wm .i64 a a) ≤ b then
    (wr b a).bind fun c =>
    if c = 0 then
      some (.inr (.inr ()))
    else
      some (.inl (wa .i64 a 1))
  else
    some (.inr (.inl ()))
def modular_IsPrime (a : Int) : Option (Bool) :=
  if ((decide (a < 2)) || (decide ((2147483647 : Int) < a))) = true then
    some false
  else
    (loop (modular_IsPrime_l2 a) 2).bind (fun o => match o with
      | .inl () =>
        some true
      | .inr () =>
        some false)

def modular_check_1 (a : LI) (b : Int) : Option (Bool) :=
  some (!(decide ((a.length : Int) = b)))

def slices_IndexFunc_int_l1 (b : L2) (c : Int) : Int → Option ((Int) ⊕ (Unit ⊕ Int)) := fun a =>
  if a < (b.length : Int) then
    (getI b a).bind fun d =>
    (modular_check_1 d c).bind fun e =>
    if e = true then
      some (.inr (.inr a))
    else
      some (.inl (wa .i64 a 1))
  else
    some (.inr (.inl ()))
def slices_IndexFunc_int (a : L2) (b : Int) : Option (Int) :=
  (loop (slices_IndexFunc_int_l1 a b) 0).bind (fun o => match o with
    | .inl () =>
      some (-1)
    | .inr c =>
      some c)

def slices_ContainsFunc_int (a : L2) (b : Int) : Option (Bool) :=
  (slices_IndexFunc_int a b).bind fun c =>
  some (decide ((0 : Int) ≤ c))

def modular_check (a : L2) (c : Int) : Option (Int) :=
  (modular_columns a).bind fun b =>
  (modular_IsPrime c).bind fun d =>
  if d = true then
    (slices_ContainsFunc_int a b).bind fun e =>
    if e = true then
      some 5
    else
      if ((decide ((200 : Int) < (a.length : Int))) || (decide ((200 : Int) < b))) = true then
        some 6
      else
        some 0
  else
    some 70

def modular_mod_j1 (a : Int) : Option (Int) :=
  some a
def modular_mod (c : Int) (b : Int) : Option (Int) :=
  (wr c b).bind fun a =>
  if a < 0 then
    modular_mod_j1 (wa .i64 a b)
  else
    modular_mod_j1 a

def modular_reduced_l4 (b : LI) (d : Int) : LI × Int → Option ((LI × Int) ⊕ (LI)) := fun (c, a) =>
  if a < (b.length : Int) then
    (getI b a).bind fun e =>
    (modular_mod e d).bind fun f =>
    (app c [f]).bind fun g =>
    some (.inl (g, wa .i64 a 1))
  else
    some (.inr c)
def modular_reduced_l3 (b : L2) (d : Int) : L2 × Int → Option ((L2 × Int) ⊕ (L2)) := fun (c, a) =>
  if a < (b.length : Int) then
    (getI b a).bind fun e =>
    (loop (modular_reduced_l4 e d) ([], 0)).bind fun f =>
    (app c [f]).bind fun g =>
    some (.inl (g, wa .i64 a 1))
  else
    some (.inr c)
def modular_reduced (a : L2) (b : Int) : Option (L2) :=
  (loop (modular_reduced_l3 a b) ([], 0)).bind fun c =>
  some c
end M
