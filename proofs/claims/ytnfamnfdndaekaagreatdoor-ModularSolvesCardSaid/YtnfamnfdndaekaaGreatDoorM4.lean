/- Models of functions of the program, printed. -/
import Derived.Test.YtnfamnfdndaekaaGreatDoorM3
namespace M
open Sx
set_option linter.unusedVariables false
def sparsekit_Place (a : Int) (b : Int) : Option (Int) :=
  (wr (wc .u64 a) (wc .u64 b)).bind fun c =>
  some (wc .i64 c)

def sparselaw07_prime (a : Int) : Option (Int) :=
  (sparsekit_Place a 10).bind fun b =>
  (getI [2, 3, 5, 7, 11, 13, 101, 65537, 1000003, 2147483647] b).bind fun c =>
  some c

def sparselaw07_square_j13 (a : LI) (b : Int) (c : Int) : Option ((LI × Int) ⊕ (LI)) :=
  (app a [c]).bind fun d =>
  some (.inl (d, wa .i64 b 1))
def sparselaw07_square_l12 (b : Int) (d : Int) (e : LI) : LI × Int → Option ((LI × Int) ⊕ (LI)) := fun (c, a) =>
  if a < b then
    if (wa .i64 (wm .i64 b d) a) < (e.length : Int) then
      (getI e (wa .i64 (wm .i64 b d) a)).bind fun f =>
      sparselaw07_square_j13 c a f
    else
      sparselaw07_square_j13 c a 0
  else
    some (.inr c)
def sparselaw07_square_l9 (b : Int) (d : LI) : L2 × Int → Option ((L2 × Int) ⊕ (L2)) := fun (c, a) =>
  if a < b then
    (loop (sparselaw07_square_l12 b a d) ([], 0)).bind fun e =>
    (app c [e]).bind fun f =>
    some (.inl (f, wa .i64 a 1))
  else
    some (.inr c)
def sparselaw07_square (a : LI) (b : Int) : Option (L2) :=
  (loop (sparselaw07_square_l9 b a) ([], 0)).bind fun c =>
  some c

def modular_Rank (b : L2) (a : Int) : Option (Int × Int) :=
  (modular_check b a).bind fun c =>
  if c = 0 then
    (modular_reduced b a).bind fun d =>
    (modular_echelon d a).bind fun e =>
    some ((e.2.1.length : Int), 0)
  else
    some (0, c)

def sparseref07_Mod_j1 (a : Int) : Option (Int) :=
  some a
def sparseref07_Mod (c : Int) (b : Int) : Option (Int) :=
  (wr c b).bind fun a =>
  if a < 0 then
    sparseref07_Mod_j1 (wa .i64 a b)
  else
    sparseref07_Mod_j1 a

def sparselaw07_product_l4 (c : LI) (e : L2) (f : Int) (b : Int) : Int × Int → Option ((Int × Int) ⊕ (Int)) := fun (d, a) =>
  if a < (c.length : Int) then
    (getI e f).bind fun g =>
    (getI g a).bind fun h =>
    (sparseref07_Mod h b).bind fun i =>
    (getI c a).bind fun j =>
    (sparseref07_Mod j b).bind fun k =>
    (wr (wa .i64 d (wm .i64 i k)) b).bind fun l =>
    some (.inl (l, wa .i64 a 1))
  else
    some (.inr d)
def sparselaw07_product_l3 (b : L2) (d : LI) (e : Int) : LI × Int → Option ((LI × Int) ⊕ (LI)) := fun (c, a) =>
  if a < (b.length : Int) then
    (loop (sparselaw07_product_l4 d b a e) (0, 0)).bind fun f =>
    (app c [f]).bind fun g =>
    some (.inl (g, wa .i64 a 1))
  else
    some (.inr c)
def sparselaw07_product (a : L2) (b : LI) (c : Int) : Option (LI) :=
  (loop (sparselaw07_product_l3 a b c) ([], 0)).bind fun d =>
  some d

def modular_square (a : L2) (c : Int) : Option (Int) :=
  (modular_check a c).bind fun b =>
  (if b = 0 then
    (modular_columns a).bind fun d =>
    some (!(decide ((a.length : Int) = d)))
  else
    some false).bind fun e =>
  if e = true then
    some 5
  else
    some b

def modular_Solve_l4 (c : L2) (b : L2 × LI × Int) : LI × Int → Option ((LI × Int) ⊕ ((LI) ⊕ Unit)) := fun (d, a) =>
  if a < (c.length : Int) then
    (if (b.2.1.length : Int) ≤ a then
      some true
    else
      (getI b.2.1 a).bind fun e =>
      some (!(decide (e = a)))).bind fun f =>
    if f = true then
      some (.inr (.inr ()))
    else
      (getI b.1 a).bind fun g =>
      (getI g (c.length : Int)).bind fun h =>
      (app d [h]).bind fun i =>
      some (.inl (i, wa .i64 a 1))
  else
    some (.inr (.inl d))
def modular_Solve_l1 (c : LI) (d : Int) : L2 × Int → Option ((L2 × Int) ⊕ (L2)) := fun (b, a) =>
  if a < (c.length : Int) then
    (getI c a).bind fun e =>
    (getI b a).bind fun f =>
    (modular_mod e d).bind fun g =>
    (app f [g]).bind fun h =>
    (setI b a h).bind fun i =>
    some (.inl (i, wa .i64 a 1))
  else
    some (.inr b)
def modular_Solve (a : L2) (c : LI) (b : Int) : Option (LI × Int) :=
  (modular_square a b).bind fun d =>
  if d = 0 then
    if (c.length : Int) = (a.length : Int) then
      (modular_reduced a b).bind fun e =>
      (loop (modular_Solve_l1 c b) (e, 0)).bind fun f =>
      (modular_echelon f b).bind fun g =>
      (loop (modular_Solve_l4 a g) ([], 0)).bind (fun o => match o with
        | .inl h =>
          some (h, 0)
        | .inr () =>
          some ([], 9))
    else
      some ([], 2)
  else
    some ([], d)

def sparselaw07_ModularSolves_l15 (d : Int) (b : LI) (e : Int) : LI × Int → Option ((LI × Int) ⊕ (LI)) := fun (c, a) =>
  if ((decide (a < (wa .i64 1 d))) && (decide (a < (b.length : Int)))) = true then
    (getI b a).bind fun f =>
    (sparseref07_Mod f e).bind fun g =>
    (setI c a g).bind fun h =>
    some (.inl (h, wa .i64 a 1))
  else
    some (.inr c)
def sparselaw07_ModularSolves_j12 (c : L2) (a : Int) (f : LI) (d : Int) (g : Int × Int) : Option (Bool) :=
  if (c.length : Int) < (wa .i64 1 a) then
    (sparselaw07_awake).bind fun h =>
    some h
  else
    (mkL 0 (wa .i64 1 a)).bind fun i =>
    (loop (sparselaw07_ModularSolves_l15 a f d) (i, 0)).bind fun e =>
    (modular_Solve c e d).bind fun b =>
    if g.1 < (wa .i64 1 a) then
      (if b.2 = 9 then
        (sparselaw07_awake).bind fun j =>
        some j
      else
        some false).bind fun k =>
      some k
    else
      (if ((decide (b.2 = 0)) && (decide ((b.1.length : Int) = (wa .i64 1 a)))) = true then
        (sparselaw07_product c b.1 d).bind fun l =>
        (sparsekit_Ints l e).bind fun m =>
        some m
      else
        some false).bind fun n =>
      (if n = true then
        (sparselaw07_awake).bind fun o =>
        some o
      else
        some false).bind fun p =>
      some p
def sparselaw07_ModularSolves_l25 (b : LI) : Bool × Int → Option ((Bool × Int) ⊕ (Bool)) := fun (c, a) =>
  if a < (b.length : Int) then
    (if c = true then
      (getI b a).bind fun d =>
      some (decide (d = 0))
    else
      some false).bind fun e =>
    some (.inl (e, wa .i64 a 1))
  else
    some (.inr c)
def sparselaw07_ModularSolves_l22 (b : LI × Int) : Bool × Int → Option ((Bool × Int) ⊕ (Bool)) := fun (c, a) =>
  if a < (b.1.length : Int) then
    (if c = true then
      some true
    else
      (getI b.1 a).bind fun d =>
      some (!(decide (d = 0)))).bind fun e =>
    some (.inl (e, wa .i64 a 1))
  else
    some (.inr c)
def sparselaw07_ModularSolves (g : LI) (f : LI) (h : Int) (i : Int) (j : Int) : Option (Bool) :=
  if ((decide ((25 : Int) < (g.length : Int))) || (decide ((25 : Int) < (f.length : Int)))) = true then
    (sparselaw07_awake).bind fun k =>
    some k
  else
    (sparselaw07_prime j).bind fun c =>
    (sparsekit_Place h 5).bind fun b =>
    (sparselaw07_square g (wa .i64 1 b)).bind fun l =>
    (sparsekit_Place i (wa .i64 1 b)).bind fun m =>
    (sli l 0 (wa .i64 1 m)).bind fun d =>
    (modular_Kernel d c).bind fun a =>
    (modular_Rank d c).bind fun e =>
    if (((!(decide (a.2 = 0))) || (!(decide (e.2 = 0)))) || (!(((decide ((0 : Int) < (a.1.length : Int))) == (decide (e.1 < (wa .i64 1 b))))))) = true then
      some false
    else
      if ((decide ((0 : Int) < (a.1.length : Int))) && (!(decide ((a.1.length : Int) = (wa .i64 1 b))))) = true then
        some false
      else
        if (0 : Int) < (a.1.length : Int) then
          (sparselaw07_product d a.1 c).bind fun n =>
          (loop (sparselaw07_ModularSolves_l22 a) (false, 0)).bind fun o =>
          (loop (sparselaw07_ModularSolves_l25 n) (o, 0)).bind fun p =>
          if p = true then
            sparselaw07_ModularSolves_j12 d b f c e
          else
            some false
        else
          sparselaw07_ModularSolves_j12 d b f c e
end M
