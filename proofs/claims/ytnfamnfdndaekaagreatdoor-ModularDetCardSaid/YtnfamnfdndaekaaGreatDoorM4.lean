/- Models of functions of the program, printed. -/
import Derived.Test.YtnfamnfdndaekaaGreatDoorM3
namespace M
open Sx
set_option linter.unusedVariables false
def sparsekit_Place (a : Int) (b : Int) : Option (Int) :=
  (wr (wc .u64 a) (wc .u64 b)).bind fun c =>
  some (wc .i64 c)

def sparselaw07_prime (a : Int) : Option (Int) :=
  (sparsekit_Place a 10).bind fun b =>
  (getI [2, 3, 5, 7, 11, 13, 101, 65537, 1000003, 2147483647] b).bind fun c =>
  some c

def sparselaw07_square_j13 (a : LI) (b : Int) (c : Int) : Option ((LI × Int) ⊕ (LI)) :=
  (app a [c]).bind fun d =>
  some (.inl (d, wa .i64 b 1))
def sparselaw07_square_l12 (b : Int) (d : Int) (e : LI) : LI × Int → Option ((LI × Int) ⊕ (LI)) := fun (c, a) =>
  if a < b then
    if (wa .i64 (wm .i64 b d) a) < (e.length : Int) then
      (getI e (wa .i64 (wm .i64 b d) a)).bind fun f =>
      sparselaw07_square_j13 c a f
    else
      sparselaw07_square_j13 c a 0
  else
    some (.inr c)
def sparselaw07_square_l9 (b : Int) (d : LI) : L2 × Int → Option ((L2 × Int) ⊕ (L2)) := fun (c, a) =>
  if a < b then
    (loop (sparselaw07_square_l12 b a d) ([], 0)).bind fun e =>
    (app c [e]).bind fun f =>
    some (.inl (f, wa .i64 a 1))
  else
    some (.inr c)
def sparselaw07_square (a : LI) (b : Int) : Option (L2) :=
  (loop (sparselaw07_square_l9 b a) ([], 0)).bind fun c =>
  some c

def modular_square (a : L2) (c : Int) : Option (Int) :=
  (modular_check a c).bind fun b =>
  (if b = 0 then
    (modular_columns a).bind fun d =>
    some (!(decide ((a.length : Int) = d)))
  else
    some false).bind fun e =>
  if e = true then
    some 5
  else
    some b

def modular_Det (a : L2) (b : Int) : Option (Int × Int) :=
  (modular_square a b).bind fun c =>
  if c = 0 then
    (modular_reduced a b).bind fun e =>
    (modular_echelon e b).bind fun d =>
    if (d.2.1.length : Int) < (a.length : Int) then
      some (0, 0)
    else
      some (d.2.2, 0)
  else
    some (0, c)

def sparseref07_Mod_j1 (a : Int) : Option (Int) :=
  some a
def sparseref07_Mod (c : Int) (b : Int) : Option (Int) :=
  (wr c b).bind fun a =>
  if a < 0 then
    sparseref07_Mod_j1 (wa .i64 a b)
  else
    sparseref07_Mod_j1 a

def sparselaw07_times_l13 (c : L2) (e : Int) (b : Int) (f : L2) (g : Int) : Int × Int → Option ((Int × Int) ⊕ (Int)) := fun (d, a) =>
  if a < (c.length : Int) then
    (getI c e).bind fun h =>
    (getI h a).bind fun i =>
    (sparseref07_Mod i b).bind fun j =>
    (getI f a).bind fun k =>
    (getI k g).bind fun l =>
    (sparseref07_Mod l b).bind fun m =>
    (wr (wa .i64 d (wm .i64 j m)) b).bind fun n =>
    some (.inl (n, wa .i64 a 1))
  else
    some (.inr d)
def sparselaw07_times_l12 (b : L2) (d : Int) (e : Int) (f : L2) : LI × Int → Option ((LI × Int) ⊕ (LI)) := fun (c, a) =>
  if a < (b.length : Int) then
    (loop (sparselaw07_times_l13 b d e f a) (0, 0)).bind fun g =>
    (app c [g]).bind fun h =>
    some (.inl (h, wa .i64 a 1))
  else
    some (.inr c)
def sparselaw07_times_l9 (b : L2) (d : Int) (e : L2) : L2 × Int → Option ((L2 × Int) ⊕ (L2)) := fun (c, a) =>
  if a < (b.length : Int) then
    (loop (sparselaw07_times_l12 b a d e) ([], 0)).bind fun f =>
    (app c [f]).bind fun g =>
    some (.inl (g, wa .i64 a 1))
  else
    some (.inr c)
def sparselaw07_times (a : L2) (b : L2) (c : Int) : Option (L2) :=
  (loop (sparselaw07_times_l9 a c b) ([], 0)).bind fun d =>
  some d

def modular_Rank (b : L2) (a : Int) : Option (Int × Int) :=
  (modular_check b a).bind fun c =>
  if c = 0 then
    (modular_reduced b a).bind fun d =>
    (modular_echelon d a).bind fun e =>
    some ((e.2.1.length : Int), 0)
  else
    some (0, c)

def sparselaw07_ModularDet (f : LI) (g : LI) (m : Int) (n : Int) (o : Int) : Option (Bool) :=
  if ((decide ((25 : Int) < (f.length : Int))) || (decide ((25 : Int) < (g.length : Int)))) = true then
    (sparselaw07_awake).bind fun p =>
    some p
  else
    (sparselaw07_prime o).bind fun a =>
    (sparsekit_Place m 5).bind fun c =>
    (sparselaw07_square f c).bind fun b =>
    (sparselaw07_square g c).bind fun h =>
    (modular_Det b a).bind fun d =>
    (modular_Det h a).bind fun i =>
    (sparselaw07_times b h a).bind fun q =>
    (modular_Det q a).bind fun j =>
    (modular_Rank b a).bind fun k =>
    (if ((((!(decide (d.2 = 0))) || (!(decide (i.2 = 0)))) || (!(decide (j.2 = 0)))) || (!(decide (k.2 = 0)))) = true then
      some true
    else
      (wr (wm .i64 d.1 i.1) a).bind fun r =>
      some (!(decide (j.1 = r)))).bind fun s =>
    if (s || (!(((!(decide (d.1 = 0))) == (decide (k.1 = c)))))) = true then
      some false
    else
      if c < 2 then
        (sparselaw07_awake).bind fun t =>
        some t
      else
        (sparsekit_Place n (ws .i64 c 1)).bind fun e =>
        (getI b (wa .i64 e 1)).bind fun u =>
        (getI b e).bind fun v =>
        (setI b e u).bind fun w =>
        (setI w (wa .i64 e 1) v).bind fun x =>
        (modular_Det x a).bind fun l =>
        (if l.2 = 0 then
          (wr (wa .i64 l.1 d.1) a).bind fun y =>
          some (decide (y = 0))
        else
          some false).bind fun z =>
        (if z = true then
          (sparselaw07_awake).bind fun a0 =>
          some a0
        else
          some false).bind fun a1 =>
        some a1
end M
