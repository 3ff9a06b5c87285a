/- Models of functions of the program, printed. -/
import Derived.Test.YtpfmbaidflhamaaGreatDoorM3
namespace M
open Sx
set_option linter.unusedVariables false
def sparselaw08_square_j13 (b : List (Bool × LI)) (c : Int) (d : Int) : Option (((List (Bool × LI)) × Int) ⊕ (((List (Bool × LI))))) :=
  (sparselaw08_num d).bind fun a =>
  (app b [(a.1, a.2)]).bind fun e =>
  some (.inl (e, wa .i64 c 1))
def sparselaw08_square_l12 (b : Int) (d : Int) (e : LI) : (List (Bool × LI)) × Int → Option (((List (Bool × LI)) × Int) ⊕ (((List (Bool × LI))))) := fun (c, a) =>
  if a < b then
    if (wa .i64 (wm .i64 b d) a) < (e.length : Int) then
      (getI e (wa .i64 (wm .i64 b d) a)).bind fun f =>
      (sparsekit_Place f 201).bind fun g =>
      sparselaw08_square_j13 c a (ws .i64 g 100)
    else
      sparselaw08_square_j13 c a 0
  else
    some (.inr c)
def sparselaw08_square_l9 (b : Int) (d : LI) : (List (List (Bool × LI))) × Int → Option (((List (List (Bool × LI))) × Int) ⊕ (((List (List (Bool × LI)))))) := fun (c, a) =>
  if a < b then
    (loop (sparselaw08_square_l12 b a d) ([], 0)).bind fun e =>
    (app c [e]).bind fun f =>
    some (.inl (f, wa .i64 a 1))
  else
    some (.inr c)
def sparselaw08_square (a : LI) (b : Int) : Option ((List (List (Bool × LI)))) :=
  (loop (sparselaw08_square_l9 b a) ([], 0)).bind fun c =>
  some c

def exact_Least_1 (b : Int) (c : List (Bool × LI)) : Option (Bool × LI) :=
  (getI c b).bind fun a =>
  some (a.1, a.2)

def exact_inner_l1 (b : List (List (Bool × LI))) (i : Int) (j : List (Bool × LI)) : Bool × LI × Int → Option ((Bool × LI × Int) ⊕ ((Bool × LI))) := fun (c, d, a) =>
  if a < (b.length : Int) then
    (getI b a).bind fun k =>
    (getI k i).bind fun e =>
    (exact_Least_1 a j).bind fun f =>
    (integer_Mul e.1 e.2 f.1 f.2).bind fun g =>
    (integer_Add c d g.1 g.2).bind fun h =>
    some (.inl (h.1, h.2, wa .i64 a 1))
  else
    some (.inr (c, d))
def exact_inner (a : List (List (Bool × LI))) (b : Int) (c : List (Bool × LI)) : Option (Bool × LI) :=
  (loop (exact_inner_l1 a b c) (false, [], 0)).bind fun (d, e) =>
  some (d, e)

def exact_Least_2 (b : Int) (c : List (List (Bool × LI))) (d : Int) : Option (Bool × LI) :=
  (getI c b).bind fun e =>
  (getI e d).bind fun a =>
  some (a.1, a.2)

def exact_inner_v2_l1 (b : List (List (Bool × LI))) (i : Int) (j : List (List (Bool × LI))) (k : Int) : Bool × LI × Int → Option ((Bool × LI × Int) ⊕ ((Bool × LI))) := fun (c, d, a) =>
  if a < (b.length : Int) then
    (getI b a).bind fun l =>
    (getI l i).bind fun e =>
    (exact_Least_2 a j k).bind fun f =>
    (integer_Mul e.1 e.2 f.1 f.2).bind fun g =>
    (integer_Add c d g.1 g.2).bind fun h =>
    some (.inl (h.1, h.2, wa .i64 a 1))
  else
    some (.inr (c, d))
def exact_inner_v2 (a : List (List (Bool × LI))) (b : Int) (c : List (List (Bool × LI))) (d : Int) : Option (Bool × LI) :=
  (loop (exact_inner_v2_l1 a b c d) (false, [], 0)).bind fun (e, f) =>
  some (e, f)

def exact_Least_l5 (f : Int) (a : Int) (d : List (List (Bool × LI))) : (List (List (Bool × LI))) × Int → Option (((List (List (Bool × LI))) × Int) ⊕ (((List (List (Bool × LI)))))) := fun (b, c) =>
  if c < f then
    (getI b a).bind fun g =>
    (exact_inner_v2 d a d c).bind fun e =>
    (app g [(e.1, e.2)]).bind fun h =>
    (setI b a h).bind fun i =>
    some (.inl (i, wa .i64 c 1))
  else
    some (.inr b)
def exact_Least_l4 (b : Int) (c : List (List (Bool × LI))) (g : List (Bool × LI)) : (List (List (Bool × LI))) × (List (Bool × LI)) × Int → Option (((List (List (Bool × LI))) × (List (Bool × LI)) × Int) ⊕ (((List (List (Bool × LI))) × (List (Bool × LI))))) := fun (d, e, a) =>
  if a < b then
    (exact_inner c a g).bind fun f =>
    (setI e a (f.1, f.2)).bind fun h =>
    (loop (exact_Least_l5 b a c) (d, 0)).bind fun i =>
    some (.inl (i, h, wa .i64 a 1))
  else
    some (.inr (d, e))
def exact_Least (a : List (List (Bool × LI))) (d : List (Bool × LI)) : Option ((List (Bool × LI)) × Bool × LI × Int) :=
  (exact_check a).bind fun e =>
  if e = 0 then
    if (d.length : Int) = (a.length : Int) then
      (exact_columns a).bind fun c =>
      (mkL ([] : List (Bool × LI)) c).bind fun f =>
      (mkL (false, []) c).bind fun g =>
      (loop (exact_Least_l4 c a d) (f, g, 0)).bind fun (h, i) =>
      (exact_Solve h i).bind fun b =>
      some (b.1, b.2.1, b.2.2.1, b.2.2.2)
    else
      some ([], false, [], 2)
  else
    some ([], false, [], e)

def exact_Rank (a : List (List (Bool × LI))) : Option (Int × Int) :=
  (exact_check a).bind fun b =>
  if b = 0 then
    (exact_twin a []).bind fun c =>
    (exact_columns a).bind fun d =>
    (exact_eliminate c d).bind fun e =>
    some ((e.2.1.length : Int), 0)
  else
    some (0, b)

def sparseref01_mulMag_l4 (e : LI) (i : LI) (b : Int) : LI × Int × Int → Option ((LI × Int × Int) ⊕ ((LI × Int))) := fun (c, d, a) =>
  if a < (e.length : Int) then
    (getI i b).bind fun f =>
    (getI e a).bind fun g =>
    (getI c (wa .i64 b a)).bind fun h =>
    (setI c (wa .i64 b a) (wc .u32 (wa .u64 (wa .u64 d (wm .u64 (wc .u64 f) (wc .u64 g))) (wc .u64 h)))).bind fun j =>
    some (.inl (j, wsrc .u64 (wa .u64 (wa .u64 d (wm .u64 (wc .u64 f) (wc .u64 g))) (wc .u64 h)) 32, wa .i64 a 1))
  else
    some (.inr (c, d))
def sparseref01_mulMag_l3 (b : LI) (c : LI) : LI × Int → Option ((LI × Int) ⊕ (LI)) := fun (d, a) =>
  if a < (b.length : Int) then
    (loop (sparseref01_mulMag_l4 c b a) (d, 0, 0)).bind fun (e, f) =>
    (setI e (wa .i64 a (c.length : Int)) (wc .u32 f)).bind fun g =>
    some (.inl (g, wa .i64 a 1))
  else
    some (.inr d)
def sparseref01_mulMag (a : LI) (b : LI) : Option (LI) :=
  (mkL 0 (wa .i64 (a.length : Int) (b.length : Int))).bind fun c =>
  (loop (sparseref01_mulMag_l3 a b) (c, 0)).bind fun d =>
  some d

def sparseref01_Mul (b : Bool) (c : LI) (d : Bool) (e : LI) : Option (Bool × LI) :=
  (sparseref01_trim c).bind fun f =>
  (sparseref01_trim e).bind fun g =>
  (sparseref01_mulMag f g).bind fun h =>
  (sparseref01_make1 (!((b == d))) h).bind fun a =>
  some (a.1, a.2)

def sparseref01_addMag_j7 (b : LI) (c : Int) (a : Int) : Option ((LI × Int × Int) ⊕ ((LI × Int))) :=
  (app b [wc .u32 a]).bind fun d =>
  some (.inl (d, wsrc .u64 a 32, wa .i64 c 1))
def sparseref01_addMag_j6 (a : Int) (b : LI) (c : LI) (d : Int) : Option ((LI × Int × Int) ⊕ ((LI × Int))) :=
  if a < (b.length : Int) then
    (getI b a).bind fun e =>
    sparseref01_addMag_j7 c a (wa .u64 d (wc .u64 e))
  else
    sparseref01_addMag_j7 c a d
def sparseref01_addMag_l5 (b : LI) (c : LI) : LI × Int × Int → Option ((LI × Int × Int) ⊕ ((LI × Int))) := fun (d, e, a) =>
  if a < (imax (b.length : Int) (c.length : Int)) then
    if a < (b.length : Int) then
      (getI b a).bind fun f =>
      sparseref01_addMag_j6 a c d (wa .u64 e (wc .u64 f))
    else
      sparseref01_addMag_j6 a c d e
  else
    some (.inr (d, e))
def sparseref01_addMag (a : LI) (b : LI) : Option (LI) :=
  (loop (sparseref01_addMag_l5 a b) ([], 0, 0)).bind fun (c, d) =>
  (app c [wc .u32 d]).bind fun e =>
  some e

def sparseref01_cmpMag_l1 (b : LI) (c : LI) : Int → Option ((Int) ⊕ (Unit ⊕ Int)) := fun a =>
  if (0 : Int) ≤ a then
    (getI b a).bind fun d =>
    (getI c a).bind fun e =>
    if d = e then
      some (.inl (ws .i64 a 1))
    else
      (getI b a).bind fun f =>
      (getI c a).bind fun g =>
      if f < g then
        some (.inr (.inr (-1)))
      else
        some (.inr (.inr 1))
  else
    some (.inr (.inl ()))
def sparseref01_cmpMag (a : LI) (b : LI) : Option (Int) :=
  if (a.length : Int) = (b.length : Int) then
    (loop (sparseref01_cmpMag_l1 a b) (ws .i64 (a.length : Int) 1)).bind (fun o => match o with
      | .inl () =>
        some 0
      | .inr c =>
        some c)
  else
    if (a.length : Int) < (b.length : Int) then
      some (-1)
    else
      some 1

def sparseref01_subMag_j4 (b : LI) (c : Int) (a : Int) : Option ((LI × Int × Int) ⊕ (LI)) :=
  (app b [wc .u32 a]).bind fun d =>
  some (.inl (d, wsrc .u64 a 63, wa .i64 c 1))
def sparseref01_subMag_l3 (c : LI) (d : LI) : LI × Int × Int → Option ((LI × Int × Int) ⊕ (LI)) := fun (b, e, a) =>
  if a < (c.length : Int) then
    (getI c a).bind fun f =>
    if a < (d.length : Int) then
      (getI d a).bind fun g =>
      sparseref01_subMag_j4 b a (ws .u64 (ws .u64 (wc .u64 f) e) (wc .u64 g))
    else
      sparseref01_subMag_j4 b a (ws .u64 (wc .u64 f) e)
  else
    some (.inr b)
def sparseref01_subMag (a : LI) (b : LI) : Option (LI) :=
  (loop (sparseref01_subMag_l3 a b) ([], 0, 0)).bind fun c =>
  some c

def sparseref01_Add (c : Bool) (h : LI) (d : Bool) (i : LI) : Option (Bool × LI) :=
  (sparseref01_trim h).bind fun a =>
  (sparseref01_trim i).bind fun b =>
  if (c == d) = true then
    (sparseref01_addMag a b).bind fun j =>
    (sparseref01_make1 c j).bind fun e =>
    some (e.1, e.2)
  else
    (sparseref01_cmpMag a b).bind fun k =>
    if (0 : Int) ≤ k then
      (sparseref01_subMag a b).bind fun l =>
      (sparseref01_make1 c l).bind fun f =>
      some (f.1, f.2)
    else
      (sparseref01_subMag b a).bind fun m =>
      (sparseref01_make1 d m).bind fun g =>
      some (g.1, g.2)

def sparseref08_Dot_l1 (b : List (Bool × LI)) (i : List (Bool × LI)) : Bool × LI × Int → Option ((Bool × LI × Int) ⊕ ((Bool × LI))) := fun (c, d, a) =>
  if a < (b.length : Int) then
    (getI b a).bind fun e =>
    (getI i a).bind fun f =>
    (sparseref01_Mul e.1 e.2 f.1 f.2).bind fun g =>
    (sparseref01_Add c d g.1 g.2).bind fun h =>
    some (.inl (h.1, h.2, wa .i64 a 1))
  else
    some (.inr (c, d))
def sparseref08_Dot (a : List (Bool × LI)) (b : List (Bool × LI)) : Option (Bool × LI) :=
  (loop (sparseref08_Dot_l1 a b) (false, [], 0)).bind fun (c, d) =>
  some (c, d)
end M
