/- Models of functions of the program, printed. -/
import Derived.Test.YtgnfkbaghjmgiaaGreatDoorM2
namespace M
open Sx
set_option linter.unusedVariables false
def blocks_Coarse (d : Int) (e : Int) (f : LI) (g : LI) (h : LI) : Option (LI × LI × LI × LI × LI × LI × Int) :=
  (matrix_Transpose d e f g h).bind fun a =>
  if a.2.2.2.2.2 = 0 then
    (matching_Reachable d e f g h).bind fun b =>
    (matching_Reachable a.1 a.2.1 a.2.2.1 a.2.2.2.1 a.2.2.2.2.1).bind fun c =>
    (matching_List b.1 true).bind fun i =>
    (matching_List b.2 true).bind fun j =>
    (blocks_rest b.1 c.2).bind fun k =>
    (blocks_rest b.2 c.1).bind fun l =>
    (matching_List c.2 true).bind fun m =>
    (matching_List c.1 true).bind fun n =>
    some (i, j, k, l, m, n, 0)
  else
    some ([], [], [], [], [], [], a.2.2.2.2.2)

def sparsekit_Ints_l1 (b : LI) (c : LI) : Int → Option ((Int) ⊕ (Unit ⊕ Unit)) := fun a =>
  if a < (b.length : Int) then
    (getI b a).bind fun d =>
    (getI c a).bind fun e =>
    if d = e then
      some (.inl (wa .i64 a 1))
    else
      some (.inr (.inr ()))
  else
    some (.inr (.inl ()))
def sparsekit_Ints (a : LI) (b : LI) : Option (Bool) :=
  if (a.length : Int) = (b.length : Int) then
    (loop (sparsekit_Ints_l1 a b) 0).bind (fun o => match o with
      | .inl () =>
        some true
      | .inr () =>
        some false)
  else
    some false

def math_bits_Mul64 (a : Int) (b : Int) : Option (Int × Int) :=
  some (wa .u64 (wa .u64 (wm .u64 (wsrc .u64 a 32) (wsrc .u64 b 32)) (wsrc .u64 (wa .u64 (wm .u64 (wsrc .u64 a 32) (wand .u64 b 4294967295)) (wsrc .u64 (wm .u64 (wand .u64 a 4294967295) (wand .u64 b 4294967295)) 32)) 32)) (wsrc .u64 (wa .u64 (wand .u64 (wa .u64 (wm .u64 (wsrc .u64 a 32) (wand .u64 b 4294967295)) (wsrc .u64 (wm .u64 (wand .u64 a 4294967295) (wand .u64 b 4294967295)) 32)) 4294967295) (wm .u64 (wand .u64 a 4294967295) (wsrc .u64 b 32))) 32), wm .u64 a b)

def math_bits_Mul (b : Int) (c : Int) : Option (Int × Int) :=
  (math_bits_Mul64 b c).bind fun a =>
  some (a.1, a.2)

def slices_Repeat_int_l4 : LI × Int → Option ((LI × Int) ⊕ (LI)) := fun (a, b) =>
  if b < (a.length : Int) then
    (sli a b (a.length : Int)).bind fun e =>
    (sli a 0 b).bind fun d =>
    (cpI a b (a.length : Int) d).bind fun c =>
    some (.inl (c.1, wa .i64 b c.2))
  else
    some (.inr a)
def slices_Repeat_int_j3 (c : Int × Int) (d : LI) : Option (LI) :=
  (mkL 0 (wc .i64 c.2)).bind fun a =>
  (cpI a 0 (a.length : Int) d).bind fun b =>
  (loop (slices_Repeat_int_l4) (b.1, b.2)).bind fun e =>
  some e
def slices_Repeat_int_j1 (b : LI) (c : Int) : Option (LI) :=
  (math_bits_Mul (wc .u64 (b.length : Int)) (wc .u64 c)).bind fun a =>
  if ((decide ((0 : Int) < a.1)) || (decide ((9223372036854775807 : Int) < a.2))) = true then
    none
  else
    slices_Repeat_int_j3 a b
def slices_Repeat_int (b : LI) (a : Int) : Option (LI) :=
  if a < 0 then
    none
  else
    slices_Repeat_int_j1 b a

def blocks_places_l5 (d : LI) (e : Int) : LI × Int → Option ((LI × Int) ⊕ ((LI) ⊕ Unit)) := fun (c, a) =>
  if a < (d.length : Int) then
    (getI d a).bind fun b =>
    (if ((decide (b < 0)) || (decide (e ≤ b))) = true then
      some true
    else
      (getI c b).bind fun f =>
      some (decide ((0 : Int) ≤ f))).bind fun g =>
    if g = true then
      some (.inr (.inr ()))
    else
      (setI c b a).bind fun h =>
      some (.inl (h, wa .i64 a 1))
  else
    some (.inr (.inl c))
def blocks_places (b : LI) (a : Int) : Option (LI × Bool) :=
  (slices_Repeat_int [(-1)] a).bind fun c =>
  if (b.length : Int) = a then
    (loop (blocks_places_l5 b a) (c, 0)).bind (fun o => match o with
      | .inl d =>
        some (d, true)
      | .inr () =>
        some ([], false))
  else
    some ([], false)

def blocks_blockOf_l5 (c : LI) (d : LI) (f : Int) : LI × Int → Option ((LI × Int) ⊕ ((LI) ⊕ Unit)) := fun (e, a) =>
  if a < (c.length : Int) then
    (getI c a).bind fun b =>
    (getI d a).bind fun g =>
    if ((decide (b ≤ g)) || (decide (f < b))) = true then
      some (.inr (.inr ()))
    else
      (getI d a).bind fun h =>
      (slices_Repeat_int [a] (ws .i64 b h)).bind fun i =>
      (app e i).bind fun j =>
      some (.inl (j, wa .i64 a 1))
  else
    some (.inr (.inl e))
def blocks_blockOf (a : LI) (b : Int) : Option (LI × Bool) :=
  (if (a.length : Int) = 0 then
    some true
  else
    (getI a 0).bind fun c =>
    some (!(decide (c = 0)))).bind fun d =>
  (if d = true then
    some true
  else
    (getI a (ws .i64 (a.length : Int) 1)).bind fun e =>
    some (!(decide (e = b)))).bind fun f =>
  if f = true then
    some ([], false)
  else
    (sli a 1 (a.length : Int)).bind fun g =>
    (loop (blocks_blockOf_l5 g a b) ([], 0)).bind (fun o => match o with
      | .inl h =>
        some (h, true)
      | .inr () =>
        some ([], false))

def blocks_Check_l2 (b : (List (Int × Int × Int))) (e : LI × Bool) (c : LI × Bool) (f : LI × Bool) : Int → Option ((Int) ⊕ (Unit ⊕ Unit)) := fun a =>
  if a < (b.length : Int) then
    (getI b a).bind fun d =>
    (getI e.1 d.1).bind fun g =>
    (getI c.1 g).bind fun h =>
    (getI f.1 d.2.1).bind fun i =>
    (getI c.1 i).bind fun j =>
    if j < h then
      some (.inr (.inr ()))
    else
      some (.inl (wa .i64 a 1))
  else
    some (.inr (.inl ()))
def blocks_Check (b : Int) (a : Int) (c : LI) (d : LI) (e : LI) (j : LI) (k : LI) (l : LI) : Option (Int) :=
  (blocks_square b a c d e).bind fun f =>
  if f = 0 then
    (blocks_places j a).bind fun g =>
    (blocks_places k a).bind fun h =>
    if ((!(g.2)) || (!(h.2))) = true then
      some 90
    else
      (blocks_blockOf l a).bind fun i =>
      if i.2 = true then
        (matrix_Entries b a c d e).bind fun m =>
        (loop (blocks_Check_l2 m g i h) 0).bind (fun o => match o with
          | .inl () =>
            some 0
          | .inr () =>
            some 150)
      else
        some 150
  else
    some f

def sparselaw15_awake : Option (Bool) :=
  (blocks_Triangular 2 2 [0, 1, 3] [0, 0, 1] [0, 0, 0]).bind fun a =>
  (blocks_Coarse 2 2 [0, 1, 3] [0, 0, 1] [0, 0, 0]).bind fun b =>
  (if ((decide (a.2.2.2 = 0)) && (decide (b.2.2.2.2.2.2 = 0))) = true then
    (sparsekit_Ints a.2.2.1 [0, 1, 2]).bind fun c =>
    some c
  else
    some false).bind fun d =>
  (if d = true then
    (sparsekit_Ints a.2.1 [0, 1]).bind fun e =>
    some e
  else
    some false).bind fun f =>
  (if f = true then
    (sparsekit_Ints b.2.2.2.1 [0, 1]).bind fun g =>
    some g
  else
    some false).bind fun h =>
  (if h = true then
    (blocks_Check 2 2 [0, 1, 3] [0, 0, 1] [0, 0, 0] a.1 a.2.1 a.2.2.1).bind fun i =>
    some (decide (i = 0))
  else
    some false).bind fun j =>
  some j

def sparsekit_Place (a : Int) (b : Int) : Option (Int) :=
  (wr (wc .u64 a) (wc .u64 b)).bind fun c =>
  some (wc .i64 c)

def sparseref01_trim_l4 (c : Int) (d : LI) : LI × Int → Option ((LI × Int) ⊕ (LI)) := fun (b, a) =>
  if a < c then
    (getI d a).bind fun e =>
    (app b [e]).bind fun f =>
    some (.inl (f, wa .i64 a 1))
  else
    some (.inr b)
def sparseref01_trim_l3 (b : LI) : Int → Option ((Int) ⊕ (Int)) := fun a =>
  (if (0 : Int) < a then
    (getI b (ws .i64 a 1)).bind fun c =>
    some (decide (c = 0))
  else
    some false).bind fun d =>
  if d = true then
    some (.inl (ws .i64 a 1))
  else
    some (.inr a)
def sparseref01_trim (a : LI) : Option (LI) :=
  (loop (sparseref01_trim_l3 a) (a.length : Int)).bind fun b =>
  (loop (sparseref01_trim_l4 b a) ([], 0)).bind fun c =>
  some c

def sparseref01_make1 (b : Bool) (c : LI) : Option (Bool × LI) :=
  (sparseref01_trim c).bind fun a =>
  some ((b && (decide ((0 : Int) < (a.length : Int)))), a)

def sparseref01_FromInt_j1 (c : Int) (a : Int) : Option (Bool × LI) :=
  (sparseref01_make1 (decide (c < 0)) [wc .u32 a, wc .u32 (wsrc .u64 a 32)]).bind fun b =>
  some (b.1, b.2)
def sparseref01_FromInt (a : Int) : Option (Bool × LI) :=
  if a < 0 then
    sparseref01_FromInt_j1 a (wa .u64 (wc .u64 (wneg .i64 (wa .i64 a 1))) 1)
  else
    sparseref01_FromInt_j1 a (wc .u64 a)

def sparseref01_Norm (b : Bool) (c : LI) : Option (Bool × LI) :=
  (sparseref01_make1 b c).bind fun a =>
  some (a.1, a.2)
end M
