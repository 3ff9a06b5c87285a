/- Models of functions of the program, printed. -/
import Derived.Test.YtpfmbaidflhamaaGreatDoorM4
namespace M
open Sx
set_option linter.unusedVariables false
def modular_echelon_1 (a : LI) (b : Int) : Option (Bool) :=
  (getI a b).bind fun c =>
  some (!(decide (c = 0)))

def slices_IndexFunc_int_v2_l1 (b : L2) (c : Int) : Int → Option ((Int) ⊕ (Unit ⊕ Int)) := fun a =>
  if a < (b.length : Int) then
    (getI b a).bind fun d =>
    (modular_echelon_1 d c).bind fun e =>
    if e = true then
      some (.inr (.inr a))
    else
      some (.inl (wa .i64 a 1))
  else
    some (.inr (.inl ()))
def slices_IndexFunc_int_v2 (a : L2) (b : Int) : Option (Int) :=
  (loop (slices_IndexFunc_int_v2_l1 a b) 0).bind (fun o => match o with
    | .inl () =>
      some (-1)
    | .inr c =>
      some c)

def modular_raise_j4 (a : Int) (b : Int) (c : Int) (d : Int) : Option ((Int × Int × Int) ⊕ (Int)) :=
  (wr (wm .i64 a a) b).bind fun e =>
  some (.inl (e, wqc .i64 c 2, d))
def modular_raise_l3 (b : Int) : Int × Int × Int → Option ((Int × Int × Int) ⊕ (Int)) := fun (c, a, d) =>
  if (0 : Int) < a then
    if (wrc a 2) = 1 then
      (wr (wm .i64 d c) b).bind fun e =>
      modular_raise_j4 c b a e
    else
      modular_raise_j4 c b a d
  else
    some (.inr d)
def modular_raise (a : Int) (b : Int) (c : Int) : Option (Int) :=
  (loop (modular_raise_l3 c) (a, b, 1)).bind fun d =>
  some d

def modular_inverse (b : Int) (a : Int) : Option (Int) :=
  (modular_raise b (ws .i64 a 2) a).bind fun c =>
  some c

def modular_subtract_l1 (c : LI) (e : Int) (d : Int) : LI × Int → Option ((LI × Int) ⊕ (LI)) := fun (b, a) =>
  if a < (c.length : Int) then
    (getI c a).bind fun f =>
    (getI b a).bind fun g =>
    (wr (wm .i64 e f) d).bind fun h =>
    (modular_mod (ws .i64 g h) d).bind fun i =>
    (setI b a i).bind fun j =>
    some (.inl (j, wa .i64 a 1))
  else
    some (.inr b)
def modular_subtract (a : LI) (b : LI) (c : Int) (d : Int) : Option (LI) :=
  (loop (modular_subtract_l1 b c d) (a, 0)).bind fun e =>
  some e

def modular_echelon_j161 (a : Int) (b : L2) (c : LI) (d : Int) : Option ((L2 × LI × Int × Int) ⊕ ((L2 × LI × Int))) :=
  some (.inl (b, c, d, wa .i64 a 1))
def modular_echelon_j170 (a : Int) (b : L2) : Option ((L2 × Int) ⊕ (L2)) :=
  some (.inl (b, wa .i64 a 1))
def modular_echelon_l168 (f : L2) (c : LI) (e : Int) (g : Int) : L2 × Int → Option ((L2 × Int) ⊕ (L2)) := fun (b, a) =>
  if a < (f.length : Int) then
    (getI b a).bind fun d =>
    (if a = (c.length : Int) then
      some false
    else
      (getI d e).bind fun h =>
      some (!(decide (h = 0)))).bind fun i =>
    if i = true then
      (getI b (c.length : Int)).bind fun j =>
      (getI d e).bind fun k =>
      (neI a (c.length : Int)).bind fun u2628 =>
      (modular_subtract d j k g).bind fun l =>
      (setI b a l).bind fun m =>
      modular_echelon_j170 a m
    else
      modular_echelon_j170 a b
  else
    some (.inr b)
def modular_echelon_l163 (d : LI) (c : LI) (e : Int) (f : Int) : L2 × Int → Option ((L2 × Int) ⊕ (L2)) := fun (a, b) =>
  if b < (d.length : Int) then
    (getI a (c.length : Int)).bind fun g =>
    (getI a (c.length : Int)).bind fun h =>
    (getI h b).bind fun i =>
    (wr (wm .i64 i e) f).bind fun j =>
    (setI g b j).bind fun k =>
    (setI a (c.length : Int) k).bind fun l =>
    some (.inl (l, wa .i64 b 1))
  else
    some (.inr a)
def modular_echelon_j162 (a : LI) (b : Int) (c : Int) (d : L2) (f : Int) : Option ((L2 × LI × Int × Int) ⊕ ((L2 × LI × Int))) :=
  (getI d (a.length : Int)).bind fun g =>
  (getI g b).bind fun h =>
  (wr (wm .i64 f h) c).bind fun i =>
  (getI d (a.length : Int)).bind fun j =>
  (getI j b).bind fun k =>
  (modular_inverse k c).bind fun l =>
  (getI d (a.length : Int)).bind fun m =>
  (loop (modular_echelon_l163 m a l c) (d, 0)).bind fun e =>
  (loop (modular_echelon_l168 e a b c) (e, 0)).bind fun n =>
  (app a [b]).bind fun o =>
  modular_echelon_j161 b n o i
def modular_echelon_l142 (g : Int) (f : Int) : L2 × LI × Int × Int → Option ((L2 × LI × Int × Int) ⊕ ((L2 × LI × Int))) := fun (b, a, c, d) =>
  if d < g then
    if (a.length : Int) = (b.length : Int) then
      some (.inr (b, a, c))
    else
      (sli b (a.length : Int) (b.length : Int)).bind fun h =>
      (slices_IndexFunc_int_v2 h d).bind fun e =>
      if (wa .i64 (a.length : Int) e) < (a.length : Int) then
        modular_echelon_j161 d b a c
      else
        if (a.length : Int) < (wa .i64 (a.length : Int) e) then
          (getI b (wa .i64 (a.length : Int) e)).bind fun i =>
          (getI b (a.length : Int)).bind fun j =>
          (setI b (a.length : Int) i).bind fun k =>
          (setI k (wa .i64 (a.length : Int) e) j).bind fun l =>
          (modular_mod (wneg .i64 c) f).bind fun m =>
          modular_echelon_j162 a d f l m
        else
          modular_echelon_j162 a d f b c
  else
    some (.inr (b, a, c))
def modular_echelon (a : L2) (b : Int) : Option (L2 × LI × Int) :=
  (modular_columns a).bind fun c =>
  (loop (modular_echelon_l142 c b) (a, [], 1, 0)).bind fun (d, e, f) =>
  some (d, e, f)

def modular_Rank (b : L2) (a : Int) : Option (Int × Int) :=
  (modular_check b a).bind fun c =>
  if c = 0 then
    (modular_reduced b a).bind fun d =>
    (modular_echelon d a).bind fun e =>
    some ((e.2.1.length : Int), 0)
  else
    some (0, c)

def sparseref01_mulMag_l4 (e : LI) (i : LI) (b : Int) : LI × Int × Int → Option ((LI × Int × Int) ⊕ ((LI × Int))) := fun (c, d, a) =>
  if a < (e.length : Int) then
    (getI i b).bind fun f =>
    (getI e a).bind fun g =>
    (getI c (wa .i64 b a)).bind fun h =>
    (setI c (wa .i64 b a) (wc .u32 (wa .u64 (wa .u64 d (wm .u64 (wc .u64 f) (wc .u64 g))) (wc .u64 h)))).bind fun j =>
    some (.inl (j, wsrc .u64 (wa .u64 (wa .u64 d (wm .u64 (wc .u64 f) (wc .u64 g))) (wc .u64 h)) 32, wa .i64 a 1))
  else
    some (.inr (c, d))
def sparseref01_mulMag_l3 (b : LI) (c : LI) : LI × Int → Option ((LI × Int) ⊕ (LI)) := fun (d, a) =>
  if a < (b.length : Int) then
    (loop (sparseref01_mulMag_l4 c b a) (d, 0, 0)).bind fun (e, f) =>
    (setI e (wa .i64 a (c.length : Int)) (wc .u32 f)).bind fun g =>
    some (.inl (g, wa .i64 a 1))
  else
    some (.inr d)
def sparseref01_mulMag (a : LI) (b : LI) : Option (LI) :=
  (mkL 0 (wa .i64 (a.length : Int) (b.length : Int))).bind fun c =>
  (loop (sparseref01_mulMag_l3 a b) (c, 0)).bind fun d =>
  some d

def sparseref01_Mul (b : Bool) (c : LI) (d : Bool) (e : LI) : Option (Bool × LI) :=
  (sparseref01_trim c).bind fun f =>
  (sparseref01_trim e).bind fun g =>
  (sparseref01_mulMag f g).bind fun h =>
  (sparseref01_make1 (!((b == d))) h).bind fun a =>
  some (a.1, a.2)

def sparseref01_addMag_j7 (b : LI) (c : Int) (a : Int) : Option ((LI × Int × Int) ⊕ ((LI × Int))) :=
  (app b [wc .u32 a]).bind fun d =>
  some (.inl (d, wsrc .u64 a 32, wa .i64 c 1))
def sparseref01_addMag_j6 (a : Int) (b : LI) (c : LI) (d : Int) : Option ((LI × Int × Int) ⊕ ((LI × Int))) :=
  if a < (b.length : Int) then
    (getI b a).bind fun e =>
    sparseref01_addMag_j7 c a (wa .u64 d (wc .u64 e))
  else
    sparseref01_addMag_j7 c a d
def sparseref01_addMag_l5 (b : LI) (c : LI) : LI × Int × Int → Option ((LI × Int × Int) ⊕ ((LI × Int))) := fun (d, e, a) =>
  if a < (imax (b.length : Int) (c.length : Int)) then
    if a < (b.length : Int) then
      (getI b a).bind fun f =>
      sparseref01_addMag_j6 a c d (wa .u64 e (wc .u64 f))
    else
      sparseref01_addMag_j6 a c d e
  else
    some (.inr (d, e))
def sparseref01_addMag (a : LI) (b : LI) : Option (LI) :=
  (loop (sparseref01_addMag_l5 a b) ([], 0, 0)).bind fun (c, d) =>
  (app c [wc .u32 d]).bind fun e =>
  some e

def sparseref01_cmpMag_l1 (b : LI) (c : LI) : Int → Option ((Int) ⊕ (Unit ⊕ Int)) := fun a =>
  if (0 : Int) ≤ a then
    (getI b a).bind fun d =>
    (getI c a).bind fun e =>
    if d = e then
      some (.inl (ws .i64 a 1))
    else
      (getI b a).bind fun f =>
      (getI c a).bind fun g =>
      if f < g then
        some (.inr (.inr (-1)))
      else
        some (.inr (.inr 1))
  else
    some (.inr (.inl ()))
def sparseref01_cmpMag (a : LI) (b : LI) : Option (Int) :=
  if (a.length : Int) = (b.length : Int) then
    (loop (sparseref01_cmpMag_l1 a b) (ws .i64 (a.length : Int) 1)).bind (fun o => match o with
      | .inl () =>
        some 0
      | .inr c =>
        some c)
  else
    if (a.length : Int) < (b.length : Int) then
      some (-1)
    else
      some 1

def sparseref01_subMag_j4 (b : LI) (c : Int) (a : Int) : Option ((LI × Int × Int) ⊕ (LI)) :=
  (app b [wc .u32 a]).bind fun d =>
  some (.inl (d, wsrc .u64 a 63, wa .i64 c 1))
def sparseref01_subMag_l3 (c : LI) (d : LI) : LI × Int × Int → Option ((LI × Int × Int) ⊕ (LI)) := fun (b, e, a) =>
  if a < (c.length : Int) then
    (getI c a).bind fun f =>
    if a < (d.length : Int) then
      (getI d a).bind fun g =>
      sparseref01_subMag_j4 b a (ws .u64 (ws .u64 (wc .u64 f) e) (wc .u64 g))
    else
      sparseref01_subMag_j4 b a (ws .u64 (wc .u64 f) e)
  else
    some (.inr b)
def sparseref01_subMag (a : LI) (b : LI) : Option (LI) :=
  (loop (sparseref01_subMag_l3 a b) ([], 0, 0)).bind fun c =>
  some c

def sparseref01_Add (c : Bool) (h : LI) (d : Bool) (i : LI) : Option (Bool × LI) :=
  (sparseref01_trim h).bind fun a =>
  (sparseref01_trim i).bind fun b =>
  if (c == d) = true then
    (sparseref01_addMag a b).bind fun j =>
    (sparseref01_make1 c j).bind fun e =>
    some (e.1, e.2)
  else
    (sparseref01_cmpMag a b).bind fun k =>
    if (0 : Int) ≤ k then
      (sparseref01_subMag a b).bind fun l =>
      (sparseref01_make1 c l).bind fun f =>
      some (f.1, f.2)
    else
      (sparseref01_subMag b a).bind fun m =>
      (sparseref01_make1 d m).bind fun g =>
      some (g.1, g.2)

def sparseref08_Dot_l1 (b : List (Bool × LI)) (i : List (Bool × LI)) : Bool × LI × Int → Option ((Bool × LI × Int) ⊕ ((Bool × LI))) := fun (c, d, a) =>
  if a < (b.length : Int) then
    (getI b a).bind fun e =>
    (getI i a).bind fun f =>
    (sparseref01_Mul e.1 e.2 f.1 f.2).bind fun g =>
    (sparseref01_Add c d g.1 g.2).bind fun h =>
    some (.inl (h.1, h.2, wa .i64 a 1))
  else
    some (.inr (c, d))
def sparseref08_Dot (a : List (Bool × LI)) (b : List (Bool × LI)) : Option (Bool × LI) :=
  (loop (sparseref08_Dot_l1 a b) (false, [], 0)).bind fun (c, d) =>
  some (c, d)
end M
