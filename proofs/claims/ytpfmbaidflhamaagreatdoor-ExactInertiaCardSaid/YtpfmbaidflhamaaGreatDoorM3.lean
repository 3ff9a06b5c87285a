/- Models of functions of the program, printed. -/
import Derived.Test.YtpfmbaidflhamaaGreatDoorM2
namespace M
open Sx
set_option linter.unusedVariables false
def integer_down_j5 (b : Int) (c : LI) (a : Int) (d : Int) : Option ((LI × Int) ⊕ (LI)) :=
  (wshr .u64 d (wc .u64 (wrc b 32))).bind fun e =>
  (setI c a (wc .u32 (wand .u64 e 4294967295))).bind fun f =>
  some (.inl (f, wa .i64 a 1))
def integer_down_l4 (f : LI) (c : LI) (b : Int) : LI × Int → Option ((LI × Int) ⊕ (LI)) := fun (d, a) =>
  if a < (f.length : Int) then
    (getI c (wa .i64 (wqc .i64 b 32) a)).bind fun e =>
    if (wa .i64 (wa .i64 (wqc .i64 b 32) a) 1) < (c.length : Int) then
      (getI c (wa .i64 (wa .i64 (wqc .i64 b 32) a) 1)).bind fun g =>
      integer_down_j5 b d a (wor .u64 (wc .u64 e) (wslc .u64 (wc .u64 g) 32))
    else
      integer_down_j5 b d a (wc .u64 e)
  else
    some (.inr d)
def integer_down (a : LI) (b : Int) : Option (LI × Bool) :=
  if (a.length : Int) ≤ (wqc .i64 b 32) then
    some ([], decide ((0 : Int) < (a.length : Int)))
  else
    (sli a 0 (wqc .i64 b 32)).bind fun d =>
    (slices_ContainsFunc_uint32 d).bind fun e =>
    (if e = true then
      some true
    else
      (getI a (wqc .i64 b 32)).bind fun f =>
      (wshl .u32 1 (wc .u64 (wrc b 32))).bind fun g =>
      some (!(decide ((wand .u32 f (ws .u32 g 1)) = 0)))).bind fun h =>
    (mkL 0 (ws .i64 (a.length : Int) (wqc .i64 b 32))).bind fun c =>
    (loop (integer_down_l4 c a b) (c, 0)).bind fun i =>
    (integer_trim i).bind fun j =>
    some (j, h)

def integer_divide_l1 (b : LI) : LI × LI × Int → Option ((LI × LI × Int) ⊕ ((LI × LI))) := fun (d, c, a) =>
  if (0 : Int) ≤ a then
    (sli c a (wa .i64 (wa .i64 a (b.length : Int)) 1)).bind fun g =>
    (integer_digit c a (wa .i64 (wa .i64 a (b.length : Int)) 1) b).bind fun e =>
    (setI d a e.2).bind fun f =>
    some (.inl (f, e.1, ws .i64 a 1))
  else
    some (.inr (d, c))
def integer_divide (b : LI) (a : LI) : Option (LI × LI) :=
  (integer_compare b a).bind fun i =>
  if i < 0 then
    (slices_Clone_uint32 b).bind fun j =>
    some ([], j)
  else
    if (a.length : Int) = 1 then
      (getI a 0).bind fun k =>
      (integer_short b k).bind fun e =>
      (integer_trim [e.2]).bind fun l =>
      some (e.1, l)
    else
      (getI a (ws .i64 (a.length : Int) 1)).bind fun m =>
      (math_bits_LeadingZeros32 m).bind fun c =>
      (integer_up a c).bind fun d =>
      (mkL 0 (wa .i64 (b.length : Int) 1)).bind fun f =>
      (integer_up b c).bind fun n =>
      (cpI f 0 (f.length : Int) n).bind fun g =>
      (mkL 0 (ws .i64 (g.1.length : Int) (d.length : Int))).bind fun h =>
      (loop (integer_divide_l1 d) (h, g.1, ws .i64 (h.length : Int) 1)).bind fun (o, p) =>
      (sli p 0 (d.length : Int)).bind fun q =>
      (integer_trim q).bind fun r =>
      (integer_down r c).bind fun s =>
      (integer_trim o).bind fun t =>
      some (t, s.1)

def integer_DivMod_j2 (c : Bool) (d : Bool) (e : LI) (f : LI) : Option (Bool × LI × Bool × LI × Int) :=
  (integer_big (!((c == d))) e).bind fun a =>
  (integer_big false f).bind fun b =>
  some (a.1, a.2, b.1, b.2, 0)
def integer_DivMod (b : Bool) (e : LI) (d : Bool) (f : LI) : Option (Bool × LI × Bool × LI × Int) :=
  (integer_trim f).bind fun c =>
  if (c.length : Int) = 0 then
    some (false, [], false, [], 8)
  else
    (integer_trim e).bind fun g =>
    (integer_divide g c).bind fun a =>
    if (b && (decide ((0 : Int) < (a.2.length : Int)))) = true then
      (integer_plus a.1 [1]).bind fun h =>
      (integer_minus c a.2).bind fun i =>
      integer_DivMod_j2 b d h i
    else
      integer_DivMod_j2 b d a.1 a.2

def integer_Quo (b : Bool) (c : LI) (d : Bool) (e : LI) : Option (Bool × LI × Int) :=
  (integer_DivMod b c d e).bind fun a =>
  if ((decide (a.2.2.2.2 = 0)) && (decide ((0 : Int) < (a.2.2.2.1.length : Int)))) = true then
    some (false, [], 10)
  else
    some (a.1, a.2.1, a.2.2.2.2)

def integer_Neg (b : Bool) (c : LI) : Option (Bool × LI) :=
  (slices_Clone_uint32 c).bind fun d =>
  (integer_big (!(b)) d).bind fun a =>
  some (a.1, a.2)

def exact_product_v2_l13 (b : List (Bool × LI)) (i : List (List (Bool × LI))) (j : Int) : Bool × LI × Int → Option ((Bool × LI × Int) ⊕ ((Bool × LI))) := fun (c, d, a) =>
  if a < (b.length : Int) then
    (getI b a).bind fun e =>
    (getI i a).bind fun k =>
    (getI k j).bind fun f =>
    (integer_Mul e.1 e.2 f.1 f.2).bind fun g =>
    (integer_Add c d g.1 g.2).bind fun h =>
    some (.inl (h.1, h.2, wa .i64 a 1))
  else
    some (.inr (c, d))
def exact_product_v2_l12 (b : List (Bool × LI)) (d : List (List (Bool × LI))) : (List (Bool × LI)) × Int → Option (((List (Bool × LI)) × Int) ⊕ (((List (Bool × LI))))) := fun (c, a) =>
  if a < (b.length : Int) then
    (loop (exact_product_v2_l13 b d a) (false, [], 0)).bind fun (e, f) =>
    (app c [(e, f)]).bind fun g =>
    some (.inl (g, wa .i64 a 1))
  else
    some (.inr c)
def exact_product_v2_l9 (b : List (List (Bool × LI))) (d : List (List (Bool × LI))) : (List (List (Bool × LI))) × Int → Option (((List (List (Bool × LI))) × Int) ⊕ (((List (List (Bool × LI)))))) := fun (c, a) =>
  if a < (b.length : Int) then
    (getI b a).bind fun e =>
    (loop (exact_product_v2_l12 e d) ([], 0)).bind fun f =>
    (app c [f]).bind fun g =>
    some (.inl (g, wa .i64 a 1))
  else
    some (.inr c)
def exact_product_v2 (a : List (List (Bool × LI))) (b : List (List (Bool × LI))) : Option ((List (List (Bool × LI)))) :=
  (loop (exact_product_v2_l9 a b) ([], 0)).bind fun c =>
  some c

def exact_characteristic_l10 (b : (List (List (Bool × LI)))) : Bool × LI × Int → Option ((Bool × LI × Int) ⊕ ((Bool × LI))) := fun (c, d, a) =>
  if a < (b.length : Int) then
    (getI b a).bind fun g =>
    (getI g a).bind fun e =>
    (integer_Add c d e.1 e.2).bind fun f =>
    some (.inl (f.1, f.2, wa .i64 a 1))
  else
    some (.inr (c, d))
def exact_characteristic_l9 (f : List (List (Bool × LI))) (g : List (Bool × LI)) (h : List (List (Bool × LI))) (i : Int) : (List (List (Bool × LI))) × Int → Option (((List (List (Bool × LI))) × Int) ⊕ (((List (List (Bool × LI)))))) := fun (b, a) =>
  if a < (f.length : Int) then
    (getI b a).bind fun j =>
    (getI b a).bind fun k =>
    (getI k a).bind fun c =>
    (getI g (wa .i64 (ws .i64 (h.length : Int) i) 1)).bind fun d =>
    (integer_Add c.1 c.2 d.1 d.2).bind fun e =>
    (setI j a (e.1, e.2)).bind fun l =>
    (setI b a l).bind fun m =>
    some (.inl (m, wa .i64 a 1))
  else
    some (.inr b)
def exact_characteristic_l8 (b : List (List (Bool × LI))) : (List (Bool × LI)) × (List (List (Bool × LI))) × Int → Option (((List (Bool × LI)) × (List (List (Bool × LI))) × Int) ⊕ (((List (Bool × LI))))) := fun (c, d, a) =>
  if a ≤ (b.length : Int) then
    (loop (exact_characteristic_l9 d c b a) (d, 0)).bind fun i =>
    (exact_product_v2 b i).bind fun e =>
    (loop (exact_characteristic_l10 e) (false, [], 0)).bind fun (j, k) =>
    (integer_FromInt a).bind fun f =>
    (integer_Quo j k f.1 f.2).bind fun g =>
    (integer_Neg g.1 g.2.1).bind fun h =>
    (setI c (ws .i64 (b.length : Int) a) (h.1, h.2)).bind fun l =>
    some (.inl (l, e, wa .i64 a 1))
  else
    some (.inr c)
def exact_characteristic_l1 (c : List (List (Bool × LI))) (d : List (List (Bool × LI))) : (List (List (Bool × LI))) × Int → Option (((List (List (Bool × LI))) × Int) ⊕ (((List (List (Bool × LI)))))) := fun (b, a) =>
  if a < (c.length : Int) then
    (mkL (false, []) (d.length : Int)).bind fun e =>
    (setI b a e).bind fun f =>
    some (.inl (f, wa .i64 a 1))
  else
    some (.inr b)
def exact_characteristic (a : List (List (Bool × LI))) : Option ((List (Bool × LI))) :=
  (mkL (false, []) (wa .i64 (a.length : Int) 1)).bind fun d =>
  (integer_FromInt 1).bind fun b =>
  (setI d (a.length : Int) (b.1, b.2)).bind fun e =>
  (mkL ([] : List (Bool × LI)) (a.length : Int)).bind fun c =>
  (loop (exact_characteristic_l1 c a) (c, 0)).bind fun f =>
  (loop (exact_characteristic_l8 a) (e, f, 1)).bind fun g =>
  some g

def exact_Inertia_j13 (a : Int) (b : Int) (c : Int) : Option ((Int × Int × Int) ⊕ (Int)) :=
  some (.inl (a, c, wa .i64 b 1))
def exact_Inertia_j12 (a : Int) (b : Int) (d : Int) (c : Int) : Option ((Int × Int × Int) ⊕ (Int)) :=
  if a = 0 then
    exact_Inertia_j13 c b d
  else
    exact_Inertia_j13 c b a
def exact_Inertia_l11 (e : (List (Bool × LI))) : Int × Int × Int → Option ((Int × Int × Int) ⊕ (Int)) := fun (b, c, a) =>
  if a < (e.length : Int) then
    (getI e a).bind fun f =>
    (integer_Sign f.1 f.2).bind fun d =>
    if (wm .i64 d c) < 0 then
      exact_Inertia_j12 d a c (wa .i64 b 1)
    else
      exact_Inertia_j12 d a c b
  else
    some (.inr b)
def exact_Inertia_l6 (c : List (List (Bool × LI))) (d : (List (Bool × LI))) : Int → Option ((Int) ⊕ (Int)) := fun a =>
  (if a < (c.length : Int) then
    (getI d a).bind fun b =>
    (integer_Sign b.1 b.2).bind fun e =>
    some (decide (e = 0))
  else
    some false).bind fun f =>
  if f = true then
    some (.inl (wa .i64 a 1))
  else
    some (.inr a)
def exact_Inertia_l15 (b : List (Bool × LI)) (e : List (List (Bool × LI))) (f : Int) : Int → Option ((Int) ⊕ (Unit ⊕ Unit)) := fun a =>
  if a < (b.length : Int) then
    (getI b a).bind fun c =>
    (getI e a).bind fun g =>
    (getI g f).bind fun d =>
    (integer_Cmp c.1 c.2 d.1 d.2).bind fun h =>
    if h = 0 then
      some (.inl (wa .i64 a 1))
    else
      some (.inr (.inr ()))
  else
    some (.inr (.inl ()))
def exact_Inertia_l3 (b : List (List (Bool × LI))) : Int → Option ((Int) ⊕ (Unit ⊕ Unit)) := fun a =>
  if a < (b.length : Int) then
    (getI b a).bind fun c =>
    (loop (exact_Inertia_l15 c b a) 0).bind (fun o => match o with
      | .inl () =>
        some (.inl (wa .i64 a 1))
      | .inr () =>
        some (.inr (.inr ())))
  else
    some (.inr (.inl ()))
def exact_Inertia (a : List (List (Bool × LI))) : Option (Int × Int × Int × Int) :=
  (exact_square a).bind fun b =>
  if b = 0 then
    (loop (exact_Inertia_l3 a) 0).bind (fun o => match o with
      | .inl () =>
        (exact_twin a []).bind fun f =>
        (exact_characteristic f).bind fun c =>
        (loop (exact_Inertia_l6 a c) 0).bind fun d =>
        (loop (exact_Inertia_l11 c) (0, 0, 0)).bind fun e =>
        some (ws .i64 (ws .i64 (a.length : Int) d) e, d, e, 0)
      | .inr () =>
        some (0, 0, 0, 80))
  else
    some (0, 0, 0, b)

def sparseref01_trim_l4 (c : Int) (d : LI) : LI × Int → Option ((LI × Int) ⊕ (LI)) := fun (b, a) =>
  if a < c then
    (getI d a).bind fun e =>
    (app b [e]).bind fun f =>
    some (.inl (f, wa .i64 a 1))
  else
    some (.inr b)
def sparseref01_trim_l3 (b : LI) : Int → Option ((Int) ⊕ (Int)) := fun a =>
  (if (0 : Int) < a then
    (getI b (ws .i64 a 1)).bind fun c =>
    some (decide (c = 0))
  else
    some false).bind fun d =>
  if d = true then
    some (.inl (ws .i64 a 1))
  else
    some (.inr a)
def sparseref01_trim (a : LI) : Option (LI) :=
  (loop (sparseref01_trim_l3 a) (a.length : Int)).bind fun b =>
  (loop (sparseref01_trim_l4 b a) ([], 0)).bind fun c =>
  some c

def sparseref01_make1 (b : Bool) (c : LI) : Option (Bool × LI) :=
  (sparseref01_trim c).bind fun a =>
  some ((b && (decide ((0 : Int) < (a.length : Int)))), a)

def sparseref01_Neg (b : Bool) (c : LI) : Option (Bool × LI) :=
  (sparseref01_make1 (!(b)) c).bind fun a =>
  some (a.1, a.2)

def sparseref01_addMag_j7 (b : LI) (c : Int) (a : Int) : Option ((LI × Int × Int) ⊕ ((LI × Int))) :=
  (app b [wc .u32 a]).bind fun d =>
  some (.inl (d, wsrc .u64 a 32, wa .i64 c 1))
def sparseref01_addMag_j6 (a : Int) (b : LI) (c : LI) (d : Int) : Option ((LI × Int × Int) ⊕ ((LI × Int))) :=
  if a < (b.length : Int) then
    (getI b a).bind fun e =>
    sparseref01_addMag_j7 c a (wa .u64 d (wc .u64 e))
  else
    sparseref01_addMag_j7 c a d
def sparseref01_addMag_l5 (b : LI) (c : LI) : LI × Int × Int → Option ((LI × Int × Int) ⊕ ((LI × Int))) := fun (d, e, a) =>
  if a < (imax (b.length : Int) (c.length : Int)) then
    if a < (b.length : Int) then
      (getI b a).bind fun f =>
      sparseref01_addMag_j6 a c d (wa .u64 e (wc .u64 f))
    else
      sparseref01_addMag_j6 a c d e
  else
    some (.inr (d, e))
def sparseref01_addMag (a : LI) (b : LI) : Option (LI) :=
  (loop (sparseref01_addMag_l5 a b) ([], 0, 0)).bind fun (c, d) =>
  (app c [wc .u32 d]).bind fun e =>
  some e

def sparseref01_cmpMag_l1 (b : LI) (c : LI) : Int → Option ((Int) ⊕ (Unit ⊕ Int)) := fun a =>
  if (0 : Int) ≤ a then
    (getI b a).bind fun d =>
    (getI c a).bind fun e =>
    if d = e then
      some (.inl (ws .i64 a 1))
    else
      (getI b a).bind fun f =>
      (getI c a).bind fun g =>
      if f < g then
        some (.inr (.inr (-1)))
      else
        some (.inr (.inr 1))
  else
    some (.inr (.inl ()))
def sparseref01_cmpMag (a : LI) (b : LI) : Option (Int) :=
  if (a.length : Int) = (b.length : Int) then
    (loop (sparseref01_cmpMag_l1 a b) (ws .i64 (a.length : Int) 1)).bind (fun o => match o with
      | .inl () =>
        some 0
      | .inr c =>
        some c)
  else
    if (a.length : Int) < (b.length : Int) then
      some (-1)
    else
      some 1

def sparseref01_subMag_j4 (b : LI) (c : Int) (a : Int) : Option ((LI × Int × Int) ⊕ (LI)) :=
  (app b [wc .u32 a]).bind fun d =>
  some (.inl (d, wsrc .u64 a 63, wa .i64 c 1))
def sparseref01_subMag_l3 (c : LI) (d : LI) : LI × Int × Int → Option ((LI × Int × Int) ⊕ (LI)) := fun (b, e, a) =>
  if a < (c.length : Int) then
    (getI c a).bind fun f =>
    if a < (d.length : Int) then
      (getI d a).bind fun g =>
      sparseref01_subMag_j4 b a (ws .u64 (ws .u64 (wc .u64 f) e) (wc .u64 g))
    else
      sparseref01_subMag_j4 b a (ws .u64 (wc .u64 f) e)
  else
    some (.inr b)
def sparseref01_subMag (a : LI) (b : LI) : Option (LI) :=
  (loop (sparseref01_subMag_l3 a b) ([], 0, 0)).bind fun c =>
  some c
end M
