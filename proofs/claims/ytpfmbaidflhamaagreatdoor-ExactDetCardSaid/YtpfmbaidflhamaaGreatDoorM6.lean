/- Models of functions of the program, printed. -/
import Derived.Test.YtpfmbaidflhamaaGreatDoorM5
namespace M
open Sx
set_option linter.unusedVariables false
def modular_echelon_1 (a : LI) (b : Int) : Option (Bool) :=
  (getI a b).bind fun c =>
  some (!(decide (c = 0)))

def slices_IndexFunc_int_v2_l1 (b : L2) (c : Int) : Int → Option ((Int) ⊕ (Unit ⊕ Int)) := fun a =>
  if a < (b.length : Int) then
    (getI b a).bind fun d =>
    (modular_echelon_1 d c).bind fun e =>
    if e = true then
      some (.inr (.inr a))
    else
      some (.inl (wa .i64 a 1))
  else
    some (.inr (.inl ()))
def slices_IndexFunc_int_v2 (a : L2) (b : Int) : Option (Int) :=
  (loop (slices_IndexFunc_int_v2_l1 a b) 0).bind (fun o => match o with
    | .inl () =>
      some (-1)
    | .inr c =>
      some c)

def modular_raise_j4 (a : Int) (b : Int) (c : Int) (d : Int) : Option ((Int × Int × Int) ⊕ (Int)) :=
  (wr (wm .i64 a a) b).bind fun e =>
  some (.inl (e, wqc .i64 c 2, d))
def modular_raise_l3 (b : Int) : Int × Int × Int → Option ((Int × Int × Int) ⊕ (Int)) := fun (c, a, d) =>
  if (0 : Int) < a then
    if (wrc a 2) = 1 then
      (wr (wm .i64 d c) b).bind fun e =>
      modular_raise_j4 c b a e
    else
      modular_raise_j4 c b a d
  else
    some (.inr d)
def modular_raise (a : Int) (b : Int) (c : Int) : Option (Int) :=
  (loop (modular_raise_l3 c) (a, b, 1)).bind fun d =>
  some d

def modular_inverse (b : Int) (a : Int) : Option (Int) :=
  (modular_raise b (ws .i64 a 2) a).bind fun c =>
  some c

def modular_subtract_l1 (c : LI) (e : Int) (d : Int) : LI × Int → Option ((LI × Int) ⊕ (LI)) := fun (b, a) =>
  if a < (c.length : Int) then
    (getI c a).bind fun f =>
    (getI b a).bind fun g =>
    (wr (wm .i64 e f) d).bind fun h =>
    (modular_mod (ws .i64 g h) d).bind fun i =>
    (setI b a i).bind fun j =>
    some (.inl (j, wa .i64 a 1))
  else
    some (.inr b)
def modular_subtract (a : LI) (b : LI) (c : Int) (d : Int) : Option (LI) :=
  (loop (modular_subtract_l1 b c d) (a, 0)).bind fun e =>
  some e

def modular_echelon_j161 (a : Int) (b : L2) (c : LI) (d : Int) : Option ((L2 × LI × Int × Int) ⊕ ((L2 × LI × Int))) :=
  some (.inl (b, c, d, wa .i64 a 1))
def modular_echelon_j170 (a : Int) (b : L2) : Option ((L2 × Int) ⊕ (L2)) :=
  some (.inl (b, wa .i64 a 1))
def modular_echelon_l168 (f : L2) (c : LI) (e : Int) (g : Int) : L2 × Int → Option ((L2 × Int) ⊕ (L2)) := fun (b, a) =>
  if a < (f.length : Int) then
    (getI b a).bind fun d =>
    (if a = (c.length : Int) then
      some false
    else
      (getI d e).bind fun h =>
      some (!(decide (h = 0)))).bind fun i =>
    if i = true then
      (getI b (c.length : Int)).bind fun j =>
      (getI d e).bind fun k =>
      (neI a (c.length : Int)).bind fun u2628 =>
      (modular_subtract d j k g).bind fun l =>
      (setI b a l).bind fun m =>
      modular_echelon_j170 a m
    else
      modular_echelon_j170 a b
  else
    some (.inr b)
def modular_echelon_l163 (d : LI) (c : LI) (e : Int) (f : Int) : L2 × Int → Option ((L2 × Int) ⊕ (L2)) := fun (a, b) =>
  if b < (d.length : Int) then
    (getI a (c.length : Int)).bind fun g =>
    (getI a (c.length : Int)).bind fun h =>
    (getI h b).bind fun i =>
    (wr (wm .i64 i e) f).bind fun j =>
    (setI g b j).bind fun k =>
    (setI a (c.length : Int) k).bind fun l =>
    some (.inl (l, wa .i64 b 1))
  else
    some (.inr a)
def modular_echelon_j162 (a : LI) (b : Int) (c : Int) (d : L2) (f : Int) : Option ((L2 × LI × Int × Int) ⊕ ((L2 × LI × Int))) :=
  (getI d (a.length : Int)).bind fun g =>
  (getI g b).bind fun h =>
  (wr (wm .i64 f h) c).bind fun i =>
  (getI d (a.length : Int)).bind fun j =>
  (getI j b).bind fun k =>
  (modular_inverse k c).bind fun l =>
  (getI d (a.length : Int)).bind fun m =>
  (loop (modular_echelon_l163 m a l c) (d, 0)).bind fun e =>
  (loop (modular_echelon_l168 e a b c) (e, 0)).bind fun n =>
  (app a [b]).bind fun o =>
  modular_echelon_j161 b n o i
def modular_echelon_l142 (g : Int) (f : Int) : L2 × LI × Int × Int → Option ((L2 × LI × Int × Int) ⊕ ((L2 × LI × Int))) := fun (b, a, c, d) =>
  if d < g then
    if (a.length : Int) = (b.length : Int) then
      some (.inr (b, a, c))
    else
      (sli b (a.length : Int) (b.length : Int)).bind fun h =>
      (slices_IndexFunc_int_v2 h d).bind fun e =>
      if (wa .i64 (a.length : Int) e) < (a.length : Int) then
        modular_echelon_j161 d b a c
      else
        if (a.length : Int) < (wa .i64 (a.length : Int) e) then
          (getI b (wa .i64 (a.length : Int) e)).bind fun i =>
          (getI b (a.length : Int)).bind fun j =>
          (setI b (a.length : Int) i).bind fun k =>
          (setI k (wa .i64 (a.length : Int) e) j).bind fun l =>
          (modular_mod (wneg .i64 c) f).bind fun m =>
          modular_echelon_j162 a d f l m
        else
          modular_echelon_j162 a d f b c
  else
    some (.inr (b, a, c))
def modular_echelon (a : L2) (b : Int) : Option (L2 × LI × Int) :=
  (modular_columns a).bind fun c =>
  (loop (modular_echelon_l142 c b) (a, [], 1, 0)).bind fun (d, e, f) =>
  some (d, e, f)

def modular_Det (a : L2) (b : Int) : Option (Int × Int) :=
  (modular_square a b).bind fun c =>
  if c = 0 then
    (modular_reduced a b).bind fun e =>
    (modular_echelon e b).bind fun d =>
    if (d.2.1.length : Int) < (a.length : Int) then
      some (0, 0)
    else
      some (d.2.2, 0)
  else
    some (0, c)

def integer_Int_l1 (b : LI) : Int × Int → Option ((Int × Int) ⊕ (Int)) := fun (c, a) =>
  if a < (b.length : Int) then
    (getI b a).bind fun d =>
    (wshl .u64 (wc .u64 d) (wm .i64 32 a)).bind fun e =>
    some (.inl (wor .u64 c e, wa .i64 a 1))
  else
    some (.inr c)
def integer_Int (b : Bool) (d : LI) : Option (Int × Bool) :=
  (integer_trim d).bind fun c =>
  if (2 : Int) < (c.length : Int) then
    some (0, false)
  else
    (loop (integer_Int_l1 c) (0, 0)).bind fun a =>
    if ((b && (decide ((0 : Int) < a))) && (decide (a ≤ 9223372036854775808))) = true then
      some (ws .i64 (wneg .i64 (wc .i64 (ws .u64 a 1))) 1, true)
    else
      if ((decide (a < 9223372036854775808)) && ((!(b)) || (decide (a = 0)))) = true then
        some (wc .i64 a, true)
      else
        some (0, false)

def modular_remainder (c : Bool) (d : LI) (e : Int) : Option (Int) :=
  (integer_FromInt e).bind fun a =>
  (integer_DivMod c d a.1 a.2).bind fun b =>
  (integer_Int b.2.2.1 b.2.2.2.1).bind fun f =>
  some f.1

def modular_Reduce (b : Bool) (c : LI) (a : Int) : Option (Int × Int) :=
  (modular_IsPrime a).bind fun d =>
  if d = true then
    (modular_remainder b c a).bind fun e =>
    some (e, 0)
  else
    some (0, 70)

def sparselaw08_ExactDet_l29 (d : Int) (e : (List (List (Bool × LI)))) (f : Int) : LI × Int → Option ((LI × Int) ⊕ (LI)) := fun (b, a) =>
  if a < d then
    (getI e f).bind fun g =>
    (getI g a).bind fun c =>
    (sparseref01_Int c.1 c.2).bind fun h =>
    (app b [h.1]).bind fun i =>
    some (.inl (i, wa .i64 a 1))
  else
    some (.inr b)
def sparselaw08_ExactDet_l25 (b : Int) (d : (List (List (Bool × LI)))) : L2 × Int → Option ((L2 × Int) ⊕ (L2)) := fun (c, a) =>
  if a < b then
    (loop (sparselaw08_ExactDet_l29 b d a) ([], 0)).bind fun e =>
    (app c [e]).bind fun f =>
    some (.inl (f, wa .i64 a 1))
  else
    some (.inr c)
def sparselaw08_ExactDet (g : LI) (h : LI) (o : Int) (p : Int) : Option (Bool) :=
  if ((decide ((25 : Int) < (g.length : Int))) || (decide ((25 : Int) < (h.length : Int)))) = true then
    (sparselaw08_awake).bind fun q =>
    some q
  else
    (sparsekit_Place o 5).bind fun c =>
    (sparsekit_Place p 5).bind fun r =>
    (getI [2, 3, 7, 101, 2147483647] r).bind fun i =>
    (sparselaw08_square g c).bind fun b =>
    (sparselaw08_square h c).bind fun j =>
    (exact_Det b).bind fun a =>
    (exact_Det j).bind fun d =>
    (sparseref08_Product b j).bind fun s =>
    (exact_Det s).bind fun e =>
    (exact_Bound b).bind fun f =>
    (if a.2.2 = 0 then
      some (!(decide (d.2.2 = 0)))
    else
      some true).bind fun t =>
    (if t = true then
      some true
    else
      some (!(decide (e.2.2 = 0)))).bind fun u =>
    (if u = true then
      some true
    else
      some (!(decide (f.2.2 = 0)))).bind fun v =>
    (if v = true then
      some true
    else
      (integer_Mul a.1 a.2.1 d.1 d.2.1).bind fun k =>
      (sparsekit_Big e.1 e.2.1 k.1 k.2).bind fun w =>
      some (!(w))).bind fun x =>
    (if x = true then
      some true
    else
      (integer_Mul a.1 a.2.1 a.1 a.2.1).bind fun l =>
      (integer_Cmp l.1 l.2 f.1 f.2.1).bind fun y =>
      some (decide ((0 : Int) < y))).bind fun z =>
    if z = true then
      some false
    else
      (loop (sparselaw08_ExactDet_l25 c b) ([], 0)).bind fun a0 =>
      (modular_Det a0 i).bind fun m =>
      (modular_Reduce a.1 a.2.1 i).bind fun n =>
      (if (((decide (m.2 = 0)) && (decide (n.2 = 0))) && (decide (m.1 = n.1))) = true then
        (sparselaw08_awake).bind fun a1 =>
        some a1
      else
        some false).bind fun a2 =>
      some a2
end M
