/- Models of functions of the program, printed. -/
import Derived.Test.YtpfmbaidflhamaaGreatDoorM1
namespace M
open Sx
set_option linter.unusedVariables false
def integer_plus_j5 (b : LI) (c : Int) (a : Int) : Option ((LI × Int × Int) ⊕ ((LI × Int))) :=
  (app b [wc .u32 (wand .u64 a 4294967295)]).bind fun d =>
  some (.inl (d, wsrc .u64 a 32, wa .i64 c 1))
def integer_plus_l4 (d : LI) (e : LI) : LI × Int × Int → Option ((LI × Int × Int) ⊕ ((LI × Int))) := fun (b, c, a) =>
  if a < (d.length : Int) then
    (getI d a).bind fun f =>
    if a < (e.length : Int) then
      (getI e a).bind fun g =>
      integer_plus_j5 b a (wa .u64 (wa .u64 (wc .u64 f) c) (wc .u64 g))
    else
      integer_plus_j5 b a (wa .u64 (wc .u64 f) c)
  else
    some (.inr (b, c))
def integer_plus_j1 (a : LI) (b : LI) : Option (LI) :=
  (mkLc 0 0 (wa .i64 (a.length : Int) 1)).bind fun c =>
  (loop (integer_plus_l4 a b) (c, 0, 0)).bind fun (d, e) =>
  (app d [wc .u32 e]).bind fun f =>
  (integer_trim f).bind fun g =>
  some g
def integer_plus (a : LI) (b : LI) : Option (LI) :=
  if (a.length : Int) < (b.length : Int) then
    integer_plus_j1 b a
  else
    integer_plus_j1 a b

def integer_minus_j4 (c : LI) (a : Int) (b : Int) : Option ((LI × Int × Int) ⊕ (LI)) :=
  (setI c a (wc .u32 (wand .u64 b 4294967295))).bind fun d =>
  some (.inl (d, wand .u64 (wsrc .u64 b 32) 1, wa .i64 a 1))
def integer_minus_l3 (c : LI) (d : LI) : LI × Int × Int → Option ((LI × Int × Int) ⊕ (LI)) := fun (b, e, a) =>
  if a < (c.length : Int) then
    (getI c a).bind fun f =>
    if a < (d.length : Int) then
      (getI d a).bind fun g =>
      integer_minus_j4 b a (ws .u64 (ws .u64 (wc .u64 f) e) (wc .u64 g))
    else
      integer_minus_j4 b a (ws .u64 (wc .u64 f) e)
  else
    some (.inr b)
def integer_minus (a : LI) (b : LI) : Option (LI) :=
  (mkL 0 (a.length : Int)).bind fun c =>
  (loop (integer_minus_l3 a b) (c, 0, 0)).bind fun d =>
  (integer_trim d).bind fun e =>
  some e

def integer_Add (c : Bool) (h : LI) (d : Bool) (i : LI) : Option (Bool × LI) :=
  (integer_trim h).bind fun a =>
  (integer_trim i).bind fun b =>
  if (c == d) = true then
    (integer_plus a b).bind fun j =>
    (integer_big c j).bind fun e =>
    some (e.1, e.2)
  else
    (integer_compare a b).bind fun k =>
    if (0 : Int) ≤ k then
      (integer_minus a b).bind fun l =>
      (integer_big c l).bind fun f =>
      some (f.1, f.2)
    else
      (integer_minus b a).bind fun m =>
      (integer_big d m).bind fun g =>
      some (g.1, g.2)

def integer_times_l5 (d : LI) (e : Int) (f : Int) : LI × Int × Int → Option ((LI × Int × Int) ⊕ ((LI × Int))) := fun (b, c, a) =>
  if a < (d.length : Int) then
    (getI d a).bind fun g =>
    (getI b (wa .i64 e a)).bind fun h =>
    (setI b (wa .i64 e a) (wc .u32 (wand .u64 (wa .u64 (wa .u64 (wm .u64 (wc .u64 f) (wc .u64 g)) (wc .u64 h)) c) 4294967295))).bind fun i =>
    some (.inl (i, wsrc .u64 (wa .u64 (wa .u64 (wm .u64 (wc .u64 f) (wc .u64 g)) (wc .u64 h)) c) 32, wa .i64 a 1))
  else
    some (.inr (b, c))
def integer_times_l4 (b : LI) (c : LI) : LI × Int → Option ((LI × Int) ⊕ (LI)) := fun (d, a) =>
  if a < (b.length : Int) then
    (getI b a).bind fun e =>
    (loop (integer_times_l5 c a e) (d, 0, 0)).bind fun (f, g) =>
    (setI f (wa .i64 a (c.length : Int)) (wc .u32 g)).bind fun h =>
    some (.inl (h, wa .i64 a 1))
  else
    some (.inr d)
def integer_times (a : LI) (b : LI) : Option (LI) :=
  if ((decide ((a.length : Int) = 0)) || (decide ((b.length : Int) = 0))) = true then
    some []
  else
    (mkL 0 (wa .i64 (a.length : Int) (b.length : Int))).bind fun c =>
    (loop (integer_times_l4 a b) (c, 0)).bind fun d =>
    (integer_trim d).bind fun e =>
    some e

def integer_Mul (b : Bool) (c : LI) (d : Bool) (e : LI) : Option (Bool × LI) :=
  (integer_trim c).bind fun f =>
  (integer_trim e).bind fun g =>
  (integer_times f g).bind fun h =>
  (integer_big (!((b == d))) h).bind fun a =>
  some (a.1, a.2)

def exact_product_l13 (b : List (Bool × LI)) (i : List (List (Bool × LI))) (j : Int) : Bool × LI × Int → Option ((Bool × LI × Int) ⊕ ((Bool × LI))) := fun (c, d, a) =>
  if a < (b.length : Int) then
    (getI b a).bind fun e =>
    (getI i a).bind fun k =>
    (getI k j).bind fun f =>
    (integer_Mul e.1 e.2 f.1 f.2).bind fun g =>
    (integer_Add c d g.1 g.2).bind fun h =>
    some (.inl (h.1, h.2, wa .i64 a 1))
  else
    some (.inr (c, d))
def exact_product_l12 (b : List (Bool × LI)) (d : List (List (Bool × LI))) : (List (Bool × LI)) × Int → Option (((List (Bool × LI)) × Int) ⊕ (((List (Bool × LI))))) := fun (c, a) =>
  if a < (b.length : Int) then
    (loop (exact_product_l13 b d a) (false, [], 0)).bind fun (e, f) =>
    (app c [(e, f)]).bind fun g =>
    some (.inl (g, wa .i64 a 1))
  else
    some (.inr c)
def exact_product_l9 (b : List (List (Bool × LI))) (d : List (List (Bool × LI))) : (List (List (Bool × LI))) × Int → Option (((List (List (Bool × LI))) × Int) ⊕ (((List (List (Bool × LI)))))) := fun (c, a) =>
  if a < (b.length : Int) then
    (getI b a).bind fun e =>
    (loop (exact_product_l12 e d) ([], 0)).bind fun f =>
    (app c [f]).bind fun g =>
    some (.inl (g, wa .i64 a 1))
  else
    some (.inr c)
def exact_product (a : List (List (Bool × LI))) (b : List (List (Bool × LI))) : Option ((List (List (Bool × LI)))) :=
  (loop (exact_product_l9 a b) ([], 0)).bind fun c =>
  some c

def integer_short_l1 (f : LI) (c : Int) : LI × Int × Int → Option ((LI × Int × Int) ⊕ ((LI × Int))) := fun (d, b, a) =>
  if (0 : Int) ≤ a then
    (getI f a).bind fun e =>
    (wq .u64 (wor .u64 (wslc .u64 b 32) (wc .u64 e)) (wc .u64 c)).bind fun g =>
    (setI d a (wc .u32 g)).bind fun h =>
    (wr (wor .u64 (wslc .u64 b 32) (wc .u64 e)) (wc .u64 c)).bind fun i =>
    some (.inl (h, i, ws .i64 a 1))
  else
    some (.inr (d, b))
def integer_short (a : LI) (b : Int) : Option (LI × Int) :=
  (mkL 0 (a.length : Int)).bind fun c =>
  (loop (integer_short_l1 a b) (c, 0, ws .i64 (a.length : Int) 1)).bind fun (d, e) =>
  (integer_trim d).bind fun f =>
  some (f, wc .u32 e)

def math_bits_Len32_j2 (a : Int) (b : Int) : Option (Int) :=
  (getI [0, 1, 2, 2, 3, 3, 3, 3, 4, 4, 4, 4, 4, 4, 4, 4, 5, 5, 5, 5, 5, 5, 5, 5, 5, 5, 5, 5, 5, 5, 5, 5, 6, 6, 6, 6, 6, 6, 6, 6, 6, 6, 6, 6, 6, 6, 6, 6, 6, 6, 6, 6, 6, 6, 6, 6, 6, 6, 6, 6, 6, 6, 6, 6, 7, 7, 7, 7, 7, 7, 7, 7, 7, 7, 7, 7, 7, 7, 7, 7, 7, 7, 7, 7, 7, 7, 7, 7, 7, 7, 7, 7, 7, 7, 7, 7, 7, 7, 7, 7, 7, 7, 7, 7, 7, 7, 7, 7, 7, 7, 7, 7, 7, 7, 7, 7, 7, 7, 7, 7, 7, 7, 7, 7, 7, 7, 7, 7, 8, 8, 8, 8, 8, 8, 8, 8, 8, 8, 8, 8, 8, 8, 8, 8, 8, 8, 8, 8, 8, 8, 8, 8, 8, 8, 8, 8, 8, 8, 8, 8, 8, 8, 8, 8, 8, 8, 8, 8, 8, 8, 8, 8, 8, 8, 8, 8, 8, 8, 8, 8, 8, 8, 8, 8, 8, 8, 8, 8, 8, 8, 8, 8, 8, 8, 8, 8, 8, 8, 8, 8, 8, 8, 8, 8, 8, 8, 8, 8, 8, 8, 8, 8, 8, 8, 8, 8, 8, 8, 8, 8, 8, 8, 8, 8, 8, 8, 8, 8, 8, 8, 8, 8, 8, 8, 8, 8, 8, 8, 8, 8, 8, 8, 8, 8, 8, 8, 8, 8, 8, 8, 8, 8, 8, 8, 8, 8] (wc .u8 a)).bind fun c =>
  some (wa .i64 b (wc .i64 c))
def math_bits_Len32_j1 (a : Int) (b : Int) : Option (Int) :=
  if (256 : Int) ≤ a then
    math_bits_Len32_j2 (wsrc .u32 a 8) (wa .i64 b 8)
  else
    math_bits_Len32_j2 a b
def math_bits_Len32 (a : Int) : Option (Int) :=
  if (65536 : Int) ≤ a then
    math_bits_Len32_j1 (wsrc .u32 a 16) 16
  else
    math_bits_Len32_j1 a 0

def math_bits_LeadingZeros32 (a : Int) : Option (Int) :=
  (math_bits_Len32 a).bind fun b =>
  some (ws .i64 32 b)

def integer_up_l1 (d : LI) (b : Int) : LI × Int → Option ((LI × Int) ⊕ (LI)) := fun (c, a) =>
  if a < (d.length : Int) then
    (getI d a).bind fun f =>
    (wshl .u64 (wc .u64 f) (wc .u64 (wrc b 32))).bind fun e =>
    (getI c (wa .i64 (wqc .i64 b 32) a)).bind fun g =>
    (setI c (wa .i64 (wqc .i64 b 32) a) (wor .u32 g (wc .u32 (wand .u64 e 4294967295)))).bind fun h =>
    (setI h (wa .i64 (wa .i64 (wqc .i64 b 32) a) 1) (wc .u32 (wsrc .u64 e 32))).bind fun i =>
    some (.inl (i, wa .i64 a 1))
  else
    some (.inr c)
def integer_up (a : LI) (b : Int) : Option (LI) :=
  if (a.length : Int) = 0 then
    some []
  else
    (mkL 0 (wa .i64 (wa .i64 (wqc .i64 b 32) (a.length : Int)) 1)).bind fun c =>
    (loop (integer_up_l1 a b) (c, 0)).bind fun d =>
    (integer_trim d).bind fun e =>
    some e

def integer_digit_l19 (d : LI) (e : Int) (f : Int) : LI × Int × Int → Option ((LI × Int × Int) ⊕ ((LI × Int))) := fun (b, c, a) =>
  if a < (d.length : Int) then
    (getI d a).bind fun g =>
    (getW b e f a).bind fun h =>
    (setW b e f a (wc .u32 (wand .u64 (wa .u64 (wa .u64 (wc .u64 h) (wc .u64 g)) c) 4294967295))).bind fun i =>
    some (.inl (i, wsrc .u64 (wa .u64 (wa .u64 (wc .u64 h) (wc .u64 g)) c) 32, wa .i64 a 1))
  else
    some (.inr (b, c))
def integer_digit_l18 (g : LI) (h : Int) (i : Int) (c : Int) : LI × Int × Int × Int → Option ((LI × Int × Int × Int) ⊕ ((LI × Int × Int))) := fun (d, b, e, a) =>
  if a < (g.length : Int) then
    (getI g a).bind fun f =>
    (getW d h i a).bind fun j =>
    (setW d h i a (wc .u32 (wand .u64 (ws .u64 (ws .u64 (wc .u64 j) (wand .u64 (wa .u64 (wm .u64 c (wc .u64 f)) b) 4294967295)) e) 4294967295))).bind fun k =>
    some (.inl (k, wsrc .u64 (wa .u64 (wm .u64 c (wc .u64 f)) b) 32, wand .u64 (wsrc .u64 (ws .u64 (ws .u64 (wc .u64 j) (wand .u64 (wa .u64 (wm .u64 c (wc .u64 f)) b) 4294967295)) e) 32) 1, wa .i64 a 1))
  else
    some (.inr (d, b, e))
def integer_digit_l17 (a : LI) (e : LI) (f : Int) (g : Int) : Int × Int → Option ((Int × Int) ⊕ (Int)) := fun (b, c) =>
  (if (4294967295 : Int) < b then
    some true
  else
    (getI a (ws .i64 (a.length : Int) 2)).bind fun h =>
    (getW e f g (ws .i64 (a.length : Int) 2)).bind fun i =>
    some (decide ((wor .u64 (wslc .u64 c 32) (wc .u64 i)) < (wm .u64 b (wc .u64 h))))).bind fun j =>
  if j = true then
    (getI a (ws .i64 (a.length : Int) 1)).bind fun d =>
    if (4294967295 : Int) < (wa .u64 c (wc .u64 d)) then
      some (.inr (ws .u64 b 1))
    else
      some (.inl (ws .u64 b 1, wa .u64 c (wc .u64 d)))
  else
    some (.inr b)
def integer_digit (d : LI) (b : Int) (c : Int) (a : LI) : Option (LI × Int) :=
  (getW d b c (a.length : Int)).bind fun f =>
  (getW d b c (ws .i64 (a.length : Int) 1)).bind fun g =>
  (getI a (ws .i64 (a.length : Int) 1)).bind fun n =>
  (wq .u64 (wor .u64 (wslc .u64 (wc .u64 f) 32) (wc .u64 g)) (wc .u64 n)).bind fun o =>
  (getI a (ws .i64 (a.length : Int) 1)).bind fun p =>
  (wr (wor .u64 (wslc .u64 (wc .u64 f) 32) (wc .u64 g)) (wc .u64 p)).bind fun q =>
  (loop (integer_digit_l17 a d b c) (o, q)).bind fun e =>
  (loop (integer_digit_l18 a b c e) (d, 0, 0, 0)).bind fun (h, i, j) =>
  (getW h b c (a.length : Int)).bind fun k =>
  (setW h b c (a.length : Int) (wc .u32 (wand .u64 (ws .u64 (ws .u64 (wc .u64 k) i) j) 4294967295))).bind fun l =>
  if (wand .u64 (wsrc .u64 (ws .u64 (ws .u64 (wc .u64 k) i) j) 32) 1) = 0 then
    some (l, wc .u32 e)
  else
    (loop (integer_digit_l19 a b c) (l, 0, 0)).bind fun (m, r) =>
    (getW m b c (a.length : Int)).bind fun s =>
    (setW m b c (a.length : Int) (wa .u32 s (wc .u32 r))).bind fun t =>
    some (t, wc .u32 (ws .u64 e 1))

def integer_down_1 (a : Int) : Option (Bool) :=
  some (!(decide (a = 0)))

def slices_IndexFunc_uint32_l1 (b : LI) : Int → Option ((Int) ⊕ (Unit ⊕ Int)) := fun a =>
  if a < (b.length : Int) then
    (getI b a).bind fun c =>
    (integer_down_1 c).bind fun d =>
    if d = true then
      some (.inr (.inr a))
    else
      some (.inl (wa .i64 a 1))
  else
    some (.inr (.inl ()))
def slices_IndexFunc_uint32 (a : LI) : Option (Int) :=
  (loop (slices_IndexFunc_uint32_l1 a) 0).bind (fun o => match o with
    | .inl () =>
      some (-1)
    | .inr b =>
      some b)

def slices_ContainsFunc_uint32 (a : LI) : Option (Bool) :=
  (slices_IndexFunc_uint32 a).bind fun b =>
  some (decide ((0 : Int) ≤ b))
end M
