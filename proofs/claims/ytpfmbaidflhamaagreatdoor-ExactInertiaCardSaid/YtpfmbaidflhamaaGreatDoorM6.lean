/- Models of functions of the program, printed. -/
import Derived.Test.YtpfmbaidflhamaaGreatDoorM5
namespace M
open Sx
set_option linter.unusedVariables false
def exact_reduced_turned (h : List (List (Bool × LI))) (i : LI) (e : Bool) (f : LI) (j : Int) (a : Bool) (b : LI) : Option (Bool × LI) :=
  (integer_Sign e f).bind fun g =>
  if g < 0 then
    (integer_Neg a b).bind fun c =>
    some (c.1, c.2)
  else
    (integer_Norm a b).bind fun d =>
    some (d.1, d.2)

def integer_Abs (d : Bool) (b : LI) : Option (Bool × LI) :=
  (slices_Clone_uint32 b).bind fun c =>
  (integer_big false c).bind fun a =>
  some (a.1, a.2)

def exact_Solve_l1 (a : (List (List (Bool × LI))) × LI × Bool × LI × Int) (f : List (List (Bool × LI))) : (List (Bool × LI)) × Int → Option (((List (Bool × LI)) × Int) ⊕ (((List (Bool × LI))))) := fun (c, b) =>
  if b < (a.1.length : Int) then
    (getI a.1 b).bind fun g =>
    (getI g (f.length : Int)).bind fun d =>
    (exact_reduced_turned a.1 a.2.1 a.2.2.1 a.2.2.2.1 a.2.2.2.2 d.1 d.2).bind fun e =>
    (app c [(e.1, e.2)]).bind fun h =>
    some (.inl (h, wa .i64 b 1))
  else
    some (.inr c)
def exact_Solve (a : List (List (Bool × LI))) (c : List (Bool × LI)) : Option ((List (Bool × LI)) × Bool × LI × Int) :=
  (exact_square a).bind fun d =>
  if d = 0 then
    if (c.length : Int) = (a.length : Int) then
      (exact_twin a c).bind fun f =>
      (exact_eliminate f (a.length : Int)).bind fun b =>
      if (b.2.1.length : Int) < (a.length : Int) then
        some ([], false, [], 9)
      else
        (loop (exact_Solve_l1 b a) ([], 0)).bind fun g =>
        (integer_Abs b.2.2.1 b.2.2.2.1).bind fun e =>
        some (g, e.1, e.2, 0)
    else
      some ([], false, [], 2)
  else
    some ([], false, [], d)

def slices_Reverse_string_l1 : (List ByteArray) × Int × Int → Option (((List ByteArray) × Int × Int) ⊕ (((List ByteArray)))) := fun (a, b, c) =>
  if b < c then
    (getI a c).bind fun d =>
    (getI a b).bind fun e =>
    (setI a b d).bind fun f =>
    (setI f c e).bind fun g =>
    some (.inl (g, wa .i64 b 1, ws .i64 c 1))
  else
    some (.inr a)
def slices_Reverse_string (a : List ByteArray) : Option ((List ByteArray)) :=
  (loop (slices_Reverse_string_l1) (a, 0, ws .i64 (a.length : Int) 1)).bind fun b =>
  some b

def integer_Format_j4 (a : List ByteArray) : Option (ByteArray) :=
  (slices_Reverse_string a).bind fun b =>
  (joinG b (⟨#[]⟩ : ByteArray)).bind fun c =>
  some c
def integer_Format_j5 (a : List ByteArray) (b : ByteArray) (c : LI × Int) : Option ((LI × (List ByteArray)) ⊕ (((List ByteArray)))) :=
  (app a [b]).bind fun d =>
  some (.inl (c.1, d))
def integer_Format_l3 : LI × (List ByteArray) → Option ((LI × (List ByteArray)) ⊕ (((List ByteArray)))) := fun (b, c) =>
  if (0 : Int) < (b.length : Int) then
    (integer_short b 1000000000).bind fun a =>
    (itoaG (wc .i64 a.2)).bind fun d =>
    if (0 : Int) < (a.1.length : Int) then
      none
    else
      integer_Format_j5 c d a
  else
    some (.inr c)
def integer_Format (b : Bool) (c : LI) : Option (ByteArray) :=
  (integer_trim c).bind fun d =>
  (slices_Clone_uint32 d).bind fun e =>
  (loop (integer_Format_l3) (e, [])).bind fun a =>
  if (a.length : Int) = 0 then
    some (⟨#[48]⟩ : ByteArray)
  else
    if b = true then
      (app a [(⟨#[45]⟩ : ByteArray)]).bind fun f =>
      integer_Format_j4 f
    else
      integer_Format_j4 a

def sparselaw08_awake : Option (Bool) :=
  (sparselaw08_num 2).bind fun c =>
  (sparselaw08_num 1).bind fun d =>
  (sparselaw08_num 1).bind fun e =>
  (sparselaw08_num (-1)).bind fun f =>
  (sparselaw08_num 3).bind fun g =>
  (sparselaw08_num 0).bind fun h =>
  (exact_Solve [[(c.1, c.2), (d.1, d.2)], [(e.1, e.2), (f.1, f.2)]] [(g.1, g.2), (h.1, h.2)]).bind fun a =>
  (sparselaw08_num 0).bind fun i =>
  (sparselaw08_num 1).bind fun j =>
  (sparselaw08_num 1).bind fun k =>
  (sparselaw08_num 0).bind fun l =>
  (exact_Inertia [[(i.1, i.2), (j.1, j.2)], [(k.1, k.2), (l.1, l.2)]]).bind fun b =>
  (if ((decide (a.2.2.2 = 0)) && (decide ((a.1.length : Int) = 2))) = true then
    (getI a.1 0).bind fun m =>
    (integer_Format m.1 m.2).bind fun o =>
    some (decide (o = (⟨#[51]⟩ : ByteArray)))
  else
    some false).bind fun p =>
  (if p = true then
    (getI a.1 1).bind fun n =>
    (integer_Format n.1 n.2).bind fun q =>
    some (decide (q = (⟨#[51]⟩ : ByteArray)))
  else
    some false).bind fun r =>
  (if r = true then
    (integer_Format a.2.1 a.2.2.1).bind fun s =>
    some (decide (s = (⟨#[51]⟩ : ByteArray)))
  else
    some false).bind fun t =>
  some ((((t && (decide (b.2.2.2 = 0))) && (decide (b.1 = 1))) && (decide (b.2.1 = 0))) && (decide (b.2.2.1 = 1)))

def sparselaw08_ExactInertia_j13 (d : List (List (Bool × LI))) (a : Int × Int × Int × Int) (c : Int) : Option (Bool) :=
  if c = 0 then
    (sparseref08_Inertia d).bind fun b =>
    (if ((((decide (a.2.2.2 = 0)) && (decide (a.1 = b.1))) && (decide (a.2.1 = b.2.1))) && (decide (a.2.2.1 = b.2.2))) = true then
      (sparselaw08_awake).bind fun e =>
      some e
    else
      some false).bind fun f =>
    some f
  else
    (if ((((decide (a.2.2.2 = c)) && (decide (a.1 = 0))) && (decide (a.2.1 = 0))) && (decide (a.2.2.1 = 0))) = true then
      (sparselaw08_awake).bind fun g =>
      some g
    else
      some false).bind fun h =>
    some h
def sparselaw08_ExactInertia_j11 (a : List (List (Bool × LI))) (b : Int × Int × Int × Int) (c : Int) : Option (Bool) :=
  (if c = 0 then
    (sparseref08_Symmetric a).bind fun d =>
    some (!(d))
  else
    some false).bind fun e =>
  if e = true then
    sparselaw08_ExactInertia_j13 a b 80
  else
    sparselaw08_ExactInertia_j13 a b c
def sparselaw08_ExactInertia_l25 (a : Int) : (List (List (Bool × LI))) × Int → Option (((List (List (Bool × LI))) × Int) ⊕ (((List (List (Bool × LI)))))) := fun (b, c) =>
  if c < a then
    (getI b a).bind fun e =>
    (getI b c).bind fun f =>
    (getI f a).bind fun d =>
    (setI e c (d.1, d.2)).bind fun g =>
    (setI b a g).bind fun h =>
    some (.inl (h, wa .i64 c 1))
  else
    some (.inr b)
def sparselaw08_ExactInertia_l9 (d : Bool) (a : List (List (Bool × LI))) : (List (List (Bool × LI))) × Int → Option (((List (List (Bool × LI))) × Int) ⊕ (((List (List (Bool × LI)))))) := fun (b, c) =>
  (if ((decide (c < (b.length : Int))) && d) = true then
    (sparseref08_Check a).bind fun e =>
    some (decide (e = 0))
  else
    some false).bind fun f =>
  (if f = true then
    (sparseref08_Cols a).bind fun g =>
    some (decide ((a.length : Int) = g))
  else
    some false).bind fun h =>
  if h = true then
    (loop (sparselaw08_ExactInertia_l25 c) (b, 0)).bind fun i =>
    some (.inl (i, wa .i64 c 1))
  else
    some (.inr b)
def sparselaw08_ExactInertia (b : List (List (Bool × LI))) (e : Bool) : Option (Bool) :=
  (sparselaw08_small b).bind fun f =>
  if f = true then
    (sparsekit_TwinRows b).bind fun g =>
    (loop (sparselaw08_ExactInertia_l9 e b) (g, 0)).bind fun a =>
    (exact_Inertia a).bind fun c =>
    (sparseref08_Check a).bind fun d =>
    (if d = 0 then
      (sparseref08_Cols a).bind fun h =>
      some (!(decide ((a.length : Int) = h)))
    else
      some false).bind fun i =>
    if i = true then
      sparselaw08_ExactInertia_j11 a c 5
    else
      sparselaw08_ExactInertia_j11 a c d
  else
    (sparselaw08_awake).bind fun j =>
    some j
end M
