/- Models of functions of the program, printed. -/
import Derived.Test.YtpfmbaidflhamaaGreatDoorM4
namespace M
open Sx
set_option linter.unusedVariables false
def sparseref01_take_l4 (c : LI) (d : LI) (e : Int) : LI × Int → Option ((LI × Int) ⊕ (LI)) := fun (b, a) =>
  if a ≤ (c.length : Int) then
    (getI d a).bind fun f =>
    (setI b (wa .i64 a e) f).bind fun g =>
    some (.inl (g, wa .i64 a 1))
  else
    some (.inr b)
def sparseref01_take_j5 (e : LI) (a : Int) (f : Int) (g : LI) (c : Int) (b : Int) : Option ((LI × Int × Int × Int) ⊕ ((LI × Int))) :=
  (getI e (wa .i64 a f)).bind fun d =>
  (setI g a (wc .u32 (ws .u64 (ws .u64 (wc .u64 d) c) (wand .u64 b 4294967295)))).bind fun h =>
  some (.inl (h, wsrc .u64 (ws .u64 (ws .u64 (wc .u64 d) c) (wand .u64 b 4294967295)) 63, wsrc .u64 b 32, wa .i64 a 1))
def sparseref01_take_l3 (b : LI) (e : LI) (f : Int) (h : Int) : LI × Int × Int × Int → Option ((LI × Int × Int × Int) ⊕ ((LI × Int))) := fun (c, d, g, a) =>
  if a ≤ (b.length : Int) then
    if a < (b.length : Int) then
      (getI b a).bind fun i =>
      sparseref01_take_j5 e a f c d (wa .u64 g (wm .u64 h (wc .u64 i)))
    else
      sparseref01_take_j5 e a f c d g
  else
    some (.inr (c, d))
def sparseref01_take (a : LI) (b : LI) (c : Int) (d : Int) : Option (LI × Bool) :=
  (mkL 0 (wa .i64 (b.length : Int) 1)).bind fun e =>
  (loop (sparseref01_take_l3 b a c d) (e, 0, 0, 0)).bind fun (f, g) =>
  if g = 0 then
    (loop (sparseref01_take_l4 b f c) (a, 0)).bind fun h =>
    some (h, true)
  else
    some (a, false)

def sparseref01_shr_j20 (a : Int) (b : Int) (c : LI) (d : Int) (e : Bool) : Option ((Bool × LI × Int) ⊕ ((Bool × LI))) :=
  (wshr .u64 a (wrc b 32)).bind fun f =>
  (app c [wc .u32 f]).bind fun g =>
  some (.inl (e, g, wa .i64 d 1))
def sparseref01_shr_j16 (a : Int) (b : Int) (e : LI) (c : LI) (f : Bool) (d : Int) : Option ((Bool × LI × Int) ⊕ ((Bool × LI))) :=
  (if a = (wqc .i64 b 32) then
    (getI e a).bind fun g =>
    (wshl .u32 1 (wrc b 32)).bind fun h =>
    some (!(decide ((wand .u32 g (ws .u32 h 1)) = 0)))
  else
    some false).bind fun i =>
  if i = true then
    sparseref01_shr_j20 d b c a true
  else
    sparseref01_shr_j20 d b c a f
def sparseref01_shr_l15 (a : LI) (e : Int) : Bool × LI × Int → Option ((Bool × LI × Int) ⊕ ((Bool × LI))) := fun (c, d, b) =>
  if b < (a.length : Int) then
    (getI a b).bind fun f =>
    if (wa .i64 b 1) < (a.length : Int) then
      (getI a (wa .i64 b 1)).bind fun g =>
      sparseref01_shr_j16 b e a d c (wor .u64 (wc .u64 f) (wslc .u64 (wc .u64 g) 32))
    else
      sparseref01_shr_j16 b e a d c (wc .u64 f)
  else
    some (.inr (c, d))
def sparseref01_shr_l4 (d : Int) (b : LI) : Bool × Int → Option ((Bool × Int) ⊕ (Bool)) := fun (c, a) =>
  if ((decide (a < (wqc .i64 d 32))) && (decide (a < (b.length : Int)))) = true then
    (if c = true then
      some true
    else
      (getI b a).bind fun e =>
      some (!(decide (e = 0)))).bind fun f =>
    some (.inl (f, wa .i64 a 1))
  else
    some (.inr c)
def sparseref01_shr (b : LI) (a : Int) : Option (LI × Bool) :=
  (loop (sparseref01_shr_l4 a b) (false, 0)).bind fun c =>
  (loop (sparseref01_shr_l15 b a) (c, [], wqc .i64 a 32)).bind fun (d, e) =>
  some (e, d)

def sparseref01_divMag_l5 (c : LI) (d : Int) : LI × Int → Option ((LI × Int) ⊕ ((LI × Int))) := fun (e, a) =>
  (sparseref01_take e c d a).bind fun b =>
  if b.2 = true then
    some (.inr (b.1, a))
  else
    some (.inl (b.1, ws .u64 a 1))
def sparseref01_divMag_l4 (c : LI) (d : LI) : LI × LI × Int → Option ((LI × LI × Int) ⊕ ((LI × LI))) := fun (b, e, a) =>
  if (0 : Int) ≤ a then
    (getI b (wa .i64 a (c.length : Int))).bind fun f =>
    (getI b (ws .i64 (wa .i64 a (c.length : Int)) 1)).bind fun g =>
    (getI d (ws .i64 (c.length : Int) 1)).bind fun h =>
    (wq .u64 (wor .u64 (wslc .u64 (wc .u64 f) 32) (wc .u64 g)) (wc .u64 h)).bind fun i =>
    (loop (sparseref01_divMag_l5 d a) (b, imin i 4294967295)).bind fun (j, k) =>
    (setI e a (wc .u32 k)).bind fun l =>
    some (.inl (j, l, ws .i64 a 1))
  else
    some (.inr (b, e))
def sparseref01_divMag_j1 (b : LI) (a : LI) (c : LI) (d : Int) (e : LI) : Option (LI × LI) :=
  (mkL 0 (wa .i64 (ws .i64 (b.length : Int) (a.length : Int)) 1)).bind fun f =>
  (loop (sparseref01_divMag_l4 a c) (e, f, ws .i64 (b.length : Int) (a.length : Int))).bind fun (g, h) =>
  (sparseref01_trim g).bind fun i =>
  (sparseref01_shr i d).bind fun j =>
  (sparseref01_trim h).bind fun k =>
  (sparseref01_trim j.1).bind fun l =>
  some (k, l)
def sparseref01_divMag (b : LI) (a : LI) : Option (LI × LI) :=
  (sparseref01_cmpMag b a).bind fun f =>
  if f < 0 then
    some ([], b)
  else
    (getI a (ws .i64 (a.length : Int) 1)).bind fun g =>
    (math_bits_LeadingZeros32 g).bind fun c =>
    (sparseref01_shl b c).bind fun d =>
    (sparseref01_shl a c).bind fun h =>
    (sli h 0 (a.length : Int)).bind fun e =>
    if (d.length : Int) = (b.length : Int) then
      (app d [0]).bind fun i =>
      sparseref01_divMag_j1 b a e c i
    else
      sparseref01_divMag_j1 b a e c d

def sparseref01_DivMod_j3 (a : Bool) (b : LI) (c : Bool) (d : LI) : Option (Bool × LI × Bool × LI) :=
  some (a, b, c, d)
def sparseref01_DivMod_j4 (a : Bool × LI) (b : Bool) (c : LI) : Option (Bool × LI × Bool × LI) :=
  sparseref01_DivMod_j3 b c a.1 a.2
def sparseref01_DivMod (l : Bool) (m : LI) (n : Bool) (o : LI) : Option (Bool × LI × Bool × LI) :=
  (sparseref01_Norm l m).bind fun d =>
  (sparseref01_Norm n o).bind fun c =>
  (sparseref01_divMag d.2 c.2).bind fun e =>
  (sparseref01_make1 (!((d.1 == c.1))) e.1).bind fun a =>
  (sparseref01_make1 d.1 e.2).bind fun b =>
  (sparseref01_Sign b.1 b.2).bind fun p =>
  if p < 0 then
    (sparseref01_Abs c.1 c.2).bind fun f =>
    (sparseref01_Add b.1 b.2 f.1 f.2).bind fun g =>
    if c.1 = true then
      (sparseref01_FromInt 1).bind fun h =>
      (sparseref01_Add a.1 a.2 h.1 h.2).bind fun i =>
      sparseref01_DivMod_j4 g i.1 i.2
    else
      (sparseref01_FromInt 1).bind fun j =>
      (sparseref01_Sub a.1 a.2 j.1 j.2).bind fun k =>
      sparseref01_DivMod_j4 g k.1 k.2
  else
    sparseref01_DivMod_j3 a.1 a.2 b.1 b.2

def sparseref01_GCD_l2 : Bool × LI × Bool × LI → Option ((Bool × LI × Bool × LI) ⊕ ((Bool × LI))) := fun (c, d, a, b) =>
  (sparseref01_Sign a b).bind fun f =>
  if f = 0 then
    some (.inr (c, d))
  else
    (sparseref01_DivMod c d a b).bind fun e =>
    some (.inl (a, b, e.2.2.1, e.2.2.2))
def sparseref01_GCD (c : Bool) (d : LI) (e : Bool) (f : LI) : Option (Bool × LI) :=
  (sparseref01_Abs c d).bind fun a =>
  (sparseref01_Abs e f).bind fun b =>
  (loop (sparseref01_GCD_l2) (a.1, a.2, b.1, b.2)).bind fun (g, h) =>
  some (g, h)

def sparseref01_Quo (b : Bool) (c : LI) (d : Bool) (e : LI) : Option (Bool × LI × Bool) :=
  (sparseref01_DivMod b c d e).bind fun a =>
  (sparseref01_Sign a.2.2.1 a.2.2.2).bind fun f =>
  if f = 0 then
    some (a.1, a.2.1, true)
  else
    some (false, [], false)

def sparseref08_frac_j1 (e : Bool) (f : LI) (g : Bool) (h : LI) (a : Bool) (b : LI) : Option (Bool × LI × Bool × LI) :=
  (sparseref01_Quo e f a b).bind fun c =>
  (sparseref01_Quo g h a b).bind fun d =>
  some (c.1, c.2.1, d.1, d.2.1)
def sparseref08_frac (d : Bool) (e : LI) (a : Bool) (b : LI) : Option (Bool × LI × Bool × LI) :=
  (sparseref01_GCD d e a b).bind fun c =>
  (sparseref01_Sign a b).bind fun g =>
  if g < 0 then
    (sparseref01_Neg c.1 c.2).bind fun f =>
    sparseref08_frac_j1 d e a b f.1 f.2
  else
    sparseref08_frac_j1 d e a b c.1 c.2

def sparseref08_minus (m : Bool) (n : LI) (c : Bool) (d : LI) (o : Bool) (p : LI) (q : Bool) (r : LI) (s : Bool) (t : LI) (u : Bool) (v : LI) (w : Bool) (x : LI) (y : Bool) (z : LI) : Option (Bool × LI × Bool × LI) :=
  (sparseref01_Mul o p s t).bind fun e =>
  (sparseref01_Mul e.1 e.2 y z).bind fun f =>
  (sparseref01_Mul q r u v).bind fun g =>
  (sparseref01_Mul g.1 g.2 w x).bind fun h =>
  (sparseref08_frac f.1 f.2 h.1 h.2).bind fun a =>
  (sparseref01_Mul m n a.2.2.1 a.2.2.2).bind fun i =>
  (sparseref01_Mul a.1 a.2.1 c d).bind fun j =>
  (sparseref01_Sub i.1 i.2 j.1 j.2).bind fun k =>
  (sparseref01_Mul c d a.2.2.1 a.2.2.2).bind fun l =>
  (sparseref08_frac k.1 k.2 l.1 l.2).bind fun b =>
  some (b.1, b.2.1, b.2.2.1, b.2.2.2)

def sparseref08_Inertia_j192 (c : List (List (Bool × LI × Bool × LI))) (a : Int) (b : Int) (i : Int) (d : Bool) (e : LI) (f : Bool) (g : LI) : Option (((List (List (Bool × LI × Bool × LI))) × Int) ⊕ (((List (List (Bool × LI × Bool × LI)))))) :=
  (getI c a).bind fun j =>
  (setI j b (d, e, f, g)).bind fun k =>
  (setI c a k).bind fun h =>
  (getI h b).bind fun l =>
  (setI l a (d, e, f, g)).bind fun m =>
  (setI h b m).bind fun n =>
  some (.inl (n, wa .i64 i 1))
def sparseref08_Inertia_l190 (n : Int) (o : LI) (d : Int × Int) (a : Bool × LI × Bool × LI) : (List (List (Bool × LI × Bool × LI))) × Int → Option (((List (List (Bool × LI × Bool × LI))) × Int) ⊕ (((List (List (Bool × LI × Bool × LI)))))) := fun (b, g) =>
  if g ≤ n then
    (getI o n).bind fun e =>
    (getI o g).bind fun f =>
    (getI b e).bind fun p =>
    (getI p f).bind fun h =>
    (getI b e).bind fun q =>
    (getI q d.1).bind fun i =>
    (getI b d.2).bind fun r =>
    (getI r f).bind fun j =>
    (sparseref08_minus h.1 h.2.1 h.2.2.1 h.2.2.2 i.1 i.2.1 i.2.2.1 i.2.2.2 j.1 j.2.1 j.2.2.1 j.2.2.2 a.1 a.2.1 a.2.2.1 a.2.2.2).bind fun c =>
    if d.1 = d.2 then
      sparseref08_Inertia_j192 b e f g c.1 c.2.1 c.2.2.1 c.2.2.2
    else
      (getI b e).bind fun s =>
      (getI s d.2).bind fun k =>
      (getI b d.1).bind fun t =>
      (getI t f).bind fun l =>
      (sparseref08_minus c.1 c.2.1 c.2.2.1 c.2.2.2 k.1 k.2.1 k.2.2.1 k.2.2.2 l.1 l.2.1 l.2.2.1 l.2.2.2 a.1 a.2.1 a.2.2.1 a.2.2.2).bind fun m =>
      sparseref08_Inertia_j192 b e f g m.1 m.2.1 m.2.2.1 m.2.2.2
  else
    some (.inr b)
def sparseref08_Inertia_l185 (b : LI) (d : Int × Int) (e : Bool × LI × Bool × LI) : (List (List (Bool × LI × Bool × LI))) × Int → Option (((List (List (Bool × LI × Bool × LI))) × Int) ⊕ (((List (List (Bool × LI × Bool × LI)))))) := fun (c, a) =>
  if a < (b.length : Int) then
    (loop (sparseref08_Inertia_l190 a b d e) (c, 0)).bind fun f =>
    some (.inl (f, wa .i64 a 1))
  else
    some (.inr c)
def sparseref08_Inertia_j170 (b : List (List (Bool × LI × Bool × LI))) (a : Int × Int) (c : LI) (d : Int) (e : Int) : Option (((List (List (Bool × LI × Bool × LI))) × Int × Int × LI) ⊕ ((Int × Int × LI))) :=
  (getI b a.1).bind fun f =>
  (getI f a.2).bind fun g =>
  (loop (sparseref08_Inertia_l185 c a g) (b, 0)).bind fun h =>
  some (.inl (h, d, e, c))
def sparseref08_Inertia_j193 (a : List (List (Bool × LI × Bool × LI))) (b : Int × Int) (c : LI) (d : Int) (e : Int) : Option (((List (List (Bool × LI × Bool × LI))) × Int × Int × LI) ⊕ ((Int × Int × LI))) :=
  sparseref08_Inertia_j170 a b c d e
def sparseref08_Inertia_j195 (a : Int) (b : LI) : Option ((LI × Int) ⊕ (LI)) :=
  some (.inl (b, wa .i64 a 1))
def sparseref08_Inertia_l168 (b : LI) (d : Int × Int) : LI × Int → Option ((LI × Int) ⊕ (LI)) := fun (c, a) =>
  if a < (b.length : Int) then
    (getI b a).bind fun e =>
    (if e = d.1 then
      some false
    else
      (getI b a).bind fun f =>
      some (!(decide (f = d.2)))).bind fun g =>
    if g = true then
      (getI b a).bind fun h =>
      (app c [h]).bind fun i =>
      sparseref08_Inertia_j195 a i
    else
      sparseref08_Inertia_j195 a c
  else
    some (.inr c)
def sparseref08_Inertia_l163 : (List (List (Bool × LI × Bool × LI))) × Int × Int × LI → Option (((List (List (Bool × LI × Bool × LI))) × Int × Int × LI) ⊕ ((Int × Int × LI))) := fun (b, c, d, e) =>
  if (0 : Int) < (e.length : Int) then
    (sparseref08_pivot b e).bind fun a =>
    if a.1 < 0 then
      some (.inr (c, d, e))
    else
      (loop (sparseref08_Inertia_l168 e a) ([], 0)).bind fun f =>
      if a.1 = a.2 then
        (getI b a.1).bind fun h =>
        (getI h a.1).bind fun g =>
        (sparseref01_Sign g.1 g.2.1).bind fun i =>
        if i < 0 then
          sparseref08_Inertia_j193 b a f (wa .i64 c 1) d
        else
          sparseref08_Inertia_j193 b a f c (wa .i64 d 1)
      else
        sparseref08_Inertia_j170 b a f (wa .i64 c 1) (wa .i64 d 1)
  else
    some (.inr (c, d, e))
def sparseref08_Inertia_l1 (c : List (List (Bool × LI))) : LI × Int → Option ((LI × Int) ⊕ (LI)) := fun (b, a) =>
  if a < (c.length : Int) then
    (app b [a]).bind fun d =>
    some (.inl (d, wa .i64 a 1))
  else
    some (.inr b)
def sparseref08_Inertia (a : List (List (Bool × LI))) : Option (Int × Int × Int) :=
  (sparseref08_fracs a).bind fun b =>
  (loop (sparseref08_Inertia_l1 a) ([], 0)).bind fun c =>
  (loop (sparseref08_Inertia_l163) (b, 0, 0, c)).bind fun (d, e, f) =>
  some (d, (f.length : Int), e)

def sparselaw08_num (b : Int) : Option (Bool × LI) :=
  (sparseref01_FromInt b).bind fun a =>
  some (a.1, a.2)

def integer_Sub (b : Bool) (c : LI) (d : Bool) (e : LI) : Option (Bool × LI) :=
  (integer_Add b c (!(d)) e).bind fun a =>
  some (a.1, a.2)

def exact_sweep_l1 (c : List (Bool × LI)) (j : Bool) (k : LI) (l : Bool) (m : LI) (n : Bool) (o : LI) : (List (Bool × LI)) × Int → Option (((List (Bool × LI)) × Int) ⊕ (((List (Bool × LI))))) := fun (b, a) =>
  if a < (c.length : Int) then
    (getI c a).bind fun d =>
    (getI b a).bind fun e =>
    (integer_Mul j k e.1 e.2).bind fun f =>
    (integer_Mul l m d.1 d.2).bind fun g =>
    (integer_Sub f.1 f.2 g.1 g.2).bind fun h =>
    (integer_Quo h.1 h.2 n o).bind fun i =>
    (setI b a (i.1, i.2.1)).bind fun p =>
    some (.inl (p, wa .i64 a 1))
  else
    some (.inr b)
def exact_sweep (a : List (Bool × LI)) (b : List (Bool × LI)) (c : Bool) (d : LI) (e : Bool) (f : LI) (g : Bool) (h : LI) : Option ((List (Bool × LI))) :=
  (loop (exact_sweep_l1 b e f c d g h) (a, 0)).bind fun i =>
  some i

def exact_reduced_step_j5 (a : Int) (b : List (List (Bool × LI))) : Option (((List (List (Bool × LI))) × Int) ⊕ (((List (List (Bool × LI)))))) :=
  some (.inl (b, wa .i64 a 1))
def exact_reduced_step_l4 (g : List (List (Bool × LI))) (c : Int) (h : Int) (d : Bool × LI) (i : Bool) (j : LI) : (List (List (Bool × LI))) × Int → Option (((List (List (Bool × LI))) × Int) ⊕ (((List (List (Bool × LI)))))) := fun (b, a) =>
  if a < (g.length : Int) then
    (getI b a).bind fun e =>
    if a = c then
      exact_reduced_step_j5 a b
    else
      (getI b c).bind fun k =>
      (getI e h).bind fun f =>
      (neI a c).bind fun u110 =>
      (exact_sweep e k f.1 f.2 d.1 d.2 i j).bind fun l =>
      (setI b a l).bind fun m =>
      exact_reduced_step_j5 a m
  else
    some (.inr b)
def exact_reduced_step_j1 (d : Int) (a : Int) (e : Bool) (f : LI) (g : LI) (b : List (List (Bool × LI))) (h : Int) : Option ((List (List (Bool × LI))) × LI × Bool × LI × Int) :=
  (getI b d).bind fun i =>
  (getI i a).bind fun c =>
  (loop (exact_reduced_step_l4 b d a c e f) (b, 0)).bind fun j =>
  (app g [a]).bind fun k =>
  some (j, k, c.1, c.2, h)
def exact_reduced_step (b : List (List (Bool × LI))) (d : LI) (e : Bool) (f : LI) (g : Int) (h : Int) (a : Int) (c : Int) : Option ((List (List (Bool × LI))) × LI × Bool × LI × Int) :=
  if a < c then
    (getI b c).bind fun i =>
    (getI b a).bind fun j =>
    (setI b a i).bind fun k =>
    (setI k c j).bind fun l =>
    exact_reduced_step_j1 a h e f d l (wneg .i64 g)
  else
    exact_reduced_step_j1 a h e f d b g

def exact_eliminate_j12 (a : Int) (b : List (List (Bool × LI))) (c : LI) (d : Bool) (e : LI) (f : Int) : Option (((List (List (Bool × LI))) × LI × Bool × LI × Int × Int) ⊕ (((List (List (Bool × LI))) × LI × Bool × LI × Int))) :=
  some (.inl (b, c, d, e, f, wa .i64 a 1))
def exact_eliminate_l13 (c : List (List (Bool × LI))) (d : Int) (e : LI) (g : Bool) (h : LI) (i : Int) : Int → Option ((Int) ⊕ (((List (List (Bool × LI))) × LI × Bool × LI × Int) ⊕ Unit)) := fun b =>
  if b < (c.length : Int) then
    (getI c b).bind fun j =>
    (getI j d).bind fun f =>
    (integer_Sign f.1 f.2).bind fun k =>
    if k = 0 then
      some (.inl (wa .i64 b 1))
    else
      (exact_reduced_step c e g h i d (e.length : Int) b).bind fun a =>
      some (.inr (.inl (a.1, a.2.1, a.2.2.1, a.2.2.2.1, a.2.2.2.2)))
  else
    some (.inr (.inr ()))
def exact_eliminate_l9 (g : Int) : (List (List (Bool × LI))) × LI × Bool × LI × Int × Int → Option (((List (List (Bool × LI))) × LI × Bool × LI × Int × Int) ⊕ (((List (List (Bool × LI))) × LI × Bool × LI × Int))) := fun (c, a, d, e, f, b) =>
  if b < g then
    (loop (exact_eliminate_l13 c b a d e f) (a.length : Int)).bind (fun o => match o with
      | .inl (h, i, j, k, l) =>
        exact_eliminate_j12 b h i j k l
      | .inr () =>
        exact_eliminate_j12 b c a d e f)
  else
    some (.inr (c, a, d, e, f))
def exact_eliminate (b : List (List (Bool × LI))) (c : Int) : Option ((List (List (Bool × LI))) × LI × Bool × LI × Int) :=
  (integer_FromInt 1).bind fun a =>
  (loop (exact_eliminate_l9 c) (b, [], a.1, a.2, 1, 0)).bind fun (d, e, f, g, h) =>
  some (d, e, f, g, h)
end M
