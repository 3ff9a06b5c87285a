/- Models of functions of the program, printed. -/
import Derived.Test.YtnfamnfdndaekaaGreatDoorM4
namespace M
open Sx
set_option linter.unusedVariables false
def sparseref07_Power_j4 (a : Int) (b : Int) (c : Int) (d : Int) : Option ((Int × Int × Int) ⊕ (Int)) :=
  (wr (wm .i64 a a) b).bind fun e =>
  some (.inl (e, wqc .i64 c 2, d))
def sparseref07_Power_l3 (b : Int) : Int × Int × Int → Option ((Int × Int × Int) ⊕ (Int)) := fun (c, a, d) =>
  if (0 : Int) < a then
    if (wrc a 2) = 1 then
      (wr (wm .i64 d c) b).bind fun e =>
      sparseref07_Power_j4 c b a e
    else
      sparseref07_Power_j4 c b a d
  else
    some (.inr d)
def sparseref07_Power (b : Int) (c : Int) (a : Int) : Option (Int) :=
  (sparseref07_Mod b a).bind fun d =>
  (loop (sparseref07_Power_l3 a) (d, c, 1)).bind fun e =>
  some e

def sparseref07_Inverse (b : Int) (a : Int) : Option (Int) :=
  (sparseref07_Power b (ws .i64 a 2) a).bind fun c =>
  some c

def sparseref07_Echelon_j159 (a : Int) (b : L2) (c : Int) (d : LI) : Option ((L2 × Int × LI × Int) ⊕ ((L2 × Int × LI))) :=
  some (.inl (b, c, d, wa .i64 a 1))
def sparseref07_Echelon_l176 (b : Int) (d : LI) (f : Int) (e : Int) : L2 × Int → Option ((L2 × Int) ⊕ (L2)) := fun (a, c) =>
  (getI a b).bind fun g =>
  if ((decide (c < (g.length : Int))) && (!(decide (b = (d.length : Int))))) = true then
    (getI a b).bind fun h =>
    (getI a b).bind fun i =>
    (getI i c).bind fun j =>
    (getI a (d.length : Int)).bind fun k =>
    (getI k c).bind fun l =>
    (wr (wm .i64 f l) e).bind fun m =>
    (sparseref07_Mod (ws .i64 j m) e).bind fun n =>
    (setI h c n).bind fun o =>
    (setI a b o).bind fun p =>
    some (.inl (p, wa .i64 c 1))
  else
    some (.inr a)
def sparseref07_Echelon_l173 (c : Int) (d : LI) (e : Int) : L2 × Int → Option ((L2 × Int) ⊕ (L2)) := fun (a, b) =>
  if b < (a.length : Int) then
    (getI a b).bind fun f =>
    (getI f c).bind fun g =>
    (loop (sparseref07_Echelon_l176 b d g e) (a, 0)).bind fun h =>
    some (.inl (h, wa .i64 b 1))
  else
    some (.inr a)
def sparseref07_Echelon_l164 (b : LI) (d : Int) (e : Int) : L2 × Int → Option ((L2 × Int) ⊕ (L2)) := fun (a, c) =>
  (getI a (b.length : Int)).bind fun f =>
  if c < (f.length : Int) then
    (getI a (b.length : Int)).bind fun g =>
    (getI a (b.length : Int)).bind fun h =>
    (getI h c).bind fun i =>
    (wr (wm .i64 i d) e).bind fun j =>
    (setI g c j).bind fun k =>
    (setI a (b.length : Int) k).bind fun l =>
    some (.inl (l, wa .i64 c 1))
  else
    some (.inr a)
def sparseref07_Echelon_j163 (a : LI) (b : Int) (c : Int) (d : L2) (e : Int) : Option ((L2 × Int × LI × Int) ⊕ ((L2 × Int × LI))) :=
  (getI d (a.length : Int)).bind fun f =>
  (getI f b).bind fun g =>
  (wr (wm .i64 e g) c).bind fun h =>
  (getI d (a.length : Int)).bind fun i =>
  (getI i b).bind fun j =>
  (sparseref07_Inverse j c).bind fun k =>
  (loop (sparseref07_Echelon_l164 a k c) (d, 0)).bind fun l =>
  (loop (sparseref07_Echelon_l173 b a c) (l, 0)).bind fun m =>
  (app a [b]).bind fun n =>
  sparseref07_Echelon_j159 b m h n
def sparseref07_Echelon_l162 (b : L2) (c : Int) : Int → Option ((Int) ⊕ (Int)) := fun a =>
  (if a < (b.length : Int) then
    (getI b a).bind fun d =>
    (getI d c).bind fun e =>
    some (decide (e = 0))
  else
    some false).bind fun f =>
  if f = true then
    some (.inl (wa .i64 a 1))
  else
    some (.inr a)
def sparseref07_Echelon_l120 (g : L2) (e : Int) : L2 × Int × LI × Int → Option ((L2 × Int × LI × Int) ⊕ ((L2 × Int × LI))) := fun (a, f, b, c) =>
  (sparseref07_cols g).bind fun h =>
  if c < h then
    (loop (sparseref07_Echelon_l162 a c) (b.length : Int)).bind fun d =>
    if d = (a.length : Int) then
      sparseref07_Echelon_j159 c a 0 b
    else
      if d = (b.length : Int) then
        sparseref07_Echelon_j163 b c e a f
      else
        (getI a (b.length : Int)).bind fun i =>
        (getI a d).bind fun j =>
        (setI a d i).bind fun k =>
        (setI k (b.length : Int) j).bind fun l =>
        (sparseref07_Mod (wneg .i64 f) e).bind fun m =>
        sparseref07_Echelon_j163 b c e l m
  else
    some (.inr (a, f, b))
def sparseref07_Echelon_l179 (b : L2) (c : Int) (e : Int) : LI × Int → Option ((LI × Int) ⊕ (LI)) := fun (d, a) =>
  (getI b c).bind fun f =>
  if a < (f.length : Int) then
    (getI b c).bind fun g =>
    (getI g a).bind fun h =>
    (sparseref07_Mod h e).bind fun i =>
    (app d [i]).bind fun j =>
    some (.inl (j, wa .i64 a 1))
  else
    some (.inr d)
def sparseref07_Echelon_l3 (b : L2) (d : Int) : L2 × Int → Option ((L2 × Int) ⊕ (L2)) := fun (c, a) =>
  if a < (b.length : Int) then
    (loop (sparseref07_Echelon_l179 b a d) ([], 0)).bind fun e =>
    (app c [e]).bind fun f =>
    some (.inl (f, wa .i64 a 1))
  else
    some (.inr c)
def sparseref07_Echelon (b : L2) (a : Int) : Option (L2 × LI × Int) :=
  (loop (sparseref07_Echelon_l3 b a) ([], 0)).bind fun c =>
  (wr 1 a).bind fun d =>
  (loop (sparseref07_Echelon_l120 b a) (c, d, [], 0)).bind fun (e, f, g) =>
  some (e, g, f)

def sparseref07_Rank (a : L2) (b : Int) : Option (Int) :=
  (sparseref07_Echelon a b).bind fun c =>
  some (c.2.1.length : Int)

def sparseref07_Kernel_l4 (b : L2 × LI × Int) (d : Int) (e : Int) : LI × Int → Option ((LI × Int) ⊕ (LI)) := fun (c, a) =>
  if a < (b.2.1.length : Int) then
    (getI b.2.1 a).bind fun f =>
    (getI b.1 a).bind fun g =>
    (getI g d).bind fun h =>
    (sparseref07_Mod (wneg .i64 h) e).bind fun i =>
    (setI c f i).bind fun j =>
    some (.inl (j, wa .i64 a 1))
  else
    some (.inr c)
def sparseref07_Kernel_l3 (b : L2 × LI × Int) : Int → Option ((Int) ⊕ (Int)) := fun a =>
  (if a < (b.2.1.length : Int) then
    (getI b.2.1 a).bind fun c =>
    some (decide (c = a))
  else
    some false).bind fun d =>
  if d = true then
    some (.inl (wa .i64 a 1))
  else
    some (.inr a)
def sparseref07_Kernel (a : L2) (c : Int) : Option (LI) :=
  (sparseref07_Echelon a c).bind fun b =>
  (sparseref07_cols a).bind fun e =>
  if (b.2.1.length : Int) = e then
    some []
  else
    (loop (sparseref07_Kernel_l3 b) 0).bind fun d =>
    (sparseref07_cols a).bind fun f =>
    (mkL 0 f).bind fun g =>
    (setI g d 1).bind fun h =>
    (loop (sparseref07_Kernel_l4 b d c) (h, 0)).bind fun i =>
    some i

def sparseref07_Det (a : L2) (c : Int) : Option (Int) :=
  (sparseref07_Echelon a c).bind fun b =>
  if (b.2.1.length : Int) < (a.length : Int) then
    some 0
  else
    some b.2.2

def sparseref07_Solve_l2 (b : L2 × LI × Int) (d : L2) : LI × Int → Option ((LI × Int) ⊕ (LI)) := fun (c, a) =>
  if a < (b.1.length : Int) then
    (getI b.1 a).bind fun e =>
    (getI e (d.length : Int)).bind fun f =>
    (app c [f]).bind fun g =>
    some (.inl (g, wa .i64 a 1))
  else
    some (.inr c)
def sparseref07_Solve_l1 (b : L2) (d : LI) : L2 × Int → Option ((L2 × Int) ⊕ (L2)) := fun (c, a) =>
  if a < (b.length : Int) then
    (getI b a).bind fun e =>
    (app ([] : LI) e).bind fun f =>
    (getI d a).bind fun g =>
    (app f [g]).bind fun h =>
    (app c [h]).bind fun i =>
    some (.inl (i, wa .i64 a 1))
  else
    some (.inr c)
def sparseref07_Solve (a : L2) (c : LI) (b : Int) : Option (LI × Bool) :=
  (loop (sparseref07_Solve_l1 a c) ([], 0)).bind fun d =>
  (sparseref07_Det a b).bind fun e =>
  if e = 0 then
    some ([], false)
  else
    (sparseref07_Echelon d b).bind fun f =>
    (loop (sparseref07_Solve_l2 f a) ([], 0)).bind fun g =>
    some (g, true)

def sparselaw07_ModularLinear (a : L2) (e : LI) (b : Int) : Option (Bool) :=
  (sparselaw07_small a).bind fun l =>
  (if ((!(l)) || (decide ((6 : Int) < (e.length : Int)))) = true then
    some true
  else
    (sparselaw07_modulus b).bind fun m =>
    some (!(m))).bind fun n =>
  if n = true then
    (sparselaw07_awake).bind fun o =>
    some o
  else
    (sparsekit_TwinLists a).bind fun f =>
    (sparsekit_TwinInts e).bind fun j =>
    (modular_Rank f b).bind fun h =>
    (modular_Det f b).bind fun d =>
    (modular_Kernel f b).bind fun i =>
    (modular_Solve f j b).bind fun c =>
    (sparsekit_Lists f a).bind fun p =>
    (if p = true then
      (sparsekit_Ints j e).bind fun q =>
      some (!(q))
    else
      some true).bind fun r =>
    if r = true then
      some false
    else
      (sparseref07_Check a b).bind fun g =>
      if g = 0 then
        (if ((!(decide (h.2 = 0))) || (!(decide (i.2 = 0)))) = true then
          some true
        else
          (sparseref07_Rank a b).bind fun s =>
          some (!(decide (h.1 = s)))).bind fun t =>
        (if t = true then
          some true
        else
          (sparseref07_Kernel a b).bind fun u =>
          (sparsekit_Ints i.1 u).bind fun v =>
          some (!(v))).bind fun w =>
        if w = true then
          some false
        else
          (if (0 : Int) < (a.length : Int) then
            (getI a 0).bind fun x =>
            some (!(decide ((x.length : Int) = (a.length : Int))))
          else
            some false).bind fun y =>
          if y = true then
            (if ((((decide (d.2 = 5)) && (decide (c.2 = 5))) && (decide (d.1 = 0))) && (decide ((c.1.length : Int) = 0))) = true then
              (sparselaw07_awake).bind fun z =>
              some z
            else
              some false).bind fun a0 =>
            some a0
          else
            (if d.2 = 0 then
              (sparseref07_Det a b).bind fun a1 =>
              some (!(decide (d.1 = a1)))
            else
              some true).bind fun a2 =>
            if a2 = true then
              some false
            else
              if (e.length : Int) = (a.length : Int) then
                (sparseref07_Solve a e b).bind fun k =>
                if k.2 = true then
                  (if c.2 = 0 then
                    (sparsekit_Ints c.1 k.1).bind fun a3 =>
                    some a3
                  else
                    some false).bind fun a4 =>
                  (if a4 = true then
                    (sparselaw07_awake).bind fun a5 =>
                    some a5
                  else
                    some false).bind fun a6 =>
                  some a6
                else
                  (if ((decide (c.2 = 9)) && (decide ((c.1.length : Int) = 0))) = true then
                    (sparselaw07_awake).bind fun a7 =>
                    some a7
                  else
                    some false).bind fun a8 =>
                  some a8
              else
                (if ((decide (c.2 = 2)) && (decide ((c.1.length : Int) = 0))) = true then
                  (sparselaw07_awake).bind fun a9 =>
                  some a9
                else
                  some false).bind fun b0 =>
                some b0
      else
        (if ((((((((decide (h.2 = g)) && (decide (d.2 = g))) && (decide (i.2 = g))) && (decide (c.2 = g))) && (decide (h.1 = 0))) && (decide (d.1 = 0))) && (decide ((i.1.length : Int) = 0))) && (decide ((c.1.length : Int) = 0))) = true then
          (sparselaw07_awake).bind fun b1 =>
          some b1
        else
          some false).bind fun b2 =>
        some b2
end M
