/- Models of functions of the program, printed. -/
import Derived.Test.YtgnfkbaghjmgiaaGreatDoorM6
namespace M
open Sx
set_option linter.unusedVariables false
def sparseref13_Chosen_j4 (a : Int) (b : LI) : Option ((LI × Int) ⊕ (LI)) :=
  some (.inl (b, wa .i64 a 1))
def sparseref13_Chosen_l3 (c : BL) (d : Bool) : LI × Int → Option ((LI × Int) ⊕ (LI)) := fun (b, a) =>
  if a < (c.length : Int) then
    (getI c a).bind fun e =>
    if (e == d) = true then
      (app b [a]).bind fun f =>
      sparseref13_Chosen_j4 a f
    else
      sparseref13_Chosen_j4 a b
  else
    some (.inr b)
def sparseref13_Chosen (a : BL) (b : Bool) : Option (LI) :=
  (loop (sparseref13_Chosen_l3 a b) ([], 0)).bind fun c =>
  some c

def sparseref15_Coarse_j12 (a : Int) (b : LI) : Option ((LI × Int) ⊕ (LI)) :=
  some (.inl (b, wa .i64 a 1))
def sparseref15_Coarse_l10 (c : Int) (d : BL × BL) (e : BL × BL) : LI × Int → Option ((LI × Int) ⊕ (LI)) := fun (b, a) =>
  if a < c then
    (getI d.2 a).bind fun f =>
    (if f = true then
      some false
    else
      (getI e.1 a).bind fun g =>
      some (!(g))).bind fun h =>
    if h = true then
      (app b [a]).bind fun i =>
      sparseref15_Coarse_j12 a i
    else
      sparseref15_Coarse_j12 a b
  else
    some (.inr b)
def sparseref15_Coarse_j14 (a : Int) (b : LI) : Option ((LI × Int) ⊕ (LI)) :=
  some (.inl (b, wa .i64 a 1))
def sparseref15_Coarse_l5 (c : Int) (d : BL × BL) (e : BL × BL) : LI × Int → Option ((LI × Int) ⊕ (LI)) := fun (b, a) =>
  if a < c then
    (getI d.1 a).bind fun f =>
    (if f = true then
      some false
    else
      (getI e.2 a).bind fun g =>
      some (!(g))).bind fun h =>
    if h = true then
      (app b [a]).bind fun i =>
      sparseref15_Coarse_j14 a i
    else
      sparseref15_Coarse_j14 a b
  else
    some (.inr b)
def sparseref15_Coarse (b : Int) (c : Int) (d : LI) (e : LI) (f : LI) : Option (LI × LI × LI × LI × LI × LI × Int) :=
  (sparseref09_Check b c d e f).bind fun k =>
  if k = 0 then
    (sparseref09_Transpose b c d e f).bind fun a =>
    (sparseref13_Find b c d e f).bind fun i =>
    (sparseref13_Reach b c d e f i.1 i.2.1 i.2.2).bind fun g =>
    (sparseref13_Find a.1 a.2.1 a.2.2.1 a.2.2.2.1 a.2.2.2.2.1).bind fun j =>
    (sparseref13_Reach a.1 a.2.1 a.2.2.1 a.2.2.2.1 a.2.2.2.2.1 j.1 j.2.1 j.2.2).bind fun h =>
    (sparseref13_Chosen g.1 true).bind fun l =>
    (sparseref13_Chosen g.2 true).bind fun m =>
    (sparseref13_Chosen h.2 true).bind fun n =>
    (sparseref13_Chosen h.1 true).bind fun o =>
    (loop (sparseref15_Coarse_l5 b g h) ([], 0)).bind fun p =>
    (loop (sparseref15_Coarse_l10 c g h) ([], 0)).bind fun q =>
    some (l, m, p, q, n, o, 0)
  else
    some ([], [], [], [], [], [], k)

def sparseref15_Perfect_l1 (b : LI × LI × BL) : Int → Option ((Int) ⊕ (Unit ⊕ Unit)) := fun a =>
  if a < (b.2.1.length : Int) then
    (getI b.2.1 a).bind fun c =>
    if c < 0 then
      some (.inr (.inr ()))
    else
      some (.inl (wa .i64 a 1))
  else
    some (.inr (.inl ()))
def sparseref15_Perfect (b : Int) (c : Int) (d : LI) (e : LI) (f : LI) : Option (LI × Bool) :=
  (sparseref13_Find b c d e f).bind fun a =>
  (loop (sparseref15_Perfect_l1 a) 0).bind (fun o => match o with
    | .inl () =>
      some (a.2.1, true)
    | .inr () =>
      some ([], false))

def sparseref09_Stored_l4 (b : LI) (c : Int) (d : LI) (e : Int) : Int → Option ((Int) ⊕ (Unit ⊕ Unit)) := fun a =>
  (getI b (wa .i64 c 1)).bind fun f =>
  if a < f then
    (getI d a).bind fun g =>
    if g = e then
      some (.inr (.inr ()))
    else
      some (.inl (wa .i64 a 1))
  else
    some (.inr (.inl ()))
def sparseref09_Stored (d : Int) (e : Int) (c : LI) (f : LI) (h : LI) (b : Int) (a : Int) : Option (Bool) :=
  if ((((decide (b < 0)) || (decide (d ≤ b))) || (decide (a < 0))) || (decide (e ≤ a))) = true then
    some false
  else
    (getI c a).bind fun g =>
    (loop (sparseref09_Stored_l4 c a f b) g).bind (fun o => match o with
      | .inl () =>
        some false
      | .inr () =>
        some true)

def sparseref15_Arcs_l164 (e : Int) (c : Int) (d : Int) : (List BL) × Int → Option (((List BL) × Int) ⊕ (((List BL)))) := fun (a, b) =>
  if b < e then
    (getI a c).bind fun f =>
    (getI a c).bind fun g =>
    (getI g b).bind fun h =>
    (if h = true then
      some true
    else
      (getI a c).bind fun i =>
      (getI i d).bind fun j =>
      (if j = true then
        (getI a d).bind fun k =>
        (getI k b).bind fun l =>
        some l
      else
        some false).bind fun m =>
      some m).bind fun n =>
    (setI f b n).bind fun o =>
    (setI a c o).bind fun p =>
    some (.inl (p, wa .i64 b 1))
  else
    some (.inr a)
def sparseref15_Arcs_l153 (b : Int) (d : Int) : (List BL) × Int → Option (((List BL) × Int) ⊕ (((List BL)))) := fun (c, a) =>
  if a < b then
    (loop (sparseref15_Arcs_l164 b a d) (c, 0)).bind fun e =>
    some (.inl (e, wa .i64 a 1))
  else
    some (.inr c)
def sparseref15_Arcs_l120 (b : Int) : (List BL) × Int → Option (((List BL) × Int) ⊕ (((List BL)))) := fun (c, a) =>
  if a < b then
    (loop (sparseref15_Arcs_l153 b a) (c, 0)).bind fun d =>
    some (.inl (d, wa .i64 a 1))
  else
    some (.inr c)
def sparseref15_Arcs_l176 (b : Int) (c : Int) (e : LI) (f : Int) (g : LI) (h : LI) (i : LI) : BL × Int → Option ((BL × Int) ⊕ (BL)) := fun (d, a) =>
  if a < b then
    (if c = a then
      some true
    else
      (getI e c).bind fun j =>
      (sparseref09_Stored f b g h i j a).bind fun k =>
      some k).bind fun l =>
    (setI d a l).bind fun m =>
    some (.inl (m, wa .i64 a 1))
  else
    some (.inr d)
def sparseref15_Arcs_l21 (a : Int) (d : LI) (e : Int) (f : LI) (g : LI) (h : LI) : (List BL) × Int → Option (((List BL) × Int) ⊕ (((List BL)))) := fun (c, b) =>
  if b < a then
    (mkL false a).bind fun i =>
    (loop (sparseref15_Arcs_l176 a b d e f g h) (i, 0)).bind fun j =>
    (app c [j]).bind fun k =>
    some (.inl (k, wa .i64 b 1))
  else
    some (.inr c)
def sparseref15_Arcs (b : Int) (a : Int) (c : LI) (d : LI) (e : LI) (f : LI) : Option ((List BL)) :=
  (loop (sparseref15_Arcs_l21 a f b c d e) ([], 0)).bind fun g =>
  (loop (sparseref15_Arcs_l120 a) (g, 0)).bind fun h =>
  some h

def sparseref15_Triangular_j161 (a : Int) (b : BL) (c : LI) (d : BL) : Option ((BL × LI × BL × Int) ⊕ ((BL × LI × BL))) :=
  some (.inl (b, c, d, wa .i64 a 1))
def sparseref15_Triangular_l159 (g : Int) (e : (List BL)) (f : Int) (h : LI × Bool) : BL × LI × BL × Int → Option ((BL × LI × BL × Int) ⊕ ((BL × LI × BL))) := fun (b, c, d, a) =>
  if a < g then
    (getI e f).bind fun i =>
    (getI i a).bind fun j =>
    (if j = true then
      (getI e a).bind fun k =>
      (getI k f).bind fun l =>
      some l
    else
      some false).bind fun m =>
    if m = true then
      (setI b a true).bind fun n =>
      (app c [a]).bind fun o =>
      (getI h.1 a).bind fun p =>
      (setI d p true).bind fun q =>
      sparseref15_Triangular_j161 a n o q
    else
      sparseref15_Triangular_j161 a b c d
  else
    some (.inr (b, c, d))
def sparseref15_Triangular_j173 (a : Int) (b : Int) : Option ((Int × Int) ⊕ (Int)) :=
  some (.inl (b, ws .i64 a 1))
def sparseref15_Triangular_l172 (e : Int) (f : BL) (b : (List BL)) (c : Int) : Bool × Int → Option ((Bool × Int) ⊕ (Bool)) := fun (d, a) =>
  if a < e then
    (if d = true then
      (getI f a).bind fun g =>
      (if g = true then
        some true
      else
        (getI b a).bind fun h =>
        (getI h c).bind fun i =>
        some (!(i))).bind fun j =>
      (if j = true then
        some true
      else
        (getI b c).bind fun k =>
        (getI k a).bind fun l =>
        some l).bind fun m =>
      some m
    else
      some false).bind fun n =>
    some (.inl (n, wa .i64 a 1))
  else
    some (.inr d)
def sparseref15_Triangular_l154 (b : BL) (d : Int) (e : (List BL)) : Int × Int → Option ((Int × Int) ⊕ (Int)) := fun (c, a) =>
  if (0 : Int) ≤ a then
    (getI b a).bind fun f =>
    (loop (sparseref15_Triangular_l172 d b e a) (!(f), 0)).bind fun g =>
    if g = true then
      sparseref15_Triangular_j173 a a
    else
      sparseref15_Triangular_j173 a c
  else
    some (.inr c)
def sparseref15_Triangular_l119 (a : Int) (c : (List BL)) (h : LI × Bool) : BL × LI × LI × LI → Option ((BL × LI × LI × LI) ⊕ ((LI × LI × LI))) := fun (d, e, b, f) =>
  if (b.length : Int) < a then
    (loop (sparseref15_Triangular_l154 d a c) ((-1), ws .i64 a 1)).bind fun i =>
    (mkL false a).bind fun j =>
    (loop (sparseref15_Triangular_l159 a c i h) (d, b, j, 0)).bind fun (k, g, l) =>
    (sparseref13_Chosen l true).bind fun m =>
    (app e m).bind fun n =>
    (app f [(g.length : Int)]).bind fun o =>
    some (.inl (k, n, g, o))
  else
    some (.inr (e, b, f))
def sparseref15_Triangular (b : Int) (a : Int) (c : LI) (d : LI) (e : LI) : Option (LI × LI × LI × Int) :=
  (sparseref09_Check b a c d e).bind fun g =>
  if g = 0 then
    if b = a then
      (sparseref15_Perfect b a c d e).bind fun f =>
      if f.2 = true then
        (sparseref15_Arcs b a c d e f.1).bind fun h =>
        (mkL false a).bind fun i =>
        (loop (sparseref15_Triangular_l119 a h f) (i, [], [], [0])).bind fun (j, k, l) =>
        some (j, k, l, 0)
      else
        some ([], [], [], 9)
    else
      some ([], [], [], 5)
  else
    some ([], [], [], g)

def sparselaw15_same (a : LI) (b : LI) (c : LI) (d : LI) (e : LI) (f : LI) (g : LI) (h : LI) (i : LI) (j : LI) (k : LI) (l : LI) : Option (Bool) :=
  (sparsekit_Ints a g).bind fun m =>
  (if m = true then
    (sparsekit_Ints b h).bind fun n =>
    some n
  else
    some false).bind fun o =>
  (if o = true then
    (sparsekit_Ints c i).bind fun p =>
    some p
  else
    some false).bind fun q =>
  (if q = true then
    (sparsekit_Ints d j).bind fun r =>
    some r
  else
    some false).bind fun s =>
  (if s = true then
    (sparsekit_Ints e k).bind fun t =>
    some t
  else
    some false).bind fun u =>
  (if u = true then
    (sparsekit_Ints f l).bind fun v =>
    some v
  else
    some false).bind fun w =>
  some w

def sparselaw15_alike (a : LI) (b : LI) (c : LI) (d : LI) (e : LI) (f : LI) : Option (Bool) :=
  (sparsekit_Ints a d).bind fun g =>
  (if g = true then
    (sparsekit_Ints b e).bind fun h =>
    some h
  else
    some false).bind fun i =>
  (if i = true then
    (sparsekit_Ints c f).bind fun j =>
    some j
  else
    some false).bind fun k =>
  some k

def sparselaw15_BlocksMade (i : Int) (j : Int) (g : LI) : Option (Bool) :=
  if (90 : Int) < (g.length : Int) then
    (sparselaw15_awake).bind fun k =>
    some k
  else
    (sparsekit_Place i 8).bind fun l =>
    (sparsekit_Place j 8).bind fun h =>
    (sparsemake_Matrix l h g).bind fun a =>
    (sparsemake_Square h g).bind fun b =>
    (blocks_Coarse a.1 a.2.1 a.2.2.1 a.2.2.2.1 a.2.2.2.2).bind fun c =>
    (sparseref15_Coarse a.1 a.2.1 a.2.2.1 a.2.2.2.1 a.2.2.2.2).bind fun d =>
    (blocks_Triangular b.1 b.2.1 b.2.2.1 b.2.2.2.1 b.2.2.2.2).bind fun e =>
    (sparseref15_Triangular b.1 b.2.1 b.2.2.1 b.2.2.2.1 b.2.2.2.2).bind fun f =>
    (if c.2.2.2.2.2.2 = d.2.2.2.2.2.2 then
      (sparselaw15_same c.1 c.2.1 c.2.2.1 c.2.2.2.1 c.2.2.2.2.1 c.2.2.2.2.2.1 d.1 d.2.1 d.2.2.1 d.2.2.2.1 d.2.2.2.2.1 d.2.2.2.2.2.1).bind fun m =>
      some m
    else
      some false).bind fun n =>
    (if (n && (decide (e.2.2.2 = f.2.2.2))) = true then
      (sparselaw15_alike e.1 e.2.1 e.2.2.1 f.1 f.2.1 f.2.2.1).bind fun o =>
      some o
    else
      some false).bind fun p =>
    (if p = true then
      (sparselaw15_awake).bind fun q =>
      some q
    else
      some false).bind fun r =>
    some r
end M
