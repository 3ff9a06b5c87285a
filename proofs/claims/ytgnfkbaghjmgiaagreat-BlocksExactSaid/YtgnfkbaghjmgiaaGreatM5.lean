/- Models of functions of the program, printed. -/
import Derived.Test.YtgnfkbaghjmgiaaGreatM4
namespace M
open Sx
set_option linter.unusedVariables false
def sparseref15_Triangular_j161 (a : Int) (b : BL) (c : LI) (d : BL) : Option ((BL × LI × BL × Int) ⊕ ((BL × LI × BL))) :=
  some (.inl (b, c, d, wa .i64 a 1))
def sparseref15_Triangular_l159 (g : Int) (e : (List BL)) (f : Int) (h : LI × Bool) : BL × LI × BL × Int → Option ((BL × LI × BL × Int) ⊕ ((BL × LI × BL))) := fun (b, c, d, a) =>
  if a < g then
    (getI e f).bind fun i =>
    (getI i a).bind fun j =>
    (if j = true then
      (getI e a).bind fun k =>
      (getI k f).bind fun l =>
      some l
    else
      some false).bind fun m =>
    if m = true then
      (setI b a true).bind fun n =>
      (app c [a]).bind fun o =>
      (getI h.1 a).bind fun p =>
      (setI d p true).bind fun q =>
      sparseref15_Triangular_j161 a n o q
    else
      sparseref15_Triangular_j161 a b c d
  else
    some (.inr (b, c, d))
def sparseref15_Triangular_j173 (a : Int) (b : Int) : Option ((Int × Int) ⊕ (Int)) :=
  some (.inl (b, ws .i64 a 1))
def sparseref15_Triangular_l172 (e : Int) (f : BL) (b : (List BL)) (c : Int) : Bool × Int → Option ((Bool × Int) ⊕ (Bool)) := fun (d, a) =>
  if a < e then
    (if d = true then
      (getI f a).bind fun g =>
      (if g = true then
        some true
      else
        (getI b a).bind fun h =>
        (getI h c).bind fun i =>
        some (!(i))).bind fun j =>
      (if j = true then
        some true
      else
        (getI b c).bind fun k =>
        (getI k a).bind fun l =>
        some l).bind fun m =>
      some m
    else
      some false).bind fun n =>
    some (.inl (n, wa .i64 a 1))
  else
    some (.inr d)
def sparseref15_Triangular_l154 (b : BL) (d : Int) (e : (List BL)) : Int × Int → Option ((Int × Int) ⊕ (Int)) := fun (c, a) =>
  if (0 : Int) ≤ a then
    (getI b a).bind fun f =>
    (loop (sparseref15_Triangular_l172 d b e a) (!(f), 0)).bind fun g =>
    if g = true then
      sparseref15_Triangular_j173 a a
    else
      sparseref15_Triangular_j173 a c
  else
    some (.inr c)
def sparseref15_Triangular_l119 (a : Int) (c : (List BL)) (h : LI × Bool) : BL × LI × LI × LI → Option ((BL × LI × LI × LI) ⊕ ((LI × LI × LI))) := fun (d, e, b, f) =>
  if (b.length : Int) < a then
    (loop (sparseref15_Triangular_l154 d a c) ((-1), ws .i64 a 1)).bind fun i =>
    (mkL false a).bind fun j =>
    (loop (sparseref15_Triangular_l159 a c i h) (d, b, j, 0)).bind fun (k, g, l) =>
    (sparseref13_Chosen l true).bind fun m =>
    (app e m).bind fun n =>
    (app f [(g.length : Int)]).bind fun o =>
    some (.inl (k, n, g, o))
  else
    some (.inr (e, b, f))
def sparseref15_Triangular (b : Int) (a : Int) (c : LI) (d : LI) (e : LI) : Option (LI × LI × LI × Int) :=
  (sparseref09_Check b a c d e).bind fun g =>
  if g = 0 then
    if b = a then
      (sparseref15_Perfect b a c d e).bind fun f =>
      if f.2 = true then
        (sparseref15_Arcs b a c d e f.1).bind fun h =>
        (mkL false a).bind fun i =>
        (loop (sparseref15_Triangular_l119 a h f) (i, [], [], [0])).bind fun (j, k, l) =>
        some (j, k, l, 0)
      else
        some ([], [], [], 9)
    else
      some ([], [], [], 5)
  else
    some ([], [], [], g)

def sparselaw15_same (a : LI) (b : LI) (c : LI) (d : LI) (e : LI) (f : LI) (g : LI) (h : LI) (i : LI) (j : LI) (k : LI) (l : LI) : Option (Bool) :=
  (sparsekit_Ints a g).bind fun m =>
  (if m = true then
    (sparsekit_Ints b h).bind fun n =>
    some n
  else
    some false).bind fun o =>
  (if o = true then
    (sparsekit_Ints c i).bind fun p =>
    some p
  else
    some false).bind fun q =>
  (if q = true then
    (sparsekit_Ints d j).bind fun r =>
    some r
  else
    some false).bind fun s =>
  (if s = true then
    (sparsekit_Ints e k).bind fun t =>
    some t
  else
    some false).bind fun u =>
  (if u = true then
    (sparsekit_Ints f l).bind fun v =>
    some v
  else
    some false).bind fun w =>
  some w

def sparselaw15_alike (a : LI) (b : LI) (c : LI) (d : LI) (e : LI) (f : LI) : Option (Bool) :=
  (sparsekit_Ints a d).bind fun g =>
  (if g = true then
    (sparsekit_Ints b e).bind fun h =>
    some h
  else
    some false).bind fun i =>
  (if i = true then
    (sparsekit_Ints c f).bind fun j =>
    some j
  else
    some false).bind fun k =>
  some k

def sparsekit_Perm_l5 (c : Int) (b : LI) : BL × Int → Option ((BL × Int) ⊕ (Unit ⊕ Unit)) := fun (d, a) =>
  if a < c then
    (getI b a).bind fun e =>
    (if e < 0 then
      some true
    else
      (getI b a).bind fun f =>
      some (decide (c ≤ f))).bind fun g =>
    (if g = true then
      some true
    else
      (getI b a).bind fun h =>
      (getI d h).bind fun i =>
      some i).bind fun j =>
    if j = true then
      some (.inr (.inr ()))
    else
      (getI b a).bind fun k =>
      (setI d k true).bind fun l =>
      some (.inl (l, wa .i64 a 1))
  else
    some (.inr (.inl ()))
def sparsekit_Perm (b : LI) (a : Int) : Option (Bool) :=
  if (b.length : Int) = a then
    (mkL false a).bind fun c =>
    (loop (sparsekit_Perm_l5 a b) (c, 0)).bind (fun o => match o with
      | .inl () =>
        some true
      | .inr () =>
        some false)
  else
    some false

def sparsekit_Ascending_l1 (b : LI) : Int → Option ((Int) ⊕ (Unit ⊕ Unit)) := fun a =>
  if a < (b.length : Int) then
    (getI b a).bind fun c =>
    (getI b (ws .i64 a 1)).bind fun d =>
    if c ≤ d then
      some (.inr (.inr ()))
    else
      some (.inl (wa .i64 a 1))
  else
    some (.inr (.inl ()))
def sparsekit_Ascending (a : LI) : Option (Bool) :=
  (loop (sparsekit_Ascending_l1 a) 1).bind (fun o => match o with
    | .inl () =>
      some true
    | .inr () =>
      some false)

def sparsekit_Invert_l1 (b : LI) : LI × Int → Option ((LI × Int) ⊕ (LI)) := fun (c, a) =>
  if a < (b.length : Int) then
    (getI b a).bind fun d =>
    (setI c d a).bind fun e =>
    some (.inl (e, wa .i64 a 1))
  else
    some (.inr c)
def sparsekit_Invert (a : LI) : Option (LI) :=
  (mkL 0 (a.length : Int)).bind fun b =>
  (loop (sparsekit_Invert_l1 a) (b, 0)).bind fun c =>
  some c

def sparseref15_block_l1 (b : LI) (c : Int) : Int → Option ((Int) ⊕ (Int)) := fun a =>
  (getI b (wa .i64 a 1)).bind fun d =>
  if d ≤ c then
    some (.inl (wa .i64 a 1))
  else
    some (.inr a)
def sparseref15_block (a : LI) (b : Int) : Option (Int) :=
  (loop (sparseref15_block_l1 a b) 0).bind fun c =>
  some c

def sparseref15_Check_l5 (b : (List (Int × Int × Int))) (d : LI) (c : LI) (e : LI) : Int → Option ((Int) ⊕ (Unit ⊕ Unit)) := fun a =>
  if a < (b.length : Int) then
    (getI b a).bind fun f =>
    (getI d f.1).bind fun g =>
    (sparseref15_block c g).bind fun h =>
    (getI b a).bind fun i =>
    (getI e i.2.1).bind fun j =>
    (sparseref15_block c j).bind fun k =>
    if k < h then
      some (.inr (.inr ()))
    else
      some (.inl (wa .i64 a 1))
  else
    some (.inr (.inl ()))
def sparseref15_Check (c : Int) (a : Int) (d : LI) (e : LI) (f : LI) (g : LI) (h : LI) (b : LI) : Option (Int) :=
  (sparseref09_Check c a d e f).bind fun i =>
  if i = 0 then
    if c = a then
      (sparsekit_Perm g a).bind fun j =>
      (if j = true then
        (sparsekit_Perm h a).bind fun k =>
        some (!(k))
      else
        some true).bind fun l =>
      if l = true then
        some 90
      else
        (if (b.length : Int) = 0 then
          some true
        else
          (getI b 0).bind fun m =>
          some (!(decide (m = 0)))).bind fun n =>
        (if n = true then
          some true
        else
          (getI b (ws .i64 (b.length : Int) 1)).bind fun p =>
          some (!(decide (p = a)))).bind fun q =>
        (if q = true then
          some true
        else
          (sparsekit_Ascending b).bind fun r =>
          some (!(r))).bind fun s =>
        if s = true then
          some 150
        else
          (sparsekit_Invert g).bind fun t =>
          (sparsekit_Invert h).bind fun u =>
          (sparseref09_Entries c a d e f).bind fun v =>
          (loop (sparseref15_Check_l5 v t b u) 0).bind (fun o => match o with
            | .inl () =>
              some 0
            | .inr () =>
              some 150)
    else
      some 5
  else
    some i

def sparsekit_Floats_l1 (b : LI) (c : LI) : Int → Option ((Int) ⊕ (Unit ⊕ Unit)) := fun a =>
  if a < (b.length : Int) then
    (getI b a).bind fun d =>
    (getI c a).bind fun e =>
    if d = e then
      some (.inl (wa .i64 a 1))
    else
      some (.inr (.inr ()))
  else
    some (.inr (.inl ()))
def sparsekit_Floats (a : LI) (b : LI) : Option (Bool) :=
  if (a.length : Int) = (b.length : Int) then
    (loop (sparsekit_Floats_l1 a b) 0).bind (fun o => match o with
      | .inl () =>
        some true
      | .inr () =>
        some false)
  else
    some false

def sparsekit_Matrix (a : Int) (b : Int) (c : LI) (d : LI) (e : LI) (f : Int) (g : Int) (h : LI) (i : LI) (j : LI) : Option (Bool) :=
  (if ((decide (a = f)) && (decide (b = g))) = true then
    (sparsekit_Ints c h).bind fun k =>
    some k
  else
    some false).bind fun l =>
  (if l = true then
    (sparsekit_Ints d i).bind fun m =>
    some m
  else
    some false).bind fun n =>
  (if n = true then
    (sparsekit_Floats e j).bind fun o =>
    some o
  else
    some false).bind fun p =>
  some p

def sparselaw15_BlocksExact (d : Int) (e : Int) (f : LI) (g : LI) (h : LI) (k : LI) (l : LI) (m : LI) : Option (Bool) :=
  (sparselaw15_small d e f g h).bind fun n =>
  if ((((!(n)) || (decide ((20 : Int) < (k.length : Int)))) || (decide ((20 : Int) < (l.length : Int)))) || (decide ((20 : Int) < (m.length : Int)))) = true then
    (sparselaw15_awake).bind fun o =>
    some o
  else
    (sparsekit_TwinMatrix d e f g h).bind fun a =>
    (blocks_Coarse a.1 a.2.1 a.2.2.1 a.2.2.2.1 a.2.2.2.2).bind fun b =>
    (sparseref15_Coarse d e f g h).bind fun c =>
    (blocks_Triangular a.1 a.2.1 a.2.2.1 a.2.2.2.1 a.2.2.2.2).bind fun i =>
    (sparseref15_Triangular d e f g h).bind fun j =>
    (sparselaw15_same b.1 b.2.1 b.2.2.1 b.2.2.2.1 b.2.2.2.2.1 b.2.2.2.2.2.1 c.1 c.2.1 c.2.2.1 c.2.2.2.1 c.2.2.2.2.1 c.2.2.2.2.2.1).bind fun p =>
    (if p = true then
      some (decide (b.2.2.2.2.2.2 = c.2.2.2.2.2.2))
    else
      some false).bind fun q =>
    (if q = true then
      (sparselaw15_alike i.1 i.2.1 i.2.2.1 j.1 j.2.1 j.2.2.1).bind fun r =>
      some r
    else
      some false).bind fun s =>
    (if s = true then
      some (decide (i.2.2.2 = j.2.2.2))
    else
      some false).bind fun t =>
    (if t = true then
      (blocks_Check a.1 a.2.1 a.2.2.1 a.2.2.2.1 a.2.2.2.2 k l m).bind fun u =>
      (sparseref15_Check d e f g h k l m).bind fun v =>
      some (decide (u = v))
    else
      some false).bind fun w =>
    (if w = true then
      (sparsekit_Matrix a.1 a.2.1 a.2.2.1 a.2.2.2.1 a.2.2.2.2 d e f g h).bind fun x =>
      some x
    else
      some false).bind fun y =>
    (if y = true then
      (sparselaw15_awake).bind fun z =>
      some z
    else
      some false).bind fun a0 =>
    some a0
end M
