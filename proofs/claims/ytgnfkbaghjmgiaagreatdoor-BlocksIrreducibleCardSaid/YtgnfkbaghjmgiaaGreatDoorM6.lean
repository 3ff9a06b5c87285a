/- Models of functions of the program, printed. -/
import Derived.Test.YtgnfkbaghjmgiaaGreatDoorM5
namespace M
open Sx
set_option linter.unusedVariables false
def sparseref03_Round (c : Bool) (d : Bool) (e : LI) (f : Int) (g : Int) : Option (Int) :=
  (sparseref02_Norm c d e f).bind fun a =>
  if a.1 = true then
    some 9221120237041090560
  else
    (sparseref01_Sign a.2.1 a.2.2.1).bind fun h =>
    if h = 0 then
      some 0
    else
      (sparseref01_Abs a.2.1 a.2.2.1).bind fun b =>
      (sparseref03_rounded a.2.1 b.1 b.2 a.2.2.2 false g).bind fun i =>
      some i

def sparsemake_Value_j1 (c : Int) (d : Int) : Option (Int) :=
  (sparseref02_FromInt (ws .i64 c 8)).bind fun a =>
  (sparseref02_Scale a.1 a.2.1 a.2.2.1 a.2.2.2 d).bind fun b =>
  (sparseref03_Round b.1 b.2.1 b.2.2.1 b.2.2.2 0).bind fun e =>
  some e
def sparsemake_Value (a : Int) : Option (Int) :=
  (sparsekit_Place a 17).bind fun b =>
  if (wrc (wc .i64 (wqc .u64 (wc .u64 a) 17)) 3) = 0 then
    sparsemake_Value_j1 b (ws .i64 (wrc (wqc .i64 (wc .i64 (wqc .u64 (wc .u64 a) 17)) 3) 13) 6)
  else
    sparsemake_Value_j1 b 0

def sparseref09_Pack_j14 (a : Int) (b : LI) (c : LI) : Option ((LI × LI × Int) ⊕ ((LI × LI))) :=
  some (.inl (b, c, wa .i64 a 1))
def sparseref09_Pack_l13 (d : Int) (f : LI) (g : Int) (h : List (Int × Int × Int)) : LI × LI × Int → Option ((LI × LI × Int) ⊕ ((LI × LI))) := fun (b, c, a) =>
  if a < d then
    (getI f (wa .i64 (wm .i64 g d) a)).bind fun e =>
    if (0 : Int) < e then
      (app b [a]).bind fun i =>
      (getI h (ws .i64 e 1)).bind fun j =>
      (app c [j.2.2]).bind fun k =>
      sparseref09_Pack_j14 a i k
    else
      sparseref09_Pack_j14 a b c
  else
    some (.inr (b, c))
def sparseref09_Pack_l10 (f : Int) (g : Int) (h : LI) (i : List (Int × Int × Int)) : LI × LI × LI × Int → Option ((LI × LI × LI × Int) ⊕ ((LI × LI × LI))) := fun (b, c, d, a) =>
  if a < f then
    (loop (sparseref09_Pack_l13 g h a i) (c, d, 0)).bind fun (e, j) =>
    (app b [(e.length : Int)]).bind fun k =>
    some (.inl (k, e, j, wa .i64 a 1))
  else
    some (.inr (b, c, d))
def sparseref09_Pack_l1 (b : List (Int × Int × Int)) (d : Int) : LI × Int → Option ((LI × Int) ⊕ (LI)) := fun (c, a) =>
  if a < (b.length : Int) then
    (getI b a).bind fun e =>
    (getI b a).bind fun f =>
    (setI c (wa .i64 (wm .i64 e.2.1 d) f.1) (wa .i64 a 1)).bind fun g =>
    some (.inl (g, wa .i64 a 1))
  else
    some (.inr c)
def sparseref09_Pack (a : Int) (b : Int) (c : List (Int × Int × Int)) : Option (Int × Int × LI × LI × LI) :=
  (mkL 0 (wm .i64 a b)).bind fun d =>
  (loop (sparseref09_Pack_l1 c a) (d, 0)).bind fun e =>
  (loop (sparseref09_Pack_l10 b a e c) ([0], [], [], 0)).bind fun (f, g, h) =>
  some (a, b, f, g, h)

def sparsemake_Square_l4 (b : LI) (c : Int) : (List (Int × Int × Int)) × Int → Option (((List (Int × Int × Int)) × Int) ⊕ (((List (Int × Int × Int))))) := fun (d, a) =>
  if ((decide ((wa .i64 a 2) < (b.length : Int))) && (decide ((0 : Int) < c))) = true then
    (getI b a).bind fun e =>
    (sparsekit_Place e c).bind fun f =>
    (getI b (wa .i64 a 1)).bind fun g =>
    (sparsekit_Place g c).bind fun h =>
    (getI b (wa .i64 a 2)).bind fun i =>
    (sparsemake_Value i).bind fun j =>
    (app d [(f, h, j)]).bind fun k =>
    some (.inl (k, wa .i64 a 3))
  else
    some (.inr d)
def sparsemake_Square_l1 (c : Int) (d : LI) : (List (Int × Int × Int)) × Int → Option (((List (Int × Int × Int)) × Int) ⊕ (((List (Int × Int × Int))))) := fun (b, a) =>
  if a < c then
    (sparsemake_At d a).bind fun e =>
    (sparsemake_Value (wa .i64 e 1)).bind fun f =>
    (app b [(a, a, f)]).bind fun g =>
    some (.inl (g, wa .i64 a 1))
  else
    some (.inr b)
def sparsemake_Square (a : Int) (c : LI) : Option (Int × Int × LI × LI × LI) :=
  (loop (sparsemake_Square_l1 a c) ([], 0)).bind fun d =>
  (loop (sparsemake_Square_l4 c a) (d, a)).bind fun e =>
  (sparseref09_Pack a a e).bind fun b =>
  some (b.1, b.2.1, b.2.2.1, b.2.2.2.1, b.2.2.2.2)

def sparsekit_Perm_l5 (c : Int) (b : LI) : BL × Int → Option ((BL × Int) ⊕ (Unit ⊕ Unit)) := fun (d, a) =>
  if a < c then
    (getI b a).bind fun e =>
    (if e < 0 then
      some true
    else
      (getI b a).bind fun f =>
      some (decide (c ≤ f))).bind fun g =>
    (if g = true then
      some true
    else
      (getI b a).bind fun h =>
      (getI d h).bind fun i =>
      some i).bind fun j =>
    if j = true then
      some (.inr (.inr ()))
    else
      (getI b a).bind fun k =>
      (setI d k true).bind fun l =>
      some (.inl (l, wa .i64 a 1))
  else
    some (.inr (.inl ()))
def sparsekit_Perm (b : LI) (a : Int) : Option (Bool) :=
  if (b.length : Int) = a then
    (mkL false a).bind fun c =>
    (loop (sparsekit_Perm_l5 a b) (c, 0)).bind (fun o => match o with
      | .inl () =>
        some true
      | .inr () =>
        some false)
  else
    some false

def sparsekit_Ascending_l1 (b : LI) : Int → Option ((Int) ⊕ (Unit ⊕ Unit)) := fun a =>
  if a < (b.length : Int) then
    (getI b a).bind fun c =>
    (getI b (ws .i64 a 1)).bind fun d =>
    if c ≤ d then
      some (.inr (.inr ()))
    else
      some (.inl (wa .i64 a 1))
  else
    some (.inr (.inl ()))
def sparsekit_Ascending (a : LI) : Option (Bool) :=
  (loop (sparsekit_Ascending_l1 a) 1).bind (fun o => match o with
    | .inl () =>
      some true
    | .inr () =>
      some false)

def sparseref09_Stored_l4 (b : LI) (c : Int) (d : LI) (e : Int) : Int → Option ((Int) ⊕ (Unit ⊕ Unit)) := fun a =>
  (getI b (wa .i64 c 1)).bind fun f =>
  if a < f then
    (getI d a).bind fun g =>
    if g = e then
      some (.inr (.inr ()))
    else
      some (.inl (wa .i64 a 1))
  else
    some (.inr (.inl ()))
def sparseref09_Stored (d : Int) (e : Int) (c : LI) (f : LI) (h : LI) (b : Int) (a : Int) : Option (Bool) :=
  if ((((decide (b < 0)) || (decide (d ≤ b))) || (decide (a < 0))) || (decide (e ≤ a))) = true then
    some false
  else
    (getI c a).bind fun g =>
    (loop (sparseref09_Stored_l4 c a f b) g).bind (fun o => match o with
      | .inl () =>
        some false
      | .inr () =>
        some true)

def sparseref13_Chosen_j4 (a : Int) (b : LI) : Option ((LI × Int) ⊕ (LI)) :=
  some (.inl (b, wa .i64 a 1))
def sparseref13_Chosen_l3 (c : BL) (d : Bool) : LI × Int → Option ((LI × Int) ⊕ (LI)) := fun (b, a) =>
  if a < (c.length : Int) then
    (getI c a).bind fun e =>
    if (e == d) = true then
      (app b [a]).bind fun f =>
      sparseref13_Chosen_j4 a f
    else
      sparseref13_Chosen_j4 a b
  else
    some (.inr b)
def sparseref13_Chosen (a : BL) (b : Bool) : Option (LI) :=
  (loop (sparseref13_Chosen_l3 a b) ([], 0)).bind fun c =>
  some c

def sparselaw15_BlocksIrreducible_j311 (a : Int) (b : Int) (c : BL) : Option ((Int × BL × Int) ⊕ ((Int × BL))) :=
  some (.inl (b, c, wa .i64 a 1))
def sparselaw15_BlocksIrreducible_l319 (c : LI × LI × LI × Int) (e : Int) (f : Int) (a : Int × Int × LI × LI × LI) : BL × Int → Option ((BL × Int) ⊕ (BL)) := fun (d, b) =>
  (getI c.2.2.1 (wa .i64 e 1)).bind fun g =>
  if b < g then
    (getI d b).bind fun h =>
    (if h = true then
      some true
    else
      (getI c.1 b).bind fun i =>
      (getI c.2.1 f).bind fun j =>
      (sparseref09_Stored a.1 a.2.1 a.2.2.1 a.2.2.2.1 a.2.2.2.2 i j).bind fun k =>
      some k).bind fun l =>
    (setI d b l).bind fun m =>
    some (.inl (m, wa .i64 b 1))
  else
    some (.inr d)
def sparselaw15_BlocksIrreducible_l286 (b : LI × LI × LI × Int) (c : Int) (f : BL) (g : Int × Int × LI × LI × LI) : Int × BL × Int → Option ((Int × BL × Int) ⊕ ((Int × BL))) := fun (d, e, a) =>
  (getI b.2.2.1 (wa .i64 c 1)).bind fun h =>
  if a < h then
    (if (f.length : Int) ≤ a then
      some true
    else
      (getI f a).bind fun i =>
      some (!(i))).bind fun j =>
    if j = true then
      sparselaw15_BlocksIrreducible_j311 a d e
    else
      (getI b.2.2.1 c).bind fun k =>
      (loop (sparselaw15_BlocksIrreducible_l319 b c a g) (e, k)).bind fun l =>
      sparselaw15_BlocksIrreducible_j311 a (wa .i64 d 1) l
  else
    some (.inr (d, e))
def sparselaw15_BlocksIrreducible_l217 (b : LI × LI × LI × Int) (d : Int) (e : BL) (f : Int × Int × LI × LI × LI) : Int → Option ((Int) ⊕ (Unit ⊕ Unit)) := fun a =>
  if (wa .i64 a 1) < (b.2.2.1.length : Int) then
    (getI b.2.2.1 (wa .i64 a 1)).bind fun g =>
    (getI b.2.2.1 a).bind fun h =>
    (mkL false d).bind fun i =>
    (getI b.2.2.1 a).bind fun j =>
    (loop (sparselaw15_BlocksIrreducible_l286 b a e f) (0, i, j)).bind fun (c, k) =>
    (if ((decide ((0 : Int) < c)) && (decide (c < (ws .i64 g h)))) = true then
      (sparseref13_Chosen k true).bind fun l =>
      some (decide ((l.length : Int) ≤ c))
    else
      some false).bind fun m =>
    if m = true then
      some (.inr (.inr ()))
    else
      some (.inl (wa .i64 a 1))
  else
    some (.inr (.inl ()))
def sparselaw15_BlocksIrreducible (e : Int) (d : LI) (f : BL) : Option (Bool) :=
  if (90 : Int) < (d.length : Int) then
    (sparselaw15_awake).bind fun g =>
    some g
  else
    (sparsekit_Place e 8).bind fun c =>
    (sparsemake_Square c d).bind fun b =>
    (blocks_Triangular b.1 b.2.1 b.2.2.1 b.2.2.2.1 b.2.2.2.2).bind fun a =>
    (if a.2.2.2 = 0 then
      (sparsekit_Perm a.1 c).bind fun h =>
      some (!(h))
    else
      some true).bind fun i =>
    (if i = true then
      some true
    else
      (sparsekit_Perm a.2.1 c).bind fun j =>
      some (!(j))).bind fun k =>
    (if (k || (decide ((a.2.2.1.length : Int) = 0))) = true then
      some true
    else
      (getI a.2.2.1 (ws .i64 (a.2.2.1.length : Int) 1)).bind fun l =>
      some (!(decide (l = c)))).bind fun m =>
    (if m = true then
      some true
    else
      (getI a.2.2.1 0).bind fun n =>
      some (!(decide (n = 0)))).bind fun p =>
    (if p = true then
      some true
    else
      (sparsekit_Ascending a.2.2.1).bind fun q =>
      some (!(q))).bind fun r =>
    if r = true then
      some false
    else
      (loop (sparselaw15_BlocksIrreducible_l217 a c f b) 0).bind (fun o => match o with
        | .inl () =>
          (sparselaw15_awake).bind fun s =>
          some s
        | .inr () =>
          some false)
end M
