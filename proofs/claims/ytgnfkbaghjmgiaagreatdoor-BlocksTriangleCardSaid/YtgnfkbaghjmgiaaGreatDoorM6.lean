/- Models of functions of the program, printed. -/
import Derived.Test.YtgnfkbaghjmgiaaGreatDoorM5
namespace M
open Sx
set_option linter.unusedVariables false
def sparsemake_Value_j1 (c : Int) (d : Int) : Option (Int) :=
  (sparseref02_FromInt (ws .i64 c 8)).bind fun a =>
  (sparseref02_Scale a.1 a.2.1 a.2.2.1 a.2.2.2 d).bind fun b =>
  (sparseref03_Round b.1 b.2.1 b.2.2.1 b.2.2.2 0).bind fun e =>
  some e
def sparsemake_Value (a : Int) : Option (Int) :=
  (sparsekit_Place a 17).bind fun b =>
  if (wrc (wc .i64 (wqc .u64 (wc .u64 a) 17)) 3) = 0 then
    sparsemake_Value_j1 b (ws .i64 (wrc (wqc .i64 (wc .i64 (wqc .u64 (wc .u64 a) 17)) 3) 13) 6)
  else
    sparsemake_Value_j1 b 0

def sparseref09_Pack_j14 (a : Int) (b : LI) (c : LI) : Option ((LI × LI × Int) ⊕ ((LI × LI))) :=
  some (.inl (b, c, wa .i64 a 1))
def sparseref09_Pack_l13 (d : Int) (f : LI) (g : Int) (h : List (Int × Int × Int)) : LI × LI × Int → Option ((LI × LI × Int) ⊕ ((LI × LI))) := fun (b, c, a) =>
  if a < d then
    (getI f (wa .i64 (wm .i64 g d) a)).bind fun e =>
    if (0 : Int) < e then
      (app b [a]).bind fun i =>
      (getI h (ws .i64 e 1)).bind fun j =>
      (app c [j.2.2]).bind fun k =>
      sparseref09_Pack_j14 a i k
    else
      sparseref09_Pack_j14 a b c
  else
    some (.inr (b, c))
def sparseref09_Pack_l10 (f : Int) (g : Int) (h : LI) (i : List (Int × Int × Int)) : LI × LI × LI × Int → Option ((LI × LI × LI × Int) ⊕ ((LI × LI × LI))) := fun (b, c, d, a) =>
  if a < f then
    (loop (sparseref09_Pack_l13 g h a i) (c, d, 0)).bind fun (e, j) =>
    (app b [(e.length : Int)]).bind fun k =>
    some (.inl (k, e, j, wa .i64 a 1))
  else
    some (.inr (b, c, d))
def sparseref09_Pack_l1 (b : List (Int × Int × Int)) (d : Int) : LI × Int → Option ((LI × Int) ⊕ (LI)) := fun (c, a) =>
  if a < (b.length : Int) then
    (getI b a).bind fun e =>
    (getI b a).bind fun f =>
    (setI c (wa .i64 (wm .i64 e.2.1 d) f.1) (wa .i64 a 1)).bind fun g =>
    some (.inl (g, wa .i64 a 1))
  else
    some (.inr c)
def sparseref09_Pack (a : Int) (b : Int) (c : List (Int × Int × Int)) : Option (Int × Int × LI × LI × LI) :=
  (mkL 0 (wm .i64 a b)).bind fun d =>
  (loop (sparseref09_Pack_l1 c a) (d, 0)).bind fun e =>
  (loop (sparseref09_Pack_l10 b a e c) ([0], [], [], 0)).bind fun (f, g, h) =>
  some (a, b, f, g, h)

def sparsemake_Matrix_l5 (b : LI) (c : Int) (d : Int) : (List (Int × Int × Int)) × Int → Option (((List (Int × Int × Int)) × Int) ⊕ (((List (Int × Int × Int))))) := fun (e, a) =>
  if (((decide ((wa .i64 a 2) < (b.length : Int))) && (decide ((0 : Int) < c))) && (decide ((0 : Int) < d))) = true then
    (getI b a).bind fun f =>
    (sparsekit_Place f c).bind fun g =>
    (getI b (wa .i64 a 1)).bind fun h =>
    (sparsekit_Place h d).bind fun i =>
    (getI b (wa .i64 a 2)).bind fun j =>
    (sparsemake_Value j).bind fun k =>
    (app e [(g, i, k)]).bind fun l =>
    some (.inl (l, wa .i64 a 3))
  else
    some (.inr e)
def sparsemake_Matrix (b : Int) (c : Int) (d : LI) : Option (Int × Int × LI × LI × LI) :=
  (loop (sparsemake_Matrix_l5 d b c) ([], 0)).bind fun e =>
  (sparseref09_Pack b c e).bind fun a =>
  some (a.1, a.2.1, a.2.2.1, a.2.2.2.1, a.2.2.2.2)

def sparseref13_none_l1 (c : Int) : LI × Int → Option ((LI × Int) ⊕ (LI)) := fun (a, b) =>
  if b < c then
    (app a [(-1)]).bind fun d =>
    some (.inl (d, wa .i64 b 1))
  else
    some (.inr a)
def sparseref13_none (a : Int) : Option (LI) :=
  (loop (sparseref13_none_l1 a) ([], 0)).bind fun b =>
  some b

def sparseref13_Search_Try_j12 (a : Int) (b : LI) (c : LI) (d : BL) : Option ((LI × LI × BL × Int) ⊕ ((LI × LI × BL) ⊕ (LI × LI × BL))) :=
  some (.inl (b, c, d, wa .i64 a 1))
def sparseref13_Search_Try_l9 (rec : Int → Int → LI → LI → LI → LI → LI → BL → Int → Option (LI × LI × BL × Bool)) (i : LI) (h : Int) (j : LI) (l : Int) (m : Int) (n : LI) : LI × LI × BL × Int → Option ((LI × LI × BL × Int) ⊕ ((LI × LI × BL) ⊕ (LI × LI × BL))) := fun (b, d, e, f) =>
  (getI i (wa .i64 h 1)).bind fun o =>
  if f < o then
    (getI j f).bind fun c =>
    (getI e c).bind fun p =>
    if p = true then
      sparseref13_Search_Try_j12 f b d e
    else
      (setI e c true).bind fun k =>
      (getI b c).bind fun q =>
      (if q < 0 then
        some (true, b, d, k)
      else
        (getI b c).bind fun r =>
        (rec l m i j n b d k r).bind fun g =>
        some (g.2.2.2, g.1, g.2.1, g.2.2.1)).bind fun a =>
      if a.1 = true then
        (setI a.2.1 c h).bind fun s =>
        (setI a.2.2.1 h c).bind fun t =>
        some (.inr (.inr (s, t, a.2.2.2)))
      else
        sparseref13_Search_Try_j12 f a.2.1 a.2.2.1 a.2.2.2
  else
    some (.inr (.inl (b, d, e)))
def sparseref13_Search_Try_body (rec : Int → Int → LI → LI → LI → LI → LI → BL → Int → Option (LI × LI × BL × Bool)) (c : Int) (d : Int) (a : LI) (e : LI) (f : LI) (g : LI) (h : LI) (i : BL) (b : Int) : Option (LI × LI × BL × Bool) :=
  (getI a b).bind fun j =>
  (loop (sparseref13_Search_Try_l9 rec a b e c d f) (g, h, i, j)).bind (fun o => match o with
    | .inl (k, l, m) =>
      some (k, l, m, false)
    | .inr (n, p, q) =>
      some (n, p, q, true))
def sparseref13_Search_Try : Nat → Int → Int → LI → LI → LI → LI → LI → BL → Int → Option (LI × LI × BL × Bool)
  | 0 => fun _ _ _ _ _ _ _ _ _ => none
  | n + 1 => sparseref13_Search_Try_body (sparseref13_Search_Try n)

def sparseref13_Find_l1 (c : Int) (d : Int) (g : LI) (h : LI) (i : LI) : LI × LI × BL × Int → Option ((LI × LI × BL × Int) ⊕ ((LI × LI × BL))) := fun (e, f, j, a) =>
  if a < c then
    (mkL false d).bind fun k =>
    (sparseref13_Search_Try FUEL d c g h i e f k a).bind fun b =>
    some (.inl (b.1, b.2.1, b.2.2.1, wa .i64 a 1))
  else
    some (.inr (e, f, j))
def sparseref13_Find (a : Int) (b : Int) (c : LI) (d : LI) (e : LI) : Option (LI × LI × BL) :=
  (sparseref13_none a).bind fun f =>
  (sparseref13_none b).bind fun g =>
  (loop (sparseref13_Find_l1 b a c d e) (f, g, [], 0)).bind fun (h, i, j) =>
  some (h, i, j)

def sparseref15_Perfect_l1 (b : LI × LI × BL) : Int → Option ((Int) ⊕ (Unit ⊕ Unit)) := fun a =>
  if a < (b.2.1.length : Int) then
    (getI b.2.1 a).bind fun c =>
    if c < 0 then
      some (.inr (.inr ()))
    else
      some (.inl (wa .i64 a 1))
  else
    some (.inr (.inl ()))
def sparseref15_Perfect (b : Int) (c : Int) (d : LI) (e : LI) (f : LI) : Option (LI × Bool) :=
  (sparseref13_Find b c d e f).bind fun a =>
  (loop (sparseref15_Perfect_l1 a) 0).bind (fun o => match o with
    | .inl () =>
      some (a.2.1, true)
    | .inr () =>
      some ([], false))

def sparsekit_Perm_l5 (c : Int) (b : LI) : BL × Int → Option ((BL × Int) ⊕ (Unit ⊕ Unit)) := fun (d, a) =>
  if a < c then
    (getI b a).bind fun e =>
    (if e < 0 then
      some true
    else
      (getI b a).bind fun f =>
      some (decide (c ≤ f))).bind fun g =>
    (if g = true then
      some true
    else
      (getI b a).bind fun h =>
      (getI d h).bind fun i =>
      some i).bind fun j =>
    if j = true then
      some (.inr (.inr ()))
    else
      (getI b a).bind fun k =>
      (setI d k true).bind fun l =>
      some (.inl (l, wa .i64 a 1))
  else
    some (.inr (.inl ()))
def sparsekit_Perm (b : LI) (a : Int) : Option (Bool) :=
  if (b.length : Int) = a then
    (mkL false a).bind fun c =>
    (loop (sparsekit_Perm_l5 a b) (c, 0)).bind (fun o => match o with
      | .inl () =>
        some true
      | .inr () =>
        some false)
  else
    some false

def sparselaw15_BlocksTriangle (e : Int) (d : LI) : Option (Bool) :=
  if (90 : Int) < (d.length : Int) then
    (sparselaw15_awake).bind fun f =>
    some f
  else
    (sparsekit_Place e 8).bind fun c =>
    (sparsemake_Matrix c c d).bind fun a =>
    (blocks_Triangular a.1 a.2.1 a.2.2.1 a.2.2.2.1 a.2.2.2.2).bind fun b =>
    (sparseref15_Perfect a.1 a.2.1 a.2.2.1 a.2.2.2.1 a.2.2.2.2).bind fun g =>
    if g.2 = true then
      (if b.2.2.2 = 0 then
        (sparsekit_Perm b.1 c).bind fun h =>
        some h
      else
        some false).bind fun i =>
      (if i = true then
        (sparsekit_Perm b.2.1 c).bind fun j =>
        some j
      else
        some false).bind fun k =>
      (if k = true then
        (blocks_Check a.1 a.2.1 a.2.2.1 a.2.2.2.1 a.2.2.2.2 b.1 b.2.1 b.2.2.1).bind fun l =>
        some (decide (l = 0))
      else
        some false).bind fun m =>
      (if m = true then
        (sparselaw15_awake).bind fun n =>
        some n
      else
        some false).bind fun o =>
      some o
    else
      (if ((decide (b.2.2.2 = 9)) && (decide ((b.1.length : Int) = 0))) = true then
        (sparselaw15_awake).bind fun p =>
        some p
      else
        some false).bind fun q =>
      some q
end M
