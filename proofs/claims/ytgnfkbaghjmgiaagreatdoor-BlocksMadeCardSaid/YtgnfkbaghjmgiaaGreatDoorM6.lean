/- Models of functions of the program, printed. -/
import Derived.Test.YtgnfkbaghjmgiaaGreatDoorM5
namespace M
open Sx
set_option linter.unusedVariables false
def sparsemake_Value_j1 (c : Int) (d : Int) : Option (Int) :=
  (sparseref02_FromInt (ws .i64 c 8)).bind fun a =>
  (sparseref02_Scale a.1 a.2.1 a.2.2.1 a.2.2.2 d).bind fun b =>
  (sparseref03_Round b.1 b.2.1 b.2.2.1 b.2.2.2 0).bind fun e =>
  some e
def sparsemake_Value (a : Int) : Option (Int) :=
  (sparsekit_Place a 17).bind fun b =>
  if (wrc (wc .i64 (wqc .u64 (wc .u64 a) 17)) 3) = 0 then
    sparsemake_Value_j1 b (ws .i64 (wrc (wqc .i64 (wc .i64 (wqc .u64 (wc .u64 a) 17)) 3) 13) 6)
  else
    sparsemake_Value_j1 b 0

def sparseref09_Pack_j14 (a : Int) (b : LI) (c : LI) : Option ((LI × LI × Int) ⊕ ((LI × LI))) :=
  some (.inl (b, c, wa .i64 a 1))
def sparseref09_Pack_l13 (d : Int) (f : LI) (g : Int) (h : List (Int × Int × Int)) : LI × LI × Int → Option ((LI × LI × Int) ⊕ ((LI × LI))) := fun (b, c, a) =>
  if a < d then
    (getI f (wa .i64 (wm .i64 g d) a)).bind fun e =>
    if (0 : Int) < e then
      (app b [a]).bind fun i =>
      (getI h (ws .i64 e 1)).bind fun j =>
      (app c [j.2.2]).bind fun k =>
      sparseref09_Pack_j14 a i k
    else
      sparseref09_Pack_j14 a b c
  else
    some (.inr (b, c))
def sparseref09_Pack_l10 (f : Int) (g : Int) (h : LI) (i : List (Int × Int × Int)) : LI × LI × LI × Int → Option ((LI × LI × LI × Int) ⊕ ((LI × LI × LI))) := fun (b, c, d, a) =>
  if a < f then
    (loop (sparseref09_Pack_l13 g h a i) (c, d, 0)).bind fun (e, j) =>
    (app b [(e.length : Int)]).bind fun k =>
    some (.inl (k, e, j, wa .i64 a 1))
  else
    some (.inr (b, c, d))
def sparseref09_Pack_l1 (b : List (Int × Int × Int)) (d : Int) : LI × Int → Option ((LI × Int) ⊕ (LI)) := fun (c, a) =>
  if a < (b.length : Int) then
    (getI b a).bind fun e =>
    (getI b a).bind fun f =>
    (setI c (wa .i64 (wm .i64 e.2.1 d) f.1) (wa .i64 a 1)).bind fun g =>
    some (.inl (g, wa .i64 a 1))
  else
    some (.inr c)
def sparseref09_Pack (a : Int) (b : Int) (c : List (Int × Int × Int)) : Option (Int × Int × LI × LI × LI) :=
  (mkL 0 (wm .i64 a b)).bind fun d =>
  (loop (sparseref09_Pack_l1 c a) (d, 0)).bind fun e =>
  (loop (sparseref09_Pack_l10 b a e c) ([0], [], [], 0)).bind fun (f, g, h) =>
  some (a, b, f, g, h)

def sparsemake_Matrix_l5 (b : LI) (c : Int) (d : Int) : (List (Int × Int × Int)) × Int → Option (((List (Int × Int × Int)) × Int) ⊕ (((List (Int × Int × Int))))) := fun (e, a) =>
  if (((decide ((wa .i64 a 2) < (b.length : Int))) && (decide ((0 : Int) < c))) && (decide ((0 : Int) < d))) = true then
    (getI b a).bind fun f =>
    (sparsekit_Place f c).bind fun g =>
    (getI b (wa .i64 a 1)).bind fun h =>
    (sparsekit_Place h d).bind fun i =>
    (getI b (wa .i64 a 2)).bind fun j =>
    (sparsemake_Value j).bind fun k =>
    (app e [(g, i, k)]).bind fun l =>
    some (.inl (l, wa .i64 a 3))
  else
    some (.inr e)
def sparsemake_Matrix (b : Int) (c : Int) (d : LI) : Option (Int × Int × LI × LI × LI) :=
  (loop (sparsemake_Matrix_l5 d b c) ([], 0)).bind fun e =>
  (sparseref09_Pack b c e).bind fun a =>
  some (a.1, a.2.1, a.2.2.1, a.2.2.2.1, a.2.2.2.2)

def sparsemake_At (a : LI) (b : Int) : Option (Int) :=
  if b < (a.length : Int) then
    (getI a b).bind fun c =>
    some c
  else
    some 0

def sparsemake_Square_l4 (b : LI) (c : Int) : (List (Int × Int × Int)) × Int → Option (((List (Int × Int × Int)) × Int) ⊕ (((List (Int × Int × Int))))) := fun (d, a) =>
  if ((decide ((wa .i64 a 2) < (b.length : Int))) && (decide ((0 : Int) < c))) = true then
    (getI b a).bind fun e =>
    (sparsekit_Place e c).bind fun f =>
    (getI b (wa .i64 a 1)).bind fun g =>
    (sparsekit_Place g c).bind fun h =>
    (getI b (wa .i64 a 2)).bind fun i =>
    (sparsemake_Value i).bind fun j =>
    (app d [(f, h, j)]).bind fun k =>
    some (.inl (k, wa .i64 a 3))
  else
    some (.inr d)
def sparsemake_Square_l1 (c : Int) (d : LI) : (List (Int × Int × Int)) × Int → Option (((List (Int × Int × Int)) × Int) ⊕ (((List (Int × Int × Int))))) := fun (b, a) =>
  if a < c then
    (sparsemake_At d a).bind fun e =>
    (sparsemake_Value (wa .i64 e 1)).bind fun f =>
    (app b [(a, a, f)]).bind fun g =>
    some (.inl (g, wa .i64 a 1))
  else
    some (.inr b)
def sparsemake_Square (a : Int) (c : LI) : Option (Int × Int × LI × LI × LI) :=
  (loop (sparsemake_Square_l1 a c) ([], 0)).bind fun d =>
  (loop (sparsemake_Square_l4 c a) (d, a)).bind fun e =>
  (sparseref09_Pack a a e).bind fun b =>
  some (b.1, b.2.1, b.2.2.1, b.2.2.2.1, b.2.2.2.2)

def sparseref03_IsFinite (a : Int) : Option (Bool) :=
  some (!(decide ((wand .u64 (wsrc .u64 a 52) 2047) = 2047)))

def sparseref06_Finite_l1 (b : LI) : Int → Option ((Int) ⊕ (Unit ⊕ Unit)) := fun a =>
  if a < (b.length : Int) then
    (getI b a).bind fun c =>
    (sparseref03_IsFinite c).bind fun d =>
    if d = true then
      some (.inl (wa .i64 a 1))
    else
      some (.inr (.inr ()))
  else
    some (.inr (.inl ()))
def sparseref06_Finite (a : LI) : Option (Bool) :=
  (loop (sparseref06_Finite_l1 a) 0).bind (fun o => match o with
    | .inl () =>
      some true
    | .inr () =>
      some false)

def sparseref09_Check_l76 (c : LI) (d : Int) (b : LI) (e : Int) : Int → Option ((Int) ⊕ (Unit ⊕ Unit)) := fun a =>
  (getI c (wa .i64 d 1)).bind fun f =>
  if a < f then
    (getI b a).bind fun g =>
    (if g < 0 then
      some true
    else
      (getI b a).bind fun h =>
      some (decide (e ≤ h))).bind fun i =>
    (if i = true then
      some true
    else
      (getI c d).bind fun j =>
      (if j < a then
        (getI b a).bind fun k =>
        (getI b (ws .i64 a 1)).bind fun l =>
        some (decide (k ≤ l))
      else
        some false).bind fun m =>
      some m).bind fun n =>
    if n = true then
      some (.inr (.inr ()))
    else
      some (.inl (wa .i64 a 1))
  else
    some (.inr (.inl ()))
def sparseref09_Check_l59 (c : Int) (b : LI) (d : LI) (e : Int) : Int → Option ((Int) ⊕ (Unit ⊕ Unit)) := fun a =>
  if a < c then
    (getI b a).bind fun f =>
    (loop (sparseref09_Check_l76 b a d e) f).bind (fun o => match o with
      | .inl () =>
        some (.inl (wa .i64 a 1))
      | .inr () =>
        some (.inr (.inr ())))
  else
    some (.inr (.inl ()))
def sparseref09_Check_l8 (c : Int) (b : LI) : Int → Option ((Int) ⊕ (Unit ⊕ Unit)) := fun a =>
  if a < c then
    (getI b a).bind fun d =>
    (getI b (wa .i64 a 1)).bind fun e =>
    if e < d then
      some (.inr (.inr ()))
    else
      some (.inl (wa .i64 a 1))
  else
    some (.inr (.inl ()))
def sparseref09_Check (d : Int) (a : Int) (b : LI) (c : LI) (e : LI) : Option (Int) :=
  if (((((decide (d < 0)) || (decide ((200 : Int) < d))) || (decide (a < 0))) || (decide ((200 : Int) < a))) || (decide ((10000 : Int) < (c.length : Int)))) = true then
    some 6
  else
    (if ((!(decide ((e.length : Int) = (c.length : Int)))) || (!(decide ((b.length : Int) = (wa .i64 a 1))))) = true then
      some true
    else
      (getI b 0).bind fun f =>
      some (!(decide (f = 0)))).bind fun g =>
    (if g = true then
      some true
    else
      (getI b a).bind fun h =>
      some (!(decide (h = (c.length : Int))))).bind fun i =>
    if i = true then
      some 1
    else
      (loop (sparseref09_Check_l8 a b) 0).bind (fun o => match o with
        | .inl () =>
          (loop (sparseref09_Check_l59 a b c d) 0).bind (fun o => match o with
            | .inl () =>
              (sparseref06_Finite e).bind fun j =>
              if j = true then
                some 0
              else
                some 4
            | .inr () =>
              some 1)
        | .inr () =>
          some 1)

def sparseref09_Entries_l4 (d : LI) (b : Int) (e : LI) (f : LI) : (List (Int × Int × Int)) × Int → Option (((List (Int × Int × Int)) × Int) ⊕ (((List (Int × Int × Int))))) := fun (c, a) =>
  (getI d (wa .i64 b 1)).bind fun g =>
  if a < g then
    (getI e a).bind fun h =>
    (getI f a).bind fun i =>
    (app c [(h, b, i)]).bind fun j =>
    some (.inl (j, wa .i64 a 1))
  else
    some (.inr c)
def sparseref09_Entries_l3 (d : Int) (b : LI) (e : LI) (f : LI) : (List (Int × Int × Int)) × Int → Option (((List (Int × Int × Int)) × Int) ⊕ (((List (Int × Int × Int))))) := fun (c, a) =>
  if a < d then
    (getI b a).bind fun g =>
    (loop (sparseref09_Entries_l4 b a e f) (c, g)).bind fun h =>
    some (.inl (h, wa .i64 a 1))
  else
    some (.inr c)
def sparseref09_Entries (e : Int) (a : Int) (b : LI) (c : LI) (d : LI) : Option ((List (Int × Int × Int))) :=
  (sparseref09_Check e a b c d).bind fun f =>
  if f = 0 then
    (loop (sparseref09_Entries_l3 a b c d) ([], 0)).bind fun g =>
    some g
  else
    some []

def sparseref09_Transpose_l1 : (List (Int × Int × Int)) × Int → Option (((List (Int × Int × Int)) × Int) ⊕ (((List (Int × Int × Int))))) := fun (b, a) =>
  if a < (b.length : Int) then
    (getI b a).bind fun f =>
    (getI b a).bind fun g =>
    (getI b a).bind fun i =>
    (getI b a).bind fun d =>
    (setI b a (f.2.1, d.2.1, d.2.2)).bind fun c =>
    (getI c a).bind fun j =>
    (getI c a).bind fun e =>
    (setI c a (e.1, g.1, e.2.2)).bind fun h =>
    some (.inl (h, wa .i64 a 1))
  else
    some (.inr b)
def sparseref09_Transpose (b : Int) (c : Int) (d : LI) (e : LI) (f : LI) : Option (Int × Int × LI × LI × LI × Int) :=
  (sparseref09_Check b c d e f).bind fun g =>
  if g = 0 then
    (sparseref09_Entries b c d e f).bind fun h =>
    (loop (sparseref09_Transpose_l1) (h, 0)).bind fun i =>
    (sparseref09_Pack c b i).bind fun a =>
    some (a.1, a.2.1, a.2.2.1, a.2.2.2.1, a.2.2.2.2, 0)
  else
    some (0, 0, [], [], [], g)

def sparseref13_none_l1 (c : Int) : LI × Int → Option ((LI × Int) ⊕ (LI)) := fun (a, b) =>
  if b < c then
    (app a [(-1)]).bind fun d =>
    some (.inl (d, wa .i64 b 1))
  else
    some (.inr a)
def sparseref13_none (a : Int) : Option (LI) :=
  (loop (sparseref13_none_l1 a) ([], 0)).bind fun b =>
  some b

def sparseref13_Search_Try_j12 (a : Int) (b : LI) (c : LI) (d : BL) : Option ((LI × LI × BL × Int) ⊕ ((LI × LI × BL) ⊕ (LI × LI × BL))) :=
  some (.inl (b, c, d, wa .i64 a 1))
def sparseref13_Search_Try_l9 (rec : Int → Int → LI → LI → LI → LI → LI → BL → Int → Option (LI × LI × BL × Bool)) (i : LI) (h : Int) (j : LI) (l : Int) (m : Int) (n : LI) : LI × LI × BL × Int → Option ((LI × LI × BL × Int) ⊕ ((LI × LI × BL) ⊕ (LI × LI × BL))) := fun (b, d, e, f) =>
  (getI i (wa .i64 h 1)).bind fun o =>
  if f < o then
    (getI j f).bind fun c =>
    (getI e c).bind fun p =>
    if p = true then
      sparseref13_Search_Try_j12 f b d e
    else
      (setI e c true).bind fun k =>
      (getI b c).bind fun q =>
      (if q < 0 then
        some (true, b, d, k)
      else
        (getI b c).bind fun r =>
        (rec l m i j n b d k r).bind fun g =>
        some (g.2.2.2, g.1, g.2.1, g.2.2.1)).bind fun a =>
      if a.1 = true then
        (setI a.2.1 c h).bind fun s =>
        (setI a.2.2.1 h c).bind fun t =>
        some (.inr (.inr (s, t, a.2.2.2)))
      else
        sparseref13_Search_Try_j12 f a.2.1 a.2.2.1 a.2.2.2
  else
    some (.inr (.inl (b, d, e)))
def sparseref13_Search_Try_body (rec : Int → Int → LI → LI → LI → LI → LI → BL → Int → Option (LI × LI × BL × Bool)) (c : Int) (d : Int) (a : LI) (e : LI) (f : LI) (g : LI) (h : LI) (i : BL) (b : Int) : Option (LI × LI × BL × Bool) :=
  (getI a b).bind fun j =>
  (loop (sparseref13_Search_Try_l9 rec a b e c d f) (g, h, i, j)).bind (fun o => match o with
    | .inl (k, l, m) =>
      some (k, l, m, false)
    | .inr (n, p, q) =>
      some (n, p, q, true))
def sparseref13_Search_Try : Nat → Int → Int → LI → LI → LI → LI → LI → BL → Int → Option (LI × LI × BL × Bool)
  | 0 => fun _ _ _ _ _ _ _ _ _ => none
  | n + 1 => sparseref13_Search_Try_body (sparseref13_Search_Try n)

def sparseref13_Find_l1 (c : Int) (d : Int) (g : LI) (h : LI) (i : LI) : LI × LI × BL × Int → Option ((LI × LI × BL × Int) ⊕ ((LI × LI × BL))) := fun (e, f, j, a) =>
  if a < c then
    (mkL false d).bind fun k =>
    (sparseref13_Search_Try FUEL d c g h i e f k a).bind fun b =>
    some (.inl (b.1, b.2.1, b.2.2.1, wa .i64 a 1))
  else
    some (.inr (e, f, j))
def sparseref13_Find (a : Int) (b : Int) (c : LI) (d : LI) (e : LI) : Option (LI × LI × BL) :=
  (sparseref13_none a).bind fun f =>
  (sparseref13_none b).bind fun g =>
  (loop (sparseref13_Find_l1 b a c d e) (f, g, [], 0)).bind fun (h, i, j) =>
  some (h, i, j)

def sparseref13_Reach_j26 (a : BL) (b : Int) (c : BL) (d : LI) : Option ((BL × BL × LI × Int) ⊕ ((BL × BL × LI))) :=
  some (.inl (a, c, d, wa .i64 b 1))
def sparseref13_Reach_l24 (h : LI) (i : Int) (j : LI) (k : LI) : BL × BL × LI × Int → Option ((BL × BL × LI × Int) ⊕ ((BL × BL × LI))) := fun (e, a, d, b) =>
  (getI h (wa .i64 i 1)).bind fun l =>
  if b < l then
    (getI j b).bind fun f =>
    (setI e f true).bind fun g =>
    (getI k f).bind fun c =>
    (if (0 : Int) ≤ c then
      (getI a c).bind fun m =>
      some (!(m))
    else
      some false).bind fun n =>
    if n = true then
      (setI a c true).bind fun o =>
      (app d [c]).bind fun p =>
      sparseref13_Reach_j26 g b o p
    else
      sparseref13_Reach_j26 g b a d
  else
    some (.inr (e, a, d))
def sparseref13_Reach_l19 (b : LI) (f : LI) (g : LI) : BL × BL × LI → Option ((BL × BL × LI) ⊕ ((BL × BL))) := fun (c, d, a) =>
  if (0 : Int) < (a.length : Int) then
    (getI a (ws .i64 (a.length : Int) 1)).bind fun e =>
    (sli a 0 (ws .i64 (a.length : Int) 1)).bind fun h =>
    (getI b e).bind fun i =>
    (loop (sparseref13_Reach_l24 b e f g) (c, d, h, i)).bind fun (j, k, l) =>
    some (.inl (j, k, l))
  else
    some (.inr (c, d))
def sparseref13_Reach_j27 (a : Int) (b : BL) (c : LI) : Option ((BL × LI × Int) ⊕ ((BL × LI))) :=
  some (.inl (b, c, wa .i64 a 1))
def sparseref13_Reach_l4 (d : Int) (e : LI) : BL × LI × Int → Option ((BL × LI × Int) ⊕ ((BL × LI))) := fun (b, c, a) =>
  if a < d then
    (getI e a).bind fun f =>
    if f < 0 then
      (setI b a true).bind fun g =>
      (app c [a]).bind fun h =>
      sparseref13_Reach_j27 a g h
    else
      sparseref13_Reach_j27 a b c
  else
    some (.inr (b, c))
def sparseref13_Reach (b : Int) (a : Int) (c : LI) (d : LI) (m : LI) (e : LI) (f : LI) (n : BL) : Option (BL × BL) :=
  (mkL false b).bind fun g =>
  (mkL false a).bind fun h =>
  (loop (sparseref13_Reach_l4 a f) (h, [], 0)).bind fun (i, j) =>
  (loop (sparseref13_Reach_l19 c d e) (g, i, j)).bind fun (k, l) =>
  some (k, l)
end M
