/- Models of functions of the program, printed. -/
import Derived.Test.YtgnfkbaghjmgiaaGreatDoorM5
namespace M
open Sx
set_option linter.unusedVariables false
def sparsemake_Value_j1 (c : Int) (d : Int) : Option (Int) :=
  (sparseref02_FromInt (ws .i64 c 8)).bind fun a =>
  (sparseref02_Scale a.1 a.2.1 a.2.2.1 a.2.2.2 d).bind fun b =>
  (sparseref03_Round b.1 b.2.1 b.2.2.1 b.2.2.2 0).bind fun e =>
  some e
def sparsemake_Value (a : Int) : Option (Int) :=
  (sparsekit_Place a 17).bind fun b =>
  if (wrc (wc .i64 (wqc .u64 (wc .u64 a) 17)) 3) = 0 then
    sparsemake_Value_j1 b (ws .i64 (wrc (wqc .i64 (wc .i64 (wqc .u64 (wc .u64 a) 17)) 3) 13) 6)
  else
    sparsemake_Value_j1 b 0

def sparseref09_Pack_j14 (a : Int) (b : LI) (c : LI) : Option ((LI × LI × Int) ⊕ ((LI × LI))) :=
  some (.inl (b, c, wa .i64 a 1))
def sparseref09_Pack_l13 (d : Int) (f : LI) (g : Int) (h : List (Int × Int × Int)) : LI × LI × Int → Option ((LI × LI × Int) ⊕ ((LI × LI))) := fun (b, c, a) =>
  if a < d then
    (getI f (wa .i64 (wm .i64 g d) a)).bind fun e =>
    if (0 : Int) < e then
      (app b [a]).bind fun i =>
      (getI h (ws .i64 e 1)).bind fun j =>
      (app c [j.2.2]).bind fun k =>
      sparseref09_Pack_j14 a i k
    else
      sparseref09_Pack_j14 a b c
  else
    some (.inr (b, c))
def sparseref09_Pack_l10 (f : Int) (g : Int) (h : LI) (i : List (Int × Int × Int)) : LI × LI × LI × Int → Option ((LI × LI × LI × Int) ⊕ ((LI × LI × LI))) := fun (b, c, d, a) =>
  if a < f then
    (loop (sparseref09_Pack_l13 g h a i) (c, d, 0)).bind fun (e, j) =>
    (app b [(e.length : Int)]).bind fun k =>
    some (.inl (k, e, j, wa .i64 a 1))
  else
    some (.inr (b, c, d))
def sparseref09_Pack_l1 (b : List (Int × Int × Int)) (d : Int) : LI × Int → Option ((LI × Int) ⊕ (LI)) := fun (c, a) =>
  if a < (b.length : Int) then
    (getI b a).bind fun e =>
    (getI b a).bind fun f =>
    (setI c (wa .i64 (wm .i64 e.2.1 d) f.1) (wa .i64 a 1)).bind fun g =>
    some (.inl (g, wa .i64 a 1))
  else
    some (.inr c)
def sparseref09_Pack (a : Int) (b : Int) (c : List (Int × Int × Int)) : Option (Int × Int × LI × LI × LI) :=
  (mkL 0 (wm .i64 a b)).bind fun d =>
  (loop (sparseref09_Pack_l1 c a) (d, 0)).bind fun e =>
  (loop (sparseref09_Pack_l10 b a e c) ([0], [], [], 0)).bind fun (f, g, h) =>
  some (a, b, f, g, h)

def sparsemake_Matrix_l5 (b : LI) (c : Int) (d : Int) : (List (Int × Int × Int)) × Int → Option (((List (Int × Int × Int)) × Int) ⊕ (((List (Int × Int × Int))))) := fun (e, a) =>
  if (((decide ((wa .i64 a 2) < (b.length : Int))) && (decide ((0 : Int) < c))) && (decide ((0 : Int) < d))) = true then
    (getI b a).bind fun f =>
    (sparsekit_Place f c).bind fun g =>
    (getI b (wa .i64 a 1)).bind fun h =>
    (sparsekit_Place h d).bind fun i =>
    (getI b (wa .i64 a 2)).bind fun j =>
    (sparsemake_Value j).bind fun k =>
    (app e [(g, i, k)]).bind fun l =>
    some (.inl (l, wa .i64 a 3))
  else
    some (.inr e)
def sparsemake_Matrix (b : Int) (c : Int) (d : LI) : Option (Int × Int × LI × LI × LI) :=
  (loop (sparsemake_Matrix_l5 d b c) ([], 0)).bind fun e =>
  (sparseref09_Pack b c e).bind fun a =>
  some (a.1, a.2.1, a.2.2.1, a.2.2.2.1, a.2.2.2.2)

def sparselaw15_part_l20 (e : LI) (f : LI) (g : LI) (b : Int) (h : Int) : LI × Int → Option ((LI × Int) ⊕ ((LI) ⊕ Unit)) := fun (c, d) =>
  (getI [e, f, g] b).bind fun i =>
  if d < (i.length : Int) then
    (getI [e, f, g] b).bind fun j =>
    (getI j d).bind fun a =>
    (if ((decide (a < 0)) || (decide (h ≤ a))) = true then
      some true
    else
      (getI c a).bind fun k =>
      some (!(decide (k = 0)))).bind fun l =>
    if l = true then
      some (.inr (.inr ()))
    else
      (setI c a (wa .i64 b 1)).bind fun m =>
      some (.inl (m, wa .i64 d 1))
  else
    some (.inr (.inl c))
def sparselaw15_part_l15 (c : LI) (d : LI) (e : LI) (f : Int) : LI × Int → Option ((LI × Int) ⊕ ((LI) ⊕ Unit)) := fun (b, a) =>
  if a < 3 then
    (loop (sparselaw15_part_l20 c d e a f) (b, 0)).bind (fun o => match o with
      | .inl g =>
        some (.inl (g, wa .i64 a 1))
      | .inr () =>
        some (.inr (.inr ())))
  else
    some (.inr (.inl b))
def sparselaw15_part (a : Int) (b : LI) (c : LI) (d : LI) : Option (LI × Bool) :=
  (mkL 0 a).bind fun e =>
  (loop (sparselaw15_part_l15 b c d a) (e, 0)).bind (fun o => match o with
    | .inl f =>
      some (f, true)
    | .inr () =>
      some ([], false))

def sparseref03_IsFinite (a : Int) : Option (Bool) :=
  some (!(decide ((wand .u64 (wsrc .u64 a 52) 2047) = 2047)))

def sparseref06_Finite_l1 (b : LI) : Int → Option ((Int) ⊕ (Unit ⊕ Unit)) := fun a =>
  if a < (b.length : Int) then
    (getI b a).bind fun c =>
    (sparseref03_IsFinite c).bind fun d =>
    if d = true then
      some (.inl (wa .i64 a 1))
    else
      some (.inr (.inr ()))
  else
    some (.inr (.inl ()))
def sparseref06_Finite (a : LI) : Option (Bool) :=
  (loop (sparseref06_Finite_l1 a) 0).bind (fun o => match o with
    | .inl () =>
      some true
    | .inr () =>
      some false)

def sparseref09_Check_l76 (c : LI) (d : Int) (b : LI) (e : Int) : Int → Option ((Int) ⊕ (Unit ⊕ Unit)) := fun a =>
  (getI c (wa .i64 d 1)).bind fun f =>
  if a < f then
    (getI b a).bind fun g =>
    (if g < 0 then
      some true
    else
      (getI b a).bind fun h =>
      some (decide (e ≤ h))).bind fun i =>
    (if i = true then
      some true
    else
      (getI c d).bind fun j =>
      (if j < a then
        (getI b a).bind fun k =>
        (getI b (ws .i64 a 1)).bind fun l =>
        some (decide (k ≤ l))
      else
        some false).bind fun m =>
      some m).bind fun n =>
    if n = true then
      some (.inr (.inr ()))
    else
      some (.inl (wa .i64 a 1))
  else
    some (.inr (.inl ()))
def sparseref09_Check_l59 (c : Int) (b : LI) (d : LI) (e : Int) : Int → Option ((Int) ⊕ (Unit ⊕ Unit)) := fun a =>
  if a < c then
    (getI b a).bind fun f =>
    (loop (sparseref09_Check_l76 b a d e) f).bind (fun o => match o with
      | .inl () =>
        some (.inl (wa .i64 a 1))
      | .inr () =>
        some (.inr (.inr ())))
  else
    some (.inr (.inl ()))
def sparseref09_Check_l8 (c : Int) (b : LI) : Int → Option ((Int) ⊕ (Unit ⊕ Unit)) := fun a =>
  if a < c then
    (getI b a).bind fun d =>
    (getI b (wa .i64 a 1)).bind fun e =>
    if e < d then
      some (.inr (.inr ()))
    else
      some (.inl (wa .i64 a 1))
  else
    some (.inr (.inl ()))
def sparseref09_Check (d : Int) (a : Int) (b : LI) (c : LI) (e : LI) : Option (Int) :=
  if (((((decide (d < 0)) || (decide ((200 : Int) < d))) || (decide (a < 0))) || (decide ((200 : Int) < a))) || (decide ((10000 : Int) < (c.length : Int)))) = true then
    some 6
  else
    (if ((!(decide ((e.length : Int) = (c.length : Int)))) || (!(decide ((b.length : Int) = (wa .i64 a 1))))) = true then
      some true
    else
      (getI b 0).bind fun f =>
      some (!(decide (f = 0)))).bind fun g =>
    (if g = true then
      some true
    else
      (getI b a).bind fun h =>
      some (!(decide (h = (c.length : Int))))).bind fun i =>
    if i = true then
      some 1
    else
      (loop (sparseref09_Check_l8 a b) 0).bind (fun o => match o with
        | .inl () =>
          (loop (sparseref09_Check_l59 a b c d) 0).bind (fun o => match o with
            | .inl () =>
              (sparseref06_Finite e).bind fun j =>
              if j = true then
                some 0
              else
                some 4
            | .inr () =>
              some 1)
        | .inr () =>
          some 1)

def sparseref09_Entries_l4 (d : LI) (b : Int) (e : LI) (f : LI) : (List (Int × Int × Int)) × Int → Option (((List (Int × Int × Int)) × Int) ⊕ (((List (Int × Int × Int))))) := fun (c, a) =>
  (getI d (wa .i64 b 1)).bind fun g =>
  if a < g then
    (getI e a).bind fun h =>
    (getI f a).bind fun i =>
    (app c [(h, b, i)]).bind fun j =>
    some (.inl (j, wa .i64 a 1))
  else
    some (.inr c)
def sparseref09_Entries_l3 (d : Int) (b : LI) (e : LI) (f : LI) : (List (Int × Int × Int)) × Int → Option (((List (Int × Int × Int)) × Int) ⊕ (((List (Int × Int × Int))))) := fun (c, a) =>
  if a < d then
    (getI b a).bind fun g =>
    (loop (sparseref09_Entries_l4 b a e f) (c, g)).bind fun h =>
    some (.inl (h, wa .i64 a 1))
  else
    some (.inr c)
def sparseref09_Entries (e : Int) (a : Int) (b : LI) (c : LI) (d : LI) : Option ((List (Int × Int × Int))) :=
  (sparseref09_Check e a b c d).bind fun f =>
  if f = 0 then
    (loop (sparseref09_Entries_l3 a b c d) ([], 0)).bind fun g =>
    some g
  else
    some []

def sparselaw15_BlocksCoarse_l5 (b : (List (Int × Int × Int))) (c : LI × Bool) (d : LI × Bool) : Int → Option ((Int) ⊕ (Unit ⊕ Unit)) := fun a =>
  if a < (b.length : Int) then
    (getI b a).bind fun e =>
    (getI c.1 e.1).bind fun f =>
    (getI b a).bind fun g =>
    (getI d.1 g.2.1).bind fun h =>
    if h < f then
      some (.inr (.inr ()))
    else
      some (.inl (wa .i64 a 1))
  else
    some (.inr (.inl ()))
def sparselaw15_BlocksCoarse (h : Int) (i : Int) (e : LI) : Option (Bool) :=
  if (90 : Int) < (e.length : Int) then
    (sparselaw15_awake).bind fun j =>
    some j
  else
    (sparsekit_Place h 8).bind fun c =>
    (sparsekit_Place i 8).bind fun d =>
    (sparsemake_Matrix c d e).bind fun b =>
    (blocks_Coarse b.1 b.2.1 b.2.2.1 b.2.2.2.1 b.2.2.2.2).bind fun a =>
    (sparselaw15_part c a.1 a.2.2.1 a.2.2.2.2.1).bind fun f =>
    (sparselaw15_part d a.2.1 a.2.2.2.1 a.2.2.2.2.2.1).bind fun g =>
    if (((((!(decide (a.2.2.2.2.2.2 = 0))) || (!(f.2))) || (!(g.2))) || (!(decide ((wa .i64 (wa .i64 (a.1.length : Int) (a.2.2.1.length : Int)) (a.2.2.2.2.1.length : Int)) = c)))) || (!(decide ((wa .i64 (wa .i64 (a.2.1.length : Int) (a.2.2.2.1.length : Int)) (a.2.2.2.2.2.1.length : Int)) = d)))) = true then
      some false
    else
      (sparseref09_Entries b.1 b.2.1 b.2.2.1 b.2.2.2.1 b.2.2.2.2).bind fun k =>
      (loop (sparselaw15_BlocksCoarse_l5 k f g) 0).bind (fun o => match o with
        | .inl () =>
          (if (((((decide ((a.2.2.1.length : Int) = (a.2.2.2.1.length : Int))) && (decide ((0 : Int) ≤ (ws .i64 (a.2.1.length : Int) (a.1.length : Int))))) && (decide ((0 : Int) ≤ (ws .i64 (a.2.2.2.2.1.length : Int) (a.2.2.2.2.2.1.length : Int))))) && ((decide ((0 : Int) < (ws .i64 (a.2.1.length : Int) (a.1.length : Int)))) || (decide ((a.2.1.length : Int) = 0)))) && ((decide ((0 : Int) < (ws .i64 (a.2.2.2.2.1.length : Int) (a.2.2.2.2.2.1.length : Int)))) || (decide ((a.2.2.2.2.1.length : Int) = 0)))) = true then
            (sparselaw15_awake).bind fun l =>
            some l
          else
            some false).bind fun m =>
          some m
        | .inr () =>
          some false)
end M
