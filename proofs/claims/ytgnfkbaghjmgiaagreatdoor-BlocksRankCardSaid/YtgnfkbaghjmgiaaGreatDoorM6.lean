/- Models of functions of the program, printed. -/
import Derived.Test.YtgnfkbaghjmgiaaGreatDoorM5
namespace M
open Sx
set_option linter.unusedVariables false
def sparsemake_Value_j1 (c : Int) (d : Int) : Option (Int) :=
  (sparseref02_FromInt (ws .i64 c 8)).bind fun a =>
  (sparseref02_Scale a.1 a.2.1 a.2.2.1 a.2.2.2 d).bind fun b =>
  (sparseref03_Round b.1 b.2.1 b.2.2.1 b.2.2.2 0).bind fun e =>
  some e
def sparsemake_Value (a : Int) : Option (Int) :=
  (sparsekit_Place a 17).bind fun b =>
  if (wrc (wc .i64 (wqc .u64 (wc .u64 a) 17)) 3) = 0 then
    sparsemake_Value_j1 b (ws .i64 (wrc (wqc .i64 (wc .i64 (wqc .u64 (wc .u64 a) 17)) 3) 13) 6)
  else
    sparsemake_Value_j1 b 0

def sparseref09_Pack_j14 (a : Int) (b : LI) (c : LI) : Option ((LI × LI × Int) ⊕ ((LI × LI))) :=
  some (.inl (b, c, wa .i64 a 1))
def sparseref09_Pack_l13 (d : Int) (f : LI) (g : Int) (h : List (Int × Int × Int)) : LI × LI × Int → Option ((LI × LI × Int) ⊕ ((LI × LI))) := fun (b, c, a) =>
  if a < d then
    (getI f (wa .i64 (wm .i64 g d) a)).bind fun e =>
    if (0 : Int) < e then
      (app b [a]).bind fun i =>
      (getI h (ws .i64 e 1)).bind fun j =>
      (app c [j.2.2]).bind fun k =>
      sparseref09_Pack_j14 a i k
    else
      sparseref09_Pack_j14 a b c
  else
    some (.inr (b, c))
def sparseref09_Pack_l10 (f : Int) (g : Int) (h : LI) (i : List (Int × Int × Int)) : LI × LI × LI × Int → Option ((LI × LI × LI × Int) ⊕ ((LI × LI × LI))) := fun (b, c, d, a) =>
  if a < f then
    (loop (sparseref09_Pack_l13 g h a i) (c, d, 0)).bind fun (e, j) =>
    (app b [(e.length : Int)]).bind fun k =>
    some (.inl (k, e, j, wa .i64 a 1))
  else
    some (.inr (b, c, d))
def sparseref09_Pack_l1 (b : List (Int × Int × Int)) (d : Int) : LI × Int → Option ((LI × Int) ⊕ (LI)) := fun (c, a) =>
  if a < (b.length : Int) then
    (getI b a).bind fun e =>
    (getI b a).bind fun f =>
    (setI c (wa .i64 (wm .i64 e.2.1 d) f.1) (wa .i64 a 1)).bind fun g =>
    some (.inl (g, wa .i64 a 1))
  else
    some (.inr c)
def sparseref09_Pack (a : Int) (b : Int) (c : List (Int × Int × Int)) : Option (Int × Int × LI × LI × LI) :=
  (mkL 0 (wm .i64 a b)).bind fun d =>
  (loop (sparseref09_Pack_l1 c a) (d, 0)).bind fun e =>
  (loop (sparseref09_Pack_l10 b a e c) ([0], [], [], 0)).bind fun (f, g, h) =>
  some (a, b, f, g, h)

def sparsemake_Matrix_l5 (b : LI) (c : Int) (d : Int) : (List (Int × Int × Int)) × Int → Option (((List (Int × Int × Int)) × Int) ⊕ (((List (Int × Int × Int))))) := fun (e, a) =>
  if (((decide ((wa .i64 a 2) < (b.length : Int))) && (decide ((0 : Int) < c))) && (decide ((0 : Int) < d))) = true then
    (getI b a).bind fun f =>
    (sparsekit_Place f c).bind fun g =>
    (getI b (wa .i64 a 1)).bind fun h =>
    (sparsekit_Place h d).bind fun i =>
    (getI b (wa .i64 a 2)).bind fun j =>
    (sparsemake_Value j).bind fun k =>
    (app e [(g, i, k)]).bind fun l =>
    some (.inl (l, wa .i64 a 3))
  else
    some (.inr e)
def sparsemake_Matrix (b : Int) (c : Int) (d : LI) : Option (Int × Int × LI × LI × LI) :=
  (loop (sparsemake_Matrix_l5 d b c) ([], 0)).bind fun e =>
  (sparseref09_Pack b c e).bind fun a =>
  some (a.1, a.2.1, a.2.2.1, a.2.2.2.1, a.2.2.2.2)

def sparselaw15_BlocksRank_j8 (a : Int) (b : Int) : Option ((Int × Int) ⊕ (Int)) :=
  some (.inl (b, wa .i64 a 1))
def sparselaw15_BlocksRank_l3 (c : LI × Int) : Int × Int → Option ((Int × Int) ⊕ (Int)) := fun (b, a) =>
  if a < (c.1.length : Int) then
    (getI c.1 a).bind fun d =>
    if (0 : Int) ≤ d then
      sparselaw15_BlocksRank_j8 a (wa .i64 b 1)
    else
      sparselaw15_BlocksRank_j8 a b
  else
    some (.inr b)
def sparselaw15_BlocksRank (e : Int) (f : Int) (d : LI) : Option (Bool) :=
  if (90 : Int) < (d.length : Int) then
    (sparselaw15_awake).bind fun g =>
    some g
  else
    (sparsekit_Place e 8).bind fun h =>
    (sparsekit_Place f 8).bind fun i =>
    (sparsemake_Matrix h i d).bind fun a =>
    (blocks_Coarse a.1 a.2.1 a.2.2.1 a.2.2.2.1 a.2.2.2.2).bind fun b =>
    (matching_Maximum a.1 a.2.1 a.2.2.1 a.2.2.2.1 a.2.2.2.2).bind fun c =>
    (loop (sparselaw15_BlocksRank_l3 c) (0, 0)).bind fun j =>
    (if ((((decide (b.2.2.2.2.2.2 = 0)) && (decide (c.2 = 0))) && (decide ((c.1.length : Int) = a.2.1))) && (decide (j = (wa .i64 (wa .i64 (b.1.length : Int) (b.2.2.1.length : Int)) (b.2.2.2.2.2.1.length : Int))))) = true then
      (sparselaw15_awake).bind fun k =>
      some k
    else
      some false).bind fun l =>
    some l
end M
