/- Models of functions of the program, printed. -/
import Derived.Test.YtgnfkbaghjmgiaaGreatDoorM5
namespace M
open Sx
set_option linter.unusedVariables false
def sparsemake_Value_j1 (c : Int) (d : Int) : Option (Int) :=
  (sparseref02_FromInt (ws .i64 c 8)).bind fun a =>
  (sparseref02_Scale a.1 a.2.1 a.2.2.1 a.2.2.2 d).bind fun b =>
  (sparseref03_Round b.1 b.2.1 b.2.2.1 b.2.2.2 0).bind fun e =>
  some e
def sparsemake_Value (a : Int) : Option (Int) :=
  (sparsekit_Place a 17).bind fun b =>
  if (wrc (wc .i64 (wqc .u64 (wc .u64 a) 17)) 3) = 0 then
    sparsemake_Value_j1 b (ws .i64 (wrc (wqc .i64 (wc .i64 (wqc .u64 (wc .u64 a) 17)) 3) 13) 6)
  else
    sparsemake_Value_j1 b 0

def sparseref09_Pack_j14 (a : Int) (b : LI) (c : LI) : Option ((LI × LI × Int) ⊕ ((LI × LI))) :=
  some (.inl (b, c, wa .i64 a 1))
def sparseref09_Pack_l13 (d : Int) (f : LI) (g : Int) (h : List (Int × Int × Int)) : LI × LI × Int → Option ((LI × LI × Int) ⊕ ((LI × LI))) := fun (b, c, a) =>
  if a < d then
    (getI f (wa .i64 (wm .i64 g d) a)).bind fun e =>
    if (0 : Int) < e then
      (app b [a]).bind fun i =>
      (getI h (ws .i64 e 1)).bind fun j =>
      (app c [j.2.2]).bind fun k =>
      sparseref09_Pack_j14 a i k
    else
      sparseref09_Pack_j14 a b c
  else
    some (.inr (b, c))
def sparseref09_Pack_l10 (f : Int) (g : Int) (h : LI) (i : List (Int × Int × Int)) : LI × LI × LI × Int → Option ((LI × LI × LI × Int) ⊕ ((LI × LI × LI))) := fun (b, c, d, a) =>
  if a < f then
    (loop (sparseref09_Pack_l13 g h a i) (c, d, 0)).bind fun (e, j) =>
    (app b [(e.length : Int)]).bind fun k =>
    some (.inl (k, e, j, wa .i64 a 1))
  else
    some (.inr (b, c, d))
def sparseref09_Pack_l1 (b : List (Int × Int × Int)) (d : Int) : LI × Int → Option ((LI × Int) ⊕ (LI)) := fun (c, a) =>
  if a < (b.length : Int) then
    (getI b a).bind fun e =>
    (getI b a).bind fun f =>
    (setI c (wa .i64 (wm .i64 e.2.1 d) f.1) (wa .i64 a 1)).bind fun g =>
    some (.inl (g, wa .i64 a 1))
  else
    some (.inr c)
def sparseref09_Pack (a : Int) (b : Int) (c : List (Int × Int × Int)) : Option (Int × Int × LI × LI × LI) :=
  (mkL 0 (wm .i64 a b)).bind fun d =>
  (loop (sparseref09_Pack_l1 c a) (d, 0)).bind fun e =>
  (loop (sparseref09_Pack_l10 b a e c) ([0], [], [], 0)).bind fun (f, g, h) =>
  some (a, b, f, g, h)

def sparsemake_Matrix_l5 (b : LI) (c : Int) (d : Int) : (List (Int × Int × Int)) × Int → Option (((List (Int × Int × Int)) × Int) ⊕ (((List (Int × Int × Int))))) := fun (e, a) =>
  if (((decide ((wa .i64 a 2) < (b.length : Int))) && (decide ((0 : Int) < c))) && (decide ((0 : Int) < d))) = true then
    (getI b a).bind fun f =>
    (sparsekit_Place f c).bind fun g =>
    (getI b (wa .i64 a 1)).bind fun h =>
    (sparsekit_Place h d).bind fun i =>
    (getI b (wa .i64 a 2)).bind fun j =>
    (sparsemake_Value j).bind fun k =>
    (app e [(g, i, k)]).bind fun l =>
    some (.inl (l, wa .i64 a 3))
  else
    some (.inr e)
def sparsemake_Matrix (b : Int) (c : Int) (d : LI) : Option (Int × Int × LI × LI × LI) :=
  (loop (sparsemake_Matrix_l5 d b c) ([], 0)).bind fun e =>
  (sparseref09_Pack b c e).bind fun a =>
  some (a.1, a.2.1, a.2.2.1, a.2.2.2.1, a.2.2.2.2)

def sparsekit_Shuffle_j5 (a : LI) (c : LI) (d : Int) (b : Int) : Option ((LI × LI × Int) ⊕ (LI)) :=
  (getI a b).bind fun e =>
  (app c [e]).bind fun f =>
  (sli a 0 b).bind fun g =>
  (sli a (wa .i64 b 1) (a.length : Int)).bind fun h =>
  (app g h).bind fun i =>
  some (.inl (i, f, wa .i64 d 1))
def sparsekit_Shuffle_l4 (e : Int) (d : LI) : LI × LI × Int → Option ((LI × LI × Int) ⊕ (LI)) := fun (b, c, a) =>
  if a < e then
    if a < (d.length : Int) then
      (getI d a).bind fun f =>
      (sparsekit_Place f (b.length : Int)).bind fun g =>
      sparsekit_Shuffle_j5 b c a g
    else
      sparsekit_Shuffle_j5 b c a 0
  else
    some (.inr c)
def sparsekit_Shuffle_l1 (c : Int) : LI × Int → Option ((LI × Int) ⊕ (LI)) := fun (b, a) =>
  if a < c then
    (app b [a]).bind fun d =>
    some (.inl (d, wa .i64 a 1))
  else
    some (.inr b)
def sparsekit_Shuffle (b : LI) (a : Int) : Option (LI) :=
  (loop (sparsekit_Shuffle_l1 a) ([], 0)).bind fun c =>
  (loop (sparsekit_Shuffle_l4 a b) (c, [], 0)).bind fun d =>
  some d

def matrix_places_l3 (c : LI) : LI × Int → Option ((LI × Int) ⊕ ((LI) ⊕ Unit)) := fun (b, a) =>
  if a < (c.length : Int) then
    (getI c a).bind fun d =>
    (getI b d).bind fun e =>
    if (0 : Int) ≤ e then
      some (.inr (.inr ()))
    else
      (setI b d a).bind fun f =>
      some (.inl (f, wa .i64 a 1))
  else
    some (.inr (.inl b))
def matrix_places_l2 (b : LI) (c : Int) : Int → Option ((Int) ⊕ (Unit ⊕ Unit)) := fun a =>
  if a < (b.length : Int) then
    (getI b a).bind fun d =>
    (matrix_within d 0 (ws .i64 c 1)).bind fun e =>
    if e = true then
      some (.inl (wa .i64 a 1))
    else
      some (.inr (.inr ()))
  else
    some (.inr (.inl ()))
def matrix_places_l1 (c : LI) : LI × Int → Option ((LI × Int) ⊕ (LI)) := fun (b, a) =>
  if a < (c.length : Int) then
    (setI b a (-1)).bind fun d =>
    some (.inl (d, wa .i64 a 1))
  else
    some (.inr b)
def matrix_places (a : LI) (b : Int) : Option (LI × Int) :=
  (mkL 0 b).bind fun c =>
  (loop (matrix_places_l1 c) (c, 0)).bind fun d =>
  (loop (matrix_places_l2 a b) 0).bind (fun o => match o with
    | .inl () =>
      (loop (matrix_places_l3 a) (d, 0)).bind (fun o => match o with
        | .inl e =>
          some (e, 0)
        | .inr () =>
          some ([], 90))
    | .inr () =>
      some ([], 3))

def matrix_selected_j7 (a : Int) (b : List (Int × Int × Int)) : Option (((List (Int × Int × Int)) × Int) ⊕ (((List (Int × Int × Int))))) :=
  some (.inl (b, wa .i64 a 1))
def matrix_selected_l5 (d : (List (Int × Int × Int))) (e : LI) (f : LI) : (List (Int × Int × Int)) × Int → Option (((List (Int × Int × Int)) × Int) ⊕ (((List (Int × Int × Int))))) := fun (c, b) =>
  if b < (d.length : Int) then
    (getI d b).bind fun a =>
    (getI e a.1).bind fun g =>
    (if (0 : Int) ≤ g then
      (getI f a.2.1).bind fun h =>
      some (decide ((0 : Int) ≤ h))
    else
      some false).bind fun i =>
    if i = true then
      (getI e a.1).bind fun j =>
      (getI f a.2.1).bind fun k =>
      (app c [(j, k, a.2.2)]).bind fun l =>
      matrix_selected_j7 b l
    else
      matrix_selected_j7 b c
  else
    some (.inr c)
def matrix_selected (b : Int) (c : Int) (d : LI) (e : LI) (f : LI) (g : LI) (h : LI) (i : LI) (j : LI) : Option (Int × Int × LI × LI × LI) :=
  (matrix_entries b c d e f).bind fun k =>
  (loop (matrix_selected_l5 k i j) ([], 0)).bind fun l =>
  (matrix_build (g.length : Int) (h.length : Int) l).bind fun a =>
  some (a.1, a.2.1, a.2.2.1, a.2.2.2.1, a.2.2.2.2)

def matrix_Permute (b : Int) (c : Int) (f : LI) (g : LI) (h : LI) (d : LI) (e : LI) : Option (Int × Int × LI × LI × LI × Int) :=
  (matrix_Check b c f g h).bind fun i =>
  if i = 0 then
    if ((!(decide ((d.length : Int) = b))) || (!(decide ((e.length : Int) = c)))) = true then
      some (0, 0, [], [], [], 2)
    else
      (matrix_places d b).bind fun j =>
      (matrix_places e c).bind fun k =>
      if ((!(decide (j.2 = 0))) || (!(decide (k.2 = 0)))) = true then
        some (0, 0, [], [], [], 90)
      else
        (matrix_selected b c f g h d e j.1 k.1).bind fun a =>
        some (a.1, a.2.1, a.2.2.1, a.2.2.2.1, a.2.2.2.2, 0)
  else
    some (0, 0, [], [], [], i)

def sparsekit_Ascending_l1 (b : LI) : Int → Option ((Int) ⊕ (Unit ⊕ Unit)) := fun a =>
  if a < (b.length : Int) then
    (getI b a).bind fun c =>
    (getI b (ws .i64 a 1)).bind fun d =>
    if c ≤ d then
      some (.inr (.inr ()))
    else
      some (.inl (wa .i64 a 1))
  else
    some (.inr (.inl ()))
def sparsekit_Ascending (a : LI) : Option (Bool) :=
  (loop (sparsekit_Ascending_l1 a) 1).bind (fun o => match o with
    | .inl () =>
      some true
    | .inr () =>
      some false)

def sparselaw15_starts (a : LI) (b : Int) : Option (Bool) :=
  (if (0 : Int) < (a.length : Int) then
    (getI a 0).bind fun c =>
    some (decide (c = 0))
  else
    some false).bind fun d =>
  (if d = true then
    (getI a (ws .i64 (a.length : Int) 1)).bind fun e =>
    some (decide (e = b))
  else
    some false).bind fun f =>
  (if f = true then
    (sparsekit_Ascending a).bind fun g =>
    some g
  else
    some false).bind fun h =>
  some h

def sparsekit_Perm_l5 (c : Int) (b : LI) : BL × Int → Option ((BL × Int) ⊕ (Unit ⊕ Unit)) := fun (d, a) =>
  if a < c then
    (getI b a).bind fun e =>
    (if e < 0 then
      some true
    else
      (getI b a).bind fun f =>
      some (decide (c ≤ f))).bind fun g =>
    (if g = true then
      some true
    else
      (getI b a).bind fun h =>
      (getI d h).bind fun i =>
      some i).bind fun j =>
    if j = true then
      some (.inr (.inr ()))
    else
      (getI b a).bind fun k =>
      (setI d k true).bind fun l =>
      some (.inl (l, wa .i64 a 1))
  else
    some (.inr (.inl ()))
def sparsekit_Perm (b : LI) (a : Int) : Option (Bool) :=
  if (b.length : Int) = a then
    (mkL false a).bind fun c =>
    (loop (sparsekit_Perm_l5 a b) (c, 0)).bind (fun o => match o with
      | .inl () =>
        some true
      | .inr () =>
        some false)
  else
    some false

def sparsekit_In_l1 (b : LI) (c : Int) : Int → Option ((Int) ⊕ (Unit ⊕ Unit)) := fun a =>
  if a < (b.length : Int) then
    (getI b a).bind fun d =>
    if d = c then
      some (.inr (.inr ()))
    else
      some (.inl (wa .i64 a 1))
  else
    some (.inr (.inl ()))
def sparsekit_In (a : LI) (b : Int) : Option (Bool) :=
  (loop (sparsekit_In_l1 a b) 0).bind (fun o => match o with
    | .inl () =>
      some false
    | .inr () =>
      some true)

def sparselaw15_BlocksPermuted_l67 (b : LI × LI × LI × Int) (d : Int) (e : LI) (f : LI) : Bool × Int → Option ((Bool × Int) ⊕ (Bool)) := fun (c, a) =>
  (getI b.2.2.1 (wa .i64 d 1)).bind fun g =>
  if a < g then
    (if c = true then
      (getI b.2.1 a).bind fun h =>
      (getI e h).bind fun i =>
      (sparsekit_In f i).bind fun j =>
      some j
    else
      some false).bind fun k =>
    some (.inl (k, wa .i64 a 1))
  else
    some (.inr c)
def sparselaw15_BlocksPermuted_l64 (b : LI × LI × LI × Int) (e : LI) (c : LI) : Bool × Int → Option ((Bool × Int) ⊕ (Bool)) := fun (d, a) =>
  if (wa .i64 a 1) < (b.2.2.1.length : Int) then
    (getI b.2.2.1 (wa .i64 a 1)).bind fun f =>
    (getI b.2.2.1 a).bind fun g =>
    (getI b.2.2.1 a).bind fun h =>
    (loop (sparselaw15_BlocksPermuted_l67 b a e c) (decide ((ws .i64 f g) = (c.length : Int)), h)).bind fun i =>
    some (.inl ((d || i), wa .i64 a 1))
  else
    some (.inr d)
def sparselaw15_BlocksPermuted_l54 (b : LI × LI × LI × Int) (d : Int) : LI × Int → Option ((LI × Int) ⊕ (LI)) := fun (c, a) =>
  (getI b.2.2.1 (wa .i64 d 1)).bind fun e =>
  if a < e then
    (getI b.2.1 a).bind fun f =>
    (app c [f]).bind fun g =>
    some (.inl (g, wa .i64 a 1))
  else
    some (.inr c)
def sparselaw15_BlocksPermuted_l51 (a : LI × LI × LI × Int) (c : Int) (d : LI × LI × LI × Int) (e : LI) : Int → Option ((Int) ⊕ (Unit ⊕ Unit)) := fun b =>
  if ((decide ((wa .i64 b 1) < (a.2.2.1.length : Int))) && (decide (a.2.2.2 = 0))) = true then
    (sparsekit_Perm a.2.1 c).bind fun f =>
    (if f = true then
      (sparsekit_Perm d.2.1 c).bind fun g =>
      some (!(g))
    else
      some true).bind fun h =>
    if h = true then
      some (.inr (.inr ()))
    else
      (getI a.2.2.1 b).bind fun i =>
      (loop (sparselaw15_BlocksPermuted_l54 a b) ([], i)).bind fun j =>
      (loop (sparselaw15_BlocksPermuted_l64 d e j) (false, 0)).bind fun k =>
      if k = true then
        some (.inl (wa .i64 b 1))
      else
        some (.inr (.inr ()))
  else
    some (.inr (.inl ()))
def sparselaw15_BlocksPermuted (j : Int) (h : LI) (k : LI) (l : LI) : Option (Bool) :=
  if (90 : Int) < (h.length : Int) then
    (sparselaw15_awake).bind fun m =>
    some m
  else
    (sparsekit_Place j 8).bind fun c =>
    (sparsemake_Matrix c c h).bind fun a =>
    (sparsekit_Shuffle k c).bind fun n =>
    (sparsekit_Shuffle l c).bind fun i =>
    (matrix_Permute a.1 a.2.1 a.2.2.1 a.2.2.2.1 a.2.2.2.2 n i).bind fun b =>
    (blocks_Coarse a.1 a.2.1 a.2.2.1 a.2.2.2.1 a.2.2.2.2).bind fun d =>
    (blocks_Coarse b.1 b.2.1 b.2.2.1 b.2.2.2.1 b.2.2.2.2.1).bind fun f =>
    if (((((((!(decide (b.2.2.2.2.2 = 0))) || (!(decide (d.2.2.2.2.2.2 = 0)))) || (!(decide (f.2.2.2.2.2.2 = 0)))) || (!(decide ((d.1.length : Int) = (f.1.length : Int))))) || (!(decide ((d.2.2.1.length : Int) = (f.2.2.1.length : Int))))) || (!(decide ((d.2.2.2.2.1.length : Int) = (f.2.2.2.2.1.length : Int))))) || (!(decide ((wa .i64 (wa .i64 (d.1.length : Int) (d.2.2.1.length : Int)) (d.2.2.2.2.1.length : Int)) = c)))) = true then
      some false
    else
      (blocks_Triangular a.1 a.2.1 a.2.2.1 a.2.2.2.1 a.2.2.2.2).bind fun e =>
      (blocks_Triangular b.1 b.2.1 b.2.2.1 b.2.2.2.1 b.2.2.2.2.1).bind fun g =>
      (if ((!(decide (e.2.2.2 = g.2.2.2))) || (!(decide ((e.2.2.1.length : Int) = (g.2.2.1.length : Int))))) = true then
        some true
      else
        (if e.2.2.2 = 0 then
          (sparselaw15_starts e.2.2.1 c).bind fun p =>
          (if p = true then
            (sparselaw15_starts g.2.2.1 c).bind fun q =>
            some (!(q))
          else
            some true).bind fun r =>
          some r
        else
          some false).bind fun s =>
        some s).bind fun t =>
      if t = true then
        some false
      else
        (loop (sparselaw15_BlocksPermuted_l51 e c g i) 0).bind (fun o => match o with
          | .inl () =>
            (sparselaw15_awake).bind fun u =>
            some u
          | .inr () =>
            some false)
end M
