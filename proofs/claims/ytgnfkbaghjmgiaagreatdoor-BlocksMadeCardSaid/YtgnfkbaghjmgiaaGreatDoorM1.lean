/- Models of functions of the program, printed. -/
import Derived.Test.YtgnfkbaghjmgiaaGreatDoorM0
namespace M
open Sx
set_option linter.unusedVariables false
def matching_kuhn_try_j12 (a : Int) (b : LI) (c : LI) (d : BL) : Option ((LI × LI × BL × Int) ⊕ ((LI × LI × BL) ⊕ (LI × LI × BL))) :=
  some (.inl (b, c, d, wa .i64 a 1))
def matching_kuhn_try_l9 (rec : L2 → LI → LI → BL → Int → Option (LI × LI × BL × Bool)) (h : LI) (k : L2) (i : Int) : LI × LI × BL × Int → Option ((LI × LI × BL × Int) ⊕ ((LI × LI × BL) ⊕ (LI × LI × BL))) := fun (d, b, e, f) =>
  if f < (h.length : Int) then
    (getI h f).bind fun c =>
    (getI e c).bind fun l =>
    if l = true then
      matching_kuhn_try_j12 f d b e
    else
      (setI e c true).bind fun j =>
      (getI b c).bind fun m =>
      (if m = (-1) then
        some (true, d, b, j)
      else
        (getI b c).bind fun n =>
        (rec k d b j n).bind fun g =>
        some (g.2.2.2, g.1, g.2.1, g.2.2.1)).bind fun a =>
      if a.1 = true then
        (setI a.2.1 i c).bind fun o =>
        (setI a.2.2.1 c i).bind fun p =>
        some (.inr (.inr (o, p, a.2.2.2)))
      else
        matching_kuhn_try_j12 f a.2.1 a.2.2.1 a.2.2.2
  else
    some (.inr (.inl (d, b, e)))
def matching_kuhn_try_body (rec : L2 → LI → LI → BL → Int → Option (LI × LI × BL × Bool)) (a : L2) (c : LI) (d : LI) (e : BL) (b : Int) : Option (LI × LI × BL × Bool) :=
  (getI a b).bind fun f =>
  (loop (matching_kuhn_try_l9 rec f a b) (c, d, e, 0)).bind (fun o => match o with
    | .inl (g, h, i) =>
      some (g, h, i, false)
    | .inr (j, k, l) =>
      some (j, k, l, true))
def matching_kuhn_try : Nat → L2 → LI → LI → BL → Int → Option (LI × LI × BL × Bool)
  | 0 => fun _ _ _ _ _ => none
  | n + 1 => matching_kuhn_try_body (matching_kuhn_try n)

def matching_matched_l1 (e : Int) (f : Int) (g : L2) : LI × LI × BL × Int → Option ((LI × LI × BL × Int) ⊕ ((LI × LI × BL))) := fun (c, d, h, a) =>
  if a < e then
    (mkL false f).bind fun i =>
    (matching_kuhn_try FUEL g c d i a).bind fun b =>
    some (.inl (b.1, b.2.1, b.2.2.1, wa .i64 a 1))
  else
    some (.inr (c, d, h))
def matching_matched (a : Int) (b : Int) (d : LI) (e : LI) (f : LI) : Option (L2 × LI × LI × BL) :=
  (matching_Edges a b d e f).bind fun c =>
  (matching_full b (-1)).bind fun g =>
  (matching_full a (-1)).bind fun h =>
  (loop (matching_matched_l1 b a c) (g, h, [], 0)).bind fun (i, j, k) =>
  some (c, i, j, k)

def matching_Maximum (a : Int) (b : Int) (c : LI) (d : LI) (e : LI) : Option (LI × Int) :=
  (matrix_Check a b c d e).bind fun f =>
  if f = 0 then
    (matching_matched a b c d e).bind fun g =>
    some (g.2.1, 0)
  else
    some ([], f)

def slices_Index_int_l1 (b : LI) (c : Int) : Int → Option ((Int) ⊕ (Unit ⊕ Int)) := fun a =>
  if a < (b.length : Int) then
    (getI b a).bind fun d =>
    if c = d then
      some (.inr (.inr a))
    else
      some (.inl (wa .i64 a 1))
  else
    some (.inr (.inl ()))
def slices_Index_int (a : LI) (b : Int) : Option (Int) :=
  (loop (slices_Index_int_l1 a b) 0).bind (fun o => match o with
    | .inl () =>
      some (-1)
    | .inr c =>
      some c)

def slices_Contains_int (a : LI) (b : Int) : Option (Bool) :=
  (slices_Index_int a b).bind fun c =>
  some (decide ((0 : Int) ≤ c))

def matrix_entries_l4 (d : LI) (b : Int) (e : LI) (f : LI) : (List (Int × Int × Int)) × Int → Option (((List (Int × Int × Int)) × Int) ⊕ (((List (Int × Int × Int))))) := fun (c, a) =>
  (getI d (wa .i64 b 1)).bind fun g =>
  if a < g then
    (getI e a).bind fun h =>
    (getI f a).bind fun i =>
    (app c [(h, b, i)]).bind fun j =>
    some (.inl (j, wa .i64 a 1))
  else
    some (.inr c)
def matrix_entries_l3 (d : Int) (b : LI) (e : LI) (f : LI) : (List (Int × Int × Int)) × Int → Option (((List (Int × Int × Int)) × Int) ⊕ (((List (Int × Int × Int))))) := fun (c, a) =>
  if a < d then
    (getI b a).bind fun g =>
    (loop (matrix_entries_l4 b a e f) (c, g)).bind fun h =>
    some (.inl (h, wa .i64 a 1))
  else
    some (.inr c)
def matrix_entries (f : Int) (a : Int) (b : LI) (c : LI) (d : LI) : Option ((List (Int × Int × Int))) :=
  (loop (matrix_entries_l3 a b c d) ([], 0)).bind fun e =>
  some e

def matrix_Entries (a : Int) (b : Int) (c : LI) (d : LI) (e : LI) : Option ((List (Int × Int × Int))) :=
  (matrix_Check a b c d e).bind fun f =>
  if f = 0 then
    (matrix_entries a b c d e).bind fun g =>
    some g
  else
    some []

def blocks_arcs_l2 (b : LI) (d : L2) : L2 × Int → Option ((L2 × Int) ⊕ (L2)) := fun (c, a) =>
  if a < (b.length : Int) then
    (getI b a).bind fun e =>
    (getI d e).bind fun f =>
    (setI c a f).bind fun g =>
    some (.inl (g, wa .i64 a 1))
  else
    some (.inr c)
def blocks_arcs_l1 (d : (List (Int × Int × Int))) : L2 × Int → Option ((L2 × Int) ⊕ (L2)) := fun (a, b) =>
  if b < (d.length : Int) then
    (getI d b).bind fun c =>
    (getI a c.1).bind fun e =>
    (app e [c.2.1]).bind fun f =>
    (setI a c.1 f).bind fun g =>
    some (.inl (g, wa .i64 b 1))
  else
    some (.inr a)
def blocks_arcs (a : Int) (b : Int) (c : LI) (d : LI) (e : LI) (f : LI) : Option (L2) :=
  (mkL ([] : LI) a).bind fun g =>
  (matrix_Entries a b c d e).bind fun h =>
  (loop (blocks_arcs_l1 h) (g, 0)).bind fun i =>
  (mkL ([] : LI) b).bind fun j =>
  (loop (blocks_arcs_l2 f i) (j, 0)).bind fun k =>
  some k

def blocks_reach_j13 (a : Int) (b : BL) (c : LI) : Option ((BL × LI × Int) ⊕ ((BL × LI))) :=
  some (.inl (b, c, wa .i64 a 1))
def blocks_reach_l12 (e : LI) : BL × LI × Int → Option ((BL × LI × Int) ⊕ ((BL × LI))) := fun (a, c, b) =>
  if b < (e.length : Int) then
    (getI e b).bind fun d =>
    (getI a d).bind fun f =>
    if f = true then
      blocks_reach_j13 b a c
    else
      (setI a d true).bind fun g =>
      (app c [d]).bind fun h =>
      blocks_reach_j13 b g h
  else
    some (.inr (a, c))
def blocks_reach_l9 (c : L2) : BL × LI → Option ((BL × LI) ⊕ (BL)) := fun (b, a) =>
  if (0 : Int) < (a.length : Int) then
    (getI a 0).bind fun d =>
    (sli a 1 (a.length : Int)).bind fun e =>
    (getI c d).bind fun f =>
    (loop (blocks_reach_l12 f) (b, e, 0)).bind fun (g, h) =>
    some (.inl (g, h))
  else
    some (.inr b)
def blocks_reach (a : L2) (b : Int) : Option (BL) :=
  (mkL false (a.length : Int)).bind fun c =>
  (setI c b true).bind fun d =>
  (loop (blocks_reach_l9 a) (d, [b])).bind fun e =>
  some e

def blocks_strong_j69 (a : Int) (b : LI) (c : L2) : Option ((LI × L2 × Int) ⊕ ((LI × L2))) :=
  some (.inl (b, c, wa .i64 a 1))
def blocks_strong_l76 (b : Int) (c : List BL) : Int → Option ((Int) ⊕ (Int)) := fun a =>
  if a < b then
    (getI c b).bind fun d =>
    (getI d a).bind fun e =>
    (if e = true then
      (getI c a).bind fun f =>
      (getI f b).bind fun g =>
      some g
    else
      some false).bind fun h =>
    if h = true then
      some (.inr a)
    else
      some (.inl (wa .i64 a 1))
  else
    some (.inr b)
def blocks_strong_l52 (g : L2) (h : List BL) : LI × L2 × Int → Option ((LI × L2 × Int) ⊕ ((LI × L2))) := fun (c, b, a) =>
  if a < (g.length : Int) then
    (loop (blocks_strong_l76 a h) 0).bind fun d =>
    if d = a then
      (setI c a (b.length : Int)).bind fun i =>
      (app b [[a]]).bind fun j =>
      blocks_strong_j69 a i j
    else
      (getI c d).bind fun k =>
      (setI c a k).bind fun e =>
      (getI e a).bind fun f =>
      (getI b f).bind fun l =>
      (app l [a]).bind fun m =>
      (setI b f m).bind fun n =>
      blocks_strong_j69 a e n
  else
    some (.inr (c, b))
def blocks_strong_l1 (b : L2) : (List BL) × Int → Option (((List BL) × Int) ⊕ (((List BL)))) := fun (c, a) =>
  if a < (b.length : Int) then
    (blocks_reach b a).bind fun d =>
    (setI c a d).bind fun e =>
    some (.inl (e, wa .i64 a 1))
  else
    some (.inr c)
def blocks_strong (a : L2) : Option (LI × L2) :=
  (mkL ([] : BL) (a.length : Int)).bind fun b =>
  (loop (blocks_strong_l1 a) (b, 0)).bind fun c =>
  (mkL 0 (a.length : Int)).bind fun d =>
  (loop (blocks_strong_l52 a c) (d, ([] : L2), 0)).bind fun (e, f) =>
  some (e, f)

def blocks_sequence_l131 (d : L2) (b : BL) (e : BL) (c : LI) : Int → Option ((Int) ⊕ ((BL × LI))) := fun a =>
  if a < (d.length : Int) then
    (getI b a).bind fun f =>
    (if f = true then
      some false
    else
      (getI e a).bind fun g =>
      some (!(g))).bind fun h =>
    if h = true then
      (setI b a true).bind fun i =>
      (app c [a]).bind fun j =>
      some (.inr (i, j))
    else
      some (.inl (wa .i64 a 1))
  else
    some (.inr (b, c))
def blocks_sequence_j145 (a : Int) (b : BL) : Option ((BL × Int) ⊕ (BL)) :=
  some (.inl (b, wa .i64 a 1))
def blocks_sequence_l141 (d : LI) (a : LI) (e : Int) (g : BL) : BL × Int → Option ((BL × Int) ⊕ (BL)) := fun (c, b) =>
  if b < (d.length : Int) then
    (getI d b).bind fun f =>
    (getI a e).bind fun h =>
    (getI a f).bind fun i =>
    (if h = i then
      some false
    else
      (getI a e).bind fun j =>
      (getI g j).bind fun k =>
      some (!(k))).bind fun l =>
    if l = true then
      (getI a f).bind fun m =>
      (setI c m true).bind fun n =>
      blocks_sequence_j145 b n
    else
      blocks_sequence_j145 b c
  else
    some (.inr c)
def blocks_sequence_l124 (b : L2) (d : LI) (e : BL) : BL × Int → Option ((BL × Int) ⊕ (BL)) := fun (c, a) =>
  if a < (b.length : Int) then
    (getI b a).bind fun f =>
    (loop (blocks_sequence_l141 f d a e) (c, 0)).bind fun g =>
    some (.inl (g, wa .i64 a 1))
  else
    some (.inr c)
def blocks_sequence_l97 (a : L2) (d : L2) (e : LI) : BL × LI → Option ((BL × LI) ⊕ (LI)) := fun (c, b) =>
  if (b.length : Int) < (a.length : Int) then
    (mkL false (a.length : Int)).bind fun f =>
    (loop (blocks_sequence_l124 d e c) (f, 0)).bind fun g =>
    (loop (blocks_sequence_l131 a c g b) 0).bind fun (h, i) =>
    some (.inl (h, i))
  else
    some (.inr b)
def blocks_sequence (b : L2) (c : LI) (a : L2) : Option (LI) :=
  (mkL false (a.length : Int)).bind fun d =>
  (loop (blocks_sequence_l97 a b c) (d, [])).bind fun e =>
  some e

def blocks_Triangular_l4 (b : LI) (d : LI × Int) : LI × Int → Option ((LI × Int) ⊕ (LI)) := fun (c, a) =>
  if a < (b.length : Int) then
    (getI b a).bind fun e =>
    (getI d.1 e).bind fun f =>
    (app c [f]).bind fun g =>
    some (.inl (g, wa .i64 a 1))
  else
    some (.inr c)
def blocks_Triangular_l3 (b : LI) (c : LI × L2) (i : LI × Int) : LI × LI × LI × Int → Option ((LI × LI × LI × Int) ⊕ ((LI × LI × LI))) := fun (d, e, f, a) =>
  if a < (b.length : Int) then
    (getI b a).bind fun g =>
    (getI c.2 g).bind fun j =>
    (loop (blocks_Triangular_l4 j i) ([], 0)).bind fun k =>
    (sortI k).bind fun l =>
    (app d l).bind fun m =>
    (getI c.2 g).bind fun n =>
    (app e n).bind fun h =>
    (app f [(h.length : Int)]).bind fun o =>
    some (.inl (m, h, o, wa .i64 a 1))
  else
    some (.inr (d, e, f))
def blocks_Triangular (a : Int) (b : Int) (c : LI) (d : LI) (e : LI) : Option (LI × LI × LI × Int) :=
  (blocks_square a b c d e).bind fun h =>
  if h = 0 then
    (matching_Maximum a b c d e).bind fun f =>
    (slices_Contains_int f.1 (-1)).bind fun j =>
    if j = true then
      some ([], [], [], 9)
    else
      (blocks_arcs a b c d e f.1).bind fun i =>
      (blocks_strong i).bind fun g =>
      (blocks_sequence i g.1 g.2).bind fun k =>
      (loop (blocks_Triangular_l3 k g f) ([], [], [0], 0)).bind fun (l, m, n) =>
      some (l, m, n, 0)
  else
    some ([], [], [], h)

def slices_Clone_apiEntry (a : List (Int × Int × Int)) : Option ((List (Int × Int × Int))) :=
  (app [] a).bind fun b =>
  some b

def cmp_Compare_int (a : Int) (b : Int) : Option (Int) :=
  (cmp_isNaN_int a).bind fun d =>
  (cmp_isNaN_int b).bind fun c =>
  if d = true then
    if c = true then
      some 0
    else
      some (-1)
  else
    if c = true then
      some 1
    else
      if a < b then
        some (-1)
      else
        if b < a then
          some 1
        else
          some 0
end M
