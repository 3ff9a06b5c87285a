/- Models of functions of the program, printed. -/
import Derived.Test.YtgnfkbaghjmgiaaGreatDoorM1
namespace M
open Sx
set_option linter.unusedVariables false
def cmp_Or_int_l1 (b : LI) : Int → Option ((Int) ⊕ (Unit ⊕ Int)) := fun a =>
  if a < (b.length : Int) then
    (getI b a).bind fun c =>
    if c = 0 then
      some (.inl (wa .i64 a 1))
    else
      some (.inr (.inr c))
  else
    some (.inr (.inl ()))
def cmp_Or_int (a : LI) : Option (Int) :=
  (loop (cmp_Or_int_l1 a) 0).bind (fun o => match o with
    | .inl () =>
      some 0
    | .inr b =>
      some b)

def matrix_sorted_1 (a : Int) (b : Int) (h : Int) (c : Int) (d : Int) (i : Int) : Option (Int) :=
  (cmp_Compare_int b d).bind fun e =>
  (cmp_Compare_int a c).bind fun f =>
  (cmp_Or_int [e, f]).bind fun g =>
  some g

def slices_insertionSortCmpFunc_apiEntry_l28 (g : Int) : (List (Int × Int × Int)) × Int → Option (((List (Int × Int × Int)) × Int) ⊕ (((List (Int × Int × Int))))) := fun (b, a) =>
  (if g < a then
    (getI b a).bind fun c =>
    (getI b (ws .i64 a 1)).bind fun d =>
    (matrix_sorted_1 c.1 c.2.1 c.2.2 d.1 d.2.1 d.2.2).bind fun h =>
    some (decide (h < 0))
  else
    some false).bind fun i =>
  if i = true then
    (getI b (ws .i64 a 1)).bind fun e =>
    (getI b a).bind fun f =>
    (setI b a (e.1, e.2.1, e.2.2)).bind fun j =>
    (setI j (ws .i64 a 1) (f.1, f.2.1, f.2.2)).bind fun k =>
    some (.inl (k, ws .i64 a 1))
  else
    some (.inr b)
def slices_insertionSortCmpFunc_apiEntry_l21 (c : Int) (d : Int) : (List (Int × Int × Int)) × Int → Option (((List (Int × Int × Int)) × Int) ⊕ (((List (Int × Int × Int))))) := fun (b, a) =>
  if a < c then
    (loop (slices_insertionSortCmpFunc_apiEntry_l28 d) (b, a)).bind fun e =>
    some (.inl (e, wa .i64 a 1))
  else
    some (.inr b)
def slices_insertionSortCmpFunc_apiEntry (b : List (Int × Int × Int)) (a : Int) (c : Int) : Option ((List (Int × Int × Int))) :=
  (loop (slices_insertionSortCmpFunc_apiEntry_l21 c a) (b, wa .i64 a 1)).bind fun d =>
  some d

def slices_swapRangeCmpFunc_apiEntry_l1 (g : Int) (e : Int) (f : Int) : (List (Int × Int × Int)) × Int → Option (((List (Int × Int × Int)) × Int) ⊕ (((List (Int × Int × Int))))) := fun (b, a) =>
  if a < g then
    (getI b (wa .i64 e a)).bind fun c =>
    (getI b (wa .i64 f a)).bind fun d =>
    (setI b (wa .i64 f a) (c.1, c.2.1, c.2.2)).bind fun h =>
    (setI h (wa .i64 e a) (d.1, d.2.1, d.2.2)).bind fun i =>
    some (.inl (i, wa .i64 a 1))
  else
    some (.inr b)
def slices_swapRangeCmpFunc_apiEntry (a : List (Int × Int × Int)) (b : Int) (c : Int) (d : Int) : Option ((List (Int × Int × Int))) :=
  (loop (slices_swapRangeCmpFunc_apiEntry_l1 d c b) (a, 0)).bind fun e =>
  some e

def slices_rotateCmpFunc_apiEntry_j4 (a : List (Int × Int × Int)) (b : Int) (c : Int) : Option (((List (Int × Int × Int)) × Int × Int) ⊕ (((List (Int × Int × Int)) × Int))) :=
  some (.inl (a, b, c))
def slices_rotateCmpFunc_apiEntry_l3 (c : Int) : (List (Int × Int × Int)) × Int × Int → Option (((List (Int × Int × Int)) × Int × Int) ⊕ (((List (Int × Int × Int)) × Int))) := fun (d, a, b) =>
  if a = b then
    some (.inr (d, a))
  else
    if b < a then
      (slices_swapRangeCmpFunc_apiEntry d (ws .i64 c a) c b).bind fun e =>
      slices_rotateCmpFunc_apiEntry_j4 e (ws .i64 a b) b
    else
      (slices_swapRangeCmpFunc_apiEntry d (ws .i64 c a) (ws .i64 (wa .i64 c b) a) a).bind fun f =>
      slices_rotateCmpFunc_apiEntry_j4 f a (ws .i64 b a)
def slices_rotateCmpFunc_apiEntry (c : List (Int × Int × Int)) (d : Int) (a : Int) (e : Int) : Option ((List (Int × Int × Int))) :=
  (loop (slices_rotateCmpFunc_apiEntry_l3 a) (c, ws .i64 a d, ws .i64 e a)).bind fun (f, b) =>
  (slices_swapRangeCmpFunc_apiEntry f (ws .i64 a b) a b).bind fun g =>
  some g

def slices_symMergeCmpFunc_apiEntry_l4 (e : Int) : (List (Int × Int × Int)) × Int → Option (((List (Int × Int × Int)) × Int) ⊕ (((List (Int × Int × Int))))) := fun (b, a) =>
  if a < (ws .i64 e 1) then
    (getI b (wa .i64 a 1)).bind fun c =>
    (getI b a).bind fun d =>
    (setI b a (c.1, c.2.1, c.2.2)).bind fun f =>
    (setI f (wa .i64 a 1) (d.1, d.2.1, d.2.2)).bind fun g =>
    some (.inl (g, wa .i64 a 1))
  else
    some (.inr b)
def slices_symMergeCmpFunc_apiEntry_j5 (a : Int) (b : Int) : Option ((Int × Int) ⊕ (Int)) :=
  some (.inl (a, b))
def slices_symMergeCmpFunc_apiEntry_l3 (e : List (Int × Int × Int)) (f : Int) : Int × Int → Option ((Int × Int) ⊕ (Int)) := fun (a, b) =>
  if a < b then
    (getI e (wc .i64 (wsrc .u64 (wc .u64 (wa .i64 a b)) 1))).bind fun c =>
    (getI e f).bind fun d =>
    (matrix_sorted_1 c.1 c.2.1 c.2.2 d.1 d.2.1 d.2.2).bind fun g =>
    if g < 0 then
      slices_symMergeCmpFunc_apiEntry_j5 (wa .i64 (wc .i64 (wsrc .u64 (wc .u64 (wa .i64 a b)) 1)) 1) b
    else
      slices_symMergeCmpFunc_apiEntry_j5 a (wc .i64 (wsrc .u64 (wc .u64 (wa .i64 a b)) 1))
  else
    some (.inr a)
def slices_symMergeCmpFunc_apiEntry_l9 (e : Int) : (List (Int × Int × Int)) × Int → Option (((List (Int × Int × Int)) × Int) ⊕ (((List (Int × Int × Int))))) := fun (b, a) =>
  if e < a then
    (getI b (ws .i64 a 1)).bind fun c =>
    (getI b a).bind fun d =>
    (setI b a (c.1, c.2.1, c.2.2)).bind fun f =>
    (setI f (ws .i64 a 1) (d.1, d.2.1, d.2.2)).bind fun g =>
    some (.inl (g, ws .i64 a 1))
  else
    some (.inr b)
def slices_symMergeCmpFunc_apiEntry_j10 (a : Int) (b : Int) : Option ((Int × Int) ⊕ (Int)) :=
  some (.inl (a, b))
def slices_symMergeCmpFunc_apiEntry_l8 (e : List (Int × Int × Int)) (f : Int) : Int × Int → Option ((Int × Int) ⊕ (Int)) := fun (a, b) =>
  if a < b then
    (getI e f).bind fun c =>
    (getI e (wc .i64 (wsrc .u64 (wc .u64 (wa .i64 a b)) 1))).bind fun d =>
    (matrix_sorted_1 c.1 c.2.1 c.2.2 d.1 d.2.1 d.2.2).bind fun g =>
    if g < 0 then
      slices_symMergeCmpFunc_apiEntry_j10 a (wc .i64 (wsrc .u64 (wc .u64 (wa .i64 a b)) 1))
    else
      slices_symMergeCmpFunc_apiEntry_j10 (wa .i64 (wc .i64 (wsrc .u64 (wc .u64 (wa .i64 a b)) 1)) 1) b
  else
    some (.inr a)
def slices_symMergeCmpFunc_apiEntry_j20 (a : List (Int × Int × Int)) : Option ((List (Int × Int × Int))) :=
  some a
def slices_symMergeCmpFunc_apiEntry_j18 (rec : (List (Int × Int × Int)) → Int → Int → Int → Option ((List (Int × Int × Int)))) (b : Int) (a : Int) (c : Int) (d : Int) (e : List (Int × Int × Int)) : Option ((List (Int × Int × Int))) :=
  if ((decide ((wc .i64 (wsrc .u64 (wc .u64 (wa .i64 b a)) 1)) < (ws .i64 (wa .i64 (wc .i64 (wsrc .u64 (wc .u64 (wa .i64 b a)) 1)) c) d))) && (decide ((ws .i64 (wa .i64 (wc .i64 (wsrc .u64 (wc .u64 (wa .i64 b a)) 1)) c) d) < a))) = true then
    (rec e (wc .i64 (wsrc .u64 (wc .u64 (wa .i64 b a)) 1)) (ws .i64 (wa .i64 (wc .i64 (wsrc .u64 (wc .u64 (wa .i64 b a)) 1)) c) d) a).bind fun f =>
    slices_symMergeCmpFunc_apiEntry_j20 f
  else
    slices_symMergeCmpFunc_apiEntry_j20 e
def slices_symMergeCmpFunc_apiEntry_j16 (rec : (List (Int × Int × Int)) → Int → Int → Int → Option ((List (Int × Int × Int)))) (a : Int) (b : Int) (c : Int) (d : Int) (e : List (Int × Int × Int)) : Option ((List (Int × Int × Int))) :=
  if ((decide (a < b)) && (decide (b < (wc .i64 (wsrc .u64 (wc .u64 (wa .i64 a c)) 1))))) = true then
    (rec e a b (wc .i64 (wsrc .u64 (wc .u64 (wa .i64 a c)) 1))).bind fun f =>
    slices_symMergeCmpFunc_apiEntry_j18 rec a c d b f
  else
    slices_symMergeCmpFunc_apiEntry_j18 rec a c d b e
def slices_symMergeCmpFunc_apiEntry_j21 (a : Int) (b : Int) : Option ((Int × Int) ⊕ (Int)) :=
  some (.inl (a, b))
def slices_symMergeCmpFunc_apiEntry_l14 (e : List (Int × Int × Int)) (f : Int) (g : Int) (h : Int) : Int × Int → Option ((Int × Int) ⊕ (Int)) := fun (a, b) =>
  if a < b then
    (getI e (ws .i64 (ws .i64 (wa .i64 (wc .i64 (wsrc .u64 (wc .u64 (wa .i64 f g)) 1)) h) 1) (wc .i64 (wsrc .u64 (wc .u64 (wa .i64 a b)) 1)))).bind fun c =>
    (getI e (wc .i64 (wsrc .u64 (wc .u64 (wa .i64 a b)) 1))).bind fun d =>
    (matrix_sorted_1 c.1 c.2.1 c.2.2 d.1 d.2.1 d.2.2).bind fun i =>
    if i < 0 then
      slices_symMergeCmpFunc_apiEntry_j21 a (wc .i64 (wsrc .u64 (wc .u64 (wa .i64 a b)) 1))
    else
      slices_symMergeCmpFunc_apiEntry_j21 (wa .i64 (wc .i64 (wsrc .u64 (wc .u64 (wa .i64 a b)) 1)) 1) b
  else
    some (.inr a)
def slices_symMergeCmpFunc_apiEntry_j11 (rec : (List (Int × Int × Int)) → Int → Int → Int → Option ((List (Int × Int × Int)))) (e : List (Int × Int × Int)) (c : Int) (d : Int) (a : Int) (f : Int) (g : Int) : Option ((List (Int × Int × Int))) :=
  (loop (slices_symMergeCmpFunc_apiEntry_l14 e c d a) (f, g)).bind fun b =>
  if ((decide (b < a)) && (decide (a < (ws .i64 (wa .i64 (wc .i64 (wsrc .u64 (wc .u64 (wa .i64 c d)) 1)) a) b)))) = true then
    (slices_rotateCmpFunc_apiEntry e b a (ws .i64 (wa .i64 (wc .i64 (wsrc .u64 (wc .u64 (wa .i64 c d)) 1)) a) b)).bind fun h =>
    slices_symMergeCmpFunc_apiEntry_j16 rec c b d a h
  else
    slices_symMergeCmpFunc_apiEntry_j16 rec c b d a e
def slices_symMergeCmpFunc_apiEntry_body (rec : (List (Int × Int × Int)) → Int → Int → Int → Option ((List (Int × Int × Int)))) (d : List (Int × Int × Int)) (b : Int) (a : Int) (c : Int) : Option ((List (Int × Int × Int))) :=
  if (ws .i64 a b) = 1 then
    (loop (slices_symMergeCmpFunc_apiEntry_l3 d b) (a, c)).bind fun e =>
    (loop (slices_symMergeCmpFunc_apiEntry_l4 e) (d, b)).bind fun f =>
    some f
  else
    if (ws .i64 c a) = 1 then
      (loop (slices_symMergeCmpFunc_apiEntry_l8 d a) (b, a)).bind fun g =>
      (loop (slices_symMergeCmpFunc_apiEntry_l9 g) (d, a)).bind fun h =>
      some h
    else
      if (wc .i64 (wsrc .u64 (wc .u64 (wa .i64 b c)) 1)) < a then
        slices_symMergeCmpFunc_apiEntry_j11 rec d b c a (ws .i64 (wa .i64 (wc .i64 (wsrc .u64 (wc .u64 (wa .i64 b c)) 1)) a) c) (wc .i64 (wsrc .u64 (wc .u64 (wa .i64 b c)) 1))
      else
        slices_symMergeCmpFunc_apiEntry_j11 rec d b c a b a
def slices_symMergeCmpFunc_apiEntry : Nat → (List (Int × Int × Int)) → Int → Int → Int → Option ((List (Int × Int × Int)))
  | 0 => fun _ _ _ _ => none
  | n + 1 => slices_symMergeCmpFunc_apiEntry_body (slices_symMergeCmpFunc_apiEntry n)

def slices_stableCmpFunc_apiEntry_j8 (a : Int) (b : List (Int × Int × Int)) : Option (((List (Int × Int × Int)) × Int) ⊕ (((List (Int × Int × Int))))) :=
  some (.inl (b, wm .i64 a 2))
def slices_stableCmpFunc_apiEntry_l7 (e : Int) (c : Int) : (List (Int × Int × Int)) × Int × Int → Option (((List (Int × Int × Int)) × Int × Int) ⊕ (((List (Int × Int × Int)) × Int))) := fun (d, b, a) =>
  if a ≤ e then
    (slices_symMergeCmpFunc_apiEntry FUEL d b (wa .i64 b c) a).bind fun f =>
    some (.inl (f, a, wa .i64 a (wm .i64 2 c)))
  else
    some (.inr (d, b))
def slices_stableCmpFunc_apiEntry_l6 (b : Int) : (List (Int × Int × Int)) × Int → Option (((List (Int × Int × Int)) × Int) ⊕ (((List (Int × Int × Int))))) := fun (d, a) =>
  if a < b then
    (loop (slices_stableCmpFunc_apiEntry_l7 b a) (d, 0, wm .i64 2 a)).bind fun (e, c) =>
    if (wa .i64 c a) < b then
      (slices_symMergeCmpFunc_apiEntry FUEL e c (wa .i64 c a) b).bind fun f =>
      slices_stableCmpFunc_apiEntry_j8 a f
    else
      slices_stableCmpFunc_apiEntry_j8 a e
  else
    some (.inr d)
def slices_stableCmpFunc_apiEntry_l1 (d : Int) : (List (Int × Int × Int)) × Int × Int → Option (((List (Int × Int × Int)) × Int × Int) ⊕ (((List (Int × Int × Int)) × Int))) := fun (b, c, a) =>
  if a ≤ d then
    (slices_insertionSortCmpFunc_apiEntry b c a).bind fun e =>
    some (.inl (e, a, wa .i64 a 20))
  else
    some (.inr (b, c))
def slices_stableCmpFunc_apiEntry (b : List (Int × Int × Int)) (a : Int) : Option ((List (Int × Int × Int))) :=
  (loop (slices_stableCmpFunc_apiEntry_l1 a) (b, 0, 20)).bind fun (c, d) =>
  (slices_insertionSortCmpFunc_apiEntry c d a).bind fun e =>
  (loop (slices_stableCmpFunc_apiEntry_l6 a) (e, 20)).bind fun f =>
  some f

def slices_SortStableFunc_apiEntry (a : List (Int × Int × Int)) : Option ((List (Int × Int × Int))) :=
  (slices_stableCmpFunc_apiEntry a (a.length : Int)).bind fun b =>
  some b

def matrix_sorted (a : List (Int × Int × Int)) : Option ((List (Int × Int × Int))) :=
  (slices_Clone_apiEntry a).bind fun b =>
  (slices_SortStableFunc_apiEntry b).bind fun c =>
  some c

def matrix_build_l4 (c : Int) : LI × Int → Option ((LI × Int) ⊕ (LI)) := fun (b, a) =>
  if a < c then
    (getI b (wa .i64 a 1)).bind fun d =>
    (getI b a).bind fun e =>
    (setI b (wa .i64 a 1) (wa .i64 d e)).bind fun f =>
    some (.inl (f, wa .i64 a 1))
  else
    some (.inr b)
def matrix_build_l3 (d : (List (Int × Int × Int))) : LI × LI × LI × Int → Option ((LI × LI × LI × Int) ⊕ ((LI × LI × LI))) := fun (b, e, f, c) =>
  if c < (d.length : Int) then
    (getI d c).bind fun a =>
    (app e [a.1]).bind fun g =>
    (app f [a.2.2]).bind fun h =>
    (getI b (wa .i64 a.2.1 1)).bind fun i =>
    (setI b (wa .i64 a.2.1 1) (wa .i64 i 1)).bind fun j =>
    some (.inl (j, g, h, wa .i64 c 1))
  else
    some (.inr (b, e, f))
def matrix_build (b : Int) (a : Int) (c : List (Int × Int × Int)) : Option (Int × Int × LI × LI × LI) :=
  (mkL 0 (wa .i64 a 1)).bind fun d =>
  (matrix_sorted c).bind fun e =>
  (loop (matrix_build_l3 e) (d, [], [], 0)).bind fun (f, g, h) =>
  (loop (matrix_build_l4 a) (f, 0)).bind fun i =>
  some (b, a, i, g, h)

def matrix_Transpose_l1 (g : (List (Int × Int × Int))) : (List (Int × Int × Int)) × Int → Option (((List (Int × Int × Int)) × Int) ⊕ (((List (Int × Int × Int))))) := fun (b, a) =>
  if a < (g.length : Int) then
    (getI b a).bind fun d =>
    (getI b a).bind fun i =>
    (getI b a).bind fun e =>
    (setI b a (d.2.1, e.2.1, e.2.2)).bind fun c =>
    (getI c a).bind fun j =>
    (getI c a).bind fun f =>
    (setI c a (f.1, d.1, f.2.2)).bind fun h =>
    some (.inl (h, wa .i64 a 1))
  else
    some (.inr b)
def matrix_Transpose (b : Int) (c : Int) (d : LI) (e : LI) (f : LI) : Option (Int × Int × LI × LI × LI × Int) :=
  (matrix_Check b c d e f).bind fun g =>
  if g = 0 then
    (matrix_entries b c d e f).bind fun h =>
    (loop (matrix_Transpose_l1 h) (h, 0)).bind fun i =>
    (matrix_build c b i).bind fun a =>
    some (a.1, a.2.1, a.2.2.1, a.2.2.2.1, a.2.2.2.2, 0)
  else
    some (0, 0, [], [], [], g)

def matching_Reachable_j26 (a : BL) (b : Int) (c : BL) (d : LI) : Option ((BL × BL × LI × Int) ⊕ ((BL × BL × LI))) :=
  some (.inl (a, c, d, wa .i64 b 1))
def matching_Reachable_l24 (e : LI) (i : L2 × LI × LI × BL) : BL × BL × LI × Int → Option ((BL × BL × LI × Int) ⊕ ((BL × BL × LI))) := fun (f, a, d, b) =>
  if b < (e.length : Int) then
    (getI e b).bind fun g =>
    (setI f g true).bind fun h =>
    (getI i.2.2.1 g).bind fun c =>
    (if c = (-1) then
      some false
    else
      (getI a c).bind fun j =>
      some (!(j))).bind fun k =>
    if k = true then
      (setI a c true).bind fun l =>
      (app d [c]).bind fun m =>
      matching_Reachable_j26 h b l m
    else
      matching_Reachable_j26 h b a d
  else
    some (.inr (f, a, d))
def matching_Reachable_l19 (b : L2 × LI × LI × BL) : BL × BL × LI → Option ((BL × BL × LI) ⊕ ((BL × BL))) := fun (c, d, a) =>
  if (0 : Int) < (a.length : Int) then
    (getI a 0).bind fun e =>
    (sli a 1 (a.length : Int)).bind fun f =>
    (getI b.1 e).bind fun g =>
    (loop (matching_Reachable_l24 g b) (c, d, f, 0)).bind fun (h, i, j) =>
    some (.inl (h, i, j))
  else
    some (.inr (c, d))
def matching_Reachable_j27 (a : Int) (b : BL) (c : LI) : Option ((BL × LI × Int) ⊕ ((BL × LI))) :=
  some (.inl (b, c, wa .i64 a 1))
def matching_Reachable_l4 (d : L2 × LI × LI × BL) : BL × LI × Int → Option ((BL × LI × Int) ⊕ ((BL × LI))) := fun (b, c, a) =>
  if a < (d.2.1.length : Int) then
    (getI d.2.1 a).bind fun e =>
    if e = (-1) then
      (setI b a true).bind fun f =>
      (app c [a]).bind fun g =>
      matching_Reachable_j27 a f g
    else
      matching_Reachable_j27 a b c
  else
    some (.inr (b, c))
def matching_Reachable (a : Int) (b : Int) (d : LI) (e : LI) (f : LI) : Option (BL × BL) :=
  (matching_matched a b d e f).bind fun c =>
  (mkL false a).bind fun g =>
  (mkL false b).bind fun h =>
  (loop (matching_Reachable_l4 c) (h, [], 0)).bind fun (i, j) =>
  (loop (matching_Reachable_l19 c) (g, i, j)).bind fun (k, l) =>
  some (k, l)

def matching_List_j4 (a : Int) (b : LI) : Option ((LI × Int) ⊕ (LI)) :=
  some (.inl (b, wa .i64 a 1))
def matching_List_l3 (c : BL) (d : Bool) : LI × Int → Option ((LI × Int) ⊕ (LI)) := fun (b, a) =>
  if a < (c.length : Int) then
    (getI c a).bind fun e =>
    if (e == d) = true then
      (app b [a]).bind fun f =>
      matching_List_j4 a f
    else
      matching_List_j4 a b
  else
    some (.inr b)
def matching_List (a : BL) (b : Bool) : Option (LI) :=
  (loop (matching_List_l3 a b) ([], 0)).bind fun c =>
  some c

def blocks_rest_j7 (a : Int) (b : LI) : Option ((LI × Int) ⊕ (LI)) :=
  some (.inl (b, wa .i64 a 1))
def blocks_rest_l5 (c : BL) (d : BL) : LI × Int → Option ((LI × Int) ⊕ (LI)) := fun (b, a) =>
  if a < (c.length : Int) then
    (getI c a).bind fun e =>
    (if e = true then
      some false
    else
      (getI d a).bind fun f =>
      some (!(f))).bind fun g =>
    if g = true then
      (app b [a]).bind fun h =>
      blocks_rest_j7 a h
    else
      blocks_rest_j7 a b
  else
    some (.inr b)
def blocks_rest (a : BL) (b : BL) : Option (LI) :=
  (loop (blocks_rest_l5 a b) ([], 0)).bind fun c =>
  some c
end M
