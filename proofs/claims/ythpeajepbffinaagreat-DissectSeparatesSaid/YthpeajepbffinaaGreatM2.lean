/- Models of functions of the program, printed. -/
import Derived.Test.YthpeajepbffinaaGreatM1
namespace M
open Sx
set_option linter.unusedVariables false
def dissect_bisect_j5 (a:L2) (b:LI) (c:L2) (d:LI):Option (LI×Bool):=
 (dissect_refine a b c d).bind fun e=>
 some (e,true)
def dissect_bisect_j8 (a:L2) (b:LI) (c:L2) (d:LI):Option (LI×Bool):=
 dissect_bisect_j5 a b c d
def dissect_bisect_l9 (b:L2×LI×L2×LI×Bool) (d:LI×Bool):LI×Int→Option ((LI×Int)⊕(LI)):=fun (c,a)=>
 if a < (b.2.2.2.1.length:Int) then
  (getI b.2.2.2.1 a).bind fun e=>
  (getI d.1 e).bind fun f=>
  (setI c a f).bind fun g=>
  some (.inl (g,wa .i64 a 1))
 else
  some (.inr c)
def dissect_bisect_body (rec:L2→LI→L2→Option (LI×Bool)) (b:L2) (a:LI) (c:L2):Option (LI×Bool):=
 (dissect_grown b a c).bind fun e=>
 if (8:Int) < (a.length:Int) then
  (dissect_match b a c).bind fun g=>
  (dissect_coarsen b a c g).bind fun d=>
  if d.2.2.2.2=true then
   if (d.2.1.length:Int) < (a.length:Int) then
    (rec d.1 d.2.1 d.2.2.1).bind fun f=>
    if f.2=true then
     (loop (dissect_bisect_l9 d f) (e,0)).bind fun h=>
     dissect_bisect_j8 b a c h
    else
     some ([],false)
   else
    dissect_bisect_j8 b a c e
  else
   some ([],false)
 else
  dissect_bisect_j5 b a c e
def dissect_bisect:Nat→L2→LI→L2→Option (LI×Bool)
 | 0=>fun _ _ _=>none
 | n+1=>dissect_bisect_body (dissect_bisect n)
def dissect_border_1 (a:Int) (b:LI) (c:Int):Option (Bool):=
 (getI b a).bind fun d=>
 some (!(decide (d=c)))
def slices_IndexFunc_int_v2_l1 (b:LI) (c:LI) (d:Int):Int→Option ((Int)⊕(Unit⊕Int)):=fun a=>
 if a < (b.length:Int) then
  (getI b a).bind fun e=>
  (dissect_border_1 e c d).bind fun f=>
  if f=true then
   some (.inr (.inr a))
  else
   some (.inl (wa .i64 a 1))
 else
  some (.inr (.inl ()))
def slices_IndexFunc_int_v2 (a:LI) (b:LI) (c:Int):Option (Int):=
 (loop (slices_IndexFunc_int_v2_l1 a b c) 0).bind (fun o=>match o with
  | .inl ()=>
   some (-1)
  | .inr d=>
   some d)
def slices_ContainsFunc_int_v2 (a:LI) (b:LI) (c:Int):Option (Bool):=
 (slices_IndexFunc_int_v2 a b c).bind fun d=>
 some (decide ((0:Int)≤d))
def dissect_border_j13 (a:Int) (b:LI):Option ((LI×Int)⊕(LI)):=
 some (.inl (b,wa .i64 a 1))
def dissect_border_l9 (c:L2) (d:LI) (e:Int):LI×Int→Option ((LI×Int)⊕(LI)):=fun (b,a)=>
 if a < (c.length:Int) then
  (getI c a).bind fun f=>
  (getI d a).bind fun g=>
  (if g=e then
   (slices_ContainsFunc_int_v2 f d e).bind fun h=>
   some h
  else
   some false).bind fun i=>
  if i=true then
   (app b [a]).bind fun j=>
   dissect_border_j13 a j
  else
   dissect_border_j13 a b
 else
  some (.inr b)
def dissect_border (a:L2) (b:LI) (c:Int):Option (LI):=
 (loop (dissect_border_l9 a b c) ([],0)).bind fun d=>
 some d
def matrix_within (a:Int) (b:Int) (c:Int):Option (Bool):=
 some ((decide (b≤a)) && (decide (a≤c)))
def slices_IsSorted_int_l1 (b:LI):Int→Option ((Int)⊕(Unit⊕Unit)):=fun a=>
 if (0:Int) < a then
  (getI b a).bind fun c=>
  (getI b (ws .i64 a 1)).bind fun d=>
  (cmp_Less_int c d).bind fun e=>
  if e=true then
   some (.inr (.inr ()))
  else
   some (.inl (ws .i64 a 1))
 else
  some (.inr (.inl ()))
def slices_IsSorted_int (a:LI):Option (Bool):=
 (loop (slices_IsSorted_int_l1 a) (ws .i64 (a.length:Int) 1)).bind (fun o=>match o with
  | .inl ()=>
   some true
  | .inr ()=>
   some false)
def matrix_columns_l27 (c:LI) (d:Int):Int×Int→Option ((Int×Int)⊕(Unit⊕Unit)):=fun (e,a)=>
 if a < (c.length:Int) then
  (getI c a).bind fun b=>
  if ((decide (b≤e)) || (decide (d≤b)))=true then
   some (.inr (.inr ()))
  else
   some (.inl (b,wa .i64 a 1))
 else
  some (.inr (.inl ()))
def matrix_columns_l24 (c:Int) (b:LI) (d:LI) (e:Int):Int→Option ((Int)⊕(Unit⊕Unit)):=fun a=>
 if a < c then
  (getI b a).bind fun f=>
  (getI b (wa .i64 a 1)).bind fun g=>
  (sli d f g).bind fun h=>
  (loop (matrix_columns_l27 h e) ((-1),0)).bind (fun o=>match o with
   | .inl ()=>
    some (.inl (wa .i64 a 1))
   | .inr ()=>
    some (.inr (.inr ())))
 else
  some (.inr (.inl ()))
def matrix_columns (d:Int) (b:Int) (a:LI) (c:LI) (e:LI):Option (Bool):=
 (if (a.length:Int)=(wa .i64 b 1) then
  (getI a 0).bind fun f=>
  some (!(decide (f=0)))
 else
  some true).bind fun g=>
 (if g=true then
  some true
 else
  (slices_IsSorted_int a).bind fun h=>
  some (!(h))).bind fun i=>
 (if i=true then
  some true
 else
  (getI a b).bind fun j=>
  some (!(decide (j=(c.length:Int))))).bind fun k=>
 (if k=true then
  some true
 else
  some (!(decide ((c.length:Int)=(e.length:Int))))).bind fun l=>
 if l=true then
  some false
 else
  (loop (matrix_columns_l24 b a c d) 0).bind (fun o=>match o with
   | .inl ()=>
    some true
   | .inr ()=>
    some false)
def float_parts (a:Int):Option (Int×Int):=
 some (wc .i64 (wand .u64 (wsrc .u64 a 52) 2047),wand .u64 a 4503599627370495)
def float_IsFinite (a:Int):Option (Bool):=
 (float_parts a).bind fun b=>
 some (!(decide (b.1=2047)))
def matrix_Check_1 (a:Int):Option (Bool):=
 (float_IsFinite a).bind fun b=>
 some (!(b))
def slices_IndexFunc_apiFloat_l1 (b:LI):Int→Option ((Int)⊕(Unit⊕Int)):=fun a=>
 if a < (b.length:Int) then
  (getI b a).bind fun c=>
  (matrix_Check_1 c).bind fun d=>
  if d=true then
   some (.inr (.inr a))
  else
   some (.inl (wa .i64 a 1))
 else
  some (.inr (.inl ()))
def slices_IndexFunc_apiFloat (a:LI):Option (Int):=
 (loop (slices_IndexFunc_apiFloat_l1 a) 0).bind (fun o=>match o with
  | .inl ()=>
   some (-1)
  | .inr b=>
   some b)
def slices_ContainsFunc_apiFloat (a:LI):Option (Bool):=
 (slices_IndexFunc_apiFloat a).bind fun b=>
 some (decide ((0:Int)≤b))
def matrix_Check (a:Int) (b:Int) (e:LI) (c:LI) (d:LI):Option (Int):=
 (matrix_within a 0 200).bind fun f=>
 (if f=true then
  (matrix_within b 0 200).bind fun g=>
  some (!(g))
 else
  some true).bind fun h=>
 if (h || (decide ((10000:Int) < (c.length:Int))))=true then
  some 6
 else
  (matrix_columns a b e c d).bind fun i=>
  if i=true then
   (slices_ContainsFunc_apiFloat d).bind fun j=>
   if j=true then
    some 4
   else
    some 0
  else
   some 1
end M
