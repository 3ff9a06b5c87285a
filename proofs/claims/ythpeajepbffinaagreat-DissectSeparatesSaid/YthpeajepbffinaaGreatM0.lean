/- Models of functions of the program, printed. -/
import Derived.Test.YthpeajepbffinaaGreatTm
namespace M
open Sx
set_option linter.unusedVariables false
def sparselaw18_smallGraph_l3 (b:L2):Int→Option ((Int)⊕(Unit⊕Unit)):=fun a=>
 if a < (b.length:Int) then
  (getI b a).bind fun c=>
  if (20:Int) < (c.length:Int) then
   some (.inr (.inr ()))
  else
   some (.inl (wa .i64 a 1))
 else
  some (.inr (.inl ()))
def sparselaw18_smallGraph (a:L2) (b:Int):Option (Bool):=
 if (((decide (b < (a.length:Int))) && (decide ((a.length:Int)≤200))) || (decide ((400:Int) < (a.length:Int))))=true then
  some false
 else
  (loop (sparselaw18_smallGraph_l3 a) 0).bind (fun o=>match o with
   | .inl ()=>
    some true
   | .inr ()=>
    some false)
def graph_ascending_l3 (c:LI) (d:Int):Int×Int→Option ((Int×Int)⊕(Unit⊕Unit)):=fun (e,a)=>
 if a < (c.length:Int) then
  (getI c a).bind fun b=>
  if ((decide (b≤e)) || (decide (d≤b)))=true then
   some (.inr (.inr ()))
  else
   some (.inl (b,wa .i64 a 1))
 else
  some (.inr (.inl ()))
def graph_ascending (a:LI) (b:Int):Option (Bool):=
 (loop (graph_ascending_l3 a b) ((-1),0)).bind (fun o=>match o with
  | .inl ()=>
   some true
  | .inr ()=>
   some false)
def cmp_isNaN_int (a:Int):Option (Bool):=
 some (!(decide (a=a)))
def cmp_Less_int (a:Int) (b:Int):Option (Bool):=
 (cmp_isNaN_int a).bind fun c=>
 (if c=true then
  (cmp_isNaN_int b).bind fun d=>
  some (!(d))
 else
  some false).bind fun e=>
 some (e || (decide (a < b)))
def slices_isNaN_int (a:Int):Option (Bool):=
 some (!(decide (a=a)))
def slices_BinarySearch_int_j11 (a:Int) (b:Int):Option ((Int×Int)⊕(Int)):=
 some (.inl (a,b))
def slices_BinarySearch_int_l3 (c:LI) (d:Int):Int×Int→Option ((Int×Int)⊕(Int)):=fun (a,b)=>
 if a < b then
  (getI c (wc .i64 (wsrc .u64 (wc .u64 (wa .i64 a b)) 1))).bind fun e=>
  (cmp_Less_int e d).bind fun f=>
  if f=true then
   slices_BinarySearch_int_j11 (wa .i64 (wc .i64 (wsrc .u64 (wc .u64 (wa .i64 a b)) 1)) 1) b
  else
   slices_BinarySearch_int_j11 a (wc .i64 (wsrc .u64 (wc .u64 (wa .i64 a b)) 1))
 else
  some (.inr a)
def slices_BinarySearch_int (a:LI) (c:Int):Option (Int×Bool):=
 (loop (slices_BinarySearch_int_l3 a c) (0,(a.length:Int))).bind fun b=>
 (if b < (a.length:Int) then
  (getI a b).bind fun d=>
  (if d=c then
   some true
  else
   (getI a b).bind fun e=>
   (slices_isNaN_int e).bind fun f=>
   (if f=true then
    (slices_isNaN_int c).bind fun g=>
    some g
   else
    some false).bind fun h=>
   some h).bind fun i=>
  some i
 else
  some false).bind fun j=>
 some (b,j)
def graph_joined (a:L2) (b:Int) (c:Int):Option (Bool):=
 (getI a b).bind fun d=>
 (slices_BinarySearch_int d c).bind fun e=>
 some e.2
def graph_Check_l7 (b:LI) (c:L2) (d:Int):Int→Option ((Int)⊕(Unit⊕Unit)):=fun a=>
 if a < (b.length:Int) then
  (getI b a).bind fun e=>
  (graph_joined c e d).bind fun f=>
  if f=true then
   some (.inl (wa .i64 a 1))
  else
   some (.inr (.inr ()))
 else
  some (.inr (.inl ()))
def graph_Check_l6 (b:L2):Int→Option ((Int)⊕(Unit⊕Unit)):=fun a=>
 if a < (b.length:Int) then
  (getI b a).bind fun c=>
  (loop (graph_Check_l7 c b a) 0).bind (fun o=>match o with
   | .inl ()=>
    some (.inl (wa .i64 a 1))
   | .inr ()=>
    some (.inr (.inr ())))
 else
  some (.inr (.inl ()))
def graph_Check_l3 (b:L2):Int→Option ((Int)⊕(Unit⊕Unit)):=fun a=>
 if a < (b.length:Int) then
  (getI b a).bind fun c=>
  (graph_ascending c (b.length:Int)).bind fun d=>
  (if d=true then
   (graph_joined b a a).bind fun e=>
   some e
  else
   some true).bind fun f=>
  if f=true then
   some (.inr (.inr ()))
  else
   some (.inl (wa .i64 a 1))
 else
  some (.inr (.inl ()))
def graph_Check (a:L2):Option (Int):=
 if (200:Int) < (a.length:Int) then
  some 6
 else
  (loop (graph_Check_l3 a) 0).bind (fun o=>match o with
   | .inl ()=>
    (loop (graph_Check_l6 a) 0).bind (fun o=>match o with
     | .inl ()=>
      some 0
     | .inr ()=>
      some 1)
   | .inr ()=>
    some 1)
def math_bits_Mul64 (a:Int) (b:Int):Option (Int×Int):=
 some (wa .u64 (wa .u64 (wm .u64 (wsrc .u64 a 32) (wsrc .u64 b 32)) (wsrc .u64 (wa .u64 (wm .u64 (wsrc .u64 a 32) (wand .u64 b 4294967295)) (wsrc .u64 (wm .u64 (wand .u64 a 4294967295) (wand .u64 b 4294967295)) 32)) 32)) (wsrc .u64 (wa .u64 (wand .u64 (wa .u64 (wm .u64 (wsrc .u64 a 32) (wand .u64 b 4294967295)) (wsrc .u64 (wm .u64 (wand .u64 a 4294967295) (wand .u64 b 4294967295)) 32)) 4294967295) (wm .u64 (wand .u64 a 4294967295) (wsrc .u64 b 32))) 32),wm .u64 a b)
def math_bits_Mul (b:Int) (c:Int):Option (Int×Int):=
 (math_bits_Mul64 b c).bind fun a=>
 some (a.1,a.2)
def slices_Repeat_int_l4:LI×Int→Option ((LI×Int)⊕(LI)):=fun (a,b)=>
 if b < (a.length:Int) then
  (sli a b (a.length:Int)).bind fun e=>
  (sli a 0 b).bind fun d=>
  (cpI a b (a.length:Int) d).bind fun c=>
  some (.inl (c.1,wa .i64 b c.2))
 else
  some (.inr a)
def slices_Repeat_int_j3 (c:Int×Int) (d:LI):Option (LI):=
 (mkL 0 (wc .i64 c.2)).bind fun a=>
 (cpI a 0 (a.length:Int) d).bind fun b=>
 (loop (slices_Repeat_int_l4) (b.1,b.2)).bind fun e=>
 some e
def slices_Repeat_int_j1 (b:LI) (c:Int):Option (LI):=
 (math_bits_Mul (wc .u64 (b.length:Int)) (wc .u64 c)).bind fun a=>
 if ((decide ((0:Int) < a.1)) || (decide ((9223372036854775807:Int) < a.2)))=true then
  none
 else
  slices_Repeat_int_j3 a b
def slices_Repeat_int (b:LI) (a:Int):Option (LI):=
 if a < 0 then
  none
 else
  slices_Repeat_int_j1 b a
def dissect_units_l2 (b:L2):L2×Int→Option ((L2×Int)⊕(L2)):=fun (c,a)=>
 if a < (b.length:Int) then
  (getI b a).bind fun d=>
  (slices_Repeat_int [1] (d.length:Int)).bind fun e=>
  (app c [e]).bind fun f=>
  some (.inl (f,wa .i64 a 1))
 else
  some (.inr c)
def dissect_units (a:L2):Option (L2×LI×L2):=
 (slices_Repeat_int [1] (a.length:Int)).bind fun b=>
 (loop (dissect_units_l2 a) ([],0)).bind fun c=>
 some (a,b,c)
def dissect_total_l1 (b:LI):Int×Int→Option ((Int×Int)⊕(Int)):=fun (c,a)=>
 if a < (b.length:Int) then
  (getI b a).bind fun d=>
  some (.inl (wa .i64 c d,wa .i64 a 1))
 else
  some (.inr c)
def dissect_total (a:LI):Option (Int):=
 (loop (dissect_total_l1 a) (0,0)).bind fun b=>
 some b
def graph_levels_j40 (a:Int) (b:BL) (c:LI):Option ((BL×LI×Int)⊕((BL×LI))):=
 some (.inl (b,c,wa .i64 a 1))
def graph_levels_l39 (e:LI):BL×LI×Int→Option ((BL×LI×Int)⊕((BL×LI))):=fun (a,c,b)=>
 if b < (e.length:Int) then
  (getI e b).bind fun d=>
  (getI a d).bind fun f=>
  if f=true then
   graph_levels_j40 b a c
  else
   (setI a d true).bind fun g=>
   (app c [d]).bind fun h=>
   graph_levels_j40 b g h
 else
  some (.inr (a,c))
def graph_levels_l36 (b:LI) (e:L2):BL×LI×Int→Option ((BL×LI×Int)⊕((BL×LI))):=fun (c,d,a)=>
 if a < (b.length:Int) then
  (getI b a).bind fun f=>
  (getI e f).bind fun g=>
  (loop (graph_levels_l39 g) (c,d,0)).bind fun (h,i)=>
  some (.inl (h,i,wa .i64 a 1))
 else
  some (.inr (c,d))
def graph_levels_l27 (c:L2):BL×L2×LI→Option ((BL×L2×LI)⊕(L2)):=fun (d,b,a)=>
 if (0:Int) < (a.length:Int) then
  (app b [a]).bind fun e=>
  (loop (graph_levels_l36 a c) (d,[],0)).bind fun (f,g)=>
  (sortI g).bind fun h=>
  some (.inl (f,e,h))
 else
  some (.inr b)
def graph_levels (a:L2) (b:Int):Option (L2):=
 (mkL false (a.length:Int)).bind fun c=>
 (setI c b true).bind fun d=>
 (loop (graph_levels_l27 a) (d,[],[b])).bind fun e=>
 some e
end M
