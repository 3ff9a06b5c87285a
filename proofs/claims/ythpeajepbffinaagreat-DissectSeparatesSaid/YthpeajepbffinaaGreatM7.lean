/- Models of functions of the program, printed. -/
import Derived.Test.YthpeajepbffinaaGreatM6
namespace M
open Sx
set_option linter.unusedVariables false
def slices_Values_int (a:LI):Option (Unit):=
 some ()
def slices_Collect_int (a:LI):Option (LI):=
 (colV a).bind fun b=>
 some b
def slices_Sorted_int (a:LI):Option (LI):=
 (slices_Collect_int a).bind fun b=>
 (sortI b).bind fun c=>
 some c
def graph_twice (a:LI):Option (Bool):=
 (slices_Values_int a).bind fun d=>
 (slices_Sorted_int a).bind fun b=>
 (compactI b).bind fun c=>
 some (decide ((c.length:Int) < (a.length:Int)))
def graph_Sets_Graph_l1 (b:List BL):L2×Int→Option ((L2×Int)⊕(L2)):=fun (c,a)=>
 if a < (b.length:Int) then
  (graph_Sets_List b a).bind fun d=>
  (setI c a d).bind fun e=>
  some (.inl (e,wa .i64 a 1))
 else
  some (.inr c)
def graph_Sets_Graph (a:List BL):Option (L2):=
 (mkL ([]:LI) (a.length:Int)).bind fun b=>
 (loop (graph_Sets_Graph_l1 a) (b,0)).bind fun c=>
 some c
def graph_induced_j13 (a:Int) (b:List BL):Option (((List BL)×Int)⊕(((List BL)))):=
 some (.inl (b,wa .i64 a 1))
def graph_induced_l12 (c:LI) (d:L2) (e:Int) (f:Int):(List BL)×Int→Option (((List BL)×Int)⊕(((List BL)))):=fun (b,a)=>
 if a < (c.length:Int) then
  (getI c a).bind fun g=>
  (graph_joined d e g).bind fun h=>
  if h=true then
   (graph_Sets_Join b f a).bind fun i=>
   graph_induced_j13 a i
  else
   graph_induced_j13 a b
 else
  some (.inr b)
def graph_induced_l9 (b:LI) (d:L2):(List BL)×Int→Option (((List BL)×Int)⊕(((List BL)))):=fun (c,a)=>
 if a < (b.length:Int) then
  (getI b a).bind fun e=>
  (sli b 0 a).bind fun f=>
  (loop (graph_induced_l12 f d e a) (c,0)).bind fun g=>
  some (.inl (g,wa .i64 a 1))
 else
  some (.inr c)
def graph_induced (b:L2) (a:LI):Option (L2):=
 (graph_NewSets (a.length:Int)).bind fun c=>
 (loop (graph_induced_l9 a b) (c,0)).bind fun d=>
 (graph_Sets_Graph d).bind fun e=>
 some e
def graph_Induced (a:L2) (b:LI):Option (L2×Int):=
 (graph_Check a).bind fun c=>
 if c=0 then
  (slices_ContainsFunc_int_v3 b a).bind fun d=>
  if d=true then
   some ([],3)
  else
   (graph_twice b).bind fun e=>
   if e=true then
    some ([],90)
   else
    (graph_induced a b).bind fun f=>
    some (f,0)
 else
  some ([],c)
def dissect_dissected_l6 (b:LI) (d:LI):LI×Int→Option ((LI×Int)⊕(LI)):=fun (c,a)=>
 if a < (b.length:Int) then
  (getI b a).bind fun e=>
  (getI d e).bind fun f=>
  (app c [f]).bind fun g=>
  some (.inl (g,wa .i64 a 1))
 else
  some (.inr c)
def dissect_dissected_l5 (rec:L2→Int→Option (LI)) (b:LI) (c:LI) (f:L2) (g:Int):LI×Int→Option ((LI×Int)⊕(LI)):=fun (d,a)=>
 if a < ([b,c].length:Int) then
  (getI [b,c] a).bind fun e=>
  (graph_Induced f e).bind fun h=>
  (rec h.1 g).bind fun i=>
  (loop (dissect_dissected_l6 i e) (d,0)).bind fun j=>
  some (.inl (j,wa .i64 a 1))
 else
  some (.inr d)
def dissect_dissected_j1 (rec:L2→Int→Option (LI)) (a:L2) (d:Int) (b:LI) (c:LI) (e:LI):Option (LI):=
 if ((decide ((b.length:Int)=0)) || (decide ((c.length:Int)=0)))=true then
  (mindeg_Exact a).bind fun f=>
  some f.1
 else
  (loop (dissect_dissected_l5 rec b c a d) ([],0)).bind fun g=>
  (app g e).bind fun h=>
  some h
def dissect_dissected_body (rec:L2→Int→Option (LI)) (a:L2) (b:Int):Option (LI):=
 if b < (a.length:Int) then
  (dissect_separate a).bind fun c=>
  dissect_dissected_j1 rec a b c.1 c.2.1 c.2.2
 else
  dissect_dissected_j1 rec a b [] [] []
def dissect_dissected:Nat→L2→Int→Option (LI)
 | 0=>fun _ _=>none
 | n+1=>dissect_dissected_body (dissect_dissected n)
def dissect_Order (b:L2) (a:Int):Option (LI×Int):=
 (graph_Check b).bind fun c=>
 if c=0 then
  if ((decide (a < 1)) || (decide ((200:Int) < a)))=true then
   some ([],1)
  else
   (dissect_dissected FUEL b a).bind fun d=>
   some (d,0)
 else
  some ([],c)
def sparseref12_Table_l4 (b:L2) (c:Int):BL×Int→Option ((BL×Int)⊕(BL)):=fun (d,a)=>
 (getI b c).bind fun e=>
 if a < (e.length:Int) then
  (getI b c).bind fun f=>
  (getI f a).bind fun g=>
  (setI d g true).bind fun h=>
  some (.inl (h,wa .i64 a 1))
 else
  some (.inr d)
def sparseref12_Table_l3 (a:L2):(List BL)×Int→Option (((List BL)×Int)⊕(((List BL)))):=fun (c,b)=>
 if b < (a.length:Int) then
  (mkL false (a.length:Int)).bind fun d=>
  (loop (sparseref12_Table_l4 a b) (d,0)).bind fun e=>
  (app c [e]).bind fun f=>
  some (.inl (f,wa .i64 b 1))
 else
  some (.inr c)
def sparseref12_Table (a:L2):Option ((List BL)):=
 (loop (sparseref12_Table_l3 a) ([],0)).bind fun b=>
 some b
def sparseref16_Begin (a:L2):Option ((List BL)×BL):=
 (sparseref12_Table a).bind fun b=>
 (mkL false (a.length:Int)).bind fun c=>
 some (b,c)
def sparseref16_Elimination_Neighbours_j7 (a:Int) (b:LI):Option ((LI×Int)⊕(LI)):=
 some (.inl (b,wa .i64 a 1))
def sparseref16_Elimination_Neighbours_l5 (c:List BL) (d:Int) (e:BL):LI×Int→Option ((LI×Int)⊕(LI)):=fun (b,a)=>
 if a < (c.length:Int) then
  (getI c d).bind fun f=>
  (getI f a).bind fun g=>
  (if g=true then
   (getI e a).bind fun h=>
   some (!(h))
  else
   some false).bind fun i=>
  if i=true then
   (app b [a]).bind fun j=>
   sparseref16_Elimination_Neighbours_j7 a j
  else
   sparseref16_Elimination_Neighbours_j7 a b
 else
  some (.inr b)
def sparseref16_Elimination_Neighbours (a:List BL) (b:BL) (c:Int):Option (LI):=
 (loop (sparseref16_Elimination_Neighbours_l5 a c b) ([],0)).bind fun d=>
 some d
def sparseref16_Elimination_Eliminate_j13 (a:Int) (b:List BL):Option (((List BL)×Int)⊕(((List BL)))):=
 some (.inl (b,wa .i64 a 1))
def sparseref16_Elimination_Eliminate_l12 (c:LI) (d:Int):(List BL)×Int→Option (((List BL)×Int)⊕(((List BL)))):=fun (b,a)=>
 if a < (c.length:Int) then
  if d=a then
   sparseref16_Elimination_Eliminate_j13 a b
  else
   (getI c d).bind fun e=>
   (getI b e).bind fun f=>
   (getI c a).bind fun g=>
   (setI f g true).bind fun h=>
   (setI b e h).bind fun i=>
   sparseref16_Elimination_Eliminate_j13 a i
 else
  some (.inr b)
def sparseref16_Elimination_Eliminate_l9 (b:LI):(List BL)×Int→Option (((List BL)×Int)⊕(((List BL)))):=fun (c,a)=>
 if a < (b.length:Int) then
  (loop (sparseref16_Elimination_Eliminate_l12 b a) (c,0)).bind fun d=>
  some (.inl (d,wa .i64 a 1))
 else
  some (.inr c)
def sparseref16_Elimination_Eliminate (a:List BL) (b:BL) (c:Int):Option ((List BL)×BL):=
 (sparseref16_Elimination_Neighbours a b c).bind fun d=>
 (loop (sparseref16_Elimination_Eliminate_l9 d) (a,0)).bind fun e=>
 (setI b c true).bind fun f=>
 some (e,f)
def sparseref16_Exact_j40 (a:Int) (b:Int) (c:Int):Option ((Int×Int×Int)⊕(Int)):=
 some (.inl (b,c,wa .i64 a 1))
def sparseref16_Exact_l36 (f:L2) (g:List BL) (c:BL):Int×Int×Int→Option ((Int×Int×Int)⊕(Int)):=fun (b,d,a)=>
 if a < (f.length:Int) then
  (sparseref16_Elimination_Neighbours g c a).bind fun e=>
  (getI c a).bind fun h=>
  if ((!(h)) && ((decide (b < 0)) || (decide ((e.length:Int) < d))))=true then
   sparseref16_Exact_j40 a a (e.length:Int)
  else
   sparseref16_Exact_j40 a b d
 else
  some (.inr b)
def sparseref16_Exact_l27 (b:L2):(List BL)×BL×LI→Option (((List BL)×BL×LI)⊕(LI)):=fun (c,d,a)=>
 if (a.length:Int) < (b.length:Int) then
  (loop (sparseref16_Exact_l36 b c d) ((-1),0,0)).bind fun e=>
  (sparseref16_Elimination_Eliminate c d e).bind fun f=>
  (app a [e]).bind fun g=>
  some (.inl (f.1,f.2,g))
 else
  some (.inr a)
def sparseref16_Exact (a:L2):Option (LI×Int):=
 (sparseref12_Check a).bind fun b=>
 if b=0 then
  (sparseref16_Begin a).bind fun c=>
  (loop (sparseref16_Exact_l27 a) (c.1,c.2,[])).bind fun d=>
  some (d,0)
 else
  some ([],b)
end M
