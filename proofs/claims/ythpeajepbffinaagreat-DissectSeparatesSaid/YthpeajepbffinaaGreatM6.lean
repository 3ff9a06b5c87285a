/- Models of functions of the program, printed. -/
import Derived.Test.YthpeajepbffinaaGreatM5
namespace M
open Sx
set_option linter.unusedVariables false
def sparseref13_Reach_j27 (a:Int) (b:BL) (c:LI):Option ((BL×LI×Int)⊕((BL×LI))):=
 some (.inl (b,c,wa .i64 a 1))
def sparseref13_Reach_j26 (a:BL) (b:Int) (c:BL) (d:LI):Option ((BL×BL×LI×Int)⊕((BL×BL×LI))):=
 some (.inl (a,c,d,wa .i64 b 1))
def sparseref13_Reach_l24 (h:LI) (i:Int) (j:LI) (k:LI):BL×BL×LI×Int→Option ((BL×BL×LI×Int)⊕((BL×BL×LI))):=fun (e,a,d,b)=>
 (getI h (wa .i64 i 1)).bind fun l=>
 if b < l then
  (getI j b).bind fun f=>
  (setI e f true).bind fun g=>
  (getI k f).bind fun c=>
  (if (0:Int)≤c then
   (getI a c).bind fun m=>
   some (!(m))
  else
   some false).bind fun n=>
  if n=true then
   (setI a c true).bind fun o=>
   (app d [c]).bind fun p=>
   sparseref13_Reach_j26 g b o p
  else
   sparseref13_Reach_j26 g b a d
 else
  some (.inr (e,a,d))
def sparseref13_Reach_l19 (b:LI) (f:LI) (g:LI):BL×BL×LI→Option ((BL×BL×LI)⊕((BL×BL))):=fun (c,d,a)=>
 if (0:Int) < (a.length:Int) then
  (getI a (ws .i64 (a.length:Int) 1)).bind fun e=>
  (sli a 0 (ws .i64 (a.length:Int) 1)).bind fun h=>
  (getI b e).bind fun i=>
  (loop (sparseref13_Reach_l24 b e f g) (c,d,h,i)).bind fun (j,k,l)=>
  some (.inl (j,k,l))
 else
  some (.inr (c,d))
def sparseref13_Reach_l4 (d:Int) (e:LI):BL×LI×Int→Option ((BL×LI×Int)⊕((BL×LI))):=fun (b,c,a)=>
 if a < d then
  (getI e a).bind fun f=>
  if f < 0 then
   (setI b a true).bind fun g=>
   (app c [a]).bind fun h=>
   sparseref13_Reach_j27 a g h
  else
   sparseref13_Reach_j27 a b c
 else
  some (.inr (b,c))
def sparseref13_Reach (b:Int) (a:Int) (c:LI) (d:LI) (m:LI) (e:LI) (f:LI) (n:BL):Option (BL×BL):=
 (mkL false b).bind fun g=>
 (mkL false a).bind fun h=>
 (loop (sparseref13_Reach_l4 a f) (h,[],0)).bind fun (i,j)=>
 (loop (sparseref13_Reach_l19 c d e) (g,i,j)).bind fun (k,l)=>
 some (k,l)
def sparseref13_Chosen_j4 (a:Int) (b:LI):Option ((LI×Int)⊕(LI)):=
 some (.inl (b,wa .i64 a 1))
def sparseref13_Chosen_l3 (c:BL) (d:Bool):LI×Int→Option ((LI×Int)⊕(LI)):=fun (b,a)=>
 if a < (c.length:Int) then
  (getI c a).bind fun e=>
  if (e == d)=true then
   (app b [a]).bind fun f=>
   sparseref13_Chosen_j4 a f
  else
   sparseref13_Chosen_j4 a b
 else
  some (.inr b)
def sparseref13_Chosen (a:BL) (b:Bool):Option (LI):=
 (loop (sparseref13_Chosen_l3 a b) ([],0)).bind fun c=>
 some c
def sparseref13_Cover (a:Int) (b:Int) (c:LI) (d:LI) (e:LI):Option (LI×LI×Int):=
 (sparseref09_Check a b c d e).bind fun g=>
 if g=0 then
  (sparseref13_Find a b c d e).bind fun f=>
  (sparseref13_Reach a b c d e f.1 f.2.1 f.2.2).bind fun h=>
  (sparseref13_Chosen h.1 true).bind fun i=>
  (sparseref13_Chosen h.2 false).bind fun j=>
  some (i,j,0)
 else
  some ([],[],g)
def sparseref18_Separate_j25 (a:Int) (b:List (Int×Int×Int)):Option (((List (Int×Int×Int))×Int)⊕(((List (Int×Int×Int))))):=
 some (.inl (b,wa .i64 a 1))
def sparseref18_Separate_l24 (c:LI) (e:LI) (d:Int) (f:L2):(List (Int×Int×Int))×Int→Option (((List (Int×Int×Int))×Int)⊕(((List (Int×Int×Int))))):=fun (b,a)=>
 if a < (c.length:Int) then
  (getI e d).bind fun g=>
  (getI f g).bind fun h=>
  (getI c a).bind fun i=>
  (sparsekit_In h i).bind fun j=>
  if j=true then
   (app b [(d,a,0)]).bind fun k=>
   sparseref18_Separate_j25 a k
  else
   sparseref18_Separate_j25 a b
 else
  some (.inr b)
def sparseref18_Separate_j20 (a:Int) (b:LI) (c:LI):Option ((LI×LI×Int)⊕((LI×LI))):=
 some (.inl (b,c,wa .i64 a 1))
def sparseref18_Separate_j21 (a:Int) (b:LI) (c:LI):Option ((LI×LI×Int)⊕((LI×LI))):=
 sparseref18_Separate_j20 a b c
def sparseref18_Separate_l18 (d:LI×Int) (e:BL):LI×LI×Int→Option ((LI×LI×Int)⊕((LI×LI))):=fun (b,c,a)=>
 if a < (d.1.length:Int) then
  (getI e a).bind fun f=>
  if f=true then
   sparseref18_Separate_j20 a b c
  else
   (getI d.1 a).bind fun g=>
   if g=0 then
    (app b [a]).bind fun h=>
    sparseref18_Separate_j21 a h c
   else
    (app c [a]).bind fun i=>
    sparseref18_Separate_j21 a b i
 else
  some (.inr (b,c))
def sparseref18_Separate_l11 (b:LI×LI×Int) (d:LI):BL×Int→Option ((BL×Int)⊕(BL)):=fun (c,a)=>
 if a < (b.2.1.length:Int) then
  (getI b.2.1 a).bind fun e=>
  (getI d e).bind fun f=>
  (setI c f true).bind fun g=>
  some (.inl (g,wa .i64 a 1))
 else
  some (.inr c)
def sparseref18_Separate_l10 (b:LI×LI×Int) (d:LI):BL×Int→Option ((BL×Int)⊕(BL)):=fun (c,a)=>
 if a < (b.1.length:Int) then
  (getI b.1 a).bind fun e=>
  (getI d e).bind fun f=>
  (setI c f true).bind fun g=>
  some (.inl (g,wa .i64 a 1))
 else
  some (.inr c)
def sparseref18_Separate_l9 (b:LI) (d:LI) (e:L2):(List (Int×Int×Int))×Int→Option (((List (Int×Int×Int))×Int)⊕(((List (Int×Int×Int))))):=fun (c,a)=>
 if a < (b.length:Int) then
  (loop (sparseref18_Separate_l24 d b a e) (c,0)).bind fun f=>
  some (.inl (f,wa .i64 a 1))
 else
  some (.inr c)
def sparseref18_Separate (a:L2):Option (LI×LI×LI×Int):=
 (sparseref12_Check a).bind fun g=>
 if g=0 then
  (sparseref18_Ones a).bind fun d=>
  (sparseref18_Bisect FUEL d.1 d.2.1 d.2.2).bind fun c=>
  (sparseref18_border a c.1 0).bind fun e=>
  (sparseref18_border a c.1 1).bind fun f=>
  (loop (sparseref18_Separate_l9 e f a) ([],0)).bind fun j=>
  (sparseref09_Pack (e.length:Int) (f.length:Int) j).bind fun b=>
  (sparseref13_Cover b.1 b.2.1 b.2.2.1 b.2.2.2.1 b.2.2.2.2).bind fun h=>
  (mkL false (c.1.length:Int)).bind fun k=>
  (loop (sparseref18_Separate_l10 h e) (k,0)).bind fun l=>
  (loop (sparseref18_Separate_l11 h f) (l,0)).bind fun i=>
  (sparseref13_Chosen i true).bind fun m=>
  (loop (sparseref18_Separate_l18 c i) ([],[],0)).bind fun (n,o)=>
  some (n,o,m,0)
 else
  some ([],[],[],g)
def graph_NewSets_l1 (c:List BL) (d:Int):(List BL)×Int→Option (((List BL)×Int)⊕(((List BL)))):=fun (b,a)=>
 if a < (c.length:Int) then
  (mkL false d).bind fun e=>
  (setI b a e).bind fun f=>
  some (.inl (f,wa .i64 a 1))
 else
  some (.inr b)
def graph_NewSets (a:Int):Option ((List BL)):=
 (mkL ([]:BL) a).bind fun b=>
 (loop (graph_NewSets_l1 b a) (b,0)).bind fun c=>
 some c
def graph_Sets_Join_j1 (a:List BL):Option ((List BL)):=
 some a
def graph_Sets_Join (b:List BL) (c:Int) (a:Int):Option ((List BL)):=
 if c=a then
  graph_Sets_Join_j1 b
 else
  (getI b c).bind fun e=>
  (getI b a).bind fun j=>
  (setI e a true).bind fun f=>
  (setI b c f).bind fun d=>
  (getI d a).bind fun g=>
  (setI g c true).bind fun h=>
  (setI d a h).bind fun i=>
  graph_Sets_Join_j1 i
def graph_Table_l4 (b:LI) (d:Int):(List BL)×Int→Option (((List BL)×Int)⊕(((List BL)))):=fun (c,a)=>
 if a < (b.length:Int) then
  (getI b a).bind fun e=>
  (graph_Sets_Join c d e).bind fun f=>
  some (.inl (f,wa .i64 a 1))
 else
  some (.inr c)
def graph_Table_l3 (b:L2):(List BL)×Int→Option (((List BL)×Int)⊕(((List BL)))):=fun (c,a)=>
 if a < (b.length:Int) then
  (getI b a).bind fun d=>
  (loop (graph_Table_l4 d a) (c,0)).bind fun e=>
  some (.inl (e,wa .i64 a 1))
 else
  some (.inr c)
def graph_Table (a:L2):Option ((List BL)):=
 (graph_NewSets (a.length:Int)).bind fun b=>
 (loop (graph_Table_l3 a) (b,0)).bind fun c=>
 some c
def mindeg_Start (a:L2):Option ((List BL)×BL):=
 (graph_Table a).bind fun b=>
 (mkL false (a.length:Int)).bind fun c=>
 some (b,c)
def graph_Sets_List_j4 (a:Int) (b:LI):Option ((LI×Int)⊕(LI)):=
 some (.inl (b,wa .i64 a 1))
def graph_Sets_List_l3 (c:BL):LI×Int→Option ((LI×Int)⊕(LI)):=fun (b,a)=>
 if a < (c.length:Int) then
  (getI c a).bind fun d=>
  if d=true then
   (app b [a]).bind fun e=>
   graph_Sets_List_j4 a e
  else
   graph_Sets_List_j4 a b
 else
  some (.inr b)
def graph_Sets_List (a:List BL) (b:Int):Option (LI):=
 (getI a b).bind fun c=>
 (loop (graph_Sets_List_l3 c) ([],0)).bind fun d=>
 some d
def mindeg_Elimination_Eliminate_l4 (b:LI) (d:Int):(List BL)×Int→Option (((List BL)×Int)⊕(((List BL)))):=fun (c,a)=>
 if a < (b.length:Int) then
  (getI b a).bind fun e=>
  (graph_Sets_Join c d e).bind fun f=>
  some (.inl (f,wa .i64 a 1))
 else
  some (.inr c)
def mindeg_Elimination_Eliminate_l3 (d:LI) (a:Int):(List BL)×Int→Option (((List BL)×Int)⊕(((List BL)))):=fun (f,b)=>
 if b < (d.length:Int) then
  (getI d b).bind fun c=>
  (sli d 0 b).bind fun h=>
  (loop (mindeg_Elimination_Eliminate_l4 h c) (f,0)).bind fun e=>
  (getI e c).bind fun i=>
  (getI e a).bind fun n=>
  (setI i a false).bind fun j=>
  (setI e c j).bind fun g=>
  (getI g a).bind fun k=>
  (setI k c false).bind fun l=>
  (setI g a l).bind fun m=>
  some (.inl (m,wa .i64 b 1))
 else
  some (.inr f)
def mindeg_Elimination_Eliminate (b:List BL) (d:BL) (a:Int):Option ((List BL)×BL×LI):=
 (graph_Sets_List b a).bind fun c=>
 (loop (mindeg_Elimination_Eliminate_l3 c a) (b,0)).bind fun e=>
 (setI d a true).bind fun f=>
 some (e,f,c)
def mindeg_Exact_j40 (a:Int) (b:Int) (c:Int):Option ((Int×Int×Int)⊕(Int)):=
 some (.inl (b,c,wa .i64 a 1))
def mindeg_Exact_l36 (e:L2) (f:List BL) (g:BL):Int×Int×Int→Option ((Int×Int×Int)⊕(Int)):=fun (b,c,a)=>
 if a < (e.length:Int) then
  (graph_Sets_List f a).bind fun d=>
  (getI g a).bind fun h=>
  if ((!(h)) && ((decide (b < 0)) || (decide ((d.length:Int) < c))))=true then
   mindeg_Exact_j40 a a (d.length:Int)
  else
   mindeg_Exact_j40 a b c
 else
  some (.inr b)
def mindeg_Exact_l27 (a:L2):(List BL)×BL×LI×Int→Option (((List BL)×BL×LI×Int)⊕(LI)):=fun (b,c,d,e)=>
 if e < (a.length:Int) then
  (loop (mindeg_Exact_l36 a b c) ((-1),0,0)).bind fun f=>
  (mindeg_Elimination_Eliminate b c f).bind fun g=>
  (app d [f]).bind fun h=>
  some (.inl (g.1,g.2.1,h,wa .i64 e 1))
 else
  some (.inr d)
def mindeg_Exact (a:L2):Option (LI×Int):=
 (graph_Check a).bind fun b=>
 if b=0 then
  (mindeg_Start a).bind fun c=>
  (loop (mindeg_Exact_l27 a) (c.1,c.2,[],0)).bind fun d=>
  some (d,0)
 else
  some ([],b)
def graph_Induced_1 (a:Int) (b:L2):Option (Bool):=
 (graph_vertex b a).bind fun c=>
 some (!(c))
def slices_IndexFunc_int_v3_l1 (b:LI) (c:L2):Int→Option ((Int)⊕(Unit⊕Int)):=fun a=>
 if a < (b.length:Int) then
  (getI b a).bind fun d=>
  (graph_Induced_1 d c).bind fun e=>
  if e=true then
   some (.inr (.inr a))
  else
   some (.inl (wa .i64 a 1))
 else
  some (.inr (.inl ()))
def slices_IndexFunc_int_v3 (a:LI) (b:L2):Option (Int):=
 (loop (slices_IndexFunc_int_v3_l1 a b) 0).bind (fun o=>match o with
  | .inl ()=>
   some (-1)
  | .inr c=>
   some c)
def slices_ContainsFunc_int_v3 (a:LI) (b:L2):Option (Bool):=
 (slices_IndexFunc_int_v3 a b).bind fun c=>
 some (decide ((0:Int)≤c))
end M
