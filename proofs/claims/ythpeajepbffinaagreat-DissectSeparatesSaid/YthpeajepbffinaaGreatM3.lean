/- Models of functions of the program, printed. -/
import Derived.Test.YthpeajepbffinaaGreatM2
namespace M
open Sx
set_option linter.unusedVariables false
def matching_Edges_l1 (d:L2) (b:LI) (e:LI):L2×Int→Option ((L2×Int)⊕(L2)):=fun (c,a)=>
 if a < (d.length:Int) then
  (getI b a).bind fun f=>
  (getI b (wa .i64 a 1)).bind fun g=>
  (sli e f g).bind fun h=>
  (setI c a h).bind fun i=>
  some (.inl (i,wa .i64 a 1))
 else
  some (.inr c)
def matching_Edges (f:Int) (b:Int) (c:LI) (d:LI) (g:LI):Option (L2):=
 (mkL ([]:LI) b).bind fun a=>
 (loop (matching_Edges_l1 a c d) (a,0)).bind fun e=>
 some e
def matching_full_l1 (c:LI) (d:Int):LI×Int→Option ((LI×Int)⊕(LI)):=fun (b,a)=>
 if a < (c.length:Int) then
  (setI b a d).bind fun e=>
  some (.inl (e,wa .i64 a 1))
 else
  some (.inr b)
def matching_full (b:Int) (c:Int):Option (LI):=
 (mkL 0 b).bind fun a=>
 (loop (matching_full_l1 a c) (a,0)).bind fun d=>
 some d
def matching_kuhn_try_j12 (a:Int) (b:LI) (c:LI) (d:BL):Option ((LI×LI×BL×Int)⊕((LI×LI×BL)⊕(LI×LI×BL))):=
 some (.inl (b,c,d,wa .i64 a 1))
def matching_kuhn_try_l9 (rec:L2→LI→LI→BL→Int→Option (LI×LI×BL×Bool)) (h:LI) (k:L2) (i:Int):LI×LI×BL×Int→Option ((LI×LI×BL×Int)⊕((LI×LI×BL)⊕(LI×LI×BL))):=fun (d,b,e,f)=>
 if f < (h.length:Int) then
  (getI h f).bind fun c=>
  (getI e c).bind fun l=>
  if l=true then
   matching_kuhn_try_j12 f d b e
  else
   (setI e c true).bind fun j=>
   (getI b c).bind fun m=>
   (if m=(-1) then
    some (true,d,b,j)
   else
    (getI b c).bind fun n=>
    (rec k d b j n).bind fun g=>
    some (g.2.2.2,g.1,g.2.1,g.2.2.1)).bind fun a=>
   if a.1=true then
    (setI a.2.1 i c).bind fun o=>
    (setI a.2.2.1 c i).bind fun p=>
    some (.inr (.inr (o,p,a.2.2.2)))
   else
    matching_kuhn_try_j12 f a.2.1 a.2.2.1 a.2.2.2
 else
  some (.inr (.inl (d,b,e)))
def matching_kuhn_try_body (rec:L2→LI→LI→BL→Int→Option (LI×LI×BL×Bool)) (a:L2) (c:LI) (d:LI) (e:BL) (b:Int):Option (LI×LI×BL×Bool):=
 (getI a b).bind fun f=>
 (loop (matching_kuhn_try_l9 rec f a b) (c,d,e,0)).bind (fun o=>match o with
  | .inl (g,h,i)=>
   some (g,h,i,false)
  | .inr (j,k,l)=>
   some (j,k,l,true))
def matching_kuhn_try:Nat→L2→LI→LI→BL→Int→Option (LI×LI×BL×Bool)
 | 0=>fun _ _ _ _ _=>none
 | n+1=>matching_kuhn_try_body (matching_kuhn_try n)
def matching_matched_l1 (e:Int) (f:Int) (g:L2):LI×LI×BL×Int→Option ((LI×LI×BL×Int)⊕((LI×LI×BL))):=fun (c,d,h,a)=>
 if a < e then
  (mkL false f).bind fun i=>
  (matching_kuhn_try FUEL g c d i a).bind fun b=>
  some (.inl (b.1,b.2.1,b.2.2.1,wa .i64 a 1))
 else
  some (.inr (c,d,h))
def matching_matched (a:Int) (b:Int) (d:LI) (e:LI) (f:LI):Option (L2×LI×LI×BL):=
 (matching_Edges a b d e f).bind fun c=>
 (matching_full b (-1)).bind fun g=>
 (matching_full a (-1)).bind fun h=>
 (loop (matching_matched_l1 b a c) (g,h,[],0)).bind fun (i,j,k)=>
 some (c,i,j,k)
def matching_Reachable_j27 (a:Int) (b:BL) (c:LI):Option ((BL×LI×Int)⊕((BL×LI))):=
 some (.inl (b,c,wa .i64 a 1))
def matching_Reachable_j26 (a:BL) (b:Int) (c:BL) (d:LI):Option ((BL×BL×LI×Int)⊕((BL×BL×LI))):=
 some (.inl (a,c,d,wa .i64 b 1))
def matching_Reachable_l24 (e:LI) (i:L2×LI×LI×BL):BL×BL×LI×Int→Option ((BL×BL×LI×Int)⊕((BL×BL×LI))):=fun (f,a,d,b)=>
 if b < (e.length:Int) then
  (getI e b).bind fun g=>
  (setI f g true).bind fun h=>
  (getI i.2.2.1 g).bind fun c=>
  (if c=(-1) then
   some false
  else
   (getI a c).bind fun j=>
   some (!(j))).bind fun k=>
  if k=true then
   (setI a c true).bind fun l=>
   (app d [c]).bind fun m=>
   matching_Reachable_j26 h b l m
  else
   matching_Reachable_j26 h b a d
 else
  some (.inr (f,a,d))
def matching_Reachable_l19 (b:L2×LI×LI×BL):BL×BL×LI→Option ((BL×BL×LI)⊕((BL×BL))):=fun (c,d,a)=>
 if (0:Int) < (a.length:Int) then
  (getI a 0).bind fun e=>
  (sli a 1 (a.length:Int)).bind fun f=>
  (getI b.1 e).bind fun g=>
  (loop (matching_Reachable_l24 g b) (c,d,f,0)).bind fun (h,i,j)=>
  some (.inl (h,i,j))
 else
  some (.inr (c,d))
def matching_Reachable_l4 (d:L2×LI×LI×BL):BL×LI×Int→Option ((BL×LI×Int)⊕((BL×LI))):=fun (b,c,a)=>
 if a < (d.2.1.length:Int) then
  (getI d.2.1 a).bind fun e=>
  if e=(-1) then
   (setI b a true).bind fun f=>
   (app c [a]).bind fun g=>
   matching_Reachable_j27 a f g
  else
   matching_Reachable_j27 a b c
 else
  some (.inr (b,c))
def matching_Reachable (a:Int) (b:Int) (d:LI) (e:LI) (f:LI):Option (BL×BL):=
 (matching_matched a b d e f).bind fun c=>
 (mkL false a).bind fun g=>
 (mkL false b).bind fun h=>
 (loop (matching_Reachable_l4 c) (h,[],0)).bind fun (i,j)=>
 (loop (matching_Reachable_l19 c) (g,i,j)).bind fun (k,l)=>
 some (k,l)
def matching_List_j4 (a:Int) (b:LI):Option ((LI×Int)⊕(LI)):=
 some (.inl (b,wa .i64 a 1))
def matching_List_l3 (c:BL) (d:Bool):LI×Int→Option ((LI×Int)⊕(LI)):=fun (b,a)=>
 if a < (c.length:Int) then
  (getI c a).bind fun e=>
  if (e == d)=true then
   (app b [a]).bind fun f=>
   matching_List_j4 a f
  else
   matching_List_j4 a b
 else
  some (.inr b)
def matching_List (a:BL) (b:Bool):Option (LI):=
 (loop (matching_List_l3 a b) ([],0)).bind fun c=>
 some c
def matching_Cover (a:Int) (b:Int) (c:LI) (d:LI) (e:LI):Option (LI×LI×Int):=
 (matrix_Check a b c d e).bind fun f=>
 if f=0 then
  (matching_Reachable a b c d e).bind fun g=>
  (matching_List g.1 true).bind fun h=>
  (matching_List g.2 false).bind fun i=>
  some (h,i,0)
 else
  some ([],[],f)
def dissect_cover_j32 (a:Int) (b:LI) (c:LI):Option ((LI×LI×Int)⊕((LI×LI))):=
 some (.inl (b,c,wa .i64 a 1))
def dissect_cover_l30 (d:LI) (e:L2) (f:Int):LI×LI×Int→Option ((LI×LI×Int)⊕((LI×LI))):=fun (b,c,a)=>
 if a < (d.length:Int) then
  (getI d a).bind fun g=>
  (getI e f).bind fun h=>
  (slices_BinarySearch_int h g).bind fun i=>
  if i.2=true then
   (app b [a]).bind fun j=>
   (app c [4607182418800017408]).bind fun k=>
   dissect_cover_j32 a j k
  else
   dissect_cover_j32 a b c
 else
  some (.inr (b,c))
def dissect_cover_l23 (b:LI×LI×Int) (d:LI):BL×Int→Option ((BL×Int)⊕(BL)):=fun (c,a)=>
 if a < (b.2.1.length:Int) then
  (getI b.2.1 a).bind fun e=>
  (getI d e).bind fun f=>
  (setI c f true).bind fun g=>
  some (.inl (g,wa .i64 a 1))
 else
  some (.inr c)
def dissect_cover_l22 (b:LI×LI×Int) (d:LI):BL×Int→Option ((BL×Int)⊕(BL)):=fun (c,a)=>
 if a < (b.1.length:Int) then
  (getI b.1 a).bind fun e=>
  (getI d e).bind fun f=>
  (setI c f true).bind fun g=>
  some (.inl (g,wa .i64 a 1))
 else
  some (.inr c)
def dissect_cover_l21 (b:LI) (g:LI) (h:L2):LI×LI×LI×Int→Option ((LI×LI×LI×Int)⊕((LI×LI×LI))):=fun (c,d,e,a)=>
 if a < (b.length:Int) then
  (getI b a).bind fun i=>
  (loop (dissect_cover_l30 g h i) (d,e,0)).bind fun (f,j)=>
  (app c [(f.length:Int)]).bind fun k=>
  some (.inl (k,f,j,wa .i64 a 1))
 else
  some (.inr (c,d,e))
def dissect_cover (a:L2) (e:LI):Option (BL):=
 (dissect_border a e 0).bind fun b=>
 (dissect_border a e 1).bind fun c=>
 (loop (dissect_cover_l21 c b a) ([0],[],[],0)).bind fun (g,h,i)=>
 (mkL false (a.length:Int)).bind fun f=>
 (matching_Cover (b.length:Int) (c.length:Int) g h i).bind fun d=>
 if d.2.2=0 then
  (loop (dissect_cover_l22 d b) (f,0)).bind fun j=>
  (loop (dissect_cover_l23 d c) (j,0)).bind fun k=>
  some k
 else
  some f
def dissect_separate_j9 (a:Int) (b:LI) (c:LI) (d:LI):Option ((LI×LI×LI×Int)⊕((LI×LI×LI))):=
 some (.inl (b,c,d,wa .i64 a 1))
def dissect_separate_j10 (a:Int) (b:LI) (c:LI) (d:LI):Option ((LI×LI×LI×Int)⊕((LI×LI×LI))):=
 dissect_separate_j9 a c d b
def dissect_separate_l7 (e:L2) (f:BL) (g:LI×Bool):LI×LI×LI×Int→Option ((LI×LI×LI×Int)⊕((LI×LI×LI))):=fun (b,c,d,a)=>
 if a < (e.length:Int) then
  (getI f a).bind fun h=>
  if h=true then
   (app d [a]).bind fun i=>
   dissect_separate_j9 a b c i
  else
   (getI g.1 a).bind fun j=>
   if j=0 then
    (app b [a]).bind fun k=>
    dissect_separate_j10 a d k c
   else
    (app c [a]).bind fun l=>
    dissect_separate_j10 a d b l
 else
  some (.inr (b,c,d))
def dissect_separate (a:L2):Option (LI×LI×LI):=
 (dissect_units a).bind fun b=>
 (dissect_bisect FUEL b.1 b.2.1 b.2.2).bind fun c=>
 (dissect_cover a c.1).bind fun d=>
 (loop (dissect_separate_l7 a d c) ([],[],[],0)).bind fun (e,f,g)=>
 some (e,f,g)
def dissect_Separate (b:L2):Option (LI×LI×LI×Int):=
 (graph_Check b).bind fun c=>
 if c=0 then
  (dissect_separate b).bind fun a=>
  some (a.1,a.2.1,a.2.2,0)
 else
  some ([],[],[],c)
def sparsekit_Ints_l1 (b:LI) (c:LI):Int→Option ((Int)⊕(Unit⊕Unit)):=fun a=>
 if a < (b.length:Int) then
  (getI b a).bind fun d=>
  (getI c a).bind fun e=>
  if d=e then
   some (.inl (wa .i64 a 1))
  else
   some (.inr (.inr ()))
 else
  some (.inr (.inl ()))
def sparsekit_Ints (a:LI) (b:LI):Option (Bool):=
 if (a.length:Int)=(b.length:Int) then
  (loop (sparsekit_Ints_l1 a b) 0).bind (fun o=>match o with
   | .inl ()=>
    some true
   | .inr ()=>
    some false)
 else
  some false
def sparsekit_Split (a:LI) (b:LI) (c:LI) (d:LI) (e:LI) (f:LI):Option (Bool):=
 (sparsekit_Ints a d).bind fun g=>
 (if g=true then
  (sparsekit_Ints b e).bind fun h=>
  some h
 else
  some false).bind fun i=>
 (if i=true then
  (sparsekit_Ints c f).bind fun j=>
  some j
 else
  some false).bind fun k=>
 some k
def dissect_parts_l20 (d:LI) (f:Int) (g:Int):LI×Int×Int×Int→Option ((LI×Int×Int×Int)⊕((LI×Int)⊕Unit)):=fun (b,e,h,c)=>
 if c < (d.length:Int) then
  (getI d c).bind fun a=>
  (if ((decide (a≤h)) || (decide (f≤a)))=true then
   some true
  else
   (getI b a).bind fun i=>
   some (!(decide (i=(-1))))).bind fun j=>
  if j=true then
   some (.inr (.inr ()))
  else
   (setI b a g).bind fun k=>
   some (.inl (k,wa .i64 e 1,a,wa .i64 c 1))
 else
  some (.inr (.inl (b,e)))
def dissect_parts_l15 (b:L2) (e:Int):LI×Int×Int→Option ((LI×Int×Int)⊕((LI×Int)⊕Unit)):=fun (c,d,a)=>
 if a < (b.length:Int) then
  (getI b a).bind fun f=>
  (loop (dissect_parts_l20 f e a) (c,d,(-1),0)).bind (fun o=>match o with
   | .inl (g,h)=>
    some (.inl (g,h,wa .i64 a 1))
   | .inr ()=>
    some (.inr (.inr ())))
 else
  some (.inr (.inl (c,d)))
def dissect_parts (a:Int) (b:L2):Option (LI×Bool):=
 (slices_Repeat_int [(-1)] a).bind fun c=>
 (loop (dissect_parts_l15 b a) (c,0,0)).bind (fun o=>match o with
  | .inl (d,e)=>
   some (d,decide (e=a))
  | .inr ()=>
   some ([],false))
def dissect_Check_l12 (b:LI) (c:LI×Bool) (d:Int):Int→Option ((Int)⊕(Unit⊕Unit)):=fun a=>
 if a < (b.length:Int) then
  (getI b a).bind fun e=>
  (getI c.1 d).bind fun f=>
  (if f=0 then
   (getI c.1 e).bind fun g=>
   some (decide (g=1))
  else
   some false).bind fun h=>
  if h=true then
   some (.inr (.inr ()))
  else
   some (.inl (wa .i64 a 1))
 else
  some (.inr (.inl ()))
def dissect_Check_l9 (b:L2) (c:LI×Bool):Int→Option ((Int)⊕(Unit⊕Unit)):=fun a=>
 if a < (b.length:Int) then
  (getI b a).bind fun d=>
  (loop (dissect_Check_l12 d c a) 0).bind (fun o=>match o with
   | .inl ()=>
    some (.inl (wa .i64 a 1))
   | .inr ()=>
    some (.inr (.inr ())))
 else
  some (.inr (.inl ()))
def dissect_Check (a:L2) (d:LI) (e:LI) (f:LI):Option (Int):=
 (graph_Check a).bind fun b=>
 if b=0 then
  (dissect_parts (a.length:Int) [d,e,f]).bind fun c=>
  if c.2=true then
   (loop (dissect_Check_l9 a c) 0).bind (fun o=>match o with
    | .inl ()=>
     some 0
    | .inr ()=>
     some 180)
  else
   some 180
 else
  some b
end M
