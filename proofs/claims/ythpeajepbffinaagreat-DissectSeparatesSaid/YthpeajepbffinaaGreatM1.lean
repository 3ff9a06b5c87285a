/- Models of functions of the program, printed. -/
import Derived.Test.YthpeajepbffinaaGreatM0
namespace M
open Sx
set_option linter.unusedVariables false
def slices_Grow_int_j2 (a:LI):Option (LI):=
 some a
def slices_Grow_int_j1 (a:Int):Option (LI):=
 if (0:Int) < (ws .i64 a (ws .i64 0 0)) then
  (mkLp 0 (ws .i64 a (ws .i64 0 0))).bind fun b=>
  (sli b 0 0).bind fun c=>
  slices_Grow_int_j2 c
 else
  slices_Grow_int_j2 []
def slices_Grow_int (a:Int):Option (LI):=
 if a < 0 then
  none
 else
  slices_Grow_int_j1 a
def slices_Concat_int_j5 (a:Int) (b:LI) (c:Int):Option ((Int×Int)⊕(Int)):=
 some (.inl (wa .i64 a (b.length:Int),wa .i64 c 1))
def slices_Concat_int_l4 (b:L2):LI×Int→Option ((LI×Int)⊕(LI)):=fun (c,a)=>
 if a < (b.length:Int) then
  (getI b a).bind fun d=>
  (app c d).bind fun e=>
  some (.inl (e,wa .i64 a 1))
 else
  some (.inr c)
def slices_Concat_int_l3 (c:L2):Int×Int→Option ((Int×Int)⊕(Int)):=fun (a,b)=>
 if b < (c.length:Int) then
  (getI c b).bind fun d=>
  if (wa .i64 a (d.length:Int)) < 0 then
   none
  else
   slices_Concat_int_j5 a d b
 else
  some (.inr a)
def slices_Concat_int (a:L2):Option (LI):=
 (loop (slices_Concat_int_l3 a) (0,0)).bind fun b=>
 (slices_Grow_int b).bind fun c=>
 (loop (slices_Concat_int_l4 a) (c,0)).bind fun d=>
 some d
def graph_Components_j12 (a:Int) (b:BL) (c:L2):Option ((BL×L2×Int)⊕(L2)):=
 some (.inl (b,c,wa .i64 a 1))
def graph_Components_l13 (b:LI):BL×Int→Option ((BL×Int)⊕(BL)):=fun (c,a)=>
 if a < (b.length:Int) then
  (getI b a).bind fun d=>
  (setI c d true).bind fun e=>
  some (.inl (e,wa .i64 a 1))
 else
  some (.inr c)
def graph_Components_l9 (d:L2):BL×L2×Int→Option ((BL×L2×Int)⊕(L2)):=fun (b,c,a)=>
 if a < (d.length:Int) then
  (getI b a).bind fun f=>
  if f=true then
   graph_Components_j12 a b c
  else
   (graph_levels d a).bind fun g=>
   (slices_Concat_int g).bind fun h=>
   (sortI h).bind fun e=>
   (loop (graph_Components_l13 e) (b,0)).bind fun i=>
   (app c [e]).bind fun j=>
   graph_Components_j12 a i j
 else
  some (.inr c)
def graph_Components (a:L2):Option (L2):=
 (graph_Check a).bind fun b=>
 if b=0 then
  (mkL false (a.length:Int)).bind fun c=>
  (loop (graph_Components_l9 a) (c,[],0)).bind fun d=>
  some d
 else
  some []
def graph_vertex (b:L2) (a:Int):Option (Bool):=
 some ((decide ((0:Int)≤a)) && (decide (a < (b.length:Int))))
def graph_Peripheral_j14 (a:Int) (b:Int):Option ((Int×Int)⊕(Int)):=
 some (.inl (b,wa .i64 a 1))
def graph_Peripheral_l13 (c:LI) (d:L2):Int×Int→Option ((Int×Int)⊕(Int)):=fun (b,a)=>
 if a < (c.length:Int) then
  (getI c a).bind fun e=>
  (getI d e).bind fun f=>
  (getI d b).bind fun g=>
  if (f.length:Int) < (g.length:Int) then
   graph_Peripheral_j14 a e
  else
   graph_Peripheral_j14 a b
 else
  some (.inr b)
def graph_Peripheral_l10 (b:L2):Int×L2→Option ((Int×L2)⊕(Int)):=fun (f,a)=>
 (getI a (ws .i64 (a.length:Int) 1)).bind fun c=>
 (getI c 0).bind fun g=>
 (loop (graph_Peripheral_l13 c b) (g,0)).bind fun d=>
 (graph_levels b d).bind fun e=>
 if (e.length:Int)≤(a.length:Int) then
  some (.inr f)
 else
  some (.inl (d,e))
def graph_Peripheral (a:L2) (b:Int):Option (Int):=
 (graph_Check a).bind fun c=>
 (if c=0 then
  (graph_vertex a b).bind fun d=>
  some (!(d))
 else
  some true).bind fun e=>
 if e=true then
  some (-1)
 else
  (graph_levels a b).bind fun f=>
  (loop (graph_Peripheral_l10 a) (b,f)).bind fun g=>
  some g
def graph_Levels (a:L2) (b:Int):Option (L2):=
 (graph_Check a).bind fun c=>
 (if c=0 then
  (graph_vertex a b).bind fun d=>
  some (!(d))
 else
  some true).bind fun e=>
 if e=true then
  some []
 else
  (graph_levels a b).bind fun f=>
  some f
def dissect_grown_l4 (d:LI) (f:Int) (g:LI):LI×Int×Int→Option ((LI×Int×Int)⊕((LI×Int)⊕(LI))):=fun (a,b,c)=>
 if c < (d.length:Int) then
  (getI d c).bind fun e=>
  if f≤(wm .i64 2 b) then
   some (.inr (.inr a))
  else
   (setI a e 0).bind fun h=>
   (getI g e).bind fun i=>
   some (.inl (h,wa .i64 b i,wa .i64 c 1))
 else
  some (.inr (.inl (a,b)))
def dissect_grown_l3 (c:L2) (d:L2) (f:Int) (g:LI):LI×Int×Int→Option ((LI×Int×Int)⊕((LI)⊕(LI))):=fun (e,h,a)=>
 if a < (c.length:Int) then
  (getI c a).bind fun i=>
  (getI i 0).bind fun j=>
  (graph_Peripheral d j).bind fun k=>
  (graph_Levels d k).bind fun l=>
  (slices_Concat_int l).bind fun m=>
  (loop (dissect_grown_l4 m f g) (e,h,0)).bind (fun o=>match o with
   | .inl (b,n)=>
    some (.inl (b,n,wa .i64 a 1))
   | .inr b=>
    some (.inr (.inr b)))
 else
  some (.inr (.inl e))
def dissect_grown (b:L2) (a:LI) (h:L2):Option (LI):=
 (slices_Repeat_int [1] (a.length:Int)).bind fun c=>
 (dissect_total a).bind fun d=>
 (graph_Components b).bind fun e=>
 (loop (dissect_grown_l3 e b d a) (c,0,0)).bind (fun o=>match o with
  | .inl f=>
   some f
  | .inr g=>
   some g)
def dissect_match_j60 (a:Int) (b:LI):Option ((LI×Int)⊕(LI)):=
 some (.inl (b,wa .i64 a 1))
def dissect_match_j67 (a:Int) (b:Int) (c:Int):Option ((Int×Int×Int)⊕(Int)):=
 some (.inl (b,c,wa .i64 a 1))
def dissect_match_l65 (b:LI) (h:LI) (c:L2) (d:Int):Int×Int×Int→Option ((Int×Int×Int)⊕(Int)):=fun (e,f,a)=>
 if a < (b.length:Int) then
  (getI b a).bind fun g=>
  (getI h g).bind fun i=>
  (if i=(-1) then
   (getI c d).bind fun j=>
   (getI j a).bind fun k=>
   some (decide (f < k))
  else
   some false).bind fun l=>
  if l=true then
   (getI c d).bind fun m=>
   (getI m a).bind fun n=>
   dissect_match_j67 a g n
  else
   dissect_match_j67 a e f
 else
  some (.inr e)
def dissect_match_l45 (c:L2) (e:L2):LI×Int→Option ((LI×Int)⊕(LI)):=fun (b,a)=>
 if a < (c.length:Int) then
  (getI c a).bind fun f=>
  (getI b a).bind fun g=>
  if g=(-1) then
   (loop (dissect_match_l65 f b e a) (a,0,0)).bind fun d=>
   (setI b a d).bind fun h=>
   (setI h d a).bind fun i=>
   dissect_match_j60 a i
  else
   dissect_match_j60 a b
 else
  some (.inr b)
def dissect_match (a:L2) (b:LI) (c:L2):Option (LI):=
 (slices_Repeat_int [(-1)] (b.length:Int)).bind fun d=>
 (loop (dissect_match_l45 a c) (d,0)).bind fun e=>
 some e
def dissect_weights_1 (a:Int):Option (Bool):=
 some ((decide (a < 1)) || (decide ((1099511627776:Int) < a)))
def slices_IndexFunc_int_l1 (b:LI):Int→Option ((Int)⊕(Unit⊕Int)):=fun a=>
 if a < (b.length:Int) then
  (getI b a).bind fun c=>
  (dissect_weights_1 c).bind fun d=>
  if d=true then
   some (.inr (.inr a))
  else
   some (.inl (wa .i64 a 1))
 else
  some (.inr (.inl ()))
def slices_IndexFunc_int (a:LI):Option (Int):=
 (loop (slices_IndexFunc_int_l1 a) 0).bind (fun o=>match o with
  | .inl ()=>
   some (-1)
  | .inr b=>
   some b)
def slices_ContainsFunc_int (a:LI):Option (Bool):=
 (slices_IndexFunc_int a).bind fun b=>
 some (decide ((0:Int)≤b))
def dissect_weights (a:LI):Option (Bool):=
 (slices_ContainsFunc_int a).bind fun b=>
 some (!(b))
def dissect_coarsen_j50 (a:Int) (b:LI) (c:LI):Option ((LI×LI×Int)⊕((LI×LI))):=
 some (.inl (b,c,wa .i64 a 1))
def dissect_coarsen_l49 (c:LI) (d:LI) (e:Int) (i:L2):L2×Int→Option ((L2×Int)⊕(L2)):=fun (b,a)=>
 if a < (c.length:Int) then
  (getI c a).bind fun j=>
  (getI d e).bind fun f=>
  (getI b f).bind fun g=>
  (getI d j).bind fun h=>
  (getI g h).bind fun k=>
  (getI i e).bind fun l=>
  (getI l a).bind fun m=>
  (setI g h (wa .i64 k m)).bind fun n=>
  (setI b f n).bind fun o=>
  some (.inl (o,wa .i64 a 1))
 else
  some (.inr b)
def dissect_coarsen_j47 (a:Int) (b:L2) (c:L2):Option ((L2×L2×Int)⊕((L2×L2))):=
 some (.inl (b,c,wa .i64 a 1))
def dissect_coarsen_l44 (e:LI) (b:Int):L2×L2×Int→Option ((L2×L2×Int)⊕((L2×L2))):=fun (c,d,a)=>
 if a < (e.length:Int) then
  (getI e a).bind fun f=>
  if ((!(decide (b=a))) && (decide ((0:Int) < f)))=true then
   (getI c b).bind fun g=>
   (app g [a]).bind fun h=>
   (getI d b).bind fun i=>
   (app i [f]).bind fun j=>
   (setI c b h).bind fun k=>
   (setI d b j).bind fun l=>
   dissect_coarsen_j47 a k l
  else
   dissect_coarsen_j47 a c d
 else
  some (.inr (c,d))
def dissect_coarsen_l35 (b:L2):L2×L2×Int→Option ((L2×L2×Int)⊕((L2×L2)⊕Unit)):=fun (c,d,a)=>
 if a < (b.length:Int) then
  (getI b a).bind fun f=>
  (loop (dissect_coarsen_l44 f a) (c,d,0)).bind fun (g,e)=>
  (getI e a).bind fun h=>
  (dissect_weights h).bind fun i=>
  if i=true then
   some (.inl (g,e,wa .i64 a 1))
  else
   some (.inr (.inr ()))
 else
  some (.inr (.inl (c,d)))
def dissect_coarsen_l7 (b:L2) (d:LI) (e:L2):L2×Int→Option ((L2×Int)⊕(L2)):=fun (c,a)=>
 if a < (b.length:Int) then
  (getI b a).bind fun f=>
  (loop (dissect_coarsen_l49 f d a e) (c,0)).bind fun g=>
  some (.inl (g,wa .i64 a 1))
 else
  some (.inr c)
def dissect_coarsen_l4 (c:L2) (d:LI):L2×Int→Option ((L2×Int)⊕(L2)):=fun (b,a)=>
 if a < (c.length:Int) then
  (mkL 0 (d.length:Int)).bind fun e=>
  (setI b a e).bind fun f=>
  some (.inl (f,wa .i64 a 1))
 else
  some (.inr b)
def dissect_coarsen_l3 (d:LI) (e:LI):LI×LI×Int→Option ((LI×LI×Int)⊕((LI×LI))):=fun (b,c,a)=>
 if a < (d.length:Int) then
  (getI d a).bind fun f=>
  if f < a then
   (getI c f).bind fun i=>
   (setI c a i).bind fun g=>
   (getI g a).bind fun h=>
   (getI b h).bind fun j=>
   (getI e a).bind fun k=>
   (setI b h (wa .i64 j k)).bind fun l=>
   dissect_coarsen_j50 a l g
  else
   (setI c a (b.length:Int)).bind fun m=>
   (getI e a).bind fun n=>
   (app b [n]).bind fun o=>
   dissect_coarsen_j50 a o m
 else
  some (.inr (b,c))
def dissect_coarsen (e:L2) (f:LI) (g:L2) (b:LI):Option (L2×LI×L2×LI×Bool):=
 (mkL 0 (b.length:Int)).bind fun h=>
 (loop (dissect_coarsen_l3 b f) ([],h,0)).bind fun (a,c)=>
 (mkL ([]:LI) (a.length:Int)).bind fun d=>
 (loop (dissect_coarsen_l4 d a) (d,0)).bind fun i=>
 (loop (dissect_coarsen_l7 e c g) (i,0)).bind fun j=>
 (mkL ([]:LI) (a.length:Int)).bind fun k=>
 (mkL ([]:LI) (a.length:Int)).bind fun l=>
 (loop (dissect_coarsen_l35 j) (k,l,0)).bind (fun o=>match o with
  | .inl (m,n)=>
   (dissect_weights a).bind fun p=>
   if p=true then
    some (m,a,n,c,true)
   else
    some ([],[],[],[],false)
  | .inr ()=>
   some ([],[],[],[],false))
def dissect_refine_j77 (a:Int) (b:Int):Option ((Int×Int)⊕(Int)):=
 some (.inl (b,wa .i64 a 1))
def dissect_refine_j76 (a:Int) (b:LI) (c:LI) (d:Bool):Option ((LI×LI×Bool×Int)⊕((LI×LI×Bool))):=
 some (.inl (b,c,d,wa .i64 a 1))
def dissect_refine_l72 (c:LI) (f:LI) (g:Int) (d:L2) (e:Int):Int×Int→Option ((Int×Int)⊕(Int)):=fun (b,a)=>
 if a < (c.length:Int) then
  (getI c a).bind fun h=>
  (getI f h).bind fun i=>
  if i=g then
   (getI d e).bind fun j=>
   (getI j a).bind fun k=>
   dissect_refine_j77 a (ws .i64 b k)
  else
   (getI d e).bind fun l=>
   (getI l a).bind fun m=>
   dissect_refine_j77 a (wa .i64 b m)
 else
  some (.inr b)
def dissect_refine_l69 (h:LI) (i:L2) (j:L2) (e:LI) (k:Int) (l:Int):LI×LI×Bool×Int→Option ((LI×LI×Bool×Int)⊕((LI×LI×Bool))):=fun (c,d,f,a)=>
 if a < (h.length:Int) then
  (getI c a).bind fun b=>
  (getI i a).bind fun m=>
  (loop (dissect_refine_l72 m c b j a) (0,0)).bind fun n=>
  (if (0:Int) < n then
   (getI d (ws .i64 1 b)).bind fun o=>
   (getI e a).bind fun p=>
   some (decide ((wm .i64 3 (wa .i64 o p))≤(wm .i64 2 (wa .i64 k l))))
  else
   some false).bind fun q=>
  if q=true then
   (setI c a (ws .i64 1 b)).bind fun r=>
   (getI d b).bind fun s=>
   (getI e a).bind fun t=>
   (setI d b (ws .i64 s t)).bind fun g=>
   (getI g (ws .i64 1 b)).bind fun u=>
   (getI e a).bind fun v=>
   (setI g (ws .i64 1 b) (wa .i64 u v)).bind fun w=>
   dissect_refine_j76 a r w true
  else
   dissect_refine_j76 a c d f
 else
  some (.inr (c,d,f))
def dissect_refine_l52 (d:L2) (e:L2) (f:LI) (g:Int) (h:Int):LI×LI×Int→Option ((LI×LI×Int)⊕((LI)⊕(LI))):=fun (a,i,b)=>
 if b < 4 then
  (loop (dissect_refine_l69 a d e f g h) (a,i,false,0)).bind fun (c,j,k)=>
  if k=true then
   some (.inl (c,j,wa .i64 b 1))
  else
   some (.inr (.inr c))
 else
  some (.inr (.inl a))
def dissect_refine_l1 (c:LI) (e:LI):LI×Int→Option ((LI×Int)⊕(LI)):=fun (b,a)=>
 if a < (c.length:Int) then
  (getI c a).bind fun d=>
  (getI b d).bind fun f=>
  (getI e a).bind fun g=>
  (setI b d (wa .i64 f g)).bind fun h=>
  some (.inl (h,wa .i64 a 1))
 else
  some (.inr b)
def dissect_refine (d:L2) (b:LI) (e:L2) (c:LI):Option (LI):=
 (loop (dissect_refine_l1 c b) ([0,0],0)).bind fun a=>
 (getI a 0).bind fun f=>
 (getI a 1).bind fun g=>
 (loop (dissect_refine_l52 d e b f g) (c,a,0)).bind (fun o=>match o with
  | .inl h=>
   some h
  | .inr i=>
   some i)
end M
