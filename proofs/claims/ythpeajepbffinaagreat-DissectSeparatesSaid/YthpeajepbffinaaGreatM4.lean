/- Models of functions of the program, printed. -/
import Derived.Test.YthpeajepbffinaaGreatM3
namespace M
open Sx
set_option linter.unusedVariables false
def sparselaw18_awake:Option (Bool):=
 (dissect_Separate [[1],[0,2],[1,3],[2]]).bind fun a=>
 (if a.2.2.2=0 then
  (sparsekit_Split a.1 a.2.1 a.2.2.1 [0,1] [3] [2]).bind fun b=>
  some b
 else
  some false).bind fun c=>
 (if c=true then
  (dissect_Check [[1],[0,2],[1,3],[2]] a.1 a.2.1 a.2.2.1).bind fun d=>
  some (decide (d=0))
 else
  some false).bind fun e=>
 some e
def sparsekit_TwinInts_l1 (b:LI):LI×Int→Option ((LI×Int)⊕(LI)):=fun (c,a)=>
 if a < (b.length:Int) then
  (getI b a).bind fun d=>
  (app c [d]).bind fun e=>
  some (.inl (e,wa .i64 a 1))
 else
  some (.inr c)
def sparsekit_TwinInts (a:LI):Option (LI):=
 (loop (sparsekit_TwinInts_l1 a) ([],0)).bind fun b=>
 some b
def sparsekit_TwinLists_l1 (b:L2):L2×Int→Option ((L2×Int)⊕(L2)):=fun (c,a)=>
 if a < (b.length:Int) then
  (getI b a).bind fun d=>
  (sparsekit_TwinInts d).bind fun e=>
  (app c [e]).bind fun f=>
  some (.inl (f,wa .i64 a 1))
 else
  some (.inr c)
def sparsekit_TwinLists (a:L2):Option (L2):=
 (loop (sparsekit_TwinLists_l1 a) ([],0)).bind fun b=>
 some b
def sparsekit_TwinGraph (a:L2):Option (L2):=
 (sparsekit_TwinLists a).bind fun b=>
 some b
def sparsekit_Ascending_l1 (b:LI):Int→Option ((Int)⊕(Unit⊕Unit)):=fun a=>
 if a < (b.length:Int) then
  (getI b a).bind fun c=>
  (getI b (ws .i64 a 1)).bind fun d=>
  if c≤d then
   some (.inr (.inr ()))
  else
   some (.inl (wa .i64 a 1))
 else
  some (.inr (.inl ()))
def sparsekit_Ascending (a:LI):Option (Bool):=
 (loop (sparsekit_Ascending_l1 a) 1).bind (fun o=>match o with
  | .inl ()=>
   some true
  | .inr ()=>
   some false)
def sparsekit_In_l1 (b:LI) (c:Int):Int→Option ((Int)⊕(Unit⊕Unit)):=fun a=>
 if a < (b.length:Int) then
  (getI b a).bind fun d=>
  if d=c then
   some (.inr (.inr ()))
  else
   some (.inl (wa .i64 a 1))
 else
  some (.inr (.inl ()))
def sparsekit_In (a:LI) (b:Int):Option (Bool):=
 (loop (sparsekit_In_l1 a b) 0).bind (fun o=>match o with
  | .inl ()=>
   some false
  | .inr ()=>
   some true)
def sparseref12_Check_l28 (a:L2) (b:Int):Int→Option ((Int)⊕(Unit⊕Unit)):=fun d=>
 (getI a b).bind fun e=>
 if d < (e.length:Int) then
  (getI a b).bind fun f=>
  (getI f d).bind fun c=>
  (if (((decide (c < 0)) || (decide ((a.length:Int)≤c))) || (decide (c=b)))=true then
   some true
  else
   (getI a c).bind fun g=>
   (sparsekit_In g b).bind fun h=>
   some (!(h))).bind fun i=>
  if i=true then
   some (.inr (.inr ()))
  else
   some (.inl (wa .i64 d 1))
 else
  some (.inr (.inl ()))
def sparseref12_Check_l21 (b:L2):Int→Option ((Int)⊕(Unit⊕Unit)):=fun a=>
 if a < (b.length:Int) then
  (getI b a).bind fun c=>
  (sparsekit_Ascending c).bind fun d=>
  if d=true then
   (loop (sparseref12_Check_l28 b a) 0).bind (fun o=>match o with
    | .inl ()=>
     some (.inl (wa .i64 a 1))
    | .inr ()=>
     some (.inr (.inr ())))
  else
   some (.inr (.inr ()))
 else
  some (.inr (.inl ()))
def sparseref12_Check (a:L2):Option (Int):=
 if (200:Int) < (a.length:Int) then
  some 6
 else
  (loop (sparseref12_Check_l21 a) 0).bind (fun o=>match o with
   | .inl ()=>
    some 0
   | .inr ()=>
    some 1)
def sparseref18_Ones_l4 (c:L2) (d:Int):LI×Int→Option ((LI×Int)⊕(LI)):=fun (a,b)=>
 (getI c d).bind fun e=>
 if b < (e.length:Int) then
  (app a [1]).bind fun f=>
  some (.inl (f,wa .i64 b 1))
 else
  some (.inr a)
def sparseref18_Ones_l3 (b:L2):LI×L2×Int→Option ((LI×L2×Int)⊕((LI×L2))):=fun (c,d,a)=>
 if a < (b.length:Int) then
  (loop (sparseref18_Ones_l4 b a) ([],0)).bind fun e=>
  (app c [1]).bind fun f=>
  (app d [e]).bind fun g=>
  some (.inl (f,g,wa .i64 a 1))
 else
  some (.inr (c,d))
def sparseref18_Ones (a:L2):Option (L2×LI×L2):=
 (loop (sparseref18_Ones_l3 a) ([],[],0)).bind fun (b,c)=>
 some (a,b,c)
def sparseref18_edge_l1 (c:L2) (b:Int) (d:Int) (e:L2):Int→Option ((Int)⊕(Unit⊕Int)):=fun a=>
 (getI c b).bind fun f=>
 if a < (f.length:Int) then
  (getI c b).bind fun g=>
  (getI g a).bind fun h=>
  if h=d then
   (getI e b).bind fun i=>
   (getI i a).bind fun j=>
   some (.inr (.inr j))
  else
   some (.inl (wa .i64 a 1))
 else
  some (.inr (.inl ()))
def sparseref18_edge (a:L2) (f:LI) (b:L2) (c:Int) (d:Int):Option (Int):=
 (loop (sparseref18_edge_l1 a c d b) 0).bind (fun o=>match o with
  | .inl ()=>
   some 0
  | .inr e=>
   some e)
def sparseref18_CheckWeighted_l57 (c:L2) (a:Int) (e:L2) (f:LI):Int→Option ((Int)⊕(Unit⊕Unit)):=fun b=>
 (getI c a).bind fun g=>
 if b < (g.length:Int) then
  (getI c a).bind fun h=>
  (getI h b).bind fun d=>
  (if d < 1 then
   some true
  else
   some (decide ((1099511627776:Int) < d))).bind fun i=>
  (if i=true then
   some true
  else
   (getI e a).bind fun j=>
   (getI j b).bind fun k=>
   (sparseref18_edge e f c k a).bind fun l=>
   some (!(decide (d=l)))).bind fun m=>
  if m=true then
   some (.inr (.inr ()))
  else
   some (.inl (wa .i64 b 1))
 else
  some (.inr (.inl ()))
def sparseref18_CheckWeighted_l43 (c:L2) (b:LI) (d:L2):Int→Option ((Int)⊕(Unit⊕Unit)):=fun a=>
 if a < (c.length:Int) then
  (getI b a).bind fun e=>
  (if e < 1 then
   some true
  else
   (getI b a).bind fun f=>
   some (decide ((1099511627776:Int) < f))).bind fun g=>
  if g=true then
   some (.inr (.inr ()))
  else
   (loop (sparseref18_CheckWeighted_l57 d a c b) 0).bind (fun o=>match o with
    | .inl ()=>
     some (.inl (wa .i64 a 1))
    | .inr ()=>
     some (.inr (.inr ())))
 else
  some (.inr (.inl ()))
def sparseref18_CheckWeighted_l2 (b:L2) (c:L2):Int→Option ((Int)⊕(Unit⊕Unit)):=fun a=>
 if a < (b.length:Int) then
  (getI c a).bind fun d=>
  (getI b a).bind fun e=>
  if (d.length:Int)=(e.length:Int) then
   some (.inl (wa .i64 a 1))
  else
   some (.inr (.inr ()))
 else
  some (.inr (.inl ()))
def sparseref18_CheckWeighted (a:L2) (c:LI) (b:L2):Option (Int):=
 (sparseref12_Check a).bind fun d=>
 if d=0 then
  if ((!(decide ((c.length:Int)=(a.length:Int)))) || (!(decide ((b.length:Int)=(a.length:Int)))))=true then
   some 1
  else
   (loop (sparseref18_CheckWeighted_l2 a b) 0).bind (fun o=>match o with
    | .inl ()=>
     (loop (sparseref18_CheckWeighted_l43 a c b) 0).bind (fun o=>match o with
      | .inl ()=>
       some 0
      | .inr ()=>
       some 1)
    | .inr ()=>
     some 1)
 else
  some d
def sparseref18_Match_j61 (a:Int) (b:LI):Option ((LI×Int)⊕(LI)):=
 some (.inl (b,wa .i64 a 1))
def sparseref18_Match_j68 (a:Int) (b:Int) (c:Int):Option ((Int×Int×Int)⊕(Int)):=
 some (.inl (b,c,wa .i64 a 1))
def sparseref18_Match_l66 (c:L2) (b:Int) (g:L2) (h:LI):Int×Int×Int→Option ((Int×Int×Int)⊕(Int)):=fun (d,e,a)=>
 (getI c b).bind fun i=>
 if a < (i.length:Int) then
  (getI g b).bind fun j=>
  (getI j a).bind fun f=>
  (getI h f).bind fun k=>
  (if k < 0 then
   (getI c b).bind fun l=>
   (getI l a).bind fun m=>
   some (decide (e < m))
  else
   some false).bind fun n=>
  if n=true then
   (getI c b).bind fun o=>
   (getI o a).bind fun p=>
   sparseref18_Match_j68 a f p
  else
   sparseref18_Match_j68 a d e
 else
  some (.inr d)
def sparseref18_Match_l46 (d:LI) (e:L2) (f:L2):LI×Int→Option ((LI×Int)⊕(LI)):=fun (b,a)=>
 if a < (d.length:Int) then
  (getI b a).bind fun g=>
  if (0:Int)≤g then
   sparseref18_Match_j61 a b
  else
   (loop (sparseref18_Match_l66 e a f b) (a,0,0)).bind fun c=>
   (setI b a c).bind fun h=>
   (setI h c a).bind fun i=>
   sparseref18_Match_j61 a i
 else
  some (.inr b)
def sparseref18_Match_l1 (c:LI):LI×Int→Option ((LI×Int)⊕(LI)):=fun (a,b)=>
 if b < (c.length:Int) then
  (app a [(-1)]).bind fun d=>
  some (.inl (d,wa .i64 b 1))
 else
  some (.inr a)
def sparseref18_Match (b:L2) (a:LI) (c:L2):Option (LI×Int):=
 (sparseref18_CheckWeighted b a c).bind fun d=>
 if d=0 then
  (loop (sparseref18_Match_l1 a) ([],0)).bind fun e=>
  (loop (sparseref18_Match_l46 a c b) (e,0)).bind fun f=>
  some (f,0)
 else
  some ([],d)
def sparseref18_Total_l1 (b:LI):Int×Int→Option ((Int×Int)⊕(Int)):=fun (c,a)=>
 if a < (b.length:Int) then
  (getI b a).bind fun d=>
  some (.inl (wa .i64 c d,wa .i64 a 1))
 else
  some (.inr c)
def sparseref18_Total (c:L2) (a:LI) (d:L2):Option (Int):=
 (loop (sparseref18_Total_l1 a) (0,0)).bind fun b=>
 some b
def sparseref12_Levels_l105 (b:LI) (d:BL):BL×Int→Option ((BL×Int)⊕(BL)):=fun (c,a)=>
 if a < (b.length:Int) then
  (getI b a).bind fun e=>
  (getI b a).bind fun f=>
  (getI c f).bind fun g=>
  (if g=true then
   some true
  else
   (getI b a).bind fun h=>
   (getI d h).bind fun i=>
   some (!(i))).bind fun j=>
  (setI c e j).bind fun k=>
  some (.inl (k,wa .i64 a 1))
 else
  some (.inr c)
def sparseref12_Levels_j98 (a:Int) (b:BL) (c:LI):Option ((BL×LI×Int)⊕((BL×LI))):=
 some (.inl (b,c,wa .i64 a 1))
def sparseref12_Levels_l97 (d:L2) (e:BL):BL×LI×Int→Option ((BL×LI×Int)⊕((BL×LI))):=fun (b,c,a)=>
 if a < (d.length:Int) then
  (getI e a).bind fun f=>
  if f=true then
   (app c [a]).bind fun g=>
   (setI b a true).bind fun h=>
   sparseref12_Levels_j98 a h g
  else
   sparseref12_Levels_j98 a b c
 else
  some (.inr (b,c))
def sparseref12_Levels_l94 (b:LI) (d:L2) (e:BL):BL×Int→Option ((BL×Int)⊕(BL)):=fun (c,a)=>
 if a < (b.length:Int) then
  (getI b a).bind fun f=>
  (getI d f).bind fun g=>
  (loop (sparseref12_Levels_l105 g e) (c,0)).bind fun h=>
  some (.inl (h,wa .i64 a 1))
 else
  some (.inr c)
def sparseref12_Levels_l73 (a:L2):BL×LI×L2→Option ((BL×LI×L2)⊕(L2)):=fun (c,b,d)=>
 if (0:Int) < (b.length:Int) then
  (app d [b]).bind fun e=>
  (mkL false (a.length:Int)).bind fun f=>
  (loop (sparseref12_Levels_l94 b a c) (f,0)).bind fun g=>
  (loop (sparseref12_Levels_l97 a g) (c,[],0)).bind fun (h,i)=>
  some (.inl (h,i,e))
 else
  some (.inr d)
def sparseref12_Levels (a:L2) (b:Int):Option (L2):=
 (sparseref12_Check a).bind fun c=>
 if (((!(decide (c=0))) || (decide (b < 0))) || (decide ((a.length:Int)≤b)))=true then
  some []
 else
  (mkL false (a.length:Int)).bind fun d=>
  (setI d b true).bind fun e=>
  (loop (sparseref12_Levels_l73 a) (e,[b],[])).bind fun f=>
  some f
def sparseref12_Components_j68 (a:Int) (b:BL) (c:L2):Option ((BL×L2×Int)⊕(L2)):=
 some (.inl (b,c,wa .i64 a 1))
def sparseref12_Components_l76 (b:L2) (c:Int):BL×Int→Option ((BL×Int)⊕(BL)):=fun (d,a)=>
 (getI b c).bind fun e=>
 if a < (e.length:Int) then
  (getI b c).bind fun f=>
  (getI f a).bind fun g=>
  (setI d g true).bind fun h=>
  some (.inl (h,wa .i64 a 1))
 else
  some (.inr d)
def sparseref12_Components_j75 (a:Int) (b:BL) (c:LI):Option ((BL×LI×Int)⊕((BL×LI))):=
 some (.inl (b,c,wa .i64 a 1))
def sparseref12_Components_l74 (d:L2) (e:BL):BL×LI×Int→Option ((BL×LI×Int)⊕((BL×LI))):=fun (b,c,a)=>
 if a < (d.length:Int) then
  (getI e a).bind fun f=>
  if f=true then
   (app c [a]).bind fun g=>
   (setI b a true).bind fun h=>
   sparseref12_Components_j75 a h g
  else
   sparseref12_Components_j75 a b c
 else
  some (.inr (b,c))
def sparseref12_Components_l71 (b:L2):BL×Int→Option ((BL×Int)⊕(BL)):=fun (c,a)=>
 if a < (b.length:Int) then
  (loop (sparseref12_Components_l76 b a) (c,0)).bind fun d=>
  some (.inl (d,wa .i64 a 1))
 else
  some (.inr c)
def sparseref12_Components_l51 (b:L2):BL×L2×Int→Option ((BL×L2×Int)⊕(L2)):=fun (c,d,a)=>
 if a < (b.length:Int) then
  (getI c a).bind fun e=>
  if e=true then
   sparseref12_Components_j68 a c d
  else
   (sparseref12_Levels b a).bind fun f=>
   (mkL false (b.length:Int)).bind fun g=>
   (loop (sparseref12_Components_l71 f) (g,0)).bind fun h=>
   (loop (sparseref12_Components_l74 b h) (c,[],0)).bind fun (i,j)=>
   (app d [j]).bind fun k=>
   sparseref12_Components_j68 a i k
 else
  some (.inr d)
def sparseref12_Components (a:L2):Option (L2):=
 (sparseref12_Check a).bind fun b=>
 if b=0 then
  (mkL false (a.length:Int)).bind fun c=>
  (loop (sparseref12_Components_l51 a) (c,[],0)).bind fun d=>
  some d
 else
  some []
end M
