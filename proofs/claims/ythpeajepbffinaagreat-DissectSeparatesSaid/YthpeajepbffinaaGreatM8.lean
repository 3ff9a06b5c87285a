/- Models of functions of the program, printed. -/
import Derived.Test.YthpeajepbffinaaGreatM7
namespace M
open Sx
set_option linter.unusedVariables false
def sparseref09_Range_l3 (b:LI) (c:Int):Int→Option ((Int)⊕(Unit⊕Unit)):=fun a=>
 if a < (b.length:Int) then
  (getI b a).bind fun d=>
  (if d < 0 then
   some true
  else
   (getI b a).bind fun e=>
   some (decide (c≤e))).bind fun f=>
  if f=true then
   some (.inr (.inr ()))
  else
   some (.inl (wa .i64 a 1))
 else
  some (.inr (.inl ()))
def sparseref09_Range (a:LI) (b:Int):Option (Bool):=
 (loop (sparseref09_Range_l3 a b) 0).bind (fun o=>match o with
  | .inl ()=>
   some true
  | .inr ()=>
   some false)
def sparseref09_Twice_l1 (b:LI):Int→Option ((Int)⊕(Unit⊕Unit)):=fun a=>
 if a < (b.length:Int) then
  (sli b 0 a).bind fun c=>
  (getI b a).bind fun d=>
  (sparsekit_In c d).bind fun e=>
  if e=true then
   some (.inr (.inr ()))
  else
   some (.inl (wa .i64 a 1))
 else
  some (.inr (.inl ()))
def sparseref09_Twice (a:LI):Option (Bool):=
 (loop (sparseref09_Twice_l1 a) 0).bind (fun o=>match o with
  | .inl ()=>
   some false
  | .inr ()=>
   some true)
def sparseref12_empty_l1 (a:Int):(List BL)×Int→Option (((List BL)×Int)⊕(((List BL)))):=fun (b,c)=>
 if c < a then
  (mkL false a).bind fun d=>
  (app b [d]).bind fun e=>
  some (.inl (e,wa .i64 c 1))
 else
  some (.inr b)
def sparseref12_empty (a:Int):Option ((List BL)):=
 (loop (sparseref12_empty_l1 a) ([],0)).bind fun b=>
 some b
def sparseref12_FromTable_j40 (a:Int) (b:LI):Option ((LI×Int)⊕(LI)):=
 some (.inl (b,wa .i64 a 1))
def sparseref12_FromTable_l36 (b:List BL) (c:Int):LI×Int→Option ((LI×Int)⊕(LI)):=fun (d,a)=>
 if a < (b.length:Int) then
  (if c=a then
   some false
  else
   (getI b c).bind fun e=>
   (getI e a).bind fun f=>
   (if f=true then
    some true
   else
    (getI b a).bind fun g=>
    (getI g c).bind fun h=>
    some h).bind fun i=>
   some i).bind fun j=>
  if j=true then
   (app d [a]).bind fun k=>
   sparseref12_FromTable_j40 a k
  else
   sparseref12_FromTable_j40 a d
 else
  some (.inr d)
def sparseref12_FromTable_l27 (b:List BL):L2×Int→Option ((L2×Int)⊕(L2)):=fun (c,a)=>
 if a < (b.length:Int) then
  (loop (sparseref12_FromTable_l36 b a) ([],0)).bind fun d=>
  (app c [d]).bind fun e=>
  some (.inl (e,wa .i64 a 1))
 else
  some (.inr c)
def sparseref12_FromTable (a:List BL):Option (L2):=
 (loop (sparseref12_FromTable_l27 a) ([],0)).bind fun b=>
 some b
def sparseref12_Induced_l4 (b:LI) (c:Int) (e:(List BL)):(List BL)×Int→Option (((List BL)×Int)⊕(((List BL)))):=fun (d,a)=>
 if a < (b.length:Int) then
  (getI d c).bind fun f=>
  (getI b c).bind fun g=>
  (getI e g).bind fun h=>
  (getI b a).bind fun i=>
  (getI h i).bind fun j=>
  (setI f a j).bind fun k=>
  (setI d c k).bind fun l=>
  some (.inl (l,wa .i64 a 1))
 else
  some (.inr d)
def sparseref12_Induced_l3 (b:LI) (d:(List BL)):(List BL)×Int→Option (((List BL)×Int)⊕(((List BL)))):=fun (c,a)=>
 if a < (b.length:Int) then
  (loop (sparseref12_Induced_l4 b a d) (c,0)).bind fun e=>
  some (.inl (e,wa .i64 a 1))
 else
  some (.inr c)
def sparseref12_Induced (b:L2) (a:LI):Option (L2×Int):=
 (sparseref12_Check b).bind fun c=>
 if c=0 then
  (sparseref09_Range a (b.length:Int)).bind fun d=>
  if d=true then
   (sparseref09_Twice a).bind fun e=>
   if e=true then
    some ([],90)
   else
    (sparseref12_Table b).bind fun f=>
    (sparseref12_empty (a.length:Int)).bind fun g=>
    (loop (sparseref12_Induced_l3 a f) (g,0)).bind fun h=>
    (sparseref12_FromTable h).bind fun i=>
    some (i,0)
  else
   some ([],3)
 else
  some ([],c)
def sparseref18_part_l1 (b:LI×Int) (d:LI):LI×Int→Option ((LI×Int)⊕(LI)):=fun (c,a)=>
 if a < (b.1.length:Int) then
  (getI b.1 a).bind fun e=>
  (getI d e).bind fun f=>
  (app c [f]).bind fun g=>
  some (.inl (g,wa .i64 a 1))
 else
  some (.inr c)
def sparseref18_part (rec:L2→Int→Option (LI×Int)) (b:L2) (a:LI) (c:Int):Option (LI):=
 (sparseref12_Induced b a).bind fun d=>
 (rec d.1 c).bind fun e=>
 (loop (sparseref18_part_l1 e a) ([],0)).bind fun f=>
 some f
def sparseref18_Order_body (rec:L2→Int→Option (LI×Int)) (a:L2) (b:Int):Option (LI×Int):=
 (sparseref12_Check a).bind fun d=>
 if d=0 then
  if ((decide (b < 1)) || (decide ((200:Int) < b)))=true then
   some ([],1)
  else
   (sparseref18_Separate a).bind fun c=>
   if (((decide ((a.length:Int)≤b)) || (decide ((c.1.length:Int)=0))) || (decide ((c.2.1.length:Int)=0)))=true then
    (sparseref16_Exact a).bind fun e=>
    some (e.1,e.2)
   else
    (sparseref18_part rec a c.1 b).bind fun f=>
    (sparseref18_part rec a c.2.1 b).bind fun g=>
    (app f g).bind fun h=>
    (app h c.2.2.1).bind fun i=>
    some (i,0)
 else
  some ([],d)
def sparseref18_Order:Nat→L2→Int→Option (LI×Int)
 | 0=>fun _ _=>none
 | n+1=>sparseref18_Order_body (sparseref18_Order n)
def sparsekit_Perm_l5 (c:Int) (b:LI):BL×Int→Option ((BL×Int)⊕(Unit⊕Unit)):=fun (d,a)=>
 if a < c then
  (getI b a).bind fun e=>
  (if e < 0 then
   some true
  else
   (getI b a).bind fun f=>
   some (decide (c≤f))).bind fun g=>
  (if g=true then
   some true
  else
   (getI b a).bind fun h=>
   (getI d h).bind fun i=>
   some i).bind fun j=>
  if j=true then
   some (.inr (.inr ()))
  else
   (getI b a).bind fun k=>
   (setI d k true).bind fun l=>
   some (.inl (l,wa .i64 a 1))
 else
  some (.inr (.inl ()))
def sparsekit_Perm (b:LI) (a:Int):Option (Bool):=
 if (b.length:Int)=a then
  (mkL false a).bind fun c=>
  (loop (sparsekit_Perm_l5 a b) (c,0)).bind (fun o=>match o with
   | .inl ()=>
    some true
   | .inr ()=>
    some false)
 else
  some false
def sparseref18_Check_l7 (b:LI) (c:LI) (d:Int) (e:L2):Int→Option ((Int)⊕(Unit⊕Unit)):=fun a=>
 if a < (b.length:Int) then
  (getI c d).bind fun f=>
  (getI e f).bind fun g=>
  (getI b a).bind fun h=>
  (sparsekit_In g h).bind fun i=>
  if i=true then
   some (.inr (.inr ()))
  else
   some (.inl (wa .i64 a 1))
 else
  some (.inr (.inl ()))
def sparseref18_Check_l6 (b:LI) (c:LI) (d:L2):Int→Option ((Int)⊕(Unit⊕Unit)):=fun a=>
 if a < (b.length:Int) then
  (loop (sparseref18_Check_l7 c b a d) 0).bind (fun o=>match o with
   | .inl ()=>
    some (.inl (wa .i64 a 1))
   | .inr ()=>
    some (.inr (.inr ())))
 else
  some (.inr (.inl ()))
def sparseref18_Check (a:L2) (b:LI) (c:LI) (d:LI):Option (Int):=
 (sparseref12_Check a).bind fun e=>
 if e=0 then
  (sparsekit_TwinInts b).bind fun f=>
  (app f c).bind fun g=>
  (app g d).bind fun h=>
  (sparsekit_Perm h (a.length:Int)).bind fun i=>
  (if i=true then
   (sparsekit_Ascending b).bind fun j=>
   some (!(j))
  else
   some true).bind fun k=>
  (if k=true then
   some true
  else
   (sparsekit_Ascending c).bind fun l=>
   some (!(l))).bind fun m=>
  (if m=true then
   some true
  else
   (sparsekit_Ascending d).bind fun n=>
   some (!(n))).bind fun p=>
  if p=true then
   some 180
  else
   (loop (sparseref18_Check_l6 b c a) 0).bind (fun o=>match o with
    | .inl ()=>
     some 0
    | .inr ()=>
     some 180)
 else
  some e
def sparsekit_Lists_l1 (b:L2) (c:L2):Int→Option ((Int)⊕(Unit⊕Unit)):=fun a=>
 if a < (b.length:Int) then
  (getI b a).bind fun d=>
  (getI c a).bind fun e=>
  (sparsekit_Ints d e).bind fun f=>
  if f=true then
   some (.inl (wa .i64 a 1))
  else
   some (.inr (.inr ()))
 else
  some (.inr (.inl ()))
def sparsekit_Lists (a:L2) (b:L2):Option (Bool):=
 if (a.length:Int)=(b.length:Int) then
  (loop (sparsekit_Lists_l1 a b) 0).bind (fun o=>match o with
   | .inl ()=>
    some true
   | .inr ()=>
    some false)
 else
  some false
def sparsekit_Graph (a:L2) (b:L2):Option (Bool):=
 (sparsekit_Lists a b).bind fun c=>
 some c
def sparselaw18_DissectSeparates (a:L2) (e:LI) (f:LI) (g:LI) (h:Int):Option (Bool):=
 (sparselaw18_smallGraph a 10).bind fun k=>
 if ((((!(k)) || (decide ((20:Int) < (e.length:Int)))) || (decide ((20:Int) < (f.length:Int)))) || (decide ((20:Int) < (g.length:Int))))=true then
  (sparselaw18_awake).bind fun l=>
  some l
 else
  (sparsekit_TwinGraph a).bind fun b=>
  (dissect_Separate b).bind fun c=>
  (sparseref18_Separate a).bind fun d=>
  (dissect_Order b h).bind fun i=>
  (sparseref18_Order FUEL a h).bind fun j=>
  (sparsekit_Split c.1 c.2.1 c.2.2.1 d.1 d.2.1 d.2.2.1).bind fun m=>
  (if m=true then
   some (decide (c.2.2.2=d.2.2.2))
  else
   some false).bind fun n=>
  (if n=true then
   (dissect_Check b e f g).bind fun o=>
   (sparseref18_Check a e f g).bind fun p=>
   some (decide (o=p))
  else
   some false).bind fun q=>
  (if q=true then
   (sparsekit_Ints i.1 j.1).bind fun r=>
   some r
  else
   some false).bind fun s=>
  (if s=true then
   some (decide (i.2=j.2))
  else
   some false).bind fun t=>
  (if t=true then
   (sparsekit_Graph b a).bind fun u=>
   some u
  else
   some false).bind fun v=>
  (if v=true then
   (sparselaw18_awake).bind fun w=>
   some w
  else
   some false).bind fun x=>
  some x
end M
