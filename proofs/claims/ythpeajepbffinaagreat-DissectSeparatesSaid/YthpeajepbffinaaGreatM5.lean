/- Models of functions of the program, printed. -/
import Derived.Test.YthpeajepbffinaaGreatM4
namespace M
open Sx
set_option linter.unusedVariables false
def sparseref12_Peripheral_j15 (a:Int) (b:Int):Option ((Int×Int)⊕(Int)):=
 some (.inl (b,wa .i64 a 1))
def sparseref12_Peripheral_l14 (b:LI) (d:L2):Int×Int→Option ((Int×Int)⊕(Int)):=fun (c,a)=>
 if a < (b.length:Int) then
  (getI b a).bind fun e=>
  (getI d e).bind fun f=>
  (getI d c).bind fun g=>
  if (f.length:Int) < (g.length:Int) then
   (getI b a).bind fun h=>
   sparseref12_Peripheral_j15 a h
  else
   sparseref12_Peripheral_j15 a c
 else
  some (.inr c)
def sparseref12_Peripheral_l11 (a:L2):Int→Option ((Int)⊕(Int)):=fun c=>
 (sparseref12_Levels a c).bind fun b=>
 (getI b (ws .i64 (b.length:Int) 1)).bind fun d=>
 (getI d 0).bind fun f=>
 (loop (sparseref12_Peripheral_l14 d a) (f,1)).bind fun e=>
 (sparseref12_Levels a e).bind fun g=>
 if (g.length:Int)≤(b.length:Int) then
  some (.inr c)
 else
  some (.inl e)
def sparseref12_Peripheral (a:L2) (b:Int):Option (Int):=
 (sparseref12_Check a).bind fun c=>
 if (((!(decide (c=0))) || (decide (b < 0))) || (decide ((a.length:Int)≤b)))=true then
  some (-1)
 else
  (loop (sparseref12_Peripheral_l11 a) b).bind fun d=>
  some d
def sparseref18_Grow_l14 (b:L2) (c:Int) (f:Int) (g:LI):LI×Int×Int→Option ((LI×Int×Int)⊕((LI×Int)⊕(LI))):=fun (d,e,a)=>
 (getI b c).bind fun h=>
 if a < (h.length:Int) then
  if f≤(wm .i64 2 e) then
   some (.inr (.inr d))
  else
   (getI b c).bind fun i=>
   (getI i a).bind fun j=>
   (setI d j 0).bind fun k=>
   (getI b c).bind fun l=>
   (getI l a).bind fun m=>
   (getI g m).bind fun n=>
   some (.inl (k,wa .i64 e n,wa .i64 a 1))
 else
  some (.inr (.inl (d,e)))
def sparseref18_Grow_l13 (c:L2) (f:Int) (g:LI):LI×Int×Int→Option ((LI×Int×Int)⊕((LI×Int)⊕(LI))):=fun (d,e,a)=>
 if a < (c.length:Int) then
  (loop (sparseref18_Grow_l14 c a f g) (d,e,0)).bind (fun o=>match o with
   | .inl (b,h)=>
    some (.inl (b,h,wa .i64 a 1))
   | .inr b=>
    some (.inr (.inr b)))
 else
  some (.inr (.inl (d,e)))
def sparseref18_Grow_l10 (b:L2) (c:L2) (e:Int) (f:LI):LI×Int×Int→Option ((LI×Int×Int)⊕((LI)⊕(LI))):=fun (d,g,a)=>
 if a < (b.length:Int) then
  (getI b a).bind fun h=>
  (getI h 0).bind fun i=>
  (sparseref12_Peripheral c i).bind fun j=>
  (sparseref12_Levels c j).bind fun k=>
  (loop (sparseref18_Grow_l13 k e f) (d,g,0)).bind (fun o=>match o with
   | .inl (l,m)=>
    some (.inl (l,m,wa .i64 a 1))
   | .inr n=>
    some (.inr (.inr n)))
 else
  some (.inr (.inl d))
def sparseref18_Grow_l1:LI×Int→Option ((LI×Int)⊕(LI)):=fun (a,b)=>
 if b < (a.length:Int) then
  (setI a b 1).bind fun c=>
  some (.inl (c,wa .i64 b 1))
 else
  some (.inr a)
def sparseref18_Grow (a:L2) (b:LI) (c:L2):Option (LI):=
 (mkL 0 (b.length:Int)).bind fun d=>
 (loop (sparseref18_Grow_l1) (d,0)).bind fun e=>
 (sparseref18_Total a b c).bind fun f=>
 (sparseref12_Components a).bind fun g=>
 (loop (sparseref18_Grow_l10 g a f b) (e,0,0)).bind (fun o=>match o with
  | .inl h=>
   some h
  | .inr i=>
   some i)
def sparseref18_weightOf_j4 (a:Int) (b:Int):Option ((Int×Int)⊕(Int)):=
 some (.inl (b,wa .i64 a 1))
def sparseref18_weightOf_l3 (c:LI) (d:Int) (e:LI):Int×Int→Option ((Int×Int)⊕(Int)):=fun (b,a)=>
 if a < (c.length:Int) then
  (getI c a).bind fun f=>
  if f=d then
   (getI e a).bind fun g=>
   sparseref18_weightOf_j4 a (wa .i64 b g)
  else
   sparseref18_weightOf_j4 a b
 else
  some (.inr b)
def sparseref18_weightOf (e:L2) (a:LI) (f:L2) (b:LI) (c:Int):Option (Int):=
 (loop (sparseref18_weightOf_l3 b c a) (0,0)).bind fun d=>
 some d
def sparseref18_Refine_j397 (a:Int) (b:LI) (c:Bool):Option ((LI×Bool×Int)⊕((LI×Bool))):=
 some (.inl (b,c,wa .i64 a 1))
def sparseref18_Refine_j404 (a:Int) (b:Int):Option ((Int×Int)⊕(Int)):=
 some (.inl (b,wa .i64 a 1))
def sparseref18_Refine_l400 (c:L2) (b:Int) (f:L2) (e:LI):Int×Int→Option ((Int×Int)⊕(Int)):=fun (d,a)=>
 (getI c b).bind fun g=>
 if a < (g.length:Int) then
  (getI f b).bind fun h=>
  (getI h a).bind fun i=>
  (getI e i).bind fun j=>
  (getI e b).bind fun k=>
  if j=k then
   (getI c b).bind fun l=>
   (getI l a).bind fun m=>
   sparseref18_Refine_j404 a (ws .i64 d m)
  else
   (getI c b).bind fun n=>
   (getI n a).bind fun o=>
   sparseref18_Refine_j404 a (wa .i64 d o)
 else
  some (.inr d)
def sparseref18_Refine_l382 (c:L2) (d:L2) (e:LI) (g:Int):LI×Bool×Int→Option ((LI×Bool×Int)⊕((LI×Bool))):=fun (a,f,b)=>
 if b < (a.length:Int) then
  (loop (sparseref18_Refine_l400 c b d a) (0,0)).bind fun h=>
  (if h≤0 then
   some true
  else
   (getI a b).bind fun i=>
   (sparseref18_weightOf d e c a (ws .i64 1 i)).bind fun j=>
   (getI e b).bind fun k=>
   some (decide ((wm .i64 2 g) < (wm .i64 3 (wa .i64 j k))))).bind fun l=>
  if l=true then
   sparseref18_Refine_j397 b a f
  else
   (getI a b).bind fun m=>
   (setI a b (ws .i64 1 m)).bind fun n=>
   sparseref18_Refine_j397 b n true
 else
  some (.inr (a,f))
def sparseref18_Refine_l337 (d:L2) (e:L2) (f:LI) (g:Int):LI×Int→Option ((LI×Int)⊕(LI)):=fun (a,b)=>
 if b < 4 then
  (loop (sparseref18_Refine_l382 d e f g) (a,false,0)).bind fun (c,h)=>
  if h=true then
   some (.inl (c,wa .i64 b 1))
  else
   some (.inr c)
 else
  some (.inr a)
def sparseref18_Refine (a:L2) (b:LI) (c:L2) (d:LI):Option (LI):=
 (sparsekit_TwinInts d).bind fun e=>
 (sparseref18_Total a b c).bind fun f=>
 (loop (sparseref18_Refine_l337 c a b f) (e,0)).bind fun g=>
 some g
def sparseref18_Coarsen_j54 (a:Int) (b:LI) (c:LI):Option ((LI×LI×Int)⊕((LI×LI))):=
 some (.inl (b,c,wa .i64 a 1))
def sparseref18_Coarsen_l53 (e:L2) (a:Int) (f:LI) (h:L2):L2×Int→Option ((L2×Int)⊕(L2)):=fun (b,c)=>
 (getI e a).bind fun i=>
 if c < (i.length:Int) then
  (getI f a).bind fun d=>
  (getI h a).bind fun j=>
  (getI j c).bind fun k=>
  (getI f k).bind fun g=>
  (getI b d).bind fun l=>
  (getI b d).bind fun m=>
  (getI m g).bind fun n=>
  (getI e a).bind fun o=>
  (getI o c).bind fun p=>
  (setI l g (wa .i64 n p)).bind fun q=>
  (setI b d q).bind fun r=>
  some (.inl (r,wa .i64 c 1))
 else
  some (.inr b)
def sparseref18_Coarsen_j51 (a:Int) (b:LI) (c:LI):Option ((LI×LI×Int)⊕((LI×LI)⊕Unit)):=
 some (.inl (b,c,wa .i64 a 1))
def sparseref18_Coarsen_l48 (f:LI) (b:Int) (c:L2):LI×LI×Int→Option ((LI×LI×Int)⊕((LI×LI)⊕Unit)):=fun (d,e,a)=>
 if a < (f.length:Int) then
  (if b=a then
   some true
  else
   (getI c b).bind fun g=>
   (getI g a).bind fun h=>
   some (decide (h=0))).bind fun i=>
  if i=true then
   sparseref18_Coarsen_j51 a d e
  else
   (getI c b).bind fun j=>
   (getI j a).bind fun k=>
   if (1099511627776:Int) < k then
    some (.inr (.inr ()))
   else
    (app d [a]).bind fun l=>
    (getI c b).bind fun m=>
    (getI m a).bind fun n=>
    (app e [n]).bind fun o=>
    sparseref18_Coarsen_j51 a l o
 else
  some (.inr (.inl (d,e)))
def sparseref18_Coarsen_l39 (b:LI) (e:L2):L2×L2×Int→Option ((L2×L2×Int)⊕((L2×L2)⊕Unit)):=fun (c,d,a)=>
 if a < (b.length:Int) then
  (getI b a).bind fun f=>
  if (1099511627776:Int) < f then
   some (.inr (.inr ()))
  else
   (loop (sparseref18_Coarsen_l48 b a e) ([],[],0)).bind (fun o=>match o with
    | .inl (g,h)=>
     (app c [g]).bind fun i=>
     (app d [h]).bind fun j=>
     some (.inl (i,j,wa .i64 a 1))
    | .inr ()=>
     some (.inr (.inr ())))
 else
  some (.inr (.inl (c,d)))
def sparseref18_Coarsen_l12 (c:LI) (d:L2) (e:LI) (f:L2):L2×Int→Option ((L2×Int)⊕(L2)):=fun (b,a)=>
 if a < (c.length:Int) then
  (loop (sparseref18_Coarsen_l53 d a e f) (b,0)).bind fun g=>
  some (.inl (g,wa .i64 a 1))
 else
  some (.inr b)
def sparseref18_Coarsen_l9 (b:LI):L2×Int→Option ((L2×Int)⊕(L2)):=fun (c,a)=>
 if a < (b.length:Int) then
  (mkL 0 (b.length:Int)).bind fun d=>
  (setI c a d).bind fun e=>
  some (.inl (e,wa .i64 a 1))
 else
  some (.inr c)
def sparseref18_Coarsen_l8 (d:LI) (f:LI):LI×LI×Int→Option ((LI×LI×Int)⊕((LI×LI))):=fun (c,b,a)=>
 if a < (d.length:Int) then
  (getI f a).bind fun g=>
  if g < a then
   (getI f a).bind fun h=>
   (getI c h).bind fun i=>
   (setI c a i).bind fun e=>
   (getI e a).bind fun j=>
   (getI e a).bind fun k=>
   (getI b k).bind fun l=>
   (getI d a).bind fun m=>
   (setI b j (wa .i64 l m)).bind fun n=>
   sparseref18_Coarsen_j54 a e n
  else
   (setI c a (b.length:Int)).bind fun o=>
   (getI d a).bind fun p=>
   (app b [p]).bind fun q=>
   sparseref18_Coarsen_j54 a o q
 else
  some (.inr (c,b))
def sparseref18_Coarsen_l5 (c:LI) (b:LI):Int→Option ((Int)⊕(Unit⊕Unit)):=fun a=>
 if a < (c.length:Int) then
  (getI b a).bind fun d=>
  (if d < 0 then
   some true
  else
   (getI b a).bind fun e=>
   some (decide ((c.length:Int)≤e))).bind fun f=>
  (if f=true then
   some true
  else
   (getI b a).bind fun g=>
   (getI b g).bind fun h=>
   some (!(decide (h=a)))).bind fun i=>
  if i=true then
   some (.inr (.inr ()))
  else
   some (.inl (wa .i64 a 1))
 else
  some (.inr (.inl ()))
def sparseref18_Coarsen (d:L2) (a:LI) (e:L2) (c:LI):Option (L2×LI×L2×LI×Int):=
 (sparseref18_CheckWeighted d a e).bind fun f=>
 if f=0 then
  if (c.length:Int)=(a.length:Int) then
   (loop (sparseref18_Coarsen_l5 a c) 0).bind (fun o=>match o with
    | .inl ()=>
     (mkL 0 (a.length:Int)).bind fun h=>
     (loop (sparseref18_Coarsen_l8 a c) (h,[],0)).bind fun (g,b)=>
     (mkL ([]:LI) (b.length:Int)).bind fun i=>
     (loop (sparseref18_Coarsen_l9 b) (i,0)).bind fun j=>
     (loop (sparseref18_Coarsen_l12 a e g d) (j,0)).bind fun k=>
     (loop (sparseref18_Coarsen_l39 b k) ([],[],0)).bind (fun o=>match o with
      | .inl (l,m)=>
       some (l,b,m,g,0)
      | .inr ()=>
       some ([],[],[],[],3))
    | .inr ()=>
     some ([],[],[],[],130))
  else
   some ([],[],[],[],2)
 else
  some ([],[],[],[],f)
def sparseref18_Bisect_l1 (c:LI) (d:L2×LI×L2×LI×Int) (e:LI×Int):LI×Int→Option ((LI×Int)⊕(LI)):=fun (b,a)=>
 if a < (c.length:Int) then
  (getI d.2.2.2.1 a).bind fun f=>
  (getI e.1 f).bind fun g=>
  (setI b a g).bind fun h=>
  some (.inl (h,wa .i64 a 1))
 else
  some (.inr b)
def sparseref18_Bisect_body (rec:L2→LI→L2→Option (LI×Int)) (b:L2) (a:LI) (c:L2):Option (LI×Int):=
 (sparseref18_Match b a c).bind fun e=>
 if e.2=0 then
  if (a.length:Int)≤8 then
   (sparseref18_Grow b a c).bind fun g=>
   (sparseref18_Refine b a c g).bind fun h=>
   some (h,0)
  else
   (sparseref18_Coarsen b a c e.1).bind fun d=>
   if d.2.2.2.2=0 then
    if (d.2.1.length:Int)=(a.length:Int) then
     (sparseref18_Grow b a c).bind fun i=>
     (sparseref18_Refine b a c i).bind fun j=>
     some (j,0)
    else
     (rec d.1 d.2.1 d.2.2.1).bind fun f=>
     if f.2=0 then
      (mkL 0 (a.length:Int)).bind fun k=>
      (loop (sparseref18_Bisect_l1 a d f) (k,0)).bind fun l=>
      (sparseref18_Refine b a c l).bind fun m=>
      some (m,0)
     else
      some ([],f.2)
   else
    some ([],d.2.2.2.2)
 else
  some ([],e.2)
def sparseref18_Bisect:Nat→L2→LI→L2→Option (LI×Int)
 | 0=>fun _ _ _=>none
 | n+1=>sparseref18_Bisect_body (sparseref18_Bisect n)
def sparseref18_border_j15 (a:Int) (b:LI):Option ((LI×Int)⊕(LI)):=
 some (.inl (b,wa .i64 a 1))
def sparseref18_border_l13 (b:L2) (c:Int) (e:LI) (f:Int):Bool×Int→Option ((Bool×Int)⊕(Bool)):=fun (d,a)=>
 (getI b c).bind fun g=>
 if a < (g.length:Int) then
  (if d=true then
   some true
  else
   (getI b c).bind fun h=>
   (getI h a).bind fun i=>
   (getI e i).bind fun j=>
   some (!(decide (j=f)))).bind fun k=>
  some (.inl (k,wa .i64 a 1))
 else
  some (.inr d)
def sparseref18_border_l11 (b:LI) (e:L2) (d:Int):LI×Int→Option ((LI×Int)⊕(LI)):=fun (c,a)=>
 if a < (b.length:Int) then
  (loop (sparseref18_border_l13 e a b d) (false,0)).bind fun f=>
  (if f=true then
   (getI b a).bind fun g=>
   some (decide (g=d))
  else
   some false).bind fun h=>
  if h=true then
   (app c [a]).bind fun i=>
   sparseref18_border_j15 a i
  else
   sparseref18_border_j15 a c
 else
  some (.inr c)
def sparseref18_border (a:L2) (b:LI) (c:Int):Option (LI):=
 (loop (sparseref18_border_l11 b a c) ([],0)).bind fun d=>
 some d
def sparseref09_Pack_j14 (a:Int) (b:LI) (c:LI):Option ((LI×LI×Int)⊕((LI×LI))):=
 some (.inl (b,c,wa .i64 a 1))
def sparseref09_Pack_l13 (d:Int) (f:LI) (g:Int) (h:List (Int×Int×Int)):LI×LI×Int→Option ((LI×LI×Int)⊕((LI×LI))):=fun (b,c,a)=>
 if a < d then
  (getI f (wa .i64 (wm .i64 g d) a)).bind fun e=>
  if (0:Int) < e then
   (app b [a]).bind fun i=>
   (getI h (ws .i64 e 1)).bind fun j=>
   (app c [j.2.2]).bind fun k=>
   sparseref09_Pack_j14 a i k
  else
   sparseref09_Pack_j14 a b c
 else
  some (.inr (b,c))
def sparseref09_Pack_l10 (f:Int) (g:Int) (h:LI) (i:List (Int×Int×Int)):LI×LI×LI×Int→Option ((LI×LI×LI×Int)⊕((LI×LI×LI))):=fun (b,c,d,a)=>
 if a < f then
  (loop (sparseref09_Pack_l13 g h a i) (c,d,0)).bind fun (e,j)=>
  (app b [(e.length:Int)]).bind fun k=>
  some (.inl (k,e,j,wa .i64 a 1))
 else
  some (.inr (b,c,d))
def sparseref09_Pack_l1 (b:List (Int×Int×Int)) (d:Int):LI×Int→Option ((LI×Int)⊕(LI)):=fun (c,a)=>
 if a < (b.length:Int) then
  (getI b a).bind fun e=>
  (getI b a).bind fun f=>
  (setI c (wa .i64 (wm .i64 e.2.1 d) f.1) (wa .i64 a 1)).bind fun g=>
  some (.inl (g,wa .i64 a 1))
 else
  some (.inr c)
def sparseref09_Pack (a:Int) (b:Int) (c:List (Int×Int×Int)):Option (Int×Int×LI×LI×LI):=
 (mkL 0 (wm .i64 a b)).bind fun d=>
 (loop (sparseref09_Pack_l1 c a) (d,0)).bind fun e=>
 (loop (sparseref09_Pack_l10 b a e c) ([0],[],[],0)).bind fun (f,g,h)=>
 some (a,b,f,g,h)
def sparseref03_IsFinite (a:Int):Option (Bool):=
 some (!(decide ((wand .u64 (wsrc .u64 a 52) 2047)=2047)))
def sparseref06_Finite_l1 (b:LI):Int→Option ((Int)⊕(Unit⊕Unit)):=fun a=>
 if a < (b.length:Int) then
  (getI b a).bind fun c=>
  (sparseref03_IsFinite c).bind fun d=>
  if d=true then
   some (.inl (wa .i64 a 1))
  else
   some (.inr (.inr ()))
 else
  some (.inr (.inl ()))
def sparseref06_Finite (a:LI):Option (Bool):=
 (loop (sparseref06_Finite_l1 a) 0).bind (fun o=>match o with
  | .inl ()=>
   some true
  | .inr ()=>
   some false)
def sparseref09_Check_l76 (c:LI) (d:Int) (b:LI) (e:Int):Int→Option ((Int)⊕(Unit⊕Unit)):=fun a=>
 (getI c (wa .i64 d 1)).bind fun f=>
 if a < f then
  (getI b a).bind fun g=>
  (if g < 0 then
   some true
  else
   (getI b a).bind fun h=>
   some (decide (e≤h))).bind fun i=>
  (if i=true then
   some true
  else
   (getI c d).bind fun j=>
   (if j < a then
    (getI b a).bind fun k=>
    (getI b (ws .i64 a 1)).bind fun l=>
    some (decide (k≤l))
   else
    some false).bind fun m=>
   some m).bind fun n=>
  if n=true then
   some (.inr (.inr ()))
  else
   some (.inl (wa .i64 a 1))
 else
  some (.inr (.inl ()))
def sparseref09_Check_l59 (c:Int) (b:LI) (d:LI) (e:Int):Int→Option ((Int)⊕(Unit⊕Unit)):=fun a=>
 if a < c then
  (getI b a).bind fun f=>
  (loop (sparseref09_Check_l76 b a d e) f).bind (fun o=>match o with
   | .inl ()=>
    some (.inl (wa .i64 a 1))
   | .inr ()=>
    some (.inr (.inr ())))
 else
  some (.inr (.inl ()))
def sparseref09_Check_l8 (c:Int) (b:LI):Int→Option ((Int)⊕(Unit⊕Unit)):=fun a=>
 if a < c then
  (getI b a).bind fun d=>
  (getI b (wa .i64 a 1)).bind fun e=>
  if e < d then
   some (.inr (.inr ()))
  else
   some (.inl (wa .i64 a 1))
 else
  some (.inr (.inl ()))
def sparseref09_Check (d:Int) (a:Int) (b:LI) (c:LI) (e:LI):Option (Int):=
 if (((((decide (d < 0)) || (decide ((200:Int) < d))) || (decide (a < 0))) || (decide ((200:Int) < a))) || (decide ((10000:Int) < (c.length:Int))))=true then
  some 6
 else
  (if ((!(decide ((e.length:Int)=(c.length:Int)))) || (!(decide ((b.length:Int)=(wa .i64 a 1)))))=true then
   some true
  else
   (getI b 0).bind fun f=>
   some (!(decide (f=0)))).bind fun g=>
  (if g=true then
   some true
  else
   (getI b a).bind fun h=>
   some (!(decide (h=(c.length:Int))))).bind fun i=>
  if i=true then
   some 1
  else
   (loop (sparseref09_Check_l8 a b) 0).bind (fun o=>match o with
    | .inl ()=>
     (loop (sparseref09_Check_l59 a b c d) 0).bind (fun o=>match o with
      | .inl ()=>
       (sparseref06_Finite e).bind fun j=>
       if j=true then
        some 0
       else
        some 4
      | .inr ()=>
       some 1)
    | .inr ()=>
     some 1)
def sparseref13_none_l1 (c:Int):LI×Int→Option ((LI×Int)⊕(LI)):=fun (a,b)=>
 if b < c then
  (app a [(-1)]).bind fun d=>
  some (.inl (d,wa .i64 b 1))
 else
  some (.inr a)
def sparseref13_none (a:Int):Option (LI):=
 (loop (sparseref13_none_l1 a) ([],0)).bind fun b=>
 some b
def sparseref13_Search_Try_j12 (a:Int) (b:LI) (c:LI) (d:BL):Option ((LI×LI×BL×Int)⊕((LI×LI×BL)⊕(LI×LI×BL))):=
 some (.inl (b,c,d,wa .i64 a 1))
def sparseref13_Search_Try_l9 (rec:Int→Int→LI→LI→LI→LI→LI→BL→Int→Option (LI×LI×BL×Bool)) (i:LI) (h:Int) (j:LI) (l:Int) (m:Int) (n:LI):LI×LI×BL×Int→Option ((LI×LI×BL×Int)⊕((LI×LI×BL)⊕(LI×LI×BL))):=fun (b,d,e,f)=>
 (getI i (wa .i64 h 1)).bind fun o=>
 if f < o then
  (getI j f).bind fun c=>
  (getI e c).bind fun p=>
  if p=true then
   sparseref13_Search_Try_j12 f b d e
  else
   (setI e c true).bind fun k=>
   (getI b c).bind fun q=>
   (if q < 0 then
    some (true,b,d,k)
   else
    (getI b c).bind fun r=>
    (rec l m i j n b d k r).bind fun g=>
    some (g.2.2.2,g.1,g.2.1,g.2.2.1)).bind fun a=>
   if a.1=true then
    (setI a.2.1 c h).bind fun s=>
    (setI a.2.2.1 h c).bind fun t=>
    some (.inr (.inr (s,t,a.2.2.2)))
   else
    sparseref13_Search_Try_j12 f a.2.1 a.2.2.1 a.2.2.2
 else
  some (.inr (.inl (b,d,e)))
def sparseref13_Search_Try_body (rec:Int→Int→LI→LI→LI→LI→LI→BL→Int→Option (LI×LI×BL×Bool)) (c:Int) (d:Int) (a:LI) (e:LI) (f:LI) (g:LI) (h:LI) (i:BL) (b:Int):Option (LI×LI×BL×Bool):=
 (getI a b).bind fun j=>
 (loop (sparseref13_Search_Try_l9 rec a b e c d f) (g,h,i,j)).bind (fun o=>match o with
  | .inl (k,l,m)=>
   some (k,l,m,false)
  | .inr (n,p,q)=>
   some (n,p,q,true))
def sparseref13_Search_Try:Nat→Int→Int→LI→LI→LI→LI→LI→BL→Int→Option (LI×LI×BL×Bool)
 | 0=>fun _ _ _ _ _ _ _ _ _=>none
 | n+1=>sparseref13_Search_Try_body (sparseref13_Search_Try n)
def sparseref13_Find_l1 (c:Int) (d:Int) (g:LI) (h:LI) (i:LI):LI×LI×BL×Int→Option ((LI×LI×BL×Int)⊕((LI×LI×BL))):=fun (e,f,j,a)=>
 if a < c then
  (mkL false d).bind fun k=>
  (sparseref13_Search_Try FUEL d c g h i e f k a).bind fun b=>
  some (.inl (b.1,b.2.1,b.2.2.1,wa .i64 a 1))
 else
  some (.inr (e,f,j))
def sparseref13_Find (a:Int) (b:Int) (c:LI) (d:LI) (e:LI):Option (LI×LI×BL):=
 (sparseref13_none a).bind fun f=>
 (sparseref13_none b).bind fun g=>
 (loop (sparseref13_Find_l1 b a c d e) (f,g,[],0)).bind fun (h,i,j)=>
 some (h,i,j)
end M
