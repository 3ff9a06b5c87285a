/- Models of functions of the program, printed. -/
import Derived.Test.YthekfonboblioacGreatDoorM2
namespace M
open Sx
set_option linter.unusedVariables false
def m_cf (a:Int):Option (Bool):=
  (m_ce a).bind fun b=>
  some (decide (b=3))
def m_cg (a:Int):Option (Bool):=
  some (!(decide ((wand .u64 a 9223372036854775808)=0)))
def m_ch (c:Int) (b:Int) (d:Int):Option (Bool×Bool×LI×Int):=
  (m_cg c).bind fun e=>
  (m_bg e [wc .u32 b,wc .u32 (wsrc .u64 b 32)] d).bind fun a=>
  some (a.1,a.2.1,a.2.2.1,a.2.2.2)
def m_ci (a:Int):Option (Bool×Bool×LI×Int):=
  (m_d a).bind fun c=>
  if c=true then
    if (0:Int) < (wc .i64 (wand .u64 (wsrc .u64 a 52) 2047)) then
      m_ch a (wor .u64 (wand .u64 a 4503599627370495) 4503599627370496) (ws .i64 (wc .i64 (wand .u64 (wsrc .u64 a 52) 2047)) 1075)
    else
      m_ch a (wand .u64 a 4503599627370495) (-1074)
  else
    (m_l).bind fun b=>
    some (b.1,b.2.1,[],b.2.2)
def m_cj (e:Bool) (f:Bool) (g:LI) (h:Int) (c:Int):Option (Bool×Bool×LI×Int):=
  (m_bi e f g h).bind fun a=>
  (if a.1=true then
    some true
  else
    (m_bj a.2.1 a.2.2.1).bind fun i=>
    some (decide (i=0))).bind fun j=>
  if j=true then
    some (a.1,a.2.1,a.2.2.1,a.2.2.2)
  else
    if ((decide ((262144:Int) < c)) || (decide (c < (-262144))))=true then
      (m_l).bind fun d=>
      some (d.1,d.2.1,[],d.2.2)
    else
      (m_bg a.2.1 a.2.2.1 (wa .i64 a.2.2.2 c)).bind fun b=>
      some (b.1,b.2.1,b.2.2.1,b.2.2.2)
def m_ck (a:Int) (d:Int) (e:Int):Option (Int):=
  (m_cf a).bind fun f=>
  if f=true then
    some 9221120237041090560
  else
    (m_ce a).bind fun g=>
    if g=1 then
      (m_ci a).bind fun b=>
      (m_cj b.1 b.2.1 b.2.2.1 b.2.2.2 (imax (-5000) (imin 5000 d))).bind fun c=>
      (m_by c.1 c.2.1 c.2.2.1 c.2.2.2 e).bind fun h=>
      some h
    else
      some a
def m_cl (a:Int×Int×LI×LI×LI) (e:Int) (f:Int):LI×LI×Int→Option ((LI×LI×Int)⊕((LI×LI))):=fun (c,d,b)=>
  if b < a.1 then
    (app c [b]).bind fun g=>
    (m_cd a.1 a.2.1 a.2.2.1 a.2.2.2.1 a.2.2.2.2 b e).bind fun h=>
    (m_ck h (ws .i64 (wc .i64 (wrc f 7)) 3) 0).bind fun i=>
    (app d [i]).bind fun j=>
    some (.inl (g,j,wa .i64 b 1))
  else
    some (.inr (c,d))
def m_cm (c:LI) (a:Int) (d:Int×Int×LI×LI×LI) (e:LI) (f:LI) (g:LI) (h:Int):Option ((LI×LI×LI×Int)⊕((LI×LI×LI))):=
  (m_c c (wa .i64 820 a)).bind fun i=>
  (loop (m_cl d h i) (e,f,0)).bind fun (b,j)=>
  (app g [(b.length:Int)]).bind fun k=>
  some (.inl (k,b,j,wa .i64 a 1))
def m_cn (c:Int×Int×LI×LI×LI) (b:LI):LI×LI×LI×Int→Option ((LI×LI×LI×Int)⊕((LI×LI×LI))):=fun (d,e,f,a)=>
  if a < c.2.1 then
    (if (0:Int) < a then
      (m_c b (wa .i64 800 a)).bind fun g=>
      some (decide ((wrc g 2)=0))
    else
      some false).bind fun h=>
    if h=true then
      (m_c b (wa .i64 810 a)).bind fun i=>
      (wr i (wc .u64 a)).bind fun j=>
      m_cm b a c e f d (wc .i64 j)
    else
      m_cm b a c e f d a
  else
    some (.inr (d,e,f))
def m_co (b:LI) (c:Int) (d:Int) (e:Int) (f:Bool):Option (Int×Int×LI×LI×LI):=
  (m_a e 3).bind fun g=>
  (m_a c 5).bind fun h=>
  (m_a d 5).bind fun i=>
  (m_b5 b h i g).bind fun a=>
  if f=true then
    (loop (m_cn a b) ([0],[],[],0)).bind fun (j,k,l)=>
    some (a.1,a.2.1,j,k,l)
  else
    some (a.1,a.2.1,a.2.2.1,a.2.2.2.1,a.2.2.2.2)
def m_cp (b:Bool) (c:Bool) (d:LI) (e:Int):Option (Int):=
  (m_bi b c d e).bind fun a=>
  if a.1=true then
    some 0
  else
    (m_bj a.2.1 a.2.2.1).bind fun f=>
    some f
def m_cq (d:LI) (b:Int) (e:LI) (f:LI):(List (Int×Int×Int))×Int→Option (((List (Int×Int×Int))×Int)⊕(((List (Int×Int×Int))))):=fun (c,a)=>
  (getI d (wa .i64 b 1)).bind fun g=>
  if a < g then
    (getI e a).bind fun h=>
    (getI f a).bind fun i=>
    (app c [(h,b,i)]).bind fun j=>
    some (.inl (j,wa .i64 a 1))
  else
    some (.inr c)
def m_cr (d:Int) (b:LI) (e:LI) (f:LI):(List (Int×Int×Int))×Int→Option (((List (Int×Int×Int))×Int)⊕(((List (Int×Int×Int))))):=fun (c,a)=>
  if a < d then
    (getI b a).bind fun g=>
    (loop (m_cq b a e f) (c,g)).bind fun h=>
    some (.inl (h,wa .i64 a 1))
  else
    some (.inr c)
def m_cs (e:Int) (a:Int) (b:LI) (c:LI) (d:LI):Option ((List (Int×Int×Int))):=
  (m_cb e a b c d).bind fun f=>
  if f=0 then
    (loop (m_cr a b c d) ([],0)).bind fun g=>
    some g
  else
    some []
def m_ct (b:(List (Int×Int×Int))):L2×Int→Option ((L2×Int)⊕(L2)):=fun (c,a)=>
  if a < (b.length:Int) then
    (getI b a).bind fun d=>
    (getI c d.1).bind fun e=>
    (getI b a).bind fun f=>
    (getI b a).bind fun g=>
    (setI e f.2.1 g.2.2).bind fun h=>
    (setI c d.1 h).bind fun i=>
    some (.inl (i,wa .i64 a 1))
  else
    some (.inr c)
def m_cu (c:Int) (d:Int):L2×Int→Option ((L2×Int)⊕(L2)):=fun (a,b)=>
  if b < c then
    (mkL 0 d).bind fun e=>
    (app a [e]).bind fun f=>
    some (.inl (f,wa .i64 b 1))
  else
    some (.inr a)
def m_cv (a:Int) (b:Int) (c:LI) (d:LI) (e:LI):Option (L2×Int):=
  (m_cb a b c d e).bind fun f=>
  if f=0 then
    (loop (m_cu a b) ([],0)).bind fun g=>
    (m_cs a b c d e).bind fun h=>
    (loop (m_ct h) (g,0)).bind fun i=>
    some (i,0)
  else
    some ([],f)
def m_cw (a:Int) (b:List (Bool×LI)):Option (((List (Bool×LI))×Int)⊕(((List (Bool×LI))))):=
  some (.inl (b,wa .i64 a 1))
def m_cx (e:Int) (f:L2×Int) (g:Int) (h:Int):(List (Bool×LI))×Int→Option (((List (Bool×LI))×Int)⊕(((List (Bool×LI))))):=fun (c,b)=>
  if b < e then
    (getI f.1 g).bind fun i=>
    (getI i b).bind fun j=>
    (m_ci j).bind fun a=>
    (m_cp a.1 a.2.1 a.2.2.1 a.2.2.2).bind fun k=>
    if k=0 then
      (app c [(false,[])]).bind fun l=>
      m_cw b l
    else
      (m_9 a.2.1 a.2.2.1 (ws .i64 a.2.2.2 h)).bind fun d=>
      (app c [(d.1,d.2)]).bind fun m=>
      m_cw b m
  else
    some (.inr c)
def m_cy (c:Int) (d:Int) (e:L2×Int) (f:Int):(List (List (Bool×LI)))×Int→Option (((List (List (Bool×LI)))×Int)⊕(((List (List (Bool×LI)))))):=fun (b,a)=>
  if a < c then
    (loop (m_cx d e a f) ([],0)).bind fun g=>
    (app b [g]).bind fun h=>
    some (.inl (h,wa .i64 a 1))
  else
    some (.inr b)
def m_cz (a:Int) (b:Int) (c:Bool):Option ((Int×Bool×Int)⊕(Int)):=
  some (.inl (b,c,wa .i64 a 1))
def m_c0 (d:LI):Int×Bool×Int→Option ((Int×Bool×Int)⊕(Int)):=fun (c,e,b)=>
  if b < (d.length:Int) then
    (getI d b).bind fun f=>
    (m_ci f).bind fun a=>
    (m_cp a.1 a.2.1 a.2.2.1 a.2.2.2).bind fun g=>
    if ((!(decide (g=0))) && ((!(e)) || (decide (a.2.2.2 < c))))=true then
      m_cz b a.2.2.2 true
    else
      m_cz b c e
  else
    some (.inr c)
def m_c1 (a:Int) (b:Int) (d:LI) (e:LI) (c:LI):Option ((List (List (Bool×LI)))×Int×Int):=
  (m_cb a b d e c).bind fun f=>
  if f=0 then
    if ((decide ((16:Int) < a)) || (decide ((16:Int) < b)))=true then
      some ([],0,6)
    else
      (loop (m_c0 c) (0,false,0)).bind fun g=>
      (m_cv a b d e c).bind fun h=>
      (loop (m_cy a b h g) ([],0)).bind fun i=>
      some (i,g,0)
  else
    some ([],0,f)
def m_c2 (b:List (List (Bool×LI))) (c:Int):(List (Bool×LI×Bool×LI))×Int→Option (((List (Bool×LI×Bool×LI))×Int)⊕(((List (Bool×LI×Bool×LI))))):=fun (d,a)=>
  (getI b c).bind fun h=>
  if a < (h.length:Int) then
    (getI b c).bind fun i=>
    (getI i a).bind fun e=>
    (m_k e.1 e.2).bind fun f=>
    (m_j 1).bind fun g=>
    (app d [(f.1,f.2,g.1,g.2)]).bind fun j=>
    some (.inl (j,wa .i64 a 1))
  else
    some (.inr d)
def m_c3 (b:List (List (Bool×LI))):(List (List (Bool×LI×Bool×LI)))×Int→Option (((List (List (Bool×LI×Bool×LI)))×Int)⊕(((List (List (Bool×LI×Bool×LI)))))):=fun (c,a)=>
  if a < (b.length:Int) then
    (loop (m_c2 b a) ([],0)).bind fun d=>
    (app c [d]).bind fun e=>
    some (.inl (e,wa .i64 a 1))
  else
    some (.inr c)
def m_c4 (a:List (List (Bool×LI))):Option ((List (List (Bool×LI×Bool×LI)))):=
  (loop (m_c3 a) ([],0)).bind fun b=>
  some b
def m_c5 (a:List (List (Bool×LI))):Option (Int):=
  if (a.length:Int)=0 then
    some 0
  else
    (getI a 0).bind fun b=>
    some (b.length:Int)
def m_c6 (a:Bool) (b:LI) (d:Bool) (e:LI):Option (Bool):=
  (m_bj a b).bind fun c=>
  some (decide (c=0))
def m_c7 (e:LI) (i:LI) (b:Int):LI×Int×Int→Option ((LI×Int×Int)⊕((LI×Int))):=fun (c,d,a)=>
  if a < (e.length:Int) then
    (getI i b).bind fun f=>
    (getI e a).bind fun g=>
    (getI c (wa .i64 b a)).bind fun h=>
    (setI c (wa .i64 b a) (wc .u32 (wa .u64 (wa .u64 d (wm .u64 (wc .u64 f) (wc .u64 g))) (wc .u64 h)))).bind fun j=>
    some (.inl (j,wsrc .u64 (wa .u64 (wa .u64 d (wm .u64 (wc .u64 f) (wc .u64 g))) (wc .u64 h)) 32,wa .i64 a 1))
  else
    some (.inr (c,d))
def m_c8 (b:LI) (c:LI):LI×Int→Option ((LI×Int)⊕(LI)):=fun (d,a)=>
  if a < (b.length:Int) then
    (loop (m_c7 c b a) (d,0,0)).bind fun (e,f)=>
    (setI e (wa .i64 a (c.length:Int)) (wc .u32 f)).bind fun g=>
    some (.inl (g,wa .i64 a 1))
  else
    some (.inr d)
def m_c9 (a:LI) (b:LI):Option (LI):=
  (mkL 0 (wa .i64 (a.length:Int) (b.length:Int))).bind fun c=>
  (loop (m_c8 a b) (c,0)).bind fun d=>
  some d
end M
