/- Models of functions of the program, printed. -/
import Derived.Test.YthekfonboblioaaGreatDoorM9
namespace M
open Sx
set_option linter.unusedVariables false
def m_hi (d:L2) (a:Int):L2×Int→Option ((L2×Int)⊕(L2)):=fun (b,c)=>
  if c < (d.length:Int) then
    (getI d c).bind fun e=>
    (getI b a).bind fun f=>
    (getI e a).bind fun g=>
    (app f [g]).bind fun h=>
    (setI b a h).bind fun i=>
    some (.inl (i,wa .i64 c 1))
  else
    some (.inr b)
def m_hj (c:L2) (d:L2):L2×Int→Option ((L2×Int)⊕(L2)):=fun (b,a)=>
  if a < (c.length:Int) then
    (loop (m_hi d a) (b,0)).bind fun e=>
    some (.inl (e,wa .i64 a 1))
  else
    some (.inr b)
def m_hk (b:L2) (c:Int):Option (L2):=
  (mkL ([]:LI) c).bind fun a=>
  (loop (m_hj a b) (a,0)).bind fun d=>
  some d
def m_hl (c:LI) (g:(List (List (Bool×LI)))×Int×Int) (d:Int) (h:(List (List (Bool×LI)))):Int→Option ((Int)⊕(Unit⊕(Int×LI×LI))):=fun b=>
  if b < (c.length:Int) then
    (getI c b).bind fun a=>
    (m_gl g.1 a).bind fun e=>
    (m_hh e a).bind fun f=>
    if (f.length:Int)=(ws .i64 d (h.length:Int)) then
      (m_hk e d).bind fun i=>
      (m_hh i a).bind fun j=>
      some (.inr (.inr (a,f,j)))
    else
      some (.inl (wa .i64 b 1))
  else
    some (.inr (.inl ()))
def m_hm (d:Int) (a:Int) (e:LI) (f:LI) (g:LI):Option (Int×Int×LI×LI×(List (List (Bool×LI)))×Int):=
  (m_ee d a e f g).bind fun b=>
  if b.2.2=0 then
    (m_f9 b.1 a).bind fun c=>
    (m_ge 2147483648 5).bind fun h=>
    (loop (m_hl h b a c) 0).bind (fun o=>match o with
      | .inl ()=>
        some (0,0,[],[],[],420)
      | .inr (i,j,k)=>
        some (ws .i64 a (c.length:Int),i,j,k,c,0))
  else
    some (0,0,[],[],[],b.2.2)
def m_hn (b:Bool) (c:Bool) (d:LI) (e:Int):Option (Int):=
  (m_bi b c d e).bind fun a=>
  if a.1=true then
    some 0
  else
    (m_bj a.2.1 a.2.2.1).bind fun f=>
    some f
def m_ho (d:LI) (b:Int) (e:LI) (f:LI):(List (Int×Int×Int))×Int→Option (((List (Int×Int×Int))×Int)⊕(((List (Int×Int×Int))))):=fun (c,a)=>
  (getI d (wa .i64 b 1)).bind fun g=>
  if a < g then
    (getI e a).bind fun h=>
    (getI f a).bind fun i=>
    (app c [(h,b,i)]).bind fun j=>
    some (.inl (j,wa .i64 a 1))
  else
    some (.inr c)
def m_hp (d:Int) (b:LI) (e:LI) (f:LI):(List (Int×Int×Int))×Int→Option (((List (Int×Int×Int))×Int)⊕(((List (Int×Int×Int))))):=fun (c,a)=>
  if a < d then
    (getI b a).bind fun g=>
    (loop (m_ho b a e f) (c,g)).bind fun h=>
    some (.inl (h,wa .i64 a 1))
  else
    some (.inr c)
def m_hq (e:Int) (a:Int) (b:LI) (c:LI) (d:LI):Option ((List (Int×Int×Int))):=
  (m_cb e a b c d).bind fun f=>
  if f=0 then
    (loop (m_hp a b c d) ([],0)).bind fun g=>
    some g
  else
    some []
def m_hr (b:(List (Int×Int×Int))):L2×Int→Option ((L2×Int)⊕(L2)):=fun (c,a)=>
  if a < (b.length:Int) then
    (getI b a).bind fun d=>
    (getI c d.1).bind fun e=>
    (getI b a).bind fun f=>
    (getI b a).bind fun g=>
    (setI e f.2.1 g.2.2).bind fun h=>
    (setI c d.1 h).bind fun i=>
    some (.inl (i,wa .i64 a 1))
  else
    some (.inr c)
def m_hs (c:Int) (d:Int):L2×Int→Option ((L2×Int)⊕(L2)):=fun (a,b)=>
  if b < c then
    (mkL 0 d).bind fun e=>
    (app a [e]).bind fun f=>
    some (.inl (f,wa .i64 b 1))
  else
    some (.inr a)
def m_ht (a:Int) (b:Int) (c:LI) (d:LI) (e:LI):Option (L2×Int):=
  (m_cb a b c d e).bind fun f=>
  if f=0 then
    (loop (m_hs a b) ([],0)).bind fun g=>
    (m_hq a b c d e).bind fun h=>
    (loop (m_hr h) (g,0)).bind fun i=>
    some (i,0)
  else
    some ([],f)
def m_hu (a:Int) (b:List (Bool×LI)):Option (((List (Bool×LI))×Int)⊕(((List (Bool×LI))))):=
  some (.inl (b,wa .i64 a 1))
def m_hv (e:Int) (f:L2×Int) (g:Int) (h:Int):(List (Bool×LI))×Int→Option (((List (Bool×LI))×Int)⊕(((List (Bool×LI))))):=fun (c,b)=>
  if b < e then
    (getI f.1 g).bind fun i=>
    (getI i b).bind fun j=>
    (m_ci j).bind fun a=>
    (m_hn a.1 a.2.1 a.2.2.1 a.2.2.2).bind fun k=>
    if k=0 then
      (app c [(false,[])]).bind fun l=>
      m_hu b l
    else
      (m_9 a.2.1 a.2.2.1 (ws .i64 a.2.2.2 h)).bind fun d=>
      (app c [(d.1,d.2)]).bind fun m=>
      m_hu b m
  else
    some (.inr c)
def m_hw (c:Int) (d:Int) (e:L2×Int) (f:Int):(List (List (Bool×LI)))×Int→Option (((List (List (Bool×LI)))×Int)⊕(((List (List (Bool×LI)))))):=fun (b,a)=>
  if a < c then
    (loop (m_hv d e a f) ([],0)).bind fun g=>
    (app b [g]).bind fun h=>
    some (.inl (h,wa .i64 a 1))
  else
    some (.inr b)
def m_hx (a:Int) (b:Int) (c:Bool):Option ((Int×Bool×Int)⊕(Int)):=
  some (.inl (b,c,wa .i64 a 1))
def m_hy (d:LI):Int×Bool×Int→Option ((Int×Bool×Int)⊕(Int)):=fun (c,e,b)=>
  if b < (d.length:Int) then
    (getI d b).bind fun f=>
    (m_ci f).bind fun a=>
    (m_hn a.1 a.2.1 a.2.2.1 a.2.2.2).bind fun g=>
    if ((!(decide (g=0))) && ((!(e)) || (decide (a.2.2.2 < c))))=true then
      m_hx b a.2.2.2 true
    else
      m_hx b c e
  else
    some (.inr c)
def m_hz (a:Int) (b:Int) (d:LI) (e:LI) (c:LI):Option ((List (List (Bool×LI)))×Int×Int):=
  (m_cb a b d e c).bind fun f=>
  if f=0 then
    if ((decide ((16:Int) < a)) || (decide ((16:Int) < b)))=true then
      some ([],0,6)
    else
      (loop (m_hy c) (0,false,0)).bind fun g=>
      (m_ht a b d e c).bind fun h=>
      (loop (m_hw a b h g) ([],0)).bind fun i=>
      some (i,g,0)
  else
    some ([],0,f)
def m_h0 (b:LI) (e:List (List (Bool×LI))) (f:Int):(List (Bool×LI))×Int→Option (((List (Bool×LI))×Int)⊕(((List (Bool×LI))))):=fun (c,a)=>
  if a < (b.length:Int) then
    (getI e f).bind fun g=>
    (getI b a).bind fun h=>
    (getI g h).bind fun d=>
    (app c [(d.1,d.2)]).bind fun i=>
    some (.inl (i,wa .i64 a 1))
  else
    some (.inr c)
def m_h1 (b:List (List (Bool×LI))) (d:LI):(List (List (Bool×LI)))×Int→Option (((List (List (Bool×LI)))×Int)⊕(((List (List (Bool×LI)))))):=fun (c,a)=>
  if a < (b.length:Int) then
    (loop (m_h0 d b a) ([],0)).bind fun e=>
    (app c [e]).bind fun f=>
    some (.inl (f,wa .i64 a 1))
  else
    some (.inr c)
def m_h2 (a:List (List (Bool×LI))) (b:LI):Option ((List (List (Bool×LI)))):=
  (loop (m_h1 a b) ([],0)).bind fun c=>
  some c
def m_h3 (b:List (List (Bool×LI))) (c:Int):(List (Bool×LI×Bool×LI))×Int→Option (((List (Bool×LI×Bool×LI))×Int)⊕(((List (Bool×LI×Bool×LI))))):=fun (d,a)=>
  (getI b c).bind fun h=>
  if a < (h.length:Int) then
    (getI b c).bind fun i=>
    (getI i a).bind fun e=>
    (m_k e.1 e.2).bind fun f=>
    (m_j 1).bind fun g=>
    (app d [(f.1,f.2,g.1,g.2)]).bind fun j=>
    some (.inl (j,wa .i64 a 1))
  else
    some (.inr d)
def m_h4 (b:List (List (Bool×LI))):(List (List (Bool×LI×Bool×LI)))×Int→Option (((List (List (Bool×LI×Bool×LI)))×Int)⊕(((List (List (Bool×LI×Bool×LI)))))):=fun (c,a)=>
  if a < (b.length:Int) then
    (loop (m_h3 b a) ([],0)).bind fun d=>
    (app c [d]).bind fun e=>
    some (.inl (e,wa .i64 a 1))
  else
    some (.inr c)
def m_h5 (a:List (List (Bool×LI))):Option ((List (List (Bool×LI×Bool×LI)))):=
  (loop (m_h4 a) ([],0)).bind fun b=>
  some b
def m_h6 (a:List (List (Bool×LI))):Option (Int):=
  if (a.length:Int)=0 then
    some 0
  else
    (getI a 0).bind fun b=>
    some (b.length:Int)
def m_h7 (a:Bool) (b:LI) (d:Bool) (e:LI):Option (Bool):=
  (m_bj a b).bind fun c=>
  some (decide (c=0))
def m_h8 (e:LI) (i:LI) (b:Int):LI×Int×Int→Option ((LI×Int×Int)⊕((LI×Int))):=fun (c,d,a)=>
  if a < (e.length:Int) then
    (getI i b).bind fun f=>
    (getI e a).bind fun g=>
    (getI c (wa .i64 b a)).bind fun h=>
    (setI c (wa .i64 b a) (wc .u32 (wa .u64 (wa .u64 d (wm .u64 (wc .u64 f) (wc .u64 g))) (wc .u64 h)))).bind fun j=>
    some (.inl (j,wsrc .u64 (wa .u64 (wa .u64 d (wm .u64 (wc .u64 f) (wc .u64 g))) (wc .u64 h)) 32,wa .i64 a 1))
  else
    some (.inr (c,d))
def m_h9 (b:LI) (c:LI):LI×Int→Option ((LI×Int)⊕(LI)):=fun (d,a)=>
  if a < (b.length:Int) then
    (loop (m_h8 c b a) (d,0,0)).bind fun (e,f)=>
    (setI e (wa .i64 a (c.length:Int)) (wc .u32 f)).bind fun g=>
    some (.inl (g,wa .i64 a 1))
  else
    some (.inr d)
def m_ia (a:LI) (b:LI):Option (LI):=
  (mkL 0 (wa .i64 (a.length:Int) (b.length:Int))).bind fun c=>
  (loop (m_h9 a b) (c,0)).bind fun d=>
  some d
def m_ib (b:Bool) (c:LI) (d:Bool) (e:LI):Option (Bool×LI):=
  (m_g c).bind fun f=>
  (m_g e).bind fun g=>
  (m_ia f g).bind fun h=>
  (m_h (!((b == d))) h).bind fun a=>
  some (a.1,a.2)
def m_ic (c:LI) (d:LI) (e:Int):LI×Int→Option ((LI×Int)⊕(LI)):=fun (b,a)=>
  if a≤(c.length:Int) then
    (getI d a).bind fun f=>
    (setI b (wa .i64 a e) f).bind fun g=>
    some (.inl (g,wa .i64 a 1))
  else
    some (.inr b)
def m_id (e:LI) (a:Int) (f:Int) (g:LI) (c:Int) (b:Int):Option ((LI×Int×Int×Int)⊕((LI×Int))):=
  (getI e (wa .i64 a f)).bind fun d=>
  (setI g a (wc .u32 (ws .u64 (ws .u64 (wc .u64 d) c) (wand .u64 b 4294967295)))).bind fun h=>
  some (.inl (h,wsrc .u64 (ws .u64 (ws .u64 (wc .u64 d) c) (wand .u64 b 4294967295)) 63,wsrc .u64 b 32,wa .i64 a 1))
def m_ie (b:LI) (e:LI) (f:Int) (h:Int):LI×Int×Int×Int→Option ((LI×Int×Int×Int)⊕((LI×Int))):=fun (c,d,g,a)=>
  if a≤(b.length:Int) then
    if a < (b.length:Int) then
      (getI b a).bind fun i=>
      m_id e a f c d (wa .u64 g (wm .u64 h (wc .u64 i)))
    else
      m_id e a f c d g
  else
    some (.inr (c,d))
def m_if (a:LI) (b:LI) (c:Int) (d:Int):Option (LI×Bool):=
  (mkL 0 (wa .i64 (b.length:Int) 1)).bind fun e=>
  (loop (m_ie b a c d) (e,0,0,0)).bind fun (f,g)=>
  if g=0 then
    (loop (m_ic b f c) (a,0)).bind fun h=>
    some (h,true)
  else
    some (a,false)
def m_ig (c:LI) (d:Int):LI×Int→Option ((LI×Int)⊕((LI×Int))):=fun (e,a)=>
  (m_if e c d a).bind fun b=>
  if b.2=true then
    some (.inr (b.1,a))
  else
    some (.inl (b.1,ws .u64 a 1))
def m_ih (c:LI) (d:LI):LI×LI×Int→Option ((LI×LI×Int)⊕((LI×LI))):=fun (b,e,a)=>
  if (0:Int)≤a then
    (getI b (wa .i64 a (c.length:Int))).bind fun f=>
    (getI b (ws .i64 (wa .i64 a (c.length:Int)) 1)).bind fun g=>
    (getI d (ws .i64 (c.length:Int) 1)).bind fun h=>
    (wq .u64 (wor .u64 (wslc .u64 (wc .u64 f) 32) (wc .u64 g)) (wc .u64 h)).bind fun i=>
    (loop (m_ig d a) (b,imin i 4294967295)).bind fun (j,k)=>
    (setI e a (wc .u32 k)).bind fun l=>
    some (.inl (j,l,ws .i64 a 1))
  else
    some (.inr (b,e))
def m_ii (b:LI) (a:LI) (c:LI) (d:Int) (e:LI):Option (LI×LI):=
  (mkL 0 (wa .i64 (ws .i64 (b.length:Int) (a.length:Int)) 1)).bind fun f=>
  (loop (m_ih a c) (e,f,ws .i64 (b.length:Int) (a.length:Int))).bind fun (g,h)=>
  (m_g g).bind fun i=>
  (m_v i d).bind fun j=>
  (m_g h).bind fun k=>
  (m_g j.1).bind fun l=>
  some (k,l)
def m_ij (b:LI) (a:LI):Option (LI×LI):=
  (m_2 b a).bind fun f=>
  if f < 0 then
    some ([],b)
  else
    (getI a (ws .i64 (a.length:Int) 1)).bind fun g=>
    (m_e7 g).bind fun c=>
    (m_q b c).bind fun d=>
    (m_q a c).bind fun h=>
    (sli h 0 (a.length:Int)).bind fun e=>
    if (d.length:Int)=(b.length:Int) then
      (app d [0]).bind fun i=>
      m_ii b a e c i
    else
      m_ii b a e c d
end M
