/- Models of functions of the program, printed. -/
import Derived.Test.YthekfonboblioacGreatDoorM3
namespace M
open Sx
set_option linter.unusedVariables false
def m_da (b:Bool) (c:LI) (d:Bool) (e:LI):Option (Bool×LI):=
  (m_g c).bind fun f=>
  (m_g e).bind fun g=>
  (m_c9 f g).bind fun h=>
  (m_h (!((b == d))) h).bind fun a=>
  some (a.1,a.2)
def m_db (a:Int):Option (Int):=
  (m_be a).bind fun b=>
  some (ws .i64 32 b)
def m_dc (c:LI) (d:LI) (e:Int):LI×Int→Option ((LI×Int)⊕(LI)):=fun (b,a)=>
  if a≤(c.length:Int) then
    (getI d a).bind fun f=>
    (setI b (wa .i64 a e) f).bind fun g=>
    some (.inl (g,wa .i64 a 1))
  else
    some (.inr b)
def m_dd (e:LI) (a:Int) (f:Int) (g:LI) (c:Int) (b:Int):Option ((LI×Int×Int×Int)⊕((LI×Int))):=
  (getI e (wa .i64 a f)).bind fun d=>
  (setI g a (wc .u32 (ws .u64 (ws .u64 (wc .u64 d) c) (wand .u64 b 4294967295)))).bind fun h=>
  some (.inl (h,wsrc .u64 (ws .u64 (ws .u64 (wc .u64 d) c) (wand .u64 b 4294967295)) 63,wsrc .u64 b 32,wa .i64 a 1))
def m_de (b:LI) (e:LI) (f:Int) (h:Int):LI×Int×Int×Int→Option ((LI×Int×Int×Int)⊕((LI×Int))):=fun (c,d,g,a)=>
  if a≤(b.length:Int) then
    if a < (b.length:Int) then
      (getI b a).bind fun i=>
      m_dd e a f c d (wa .u64 g (wm .u64 h (wc .u64 i)))
    else
      m_dd e a f c d g
  else
    some (.inr (c,d))
def m_df (a:LI) (b:LI) (c:Int) (d:Int):Option (LI×Bool):=
  (mkL 0 (wa .i64 (b.length:Int) 1)).bind fun e=>
  (loop (m_de b a c d) (e,0,0,0)).bind fun (f,g)=>
  if g=0 then
    (loop (m_dc b f c) (a,0)).bind fun h=>
    some (h,true)
  else
    some (a,false)
def m_dg (c:LI) (d:Int):LI×Int→Option ((LI×Int)⊕((LI×Int))):=fun (e,a)=>
  (m_df e c d a).bind fun b=>
  if b.2=true then
    some (.inr (b.1,a))
  else
    some (.inl (b.1,ws .u64 a 1))
def m_dh (c:LI) (d:LI):LI×LI×Int→Option ((LI×LI×Int)⊕((LI×LI))):=fun (b,e,a)=>
  if (0:Int)≤a then
    (getI b (wa .i64 a (c.length:Int))).bind fun f=>
    (getI b (ws .i64 (wa .i64 a (c.length:Int)) 1)).bind fun g=>
    (getI d (ws .i64 (c.length:Int) 1)).bind fun h=>
    (wq .u64 (wor .u64 (wslc .u64 (wc .u64 f) 32) (wc .u64 g)) (wc .u64 h)).bind fun i=>
    (loop (m_dg d a) (b,imin i 4294967295)).bind fun (j,k)=>
    (setI e a (wc .u32 k)).bind fun l=>
    some (.inl (j,l,ws .i64 a 1))
  else
    some (.inr (b,e))
def m_di (b:LI) (a:LI) (c:LI) (d:Int) (e:LI):Option (LI×LI):=
  (mkL 0 (wa .i64 (ws .i64 (b.length:Int) (a.length:Int)) 1)).bind fun f=>
  (loop (m_dh a c) (e,f,ws .i64 (b.length:Int) (a.length:Int))).bind fun (g,h)=>
  (m_g g).bind fun i=>
  (m_v i d).bind fun j=>
  (m_g h).bind fun k=>
  (m_g j.1).bind fun l=>
  some (k,l)
def m_dj (b:LI) (a:LI):Option (LI×LI):=
  (m_2 b a).bind fun f=>
  if f < 0 then
    some ([],b)
  else
    (getI a (ws .i64 (a.length:Int) 1)).bind fun g=>
    (m_db g).bind fun c=>
    (m_q b c).bind fun d=>
    (m_q a c).bind fun h=>
    (sli h 0 (a.length:Int)).bind fun e=>
    if (d.length:Int)=(b.length:Int) then
      (app d [0]).bind fun i=>
      m_di b a e c i
    else
      m_di b a e c d
def m_dk (a:Bool) (b:LI) (c:Bool) (d:LI):Option (Bool×LI×Bool×LI):=
  some (a,b,c,d)
def m_dl (a:Bool×LI) (b:Bool) (c:LI):Option (Bool×LI×Bool×LI):=
  m_dk b c a.1 a.2
def m_dm (l:Bool) (m:LI) (n:Bool) (o:LI):Option (Bool×LI×Bool×LI):=
  (m_k l m).bind fun d=>
  (m_k n o).bind fun c=>
  (m_dj d.2 c.2).bind fun e=>
  (m_h (!((d.1 == c.1))) e.1).bind fun a=>
  (m_h d.1 e.2).bind fun b=>
  (m_bj b.1 b.2).bind fun p=>
  if p < 0 then
    (m_o c.1 c.2).bind fun f=>
    (m_6 b.1 b.2 f.1 f.2).bind fun g=>
    if c.1=true then
      (m_j 1).bind fun h=>
      (m_6 a.1 a.2 h.1 h.2).bind fun i=>
      m_dl g i.1 i.2
    else
      (m_j 1).bind fun j=>
      (m_7 a.1 a.2 j.1 j.2).bind fun k=>
      m_dl g k.1 k.2
  else
    m_dk a.1 a.2 b.1 b.2
def m_dn:Bool×LI×Bool×LI→Option ((Bool×LI×Bool×LI)⊕((Bool×LI))):=fun (c,d,a,b)=>
  (m_bj a b).bind fun f=>
  if f=0 then
    some (.inr (c,d))
  else
    (m_dm c d a b).bind fun e=>
    some (.inl (a,b,e.2.2.1,e.2.2.2))
def m_do (c:Bool) (d:LI) (e:Bool) (f:LI):Option (Bool×LI):=
  (m_o c d).bind fun a=>
  (m_o e f).bind fun b=>
  (loop (m_dn) (a.1,a.2,b.1,b.2)).bind fun (g,h)=>
  some (g,h)
def m_dp (b:Bool) (c:LI) (d:Bool) (e:LI):Option (Bool×LI×Bool):=
  (m_dm b c d e).bind fun a=>
  (m_bj a.2.2.1 a.2.2.2).bind fun f=>
  if f=0 then
    some (a.1,a.2.1,true)
  else
    some (false,[],false)
def m_dq (e:Bool) (f:LI) (g:Bool) (h:LI) (a:Bool) (b:LI):Option (Bool×LI×Bool×LI):=
  (m_dp e f a b).bind fun c=>
  (m_dp g h a b).bind fun d=>
  some (c.1,c.2.1,d.1,d.2.1)
def m_dr (d:Bool) (e:LI) (a:Bool) (b:LI):Option (Bool×LI×Bool×LI):=
  (m_do d e a b).bind fun c=>
  (m_bj a b).bind fun g=>
  if g < 0 then
    (m_w c.1 c.2).bind fun f=>
    m_dq d e a b f.1 f.2
  else
    m_dq d e a b c.1 c.2
def m_ds (m:Bool) (n:LI) (c:Bool) (d:LI) (o:Bool) (p:LI) (q:Bool) (r:LI) (s:Bool) (t:LI) (u:Bool) (v:LI) (w:Bool) (x:LI) (y:Bool) (z:LI):Option (Bool×LI×Bool×LI):=
  (m_da o p s t).bind fun e=>
  (m_da e.1 e.2 y z).bind fun f=>
  (m_da q r u v).bind fun g=>
  (m_da g.1 g.2 w x).bind fun h=>
  (m_dr f.1 f.2 h.1 h.2).bind fun a=>
  (m_da m n a.2.2.1 a.2.2.2).bind fun i=>
  (m_da a.1 a.2.1 c d).bind fun j=>
  (m_7 i.1 i.2 j.1 j.2).bind fun k=>
  (m_da c d a.2.2.1 a.2.2.2).bind fun l=>
  (m_dr k.1 k.2 l.1 l.2).bind fun b=>
  some (b.1,b.2.1,b.2.2.1,b.2.2.2)
def m_dt (a:Int) (b:List (List (Bool×LI×Bool×LI))) (c:Bool) (d:LI) (e:Bool) (f:LI) (g:LI):Option (((List (List (Bool×LI×Bool×LI)))×Bool×LI×Bool×LI×LI×Int)⊕(((List (List (Bool×LI×Bool×LI)))×Bool×LI×Bool×LI×LI))):=
  some (.inl (b,c,d,e,f,g,wa .i64 a 1))
def m_du (j:Int) (h:Int) (i:LI) (k:Int) (c:Bool×LI×Bool×LI):(List (List (Bool×LI×Bool×LI)))×Int→Option (((List (List (Bool×LI×Bool×LI)))×Int)⊕(((List (List (Bool×LI×Bool×LI)))))):=fun (a,b)=>
  if b < j then
    (getI a h).bind fun l=>
    (getI a h).bind fun m=>
    (getI m b).bind fun d=>
    (getI a (i.length:Int)).bind fun n=>
    (getI n b).bind fun e=>
    (getI a (i.length:Int)).bind fun o=>
    (getI o k).bind fun f=>
    (m_ds d.1 d.2.1 d.2.2.1 d.2.2.2 c.1 c.2.1 c.2.2.1 c.2.2.2 e.1 e.2.1 e.2.2.1 e.2.2.2 f.1 f.2.1 f.2.2.1 f.2.2.2).bind fun g=>
    (setI l b (g.1,g.2.1,g.2.2.1,g.2.2.2)).bind fun p=>
    (setI a h p).bind fun q=>
    some (.inl (q,wa .i64 b 1))
  else
    some (.inr a)
def m_dv (c:Int) (d:Int) (e:LI):(List (List (Bool×LI×Bool×LI)))×Int→Option (((List (List (Bool×LI×Bool×LI)))×Int)⊕(((List (List (Bool×LI×Bool×LI)))))):=fun (a,b)=>
  if b < (a.length:Int) then
    (getI a b).bind fun f=>
    (getI f c).bind fun g=>
    (loop (m_du d b e c g) (a,c)).bind fun h=>
    some (.inl (h,wa .i64 b 1))
  else
    some (.inr a)
def m_dw (a:LI) (b:Int) (i:Bool) (j:LI) (k:Int) (d:List (List (Bool×LI×Bool×LI))) (l:Bool) (m:LI):Option (((List (List (Bool×LI×Bool×LI)))×Bool×LI×Bool×LI×LI×Int)⊕(((List (List (Bool×LI×Bool×LI)))×Bool×LI×Bool×LI×LI))):=
  (getI d (a.length:Int)).bind fun n=>
  (getI n b).bind fun e=>
  (m_da l m e.1 e.2.1).bind fun f=>
  (getI d (a.length:Int)).bind fun o=>
  (getI o b).bind fun g=>
  (m_da i j g.2.2.1 g.2.2.2).bind fun h=>
  (m_dr f.1 f.2 h.1 h.2).bind fun c=>
  (loop (m_dv b k a) (d,wa .i64 (a.length:Int) 1)).bind fun p=>
  (app a [b]).bind fun q=>
  m_dt b p c.1 c.2.1 c.2.2.1 c.2.2.2 q
def m_dx (c:List (List (Bool×LI×Bool×LI))) (d:Int):Int→Option ((Int)⊕(Int)):=fun a=>
  (if a < (c.length:Int) then
    (getI c a).bind fun e=>
    (getI e d).bind fun b=>
    (m_c6 b.1 b.2.1 b.2.2.1 b.2.2.2).bind fun f=>
    some f
  else
    some false).bind fun g=>
  if g=true then
    some (.inl (wa .i64 a 1))
  else
    some (.inr a)
def m_dy (i:Int):(List (List (Bool×LI×Bool×LI)))×Bool×LI×Bool×LI×LI×Int→Option (((List (List (Bool×LI×Bool×LI)))×Bool×LI×Bool×LI×LI×Int)⊕(((List (List (Bool×LI×Bool×LI)))×Bool×LI×Bool×LI×LI))):=fun (a,d,e,f,g,b,c)=>
  if c < i then
    (loop (m_dx a c) (b.length:Int)).bind fun h=>
    if h=(a.length:Int) then
      m_dt c a d e f g b
    else
      if h=(b.length:Int) then
        m_dw b c f g i a d e
      else
        (getI a (b.length:Int)).bind fun k=>
        (getI a h).bind fun l=>
        (setI a h k).bind fun m=>
        (setI m (b.length:Int) l).bind fun n=>
        (m_w d e).bind fun j=>
        m_dw b c f g i n j.1 j.2
  else
    some (.inr (a,d,e,f,g,b))
def m_dz (c:List (List (Bool×LI×Bool×LI))) (d:Int):Option ((List (List (Bool×LI×Bool×LI)))×LI×Bool×LI×Bool×LI):=
  (m_j 1).bind fun a=>
  (m_j 1).bind fun b=>
  (loop (m_dy d) (c,a.1,a.2,b.1,b.2,[],0)).bind fun (e,f,g,h,i,j)=>
  some (e,j,f,g,h,i)
def m_d0 (a:List (List (Bool×LI))):Option (Int):=
  (m_c4 a).bind fun b=>
  (m_c5 a).bind fun c=>
  (m_dz b c).bind fun d=>
  some (d.2.1.length:Int)
def m_d1 (b:LI) (e:List (List (Bool×LI))) (f:Int):(List (Bool×LI))×Int→Option (((List (Bool×LI))×Int)⊕(((List (Bool×LI))))):=fun (c,a)=>
  if a < (b.length:Int) then
    (getI e f).bind fun g=>
    (getI b a).bind fun h=>
    (getI g h).bind fun d=>
    (app c [(d.1,d.2)]).bind fun i=>
    some (.inl (i,wa .i64 a 1))
  else
    some (.inr c)
def m_d2 (b:List (List (Bool×LI))) (d:LI):(List (List (Bool×LI)))×Int→Option (((List (List (Bool×LI)))×Int)⊕(((List (List (Bool×LI)))))):=fun (c,a)=>
  if a < (b.length:Int) then
    (loop (m_d1 d b a) ([],0)).bind fun e=>
    (app c [e]).bind fun f=>
    some (.inl (f,wa .i64 a 1))
  else
    some (.inr c)
def m_d3 (a:List (List (Bool×LI))) (b:LI):Option ((List (List (Bool×LI)))):=
  (loop (m_d2 a b) ([],0)).bind fun c=>
  some c
def m_d4 (a:List (List (Bool×LI))) (b:Int):Option (Int):=
  if b=0 then
    some 0
  else
    (m_d0 a).bind fun c=>
    some c
def m_d5 (h:Int) (b:List (Bool×LI×Bool×LI)) (i:Bool) (j:LI):(List (Bool×LI))×Int→Option (((List (Bool×LI))×Int)⊕(((List (Bool×LI))))):=fun (c,a)=>
  if a < h then
    (getI b a).bind fun d=>
    (m_da d.1 d.2.1 i j).bind fun e=>
    (getI b a).bind fun f=>
    (m_dp e.1 e.2 f.2.2.1 f.2.2.2).bind fun g=>
    (app c [(g.1,g.2.1)]).bind fun k=>
    some (.inl (k,wa .i64 a 1))
  else
    some (.inr c)
def m_d6 (j:Int) (d:List (Bool×LI×Bool×LI)):Bool×LI×Int→Option ((Bool×LI×Int)⊕((Bool×LI))):=fun (b,c,a)=>
  if a < j then
    (getI d a).bind fun e=>
    (getI d a).bind fun f=>
    (m_do b c f.2.2.1 f.2.2.2).bind fun g=>
    (m_dp e.2.2.1 e.2.2.2 g.1 g.2).bind fun h=>
    (m_da b c h.1 h.2.1).bind fun i=>
    some (.inl (i.1,i.2,wa .i64 a 1))
  else
    some (.inr (b,c))
def m_d7 (k:Int) (l:(List (List (Bool×LI×Bool×LI)))×LI×Bool×LI×Bool×LI) (m:Int) (n:List (Bool×LI×Bool×LI)) (e:Bool×LI) (f:Bool×LI):Bool×LI×Bool×LI×Int→Option ((Bool×LI×Bool×LI×Int)⊕((Bool×LI×Bool×LI))):=fun (g,h,i,j,a)=>
  if a≤k then
    (getI l.1 m).bind fun o=>
    (getI o a).bind fun b=>
    (getI n a).bind fun c=>
    (m_ds g h i j b.1 b.2.1 b.2.2.1 b.2.2.2 c.1 c.2.1 c.2.2.1 c.2.2.2 e.1 e.2 f.1 f.2).bind fun d=>
    some (.inl (d.1,d.2.1,d.2.2.1,d.2.2.2,wa .i64 a 1))
  else
    some (.inr (g,h,i,j))
def m_d8 (j:Int) (e:(List (List (Bool×LI×Bool×LI)))×LI×Bool×LI×Bool×LI) (k:Bool×LI) (l:Bool×LI):(List (Bool×LI×Bool×LI))×Int→Option (((List (Bool×LI×Bool×LI))×Int)⊕(((List (Bool×LI×Bool×LI))))):=fun (b,a)=>
  if (0:Int)≤a then
    (getI b a).bind fun c=>
    (loop (m_d7 j e a b k l) (c.1,c.2.1,c.2.2.1,c.2.2.2,wa .i64 a 1)).bind fun (m,n,o,p)=>
    (getI e.1 a).bind fun q=>
    (getI q a).bind fun f=>
    (m_da m n f.2.2.1 f.2.2.2).bind fun g=>
    (getI e.1 a).bind fun r=>
    (getI r a).bind fun h=>
    (m_da o p h.1 h.2.1).bind fun i=>
    (m_dr g.1 g.2 i.1 i.2).bind fun d=>
    (setI b a (d.1,d.2.1,d.2.2.1,d.2.2.2)).bind fun s=>
    some (.inl (s,ws .i64 a 1))
  else
    some (.inr b)
def m_d9 (d:Int):(List (Bool×LI×Bool×LI))×Int→Option (((List (Bool×LI×Bool×LI))×Int)⊕(((List (Bool×LI×Bool×LI))))):=fun (b,a)=>
  if a < d then
    (m_j 1).bind fun c=>
    (setI b a (false,[],c.1,c.2)).bind fun e=>
    some (.inl (e,wa .i64 a 1))
  else
    some (.inr b)
def m_ea (b:(List (List (Bool×LI×Bool×LI)))×LI×Bool×LI×Bool×LI):Int→Option ((Int)⊕(Int)):=fun a=>
  (if a < (b.2.1.length:Int) then
    (getI b.2.1 a).bind fun c=>
    some (decide (c=a))
  else
    some false).bind fun d=>
  if d=true then
    some (.inl (wa .i64 a 1))
  else
    some (.inr a)
def m_eb (f:List (List (Bool×LI))):Option ((List (Bool×LI))):=
  (m_c5 f).bind fun a=>
  (m_c4 f).bind fun i=>
  (m_dz i a).bind fun b=>
  if (b.2.1.length:Int)=a then
    some []
  else
    (loop (m_ea b) 0).bind fun c=>
    (m_j 1).bind fun d=>
    (m_j 1).bind fun e=>
    (mkL (false,[],false,[]) a).bind fun j=>
    (loop (m_d9 a) (j,0)).bind fun k=>
    (setI k c (d.1,d.2,e.1,e.2)).bind fun l=>
    (loop (m_d8 c b d e) (l,ws .i64 c 1)).bind fun g=>
    (m_j 1).bind fun h=>
    (loop (m_d6 a g) (h.1,h.2,0)).bind fun (m,n)=>
    (loop (m_d5 a g m n) ([],0)).bind fun o=>
    some o
end M
