/- Models of functions of the program, printed. -/
import Derived.Test.YthekfonboblioabGreatDoorM9
namespace M
open Sx
set_option linter.unusedVariables false
def m_hq (b:LI) (e:List (List (Bool×LI))) (f:Int):(List (Bool×LI))×Int→Option (((List (Bool×LI))×Int)⊕(((List (Bool×LI))))):=fun (c,a)=>
  if a < (b.length:Int) then
    (getI e f).bind fun g=>
    (getI b a).bind fun h=>
    (getI g h).bind fun d=>
    (app c [(d.1,d.2)]).bind fun i=>
    some (.inl (i,wa .i64 a 1))
  else
    some (.inr c)
def m_hr (b:List (List (Bool×LI))) (d:LI):(List (List (Bool×LI)))×Int→Option (((List (List (Bool×LI)))×Int)⊕(((List (List (Bool×LI)))))):=fun (c,a)=>
  if a < (b.length:Int) then
    (loop (m_hq d b a) ([],0)).bind fun e=>
    (app c [e]).bind fun f=>
    some (.inl (f,wa .i64 a 1))
  else
    some (.inr c)
def m_hs (a:List (List (Bool×LI))) (b:LI):Option ((List (List (Bool×LI)))):=
  (loop (m_hr a b) ([],0)).bind fun c=>
  some c
def m_ht (b:List (List (Bool×LI))) (c:Int):(List (Bool×LI×Bool×LI))×Int→Option (((List (Bool×LI×Bool×LI))×Int)⊕(((List (Bool×LI×Bool×LI))))):=fun (d,a)=>
  (getI b c).bind fun h=>
  if a < (h.length:Int) then
    (getI b c).bind fun i=>
    (getI i a).bind fun e=>
    (m_k e.1 e.2).bind fun f=>
    (m_j 1).bind fun g=>
    (app d [(f.1,f.2,g.1,g.2)]).bind fun j=>
    some (.inl (j,wa .i64 a 1))
  else
    some (.inr d)
def m_hu (b:List (List (Bool×LI))):(List (List (Bool×LI×Bool×LI)))×Int→Option (((List (List (Bool×LI×Bool×LI)))×Int)⊕(((List (List (Bool×LI×Bool×LI)))))):=fun (c,a)=>
  if a < (b.length:Int) then
    (loop (m_ht b a) ([],0)).bind fun d=>
    (app c [d]).bind fun e=>
    some (.inl (e,wa .i64 a 1))
  else
    some (.inr c)
def m_hv (a:List (List (Bool×LI))):Option ((List (List (Bool×LI×Bool×LI)))):=
  (loop (m_hu a) ([],0)).bind fun b=>
  some b
def m_hw (a:List (List (Bool×LI))):Option (Int):=
  if (a.length:Int)=0 then
    some 0
  else
    (getI a 0).bind fun b=>
    some (b.length:Int)
def m_hx (a:Bool) (b:LI) (d:Bool) (e:LI):Option (Bool):=
  (m_bj a b).bind fun c=>
  some (decide (c=0))
def m_hy (e:LI) (i:LI) (b:Int):LI×Int×Int→Option ((LI×Int×Int)⊕((LI×Int))):=fun (c,d,a)=>
  if a < (e.length:Int) then
    (getI i b).bind fun f=>
    (getI e a).bind fun g=>
    (getI c (wa .i64 b a)).bind fun h=>
    (setI c (wa .i64 b a) (wc .u32 (wa .u64 (wa .u64 d (wm .u64 (wc .u64 f) (wc .u64 g))) (wc .u64 h)))).bind fun j=>
    some (.inl (j,wsrc .u64 (wa .u64 (wa .u64 d (wm .u64 (wc .u64 f) (wc .u64 g))) (wc .u64 h)) 32,wa .i64 a 1))
  else
    some (.inr (c,d))
def m_hz (b:LI) (c:LI):LI×Int→Option ((LI×Int)⊕(LI)):=fun (d,a)=>
  if a < (b.length:Int) then
    (loop (m_hy c b a) (d,0,0)).bind fun (e,f)=>
    (setI e (wa .i64 a (c.length:Int)) (wc .u32 f)).bind fun g=>
    some (.inl (g,wa .i64 a 1))
  else
    some (.inr d)
def m_h0 (a:LI) (b:LI):Option (LI):=
  (mkL 0 (wa .i64 (a.length:Int) (b.length:Int))).bind fun c=>
  (loop (m_hz a b) (c,0)).bind fun d=>
  some d
def m_h1 (b:Bool) (c:LI) (d:Bool) (e:LI):Option (Bool×LI):=
  (m_g c).bind fun f=>
  (m_g e).bind fun g=>
  (m_h0 f g).bind fun h=>
  (m_h (!((b == d))) h).bind fun a=>
  some (a.1,a.2)
def m_h2 (c:LI) (d:LI) (e:Int):LI×Int→Option ((LI×Int)⊕(LI)):=fun (b,a)=>
  if a≤(c.length:Int) then
    (getI d a).bind fun f=>
    (setI b (wa .i64 a e) f).bind fun g=>
    some (.inl (g,wa .i64 a 1))
  else
    some (.inr b)
def m_h3 (e:LI) (a:Int) (f:Int) (g:LI) (c:Int) (b:Int):Option ((LI×Int×Int×Int)⊕((LI×Int))):=
  (getI e (wa .i64 a f)).bind fun d=>
  (setI g a (wc .u32 (ws .u64 (ws .u64 (wc .u64 d) c) (wand .u64 b 4294967295)))).bind fun h=>
  some (.inl (h,wsrc .u64 (ws .u64 (ws .u64 (wc .u64 d) c) (wand .u64 b 4294967295)) 63,wsrc .u64 b 32,wa .i64 a 1))
def m_h4 (b:LI) (e:LI) (f:Int) (h:Int):LI×Int×Int×Int→Option ((LI×Int×Int×Int)⊕((LI×Int))):=fun (c,d,g,a)=>
  if a≤(b.length:Int) then
    if a < (b.length:Int) then
      (getI b a).bind fun i=>
      m_h3 e a f c d (wa .u64 g (wm .u64 h (wc .u64 i)))
    else
      m_h3 e a f c d g
  else
    some (.inr (c,d))
def m_h5 (a:LI) (b:LI) (c:Int) (d:Int):Option (LI×Bool):=
  (mkL 0 (wa .i64 (b.length:Int) 1)).bind fun e=>
  (loop (m_h4 b a c d) (e,0,0,0)).bind fun (f,g)=>
  if g=0 then
    (loop (m_h2 b f c) (a,0)).bind fun h=>
    some (h,true)
  else
    some (a,false)
def m_h6 (c:LI) (d:Int):LI×Int→Option ((LI×Int)⊕((LI×Int))):=fun (e,a)=>
  (m_h5 e c d a).bind fun b=>
  if b.2=true then
    some (.inr (b.1,a))
  else
    some (.inl (b.1,ws .u64 a 1))
def m_h7 (c:LI) (d:LI):LI×LI×Int→Option ((LI×LI×Int)⊕((LI×LI))):=fun (b,e,a)=>
  if (0:Int)≤a then
    (getI b (wa .i64 a (c.length:Int))).bind fun f=>
    (getI b (ws .i64 (wa .i64 a (c.length:Int)) 1)).bind fun g=>
    (getI d (ws .i64 (c.length:Int) 1)).bind fun h=>
    (wq .u64 (wor .u64 (wslc .u64 (wc .u64 f) 32) (wc .u64 g)) (wc .u64 h)).bind fun i=>
    (loop (m_h6 d a) (b,imin i 4294967295)).bind fun (j,k)=>
    (setI e a (wc .u32 k)).bind fun l=>
    some (.inl (j,l,ws .i64 a 1))
  else
    some (.inr (b,e))
def m_h8 (b:LI) (a:LI) (c:LI) (d:Int) (e:LI):Option (LI×LI):=
  (mkL 0 (wa .i64 (ws .i64 (b.length:Int) (a.length:Int)) 1)).bind fun f=>
  (loop (m_h7 a c) (e,f,ws .i64 (b.length:Int) (a.length:Int))).bind fun (g,h)=>
  (m_g g).bind fun i=>
  (m_v i d).bind fun j=>
  (m_g h).bind fun k=>
  (m_g j.1).bind fun l=>
  some (k,l)
def m_h9 (b:LI) (a:LI):Option (LI×LI):=
  (m_2 b a).bind fun f=>
  if f < 0 then
    some ([],b)
  else
    (getI a (ws .i64 (a.length:Int) 1)).bind fun g=>
    (m_eo g).bind fun c=>
    (m_q b c).bind fun d=>
    (m_q a c).bind fun h=>
    (sli h 0 (a.length:Int)).bind fun e=>
    if (d.length:Int)=(b.length:Int) then
      (app d [0]).bind fun i=>
      m_h8 b a e c i
    else
      m_h8 b a e c d
def m_ia (a:Bool) (b:LI) (c:Bool) (d:LI):Option (Bool×LI×Bool×LI):=
  some (a,b,c,d)
def m_ib (a:Bool×LI) (b:Bool) (c:LI):Option (Bool×LI×Bool×LI):=
  m_ia b c a.1 a.2
def m_ic (l:Bool) (m:LI) (n:Bool) (o:LI):Option (Bool×LI×Bool×LI):=
  (m_k l m).bind fun d=>
  (m_k n o).bind fun c=>
  (m_h9 d.2 c.2).bind fun e=>
  (m_h (!((d.1 == c.1))) e.1).bind fun a=>
  (m_h d.1 e.2).bind fun b=>
  (m_bj b.1 b.2).bind fun p=>
  if p < 0 then
    (m_o c.1 c.2).bind fun f=>
    (m_6 b.1 b.2 f.1 f.2).bind fun g=>
    if c.1=true then
      (m_j 1).bind fun h=>
      (m_6 a.1 a.2 h.1 h.2).bind fun i=>
      m_ib g i.1 i.2
    else
      (m_j 1).bind fun j=>
      (m_7 a.1 a.2 j.1 j.2).bind fun k=>
      m_ib g k.1 k.2
  else
    m_ia a.1 a.2 b.1 b.2
def m_id:Bool×LI×Bool×LI→Option ((Bool×LI×Bool×LI)⊕((Bool×LI))):=fun (c,d,a,b)=>
  (m_bj a b).bind fun f=>
  if f=0 then
    some (.inr (c,d))
  else
    (m_ic c d a b).bind fun e=>
    some (.inl (a,b,e.2.2.1,e.2.2.2))
def m_ie (c:Bool) (d:LI) (e:Bool) (f:LI):Option (Bool×LI):=
  (m_o c d).bind fun a=>
  (m_o e f).bind fun b=>
  (loop (m_id) (a.1,a.2,b.1,b.2)).bind fun (g,h)=>
  some (g,h)
def m_if (b:Bool) (c:LI) (d:Bool) (e:LI):Option (Bool×LI×Bool):=
  (m_ic b c d e).bind fun a=>
  (m_bj a.2.2.1 a.2.2.2).bind fun f=>
  if f=0 then
    some (a.1,a.2.1,true)
  else
    some (false,[],false)
def m_ig (e:Bool) (f:LI) (g:Bool) (h:LI) (a:Bool) (b:LI):Option (Bool×LI×Bool×LI):=
  (m_if e f a b).bind fun c=>
  (m_if g h a b).bind fun d=>
  some (c.1,c.2.1,d.1,d.2.1)
def m_ih (d:Bool) (e:LI) (a:Bool) (b:LI):Option (Bool×LI×Bool×LI):=
  (m_ie d e a b).bind fun c=>
  (m_bj a b).bind fun g=>
  if g < 0 then
    (m_w c.1 c.2).bind fun f=>
    m_ig d e a b f.1 f.2
  else
    m_ig d e a b c.1 c.2
def m_ii (m:Bool) (n:LI) (c:Bool) (d:LI) (o:Bool) (p:LI) (q:Bool) (r:LI) (s:Bool) (t:LI) (u:Bool) (v:LI) (w:Bool) (x:LI) (y:Bool) (z:LI):Option (Bool×LI×Bool×LI):=
  (m_h1 o p s t).bind fun e=>
  (m_h1 e.1 e.2 y z).bind fun f=>
  (m_h1 q r u v).bind fun g=>
  (m_h1 g.1 g.2 w x).bind fun h=>
  (m_ih f.1 f.2 h.1 h.2).bind fun a=>
  (m_h1 m n a.2.2.1 a.2.2.2).bind fun i=>
  (m_h1 a.1 a.2.1 c d).bind fun j=>
  (m_7 i.1 i.2 j.1 j.2).bind fun k=>
  (m_h1 c d a.2.2.1 a.2.2.2).bind fun l=>
  (m_ih k.1 k.2 l.1 l.2).bind fun b=>
  some (b.1,b.2.1,b.2.2.1,b.2.2.2)
def m_ij (a:Int) (b:List (List (Bool×LI×Bool×LI))) (c:Bool) (d:LI) (e:Bool) (f:LI) (g:LI):Option (((List (List (Bool×LI×Bool×LI)))×Bool×LI×Bool×LI×LI×Int)⊕(((List (List (Bool×LI×Bool×LI)))×Bool×LI×Bool×LI×LI))):=
  some (.inl (b,c,d,e,f,g,wa .i64 a 1))
def m_ik (j:Int) (h:Int) (i:LI) (k:Int) (c:Bool×LI×Bool×LI):(List (List (Bool×LI×Bool×LI)))×Int→Option (((List (List (Bool×LI×Bool×LI)))×Int)⊕(((List (List (Bool×LI×Bool×LI)))))):=fun (a,b)=>
  if b < j then
    (getI a h).bind fun l=>
    (getI a h).bind fun m=>
    (getI m b).bind fun d=>
    (getI a (i.length:Int)).bind fun n=>
    (getI n b).bind fun e=>
    (getI a (i.length:Int)).bind fun o=>
    (getI o k).bind fun f=>
    (m_ii d.1 d.2.1 d.2.2.1 d.2.2.2 c.1 c.2.1 c.2.2.1 c.2.2.2 e.1 e.2.1 e.2.2.1 e.2.2.2 f.1 f.2.1 f.2.2.1 f.2.2.2).bind fun g=>
    (setI l b (g.1,g.2.1,g.2.2.1,g.2.2.2)).bind fun p=>
    (setI a h p).bind fun q=>
    some (.inl (q,wa .i64 b 1))
  else
    some (.inr a)
def m_il (c:Int) (d:Int) (e:LI):(List (List (Bool×LI×Bool×LI)))×Int→Option (((List (List (Bool×LI×Bool×LI)))×Int)⊕(((List (List (Bool×LI×Bool×LI)))))):=fun (a,b)=>
  if b < (a.length:Int) then
    (getI a b).bind fun f=>
    (getI f c).bind fun g=>
    (loop (m_ik d b e c g) (a,c)).bind fun h=>
    some (.inl (h,wa .i64 b 1))
  else
    some (.inr a)
def m_im (a:LI) (b:Int) (i:Bool) (j:LI) (k:Int) (d:List (List (Bool×LI×Bool×LI))) (l:Bool) (m:LI):Option (((List (List (Bool×LI×Bool×LI)))×Bool×LI×Bool×LI×LI×Int)⊕(((List (List (Bool×LI×Bool×LI)))×Bool×LI×Bool×LI×LI))):=
  (getI d (a.length:Int)).bind fun n=>
  (getI n b).bind fun e=>
  (m_h1 l m e.1 e.2.1).bind fun f=>
  (getI d (a.length:Int)).bind fun o=>
  (getI o b).bind fun g=>
  (m_h1 i j g.2.2.1 g.2.2.2).bind fun h=>
  (m_ih f.1 f.2 h.1 h.2).bind fun c=>
  (loop (m_il b k a) (d,wa .i64 (a.length:Int) 1)).bind fun p=>
  (app a [b]).bind fun q=>
  m_ij b p c.1 c.2.1 c.2.2.1 c.2.2.2 q
def m_in (c:List (List (Bool×LI×Bool×LI))) (d:Int):Int→Option ((Int)⊕(Int)):=fun a=>
  (if a < (c.length:Int) then
    (getI c a).bind fun e=>
    (getI e d).bind fun b=>
    (m_hx b.1 b.2.1 b.2.2.1 b.2.2.2).bind fun f=>
    some f
  else
    some false).bind fun g=>
  if g=true then
    some (.inl (wa .i64 a 1))
  else
    some (.inr a)
def m_io (i:Int):(List (List (Bool×LI×Bool×LI)))×Bool×LI×Bool×LI×LI×Int→Option (((List (List (Bool×LI×Bool×LI)))×Bool×LI×Bool×LI×LI×Int)⊕(((List (List (Bool×LI×Bool×LI)))×Bool×LI×Bool×LI×LI))):=fun (a,d,e,f,g,b,c)=>
  if c < i then
    (loop (m_in a c) (b.length:Int)).bind fun h=>
    if h=(a.length:Int) then
      m_ij c a d e f g b
    else
      if h=(b.length:Int) then
        m_im b c f g i a d e
      else
        (getI a (b.length:Int)).bind fun k=>
        (getI a h).bind fun l=>
        (setI a h k).bind fun m=>
        (setI m (b.length:Int) l).bind fun n=>
        (m_w d e).bind fun j=>
        m_im b c f g i n j.1 j.2
  else
    some (.inr (a,d,e,f,g,b))
def m_ip (c:List (List (Bool×LI×Bool×LI))) (d:Int):Option ((List (List (Bool×LI×Bool×LI)))×LI×Bool×LI×Bool×LI):=
  (m_j 1).bind fun a=>
  (m_j 1).bind fun b=>
  (loop (m_io d) (c,a.1,a.2,b.1,b.2,[],0)).bind fun (e,f,g,h,i,j)=>
  some (e,j,f,g,h,i)
end M
