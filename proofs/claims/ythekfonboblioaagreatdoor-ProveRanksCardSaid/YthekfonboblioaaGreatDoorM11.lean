/- Models of functions of the program, printed. -/
import Derived.Test.YthekfonboblioaaGreatDoorM10
namespace M
open Sx
set_option linter.unusedVariables false
def m_ik (a:Bool) (b:LI) (c:Bool) (d:LI):Option (Bool×LI×Bool×LI):=
  some (a,b,c,d)
def m_il (a:Bool×LI) (b:Bool) (c:LI):Option (Bool×LI×Bool×LI):=
  m_ik b c a.1 a.2
def m_im (l:Bool) (m:LI) (n:Bool) (o:LI):Option (Bool×LI×Bool×LI):=
  (m_k l m).bind fun d=>
  (m_k n o).bind fun c=>
  (m_ij d.2 c.2).bind fun e=>
  (m_h (!((d.1 == c.1))) e.1).bind fun a=>
  (m_h d.1 e.2).bind fun b=>
  (m_bj b.1 b.2).bind fun p=>
  if p < 0 then
    (m_o c.1 c.2).bind fun f=>
    (m_6 b.1 b.2 f.1 f.2).bind fun g=>
    if c.1=true then
      (m_j 1).bind fun h=>
      (m_6 a.1 a.2 h.1 h.2).bind fun i=>
      m_il g i.1 i.2
    else
      (m_j 1).bind fun j=>
      (m_7 a.1 a.2 j.1 j.2).bind fun k=>
      m_il g k.1 k.2
  else
    m_ik a.1 a.2 b.1 b.2
def m_in:Bool×LI×Bool×LI→Option ((Bool×LI×Bool×LI)⊕((Bool×LI))):=fun (c,d,a,b)=>
  (m_bj a b).bind fun f=>
  if f=0 then
    some (.inr (c,d))
  else
    (m_im c d a b).bind fun e=>
    some (.inl (a,b,e.2.2.1,e.2.2.2))
def m_io (c:Bool) (d:LI) (e:Bool) (f:LI):Option (Bool×LI):=
  (m_o c d).bind fun a=>
  (m_o e f).bind fun b=>
  (loop (m_in) (a.1,a.2,b.1,b.2)).bind fun (g,h)=>
  some (g,h)
def m_ip (b:Bool) (c:LI) (d:Bool) (e:LI):Option (Bool×LI×Bool):=
  (m_im b c d e).bind fun a=>
  (m_bj a.2.2.1 a.2.2.2).bind fun f=>
  if f=0 then
    some (a.1,a.2.1,true)
  else
    some (false,[],false)
def m_iq (e:Bool) (f:LI) (g:Bool) (h:LI) (a:Bool) (b:LI):Option (Bool×LI×Bool×LI):=
  (m_ip e f a b).bind fun c=>
  (m_ip g h a b).bind fun d=>
  some (c.1,c.2.1,d.1,d.2.1)
def m_ir (d:Bool) (e:LI) (a:Bool) (b:LI):Option (Bool×LI×Bool×LI):=
  (m_io d e a b).bind fun c=>
  (m_bj a b).bind fun g=>
  if g < 0 then
    (m_w c.1 c.2).bind fun f=>
    m_iq d e a b f.1 f.2
  else
    m_iq d e a b c.1 c.2
def m_is (m:Bool) (n:LI) (c:Bool) (d:LI) (o:Bool) (p:LI) (q:Bool) (r:LI) (s:Bool) (t:LI) (u:Bool) (v:LI) (w:Bool) (x:LI) (y:Bool) (z:LI):Option (Bool×LI×Bool×LI):=
  (m_ib o p s t).bind fun e=>
  (m_ib e.1 e.2 y z).bind fun f=>
  (m_ib q r u v).bind fun g=>
  (m_ib g.1 g.2 w x).bind fun h=>
  (m_ir f.1 f.2 h.1 h.2).bind fun a=>
  (m_ib m n a.2.2.1 a.2.2.2).bind fun i=>
  (m_ib a.1 a.2.1 c d).bind fun j=>
  (m_7 i.1 i.2 j.1 j.2).bind fun k=>
  (m_ib c d a.2.2.1 a.2.2.2).bind fun l=>
  (m_ir k.1 k.2 l.1 l.2).bind fun b=>
  some (b.1,b.2.1,b.2.2.1,b.2.2.2)
def m_it (a:Int) (b:List (List (Bool×LI×Bool×LI))) (c:Bool) (d:LI) (e:Bool) (f:LI) (g:LI):Option (((List (List (Bool×LI×Bool×LI)))×Bool×LI×Bool×LI×LI×Int)⊕(((List (List (Bool×LI×Bool×LI)))×Bool×LI×Bool×LI×LI))):=
  some (.inl (b,c,d,e,f,g,wa .i64 a 1))
def m_iu (j:Int) (h:Int) (i:LI) (k:Int) (c:Bool×LI×Bool×LI):(List (List (Bool×LI×Bool×LI)))×Int→Option (((List (List (Bool×LI×Bool×LI)))×Int)⊕(((List (List (Bool×LI×Bool×LI)))))):=fun (a,b)=>
  if b < j then
    (getI a h).bind fun l=>
    (getI a h).bind fun m=>
    (getI m b).bind fun d=>
    (getI a (i.length:Int)).bind fun n=>
    (getI n b).bind fun e=>
    (getI a (i.length:Int)).bind fun o=>
    (getI o k).bind fun f=>
    (m_is d.1 d.2.1 d.2.2.1 d.2.2.2 c.1 c.2.1 c.2.2.1 c.2.2.2 e.1 e.2.1 e.2.2.1 e.2.2.2 f.1 f.2.1 f.2.2.1 f.2.2.2).bind fun g=>
    (setI l b (g.1,g.2.1,g.2.2.1,g.2.2.2)).bind fun p=>
    (setI a h p).bind fun q=>
    some (.inl (q,wa .i64 b 1))
  else
    some (.inr a)
def m_iv (c:Int) (d:Int) (e:LI):(List (List (Bool×LI×Bool×LI)))×Int→Option (((List (List (Bool×LI×Bool×LI)))×Int)⊕(((List (List (Bool×LI×Bool×LI)))))):=fun (a,b)=>
  if b < (a.length:Int) then
    (getI a b).bind fun f=>
    (getI f c).bind fun g=>
    (loop (m_iu d b e c g) (a,c)).bind fun h=>
    some (.inl (h,wa .i64 b 1))
  else
    some (.inr a)
def m_iw (a:LI) (b:Int) (i:Bool) (j:LI) (k:Int) (d:List (List (Bool×LI×Bool×LI))) (l:Bool) (m:LI):Option (((List (List (Bool×LI×Bool×LI)))×Bool×LI×Bool×LI×LI×Int)⊕(((List (List (Bool×LI×Bool×LI)))×Bool×LI×Bool×LI×LI))):=
  (getI d (a.length:Int)).bind fun n=>
  (getI n b).bind fun e=>
  (m_ib l m e.1 e.2.1).bind fun f=>
  (getI d (a.length:Int)).bind fun o=>
  (getI o b).bind fun g=>
  (m_ib i j g.2.2.1 g.2.2.2).bind fun h=>
  (m_ir f.1 f.2 h.1 h.2).bind fun c=>
  (loop (m_iv b k a) (d,wa .i64 (a.length:Int) 1)).bind fun p=>
  (app a [b]).bind fun q=>
  m_it b p c.1 c.2.1 c.2.2.1 c.2.2.2 q
def m_ix (c:List (List (Bool×LI×Bool×LI))) (d:Int):Int→Option ((Int)⊕(Int)):=fun a=>
  (if a < (c.length:Int) then
    (getI c a).bind fun e=>
    (getI e d).bind fun b=>
    (m_h7 b.1 b.2.1 b.2.2.1 b.2.2.2).bind fun f=>
    some f
  else
    some false).bind fun g=>
  if g=true then
    some (.inl (wa .i64 a 1))
  else
    some (.inr a)
def m_iy (i:Int):(List (List (Bool×LI×Bool×LI)))×Bool×LI×Bool×LI×LI×Int→Option (((List (List (Bool×LI×Bool×LI)))×Bool×LI×Bool×LI×LI×Int)⊕(((List (List (Bool×LI×Bool×LI)))×Bool×LI×Bool×LI×LI))):=fun (a,d,e,f,g,b,c)=>
  if c < i then
    (loop (m_ix a c) (b.length:Int)).bind fun h=>
    if h=(a.length:Int) then
      m_it c a d e f g b
    else
      if h=(b.length:Int) then
        m_iw b c f g i a d e
      else
        (getI a (b.length:Int)).bind fun k=>
        (getI a h).bind fun l=>
        (setI a h k).bind fun m=>
        (setI m (b.length:Int) l).bind fun n=>
        (m_w d e).bind fun j=>
        m_iw b c f g i n j.1 j.2
  else
    some (.inr (a,d,e,f,g,b))
def m_iz (c:List (List (Bool×LI×Bool×LI))) (d:Int):Option ((List (List (Bool×LI×Bool×LI)))×LI×Bool×LI×Bool×LI):=
  (m_j 1).bind fun a=>
  (m_j 1).bind fun b=>
  (loop (m_iy d) (c,a.1,a.2,b.1,b.2,[],0)).bind fun (e,f,g,h,i,j)=>
  some (e,j,f,g,h,i)
def m_i0 (a:List (List (Bool×LI))):Option (Int):=
  (m_h5 a).bind fun b=>
  (m_h6 a).bind fun c=>
  (m_iz b c).bind fun d=>
  some (d.2.1.length:Int)
def m_i1 (a:List (List (Bool×LI))) (b:Int):Option (Int):=
  if b=0 then
    some 0
  else
    (m_i0 a).bind fun c=>
    some c
def m_i2 (h:Int) (b:List (Bool×LI×Bool×LI)) (i:Bool) (j:LI):(List (Bool×LI))×Int→Option (((List (Bool×LI))×Int)⊕(((List (Bool×LI))))):=fun (c,a)=>
  if a < h then
    (getI b a).bind fun d=>
    (m_ib d.1 d.2.1 i j).bind fun e=>
    (getI b a).bind fun f=>
    (m_ip e.1 e.2 f.2.2.1 f.2.2.2).bind fun g=>
    (app c [(g.1,g.2.1)]).bind fun k=>
    some (.inl (k,wa .i64 a 1))
  else
    some (.inr c)
def m_i3 (j:Int) (d:List (Bool×LI×Bool×LI)):Bool×LI×Int→Option ((Bool×LI×Int)⊕((Bool×LI))):=fun (b,c,a)=>
  if a < j then
    (getI d a).bind fun e=>
    (getI d a).bind fun f=>
    (m_io b c f.2.2.1 f.2.2.2).bind fun g=>
    (m_ip e.2.2.1 e.2.2.2 g.1 g.2).bind fun h=>
    (m_ib b c h.1 h.2.1).bind fun i=>
    some (.inl (i.1,i.2,wa .i64 a 1))
  else
    some (.inr (b,c))
def m_i4 (k:Int) (l:(List (List (Bool×LI×Bool×LI)))×LI×Bool×LI×Bool×LI) (m:Int) (n:List (Bool×LI×Bool×LI)) (e:Bool×LI) (f:Bool×LI):Bool×LI×Bool×LI×Int→Option ((Bool×LI×Bool×LI×Int)⊕((Bool×LI×Bool×LI))):=fun (g,h,i,j,a)=>
  if a≤k then
    (getI l.1 m).bind fun o=>
    (getI o a).bind fun b=>
    (getI n a).bind fun c=>
    (m_is g h i j b.1 b.2.1 b.2.2.1 b.2.2.2 c.1 c.2.1 c.2.2.1 c.2.2.2 e.1 e.2 f.1 f.2).bind fun d=>
    some (.inl (d.1,d.2.1,d.2.2.1,d.2.2.2,wa .i64 a 1))
  else
    some (.inr (g,h,i,j))
def m_i5 (j:Int) (e:(List (List (Bool×LI×Bool×LI)))×LI×Bool×LI×Bool×LI) (k:Bool×LI) (l:Bool×LI):(List (Bool×LI×Bool×LI))×Int→Option (((List (Bool×LI×Bool×LI))×Int)⊕(((List (Bool×LI×Bool×LI))))):=fun (b,a)=>
  if (0:Int)≤a then
    (getI b a).bind fun c=>
    (loop (m_i4 j e a b k l) (c.1,c.2.1,c.2.2.1,c.2.2.2,wa .i64 a 1)).bind fun (m,n,o,p)=>
    (getI e.1 a).bind fun q=>
    (getI q a).bind fun f=>
    (m_ib m n f.2.2.1 f.2.2.2).bind fun g=>
    (getI e.1 a).bind fun r=>
    (getI r a).bind fun h=>
    (m_ib o p h.1 h.2.1).bind fun i=>
    (m_ir g.1 g.2 i.1 i.2).bind fun d=>
    (setI b a (d.1,d.2.1,d.2.2.1,d.2.2.2)).bind fun s=>
    some (.inl (s,ws .i64 a 1))
  else
    some (.inr b)
def m_i6 (d:Int):(List (Bool×LI×Bool×LI))×Int→Option (((List (Bool×LI×Bool×LI))×Int)⊕(((List (Bool×LI×Bool×LI))))):=fun (b,a)=>
  if a < d then
    (m_j 1).bind fun c=>
    (setI b a (false,[],c.1,c.2)).bind fun e=>
    some (.inl (e,wa .i64 a 1))
  else
    some (.inr b)
def m_i7 (b:(List (List (Bool×LI×Bool×LI)))×LI×Bool×LI×Bool×LI):Int→Option ((Int)⊕(Int)):=fun a=>
  (if a < (b.2.1.length:Int) then
    (getI b.2.1 a).bind fun c=>
    some (decide (c=a))
  else
    some false).bind fun d=>
  if d=true then
    some (.inl (wa .i64 a 1))
  else
    some (.inr a)
def m_i8 (f:List (List (Bool×LI))):Option ((List (Bool×LI))):=
  (m_h6 f).bind fun a=>
  (m_h5 f).bind fun i=>
  (m_iz i a).bind fun b=>
  if (b.2.1.length:Int)=a then
    some []
  else
    (loop (m_i7 b) 0).bind fun c=>
    (m_j 1).bind fun d=>
    (m_j 1).bind fun e=>
    (mkL (false,[],false,[]) a).bind fun j=>
    (loop (m_i6 a) (j,0)).bind fun k=>
    (setI k c (d.1,d.2,e.1,e.2)).bind fun l=>
    (loop (m_i5 c b d e) (l,ws .i64 c 1)).bind fun g=>
    (m_j 1).bind fun h=>
    (loop (m_i3 a g) (h.1,h.2,0)).bind fun (m,n)=>
    (loop (m_i2 a g m n) ([],0)).bind fun o=>
    some o
def m_i9 (a:Int) (b:List (List (Bool×LI))) (c:LI):Option (((List (List (Bool×LI)))×LI×Int)⊕(((List (List (Bool×LI)))))):=
  some (.inl (b,c,wa .i64 a 1))
def m_ja (a:List (List (Bool×LI))) (b:Int) (c:LI) (d:List (Bool×LI)):Option (((List (List (Bool×LI)))×LI×Int)⊕(((List (List (Bool×LI)))))):=
  (app a [d]).bind fun e=>
  m_i9 b e c
def m_jb (b:LI) (e:(List (Bool×LI))):(List (Bool×LI))×Int→Option (((List (Bool×LI))×Int)⊕(((List (Bool×LI))))):=fun (c,a)=>
  if a < (b.length:Int) then
    (getI b a).bind fun f=>
    (getI e a).bind fun d=>
    (setI c f (d.1,d.2)).bind fun g=>
    some (.inl (g,wa .i64 a 1))
  else
    some (.inr c)
def m_jc (f:Int) (c:List (List (Bool×LI))):(List (List (Bool×LI)))×LI×Int→Option (((List (List (Bool×LI)))×LI×Int)⊕(((List (List (Bool×LI)))))):=fun (d,e,a)=>
  if a < f then
    (app [] e).bind fun i=>
    (app i [a]).bind fun b=>
    (if (0:Int) < (c.length:Int) then
      (m_h2 c b).bind fun j=>
      (m_i1 j (b.length:Int)).bind fun k=>
      some (decide ((e.length:Int) < k))
    else
      some false).bind fun l=>
    if l=true then
      m_i9 a d b
    else
      (mkL (false,[]) f).bind fun m=>
      (m_j 1).bind fun g=>
      (setI m a (g.1,g.2)).bind fun h=>
      if (0:Int) < (c.length:Int) then
        (m_h2 c b).bind fun n=>
        (m_i8 n).bind fun o=>
        (loop (m_jb b o) (h,0)).bind fun p=>
        m_ja d a e p
      else
        m_ja d a e h
  else
    some (.inr d)
def m_jd (a:List (List (Bool×LI))) (b:Int):Option ((List (List (Bool×LI)))):=
  (loop (m_jc b a) ([],[],0)).bind fun c=>
  some c
def m_je (b:Int):Int→Option ((Int)⊕(Unit⊕Unit)):=fun a=>
  if (wm .i64 a a)≤b then
    (wr b a).bind fun c=>
    if c=0 then
      some (.inr (.inr ()))
    else
      some (.inl (wa .i64 a 1))
  else
    some (.inr (.inl ()))
def m_jf (a:Int):Option (Bool):=
  if ((decide (a < 2)) || (decide ((2147483647:Int) < a)))=true then
    some false
  else
    (loop (m_je a) 2).bind (fun o=>match o with
      | .inl ()=>
        some true
      | .inr ()=>
        some false)
def m_jg (a:Int) (b:LI):Option ((LI×Int)⊕(LI)):=
  some (.inl (b,ws .i64 a 1))
def m_jh (c:Int):LI×Int→Option ((LI×Int)⊕(LI)):=fun (b,a)=>
  if ((decide ((1:Int) < a)) && (decide ((b.length:Int) < (imin c 100))))=true then
    (m_jf a).bind fun d=>
    if d=true then
      (app b [a]).bind fun e=>
      m_jg a e
    else
      m_jg a b
  else
    some (.inr b)
def m_ji (a:Int) (b:Int):Option (LI):=
  if a≤2 then
    some []
  else
    (loop (m_jh b) ([],ws .i64 (imin a 2147483648) 1)).bind fun c=>
    some c
def m_jj (c:Bool) (d:LI) (e:Int):Option (Int):=
  (m_j e).bind fun a=>
  (m_im c d a.1 a.2).bind fun b=>
  (m_bu b.2.2.1 b.2.2.2).bind fun f=>
  some f.1
def m_jk (b:List (List (Bool×LI))) (c:Int) (f:Int):LI×Int→Option ((LI×Int)⊕(LI)):=fun (d,a)=>
  (getI b c).bind fun g=>
  if a < (g.length:Int) then
    (getI b c).bind fun h=>
    (getI h a).bind fun e=>
    (m_jj e.1 e.2 f).bind fun i=>
    (app d [i]).bind fun j=>
    some (.inl (j,wa .i64 a 1))
  else
    some (.inr d)
def m_jl (b:List (List (Bool×LI))) (d:Int):L2×Int→Option ((L2×Int)⊕(L2)):=fun (c,a)=>
  if a < (b.length:Int) then
    (loop (m_jk b a d) ([],0)).bind fun e=>
    (app c [e]).bind fun f=>
    some (.inl (f,wa .i64 a 1))
  else
    some (.inr c)
def m_jm (a:List (List (Bool×LI))) (b:Int):Option (L2):=
  (loop (m_jl a b) ([],0)).bind fun c=>
  some c
end M
