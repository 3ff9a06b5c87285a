/- Models of functions of the program, printed. -/
import Derived.Test.YtcoaljcfifecgaeGreatDoorM10
namespace M
open Sx
set_option linter.unusedVariables false
def m_ik:Bool×LI×Bool×LI→Option ((Bool×LI×Bool×LI)⊕((Bool×LI))):=fun (c,d,a,b)=>
  (m_bj a b).bind fun f=>
  if f=0 then
    some (.inr (c,d))
  else
    (m_ij c d a b).bind fun e=>
    some (.inl (a,b,e.2.2.1,e.2.2.2))
def m_il (c:Bool) (d:LI) (e:Bool) (f:LI):Option (Bool×LI):=
  (m_o c d).bind fun a=>
  (m_o e f).bind fun b=>
  (loop (m_ik) (a.1,a.2,b.1,b.2)).bind fun (g,h)=>
  some (g,h)
def m_im (b:Bool) (c:LI) (d:Bool) (e:LI):Option (Bool×LI×Bool):=
  (m_ij b c d e).bind fun a=>
  (m_bj a.2.2.1 a.2.2.2).bind fun f=>
  if f=0 then
    some (a.1,a.2.1,true)
  else
    some (false,[],false)
def m_in (e:Bool) (f:LI) (g:Bool) (h:LI) (a:Bool) (b:LI):Option (Bool×LI×Bool×LI):=
  (m_im e f a b).bind fun c=>
  (m_im g h a b).bind fun d=>
  some (c.1,c.2.1,d.1,d.2.1)
def m_io (d:Bool) (e:LI) (a:Bool) (b:LI):Option (Bool×LI×Bool×LI):=
  (m_il d e a b).bind fun c=>
  (m_bj a b).bind fun g=>
  if g < 0 then
    (m_w c.1 c.2).bind fun f=>
    m_in d e a b f.1 f.2
  else
    m_in d e a b c.1 c.2
def m_ip (m:Bool) (n:LI) (c:Bool) (d:LI) (o:Bool) (p:LI) (q:Bool) (r:LI) (s:Bool) (t:LI) (u:Bool) (v:LI) (w:Bool) (x:LI) (y:Bool) (z:LI):Option (Bool×LI×Bool×LI):=
  (m_h8 o p s t).bind fun e=>
  (m_h8 e.1 e.2 y z).bind fun f=>
  (m_h8 q r u v).bind fun g=>
  (m_h8 g.1 g.2 w x).bind fun h=>
  (m_io f.1 f.2 h.1 h.2).bind fun a=>
  (m_h8 m n a.2.2.1 a.2.2.2).bind fun i=>
  (m_h8 a.1 a.2.1 c d).bind fun j=>
  (m_7 i.1 i.2 j.1 j.2).bind fun k=>
  (m_h8 c d a.2.2.1 a.2.2.2).bind fun l=>
  (m_io k.1 k.2 l.1 l.2).bind fun b=>
  some (b.1,b.2.1,b.2.2.1,b.2.2.2)
def m_iq (a:Int) (b:List (List (Bool×LI×Bool×LI))) (c:Bool) (d:LI) (e:Bool) (f:LI) (g:LI):Option (((List (List (Bool×LI×Bool×LI)))×Bool×LI×Bool×LI×LI×Int)⊕(((List (List (Bool×LI×Bool×LI)))×Bool×LI×Bool×LI×LI))):=
  some (.inl (b,c,d,e,f,g,wa .i64 a 1))
def m_ir (j:Int) (h:Int) (i:LI) (k:Int) (c:Bool×LI×Bool×LI):(List (List (Bool×LI×Bool×LI)))×Int→Option (((List (List (Bool×LI×Bool×LI)))×Int)⊕(((List (List (Bool×LI×Bool×LI)))))):=fun (a,b)=>
  if b < j then
    (getI a h).bind fun l=>
    (getI a h).bind fun m=>
    (getI m b).bind fun d=>
    (getI a (i.length:Int)).bind fun n=>
    (getI n b).bind fun e=>
    (getI a (i.length:Int)).bind fun o=>
    (getI o k).bind fun f=>
    (m_ip d.1 d.2.1 d.2.2.1 d.2.2.2 c.1 c.2.1 c.2.2.1 c.2.2.2 e.1 e.2.1 e.2.2.1 e.2.2.2 f.1 f.2.1 f.2.2.1 f.2.2.2).bind fun g=>
    (setI l b (g.1,g.2.1,g.2.2.1,g.2.2.2)).bind fun p=>
    (setI a h p).bind fun q=>
    some (.inl (q,wa .i64 b 1))
  else
    some (.inr a)
def m_is (c:Int) (d:Int) (e:LI):(List (List (Bool×LI×Bool×LI)))×Int→Option (((List (List (Bool×LI×Bool×LI)))×Int)⊕(((List (List (Bool×LI×Bool×LI)))))):=fun (a,b)=>
  if b < (a.length:Int) then
    (getI a b).bind fun f=>
    (getI f c).bind fun g=>
    (loop (m_ir d b e c g) (a,c)).bind fun h=>
    some (.inl (h,wa .i64 b 1))
  else
    some (.inr a)
def m_it (a:LI) (b:Int) (i:Bool) (j:LI) (k:Int) (d:List (List (Bool×LI×Bool×LI))) (l:Bool) (m:LI):Option (((List (List (Bool×LI×Bool×LI)))×Bool×LI×Bool×LI×LI×Int)⊕(((List (List (Bool×LI×Bool×LI)))×Bool×LI×Bool×LI×LI))):=
  (getI d (a.length:Int)).bind fun n=>
  (getI n b).bind fun e=>
  (m_h8 l m e.1 e.2.1).bind fun f=>
  (getI d (a.length:Int)).bind fun o=>
  (getI o b).bind fun g=>
  (m_h8 i j g.2.2.1 g.2.2.2).bind fun h=>
  (m_io f.1 f.2 h.1 h.2).bind fun c=>
  (loop (m_is b k a) (d,wa .i64 (a.length:Int) 1)).bind fun p=>
  (app a [b]).bind fun q=>
  m_iq b p c.1 c.2.1 c.2.2.1 c.2.2.2 q
def m_iu (c:List (List (Bool×LI×Bool×LI))) (d:Int):Int→Option ((Int)⊕(Int)):=fun a=>
  (if a < (c.length:Int) then
    (getI c a).bind fun e=>
    (getI e d).bind fun b=>
    (m_h4 b.1 b.2.1 b.2.2.1 b.2.2.2).bind fun f=>
    some f
  else
    some false).bind fun g=>
  if g=true then
    some (.inl (wa .i64 a 1))
  else
    some (.inr a)
def m_iv (i:Int):(List (List (Bool×LI×Bool×LI)))×Bool×LI×Bool×LI×LI×Int→Option (((List (List (Bool×LI×Bool×LI)))×Bool×LI×Bool×LI×LI×Int)⊕(((List (List (Bool×LI×Bool×LI)))×Bool×LI×Bool×LI×LI))):=fun (a,d,e,f,g,b,c)=>
  if c < i then
    (loop (m_iu a c) (b.length:Int)).bind fun h=>
    if h=(a.length:Int) then
      m_iq c a d e f g b
    else
      if h=(b.length:Int) then
        m_it b c f g i a d e
      else
        (getI a (b.length:Int)).bind fun k=>
        (getI a h).bind fun l=>
        (setI a h k).bind fun m=>
        (setI m (b.length:Int) l).bind fun n=>
        (m_w d e).bind fun j=>
        m_it b c f g i n j.1 j.2
  else
    some (.inr (a,d,e,f,g,b))
def m_iw (c:List (List (Bool×LI×Bool×LI))) (d:Int):Option ((List (List (Bool×LI×Bool×LI)))×LI×Bool×LI×Bool×LI):=
  (m_j 1).bind fun a=>
  (m_j 1).bind fun b=>
  (loop (m_iv d) (c,a.1,a.2,b.1,b.2,[],0)).bind fun (e,f,g,h,i,j)=>
  some (e,j,f,g,h,i)
def m_ix (a:List (List (Bool×LI))):Option (Int):=
  (m_h2 a).bind fun b=>
  (m_h3 a).bind fun c=>
  (m_iw b c).bind fun d=>
  some (d.2.1.length:Int)
def m_iy (b:LI) (d:Int):Int→Option ((Int)⊕(Unit⊕Unit)):=fun a=>
  if a < (b.length:Int) then
    (getI b a).bind fun c=>
    (if ((decide (c < 0)) || (decide (d≤c)))=true then
      some true
    else
      (if (0:Int) < a then
        (getI b (ws .i64 a 1)).bind fun e=>
        some (decide (c≤e))
      else
        some false).bind fun f=>
      some f).bind fun g=>
    if g=true then
      some (.inr (.inr ()))
    else
      some (.inl (wa .i64 a 1))
  else
    some (.inr (.inl ()))
def m_iz (a:LI) (b:Int) (c:Int):Option (Bool):=
  if (a.length:Int)=b then
    (loop (m_iy a c) 0).bind (fun o=>match o with
      | .inl ()=>
        some true
      | .inr ()=>
        some false)
  else
    some false
def m_i0 (a:L2) (c:Int):Option (Int):=
  (m_gs a c).bind fun b=>
  (if b=0 then
    (m_gn a).bind fun d=>
    some (!(decide ((a.length:Int)=d)))
  else
    some false).bind fun e=>
  if e=true then
    some 5
  else
    some b
def m_i1 (a:L2) (b:Int):Option (Int×Int):=
  (m_i0 a b).bind fun c=>
  if c=0 then
    (m_gx a b).bind fun e=>
    (m_hd e b).bind fun d=>
    if (d.2.1.length:Int) < (a.length:Int) then
      some (0,0)
    else
      some (d.2.2,0)
  else
    some (0,c)
def m_i2 (b:LI) (e:List (List (Bool×LI))) (f:Int) (g:Int):LI×Int→Option ((LI×Int)⊕(LI)):=fun (c,a)=>
  if a < (b.length:Int) then
    (getI b a).bind fun h=>
    (getI e f).bind fun i=>
    (getI i h).bind fun d=>
    (m_gi d.1 d.2 g).bind fun j=>
    (app c [j.1]).bind fun k=>
    some (.inl (k,wa .i64 a 1))
  else
    some (.inr c)
def m_i3 (b:LI) (d:LI) (e:List (List (Bool×LI))) (f:Int):L2×Int→Option ((L2×Int)⊕(L2)):=fun (c,a)=>
  if a < (b.length:Int) then
    (getI b a).bind fun g=>
    (loop (m_i2 d e g f) ([],0)).bind fun h=>
    (app c [h]).bind fun i=>
    some (.inl (i,wa .i64 a 1))
  else
    some (.inr c)
def m_i4 (c:List (List (Bool×LI))) (g:Int) (a:Int) (d:LI) (e:LI) (h:List (List (Bool×LI))):Option (Bool):=
  (loop (m_i3 d e c a) ([],0)).bind fun f=>
  (m_i1 f a).bind fun b=>
  some ((decide (b.2=0)) && (!(decide (b.1=0))))
def m_i5 (b:List (Bool×LI)) (i:List (Bool×LI)):Bool×LI×Int→Option ((Bool×LI×Int)⊕((Bool×LI))):=fun (c,d,a)=>
  if a < (b.length:Int) then
    (getI b a).bind fun e=>
    (getI i a).bind fun f=>
    (m_eu e.1 e.2 f.1 f.2).bind fun g=>
    (m_e3 c d g.1 g.2).bind fun h=>
    some (.inl (h.1,h.2,wa .i64 a 1))
  else
    some (.inr (c,d))
def m_i6 (b:List (List (Bool×LI))) (d:List (Bool×LI)):Int→Option ((Int)⊕(Unit⊕Unit)):=fun a=>
  if a < (b.length:Int) then
    (getI b a).bind fun e=>
    (m_c8 0).bind fun c=>
    (loop (m_i5 e d) (c.1,c.2,0)).bind fun (f,g)=>
    (m_de f g).bind fun h=>
    if h=0 then
      some (.inl (wa .i64 a 1))
    else
      some (.inr (.inr ()))
  else
    some (.inr (.inl ()))
def m_i7 (a:List (List (Bool×LI))) (b:List (Bool×LI)):Option (Bool):=
  (loop (m_i6 a b) 0).bind (fun o=>match o with
    | .inl ()=>
      some true
    | .inr ()=>
      some false)
def m_i8 (b:List (List (Bool×LI))) (d:Int) (e:(List (List (Bool×LI)))×Int×Int):Int→Option ((Int)⊕(Unit⊕Unit)):=fun a=>
  if a < (b.length:Int) then
    (getI b a).bind fun c=>
    (if (c.length:Int)=d then
      (m_i7 e.1 c).bind fun f=>
      some (!(f))
    else
      some true).bind fun g=>
    if g=true then
      some (.inr (.inr ()))
    else
      some (.inl (wa .i64 a 1))
  else
    some (.inr (.inl ()))
def m_i9 (f:Int) (b:Int) (j:LI) (k:LI) (l:LI) (c:Int) (d:Int) (g:LI) (h:LI) (a:List (List (Bool×LI))):Option (Bool):=
  (m_ee f b j k l).bind fun e=>
  (if e.2.2=0 then
    (m_gb d).bind fun m=>
    some (!(m))
  else
    some true).bind fun n=>
  if (n || (decide ((2147483647:Int) < d)))=true then
    some false
  else
    (m_iz g c f).bind fun p=>
    (if p=true then
      (m_iz h c b).bind fun q=>
      some (!(q))
    else
      some true).bind fun r=>
    (if r=true then
      some true
    else
      (m_i4 e.1 c d g h a).bind fun s=>
      some (!(s))).bind fun t=>
    if t=true then
      some false
    else
      if (a.length:Int)=(ws .i64 b c) then
        (loop (m_i8 a b e) 0).bind (fun o=>match o with
          | .inl ()=>
            (m_fr a).bind fun i=>
            some ((decide (i.2=0)) && (decide (i.1=(a.length:Int))))
          | .inr ()=>
            some false)
      else
        some false
def m_ja (d:Int) (b:Int) (e:LI) (f:LI) (g:LI):Option ((List (Bool×LI))×Bool×Int):=
  (m_ee d b e f g).bind fun a=>
  if a.2.2=0 then
    (m_f9 a.1 b).bind fun c=>
    if (c.length:Int)=0 then
      some ([],false,0)
    else
      (getI c 0).bind fun h=>
      some (h,true,0)
  else
    some ([],false,a.2.2)
def m_jb (b:LI) (c:LI):Int→Option ((Int)⊕(Unit⊕Unit)):=fun a=>
  if a < (b.length:Int) then
    (getI b a).bind fun d=>
    (getI c a).bind fun e=>
    if d=e then
      some (.inl (wa .i64 a 1))
    else
      some (.inr (.inr ()))
  else
    some (.inr (.inl ()))
def m_jc (a:LI) (b:LI):Option (Bool):=
  if (a.length:Int)=(b.length:Int) then
    (loop (m_jb a b) 0).bind (fun o=>match o with
      | .inl ()=>
        some true
      | .inr ()=>
        some false)
  else
    some false
end M
