/- Models of functions of the program, printed. -/
import Derived.Test.YthekfonboblioacGreatDoorM12
namespace M
open Sx
set_option linter.unusedVariables false
def m_km (a:Int) (b:LI) (c:L2):Option ((LI×L2×Int)⊕(LI)):=
  some (.inl (b,c,wa .i64 a 1))
def m_kn (e:L2) (f:Int):LI×L2×Int→Option ((LI×L2×Int)⊕(LI)):=fun (b,c,a)=>
  if a < (e.length:Int) then
    (getI e a).bind fun g=>
    (m_kk c).bind fun j=>
    (app c [g]).bind fun d=>
    (m_kl d f).bind fun h=>
    if h.1=(d.length:Int) then
      (app b [a]).bind fun i=>
      m_km a i d
    else
      m_km a b c
  else
    some (.inr b)
def m_ko (a:L2) (b:Int):Option (LI):=
  (loop (m_kn a b) ([],[],0)).bind fun c=>
  some c
def m_kp (d:L2) (a:Int):L2×Int→Option ((L2×Int)⊕(L2)):=fun (b,c)=>
  if c < (d.length:Int) then
    (getI d c).bind fun e=>
    (getI b a).bind fun f=>
    (getI e a).bind fun g=>
    (app f [g]).bind fun h=>
    (setI b a h).bind fun i=>
    some (.inl (i,wa .i64 c 1))
  else
    some (.inr b)
def m_kq (c:L2) (d:L2):L2×Int→Option ((L2×Int)⊕(L2)):=fun (b,a)=>
  if a < (c.length:Int) then
    (loop (m_kp d a) (b,0)).bind fun e=>
    some (.inl (e,wa .i64 a 1))
  else
    some (.inr b)
def m_kr (b:L2) (c:Int):Option (L2):=
  (mkL ([]:LI) c).bind fun a=>
  (loop (m_kq a b) (a,0)).bind fun d=>
  some d
def m_ks (c:LI) (g:(List (List (Bool×LI)))×Int×Int) (d:Int) (h:(List (List (Bool×LI)))):Int→Option ((Int)⊕(Unit⊕(Int×LI×LI))):=fun b=>
  if b < (c.length:Int) then
    (getI c b).bind fun a=>
    (m_kj g.1 a).bind fun e=>
    (m_ko e a).bind fun f=>
    if (f.length:Int)=(ws .i64 d (h.length:Int)) then
      (m_kr e d).bind fun i=>
      (m_ko i a).bind fun j=>
      some (.inr (.inr (a,f,j)))
    else
      some (.inl (wa .i64 b 1))
  else
    some (.inr (.inl ()))
def m_kt (d:Int) (a:Int) (e:LI) (f:LI) (g:LI):Option (Int×Int×LI×LI×(List (List (Bool×LI)))×Int):=
  (m_ha d a e f g).bind fun b=>
  if b.2.2=0 then
    (m_kd b.1 a).bind fun c=>
    (m_kg 2147483648 5).bind fun h=>
    (loop (m_ks h b a c) 0).bind (fun o=>match o with
      | .inl ()=>
        some (0,0,[],[],[],420)
      | .inr (i,j,k)=>
        some (ws .i64 a (c.length:Int),i,j,k,c,0))
  else
    some (0,0,[],[],[],b.2.2)
def m_ku (d:Int) (b:Int) (e:LI) (f:LI) (g:LI):Option ((List (Bool×LI))×Bool×Int):=
  (m_ha d b e f g).bind fun a=>
  if a.2.2=0 then
    (m_kd a.1 b).bind fun c=>
    if (c.length:Int)=0 then
      some ([],false,0)
    else
      (getI c 0).bind fun h=>
      some (h,true,0)
  else
    some ([],false,a.2.2)
def m_kv (b:LI) (c:LI):Int→Option ((Int)⊕(Unit⊕Unit)):=fun a=>
  if a < (b.length:Int) then
    (getI b a).bind fun d=>
    (getI c a).bind fun e=>
    if d=e then
      some (.inl (wa .i64 a 1))
    else
      some (.inr (.inr ()))
  else
    some (.inr (.inl ()))
def m_kw (a:LI) (b:LI):Option (Bool):=
  if (a.length:Int)=(b.length:Int) then
    (loop (m_kv a b) 0).bind (fun o=>match o with
      | .inl ()=>
        some true
      | .inr ()=>
        some false)
  else
    some false
def m_kx (a:Bool) (b:LI) (c:Bool) (d:LI):Option (Bool):=
  (if (a == c)=true then
    (m_kw b d).bind fun e=>
    some e
  else
    some false).bind fun f=>
  some f
def m_ky:Option (Bool):=
  (m_bz 2 0).bind fun b=>
  (m_bz 4 0).bind fun d=>
  (m_kt 2 2 [0,2,4] [0,1,0,1] [4607182418800017408,b,b,d]).bind fun a=>
  (m_ku 2 2 [0,2,4] [0,1,0,1] [4607182418800017408,b,b,d]).bind fun c=>
  (if a.2.2.2.2.2=0 then
    some (decide (c.2.2=0))
  else
    some false).bind fun g=>
  (if g=true then
    some c.2.1
  else
    some false).bind fun h=>
  (if h=true then
    some (decide (a.1=1))
  else
    some false).bind fun i=>
  (if i=true then
    some (decide (a.2.1=2147483647))
  else
    some false).bind fun j=>
  (if j=true then
    some (decide ((a.2.2.2.2.1.length:Int)=1))
  else
    some false).bind fun k=>
  (if k=true then
    some (decide ((c.1.length:Int)=2))
  else
    some false).bind fun l=>
  (if l=true then
    (getI c.1 0).bind fun e=>
    (m_j (-2)).bind fun f=>
    (m_kx e.1 e.2 f.1 f.2).bind fun m=>
    some m
  else
    some false).bind fun n=>
  (if n=true then
    (m_jt 2 2 [0,2,4] [0,1,0,1] [4607182418800017408,b,b,d] a.1 a.2.1 a.2.2.1 a.2.2.2.1 a.2.2.2.2.1).bind fun o=>
    some o
  else
    some false).bind fun p=>
  some p
def m_kz (b:Int×Int×LI×LI×LI) (c:Int):(List (List (Bool×LI)))→Option (((List (List (Bool×LI))))⊕(((List (List (Bool×LI)))))):=fun a=>
  if ((decide ((0:Int) < (a.length:Int))) && (decide ((a.length:Int) < (ws .i64 b.2.1 c))))=true then
    (getI a 0).bind fun d=>
    (app a [d]).bind fun e=>
    some (.inl e)
  else
    some (.inr a)
def m_k0 (b:Int×Int×LI×LI×LI) (c:Int):(List (List (Bool×LI)))→Option (((List (List (Bool×LI))))⊕(((List (List (Bool×LI)))))):=fun a=>
  if ((decide ((0:Int) < (a.length:Int))) && (decide ((ws .i64 b.2.1 c) < (a.length:Int))))=true then
    (sli a 1 (a.length:Int)).bind fun d=>
    some (.inl d)
  else
    some (.inr a)
def m_k1 (a:Int) (b:LI):Option ((LI×Int)⊕(LI)):=
  some (.inl (b,wa .i64 a 1))
def m_k2 (d:Int×Int×LI×LI×LI) (c:BL):LI×Int→Option ((LI×Int)⊕(LI)):=fun (b,a)=>
  if a < d.2.1 then
    (if a < (c.length:Int) then
      (getI c a).bind fun e=>
      some e
    else
      some false).bind fun f=>
    if f=true then
      (app b [a]).bind fun g=>
      m_k1 a g
    else
      m_k1 a b
  else
    some (.inr b)
def m_k3 (a:Int) (b:LI):Option ((LI×Int)⊕(LI)):=
  some (.inl (b,wa .i64 a 1))
def m_k4 (d:Int×Int×LI×LI×LI) (c:BL):LI×Int→Option ((LI×Int)⊕(LI)):=fun (b,a)=>
  if a < d.1 then
    (if a < (c.length:Int) then
      (getI c a).bind fun e=>
      some e
    else
      some false).bind fun f=>
    if f=true then
      (app b [a]).bind fun g=>
      m_k3 a g
    else
      m_k3 a b
  else
    some (.inr b)
def m_k5 (a:Int×Int×LI×LI×LI) (c:Int) (d:Int) (e:BL) (f:BL) (g:Int):Option (Bool):=
  (m_fk a.1 a.2.1 a.2.2.1 a.2.2.2.1 a.2.2.2.2).bind fun h=>
  (m_a c 5).bind fun b=>
  (m_a d 8).bind fun i=>
  (getI [2,3,5,7,11,13,101,2147483647] i).bind fun j=>
  (loop (m_k4 a e) ([],0)).bind fun k=>
  (loop (m_k2 a f) ([],0)).bind fun l=>
  (loop (m_k0 a b) h.2.2.2.2.1).bind fun m=>
  (loop (m_kz a b) m).bind fun n=>
  (m_jt a.1 a.2.1 a.2.2.1 a.2.2.2.1 a.2.2.2.2 b j k l n).bind fun o=>
  (if ((!(o)) || (decide (b=g)))=true then
    (m_ky).bind fun p=>
    some p
  else
    some false).bind fun q=>
  some q
def m_k6 (f:LI) (g:Int) (h:Int) (i:Bool) (b:Int) (c:Int) (d:BL) (e:BL):Option (Bool):=
  (m_co f g h 0 i).bind fun a=>
  (m_c1 a.1 a.2.1 a.2.2.1 a.2.2.2.1 a.2.2.2.2).bind fun j=>
  if ((decide ((0:Int) < a.1)) && (decide ((0:Int) < a.2.1)))=true then
    (m_d0 j.1).bind fun k=>
    m_k5 a b c d e k
  else
    m_k5 a b c d e 0
end M
