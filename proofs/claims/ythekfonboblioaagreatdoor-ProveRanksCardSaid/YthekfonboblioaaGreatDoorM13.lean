/- Models of functions of the program, printed. -/
import Derived.Test.YthekfonboblioaaGreatDoorM12
namespace M
open Sx
set_option linter.unusedVariables false
def m_kn (b:List (Bool×LI)) (e:List (Bool×LI)):Int→Option ((Int)⊕(Unit⊕Unit)):=fun a=>
  if a < (b.length:Int) then
    (getI b a).bind fun c=>
    (getI e a).bind fun d=>
    (m_km c.1 c.2 d.1 d.2).bind fun f=>
    if f=true then
      some (.inl (wa .i64 a 1))
    else
      some (.inr (.inr ()))
  else
    some (.inr (.inl ()))
def m_ko (a:List (Bool×LI)) (b:List (Bool×LI)):Option (Bool):=
  if (a.length:Int)=(b.length:Int) then
    (loop (m_kn a b) 0).bind (fun o=>match o with
      | .inl ()=>
        some true
      | .inr ()=>
        some false)
  else
    some false
def m_kp (b:List (List (Bool×LI))) (c:List (List (Bool×LI))):Int→Option ((Int)⊕(Unit⊕Unit)):=fun a=>
  if a < (b.length:Int) then
    (getI b a).bind fun d=>
    (getI c a).bind fun e=>
    (m_ko d e).bind fun f=>
    if f=true then
      some (.inl (wa .i64 a 1))
    else
      some (.inr (.inr ()))
  else
    some (.inr (.inl ()))
def m_kq (a:List (List (Bool×LI))) (b:List (List (Bool×LI))):Option (Bool):=
  if (a.length:Int)=(b.length:Int) then
    (loop (m_kp a b) 0).bind (fun o=>match o with
      | .inl ()=>
        some true
      | .inr ()=>
        some false)
  else
    some false
def m_kr (a:Int) (b:Int) (c:LI) (d:LI) (e:List (List (Bool×LI))) (f:Int) (g:Int) (h:LI) (i:LI) (j:List (List (Bool×LI))):Option (Bool):=
  (if ((decide (a=f)) && (decide (b=g)))=true then
    (m_kj c h).bind fun k=>
    some k
  else
    some false).bind fun l=>
  (if l=true then
    (m_kj d i).bind fun m=>
    some m
  else
    some false).bind fun n=>
  (if n=true then
    (m_kq e j).bind fun o=>
    some o
  else
    some false).bind fun p=>
  some p
def m_ks (d:Int) (b:Int) (e:LI) (f:LI) (g:LI):Option ((List (Bool×LI))×Bool×Int):=
  (m_ee d b e f g).bind fun a=>
  if a.2.2=0 then
    (m_f9 a.1 b).bind fun c=>
    if (c.length:Int)=0 then
      some ([],false,0)
    else
      (getI c 0).bind fun h=>
      some (h,true,0)
  else
    some ([],false,a.2.2)
def m_kt (b:LI) (d:Int):Int→Option ((Int)⊕(Unit⊕Unit)):=fun a=>
  if a < (b.length:Int) then
    (getI b a).bind fun c=>
    (if ((decide (c < 0)) || (decide (d≤c)))=true then
      some true
    else
      (if (0:Int) < a then
        (getI b (ws .i64 a 1)).bind fun e=>
        some (decide (c≤e))
      else
        some false).bind fun f=>
      some f).bind fun g=>
    if g=true then
      some (.inr (.inr ()))
    else
      some (.inl (wa .i64 a 1))
  else
    some (.inr (.inl ()))
def m_ku (a:LI) (b:Int) (c:Int):Option (Bool):=
  if (a.length:Int)=b then
    (loop (m_kt a c) 0).bind (fun o=>match o with
      | .inl ()=>
        some true
      | .inr ()=>
        some false)
  else
    some false
def m_kv (a:L2) (c:Int):Option (Int):=
  (m_gs a c).bind fun b=>
  (if b=0 then
    (m_gn a).bind fun d=>
    some (!(decide ((a.length:Int)=d)))
  else
    some false).bind fun e=>
  if e=true then
    some 5
  else
    some b
def m_kw (a:L2) (b:Int):Option (Int×Int):=
  (m_kv a b).bind fun c=>
  if c=0 then
    (m_gx a b).bind fun e=>
    (m_hd e b).bind fun d=>
    if (d.2.1.length:Int) < (a.length:Int) then
      some (0,0)
    else
      some (d.2.2,0)
  else
    some (0,c)
def m_kx (b:LI) (e:List (List (Bool×LI))) (f:Int) (g:Int):LI×Int→Option ((LI×Int)⊕(LI)):=fun (c,a)=>
  if a < (b.length:Int) then
    (getI b a).bind fun h=>
    (getI e f).bind fun i=>
    (getI i h).bind fun d=>
    (m_gi d.1 d.2 g).bind fun j=>
    (app c [j.1]).bind fun k=>
    some (.inl (k,wa .i64 a 1))
  else
    some (.inr c)
def m_ky (b:LI) (d:LI) (e:List (List (Bool×LI))) (f:Int):L2×Int→Option ((L2×Int)⊕(L2)):=fun (c,a)=>
  if a < (b.length:Int) then
    (getI b a).bind fun g=>
    (loop (m_kx d e g f) ([],0)).bind fun h=>
    (app c [h]).bind fun i=>
    some (.inl (i,wa .i64 a 1))
  else
    some (.inr c)
def m_kz (c:List (List (Bool×LI))) (g:Int) (a:Int) (d:LI) (e:LI) (h:List (List (Bool×LI))):Option (Bool):=
  (loop (m_ky d e c a) ([],0)).bind fun f=>
  (m_kw f a).bind fun b=>
  some ((decide (b.2=0)) && (!(decide (b.1=0))))
def m_k0 (b:List (Bool×LI)) (i:List (Bool×LI)):Bool×LI×Int→Option ((Bool×LI×Int)⊕((Bool×LI))):=fun (c,d,a)=>
  if a < (b.length:Int) then
    (getI b a).bind fun e=>
    (getI i a).bind fun f=>
    (m_eu e.1 e.2 f.1 f.2).bind fun g=>
    (m_e3 c d g.1 g.2).bind fun h=>
    some (.inl (h.1,h.2,wa .i64 a 1))
  else
    some (.inr (c,d))
def m_k1 (b:List (List (Bool×LI))) (d:List (Bool×LI)):Int→Option ((Int)⊕(Unit⊕Unit)):=fun a=>
  if a < (b.length:Int) then
    (getI b a).bind fun e=>
    (m_c8 0).bind fun c=>
    (loop (m_k0 e d) (c.1,c.2,0)).bind fun (f,g)=>
    (m_de f g).bind fun h=>
    if h=0 then
      some (.inl (wa .i64 a 1))
    else
      some (.inr (.inr ()))
  else
    some (.inr (.inl ()))
def m_k2 (a:List (List (Bool×LI))) (b:List (Bool×LI)):Option (Bool):=
  (loop (m_k1 a b) 0).bind (fun o=>match o with
    | .inl ()=>
      some true
    | .inr ()=>
      some false)
def m_k3 (b:List (List (Bool×LI))) (d:Int) (e:(List (List (Bool×LI)))×Int×Int):Int→Option ((Int)⊕(Unit⊕Unit)):=fun a=>
  if a < (b.length:Int) then
    (getI b a).bind fun c=>
    (if (c.length:Int)=d then
      (m_k2 e.1 c).bind fun f=>
      some (!(f))
    else
      some true).bind fun g=>
    if g=true then
      some (.inr (.inr ()))
    else
      some (.inl (wa .i64 a 1))
  else
    some (.inr (.inl ()))
def m_k4 (f:Int) (b:Int) (j:LI) (k:LI) (l:LI) (c:Int) (d:Int) (g:LI) (h:LI) (a:List (List (Bool×LI))):Option (Bool):=
  (m_ee f b j k l).bind fun e=>
  (if e.2.2=0 then
    (m_gb d).bind fun m=>
    some (!(m))
  else
    some true).bind fun n=>
  if (n || (decide ((2147483647:Int) < d)))=true then
    some false
  else
    (m_ku g c f).bind fun p=>
    (if p=true then
      (m_ku h c b).bind fun q=>
      some (!(q))
    else
      some true).bind fun r=>
    (if r=true then
      some true
    else
      (m_kz e.1 c d g h a).bind fun s=>
      some (!(s))).bind fun t=>
    if t=true then
      some false
    else
      if (a.length:Int)=(ws .i64 b c) then
        (loop (m_k3 a b e) 0).bind (fun o=>match o with
          | .inl ()=>
            (m_fr a).bind fun i=>
            some ((decide (i.2=0)) && (decide (i.1=(a.length:Int))))
          | .inr ()=>
            some false)
      else
        some false
def m_k5:Option (Bool):=
  (m_bz 2 0).bind fun b=>
  (m_bz 4 0).bind fun d=>
  (m_hm 2 2 [0,2,4] [0,1,0,1] [4607182418800017408,b,b,d]).bind fun a=>
  (m_ks 2 2 [0,2,4] [0,1,0,1] [4607182418800017408,b,b,d]).bind fun c=>
  (if a.2.2.2.2.2=0 then
    some (decide (c.2.2=0))
  else
    some false).bind fun g=>
  (if g=true then
    some c.2.1
  else
    some false).bind fun h=>
  (if h=true then
    some (decide (a.1=1))
  else
    some false).bind fun i=>
  (if i=true then
    some (decide (a.2.1=2147483647))
  else
    some false).bind fun j=>
  (if j=true then
    some (decide ((a.2.2.2.2.1.length:Int)=1))
  else
    some false).bind fun k=>
  (if k=true then
    some (decide ((c.1.length:Int)=2))
  else
    some false).bind fun l=>
  (if l=true then
    (getI c.1 0).bind fun e=>
    (m_j (-2)).bind fun f=>
    (m_km e.1 e.2 f.1 f.2).bind fun m=>
    some m
  else
    some false).bind fun n=>
  (if n=true then
    (m_k4 2 2 [0,2,4] [0,1,0,1] [4607182418800017408,b,b,d] a.1 a.2.1 a.2.2.1 a.2.2.2.1 a.2.2.2.2.1).bind fun o=>
    some o
  else
    some false).bind fun p=>
  some p
def m_k6 (d:LI) (e:Int) (f:Int) (g:Int) (h:Bool):Option (Bool):=
  (m_co d e f g h).bind fun a=>
  (m_hm a.1 a.2.1 a.2.2.1 a.2.2.2.1 a.2.2.2.2).bind fun b=>
  (m_kh a.1 a.2.1 a.2.2.1 a.2.2.2.1 a.2.2.2.2).bind fun c=>
  (if b.2.2.2.2.2=c.2.2.2.2.2 then
    (m_kr b.1 b.2.1 b.2.2.1 b.2.2.2.1 b.2.2.2.2.1 c.1 c.2.1 c.2.2.1 c.2.2.2.1 c.2.2.2.2.1).bind fun i=>
    some i
  else
    some false).bind fun j=>
  (if j=true then
    (m_k5).bind fun k=>
    some k
  else
    some false).bind fun l=>
  some l
end M
