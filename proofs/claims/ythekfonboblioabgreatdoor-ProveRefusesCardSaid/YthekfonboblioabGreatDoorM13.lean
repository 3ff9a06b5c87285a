/- Models of functions of the program, printed. -/
import Derived.Test.YthekfonboblioabGreatDoorM12
namespace M
open Sx
set_option linter.unusedVariables false
def m_km (a:L2) (c:Int):Option (Int):=
  (m_f9 a c).bind fun b=>
  (if b=0 then
    (m_f4 a).bind fun d=>
    some (!(decide ((a.length:Int)=d)))
  else
    some false).bind fun e=>
  if e=true then
    some 5
  else
    some b
def m_kn (a:L2) (b:Int):Option (Int×Int):=
  (m_km a b).bind fun c=>
  if c=0 then
    (m_ge a b).bind fun e=>
    (m_gu e b).bind fun d=>
    if (d.2.1.length:Int) < (a.length:Int) then
      some (0,0)
    else
      some (d.2.2,0)
  else
    some (0,c)
def m_ko (b:LI) (e:List (List (Bool×LI))) (f:Int) (g:Int):LI×Int→Option ((LI×Int)⊕(LI)):=fun (c,a)=>
  if a < (b.length:Int) then
    (getI b a).bind fun h=>
    (getI e f).bind fun i=>
    (getI i h).bind fun d=>
    (m_fz d.1 d.2 g).bind fun j=>
    (app c [j.1]).bind fun k=>
    some (.inl (k,wa .i64 a 1))
  else
    some (.inr c)
def m_kp (b:LI) (d:LI) (e:List (List (Bool×LI))) (f:Int):L2×Int→Option ((L2×Int)⊕(L2)):=fun (c,a)=>
  if a < (b.length:Int) then
    (getI b a).bind fun g=>
    (loop (m_ko d e g f) ([],0)).bind fun h=>
    (app c [h]).bind fun i=>
    some (.inl (i,wa .i64 a 1))
  else
    some (.inr c)
def m_kq (c:List (List (Bool×LI))) (g:Int) (a:Int) (d:LI) (e:LI) (h:List (List (Bool×LI))):Option (Bool):=
  (loop (m_kp d e c a) ([],0)).bind fun f=>
  (m_kn f a).bind fun b=>
  some ((decide (b.2=0)) && (!(decide (b.1=0))))
def m_kr (b:List (Bool×LI)) (i:List (Bool×LI)):Bool×LI×Int→Option ((Bool×LI×Int)⊕((Bool×LI))):=fun (c,d,a)=>
  if a < (b.length:Int) then
    (getI b a).bind fun e=>
    (getI i a).bind fun f=>
    (m_eb e.1 e.2 f.1 f.2).bind fun g=>
    (m_ek c d g.1 g.2).bind fun h=>
    some (.inl (h.1,h.2,wa .i64 a 1))
  else
    some (.inr (c,d))
def m_ks (b:List (List (Bool×LI))) (d:List (Bool×LI)):Int→Option ((Int)⊕(Unit⊕Unit)):=fun a=>
  if a < (b.length:Int) then
    (getI b a).bind fun e=>
    (m_cp 0).bind fun c=>
    (loop (m_kr e d) (c.1,c.2,0)).bind fun (f,g)=>
    (m_cv f g).bind fun h=>
    if h=0 then
      some (.inl (wa .i64 a 1))
    else
      some (.inr (.inr ()))
  else
    some (.inr (.inl ()))
def m_kt (a:List (List (Bool×LI))) (b:List (Bool×LI)):Option (Bool):=
  (loop (m_ks a b) 0).bind (fun o=>match o with
    | .inl ()=>
      some true
    | .inr ()=>
      some false)
def m_ku (b:List (List (Bool×LI))) (d:Int) (e:(List (List (Bool×LI)))×Int×Int):Int→Option ((Int)⊕(Unit⊕Unit)):=fun a=>
  if a < (b.length:Int) then
    (getI b a).bind fun c=>
    (if (c.length:Int)=d then
      (m_kt e.1 c).bind fun f=>
      some (!(f))
    else
      some true).bind fun g=>
    if g=true then
      some (.inr (.inr ()))
    else
      some (.inl (wa .i64 a 1))
  else
    some (.inr (.inl ()))
def m_kv (f:Int) (b:Int) (j:LI) (k:LI) (l:LI) (c:Int) (d:Int) (g:LI) (h:LI) (a:List (List (Bool×LI))):Option (Bool):=
  (m_dv f b j k l).bind fun e=>
  (if e.2.2=0 then
    (m_fs d).bind fun m=>
    some (!(m))
  else
    some true).bind fun n=>
  if (n || (decide ((2147483647:Int) < d)))=true then
    some false
  else
    (m_kl g c f).bind fun p=>
    (if p=true then
      (m_kl h c b).bind fun q=>
      some (!(q))
    else
      some true).bind fun r=>
    (if r=true then
      some true
    else
      (m_kq e.1 c d g h a).bind fun s=>
      some (!(s))).bind fun t=>
    if t=true then
      some false
    else
      if (a.length:Int)=(ws .i64 b c) then
        (loop (m_ku a b e) 0).bind (fun o=>match o with
          | .inl ()=>
            (m_e8 a).bind fun i=>
            some ((decide (i.2=0)) && (decide (i.1=(a.length:Int))))
          | .inr ()=>
            some false)
      else
        some false
def m_kw (b:LI) (c:Int):Int→Option ((Int)⊕(Unit⊕Unit)):=fun a=>
  if a < (b.length:Int) then
    (getI b a).bind fun d=>
    (if d < 0 then
      some true
    else
      (getI b a).bind fun e=>
      some (decide (c≤e))).bind fun f=>
    (if f=true then
      some true
    else
      (if (0:Int) < a then
        (getI b a).bind fun g=>
        (getI b (ws .i64 a 1)).bind fun h=>
        some (decide (g≤h))
      else
        some false).bind fun i=>
      some i).bind fun j=>
    if j=true then
      some (.inr (.inr ()))
    else
      some (.inl (wa .i64 a 1))
  else
    some (.inr (.inl ()))
def m_kx (a:LI) (b:Int) (c:Int):Option (Bool):=
  (loop (m_kw a c) 0).bind (fun o=>match o with
    | .inl ()=>
      some (decide ((a.length:Int)=b))
    | .inr ()=>
      some false)
def m_ky (a:L2) (c:Int):Option (Int):=
  (m_jy a c).bind fun b=>
  if (b.2.1.length:Int) < (a.length:Int) then
    some 0
  else
    some b.2.2
def m_kz (b:List (Bool×LI)) (i:List (Bool×LI)):Bool×LI×Int→Option ((Bool×LI×Int)⊕((Bool×LI))):=fun (c,d,a)=>
  if a < (b.length:Int) then
    (getI b a).bind fun e=>
    (getI i a).bind fun f=>
    (m_h1 e.1 e.2 f.1 f.2).bind fun g=>
    (m_6 c d g.1 g.2).bind fun h=>
    some (.inl (h.1,h.2,wa .i64 a 1))
  else
    some (.inr (c,d))
def m_k0 (a:List (Bool×LI)) (b:List (Bool×LI)):Option (Bool×LI):=
  (loop (m_kz a b) (false,[],0)).bind fun (c,d)=>
  some (c,d)
def m_k1 (b:List (List (Bool×LI))) (e:List (Bool×LI)):(List (Bool×LI))×Int→Option (((List (Bool×LI))×Int)⊕(((List (Bool×LI))))):=fun (c,a)=>
  if a < (b.length:Int) then
    (getI b a).bind fun f=>
    (m_k0 f e).bind fun d=>
    (app c [(d.1,d.2)]).bind fun g=>
    some (.inl (g,wa .i64 a 1))
  else
    some (.inr c)
def m_k2 (a:List (List (Bool×LI))) (b:List (Bool×LI)):Option ((List (Bool×LI))):=
  (loop (m_k1 a b) ([],0)).bind fun c=>
  some c
def m_k3 (b:(List (Bool×LI))):Int→Option ((Int)⊕(Unit⊕Unit)):=fun a=>
  if a < (b.length:Int) then
    (getI b a).bind fun c=>
    (m_bj c.1 c.2).bind fun d=>
    if d=0 then
      some (.inl (wa .i64 a 1))
    else
      some (.inr (.inr ()))
  else
    some (.inr (.inl ()))
def m_k4 (b:List (List (Bool×LI))) (c:Int) (d:(List (List (Bool×LI)))×Int×Int):Int→Option ((Int)⊕(Unit⊕Unit)):=fun a=>
  if a < (b.length:Int) then
    (getI b a).bind fun e=>
    if (e.length:Int)=c then
      (getI b a).bind fun f=>
      (m_k2 d.1 f).bind fun g=>
      (loop (m_k3 g) 0).bind (fun o=>match o with
        | .inl ()=>
          some (.inl (wa .i64 a 1))
        | .inr ()=>
          some (.inr (.inr ())))
    else
      some (.inr (.inr ()))
  else
    some (.inr (.inl ()))
def m_k5 (f:Int) (b:Int) (i:LI) (j:LI) (k:LI) (d:Int) (c:Int) (g:LI) (h:LI) (a:List (List (Bool×LI))):Option (Bool):=
  (m_hp f b i j k).bind fun e=>
  (if ((!(decide (e.2.2=0))) || (decide ((2147483647:Int) < c)))=true then
    some true
  else
    (m_i5 c).bind fun l=>
    some (!(l))).bind fun m=>
  (if m=true then
    some true
  else
    (m_kx g d f).bind fun n=>
    some (!(n))).bind fun p=>
  (if p=true then
    some true
  else
    (m_kx h d b).bind fun q=>
    some (!(q))).bind fun r=>
  if (r || (!(decide ((a.length:Int)=(ws .i64 b d)))))=true then
    some false
  else
    (m_jc e.1 c).bind fun s=>
    (m_jh s g h).bind fun t=>
    (m_ky t c).bind fun u=>
    if u=0 then
      some false
    else
      (loop (m_k4 a b e) 0).bind (fun o=>match o with
        | .inl ()=>
          (if (a.length:Int)=0 then
            some true
          else
            (m_iq a).bind fun v=>
            some (decide (v=(a.length:Int)))).bind fun w=>
          some w
        | .inr ()=>
          some false)
def m_k6:Option (Bool):=
  (m_bz 2 0).bind fun b=>
  (m_bz 4 0).bind fun d=>
  (m_g3 2 2 [0,2,4] [0,1,0,1] [4607182418800017408,b,b,d]).bind fun a=>
  (m_j8 2 2 [0,2,4] [0,1,0,1] [4607182418800017408,b,b,d]).bind fun c=>
  (if a.2.2.2.2.2=0 then
    some (decide (c.2.2=0))
  else
    some false).bind fun g=>
  (if g=true then
    some c.2.1
  else
    some false).bind fun h=>
  (if h=true then
    some (decide (a.1=1))
  else
    some false).bind fun i=>
  (if i=true then
    some (decide (a.2.1=2147483647))
  else
    some false).bind fun j=>
  (if j=true then
    some (decide ((a.2.2.2.2.1.length:Int)=1))
  else
    some false).bind fun k=>
  (if k=true then
    some (decide ((c.1.length:Int)=2))
  else
    some false).bind fun l=>
  (if l=true then
    (getI c.1 0).bind fun e=>
    (m_j (-2)).bind fun f=>
    (m_ke e.1 e.2 f.1 f.2).bind fun m=>
    some m
  else
    some false).bind fun n=>
  (if n=true then
    (m_kv 2 2 [0,2,4] [0,1,0,1] [4607182418800017408,b,b,d] a.1 a.2.1 a.2.2.1 a.2.2.2.1 a.2.2.2.2.1).bind fun o=>
    some o
  else
    some false).bind fun p=>
  some p
def m_k7 (b:Int) (c:Int) (d:LI) (e:LI) (f:LI):Option (Bool):=
  (m_g3 b c d e f).bind fun g=>
  (m_j7 b c d e f).bind fun a=>
  (m_j8 b c d e f).bind fun h=>
  (m_j9 b c d e f).bind fun i=>
  (if g.2.2.2.2.2=a.2.2.2.2.2 then
    (m_kj g.1 g.2.1 g.2.2.1 g.2.2.2.1 g.2.2.2.2.1 a.1 a.2.1 a.2.2.1 a.2.2.2.1 a.2.2.2.2.1).bind fun j=>
    some j
  else
    some false).bind fun k=>
  (if k=true then
    some (decide (h.2.2=i.2.2))
  else
    some false).bind fun l=>
  (if l=true then
    some (h.2.1 == i.2.1)
  else
    some false).bind fun m=>
  (if m=true then
    (m_kg h.1 i.1).bind fun n=>
    some n
  else
    some false).bind fun o=>
  (if o=true then
    (m_kv b c d e f a.1 a.2.1 a.2.2.1 a.2.2.2.1 a.2.2.2.2.1).bind fun p=>
    (m_k5 b c d e f a.1 a.2.1 a.2.2.1 a.2.2.2.1 a.2.2.2.2.1).bind fun q=>
    some (p == q)
  else
    some false).bind fun r=>
  (if r=true then
    (m_k6).bind fun s=>
    some s
  else
    some false).bind fun t=>
  some t
def m_k8 (a:Int×Int×LI×LI×LI) (b:LI) (c:LI):Option (Bool):=
  m_k7 a.1 a.2.1 a.2.2.1 b c
def m_k9 (a:Int×Int×LI×LI×LI) (b:LI):Option (Bool):=
  m_k8 a a.2.2.2.1 b
def m_la (f:LI) (d:Int) (c:Int) (b:Int):Option (Bool):=
  (m_a d 4).bind fun g=>
  (m_a c 4).bind fun h=>
  (m_b5 f g h 0).bind fun a=>
  if (wrc b 5)=0 then
    (m_a d 2).bind fun i=>
    (m_a c 2).bind fun j=>
    (m_a c 2).bind fun k=>
    (mkL 0 (wa .i64 (wa .i64 16 k) 1)).bind fun l=>
    m_k7 (wa .i64 16 i) (wa .i64 16 j) l [] []
  else
    if ((decide ((0:Int) < (a.2.2.2.1.length:Int))) && (decide ((wrc b 3)=0)))=true then
      (m_a b (a.2.2.2.1.length:Int)).bind fun e=>
      (getI a.2.2.2.1 e).bind fun m=>
      (m_a b 5).bind fun n=>
      (setI a.2.2.2.1 e (wa .i64 m (ws .i64 n 2))).bind fun o=>
      m_k8 a o a.2.2.2.2
    else
      if (0:Int) < (a.2.2.2.2.length:Int) then
        (m_a b (a.2.2.2.2.length:Int)).bind fun p=>
        (setI a.2.2.2.2 p 9218868437227405312).bind fun q=>
        m_k9 a q
      else
        m_k9 a a.2.2.2.2
end M
