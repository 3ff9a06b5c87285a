/- Models of functions of the program, printed. -/
import Derived.Test.YthekfonboblioabGreatDoorM11
namespace M
open Sx
set_option linter.unusedVariables false
def m_jp (a:Int) (b:L2) (c:Int) (d:LI):Option ((L2×Int×LI×Int)⊕((L2×Int×LI))):=
  some (.inl (b,c,d,wa .i64 a 1))
def m_jq (b:Int) (d:LI) (f:Int) (e:Int):L2×Int→Option ((L2×Int)⊕(L2)):=fun (a,c)=>
  (getI a b).bind fun g=>
  if ((decide (c < (g.length:Int))) && (!(decide (b=(d.length:Int)))))=true then
    (getI a b).bind fun h=>
    (getI a b).bind fun i=>
    (getI i c).bind fun j=>
    (getI a (d.length:Int)).bind fun k=>
    (getI k c).bind fun l=>
    (wr (wm .i64 f l) e).bind fun m=>
    (m_jj (ws .i64 j m) e).bind fun n=>
    (setI h c n).bind fun o=>
    (setI a b o).bind fun p=>
    some (.inl (p,wa .i64 c 1))
  else
    some (.inr a)
def m_jr (c:Int) (d:LI) (e:Int):L2×Int→Option ((L2×Int)⊕(L2)):=fun (a,b)=>
  if b < (a.length:Int) then
    (getI a b).bind fun f=>
    (getI f c).bind fun g=>
    (loop (m_jq b d g e) (a,0)).bind fun h=>
    some (.inl (h,wa .i64 b 1))
  else
    some (.inr a)
def m_js (b:LI) (d:Int) (e:Int):L2×Int→Option ((L2×Int)⊕(L2)):=fun (a,c)=>
  (getI a (b.length:Int)).bind fun f=>
  if c < (f.length:Int) then
    (getI a (b.length:Int)).bind fun g=>
    (getI a (b.length:Int)).bind fun h=>
    (getI h c).bind fun i=>
    (wr (wm .i64 i d) e).bind fun j=>
    (setI g c j).bind fun k=>
    (setI a (b.length:Int) k).bind fun l=>
    some (.inl (l,wa .i64 c 1))
  else
    some (.inr a)
def m_jt (a:LI) (b:Int) (c:Int) (d:L2) (e:Int):Option ((L2×Int×LI×Int)⊕((L2×Int×LI))):=
  (getI d (a.length:Int)).bind fun f=>
  (getI f b).bind fun g=>
  (wr (wm .i64 e g) c).bind fun h=>
  (getI d (a.length:Int)).bind fun i=>
  (getI i b).bind fun j=>
  (m_jo j c).bind fun k=>
  (loop (m_js a k c) (d,0)).bind fun l=>
  (loop (m_jr b a c) (l,0)).bind fun m=>
  (app a [b]).bind fun n=>
  m_jp b m h n
def m_ju (b:L2) (c:Int):Int→Option ((Int)⊕(Int)):=fun a=>
  (if a < (b.length:Int) then
    (getI b a).bind fun d=>
    (getI d c).bind fun e=>
    some (decide (e=0))
  else
    some false).bind fun f=>
  if f=true then
    some (.inl (wa .i64 a 1))
  else
    some (.inr a)
def m_jv (g:L2) (e:Int):L2×Int×LI×Int→Option ((L2×Int×LI×Int)⊕((L2×Int×LI))):=fun (a,f,b,c)=>
  (m_jk g).bind fun h=>
  if c < h then
    (loop (m_ju a c) (b.length:Int)).bind fun d=>
    if d=(a.length:Int) then
      m_jp c a 0 b
    else
      if d=(b.length:Int) then
        m_jt b c e a f
      else
        (getI a (b.length:Int)).bind fun i=>
        (getI a d).bind fun j=>
        (setI a d i).bind fun k=>
        (setI k (b.length:Int) j).bind fun l=>
        (m_jj (wneg .i64 f) e).bind fun m=>
        m_jt b c e l m
  else
    some (.inr (a,f,b))
def m_jw (b:L2) (c:Int) (e:Int):LI×Int→Option ((LI×Int)⊕(LI)):=fun (d,a)=>
  (getI b c).bind fun f=>
  if a < (f.length:Int) then
    (getI b c).bind fun g=>
    (getI g a).bind fun h=>
    (m_jj h e).bind fun i=>
    (app d [i]).bind fun j=>
    some (.inl (j,wa .i64 a 1))
  else
    some (.inr d)
def m_jx (b:L2) (d:Int):L2×Int→Option ((L2×Int)⊕(L2)):=fun (c,a)=>
  if a < (b.length:Int) then
    (loop (m_jw b a d) ([],0)).bind fun e=>
    (app c [e]).bind fun f=>
    some (.inl (f,wa .i64 a 1))
  else
    some (.inr c)
def m_jy (b:L2) (a:Int):Option (L2×LI×Int):=
  (loop (m_jx b a) ([],0)).bind fun c=>
  (wr 1 a).bind fun d=>
  (loop (m_jv b a) (c,d,[],0)).bind fun (e,f,g)=>
  some (e,g,f)
def m_jz (a:L2) (b:Int):Option (Int):=
  (m_jy a b).bind fun c=>
  some (c.2.1.length:Int)
def m_j0 (a:Int) (b:LI):Option ((LI×Int)⊕(LI)):=
  some (.inl (b,wa .i64 a 1))
def m_j1 (d:Int) (c:L2) (e:Int):LI×Int→Option ((LI×Int)⊕(LI)):=fun (a,b)=>
  if b < d then
    (m_je (c.length:Int)).bind fun f=>
    (app [] a).bind fun g=>
    (app g [b]).bind fun h=>
    (m_jh c f h).bind fun i=>
    (m_jz i e).bind fun j=>
    if (a.length:Int) < j then
      (app a [b]).bind fun k=>
      m_j0 b k
    else
      m_j0 b a
  else
    some (.inr a)
def m_j2 (a:L2) (b:Int) (c:Int):Option (LI):=
  (loop (m_j1 b a c) ([],0)).bind fun d=>
  some d
def m_j3 (b:L2) (d:Int):LI×Int→Option ((LI×Int)⊕(LI)):=fun (c,a)=>
  if a < (b.length:Int) then
    (getI b a).bind fun e=>
    (getI e d).bind fun f=>
    (app c [f]).bind fun g=>
    some (.inl (g,wa .i64 a 1))
  else
    some (.inr c)
def m_j4 (c:Int) (d:L2):L2×Int→Option ((L2×Int)⊕(L2)):=fun (b,a)=>
  if a < c then
    (loop (m_j3 d a) ([],0)).bind fun e=>
    (app b [e]).bind fun f=>
    some (.inl (f,wa .i64 a 1))
  else
    some (.inr b)
def m_j5 (a:L2) (b:Int):Option (L2):=
  (loop (m_j4 b a) ([],0)).bind fun c=>
  some c
def m_j6 (b:LI) (f:(List (List (Bool×LI)))×Int×Int) (c:Int) (g:(List (List (Bool×LI)))) (h:Int):Int→Option ((Int)⊕(Unit⊕(Int×LI×LI))):=fun a=>
  if a < (b.length:Int) then
    (getI b a).bind fun i=>
    (m_jc f.1 i).bind fun d=>
    (getI b a).bind fun j=>
    (m_j2 d c j).bind fun e=>
    if (e.length:Int)=(ws .i64 c (g.length:Int)) then
      (m_j5 d c).bind fun k=>
      (getI b a).bind fun l=>
      (m_j2 k h l).bind fun m=>
      (getI b a).bind fun n=>
      some (.inr (.inr (n,m,e)))
    else
      some (.inl (wa .i64 a 1))
  else
    some (.inr (.inl ()))
def m_j7 (d:Int) (a:Int) (e:LI) (f:LI) (g:LI):Option (Int×Int×LI×LI×(List (List (Bool×LI)))×Int):=
  (m_hp d a e f g).bind fun b=>
  if b.2.2=0 then
    (m_i3 b.1 a).bind fun c=>
    (m_i8 2147483648 5).bind fun h=>
    (loop (m_j6 h b a c d) 0).bind (fun o=>match o with
      | .inl ()=>
        some (0,0,[],[],[],420)
      | .inr (i,j,k)=>
        some (ws .i64 a (c.length:Int),i,j,k,c,0))
  else
    some (0,0,[],[],[],b.2.2)
def m_j8 (d:Int) (b:Int) (e:LI) (f:LI) (g:LI):Option ((List (Bool×LI))×Bool×Int):=
  (m_dv d b e f g).bind fun a=>
  if a.2.2=0 then
    (m_fq a.1 b).bind fun c=>
    if (c.length:Int)=0 then
      some ([],false,0)
    else
      (getI c 0).bind fun h=>
      some (h,true,0)
  else
    some ([],false,a.2.2)
def m_j9 (d:Int) (b:Int) (e:LI) (f:LI) (g:LI):Option ((List (Bool×LI))×Bool×Int):=
  (m_hp d b e f g).bind fun a=>
  if a.2.2=0 then
    (m_i3 a.1 b).bind fun c=>
    if (c.length:Int)=0 then
      some ([],false,0)
    else
      (getI c 0).bind fun h=>
      some (h,true,0)
  else
    some ([],false,a.2.2)
def m_ka (b:LI) (c:LI):Int→Option ((Int)⊕(Unit⊕Unit)):=fun a=>
  if a < (b.length:Int) then
    (getI b a).bind fun d=>
    (getI c a).bind fun e=>
    if d=e then
      some (.inl (wa .i64 a 1))
    else
      some (.inr (.inr ()))
  else
    some (.inr (.inl ()))
def m_kb (a:LI) (b:LI):Option (Bool):=
  if (a.length:Int)=(b.length:Int) then
    (loop (m_ka a b) 0).bind (fun o=>match o with
      | .inl ()=>
        some true
      | .inr ()=>
        some false)
  else
    some false
def m_kc (b:LI) (c:LI):Int→Option ((Int)⊕(Unit⊕Unit)):=fun a=>
  if a < (b.length:Int) then
    (getI b a).bind fun d=>
    (getI c a).bind fun e=>
    if d=e then
      some (.inl (wa .i64 a 1))
    else
      some (.inr (.inr ()))
  else
    some (.inr (.inl ()))
def m_kd (a:LI) (b:LI):Option (Bool):=
  if (a.length:Int)=(b.length:Int) then
    (loop (m_kc a b) 0).bind (fun o=>match o with
      | .inl ()=>
        some true
      | .inr ()=>
        some false)
  else
    some false
def m_ke (a:Bool) (b:LI) (c:Bool) (d:LI):Option (Bool):=
  (if (a == c)=true then
    (m_kd b d).bind fun e=>
    some e
  else
    some false).bind fun f=>
  some f
def m_kf (b:List (Bool×LI)) (e:List (Bool×LI)):Int→Option ((Int)⊕(Unit⊕Unit)):=fun a=>
  if a < (b.length:Int) then
    (getI b a).bind fun c=>
    (getI e a).bind fun d=>
    (m_ke c.1 c.2 d.1 d.2).bind fun f=>
    if f=true then
      some (.inl (wa .i64 a 1))
    else
      some (.inr (.inr ()))
  else
    some (.inr (.inl ()))
def m_kg (a:List (Bool×LI)) (b:List (Bool×LI)):Option (Bool):=
  if (a.length:Int)=(b.length:Int) then
    (loop (m_kf a b) 0).bind (fun o=>match o with
      | .inl ()=>
        some true
      | .inr ()=>
        some false)
  else
    some false
def m_kh (b:List (List (Bool×LI))) (c:List (List (Bool×LI))):Int→Option ((Int)⊕(Unit⊕Unit)):=fun a=>
  if a < (b.length:Int) then
    (getI b a).bind fun d=>
    (getI c a).bind fun e=>
    (m_kg d e).bind fun f=>
    if f=true then
      some (.inl (wa .i64 a 1))
    else
      some (.inr (.inr ()))
  else
    some (.inr (.inl ()))
def m_ki (a:List (List (Bool×LI))) (b:List (List (Bool×LI))):Option (Bool):=
  if (a.length:Int)=(b.length:Int) then
    (loop (m_kh a b) 0).bind (fun o=>match o with
      | .inl ()=>
        some true
      | .inr ()=>
        some false)
  else
    some false
def m_kj (a:Int) (b:Int) (c:LI) (d:LI) (e:List (List (Bool×LI))) (f:Int) (g:Int) (h:LI) (i:LI) (j:List (List (Bool×LI))):Option (Bool):=
  (if ((decide (a=f)) && (decide (b=g)))=true then
    (m_kb c h).bind fun k=>
    some k
  else
    some false).bind fun l=>
  (if l=true then
    (m_kb d i).bind fun m=>
    some m
  else
    some false).bind fun n=>
  (if n=true then
    (m_ki e j).bind fun o=>
    some o
  else
    some false).bind fun p=>
  some p
def m_kk (b:LI) (d:Int):Int→Option ((Int)⊕(Unit⊕Unit)):=fun a=>
  if a < (b.length:Int) then
    (getI b a).bind fun c=>
    (if ((decide (c < 0)) || (decide (d≤c)))=true then
      some true
    else
      (if (0:Int) < a then
        (getI b (ws .i64 a 1)).bind fun e=>
        some (decide (c≤e))
      else
        some false).bind fun f=>
      some f).bind fun g=>
    if g=true then
      some (.inr (.inr ()))
    else
      some (.inl (wa .i64 a 1))
  else
    some (.inr (.inl ()))
def m_kl (a:LI) (b:Int) (c:Int):Option (Bool):=
  if (a.length:Int)=b then
    (loop (m_kk a c) 0).bind (fun o=>match o with
      | .inl ()=>
        some true
      | .inr ()=>
        some false)
  else
    some false
end M
