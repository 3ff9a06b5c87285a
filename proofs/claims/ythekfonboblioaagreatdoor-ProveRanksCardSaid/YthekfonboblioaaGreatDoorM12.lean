/- Models of functions of the program, printed. -/
import Derived.Test.YthekfonboblioaaGreatDoorM11
namespace M
open Sx
set_option linter.unusedVariables false
def m_jn (c:Int):LI×Int→Option ((LI×Int)⊕(LI)):=fun (b,a)=>
  if a < c then
    (app b [a]).bind fun d=>
    some (.inl (d,wa .i64 a 1))
  else
    some (.inr b)
def m_jo (a:Int):Option (LI):=
  (loop (m_jn a) ([],0)).bind fun b=>
  some b
def m_jp (b:LI) (d:LI) (e:Int) (f:L2):LI×Int→Option ((LI×Int)⊕(LI)):=fun (c,a)=>
  if a < (b.length:Int) then
    (getI d e).bind fun g=>
    (getI f g).bind fun h=>
    (getI b a).bind fun i=>
    (getI h i).bind fun j=>
    (app c [j]).bind fun k=>
    some (.inl (k,wa .i64 a 1))
  else
    some (.inr c)
def m_jq (b:LI) (d:LI) (e:L2):L2×Int→Option ((L2×Int)⊕(L2)):=fun (c,a)=>
  if a < (b.length:Int) then
    (loop (m_jp d b a e) ([],0)).bind fun f=>
    (app c [f]).bind fun g=>
    some (.inl (g,wa .i64 a 1))
  else
    some (.inr c)
def m_jr (a:L2) (b:LI) (c:LI):Option (L2):=
  (loop (m_jq b c a) ([],0)).bind fun d=>
  some d
def m_js (a:Int):Option (Int):=
  some a
def m_jt (c:Int) (b:Int):Option (Int):=
  (wr c b).bind fun a=>
  if a < 0 then
    m_js (wa .i64 a b)
  else
    m_js a
def m_ju (a:L2):Option (Int):=
  if (a.length:Int)=0 then
    some 0
  else
    (getI a 0).bind fun b=>
    some (b.length:Int)
def m_jv (a:Int) (b:Int) (c:Int) (d:Int):Option ((Int×Int×Int)⊕(Int)):=
  (wr (wm .i64 a a) b).bind fun e=>
  some (.inl (e,wqc .i64 c 2,d))
def m_jw (b:Int):Int×Int×Int→Option ((Int×Int×Int)⊕(Int)):=fun (c,a,d)=>
  if (0:Int) < a then
    if (wrc a 2)=1 then
      (wr (wm .i64 d c) b).bind fun e=>
      m_jv c b a e
    else
      m_jv c b a d
  else
    some (.inr d)
def m_jx (b:Int) (c:Int) (a:Int):Option (Int):=
  (m_jt b a).bind fun d=>
  (loop (m_jw a) (d,c,1)).bind fun e=>
  some e
def m_jy (b:Int) (a:Int):Option (Int):=
  (m_jx b (ws .i64 a 2) a).bind fun c=>
  some c
def m_jz (a:Int) (b:L2) (c:Int) (d:LI):Option ((L2×Int×LI×Int)⊕((L2×Int×LI))):=
  some (.inl (b,c,d,wa .i64 a 1))
def m_j0 (b:Int) (d:LI) (f:Int) (e:Int):L2×Int→Option ((L2×Int)⊕(L2)):=fun (a,c)=>
  (getI a b).bind fun g=>
  if ((decide (c < (g.length:Int))) && (!(decide (b=(d.length:Int)))))=true then
    (getI a b).bind fun h=>
    (getI a b).bind fun i=>
    (getI i c).bind fun j=>
    (getI a (d.length:Int)).bind fun k=>
    (getI k c).bind fun l=>
    (wr (wm .i64 f l) e).bind fun m=>
    (m_jt (ws .i64 j m) e).bind fun n=>
    (setI h c n).bind fun o=>
    (setI a b o).bind fun p=>
    some (.inl (p,wa .i64 c 1))
  else
    some (.inr a)
def m_j1 (c:Int) (d:LI) (e:Int):L2×Int→Option ((L2×Int)⊕(L2)):=fun (a,b)=>
  if b < (a.length:Int) then
    (getI a b).bind fun f=>
    (getI f c).bind fun g=>
    (loop (m_j0 b d g e) (a,0)).bind fun h=>
    some (.inl (h,wa .i64 b 1))
  else
    some (.inr a)
def m_j2 (b:LI) (d:Int) (e:Int):L2×Int→Option ((L2×Int)⊕(L2)):=fun (a,c)=>
  (getI a (b.length:Int)).bind fun f=>
  if c < (f.length:Int) then
    (getI a (b.length:Int)).bind fun g=>
    (getI a (b.length:Int)).bind fun h=>
    (getI h c).bind fun i=>
    (wr (wm .i64 i d) e).bind fun j=>
    (setI g c j).bind fun k=>
    (setI a (b.length:Int) k).bind fun l=>
    some (.inl (l,wa .i64 c 1))
  else
    some (.inr a)
def m_j3 (a:LI) (b:Int) (c:Int) (d:L2) (e:Int):Option ((L2×Int×LI×Int)⊕((L2×Int×LI))):=
  (getI d (a.length:Int)).bind fun f=>
  (getI f b).bind fun g=>
  (wr (wm .i64 e g) c).bind fun h=>
  (getI d (a.length:Int)).bind fun i=>
  (getI i b).bind fun j=>
  (m_jy j c).bind fun k=>
  (loop (m_j2 a k c) (d,0)).bind fun l=>
  (loop (m_j1 b a c) (l,0)).bind fun m=>
  (app a [b]).bind fun n=>
  m_jz b m h n
def m_j4 (b:L2) (c:Int):Int→Option ((Int)⊕(Int)):=fun a=>
  (if a < (b.length:Int) then
    (getI b a).bind fun d=>
    (getI d c).bind fun e=>
    some (decide (e=0))
  else
    some false).bind fun f=>
  if f=true then
    some (.inl (wa .i64 a 1))
  else
    some (.inr a)
def m_j5 (g:L2) (e:Int):L2×Int×LI×Int→Option ((L2×Int×LI×Int)⊕((L2×Int×LI))):=fun (a,f,b,c)=>
  (m_ju g).bind fun h=>
  if c < h then
    (loop (m_j4 a c) (b.length:Int)).bind fun d=>
    if d=(a.length:Int) then
      m_jz c a 0 b
    else
      if d=(b.length:Int) then
        m_j3 b c e a f
      else
        (getI a (b.length:Int)).bind fun i=>
        (getI a d).bind fun j=>
        (setI a d i).bind fun k=>
        (setI k (b.length:Int) j).bind fun l=>
        (m_jt (wneg .i64 f) e).bind fun m=>
        m_j3 b c e l m
  else
    some (.inr (a,f,b))
def m_j6 (b:L2) (c:Int) (e:Int):LI×Int→Option ((LI×Int)⊕(LI)):=fun (d,a)=>
  (getI b c).bind fun f=>
  if a < (f.length:Int) then
    (getI b c).bind fun g=>
    (getI g a).bind fun h=>
    (m_jt h e).bind fun i=>
    (app d [i]).bind fun j=>
    some (.inl (j,wa .i64 a 1))
  else
    some (.inr d)
def m_j7 (b:L2) (d:Int):L2×Int→Option ((L2×Int)⊕(L2)):=fun (c,a)=>
  if a < (b.length:Int) then
    (loop (m_j6 b a d) ([],0)).bind fun e=>
    (app c [e]).bind fun f=>
    some (.inl (f,wa .i64 a 1))
  else
    some (.inr c)
def m_j8 (b:L2) (a:Int):Option (L2×LI×Int):=
  (loop (m_j7 b a) ([],0)).bind fun c=>
  (wr 1 a).bind fun d=>
  (loop (m_j5 b a) (c,d,[],0)).bind fun (e,f,g)=>
  some (e,g,f)
def m_j9 (a:L2) (b:Int):Option (Int):=
  (m_j8 a b).bind fun c=>
  some (c.2.1.length:Int)
def m_ka (a:Int) (b:LI):Option ((LI×Int)⊕(LI)):=
  some (.inl (b,wa .i64 a 1))
def m_kb (d:Int) (c:L2) (e:Int):LI×Int→Option ((LI×Int)⊕(LI)):=fun (a,b)=>
  if b < d then
    (m_jo (c.length:Int)).bind fun f=>
    (app [] a).bind fun g=>
    (app g [b]).bind fun h=>
    (m_jr c f h).bind fun i=>
    (m_j9 i e).bind fun j=>
    if (a.length:Int) < j then
      (app a [b]).bind fun k=>
      m_ka b k
    else
      m_ka b a
  else
    some (.inr a)
def m_kc (a:L2) (b:Int) (c:Int):Option (LI):=
  (loop (m_kb b a c) ([],0)).bind fun d=>
  some d
def m_kd (b:L2) (d:Int):LI×Int→Option ((LI×Int)⊕(LI)):=fun (c,a)=>
  if a < (b.length:Int) then
    (getI b a).bind fun e=>
    (getI e d).bind fun f=>
    (app c [f]).bind fun g=>
    some (.inl (g,wa .i64 a 1))
  else
    some (.inr c)
def m_ke (c:Int) (d:L2):L2×Int→Option ((L2×Int)⊕(L2)):=fun (b,a)=>
  if a < c then
    (loop (m_kd d a) ([],0)).bind fun e=>
    (app b [e]).bind fun f=>
    some (.inl (f,wa .i64 a 1))
  else
    some (.inr b)
def m_kf (a:L2) (b:Int):Option (L2):=
  (loop (m_ke b a) ([],0)).bind fun c=>
  some c
def m_kg (b:LI) (f:(List (List (Bool×LI)))×Int×Int) (c:Int) (g:(List (List (Bool×LI)))) (h:Int):Int→Option ((Int)⊕(Unit⊕(Int×LI×LI))):=fun a=>
  if a < (b.length:Int) then
    (getI b a).bind fun i=>
    (m_jm f.1 i).bind fun d=>
    (getI b a).bind fun j=>
    (m_kc d c j).bind fun e=>
    if (e.length:Int)=(ws .i64 c (g.length:Int)) then
      (m_kf d c).bind fun k=>
      (getI b a).bind fun l=>
      (m_kc k h l).bind fun m=>
      (getI b a).bind fun n=>
      some (.inr (.inr (n,m,e)))
    else
      some (.inl (wa .i64 a 1))
  else
    some (.inr (.inl ()))
def m_kh (d:Int) (a:Int) (e:LI) (f:LI) (g:LI):Option (Int×Int×LI×LI×(List (List (Bool×LI)))×Int):=
  (m_hz d a e f g).bind fun b=>
  if b.2.2=0 then
    (m_jd b.1 a).bind fun c=>
    (m_ji 2147483648 5).bind fun h=>
    (loop (m_kg h b a c d) 0).bind (fun o=>match o with
      | .inl ()=>
        some (0,0,[],[],[],420)
      | .inr (i,j,k)=>
        some (ws .i64 a (c.length:Int),i,j,k,c,0))
  else
    some (0,0,[],[],[],b.2.2)
def m_ki (b:LI) (c:LI):Int→Option ((Int)⊕(Unit⊕Unit)):=fun a=>
  if a < (b.length:Int) then
    (getI b a).bind fun d=>
    (getI c a).bind fun e=>
    if d=e then
      some (.inl (wa .i64 a 1))
    else
      some (.inr (.inr ()))
  else
    some (.inr (.inl ()))
def m_kj (a:LI) (b:LI):Option (Bool):=
  if (a.length:Int)=(b.length:Int) then
    (loop (m_ki a b) 0).bind (fun o=>match o with
      | .inl ()=>
        some true
      | .inr ()=>
        some false)
  else
    some false
def m_kk (b:LI) (c:LI):Int→Option ((Int)⊕(Unit⊕Unit)):=fun a=>
  if a < (b.length:Int) then
    (getI b a).bind fun d=>
    (getI c a).bind fun e=>
    if d=e then
      some (.inl (wa .i64 a 1))
    else
      some (.inr (.inr ()))
  else
    some (.inr (.inl ()))
def m_kl (a:LI) (b:LI):Option (Bool):=
  if (a.length:Int)=(b.length:Int) then
    (loop (m_kk a b) 0).bind (fun o=>match o with
      | .inl ()=>
        some true
      | .inr ()=>
        some false)
  else
    some false
def m_km (a:Bool) (b:LI) (c:Bool) (d:LI):Option (Bool):=
  (if (a == c)=true then
    (m_kl b d).bind fun e=>
    some e
  else
    some false).bind fun f=>
  some f
end M
