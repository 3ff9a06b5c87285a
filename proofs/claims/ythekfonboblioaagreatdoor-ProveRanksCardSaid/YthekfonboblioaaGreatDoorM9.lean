/- Models of functions of the program, printed. -/
import Derived.Test.YthekfonboblioaaGreatDoorM8
namespace M
open Sx
set_option linter.unusedVariables false
def m_go (a:LI) (b:Int):Option (Bool):=
  some (!(decide ((a.length:Int)=b)))
def m_gp (b:L2) (c:Int):Int→Option ((Int)⊕(Unit⊕Int)):=fun a=>
  if a < (b.length:Int) then
    (getI b a).bind fun d=>
    (m_go d c).bind fun e=>
    if e=true then
      some (.inr (.inr a))
    else
      some (.inl (wa .i64 a 1))
  else
    some (.inr (.inl ()))
def m_gq (a:L2) (b:Int):Option (Int):=
  (loop (m_gp a b) 0).bind (fun o=>match o with
    | .inl ()=>
      some (-1)
    | .inr c=>
      some c)
def m_gr (a:L2) (b:Int):Option (Bool):=
  (m_gq a b).bind fun c=>
  some (decide ((0:Int)≤c))
def m_gs (a:L2) (c:Int):Option (Int):=
  (m_gn a).bind fun b=>
  (m_gb c).bind fun d=>
  if d=true then
    (m_gr a b).bind fun e=>
    if e=true then
      some 5
    else
      if ((decide ((200:Int) < (a.length:Int))) || (decide ((200:Int) < b)))=true then
        some 6
      else
        some 0
  else
    some 70
def m_gt (a:Int):Option (Int):=
  some a
def m_gu (c:Int) (b:Int):Option (Int):=
  (wr c b).bind fun a=>
  if a < 0 then
    m_gt (wa .i64 a b)
  else
    m_gt a
def m_gv (b:LI) (d:Int):LI×Int→Option ((LI×Int)⊕(LI)):=fun (c,a)=>
  if a < (b.length:Int) then
    (getI b a).bind fun e=>
    (m_gu e d).bind fun f=>
    (app c [f]).bind fun g=>
    some (.inl (g,wa .i64 a 1))
  else
    some (.inr c)
def m_gw (b:L2) (d:Int):L2×Int→Option ((L2×Int)⊕(L2)):=fun (c,a)=>
  if a < (b.length:Int) then
    (getI b a).bind fun e=>
    (loop (m_gv e d) ([],0)).bind fun f=>
    (app c [f]).bind fun g=>
    some (.inl (g,wa .i64 a 1))
  else
    some (.inr c)
def m_gx (a:L2) (b:Int):Option (L2):=
  (loop (m_gw a b) ([],0)).bind fun c=>
  some c
def m_gy (a:LI) (b:Int):Option (Bool):=
  (getI a b).bind fun c=>
  some (!(decide (c=0)))
def m_gz (b:L2) (c:Int):Int→Option ((Int)⊕(Unit⊕Int)):=fun a=>
  if a < (b.length:Int) then
    (getI b a).bind fun d=>
    (m_gy d c).bind fun e=>
    if e=true then
      some (.inr (.inr a))
    else
      some (.inl (wa .i64 a 1))
  else
    some (.inr (.inl ()))
def m_g0 (a:L2) (b:Int):Option (Int):=
  (loop (m_gz a b) 0).bind (fun o=>match o with
    | .inl ()=>
      some (-1)
    | .inr c=>
      some c)
def m_g1 (a:Int) (b:Int) (c:Int) (d:Int):Option ((Int×Int×Int)⊕(Int)):=
  (wr (wm .i64 a a) b).bind fun e=>
  some (.inl (e,wqc .i64 c 2,d))
def m_g2 (b:Int):Int×Int×Int→Option ((Int×Int×Int)⊕(Int)):=fun (c,a,d)=>
  if (0:Int) < a then
    if (wrc a 2)=1 then
      (wr (wm .i64 d c) b).bind fun e=>
      m_g1 c b a e
    else
      m_g1 c b a d
  else
    some (.inr d)
def m_g3 (a:Int) (b:Int) (c:Int):Option (Int):=
  (loop (m_g2 c) (a,b,1)).bind fun d=>
  some d
def m_g4 (b:Int) (a:Int):Option (Int):=
  (m_g3 b (ws .i64 a 2) a).bind fun c=>
  some c
def m_g5 (c:LI) (e:Int) (d:Int):LI×Int→Option ((LI×Int)⊕(LI)):=fun (b,a)=>
  if a < (c.length:Int) then
    (getI c a).bind fun f=>
    (getI b a).bind fun g=>
    (wr (wm .i64 e f) d).bind fun h=>
    (m_gu (ws .i64 g h) d).bind fun i=>
    (setI b a i).bind fun j=>
    some (.inl (j,wa .i64 a 1))
  else
    some (.inr b)
def m_g6 (a:LI) (b:LI) (c:Int) (d:Int):Option (LI):=
  (loop (m_g5 b c d) (a,0)).bind fun e=>
  some e
def m_g7 (a:Int) (b:L2) (c:LI) (d:Int):Option ((L2×LI×Int×Int)⊕((L2×LI×Int))):=
  some (.inl (b,c,d,wa .i64 a 1))
def m_g8 (a:Int) (b:L2):Option ((L2×Int)⊕(L2)):=
  some (.inl (b,wa .i64 a 1))
def m_g9 (f:L2) (c:LI) (e:Int) (g:Int):L2×Int→Option ((L2×Int)⊕(L2)):=fun (b,a)=>
  if a < (f.length:Int) then
    (getI b a).bind fun d=>
    (if a=(c.length:Int) then
      some false
    else
      (getI d e).bind fun h=>
      some (!(decide (h=0)))).bind fun i=>
    if i=true then
      (getI b (c.length:Int)).bind fun j=>
      (getI d e).bind fun k=>
      (neI a (c.length:Int)).bind fun u2628=>
      (m_g6 d j k g).bind fun l=>
      (setI b a l).bind fun m=>
      m_g8 a m
    else
      m_g8 a b
  else
    some (.inr b)
def m_ha (d:LI) (c:LI) (e:Int) (f:Int):L2×Int→Option ((L2×Int)⊕(L2)):=fun (a,b)=>
  if b < (d.length:Int) then
    (getI a (c.length:Int)).bind fun g=>
    (getI a (c.length:Int)).bind fun h=>
    (getI h b).bind fun i=>
    (wr (wm .i64 i e) f).bind fun j=>
    (setI g b j).bind fun k=>
    (setI a (c.length:Int) k).bind fun l=>
    some (.inl (l,wa .i64 b 1))
  else
    some (.inr a)
def m_hb (a:LI) (b:Int) (c:Int) (d:L2) (f:Int):Option ((L2×LI×Int×Int)⊕((L2×LI×Int))):=
  (getI d (a.length:Int)).bind fun g=>
  (getI g b).bind fun h=>
  (wr (wm .i64 f h) c).bind fun i=>
  (getI d (a.length:Int)).bind fun j=>
  (getI j b).bind fun k=>
  (m_g4 k c).bind fun l=>
  (getI d (a.length:Int)).bind fun m=>
  (loop (m_ha m a l c) (d,0)).bind fun e=>
  (loop (m_g9 e a b c) (e,0)).bind fun n=>
  (app a [b]).bind fun o=>
  m_g7 b n o i
def m_hc (g:Int) (f:Int):L2×LI×Int×Int→Option ((L2×LI×Int×Int)⊕((L2×LI×Int))):=fun (b,a,c,d)=>
  if d < g then
    if (a.length:Int)=(b.length:Int) then
      some (.inr (b,a,c))
    else
      (sli b (a.length:Int) (b.length:Int)).bind fun h=>
      (m_g0 h d).bind fun e=>
      if (wa .i64 (a.length:Int) e) < (a.length:Int) then
        m_g7 d b a c
      else
        if (a.length:Int) < (wa .i64 (a.length:Int) e) then
          (getI b (wa .i64 (a.length:Int) e)).bind fun i=>
          (getI b (a.length:Int)).bind fun j=>
          (setI b (a.length:Int) i).bind fun k=>
          (setI k (wa .i64 (a.length:Int) e) j).bind fun l=>
          (m_gu (wneg .i64 c) f).bind fun m=>
          m_hb a d f l m
        else
          m_hb a d f b c
  else
    some (.inr (b,a,c))
def m_hd (a:L2) (b:Int):Option (L2×LI×Int):=
  (m_gn a).bind fun c=>
  (loop (m_hc c b) (a,[],1,0)).bind fun (d,e,f)=>
  some (d,e,f)
def m_he (b:L2) (a:Int):Option (Int×Int):=
  (m_gs b a).bind fun c=>
  if c=0 then
    (m_gx b a).bind fun d=>
    (m_hd d a).bind fun e=>
    some ((e.2.1.length:Int),0)
  else
    some (0,c)
def m_hf (a:Int) (b:LI) (c:L2):Option ((LI×L2×Int)⊕(LI)):=
  some (.inl (b,c,wa .i64 a 1))
def m_hg (e:L2) (f:Int):LI×L2×Int→Option ((LI×L2×Int)⊕(LI)):=fun (b,c,a)=>
  if a < (e.length:Int) then
    (getI e a).bind fun g=>
    (m_gm c).bind fun j=>
    (app c [g]).bind fun d=>
    (m_he d f).bind fun h=>
    if h.1=(d.length:Int) then
      (app b [a]).bind fun i=>
      m_hf a i d
    else
      m_hf a b c
  else
    some (.inr b)
def m_hh (a:L2) (b:Int):Option (LI):=
  (loop (m_hg a b) ([],[],0)).bind fun c=>
  some c
end M
