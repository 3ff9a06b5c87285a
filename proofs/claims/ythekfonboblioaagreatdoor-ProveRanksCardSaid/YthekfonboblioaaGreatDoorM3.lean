/- Models of functions of the program, printed. -/
import Derived.Test.YthekfonboblioaaGreatDoorM2
namespace M
open Sx
set_option linter.unusedVariables false
def m_cf (a:Int):Option (Bool):=
  (m_ce a).bind fun b=>
  some (decide (b=3))
def m_cg (a:Int):Option (Bool):=
  some (!(decide ((wand .u64 a 9223372036854775808)=0)))
def m_ch (c:Int) (b:Int) (d:Int):Option (Bool×Bool×LI×Int):=
  (m_cg c).bind fun e=>
  (m_bg e [wc .u32 b,wc .u32 (wsrc .u64 b 32)] d).bind fun a=>
  some (a.1,a.2.1,a.2.2.1,a.2.2.2)
def m_ci (a:Int):Option (Bool×Bool×LI×Int):=
  (m_d a).bind fun c=>
  if c=true then
    if (0:Int) < (wc .i64 (wand .u64 (wsrc .u64 a 52) 2047)) then
      m_ch a (wor .u64 (wand .u64 a 4503599627370495) 4503599627370496) (ws .i64 (wc .i64 (wand .u64 (wsrc .u64 a 52) 2047)) 1075)
    else
      m_ch a (wand .u64 a 4503599627370495) (-1074)
  else
    (m_l).bind fun b=>
    some (b.1,b.2.1,[],b.2.2)
def m_cj (e:Bool) (f:Bool) (g:LI) (h:Int) (c:Int):Option (Bool×Bool×LI×Int):=
  (m_bi e f g h).bind fun a=>
  (if a.1=true then
    some true
  else
    (m_bj a.2.1 a.2.2.1).bind fun i=>
    some (decide (i=0))).bind fun j=>
  if j=true then
    some (a.1,a.2.1,a.2.2.1,a.2.2.2)
  else
    if ((decide ((262144:Int) < c)) || (decide (c < (-262144))))=true then
      (m_l).bind fun d=>
      some (d.1,d.2.1,[],d.2.2)
    else
      (m_bg a.2.1 a.2.2.1 (wa .i64 a.2.2.2 c)).bind fun b=>
      some (b.1,b.2.1,b.2.2.1,b.2.2.2)
def m_ck (a:Int) (d:Int) (e:Int):Option (Int):=
  (m_cf a).bind fun f=>
  if f=true then
    some 9221120237041090560
  else
    (m_ce a).bind fun g=>
    if g=1 then
      (m_ci a).bind fun b=>
      (m_cj b.1 b.2.1 b.2.2.1 b.2.2.2 (imax (-5000) (imin 5000 d))).bind fun c=>
      (m_by c.1 c.2.1 c.2.2.1 c.2.2.2 e).bind fun h=>
      some h
    else
      some a
def m_cl (a:Int×Int×LI×LI×LI) (e:Int) (f:Int):LI×LI×Int→Option ((LI×LI×Int)⊕((LI×LI))):=fun (c,d,b)=>
  if b < a.1 then
    (app c [b]).bind fun g=>
    (m_cd a.1 a.2.1 a.2.2.1 a.2.2.2.1 a.2.2.2.2 b e).bind fun h=>
    (m_ck h (ws .i64 (wc .i64 (wrc f 7)) 3) 0).bind fun i=>
    (app d [i]).bind fun j=>
    some (.inl (g,j,wa .i64 b 1))
  else
    some (.inr (c,d))
def m_cm (c:LI) (a:Int) (d:Int×Int×LI×LI×LI) (e:LI) (f:LI) (g:LI) (h:Int):Option ((LI×LI×LI×Int)⊕((LI×LI×LI))):=
  (m_c c (wa .i64 820 a)).bind fun i=>
  (loop (m_cl d h i) (e,f,0)).bind fun (b,j)=>
  (app g [(b.length:Int)]).bind fun k=>
  some (.inl (k,b,j,wa .i64 a 1))
def m_cn (c:Int×Int×LI×LI×LI) (b:LI):LI×LI×LI×Int→Option ((LI×LI×LI×Int)⊕((LI×LI×LI))):=fun (d,e,f,a)=>
  if a < c.2.1 then
    (if (0:Int) < a then
      (m_c b (wa .i64 800 a)).bind fun g=>
      some (decide ((wrc g 2)=0))
    else
      some false).bind fun h=>
    if h=true then
      (m_c b (wa .i64 810 a)).bind fun i=>
      (wr i (wc .u64 a)).bind fun j=>
      m_cm b a c e f d (wc .i64 j)
    else
      m_cm b a c e f d a
  else
    some (.inr (d,e,f))
def m_co (b:LI) (c:Int) (d:Int) (e:Int) (f:Bool):Option (Int×Int×LI×LI×LI):=
  (m_a e 3).bind fun g=>
  (m_a c 5).bind fun h=>
  (m_a d 5).bind fun i=>
  (m_b5 b h i g).bind fun a=>
  if f=true then
    (loop (m_cn a b) ([0],[],[],0)).bind fun (j,k,l)=>
    some (a.1,a.2.1,j,k,l)
  else
    some (a.1,a.2.1,a.2.2.1,a.2.2.2.1,a.2.2.2.2)
def m_cp (a:Int) (b:Int) (c:Int):Option (Bool):=
  some ((decide (b≤a)) && (decide (a≤c)))
def m_cq (a:Int):Option (Bool):=
  some (!(decide (a=a)))
def m_cr (a:Int) (b:Int):Option (Bool):=
  (m_cq a).bind fun c=>
  (if c=true then
    (m_cq b).bind fun d=>
    some (!(d))
  else
    some false).bind fun e=>
  some (e || (decide (a < b)))
def m_cs (b:LI):Int→Option ((Int)⊕(Unit⊕Unit)):=fun a=>
  if (0:Int) < a then
    (getI b a).bind fun c=>
    (getI b (ws .i64 a 1)).bind fun d=>
    (m_cr c d).bind fun e=>
    if e=true then
      some (.inr (.inr ()))
    else
      some (.inl (ws .i64 a 1))
  else
    some (.inr (.inl ()))
def m_ct (a:LI):Option (Bool):=
  (loop (m_cs a) (ws .i64 (a.length:Int) 1)).bind (fun o=>match o with
    | .inl ()=>
      some true
    | .inr ()=>
      some false)
def m_cu (c:LI) (d:Int):Int×Int→Option ((Int×Int)⊕(Unit⊕Unit)):=fun (e,a)=>
  if a < (c.length:Int) then
    (getI c a).bind fun b=>
    if ((decide (b≤e)) || (decide (d≤b)))=true then
      some (.inr (.inr ()))
    else
      some (.inl (b,wa .i64 a 1))
  else
    some (.inr (.inl ()))
def m_cv (c:Int) (b:LI) (d:LI) (e:Int):Int→Option ((Int)⊕(Unit⊕Unit)):=fun a=>
  if a < c then
    (getI b a).bind fun f=>
    (getI b (wa .i64 a 1)).bind fun g=>
    (sli d f g).bind fun h=>
    (loop (m_cu h e) ((-1),0)).bind (fun o=>match o with
      | .inl ()=>
        some (.inl (wa .i64 a 1))
      | .inr ()=>
        some (.inr (.inr ())))
  else
    some (.inr (.inl ()))
def m_cw (d:Int) (b:Int) (a:LI) (c:LI) (e:LI):Option (Bool):=
  (if (a.length:Int)=(wa .i64 b 1) then
    (getI a 0).bind fun f=>
    some (!(decide (f=0)))
  else
    some true).bind fun g=>
  (if g=true then
    some true
  else
    (m_ct a).bind fun h=>
    some (!(h))).bind fun i=>
  (if i=true then
    some true
  else
    (getI a b).bind fun j=>
    some (!(decide (j=(c.length:Int))))).bind fun k=>
  (if k=true then
    some true
  else
    some (!(decide ((c.length:Int)=(e.length:Int))))).bind fun l=>
  if l=true then
    some false
  else
    (loop (m_cv b a c d) 0).bind (fun o=>match o with
      | .inl ()=>
        some true
      | .inr ()=>
        some false)
def m_cx (a:Int):Option (Int×Int):=
  some (wc .i64 (wand .u64 (wsrc .u64 a 52) 2047),wand .u64 a 4503599627370495)
def m_cy (a:Int):Option (Bool):=
  (m_cx a).bind fun b=>
  some (!(decide (b.1=2047)))
def m_cz (a:Int):Option (Bool):=
  (m_cy a).bind fun b=>
  some (!(b))
end M
