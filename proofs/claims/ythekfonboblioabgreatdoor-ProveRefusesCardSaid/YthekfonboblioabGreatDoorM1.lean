/- Models of functions of the program, printed. -/
import Derived.Test.YthekfonboblioabGreatDoorM0
namespace M
open Sx
set_option linter.unusedVariables false
def m_1 (b:LI) (c:LI):Int→Option ((Int)⊕(Unit⊕Int)):=fun a=>
  if (0:Int)≤a then
    (getI b a).bind fun d=>
    (getI c a).bind fun e=>
    if d=e then
      some (.inl (ws .i64 a 1))
    else
      (getI b a).bind fun f=>
      (getI c a).bind fun g=>
      if f < g then
        some (.inr (.inr (-1)))
      else
        some (.inr (.inr 1))
  else
    some (.inr (.inl ()))
def m_2 (a:LI) (b:LI):Option (Int):=
  if (a.length:Int)=(b.length:Int) then
    (loop (m_1 a b) (ws .i64 (a.length:Int) 1)).bind (fun o=>match o with
      | .inl ()=>
        some 0
      | .inr c=>
        some c)
  else
    if (a.length:Int) < (b.length:Int) then
      some (-1)
    else
      some 1
def m_3 (b:LI) (c:Int) (a:Int):Option ((LI×Int×Int)⊕(LI)):=
  (app b [wc .u32 a]).bind fun d=>
  some (.inl (d,wsrc .u64 a 63,wa .i64 c 1))
def m_4 (c:LI) (d:LI):LI×Int×Int→Option ((LI×Int×Int)⊕(LI)):=fun (b,e,a)=>
  if a < (c.length:Int) then
    (getI c a).bind fun f=>
    if a < (d.length:Int) then
      (getI d a).bind fun g=>
      m_3 b a (ws .u64 (ws .u64 (wc .u64 f) e) (wc .u64 g))
    else
      m_3 b a (ws .u64 (wc .u64 f) e)
  else
    some (.inr b)
def m_5 (a:LI) (b:LI):Option (LI):=
  (loop (m_4 a b) ([],0,0)).bind fun c=>
  some c
def m_6 (c:Bool) (h:LI) (d:Bool) (i:LI):Option (Bool×LI):=
  (m_g h).bind fun a=>
  (m_g i).bind fun b=>
  if (c == d)=true then
    (m_0 a b).bind fun j=>
    (m_h c j).bind fun e=>
    some (e.1,e.2)
  else
    (m_2 a b).bind fun k=>
    if (0:Int)≤k then
      (m_5 a b).bind fun l=>
      (m_h c l).bind fun f=>
      some (f.1,f.2)
    else
      (m_5 b a).bind fun m=>
      (m_h d m).bind fun g=>
      some (g.1,g.2)
def m_7 (c:Bool) (d:LI) (e:Bool) (f:LI):Option (Bool×LI):=
  (m_w e f).bind fun a=>
  (m_6 c d a.1 a.2).bind fun b=>
  some (b.1,b.2)
def m_8 (a:Bool) (b:LI):Option (Bool×LI):=
  some (a,b)
def m_9 (h:Bool) (i:LI) (c:Int):Option (Bool×LI):=
  (m_k h i).bind fun a=>
  if (0:Int)≤c then
    (m_q a.2 c).bind fun j=>
    (m_h a.1 j).bind fun d=>
    some (d.1,d.2)
  else
    (m_v a.2 (wneg .i64 c)).bind fun e=>
    (m_h a.1 e.1).bind fun b=>
    if (a.1 && e.2)=true then
      (m_j 1).bind fun f=>
      (m_7 b.1 b.2 f.1 f.2).bind fun g=>
      m_8 g.1 g.2
    else
      m_8 b.1 b.2
def m_ba:Int×Bool×LI→Option ((Int×Bool×LI)⊕((Int×Bool×LI))):=fun (a,b,c)=>
  if (1048576:Int) < a then
    (m_9 b c (-1048576)).bind fun d=>
    some (.inl (ws .i64 a 1048576,d.1,d.2))
  else
    some (.inr (a,b,c))
def m_bb (b:Bool) (c:LI) (d:Int):Option (Bool×LI):=
  (loop (m_ba) (d,b,c)).bind fun (e,f,g)=>
  (m_9 f g (wneg .i64 e)).bind fun a=>
  some (a.1,a.2)
def m_bc (a:Int) (b:Int):Option (Int):=
  (getI [0,1,2,2,3,3,3,3,4,4,4,4,4,4,4,4,5,5,5,5,5,5,5,5,5,5,5,5,5,5,5,5,6,6,6,6,6,6,6,6,6,6,6,6,6,6,6,6,6,6,6,6,6,6,6,6,6,6,6,6,6,6,6,6,7,7,7,7,7,7,7,7,7,7,7,7,7,7,7,7,7,7,7,7,7,7,7,7,7,7,7,7,7,7,7,7,7,7,7,7,7,7,7,7,7,7,7,7,7,7,7,7,7,7,7,7,7,7,7,7,7,7,7,7,7,7,7,7,8,8,8,8,8,8,8,8,8,8,8,8,8,8,8,8,8,8,8,8,8,8,8,8,8,8,8,8,8,8,8,8,8,8,8,8,8,8,8,8,8,8,8,8,8,8,8,8,8,8,8,8,8,8,8,8,8,8,8,8,8,8,8,8,8,8,8,8,8,8,8,8,8,8,8,8,8,8,8,8,8,8,8,8,8,8,8,8,8,8,8,8,8,8,8,8,8,8,8,8,8,8,8,8,8,8,8,8,8,8,8,8,8,8,8,8,8,8,8,8,8,8,8,8,8,8,8,8] (wc .u8 a)).bind fun c=>
  some (wa .i64 b (wc .i64 c))
def m_bd (a:Int) (b:Int):Option (Int):=
  if (256:Int)≤a then
    m_bc (wsrc .u32 a 8) (wa .i64 b 8)
  else
    m_bc a b
def m_be (a:Int):Option (Int):=
  if (65536:Int)≤a then
    m_bd (wsrc .u32 a 16) 16
  else
    m_bd a 0
def m_bf (e:Bool) (b:LI):Option (Int):=
  (m_g b).bind fun a=>
  if (a.length:Int)=0 then
    some 0
  else
    (getI a (ws .i64 (a.length:Int) 1)).bind fun c=>
    (m_be c).bind fun d=>
    some (wa .i64 (wm .i64 32 (ws .i64 (a.length:Int) 1)) d)
def m_bg (g:Bool) (i:LI) (b:Int):Option (Bool×Bool×LI×Int):=
  (m_k g i).bind fun a=>
  if (a.2.length:Int)=0 then
    some (false,false,[],0)
  else
    if (65536:Int) < b then
      (m_l).bind fun d=>
      some (d.1,d.2.1,[],d.2.2)
    else
      (m_n a.1 a.2).bind fun c=>
      (m_o a.1 a.2).bind fun h=>
      (m_bb h.1 h.2 c).bind fun e=>
      (if (wa .i64 b c) < (-65536) then
        some true
      else
        (m_bf e.1 e.2).bind fun j=>
        some (decide ((65536:Int) < (wa .i64 (wa .i64 b c) j)))).bind fun k=>
      if k=true then
        (m_l).bind fun f=>
        some (f.1,f.2.1,[],f.2.2)
      else
        some (false,g,e.2,wa .i64 b c)
def m_bh (c:Int):Option (Bool×Bool×LI×Int):=
  (m_j c).bind fun b=>
  (m_bg b.1 b.2 0).bind fun a=>
  some (a.1,a.2.1,a.2.2.1,a.2.2.2)
def m_bi (c:Bool) (d:Bool) (e:LI) (f:Int):Option (Bool×Bool×LI×Int):=
  if c=true then
    (m_l).bind fun b=>
    some (b.1,b.2.1,[],b.2.2)
  else
    (m_bg d e f).bind fun a=>
    some (a.1,a.2.1,a.2.2.1,a.2.2.2)
def m_bj (b:Bool) (c:LI):Option (Int):=
  (m_k b c).bind fun a=>
  if (a.2.length:Int)=0 then
    some 0
  else
    if a.1=true then
      some (-1)
    else
      some 1
def m_bk (b:Bool) (a:Int):Option (Int):=
  if b=true then
    some (wor .u64 a 9223372036854775808)
  else
    some a
def m_bl (a:Bool) (b:Int):Option (Int):=
  if (((decide (b=3)) || ((decide (b=1)) && (!(a)))) || ((decide (b=2)) && a))=true then
    (m_bk a 9218868437227405311).bind fun c=>
    some c
  else
    (m_bk a 9218868437227405312).bind fun d=>
    some d
end M
