/- Models of functions of the program, printed. -/
import Derived.Test.YthekfonboblioaaGreatDoorM4
namespace M
open Sx
set_option linter.unusedVariables false
def m_di (d:Bool) (a:LI):Option (Int):=
  (m_c5 a).bind fun b=>
  (m_dh b).bind fun c=>
  some c
def m_dj (d:LI) (b:Int):LI×Int→Option ((LI×Int)⊕(LI)):=fun (c,a)=>
  if a < (d.length:Int) then
    (getI d a).bind fun f=>
    (wshl .u64 (wc .u64 f) (wc .u64 (wrc b 32))).bind fun e=>
    (getI c (wa .i64 (wqc .i64 b 32) a)).bind fun g=>
    (setI c (wa .i64 (wqc .i64 b 32) a) (wor .u32 g (wc .u32 (wand .u64 e 4294967295)))).bind fun h=>
    (setI h (wa .i64 (wa .i64 (wqc .i64 b 32) a) 1) (wc .u32 (wsrc .u64 e 32))).bind fun i=>
    some (.inl (i,wa .i64 a 1))
  else
    some (.inr c)
def m_dk (a:LI) (b:Int):Option (LI):=
  if (a.length:Int)=0 then
    some []
  else
    (mkL 0 (wa .i64 (wa .i64 (wqc .i64 b 32) (a.length:Int)) 1)).bind fun c=>
    (loop (m_dj a b) (c,0)).bind fun d=>
    (m_c5 d).bind fun e=>
    some e
def m_dl (a:Int):Option (Bool):=
  some (!(decide (a=0)))
def m_dm (b:LI):Int→Option ((Int)⊕(Unit⊕Int)):=fun a=>
  if a < (b.length:Int) then
    (getI b a).bind fun c=>
    (m_dl c).bind fun d=>
    if d=true then
      some (.inr (.inr a))
    else
      some (.inl (wa .i64 a 1))
  else
    some (.inr (.inl ()))
def m_dn (a:LI):Option (Int):=
  (loop (m_dm a) 0).bind (fun o=>match o with
    | .inl ()=>
      some (-1)
    | .inr b=>
      some b)
def m_do (a:LI):Option (Bool):=
  (m_dn a).bind fun b=>
  some (decide ((0:Int)≤b))
def m_dp (b:Int) (c:LI) (a:Int) (d:Int):Option ((LI×Int)⊕(LI)):=
  (wshr .u64 d (wc .u64 (wrc b 32))).bind fun e=>
  (setI c a (wc .u32 (wand .u64 e 4294967295))).bind fun f=>
  some (.inl (f,wa .i64 a 1))
def m_dq (f:LI) (c:LI) (b:Int):LI×Int→Option ((LI×Int)⊕(LI)):=fun (d,a)=>
  if a < (f.length:Int) then
    (getI c (wa .i64 (wqc .i64 b 32) a)).bind fun e=>
    if (wa .i64 (wa .i64 (wqc .i64 b 32) a) 1) < (c.length:Int) then
      (getI c (wa .i64 (wa .i64 (wqc .i64 b 32) a) 1)).bind fun g=>
      m_dp b d a (wor .u64 (wc .u64 e) (wslc .u64 (wc .u64 g) 32))
    else
      m_dp b d a (wc .u64 e)
  else
    some (.inr d)
def m_dr (a:LI) (b:Int):Option (LI×Bool):=
  if (a.length:Int)≤(wqc .i64 b 32) then
    some ([],decide ((0:Int) < (a.length:Int)))
  else
    (sli a 0 (wqc .i64 b 32)).bind fun d=>
    (m_do d).bind fun e=>
    (if e=true then
      some true
    else
      (getI a (wqc .i64 b 32)).bind fun f=>
      (wshl .u32 1 (wc .u64 (wrc b 32))).bind fun g=>
      some (!(decide ((wand .u32 f (ws .u32 g 1))=0)))).bind fun h=>
    (mkL 0 (ws .i64 (a.length:Int) (wqc .i64 b 32))).bind fun c=>
    (loop (m_dq c a b) (c,0)).bind fun i=>
    (m_c5 i).bind fun j=>
    some (j,h)
def m_ds (b:LI) (c:Int) (a:Int):Option ((LI×Int×Int)⊕((LI×Int))):=
  (app b [wc .u32 (wand .u64 a 4294967295)]).bind fun d=>
  some (.inl (d,wsrc .u64 a 32,wa .i64 c 1))
def m_dt (d:LI) (e:LI):LI×Int×Int→Option ((LI×Int×Int)⊕((LI×Int))):=fun (b,c,a)=>
  if a < (d.length:Int) then
    (getI d a).bind fun f=>
    if a < (e.length:Int) then
      (getI e a).bind fun g=>
      m_ds b a (wa .u64 (wa .u64 (wc .u64 f) c) (wc .u64 g))
    else
      m_ds b a (wa .u64 (wc .u64 f) c)
  else
    some (.inr (b,c))
def m_du (a:LI) (b:LI):Option (LI):=
  (mkLc 0 0 (wa .i64 (a.length:Int) 1)).bind fun c=>
  (loop (m_dt a b) (c,0,0)).bind fun (d,e)=>
  (app d [wc .u32 e]).bind fun f=>
  (m_c5 f).bind fun g=>
  some g
def m_dv (a:LI) (b:LI):Option (LI):=
  if (a.length:Int) < (b.length:Int) then
    m_du b a
  else
    m_du a b
def m_dw (b:Bool) (c:LI):Option (Bool×LI×Int):=
  (m_c6 b c).bind fun a=>
  some (a.1,a.2,0)
def m_dx (b:Bool) (f:LI) (a:Int):Option (Bool×LI×Int):=
  if ((decide (a < (-1048576))) || (decide ((1048576:Int) < a)))=true then
    some (false,[],3)
  else
    (m_c5 f).bind fun d=>
    if (0:Int)≤a then
      (m_dk d a).bind fun g=>
      (m_c6 b g).bind fun e=>
      some (e.1,e.2,0)
    else
      (m_dr d (wneg .i64 a)).bind fun c=>
      if (b && c.2)=true then
        (m_dv c.1 [1]).bind fun h=>
        m_dw b h
      else
        m_dw b c.1
def m_dy:Int×Bool×LI→Option ((Int×Bool×LI)⊕((Int×Bool×LI))):=fun (a,b,c)=>
  if (1048576:Int) < a then
    (m_dx b c (-1048576)).bind fun d=>
    some (.inl (ws .i64 a 1048576,d.1,d.2.1))
  else
    some (.inr (a,b,c))
def m_dz (b:Bool) (c:LI) (d:Int):Option (Bool×LI):=
  (loop (m_dy) (d,b,c)).bind fun (e,f,g)=>
  (m_dx f g (wneg .i64 e)).bind fun a=>
  some (a.1,a.2.1)
def m_d0 (g:Bool) (h:Bool) (i:LI) (b:Int):Option (Bool×Bool×LI×Int×Bool):=
  if g=true then
    (m_dc).bind fun c=>
    some (c.1,c.2.1,[],c.2.2,false)
  else
    (m_dd h i).bind fun a=>
    (m_de a.1 a.2).bind fun j=>
    if j=0 then
      some (false,false,[],0,true)
    else
      (m_dg a.1 a.2).bind fun d=>
      (m_di a.1 a.2).bind fun k=>
      (if (ws .i64 65536 k) < b then
        some true
      else
        some (decide (b < (ws .i64 (-65536) d)))).bind fun l=>
      if l=true then
        (m_dc).bind fun e=>
        some (e.1,e.2.1,[],e.2.2,false)
      else
        (m_dz a.1 a.2 d).bind fun f=>
        some (false,f.1,f.2,wa .i64 b d,true)
def m_d1 (b:Bool) (c:LI) (d:Int):Option (Bool×Bool×LI×Int):=
  (m_d0 false b c d).bind fun a=>
  some (a.1,a.2.1,a.2.2.1,a.2.2.2.1)
def m_d2 (b:Int) (c:Bool) (d:LI):Option (Bool×Bool×LI×Int):=
  (m_d1 c d b).bind fun a=>
  some (a.1,a.2.1,a.2.2.1,a.2.2.2)
def m_d3 (d:Int) (b:Int) (e:Int):Option (Bool×Bool×LI×Int):=
  (m_c8 (wc .i64 e)).bind fun a=>
  (m_c9 d).bind fun f=>
  if f=true then
    (m_db a.1 a.2).bind fun c=>
    m_d2 b c.1 c.2
  else
    m_d2 b a.1 a.2
def m_d4 (b:Int):Option (Bool×Bool×LI×Int):=
  (m_cx b).bind fun a=>
  if a.1=2047 then
    some (true,false,[],0)
  else
    if a.1=0 then
      m_d3 b (-1074) a.2
    else
      m_d3 b (ws .i64 a.1 1075) (wor .u64 a.2 4503599627370496)
def m_d5 (b:Bool) (c:Bool) (d:LI) (e:Int):Option (Int):=
  (m_d0 b c d e).bind fun a=>
  (m_de a.2.1 a.2.2.1).bind fun f=>
  some f
def m_d6 (d:LI) (b:Int) (e:LI) (f:LI):(List (Int×Int×Int))×Int→Option (((List (Int×Int×Int))×Int)⊕(((List (Int×Int×Int))))):=fun (c,a)=>
  (getI d (wa .i64 b 1)).bind fun g=>
  if a < g then
    (getI e a).bind fun h=>
    (getI f a).bind fun i=>
    (app c [(h,b,i)]).bind fun j=>
    some (.inl (j,wa .i64 a 1))
  else
    some (.inr c)
def m_d7 (d:Int) (b:LI) (e:LI) (f:LI):(List (Int×Int×Int))×Int→Option (((List (Int×Int×Int))×Int)⊕(((List (Int×Int×Int))))):=fun (c,a)=>
  if a < d then
    (getI b a).bind fun g=>
    (loop (m_d6 b a e f) (c,g)).bind fun h=>
    some (.inl (h,wa .i64 a 1))
  else
    some (.inr c)
def m_d8 (f:Int) (a:Int) (b:LI) (c:LI) (d:LI):Option ((List (Int×Int×Int))):=
  (loop (m_d7 a b c d) ([],0)).bind fun e=>
  some e
end M
