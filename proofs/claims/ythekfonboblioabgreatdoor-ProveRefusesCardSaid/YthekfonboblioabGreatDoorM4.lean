/- Models of functions of the program, printed. -/
import Derived.Test.YthekfonboblioabGreatDoorM3
namespace M
open Sx
set_option linter.unusedVariables false
def m_cu (b:Bool) (c:LI):Option (Bool×LI):=
  (m_cr c).bind fun d=>
  (m_cn b d).bind fun a=>
  some (a.1,a.2)
def m_cv (a:Bool) (b:LI):Option (Int):=
  (m_cm b).bind fun c=>
  if (c.length:Int)=0 then
    some 0
  else
    if a=true then
      some (-1)
    else
      some 1
def m_cw (b:LI):Int→Option ((Int)⊕(Unit⊕Int)):=fun a=>
  if a < (b.length:Int) then
    (getI b a).bind fun c=>
    if c=0 then
      some (.inl (wa .i64 a 1))
    else
      (tz32 c).bind fun d=>
      some (.inr (.inr (wa .i64 (wm .i64 a 32) d)))
  else
    some (.inr (.inl ()))
def m_cx (c:Bool) (a:LI):Option (Int):=
  (loop (m_cw a) 0).bind (fun o=>match o with
    | .inl ()=>
      some 0
    | .inr b=>
      some b)
def m_cy (a:LI):Option (Int):=
  if (a.length:Int)=0 then
    some 0
  else
    (getI a (ws .i64 (a.length:Int) 1)).bind fun b=>
    (m_be b).bind fun c=>
    some (wa .i64 (wm .i64 (ws .i64 (a.length:Int) 1) 32) c)
def m_cz (d:Bool) (a:LI):Option (Int):=
  (m_cm a).bind fun b=>
  (m_cy b).bind fun c=>
  some c
def m_c0 (d:LI) (b:Int):LI×Int→Option ((LI×Int)⊕(LI)):=fun (c,a)=>
  if a < (d.length:Int) then
    (getI d a).bind fun f=>
    (wshl .u64 (wc .u64 f) (wc .u64 (wrc b 32))).bind fun e=>
    (getI c (wa .i64 (wqc .i64 b 32) a)).bind fun g=>
    (setI c (wa .i64 (wqc .i64 b 32) a) (wor .u32 g (wc .u32 (wand .u64 e 4294967295)))).bind fun h=>
    (setI h (wa .i64 (wa .i64 (wqc .i64 b 32) a) 1) (wc .u32 (wsrc .u64 e 32))).bind fun i=>
    some (.inl (i,wa .i64 a 1))
  else
    some (.inr c)
def m_c1 (a:LI) (b:Int):Option (LI):=
  if (a.length:Int)=0 then
    some []
  else
    (mkL 0 (wa .i64 (wa .i64 (wqc .i64 b 32) (a.length:Int)) 1)).bind fun c=>
    (loop (m_c0 a b) (c,0)).bind fun d=>
    (m_cm d).bind fun e=>
    some e
def m_c2 (a:Int):Option (Bool):=
  some (!(decide (a=0)))
def m_c3 (b:LI):Int→Option ((Int)⊕(Unit⊕Int)):=fun a=>
  if a < (b.length:Int) then
    (getI b a).bind fun c=>
    (m_c2 c).bind fun d=>
    if d=true then
      some (.inr (.inr a))
    else
      some (.inl (wa .i64 a 1))
  else
    some (.inr (.inl ()))
def m_c4 (a:LI):Option (Int):=
  (loop (m_c3 a) 0).bind (fun o=>match o with
    | .inl ()=>
      some (-1)
    | .inr b=>
      some b)
def m_c5 (a:LI):Option (Bool):=
  (m_c4 a).bind fun b=>
  some (decide ((0:Int)≤b))
def m_c6 (b:Int) (c:LI) (a:Int) (d:Int):Option ((LI×Int)⊕(LI)):=
  (wshr .u64 d (wc .u64 (wrc b 32))).bind fun e=>
  (setI c a (wc .u32 (wand .u64 e 4294967295))).bind fun f=>
  some (.inl (f,wa .i64 a 1))
def m_c7 (f:LI) (c:LI) (b:Int):LI×Int→Option ((LI×Int)⊕(LI)):=fun (d,a)=>
  if a < (f.length:Int) then
    (getI c (wa .i64 (wqc .i64 b 32) a)).bind fun e=>
    if (wa .i64 (wa .i64 (wqc .i64 b 32) a) 1) < (c.length:Int) then
      (getI c (wa .i64 (wa .i64 (wqc .i64 b 32) a) 1)).bind fun g=>
      m_c6 b d a (wor .u64 (wc .u64 e) (wslc .u64 (wc .u64 g) 32))
    else
      m_c6 b d a (wc .u64 e)
  else
    some (.inr d)
def m_c8 (a:LI) (b:Int):Option (LI×Bool):=
  if (a.length:Int)≤(wqc .i64 b 32) then
    some ([],decide ((0:Int) < (a.length:Int)))
  else
    (sli a 0 (wqc .i64 b 32)).bind fun d=>
    (m_c5 d).bind fun e=>
    (if e=true then
      some true
    else
      (getI a (wqc .i64 b 32)).bind fun f=>
      (wshl .u32 1 (wc .u64 (wrc b 32))).bind fun g=>
      some (!(decide ((wand .u32 f (ws .u32 g 1))=0)))).bind fun h=>
    (mkL 0 (ws .i64 (a.length:Int) (wqc .i64 b 32))).bind fun c=>
    (loop (m_c7 c a b) (c,0)).bind fun i=>
    (m_cm i).bind fun j=>
    some (j,h)
def m_c9 (b:LI) (c:Int) (a:Int):Option ((LI×Int×Int)⊕((LI×Int))):=
  (app b [wc .u32 (wand .u64 a 4294967295)]).bind fun d=>
  some (.inl (d,wsrc .u64 a 32,wa .i64 c 1))
def m_da (d:LI) (e:LI):LI×Int×Int→Option ((LI×Int×Int)⊕((LI×Int))):=fun (b,c,a)=>
  if a < (d.length:Int) then
    (getI d a).bind fun f=>
    if a < (e.length:Int) then
      (getI e a).bind fun g=>
      m_c9 b a (wa .u64 (wa .u64 (wc .u64 f) c) (wc .u64 g))
    else
      m_c9 b a (wa .u64 (wc .u64 f) c)
  else
    some (.inr (b,c))
def m_db (a:LI) (b:LI):Option (LI):=
  (mkLc 0 0 (wa .i64 (a.length:Int) 1)).bind fun c=>
  (loop (m_da a b) (c,0,0)).bind fun (d,e)=>
  (app d [wc .u32 e]).bind fun f=>
  (m_cm f).bind fun g=>
  some g
def m_dc (a:LI) (b:LI):Option (LI):=
  if (a.length:Int) < (b.length:Int) then
    m_db b a
  else
    m_db a b
def m_dd (b:Bool) (c:LI):Option (Bool×LI×Int):=
  (m_cn b c).bind fun a=>
  some (a.1,a.2,0)
def m_de (b:Bool) (f:LI) (a:Int):Option (Bool×LI×Int):=
  if ((decide (a < (-1048576))) || (decide ((1048576:Int) < a)))=true then
    some (false,[],3)
  else
    (m_cm f).bind fun d=>
    if (0:Int)≤a then
      (m_c1 d a).bind fun g=>
      (m_cn b g).bind fun e=>
      some (e.1,e.2,0)
    else
      (m_c8 d (wneg .i64 a)).bind fun c=>
      if (b && c.2)=true then
        (m_dc c.1 [1]).bind fun h=>
        m_dd b h
      else
        m_dd b c.1
def m_df:Int×Bool×LI→Option ((Int×Bool×LI)⊕((Int×Bool×LI))):=fun (a,b,c)=>
  if (1048576:Int) < a then
    (m_de b c (-1048576)).bind fun d=>
    some (.inl (ws .i64 a 1048576,d.1,d.2.1))
  else
    some (.inr (a,b,c))
def m_dg (b:Bool) (c:LI) (d:Int):Option (Bool×LI):=
  (loop (m_df) (d,b,c)).bind fun (e,f,g)=>
  (m_de f g (wneg .i64 e)).bind fun a=>
  some (a.1,a.2.1)
def m_dh (g:Bool) (h:Bool) (i:LI) (b:Int):Option (Bool×Bool×LI×Int×Bool):=
  if g=true then
    (m_ct).bind fun c=>
    some (c.1,c.2.1,[],c.2.2,false)
  else
    (m_cu h i).bind fun a=>
    (m_cv a.1 a.2).bind fun j=>
    if j=0 then
      some (false,false,[],0,true)
    else
      (m_cx a.1 a.2).bind fun d=>
      (m_cz a.1 a.2).bind fun k=>
      (if (ws .i64 65536 k) < b then
        some true
      else
        some (decide (b < (ws .i64 (-65536) d)))).bind fun l=>
      if l=true then
        (m_ct).bind fun e=>
        some (e.1,e.2.1,[],e.2.2,false)
      else
        (m_dg a.1 a.2 d).bind fun f=>
        some (false,f.1,f.2,wa .i64 b d,true)
end M
