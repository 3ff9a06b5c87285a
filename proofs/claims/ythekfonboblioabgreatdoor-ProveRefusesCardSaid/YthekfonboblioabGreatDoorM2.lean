/- Models of functions of the program, printed. -/
import Derived.Test.YthekfonboblioabGreatDoorM1
namespace M
open Sx
set_option linter.unusedVariables false
def m_bm (e:Bool) (a:LI) (b:Int):Option (Bool):=
  (m_g a).bind fun c=>
  (m_v c b).bind fun d=>
  some d.2
def m_bn (b:Bool) (c:Int) (d:Bool) (a:Int):Option (Bool):=
  if a=1 then
    some b
  else
    if a=2 then
      some (!(b))
    else
      if a=3 then
        some false
      else
        some ((decide ((0:Int) < c)) || ((decide (c=0)) && d))
def m_bo (a:Bool) (b:LI):Option (Bool×LI):=
  some (a,b)
def m_bp (a:Bool×LI) (d:Bool) (e:Int) (f:Int):Option (Bool×LI):=
  (m_bj a.1 a.2).bind fun g=>
  (if g=0 then
    some false
  else
    (m_n a.1 a.2).bind fun h=>
    some (decide (h=0))).bind fun i=>
  (m_bn d f i e).bind fun j=>
  if j=true then
    (m_j 1).bind fun b=>
    (m_6 a.1 a.2 b.1 b.2).bind fun c=>
    m_bo c.1 c.2
  else
    m_bo a.1 a.2
def m_bq (a:Bool×LI) (b:Bool) (c:Int) (d:Int):Option (Bool×LI):=
  m_bp a b c d
def m_br (a:Bool×LI) (b:Bool) (c:Int) (d:Int):Option (Bool×LI):=
  m_bq a b c d
def m_bs (c:Bool) (d:Bool) (e:LI) (b:Int) (h:Bool) (f:Int):Option (Bool×LI):=
  (m_bb d e b).bind fun a=>
  (m_bm d e b).bind fun i=>
  if ((!(i)) && (!(h)))=true then
    some (a.1,a.2)
  else
    if (0:Int) < b then
      (m_bb d e (ws .i64 b 1)).bind fun g=>
      (m_n g.1 g.2).bind fun j=>
      (if j=0 then
        (m_bj g.1 g.2).bind fun k=>
        some (!(decide (k=0)))
      else
        some false).bind fun l=>
      if l=true then
        (if h=true then
          some true
        else
          (m_bm d e (ws .i64 b 1)).bind fun m=>
          some m).bind fun n=>
        if n=true then
          m_br a c f 1
        else
          m_br a c f 0
      else
        m_bq a c f (-1)
    else
      m_bp a c f (-1)
def m_bt (b:Bool×LI):Int×Int→Option ((Int×Int)⊕(Int)):=fun (c,a)=>
  if a < (b.2.length:Int) then
    (getI b.2 a).bind fun d=>
    (wshl .u64 (wc .u64 d) (wm .i64 32 a)).bind fun e=>
    some (.inl (wor .u64 c e,wa .i64 a 1))
  else
    some (.inr c)
def m_bu (c:Bool) (d:LI):Option (Int×Bool):=
  (m_k c d).bind fun b=>
  if (2:Int) < (b.2.length:Int) then
    some (0,false)
  else
    (loop (m_bt b) (0,0)).bind fun a=>
    if b.1=true then
      if (9223372036854775808:Int) < a then
        some (0,false)
      else
        some (ws .i64 (wneg .i64 (wc .i64 (ws .u64 a 1))) 1,true)
    else
      if (9223372036854775807:Int) < a then
        some (0,false)
      else
        some (wc .i64 a,true)
def m_bv (b:Bool) (d:Int) (c:Int) (a:Int):Option (Int):=
  if ((decide ((4503599627370496:Int)≤a)) && (decide ((1024:Int) < (wa .i64 c 53))))=true then
    (m_bl b d).bind fun e=>
    some e
  else
    if (4503599627370496:Int)≤a then
      (m_bk b (wor .u64 (wslc .u64 (wc .u64 (wa .i64 c 1075)) 52) (wc .u64 (ws .i64 a 4503599627370496)))).bind fun f=>
      some f
    else
      (m_bk b (wc .u64 a)).bind fun g=>
      some g
def m_bw (a:Bool) (b:Int) (c:Int) (d:Int) (f:Bool) (g:LI):Option (Int):=
  (m_bu f g).bind fun e=>
  if e.1=9007199254740992 then
    m_bv a b (wa .i64 (imax (ws .i64 (ws .i64 (wa .i64 c d) 1) 52) (-1074)) 1) 4503599627370496
  else
    m_bv a b (imax (ws .i64 (ws .i64 (wa .i64 c d) 1) 52) (-1074)) e.1
def m_bx (c:Bool) (e:Bool) (f:LI) (a:Int) (i:Bool) (d:Int):Option (Int):=
  (m_bf e f).bind fun b=>
  if (1024:Int)≤(ws .i64 (wa .i64 a b) 1) then
    (m_bl c d).bind fun j=>
    some j
  else
    if a≤(imax (ws .i64 (ws .i64 (wa .i64 a b) 1) 52) (-1074)) then
      (m_bs c e f (ws .i64 (imax (ws .i64 (ws .i64 (wa .i64 a b) 1) 52) (-1074)) a) i d).bind fun g=>
      m_bw c d a b g.1 g.2
    else
      (m_9 e f (ws .i64 a (imax (ws .i64 (ws .i64 (wa .i64 a b) 1) 52) (-1074)))).bind fun h=>
      m_bw c d a b h.1 h.2
def m_by (c:Bool) (d:Bool) (e:LI) (f:Int) (g:Int):Option (Int):=
  (m_bi c d e f).bind fun a=>
  if a.1=true then
    some 9221120237041090560
  else
    (m_bj a.2.1 a.2.2.1).bind fun h=>
    if h=0 then
      some 0
    else
      (m_o a.2.1 a.2.2.1).bind fun b=>
      (m_bx a.2.1 b.1 b.2 a.2.2.2 false g).bind fun i=>
      some i
def m_bz (b:Int) (c:Int):Option (Int):=
  (m_bh b).bind fun a=>
  (m_by a.1 a.2.1 a.2.2.1 a.2.2.2 c).bind fun d=>
  some d
def m_b0 (a:Int):Option (Int):=
  (m_bz (ws .i64 (wc .i64 (wrc a 19)) 9) 0).bind fun b=>
  some b
def m_b1 (a:Int) (c:Int):Option (Int):=
  (m_a c 4).bind fun b=>
  if b=1 then
    some (wor .u64 (wand .u64 a 9227875636482146303) (wslc .u64 (wa .u64 1019 (wand .u64 (wsrc .u64 a 52) 7)) 52))
  else
    if b=2 then
      some (wor .u64 (wand .u64 a 9225623836668461056) (wslc .u64 (wa .u64 983 (wrc (wsrc .u64 a 8) 81)) 52))
    else
      if b=3 then
        (m_d a).bind fun d=>
        if d=true then
          some a
        else
          some 0
      else
        (m_b0 a).bind fun e=>
        some e
def m_b2 (a:Int) (b:LI) (c:LI):Option ((LI×LI×Int)⊕((LI×LI))):=
  some (.inl (b,c,wa .i64 a 1))
def m_b3 (d:Int) (f:LI) (g:Int) (h:Int):LI×LI×Int→Option ((LI×LI×Int)⊕((LI×LI))):=fun (b,c,a)=>
  if a < d then
    (m_c f (wa .i64 (wa .i64 100 (wm .i64 g d)) a)).bind fun e=>
    if (0:Int) < (wrc (wsrc .u64 e 40) 3) then
      (app b [a]).bind fun i=>
      (m_b1 e h).bind fun j=>
      (app c [j]).bind fun k=>
      m_b2 a i k
    else
      m_b2 a b c
  else
    some (.inr (b,c))
def m_b4 (f:Int) (g:Int) (h:LI) (i:Int):LI×LI×LI×Int→Option ((LI×LI×LI×Int)⊕((LI×LI×LI))):=fun (b,c,d,a)=>
  if a < f then
    (loop (m_b3 g h a i) (c,d,0)).bind fun (e,j)=>
    (app b [(e.length:Int)]).bind fun k=>
    some (.inl (k,e,j,wa .i64 a 1))
  else
    some (.inr (b,c,d))
def m_b5 (c:LI) (a:Int) (b:Int) (d:Int):Option (Int×Int×LI×LI×LI):=
  (loop (m_b4 b a c d) ([0],[],[],0)).bind fun (e,f,g)=>
  some (a,b,e,f,g)
def m_b6 (a:Int) (b:Int) (c:Int):Option (Bool):=
  some ((decide (b≤a)) && (decide (a≤c)))
def m_b7 (a:Int):Option (Bool):=
  some (!(decide (a=a)))
def m_b8 (a:Int) (b:Int):Option (Bool):=
  (m_b7 a).bind fun c=>
  (if c=true then
    (m_b7 b).bind fun d=>
    some (!(d))
  else
    some false).bind fun e=>
  some (e || (decide (a < b)))
def m_b9 (b:LI):Int→Option ((Int)⊕(Unit⊕Unit)):=fun a=>
  if (0:Int) < a then
    (getI b a).bind fun c=>
    (getI b (ws .i64 a 1)).bind fun d=>
    (m_b8 c d).bind fun e=>
    if e=true then
      some (.inr (.inr ()))
    else
      some (.inl (ws .i64 a 1))
  else
    some (.inr (.inl ()))
def m_ca (a:LI):Option (Bool):=
  (loop (m_b9 a) (ws .i64 (a.length:Int) 1)).bind (fun o=>match o with
    | .inl ()=>
      some true
    | .inr ()=>
      some false)
end M
