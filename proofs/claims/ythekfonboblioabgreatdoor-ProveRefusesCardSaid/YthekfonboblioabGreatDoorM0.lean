/- Models of functions of the program, printed. -/
import Derived.Test.YthekfonboblioabGreatDoorTm
namespace M
open Sx
set_option linter.unusedVariables false
def m_a (a:Int) (b:Int):Option (Int):=
  (wr (wc .u64 a) (wc .u64 b)).bind fun c=>
  some (wc .i64 c)
def m_b (a:Int):Option (Int):=
  some (wxor .u64 (wm .u64 (wxor .u64 a (wsrc .u64 a 31)) 13787848793156543929) (wsrc .u64 (wm .u64 (wxor .u64 a (wsrc .u64 a 31)) 13787848793156543929) 29))
def m_c (a:LI) (b:Int):Option (Int):=
  if (0:Int) < (a.length:Int) then
    (m_a b (a.length:Int)).bind fun c=>
    (getI a c).bind fun d=>
    m_b (wxor .u64 (wm .u64 (wc .u64 (wa .i64 b 1)) 11400714819323198485) d)
  else
    m_b (wm .u64 (wc .u64 (wa .i64 b 1)) 11400714819323198485)
def m_d (a:Int):Option (Bool):=
  some (!(decide ((wand .u64 (wsrc .u64 a 52) 2047)=2047)))
def m_e (c:Int) (d:LI):LI×Int→Option ((LI×Int)⊕(LI)):=fun (b,a)=>
  if a < c then
    (getI d a).bind fun e=>
    (app b [e]).bind fun f=>
    some (.inl (f,wa .i64 a 1))
  else
    some (.inr b)
def m_f (b:LI):Int→Option ((Int)⊕(Int)):=fun a=>
  (if (0:Int) < a then
    (getI b (ws .i64 a 1)).bind fun c=>
    some (decide (c=0))
  else
    some false).bind fun d=>
  if d=true then
    some (.inl (ws .i64 a 1))
  else
    some (.inr a)
def m_g (a:LI):Option (LI):=
  (loop (m_f a) (a.length:Int)).bind fun b=>
  (loop (m_e b a) ([],0)).bind fun c=>
  some c
def m_h (b:Bool) (c:LI):Option (Bool×LI):=
  (m_g c).bind fun a=>
  some ((b && (decide ((0:Int) < (a.length:Int)))),a)
def m_i (c:Int) (a:Int):Option (Bool×LI):=
  (m_h (decide (c < 0)) [wc .u32 a,wc .u32 (wsrc .u64 a 32)]).bind fun b=>
  some (b.1,b.2)
def m_j (a:Int):Option (Bool×LI):=
  if a < 0 then
    m_i a (wa .u64 (wc .u64 (wneg .i64 (wa .i64 a 1))) 1)
  else
    m_i a (wc .u64 a)
def m_k (b:Bool) (c:LI):Option (Bool×LI):=
  (m_h b c).bind fun a=>
  some (a.1,a.2)
def m_l:Option (Bool×Bool×Int):=
  some (true,false,0)
def m_m (b:LI):Int→Option ((Int)⊕(Unit⊕Int)):=fun a=>
  if a < (b.length:Int) then
    (getI b a).bind fun c=>
    if c=0 then
      some (.inl (wa .i64 a 1))
    else
      (getI b a).bind fun d=>
      (tz32 d).bind fun e=>
      some (.inr (.inr (wa .i64 (wm .i64 32 a) e)))
  else
    some (.inr (.inl ()))
def m_n (d:Bool) (a:LI):Option (Int):=
  (m_g a).bind fun b=>
  (loop (m_m b) 0).bind (fun o=>match o with
    | .inl ()=>
      some 0
    | .inr c=>
      some c)
def m_o (c:Bool) (b:LI):Option (Bool×LI):=
  (m_h false b).bind fun a=>
  some (a.1,a.2)
def m_p (c:LI) (f:Int):LI×Int×Int→Option ((LI×Int×Int)⊕((LI×Int))):=fun (d,a,b)=>
  if b < (c.length:Int) then
    (getI c b).bind fun g=>
    (wshl .u64 (wc .u64 g) (wrc f 32)).bind fun e=>
    (app d [wc .u32 (wor .u64 a e)]).bind fun h=>
    some (.inl (h,wsrc .u64 (wor .u64 a e) 32,wa .i64 b 1))
  else
    some (.inr (d,a))
def m_q (b:LI) (a:Int):Option (LI):=
  (mkL 0 (wqc .i64 a 32)).bind fun c=>
  (loop (m_p b a) (c,0,0)).bind fun (d,e)=>
  (app d [wc .u32 e]).bind fun f=>
  some f
def m_r (a:Int) (b:Int) (c:LI) (d:Int) (e:Bool):Option ((Bool×LI×Int)⊕((Bool×LI))):=
  (wshr .u64 a (wrc b 32)).bind fun f=>
  (app c [wc .u32 f]).bind fun g=>
  some (.inl (e,g,wa .i64 d 1))
def m_s (a:Int) (b:Int) (e:LI) (c:LI) (f:Bool) (d:Int):Option ((Bool×LI×Int)⊕((Bool×LI))):=
  (if a=(wqc .i64 b 32) then
    (getI e a).bind fun g=>
    (wshl .u32 1 (wrc b 32)).bind fun h=>
    some (!(decide ((wand .u32 g (ws .u32 h 1))=0)))
  else
    some false).bind fun i=>
  if i=true then
    m_r d b c a true
  else
    m_r d b c a f
def m_t (a:LI) (e:Int):Bool×LI×Int→Option ((Bool×LI×Int)⊕((Bool×LI))):=fun (c,d,b)=>
  if b < (a.length:Int) then
    (getI a b).bind fun f=>
    if (wa .i64 b 1) < (a.length:Int) then
      (getI a (wa .i64 b 1)).bind fun g=>
      m_s b e a d c (wor .u64 (wc .u64 f) (wslc .u64 (wc .u64 g) 32))
    else
      m_s b e a d c (wc .u64 f)
  else
    some (.inr (c,d))
def m_u (d:Int) (b:LI):Bool×Int→Option ((Bool×Int)⊕(Bool)):=fun (c,a)=>
  if ((decide (a < (wqc .i64 d 32))) && (decide (a < (b.length:Int))))=true then
    (if c=true then
      some true
    else
      (getI b a).bind fun e=>
      some (!(decide (e=0)))).bind fun f=>
    some (.inl (f,wa .i64 a 1))
  else
    some (.inr c)
def m_v (b:LI) (a:Int):Option (LI×Bool):=
  (loop (m_u a b) (false,0)).bind fun c=>
  (loop (m_t b a) (c,[],wqc .i64 a 32)).bind fun (d,e)=>
  some (e,d)
def m_w (b:Bool) (c:LI):Option (Bool×LI):=
  (m_h (!(b)) c).bind fun a=>
  some (a.1,a.2)
def m_x (b:LI) (c:Int) (a:Int):Option ((LI×Int×Int)⊕((LI×Int))):=
  (app b [wc .u32 a]).bind fun d=>
  some (.inl (d,wsrc .u64 a 32,wa .i64 c 1))
def m_y (a:Int) (b:LI) (c:LI) (d:Int):Option ((LI×Int×Int)⊕((LI×Int))):=
  if a < (b.length:Int) then
    (getI b a).bind fun e=>
    m_x c a (wa .u64 d (wc .u64 e))
  else
    m_x c a d
def m_z (b:LI) (c:LI):LI×Int×Int→Option ((LI×Int×Int)⊕((LI×Int))):=fun (d,e,a)=>
  if a < (imax (b.length:Int) (c.length:Int)) then
    if a < (b.length:Int) then
      (getI b a).bind fun f=>
      m_y a c d (wa .u64 e (wc .u64 f))
    else
      m_y a c d e
  else
    some (.inr (d,e))
def m_0 (a:LI) (b:LI):Option (LI):=
  (loop (m_z a b) ([],0,0)).bind fun (c,d)=>
  (app c [wc .u32 d]).bind fun e=>
  some e
end M
