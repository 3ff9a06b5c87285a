/- Models of functions of the program, printed. -/
import Derived.Test.YtoahkigijbeegaaGreatDoorTm
namespace M
open Sx
set_option linter.unusedVariables false
def m_a (a:Int) (b:Int):Option (Int):=
  (wr (wc .u64 a) (wc .u64 b)).bind fun c=>
  some (wc .i64 c)
def m_b (a:Int):Option (Int):=
  some (wxor .u64 (wm .u64 (wxor .u64 a (wsrc .u64 a 31)) 13787848793156543929) (wsrc .u64 (wm .u64 (wxor .u64 a (wsrc .u64 a 31)) 13787848793156543929) 29))
def m_c (a:LI) (b:Int):Option (Int):=
  if (0:Int) < (a.length:Int) then
    (m_a b (a.length:Int)).bind fun c=>
    (getI a c).bind fun d=>
    m_b (wxor .u64 (wm .u64 (wc .u64 (wa .i64 b 1)) 11400714819323198485) d)
  else
    m_b (wm .u64 (wc .u64 (wa .i64 b 1)) 11400714819323198485)
def m_d (a:Int):Option (Bool):=
  some (!(decide ((wand .u64 (wsrc .u64 a 52) 2047)=2047)))
def m_e (c:Int) (d:LI):LI×Int→Option ((LI×Int)⊕(LI)):=fun (b,a)=>
  if a < c then
    (getI d a).bind fun e=>
    (app b [e]).bind fun f=>
    some (.inl (f,wa .i64 a 1))
  else
    some (.inr b)
def m_f (b:LI):Int→Option ((Int)⊕(Int)):=fun a=>
  (if (0:Int) < a then
    (getI b (ws .i64 a 1)).bind fun c=>
    some (decide (c=0))
  else
    some false).bind fun d=>
  if d=true then
    some (.inl (ws .i64 a 1))
  else
    some (.inr a)
def m_g (a:LI):Option (LI):=
  (loop (m_f a) (a.length:Int)).bind fun b=>
  (loop (m_e b a) ([],0)).bind fun c=>
  some c
def m_h (b:Bool) (c:LI):Option (Bool×LI):=
  (m_g c).bind fun a=>
  some ((b && (decide ((0:Int) < (a.length:Int)))),a)
def m_i (c:Int) (a:Int):Option (Bool×LI):=
  (m_h (decide (c < 0)) [wc .u32 a,wc .u32 (wsrc .u64 a 32)]).bind fun b=>
  some (b.1,b.2)
def m_j (a:Int):Option (Bool×LI):=
  if a < 0 then
    m_i a (wa .u64 (wc .u64 (wneg .i64 (wa .i64 a 1))) 1)
  else
    m_i a (wc .u64 a)
def m_k (b:Bool) (c:LI):Option (Bool×LI):=
  (m_h b c).bind fun a=>
  some (a.1,a.2)
def m_l:Option (Bool×Bool×Int):=
  some (true,false,0)
def m_m (b:LI):Int→Option ((Int)⊕(Unit⊕Int)):=fun a=>
  if a < (b.length:Int) then
    (getI b a).bind fun c=>
    if c=0 then
      some (.inl (wa .i64 a 1))
    else
      (getI b a).bind fun d=>
      (tz32 d).bind fun e=>
      some (.inr (.inr (wa .i64 (wm .i64 32 a) e)))
  else
    some (.inr (.inl ()))
def m_n (d:Bool) (a:LI):Option (Int):=
  (m_g a).bind fun b=>
  (loop (m_m b) 0).bind (fun o=>match o with
    | .inl ()=>
      some 0
    | .inr c=>
      some c)
def m_o (c:Bool) (b:LI):Option (Bool×LI):=
  (m_h false b).bind fun a=>
  some (a.1,a.2)
def m_p (c:LI) (f:Int):LI×Int×Int→Option ((LI×Int×Int)⊕((LI×Int))):=fun (d,a,b)=>
  if b < (c.length:Int) then
    (getI c b).bind fun g=>
    (wshl .u64 (wc .u64 g) (wrc f 32)).bind fun e=>
    (app d [wc .u32 (wor .u64 a e)]).bind fun h=>
    some (.inl (h,wsrc .u64 (wor .u64 a e) 32,wa .i64 b 1))
  else
    some (.inr (d,a))
def m_q (b:LI) (a:Int):Option (LI):=
  (mkL 0 (wqc .i64 a 32)).bind fun c=>
  (loop (m_p b a) (c,0,0)).bind fun (d,e)=>
  (app d [wc .u32 e]).bind fun f=>
  some f
def m_r (a:Int) (b:Int) (c:LI) (d:Int) (e:Bool):Option ((Bool×LI×Int)⊕((Bool×LI))):=
  (wshr .u64 a (wrc b 32)).bind fun f=>
  (app c [wc .u32 f]).bind fun g=>
  some (.inl (e,g,wa .i64 d 1))
def m_s (a:Int) (b:Int) (e:LI) (c:LI) (f:Bool) (d:Int):Option ((Bool×LI×Int)⊕((Bool×LI))):=
  (if a=(wqc .i64 b 32) then
    (getI e a).bind fun g=>
    (wshl .u32 1 (wrc b 32)).bind fun h=>
    some (!(decide ((wand .u32 g (ws .u32 h 1))=0)))
  else
    some false).bind fun i=>
  if i=true then
    m_r d b c a true
  else
    m_r d b c a f
def m_t (a:LI) (e:Int):Bool×LI×Int→Option ((Bool×LI×Int)⊕((Bool×LI))):=fun (c,d,b)=>
  if b < (a.length:Int) then
    (getI a b).bind fun f=>
    if (wa .i64 b 1) < (a.length:Int) then
      (getI a (wa .i64 b 1)).bind fun g=>
      m_s b e a d c (wor .u64 (wc .u64 f) (wslc .u64 (wc .u64 g) 32))
    else
      m_s b e a d c (wc .u64 f)
  else
    some (.inr (c,d))
def m_u (d:Int) (b:LI):Bool×Int→Option ((Bool×Int)⊕(Bool)):=fun (c,a)=>
  if ((decide (a < (wqc .i64 d 32))) && (decide (a < (b.length:Int))))=true then
    (if c=true then
      some true
    else
      (getI b a).bind fun e=>
      some (!(decide (e=0)))).bind fun f=>
    some (.inl (f,wa .i64 a 1))
  else
    some (.inr c)
def m_v (b:LI) (a:Int):Option (LI×Bool):=
  (loop (m_u a b) (false,0)).bind fun c=>
  (loop (m_t b a) (c,[],wqc .i64 a 32)).bind fun (d,e)=>
  some (e,d)
def m_w (b:Bool) (c:LI):Option (Bool×LI):=
  (m_h (!(b)) c).bind fun a=>
  some (a.1,a.2)
def m_x (b:LI) (c:Int) (a:Int):Option ((LI×Int×Int)⊕((LI×Int))):=
  (app b [wc .u32 a]).bind fun d=>
  some (.inl (d,wsrc .u64 a 32,wa .i64 c 1))
def m_y (a:Int) (b:LI) (c:LI) (d:Int):Option ((LI×Int×Int)⊕((LI×Int))):=
  if a < (b.length:Int) then
    (getI b a).bind fun e=>
    m_x c a (wa .u64 d (wc .u64 e))
  else
    m_x c a d
def m_z (b:LI) (c:LI):LI×Int×Int→Option ((LI×Int×Int)⊕((LI×Int))):=fun (d,e,a)=>
  if a < (imax (b.length:Int) (c.length:Int)) then
    if a < (b.length:Int) then
      (getI b a).bind fun f=>
      m_y a c d (wa .u64 e (wc .u64 f))
    else
      m_y a c d e
  else
    some (.inr (d,e))
def m_0 (a:LI) (b:LI):Option (LI):=
  (loop (m_z a b) ([],0,0)).bind fun (c,d)=>
  (app c [wc .u32 d]).bind fun e=>
  some e
def m_1 (b:LI) (c:LI):Int→Option ((Int)⊕(Unit⊕Int)):=fun a=>
  if (0:Int)≤a then
    (getI b a).bind fun d=>
    (getI c a).bind fun e=>
    if d=e then
      some (.inl (ws .i64 a 1))
    else
      (getI b a).bind fun f=>
      (getI c a).bind fun g=>
      if f < g then
        some (.inr (.inr (-1)))
      else
        some (.inr (.inr 1))
  else
    some (.inr (.inl ()))
def m_2 (a:LI) (b:LI):Option (Int):=
  if (a.length:Int)=(b.length:Int) then
    (loop (m_1 a b) (ws .i64 (a.length:Int) 1)).bind (fun o=>match o with
      | .inl ()=>
        some 0
      | .inr c=>
        some c)
  else
    if (a.length:Int) < (b.length:Int) then
      some (-1)
    else
      some 1
def m_3 (b:LI) (c:Int) (a:Int):Option ((LI×Int×Int)⊕(LI)):=
  (app b [wc .u32 a]).bind fun d=>
  some (.inl (d,wsrc .u64 a 63,wa .i64 c 1))
def m_4 (c:LI) (d:LI):LI×Int×Int→Option ((LI×Int×Int)⊕(LI)):=fun (b,e,a)=>
  if a < (c.length:Int) then
    (getI c a).bind fun f=>
    if a < (d.length:Int) then
      (getI d a).bind fun g=>
      m_3 b a (ws .u64 (ws .u64 (wc .u64 f) e) (wc .u64 g))
    else
      m_3 b a (ws .u64 (wc .u64 f) e)
  else
    some (.inr b)
def m_5 (a:LI) (b:LI):Option (LI):=
  (loop (m_4 a b) ([],0,0)).bind fun c=>
  some c
def m_6 (c:Bool) (h:LI) (d:Bool) (i:LI):Option (Bool×LI):=
  (m_g h).bind fun a=>
  (m_g i).bind fun b=>
  if (c == d)=true then
    (m_0 a b).bind fun j=>
    (m_h c j).bind fun e=>
    some (e.1,e.2)
  else
    (m_2 a b).bind fun k=>
    if (0:Int)≤k then
      (m_5 a b).bind fun l=>
      (m_h c l).bind fun f=>
      some (f.1,f.2)
    else
      (m_5 b a).bind fun m=>
      (m_h d m).bind fun g=>
      some (g.1,g.2)
def m_7 (c:Bool) (d:LI) (e:Bool) (f:LI):Option (Bool×LI):=
  (m_w e f).bind fun a=>
  (m_6 c d a.1 a.2).bind fun b=>
  some (b.1,b.2)
def m_8 (a:Bool) (b:LI):Option (Bool×LI):=
  some (a,b)
def m_9 (h:Bool) (i:LI) (c:Int):Option (Bool×LI):=
  (m_k h i).bind fun a=>
  if (0:Int)≤c then
    (m_q a.2 c).bind fun j=>
    (m_h a.1 j).bind fun d=>
    some (d.1,d.2)
  else
    (m_v a.2 (wneg .i64 c)).bind fun e=>
    (m_h a.1 e.1).bind fun b=>
    if (a.1 && e.2)=true then
      (m_j 1).bind fun f=>
      (m_7 b.1 b.2 f.1 f.2).bind fun g=>
      m_8 g.1 g.2
    else
      m_8 b.1 b.2
def m_ba:Int×Bool×LI→Option ((Int×Bool×LI)⊕((Int×Bool×LI))):=fun (a,b,c)=>
  if (1048576:Int) < a then
    (m_9 b c (-1048576)).bind fun d=>
    some (.inl (ws .i64 a 1048576,d.1,d.2))
  else
    some (.inr (a,b,c))
def m_bb (b:Bool) (c:LI) (d:Int):Option (Bool×LI):=
  (loop (m_ba) (d,b,c)).bind fun (e,f,g)=>
  (m_9 f g (wneg .i64 e)).bind fun a=>
  some (a.1,a.2)
def m_bc (a:Int) (b:Int):Option (Int):=
  (getI [0,1,2,2,3,3,3,3,4,4,4,4,4,4,4,4,5,5,5,5,5,5,5,5,5,5,5,5,5,5,5,5,6,6,6,6,6,6,6,6,6,6,6,6,6,6,6,6,6,6,6,6,6,6,6,6,6,6,6,6,6,6,6,6,7,7,7,7,7,7,7,7,7,7,7,7,7,7,7,7,7,7,7,7,7,7,7,7,7,7,7,7,7,7,7,7,7,7,7,7,7,7,7,7,7,7,7,7,7,7,7,7,7,7,7,7,7,7,7,7,7,7,7,7,7,7,7,7,8,8,8,8,8,8,8,8,8,8,8,8,8,8,8,8,8,8,8,8,8,8,8,8,8,8,8,8,8,8,8,8,8,8,8,8,8,8,8,8,8,8,8,8,8,8,8,8,8,8,8,8,8,8,8,8,8,8,8,8,8,8,8,8,8,8,8,8,8,8,8,8,8,8,8,8,8,8,8,8,8,8,8,8,8,8,8,8,8,8,8,8,8,8,8,8,8,8,8,8,8,8,8,8,8,8,8,8,8,8,8,8,8,8,8,8,8,8,8,8,8,8,8,8,8,8,8,8] (wc .u8 a)).bind fun c=>
  some (wa .i64 b (wc .i64 c))
def m_bd (a:Int) (b:Int):Option (Int):=
  if (256:Int)≤a then
    m_bc (wsrc .u32 a 8) (wa .i64 b 8)
  else
    m_bc a b
def m_be (a:Int):Option (Int):=
  if (65536:Int)≤a then
    m_bd (wsrc .u32 a 16) 16
  else
    m_bd a 0
def m_bf (e:Bool) (b:LI):Option (Int):=
  (m_g b).bind fun a=>
  if (a.length:Int)=0 then
    some 0
  else
    (getI a (ws .i64 (a.length:Int) 1)).bind fun c=>
    (m_be c).bind fun d=>
    some (wa .i64 (wm .i64 32 (ws .i64 (a.length:Int) 1)) d)
def m_bg (g:Bool) (i:LI) (b:Int):Option (Bool×Bool×LI×Int):=
  (m_k g i).bind fun a=>
  if (a.2.length:Int)=0 then
    some (false,false,[],0)
  else
    if (65536:Int) < b then
      (m_l).bind fun d=>
      some (d.1,d.2.1,[],d.2.2)
    else
      (m_n a.1 a.2).bind fun c=>
      (m_o a.1 a.2).bind fun h=>
      (m_bb h.1 h.2 c).bind fun e=>
      (if (wa .i64 b c) < (-65536) then
        some true
      else
        (m_bf e.1 e.2).bind fun j=>
        some (decide ((65536:Int) < (wa .i64 (wa .i64 b c) j)))).bind fun k=>
      if k=true then
        (m_l).bind fun f=>
        some (f.1,f.2.1,[],f.2.2)
      else
        some (false,g,e.2,wa .i64 b c)
def m_bh (c:Int):Option (Bool×Bool×LI×Int):=
  (m_j c).bind fun b=>
  (m_bg b.1 b.2 0).bind fun a=>
  some (a.1,a.2.1,a.2.2.1,a.2.2.2)
def m_bi (c:Bool) (d:Bool) (e:LI) (f:Int):Option (Bool×Bool×LI×Int):=
  if c=true then
    (m_l).bind fun b=>
    some (b.1,b.2.1,[],b.2.2)
  else
    (m_bg d e f).bind fun a=>
    some (a.1,a.2.1,a.2.2.1,a.2.2.2)
def m_bj (b:Bool) (c:LI):Option (Int):=
  (m_k b c).bind fun a=>
  if (a.2.length:Int)=0 then
    some 0
  else
    if a.1=true then
      some (-1)
    else
      some 1
def m_bk (b:Bool) (a:Int):Option (Int):=
  if b=true then
    some (wor .u64 a 9223372036854775808)
  else
    some a
def m_bl (a:Bool) (b:Int):Option (Int):=
  if (((decide (b=3)) || ((decide (b=1)) && (!(a)))) || ((decide (b=2)) && a))=true then
    (m_bk a 9218868437227405311).bind fun c=>
    some c
  else
    (m_bk a 9218868437227405312).bind fun d=>
    some d
def m_bm (e:Bool) (a:LI) (b:Int):Option (Bool):=
  (m_g a).bind fun c=>
  (m_v c b).bind fun d=>
  some d.2
def m_bn (b:Bool) (c:Int) (d:Bool) (a:Int):Option (Bool):=
  if a=1 then
    some b
  else
    if a=2 then
      some (!(b))
    else
      if a=3 then
        some false
      else
        some ((decide ((0:Int) < c)) || ((decide (c=0)) && d))
def m_bo (a:Bool) (b:LI):Option (Bool×LI):=
  some (a,b)
def m_bp (a:Bool×LI) (d:Bool) (e:Int) (f:Int):Option (Bool×LI):=
  (m_bj a.1 a.2).bind fun g=>
  (if g=0 then
    some false
  else
    (m_n a.1 a.2).bind fun h=>
    some (decide (h=0))).bind fun i=>
  (m_bn d f i e).bind fun j=>
  if j=true then
    (m_j 1).bind fun b=>
    (m_6 a.1 a.2 b.1 b.2).bind fun c=>
    m_bo c.1 c.2
  else
    m_bo a.1 a.2
def m_bq (a:Bool×LI) (b:Bool) (c:Int) (d:Int):Option (Bool×LI):=
  m_bp a b c d
def m_br (a:Bool×LI) (b:Bool) (c:Int) (d:Int):Option (Bool×LI):=
  m_bq a b c d
def m_bs (c:Bool) (d:Bool) (e:LI) (b:Int) (h:Bool) (f:Int):Option (Bool×LI):=
  (m_bb d e b).bind fun a=>
  (m_bm d e b).bind fun i=>
  if ((!(i)) && (!(h)))=true then
    some (a.1,a.2)
  else
    if (0:Int) < b then
      (m_bb d e (ws .i64 b 1)).bind fun g=>
      (m_n g.1 g.2).bind fun j=>
      (if j=0 then
        (m_bj g.1 g.2).bind fun k=>
        some (!(decide (k=0)))
      else
        some false).bind fun l=>
      if l=true then
        (if h=true then
          some true
        else
          (m_bm d e (ws .i64 b 1)).bind fun m=>
          some m).bind fun n=>
        if n=true then
          m_br a c f 1
        else
          m_br a c f 0
      else
        m_bq a c f (-1)
    else
      m_bp a c f (-1)
def m_bt (b:Bool×LI):Int×Int→Option ((Int×Int)⊕(Int)):=fun (c,a)=>
  if a < (b.2.length:Int) then
    (getI b.2 a).bind fun d=>
    (wshl .u64 (wc .u64 d) (wm .i64 32 a)).bind fun e=>
    some (.inl (wor .u64 c e,wa .i64 a 1))
  else
    some (.inr c)
def m_bu (c:Bool) (d:LI):Option (Int×Bool):=
  (m_k c d).bind fun b=>
  if (2:Int) < (b.2.length:Int) then
    some (0,false)
  else
    (loop (m_bt b) (0,0)).bind fun a=>
    if b.1=true then
      if (9223372036854775808:Int) < a then
        some (0,false)
      else
        some (ws .i64 (wneg .i64 (wc .i64 (ws .u64 a 1))) 1,true)
    else
      if (9223372036854775807:Int) < a then
        some (0,false)
      else
        some (wc .i64 a,true)
def m_bv (b:Bool) (d:Int) (c:Int) (a:Int):Option (Int):=
  if ((decide ((4503599627370496:Int)≤a)) && (decide ((1024:Int) < (wa .i64 c 53))))=true then
    (m_bl b d).bind fun e=>
    some e
  else
    if (4503599627370496:Int)≤a then
      (m_bk b (wor .u64 (wslc .u64 (wc .u64 (wa .i64 c 1075)) 52) (wc .u64 (ws .i64 a 4503599627370496)))).bind fun f=>
      some f
    else
      (m_bk b (wc .u64 a)).bind fun g=>
      some g
def m_bw (a:Bool) (b:Int) (c:Int) (d:Int) (f:Bool) (g:LI):Option (Int):=
  (m_bu f g).bind fun e=>
  if e.1=9007199254740992 then
    m_bv a b (wa .i64 (imax (ws .i64 (ws .i64 (wa .i64 c d) 1) 52) (-1074)) 1) 4503599627370496
  else
    m_bv a b (imax (ws .i64 (ws .i64 (wa .i64 c d) 1) 52) (-1074)) e.1
def m_bx (c:Bool) (e:Bool) (f:LI) (a:Int) (i:Bool) (d:Int):Option (Int):=
  (m_bf e f).bind fun b=>
  if (1024:Int)≤(ws .i64 (wa .i64 a b) 1) then
    (m_bl c d).bind fun j=>
    some j
  else
    if a≤(imax (ws .i64 (ws .i64 (wa .i64 a b) 1) 52) (-1074)) then
      (m_bs c e f (ws .i64 (imax (ws .i64 (ws .i64 (wa .i64 a b) 1) 52) (-1074)) a) i d).bind fun g=>
      m_bw c d a b g.1 g.2
    else
      (m_9 e f (ws .i64 a (imax (ws .i64 (ws .i64 (wa .i64 a b) 1) 52) (-1074)))).bind fun h=>
      m_bw c d a b h.1 h.2
def m_by (c:Bool) (d:Bool) (e:LI) (f:Int) (g:Int):Option (Int):=
  (m_bi c d e f).bind fun a=>
  if a.1=true then
    some 9221120237041090560
  else
    (m_bj a.2.1 a.2.2.1).bind fun h=>
    if h=0 then
      some 0
    else
      (m_o a.2.1 a.2.2.1).bind fun b=>
      (m_bx a.2.1 b.1 b.2 a.2.2.2 false g).bind fun i=>
      some i
def m_bz (b:Int) (c:Int):Option (Int):=
  (m_bh b).bind fun a=>
  (m_by a.1 a.2.1 a.2.2.1 a.2.2.2 c).bind fun d=>
  some d
def m_b0 (a:Int):Option (Int):=
  (m_bz (ws .i64 (wc .i64 (wrc a 19)) 9) 0).bind fun b=>
  some b
def m_b1 (a:Int) (c:Int):Option (Int):=
  (m_a c 4).bind fun b=>
  if b=1 then
    some (wor .u64 (wand .u64 a 9227875636482146303) (wslc .u64 (wa .u64 1019 (wand .u64 (wsrc .u64 a 52) 7)) 52))
  else
    if b=2 then
      some (wor .u64 (wand .u64 a 9225623836668461056) (wslc .u64 (wa .u64 983 (wrc (wsrc .u64 a 8) 81)) 52))
    else
      if b=3 then
        (m_d a).bind fun d=>
        if d=true then
          some a
        else
          some 0
      else
        (m_b0 a).bind fun e=>
        some e
def m_b2 (a:Int) (b:LI) (c:LI):Option ((LI×LI×Int)⊕((LI×LI))):=
  some (.inl (b,c,wa .i64 a 1))
def m_b3 (d:Int) (f:LI) (g:Int) (h:Int):LI×LI×Int→Option ((LI×LI×Int)⊕((LI×LI))):=fun (b,c,a)=>
  if a < d then
    (m_c f (wa .i64 (wa .i64 100 (wm .i64 g d)) a)).bind fun e=>
    if (0:Int) < (wrc (wsrc .u64 e 40) 3) then
      (app b [a]).bind fun i=>
      (m_b1 e h).bind fun j=>
      (app c [j]).bind fun k=>
      m_b2 a i k
    else
      m_b2 a b c
  else
    some (.inr (b,c))
def m_b4 (f:Int) (g:Int) (h:LI) (i:Int):LI×LI×LI×Int→Option ((LI×LI×LI×Int)⊕((LI×LI×LI))):=fun (b,c,d,a)=>
  if a < f then
    (loop (m_b3 g h a i) (c,d,0)).bind fun (e,j)=>
    (app b [(e.length:Int)]).bind fun k=>
    some (.inl (k,e,j,wa .i64 a 1))
  else
    some (.inr (b,c,d))
def m_b5 (c:LI) (a:Int) (b:Int) (d:Int):Option (Int×Int×LI×LI×LI):=
  (loop (m_b4 b a c d) ([0],[],[],0)).bind fun (e,f,g)=>
  some (a,b,e,f,g)
def m_b6 (b:LI):Int→Option ((Int)⊕(Unit⊕Unit)):=fun a=>
  if a < (b.length:Int) then
    (getI b a).bind fun c=>
    (m_d c).bind fun d=>
    if d=true then
      some (.inl (wa .i64 a 1))
    else
      some (.inr (.inr ()))
  else
    some (.inr (.inl ()))
def m_b7 (a:LI):Option (Bool):=
  (loop (m_b6 a) 0).bind (fun o=>match o with
    | .inl ()=>
      some true
    | .inr ()=>
      some false)
def m_b8 (c:LI) (d:Int) (b:LI) (e:Int):Int→Option ((Int)⊕(Unit⊕Unit)):=fun a=>
  (getI c (wa .i64 d 1)).bind fun f=>
  if a < f then
    (getI b a).bind fun g=>
    (if g < 0 then
      some true
    else
      (getI b a).bind fun h=>
      some (decide (e≤h))).bind fun i=>
    (if i=true then
      some true
    else
      (getI c d).bind fun j=>
      (if j < a then
        (getI b a).bind fun k=>
        (getI b (ws .i64 a 1)).bind fun l=>
        some (decide (k≤l))
      else
        some false).bind fun m=>
      some m).bind fun n=>
    if n=true then
      some (.inr (.inr ()))
    else
      some (.inl (wa .i64 a 1))
  else
    some (.inr (.inl ()))
def m_b9 (c:Int) (b:LI) (d:LI) (e:Int):Int→Option ((Int)⊕(Unit⊕Unit)):=fun a=>
  if a < c then
    (getI b a).bind fun f=>
    (loop (m_b8 b a d e) f).bind (fun o=>match o with
      | .inl ()=>
        some (.inl (wa .i64 a 1))
      | .inr ()=>
        some (.inr (.inr ())))
  else
    some (.inr (.inl ()))
def m_ca (c:Int) (b:LI):Int→Option ((Int)⊕(Unit⊕Unit)):=fun a=>
  if a < c then
    (getI b a).bind fun d=>
    (getI b (wa .i64 a 1)).bind fun e=>
    if e < d then
      some (.inr (.inr ()))
    else
      some (.inl (wa .i64 a 1))
  else
    some (.inr (.inl ()))
def m_cb (d:Int) (a:Int) (b:LI) (c:LI) (e:LI):Option (Int):=
  if (((((decide (d < 0)) || (decide ((200:Int) < d))) || (decide (a < 0))) || (decide ((200:Int) < a))) || (decide ((10000:Int) < (c.length:Int))))=true then
    some 6
  else
    (if ((!(decide ((e.length:Int)=(c.length:Int)))) || (!(decide ((b.length:Int)=(wa .i64 a 1)))))=true then
      some true
    else
      (getI b 0).bind fun f=>
      some (!(decide (f=0)))).bind fun g=>
    (if g=true then
      some true
    else
      (getI b a).bind fun h=>
      some (!(decide (h=(c.length:Int))))).bind fun i=>
    if i=true then
      some 1
    else
      (loop (m_ca a b) 0).bind (fun o=>match o with
        | .inl ()=>
          (loop (m_b9 a b c d) 0).bind (fun o=>match o with
            | .inl ()=>
              (m_b7 e).bind fun j=>
              if j=true then
                some 0
              else
                some 4
            | .inr ()=>
              some 1)
        | .inr ()=>
          some 1)
def m_cc (b:LI) (c:Int) (d:LI) (e:Int) (f:LI):Int→Option ((Int)⊕(Unit⊕Int)):=fun a=>
  (getI b (wa .i64 c 1)).bind fun g=>
  if a < g then
    (getI d a).bind fun h=>
    if h=e then
      (getI f a).bind fun i=>
      some (.inr (.inr i))
    else
      some (.inl (wa .i64 a 1))
  else
    some (.inr (.inl ()))
def m_cd (f:Int) (c:Int) (b:LI) (d:LI) (e:LI) (g:Int) (a:Int):Option (Int):=
  (m_cb f c b d e).bind fun h=>
  if (((!(decide (h=0))) || (decide (a < 0))) || (decide (c≤a)))=true then
    some 0
  else
    (getI b a).bind fun i=>
    (loop (m_cc b a d g e) i).bind (fun o=>match o with
      | .inl ()=>
        some 0
      | .inr j=>
        some j)
def m_ce (a:Int):Option (Bool):=
  some (!(decide ((wand .u64 a 9223372036854775808)=0)))
def m_cf (c:Int) (b:Int) (d:Int):Option (Bool×Bool×LI×Int):=
  (m_ce c).bind fun e=>
  (m_bg e [wc .u32 b,wc .u32 (wsrc .u64 b 32)] d).bind fun a=>
  some (a.1,a.2.1,a.2.2.1,a.2.2.2)
def m_cg (a:Int):Option (Bool×Bool×LI×Int):=
  (m_d a).bind fun c=>
  if c=true then
    if (0:Int) < (wc .i64 (wand .u64 (wsrc .u64 a 52) 2047)) then
      m_cf a (wor .u64 (wand .u64 a 4503599627370495) 4503599627370496) (ws .i64 (wc .i64 (wand .u64 (wsrc .u64 a 52) 2047)) 1075)
    else
      m_cf a (wand .u64 a 4503599627370495) (-1074)
  else
    (m_l).bind fun b=>
    some (b.1,b.2.1,[],b.2.2)
def m_ch (d:Bool) (e:Bool) (f:LI) (g:Int):Option (Bool×Bool×LI×Int):=
  (m_bi d e f g).bind fun a=>
  if a.1=true then
    some (a.1,a.2.1,a.2.2.1,a.2.2.2)
  else
    (m_o a.2.1 a.2.2.1).bind fun c=>
    (m_bg c.1 c.2 a.2.2.2).bind fun b=>
    some (b.1,b.2.1,b.2.2.1,b.2.2.2)
def m_ci (a:Int) (b:Bool) (c:LI) (d:Int):Option ((Bool×LI×Int×Int)⊕((Bool×LI×Int)⊕(Bool×Bool×Int))):=
  some (.inl (b,c,d,wa .i64 a 1))
def m_cj (a:Int) (b:Bool) (c:LI) (d:Int):Option ((Bool×LI×Int×Int)⊕((Bool×LI×Int)⊕(Bool×Bool×Int))):=
  m_ci a b c d
def m_ck (a:Int) (b:Bool) (c:LI) (d:Int):Option ((Bool×LI×Int×Int)⊕((Bool×LI×Int)⊕(Bool×Bool×Int))):=
  m_cj a b c d
def m_cl (h:List (Bool×Bool×LI×Int)):Bool×LI×Int×Int→Option ((Bool×LI×Int×Int)⊕((Bool×LI×Int)⊕(Bool×Bool×Int))):=fun (d,e,b,c)=>
  if c < (h.length:Int) then
    (getI h c).bind fun f=>
    (m_bi f.1 f.2.1 f.2.2.1 f.2.2.2).bind fun a=>
    if a.1=true then
      (m_l).bind fun g=>
      some (.inr (.inr (g.1,g.2.1,g.2.2)))
    else
      (m_bj a.2.1 a.2.2.1).bind fun m=>
      if m=0 then
        m_ci c d e b
      else
        (m_bj d e).bind fun n=>
        if n=0 then
          m_cj c a.2.1 a.2.2.1 a.2.2.2
        else
          if b≤a.2.2.2 then
            (m_9 a.2.1 a.2.2.1 (ws .i64 a.2.2.2 b)).bind fun i=>
            (m_6 d e i.1 i.2).bind fun j=>
            m_ck c j.1 j.2 b
          else
            (m_9 d e (ws .i64 b a.2.2.2)).bind fun k=>
            (m_6 k.1 k.2 a.2.1 a.2.2.1).bind fun l=>
            m_ck c l.1 l.2 a.2.2.2
  else
    some (.inr (.inl (d,e,b)))
def m_cm (b:List (Bool×Bool×LI×Int)):Option (Bool×Bool×LI×Int):=
  (loop (m_cl b) (false,[],0,0)).bind (fun o=>match o with
    | .inl (c,d,e)=>
      (m_bg c d e).bind fun a=>
      some (a.1,a.2.1,a.2.2.1,a.2.2.2)
    | .inr (f,g,h)=>
      some (f,g,[],h))
def m_cn (b:LI) (c:Int) (d:LI) (e:Int):Int→Option ((Int)⊕(Unit⊕Unit)):=fun a=>
  (getI b (wa .i64 c 1)).bind fun f=>
  if a < f then
    (getI d a).bind fun g=>
    if g=e then
      some (.inr (.inr ()))
    else
      some (.inl (wa .i64 a 1))
  else
    some (.inr (.inl ()))
def m_co (d:Int) (e:Int) (c:LI) (f:LI) (h:LI) (b:Int) (a:Int):Option (Bool):=
  if ((((decide (b < 0)) || (decide (d≤b))) || (decide (a < 0))) || (decide (e≤a)))=true then
    some false
  else
    (getI c a).bind fun g=>
    (loop (m_cn c a f b) g).bind (fun o=>match o with
      | .inl ()=>
        some false
      | .inr ()=>
        some true)
def m_cp (a:Int) (b:LI) (c:LI):Option ((LI×LI×Int)⊕((LI×LI))):=
  some (.inl (b,c,wa .i64 a 1))
def m_cq (a:Int) (b:List (Bool×Bool×LI×Int)):Option (((List (Bool×Bool×LI×Int))×Int)⊕(((List (Bool×Bool×LI×Int))))):=
  some (.inl (b,wa .i64 a 1))
def m_cr (g:Int) (e:Int) (b:Int×Int×LI×LI×LI):(List (Bool×Bool×LI×Int))×Int→Option (((List (Bool×Bool×LI×Int))×Int)⊕(((List (Bool×Bool×LI×Int))))):=fun (f,a)=>
  if a < g then
    if a=e then
      m_cq a f
    else
      (m_cd b.1 b.2.1 b.2.2.1 b.2.2.2.1 b.2.2.2.2 (imax e a) (imin e a)).bind fun h=>
      (m_cg h).bind fun c=>
      (m_ch c.1 c.2.1 c.2.2.1 c.2.2.2).bind fun d=>
      (app f [(d.1,d.2.1,d.2.2.1,d.2.2.2)]).bind fun i=>
      m_cq a i
  else
    some (.inr f)
def m_cs (a:Int) (b:LI) (c:LI):Option ((LI×LI×Int)⊕((LI×LI))):=
  m_cp a b c
def m_ct (h:Int) (g:Int) (a:Int×Int×LI×LI×LI):LI×LI×Int→Option ((LI×LI×Int)⊕((LI×LI))):=fun (c,d,b)=>
  if b < h then
    if b=g then
      (m_bh 1).bind fun e=>
      (loop (m_cr h b a) ([(e.1,e.2.1,e.2.2.1,e.2.2.2)],0)).bind fun i=>
      (app c [b]).bind fun j=>
      (m_cm i).bind fun f=>
      (m_by f.1 f.2.1 f.2.2.1 f.2.2.2 2).bind fun k=>
      (app d [k]).bind fun l=>
      m_cp b j l
    else
      (m_co a.1 a.2.1 a.2.2.1 a.2.2.2.1 a.2.2.2.2 b g).bind fun m=>
      if m=true then
        (app c [b]).bind fun n=>
        (m_cd a.1 a.2.1 a.2.2.1 a.2.2.2.1 a.2.2.2.2 b g).bind fun o=>
        (app d [o]).bind fun p=>
        m_cs b n p
      else
        m_cs b c d
  else
    some (.inr (c,d))
def m_cu (b:Int) (g:Int×Int×LI×LI×LI):LI×LI×LI×Int→Option ((LI×LI×LI×Int)⊕((LI×LI×LI))):=fun (c,d,e,a)=>
  if a < b then
    (loop (m_ct b a g) (d,e,0)).bind fun (f,h)=>
    (app c [(f.length:Int)]).bind fun i=>
    some (.inl (i,f,h,wa .i64 a 1))
  else
    some (.inr (c,d,e))
def m_cv (b:LI) (a:Int) (c:Int):Option (Int×Int×LI×LI×LI):=
  (m_a c 3).bind fun d=>
  (m_b5 b a a d).bind fun e=>
  (loop (m_cu a e) ([0],[],[],0)).bind fun (f,g,h)=>
  some (a,a,f,g,h)
def m_cw (d:LI) (b:Int) (e:LI) (f:LI):(List (Int×Int×Int))×Int→Option (((List (Int×Int×Int))×Int)⊕(((List (Int×Int×Int))))):=fun (c,a)=>
  (getI d (wa .i64 b 1)).bind fun g=>
  if a < g then
    (getI e a).bind fun h=>
    (getI f a).bind fun i=>
    (app c [(h,b,i)]).bind fun j=>
    some (.inl (j,wa .i64 a 1))
  else
    some (.inr c)
def m_cx (d:Int) (b:LI) (e:LI) (f:LI):(List (Int×Int×Int))×Int→Option (((List (Int×Int×Int))×Int)⊕(((List (Int×Int×Int))))):=fun (c,a)=>
  if a < d then
    (getI b a).bind fun g=>
    (loop (m_cw b a e f) (c,g)).bind fun h=>
    some (.inl (h,wa .i64 a 1))
  else
    some (.inr c)
def m_cy (e:Int) (a:Int) (b:LI) (c:LI) (d:LI):Option ((List (Int×Int×Int))):=
  (m_cb e a b c d).bind fun f=>
  if f=0 then
    (loop (m_cx a b c d) ([],0)).bind fun g=>
    some g
  else
    some []
def m_cz (a:Int) (b:LI) (c:LI):Option ((LI×LI×Int)⊕((LI×LI))):=
  some (.inl (b,c,wa .i64 a 1))
def m_c0 (d:Int) (f:LI) (g:Int) (h:List (Int×Int×Int)):LI×LI×Int→Option ((LI×LI×Int)⊕((LI×LI))):=fun (b,c,a)=>
  if a < d then
    (getI f (wa .i64 (wm .i64 g d) a)).bind fun e=>
    if (0:Int) < e then
      (app b [a]).bind fun i=>
      (getI h (ws .i64 e 1)).bind fun j=>
      (app c [j.2.2]).bind fun k=>
      m_cz a i k
    else
      m_cz a b c
  else
    some (.inr (b,c))
def m_c1 (f:Int) (g:Int) (h:LI) (i:List (Int×Int×Int)):LI×LI×LI×Int→Option ((LI×LI×LI×Int)⊕((LI×LI×LI))):=fun (b,c,d,a)=>
  if a < f then
    (loop (m_c0 g h a i) (c,d,0)).bind fun (e,j)=>
    (app b [(e.length:Int)]).bind fun k=>
    some (.inl (k,e,j,wa .i64 a 1))
  else
    some (.inr (b,c,d))
def m_c2 (b:List (Int×Int×Int)) (d:Int):LI×Int→Option ((LI×Int)⊕(LI)):=fun (c,a)=>
  if a < (b.length:Int) then
    (getI b a).bind fun e=>
    (getI b a).bind fun f=>
    (setI c (wa .i64 (wm .i64 e.2.1 d) f.1) (wa .i64 a 1)).bind fun g=>
    some (.inl (g,wa .i64 a 1))
  else
    some (.inr c)
def m_c3 (a:Int) (b:Int) (c:List (Int×Int×Int)):Option (Int×Int×LI×LI×LI):=
  (mkL 0 (wm .i64 a b)).bind fun d=>
  (loop (m_c2 c a) (d,0)).bind fun e=>
  (loop (m_c1 b a e c) ([0],[],[],0)).bind fun (f,g,h)=>
  some (a,b,f,g,h)
def m_c4 (a:Int) (b:List (Int×Int×Int)):Option (((List (Int×Int×Int))×Int)⊕(((List (Int×Int×Int))))):=
  some (.inl (b,wa .i64 a 1))
def m_c5 (a:Int) (b:List (Int×Int×Int)):Option (((List (Int×Int×Int))×Int)⊕(((List (Int×Int×Int))))):=
  m_c4 a b
def m_c6 (d:(List (Int×Int×Int))):(List (Int×Int×Int))×Int→Option (((List (Int×Int×Int))×Int)⊕(((List (Int×Int×Int))))):=fun (c,b)=>
  if b < (d.length:Int) then
    (getI d b).bind fun a=>
    if a.1 < a.2.1 then
      m_c4 b c
    else
      (app c [(a.1,a.2.1,a.2.2)]).bind fun e=>
      if a.2.1 < a.1 then
        (app e [(a.2.1,a.1,a.2.2)]).bind fun f=>
        m_c5 b f
      else
        m_c5 b e
  else
    some (.inr c)
def m_c7 (b:Int) (c:Int) (d:LI) (e:LI) (f:LI):Option (Int×Int×LI×LI×LI):=
  (m_cy b c d e f).bind fun g=>
  (loop (m_c6 g) ([],0)).bind fun h=>
  (m_c3 b b h).bind fun a=>
  some (a.1,a.2.1,a.2.2.1,a.2.2.2.1,a.2.2.2.2)
def m_c8 (a:Int) (b:Int) (c:Int):Option (Bool):=
  some ((decide (b≤a)) && (decide (a≤c)))
def m_c9 (a:Int):Option (Bool):=
  some (!(decide (a=a)))
def m_da (a:Int) (b:Int):Option (Bool):=
  (m_c9 a).bind fun c=>
  (if c=true then
    (m_c9 b).bind fun d=>
    some (!(d))
  else
    some false).bind fun e=>
  some (e || (decide (a < b)))
def m_db (b:LI):Int→Option ((Int)⊕(Unit⊕Unit)):=fun a=>
  if (0:Int) < a then
    (getI b a).bind fun c=>
    (getI b (ws .i64 a 1)).bind fun d=>
    (m_da c d).bind fun e=>
    if e=true then
      some (.inr (.inr ()))
    else
      some (.inl (ws .i64 a 1))
  else
    some (.inr (.inl ()))
def m_dc (a:LI):Option (Bool):=
  (loop (m_db a) (ws .i64 (a.length:Int) 1)).bind (fun o=>match o with
    | .inl ()=>
      some true
    | .inr ()=>
      some false)
def m_dd (c:LI) (d:Int):Int×Int→Option ((Int×Int)⊕(Unit⊕Unit)):=fun (e,a)=>
  if a < (c.length:Int) then
    (getI c a).bind fun b=>
    if ((decide (b≤e)) || (decide (d≤b)))=true then
      some (.inr (.inr ()))
    else
      some (.inl (b,wa .i64 a 1))
  else
    some (.inr (.inl ()))
def m_de (c:Int) (b:LI) (d:LI) (e:Int):Int→Option ((Int)⊕(Unit⊕Unit)):=fun a=>
  if a < c then
    (getI b a).bind fun f=>
    (getI b (wa .i64 a 1)).bind fun g=>
    (sli d f g).bind fun h=>
    (loop (m_dd h e) ((-1),0)).bind (fun o=>match o with
      | .inl ()=>
        some (.inl (wa .i64 a 1))
      | .inr ()=>
        some (.inr (.inr ())))
  else
    some (.inr (.inl ()))
def m_df (d:Int) (b:Int) (a:LI) (c:LI) (e:LI):Option (Bool):=
  (if (a.length:Int)=(wa .i64 b 1) then
    (getI a 0).bind fun f=>
    some (!(decide (f=0)))
  else
    some true).bind fun g=>
  (if g=true then
    some true
  else
    (m_dc a).bind fun h=>
    some (!(h))).bind fun i=>
  (if i=true then
    some true
  else
    (getI a b).bind fun j=>
    some (!(decide (j=(c.length:Int))))).bind fun k=>
  (if k=true then
    some true
  else
    some (!(decide ((c.length:Int)=(e.length:Int))))).bind fun l=>
  if l=true then
    some false
  else
    (loop (m_de b a c d) 0).bind (fun o=>match o with
      | .inl ()=>
        some true
      | .inr ()=>
        some false)
def m_dg (a:Int):Option (Int×Int):=
  some (wc .i64 (wand .u64 (wsrc .u64 a 52) 2047),wand .u64 a 4503599627370495)
def m_dh (a:Int):Option (Bool):=
  (m_dg a).bind fun b=>
  some (!(decide (b.1=2047)))
def m_di (a:Int):Option (Bool):=
  (m_dh a).bind fun b=>
  some (!(b))
def m_dj (b:LI):Int→Option ((Int)⊕(Unit⊕Int)):=fun a=>
  if a < (b.length:Int) then
    (getI b a).bind fun c=>
    (m_di c).bind fun d=>
    if d=true then
      some (.inr (.inr a))
    else
      some (.inl (wa .i64 a 1))
  else
    some (.inr (.inl ()))
def m_dk (a:LI):Option (Int):=
  (loop (m_dj a) 0).bind (fun o=>match o with
    | .inl ()=>
      some (-1)
    | .inr b=>
      some b)
def m_dl (a:LI):Option (Bool):=
  (m_dk a).bind fun b=>
  some (decide ((0:Int)≤b))
def m_dm (a:Int) (b:Int) (e:LI) (c:LI) (d:LI):Option (Int):=
  (m_c8 a 0 200).bind fun f=>
  (if f=true then
    (m_c8 b 0 200).bind fun g=>
    some (!(g))
  else
    some true).bind fun h=>
  if (h || (decide ((10000:Int) < (c.length:Int))))=true then
    some 6
  else
    (m_df a b e c d).bind fun i=>
    if i=true then
      (m_dl d).bind fun j=>
      if j=true then
        some 4
      else
        some 0
    else
      some 1
def m_dn (c:List BL) (d:Int):(List BL)×Int→Option (((List BL)×Int)⊕(((List BL)))):=fun (b,a)=>
  if a < (c.length:Int) then
    (mkL false d).bind fun e=>
    (setI b a e).bind fun f=>
    some (.inl (f,wa .i64 a 1))
  else
    some (.inr b)
def m_do (a:Int):Option ((List BL)):=
  (mkL ([]:BL) a).bind fun b=>
  (loop (m_dn b a) (b,0)).bind fun c=>
  some c
def m_dp (d:LI) (b:Int) (e:LI) (f:LI):(List (Int×Int×Int))×Int→Option (((List (Int×Int×Int))×Int)⊕(((List (Int×Int×Int))))):=fun (c,a)=>
  (getI d (wa .i64 b 1)).bind fun g=>
  if a < g then
    (getI e a).bind fun h=>
    (getI f a).bind fun i=>
    (app c [(h,b,i)]).bind fun j=>
    some (.inl (j,wa .i64 a 1))
  else
    some (.inr c)
def m_dq (d:Int) (b:LI) (e:LI) (f:LI):(List (Int×Int×Int))×Int→Option (((List (Int×Int×Int))×Int)⊕(((List (Int×Int×Int))))):=fun (c,a)=>
  if a < d then
    (getI b a).bind fun g=>
    (loop (m_dp b a e f) (c,g)).bind fun h=>
    some (.inl (h,wa .i64 a 1))
  else
    some (.inr c)
def m_dr (f:Int) (a:Int) (b:LI) (c:LI) (d:LI):Option ((List (Int×Int×Int))):=
  (loop (m_dq a b c d) ([],0)).bind fun e=>
  some e
def m_ds (a:Int) (b:Int) (c:LI) (d:LI) (e:LI):Option ((List (Int×Int×Int))):=
  (m_dm a b c d e).bind fun f=>
  if f=0 then
    (m_dr a b c d e).bind fun g=>
    some g
  else
    some []
def m_dt (a:List BL):Option ((List BL)):=
  some a
def m_du (b:List BL) (c:Int) (a:Int):Option ((List BL)):=
  if c=a then
    m_dt b
  else
    (getI b c).bind fun e=>
    (getI b a).bind fun j=>
    (setI e a true).bind fun f=>
    (setI b c f).bind fun d=>
    (getI d a).bind fun g=>
    (setI g c true).bind fun h=>
    (setI d a h).bind fun i=>
    m_dt i
def m_dv (a:Int) (b:LI):Option ((LI×Int)⊕(LI)):=
  some (.inl (b,wa .i64 a 1))
def m_dw (c:BL):LI×Int→Option ((LI×Int)⊕(LI)):=fun (b,a)=>
  if a < (c.length:Int) then
    (getI c a).bind fun d=>
    if d=true then
      (app b [a]).bind fun e=>
      m_dv a e
    else
      m_dv a b
  else
    some (.inr b)
def m_dx (a:List BL) (b:Int):Option (LI):=
  (getI a b).bind fun c=>
  (loop (m_dw c) ([],0)).bind fun d=>
  some d
def m_dy (b:List BL):L2×Int→Option ((L2×Int)⊕(L2)):=fun (c,a)=>
  if a < (b.length:Int) then
    (m_dx b a).bind fun d=>
    (setI c a d).bind fun e=>
    some (.inl (e,wa .i64 a 1))
  else
    some (.inr c)
def m_dz (a:List BL):Option (L2):=
  (mkL ([]:LI) (a.length:Int)).bind fun b=>
  (loop (m_dy a) (b,0)).bind fun c=>
  some c
def m_d0 (b:(List (Int×Int×Int))):(List BL)×Int→Option (((List BL)×Int)⊕(((List BL)))):=fun (c,a)=>
  if a < (b.length:Int) then
    (getI b a).bind fun d=>
    (m_du c d.1 d.2.1).bind fun e=>
    some (.inl (e,wa .i64 a 1))
  else
    some (.inr c)
def m_d1 (b:Int) (a:Int) (c:LI) (d:LI) (e:LI):Option (L2×Int):=
  (m_dm b a c d e).bind fun f=>
  if f=0 then
    if b=a then
      (m_do a).bind fun g=>
      (m_ds b a c d e).bind fun h=>
      (loop (m_d0 h) (g,0)).bind fun i=>
      (m_dz i).bind fun j=>
      some (j,0)
    else
      some ([],5)
  else
    some ([],f)
def m_d2 (c:LI) (d:Int):Int×Int→Option ((Int×Int)⊕(Unit⊕Unit)):=fun (e,a)=>
  if a < (c.length:Int) then
    (getI c a).bind fun b=>
    if ((decide (b≤e)) || (decide (d≤b)))=true then
      some (.inr (.inr ()))
    else
      some (.inl (b,wa .i64 a 1))
  else
    some (.inr (.inl ()))
def m_d3 (a:LI) (b:Int):Option (Bool):=
  (loop (m_d2 a b) ((-1),0)).bind (fun o=>match o with
    | .inl ()=>
      some true
    | .inr ()=>
      some false)
def m_d4 (a:Int):Option (Bool):=
  some (!(decide (a=a)))
def m_d5 (a:Int) (b:Int):Option ((Int×Int)⊕(Int)):=
  some (.inl (a,b))
def m_d6 (c:LI) (d:Int):Int×Int→Option ((Int×Int)⊕(Int)):=fun (a,b)=>
  if a < b then
    (getI c (wc .i64 (wsrc .u64 (wc .u64 (wa .i64 a b)) 1))).bind fun e=>
    (m_da e d).bind fun f=>
    if f=true then
      m_d5 (wa .i64 (wc .i64 (wsrc .u64 (wc .u64 (wa .i64 a b)) 1)) 1) b
    else
      m_d5 a (wc .i64 (wsrc .u64 (wc .u64 (wa .i64 a b)) 1))
  else
    some (.inr a)
def m_d7 (a:LI) (c:Int):Option (Int×Bool):=
  (loop (m_d6 a c) (0,(a.length:Int))).bind fun b=>
  (if b < (a.length:Int) then
    (getI a b).bind fun d=>
    (if d=c then
      some true
    else
      (getI a b).bind fun e=>
      (m_d4 e).bind fun f=>
      (if f=true then
        (m_d4 c).bind fun g=>
        some g
      else
        some false).bind fun h=>
      some h).bind fun i=>
    some i
  else
    some false).bind fun j=>
  some (b,j)
def m_d8 (a:L2) (b:Int) (c:Int):Option (Bool):=
  (getI a b).bind fun d=>
  (m_d7 d c).bind fun e=>
  some e.2
def m_d9 (b:LI) (c:L2) (d:Int):Int→Option ((Int)⊕(Unit⊕Unit)):=fun a=>
  if a < (b.length:Int) then
    (getI b a).bind fun e=>
    (m_d8 c e d).bind fun f=>
    if f=true then
      some (.inl (wa .i64 a 1))
    else
      some (.inr (.inr ()))
  else
    some (.inr (.inl ()))
def m_ea (b:L2):Int→Option ((Int)⊕(Unit⊕Unit)):=fun a=>
  if a < (b.length:Int) then
    (getI b a).bind fun c=>
    (loop (m_d9 c b a) 0).bind (fun o=>match o with
      | .inl ()=>
        some (.inl (wa .i64 a 1))
      | .inr ()=>
        some (.inr (.inr ())))
  else
    some (.inr (.inl ()))
def m_eb (b:L2):Int→Option ((Int)⊕(Unit⊕Unit)):=fun a=>
  if a < (b.length:Int) then
    (getI b a).bind fun c=>
    (m_d3 c (b.length:Int)).bind fun d=>
    (if d=true then
      (m_d8 b a a).bind fun e=>
      some e
    else
      some true).bind fun f=>
    if f=true then
      some (.inr (.inr ()))
    else
      some (.inl (wa .i64 a 1))
  else
    some (.inr (.inl ()))
def m_ec (a:L2):Option (Int):=
  if (200:Int) < (a.length:Int) then
    some 6
  else
    (loop (m_eb a) 0).bind (fun o=>match o with
      | .inl ()=>
        (loop (m_ea a) 0).bind (fun o=>match o with
          | .inl ()=>
            some 0
          | .inr ()=>
            some 1)
      | .inr ()=>
        some 1)
def m_ed (a:Int) (b:Int):Option (Int×Int):=
  some (wa .u64 (wa .u64 (wm .u64 (wsrc .u64 a 32) (wsrc .u64 b 32)) (wsrc .u64 (wa .u64 (wm .u64 (wsrc .u64 a 32) (wand .u64 b 4294967295)) (wsrc .u64 (wm .u64 (wand .u64 a 4294967295) (wand .u64 b 4294967295)) 32)) 32)) (wsrc .u64 (wa .u64 (wand .u64 (wa .u64 (wm .u64 (wsrc .u64 a 32) (wand .u64 b 4294967295)) (wsrc .u64 (wm .u64 (wand .u64 a 4294967295) (wand .u64 b 4294967295)) 32)) 4294967295) (wm .u64 (wand .u64 a 4294967295) (wsrc .u64 b 32))) 32),wm .u64 a b)
def m_ee (b:Int) (c:Int):Option (Int×Int):=
  (m_ed b c).bind fun a=>
  some (a.1,a.2)
def m_ef:LI×Int→Option ((LI×Int)⊕(LI)):=fun (a,b)=>
  if b < (a.length:Int) then
    (sli a b (a.length:Int)).bind fun e=>
    (sli a 0 b).bind fun d=>
    (cpI a b (a.length:Int) d).bind fun c=>
    some (.inl (c.1,wa .i64 b c.2))
  else
    some (.inr a)
def m_eg (c:Int×Int) (d:LI):Option (LI):=
  (mkL 0 (wc .i64 c.2)).bind fun a=>
  (cpI a 0 (a.length:Int) d).bind fun b=>
  (loop (m_ef) (b.1,b.2)).bind fun e=>
  some e
def m_eh (b:LI) (c:Int):Option (LI):=
  (m_ee (wc .u64 (b.length:Int)) (wc .u64 c)).bind fun a=>
  if ((decide ((0:Int) < a.1)) || (decide ((9223372036854775807:Int) < a.2)))=true then
    none
  else
    m_eg a b
def m_ei (b:LI) (a:Int):Option (LI):=
  if a < 0 then
    none
  else
    m_eh b a
def m_ej (b:L2):L2×Int→Option ((L2×Int)⊕(L2)):=fun (c,a)=>
  if a < (b.length:Int) then
    (getI b a).bind fun d=>
    (m_ei [1] (d.length:Int)).bind fun e=>
    (app c [e]).bind fun f=>
    some (.inl (f,wa .i64 a 1))
  else
    some (.inr c)
def m_ek (a:L2):Option (L2×LI×L2):=
  (m_ei [1] (a.length:Int)).bind fun b=>
  (loop (m_ej a) ([],0)).bind fun c=>
  some (a,b,c)
def m_el (b:LI):Int×Int→Option ((Int×Int)⊕(Int)):=fun (c,a)=>
  if a < (b.length:Int) then
    (getI b a).bind fun d=>
    some (.inl (wa .i64 c d,wa .i64 a 1))
  else
    some (.inr c)
def m_em (a:LI):Option (Int):=
  (loop (m_el a) (0,0)).bind fun b=>
  some b
def m_en (a:Int) (b:BL) (c:LI):Option ((BL×LI×Int)⊕((BL×LI))):=
  some (.inl (b,c,wa .i64 a 1))
def m_eo (e:LI):BL×LI×Int→Option ((BL×LI×Int)⊕((BL×LI))):=fun (a,c,b)=>
  if b < (e.length:Int) then
    (getI e b).bind fun d=>
    (getI a d).bind fun f=>
    if f=true then
      m_en b a c
    else
      (setI a d true).bind fun g=>
      (app c [d]).bind fun h=>
      m_en b g h
  else
    some (.inr (a,c))
def m_ep (b:LI) (e:L2):BL×LI×Int→Option ((BL×LI×Int)⊕((BL×LI))):=fun (c,d,a)=>
  if a < (b.length:Int) then
    (getI b a).bind fun f=>
    (getI e f).bind fun g=>
    (loop (m_eo g) (c,d,0)).bind fun (h,i)=>
    some (.inl (h,i,wa .i64 a 1))
  else
    some (.inr (c,d))
def m_eq (c:L2):BL×L2×LI→Option ((BL×L2×LI)⊕(L2)):=fun (d,b,a)=>
  if (0:Int) < (a.length:Int) then
    (app b [a]).bind fun e=>
    (loop (m_ep a c) (d,[],0)).bind fun (f,g)=>
    (sortI g).bind fun h=>
    some (.inl (f,e,h))
  else
    some (.inr b)
def m_er (a:L2) (b:Int):Option (L2):=
  (mkL false (a.length:Int)).bind fun c=>
  (setI c b true).bind fun d=>
  (loop (m_eq a) (d,[],[b])).bind fun e=>
  some e
def m_es (a:LI):Option (LI):=
  some a
def m_et (a:Int):Option (LI):=
  if (0:Int) < (ws .i64 a (ws .i64 0 0)) then
    (mkLp 0 (ws .i64 a (ws .i64 0 0))).bind fun b=>
    (sli b 0 0).bind fun c=>
    m_es c
  else
    m_es []
def m_eu (a:Int):Option (LI):=
  if a < 0 then
    none
  else
    m_et a
def m_ev (b:L2):LI×Int→Option ((LI×Int)⊕(LI)):=fun (c,a)=>
  if a < (b.length:Int) then
    (getI b a).bind fun d=>
    (app c d).bind fun e=>
    some (.inl (e,wa .i64 a 1))
  else
    some (.inr c)
def m_ew (a:Int) (b:LI) (c:Int):Option ((Int×Int)⊕(Int)):=
  some (.inl (wa .i64 a (b.length:Int),wa .i64 c 1))
def m_ex (c:L2):Int×Int→Option ((Int×Int)⊕(Int)):=fun (a,b)=>
  if b < (c.length:Int) then
    (getI c b).bind fun d=>
    if (wa .i64 a (d.length:Int)) < 0 then
      none
    else
      m_ew a d b
  else
    some (.inr a)
def m_ey (a:L2):Option (LI):=
  (loop (m_ex a) (0,0)).bind fun b=>
  (m_eu b).bind fun c=>
  (loop (m_ev a) (c,0)).bind fun d=>
  some d
def m_ez (a:Int) (b:BL) (c:L2):Option ((BL×L2×Int)⊕(L2)):=
  some (.inl (b,c,wa .i64 a 1))
def m_e0 (b:LI):BL×Int→Option ((BL×Int)⊕(BL)):=fun (c,a)=>
  if a < (b.length:Int) then
    (getI b a).bind fun d=>
    (setI c d true).bind fun e=>
    some (.inl (e,wa .i64 a 1))
  else
    some (.inr c)
def m_e1 (d:L2):BL×L2×Int→Option ((BL×L2×Int)⊕(L2)):=fun (b,c,a)=>
  if a < (d.length:Int) then
    (getI b a).bind fun f=>
    if f=true then
      m_ez a b c
    else
      (m_er d a).bind fun g=>
      (m_ey g).bind fun h=>
      (sortI h).bind fun e=>
      (loop (m_e0 e) (b,0)).bind fun i=>
      (app c [e]).bind fun j=>
      m_ez a i j
  else
    some (.inr c)
def m_e2 (a:L2):Option (L2):=
  (m_ec a).bind fun b=>
  if b=0 then
    (mkL false (a.length:Int)).bind fun c=>
    (loop (m_e1 a) (c,[],0)).bind fun d=>
    some d
  else
    some []
def m_e3 (b:L2) (a:Int):Option (Bool):=
  some ((decide ((0:Int)≤a)) && (decide (a < (b.length:Int))))
def m_e4 (a:Int) (b:Int):Option ((Int×Int)⊕(Int)):=
  some (.inl (b,wa .i64 a 1))
def m_e5 (c:LI) (d:L2):Int×Int→Option ((Int×Int)⊕(Int)):=fun (b,a)=>
  if a < (c.length:Int) then
    (getI c a).bind fun e=>
    (getI d e).bind fun f=>
    (getI d b).bind fun g=>
    if (f.length:Int) < (g.length:Int) then
      m_e4 a e
    else
      m_e4 a b
  else
    some (.inr b)
def m_e6 (b:L2):Int×L2→Option ((Int×L2)⊕(Int)):=fun (f,a)=>
  (getI a (ws .i64 (a.length:Int) 1)).bind fun c=>
  (getI c 0).bind fun g=>
  (loop (m_e5 c b) (g,0)).bind fun d=>
  (m_er b d).bind fun e=>
  if (e.length:Int)≤(a.length:Int) then
    some (.inr f)
  else
    some (.inl (d,e))
def m_e7 (a:L2) (b:Int):Option (Int):=
  (m_ec a).bind fun c=>
  (if c=0 then
    (m_e3 a b).bind fun d=>
    some (!(d))
  else
    some true).bind fun e=>
  if e=true then
    some (-1)
  else
    (m_er a b).bind fun f=>
    (loop (m_e6 a) (b,f)).bind fun g=>
    some g
def m_e8 (a:L2) (b:Int):Option (L2):=
  (m_ec a).bind fun c=>
  (if c=0 then
    (m_e3 a b).bind fun d=>
    some (!(d))
  else
    some true).bind fun e=>
  if e=true then
    some []
  else
    (m_er a b).bind fun f=>
    some f
def m_e9 (d:LI) (f:Int) (g:LI):LI×Int×Int→Option ((LI×Int×Int)⊕((LI×Int)⊕(LI))):=fun (a,b,c)=>
  if c < (d.length:Int) then
    (getI d c).bind fun e=>
    if f≤(wm .i64 2 b) then
      some (.inr (.inr a))
    else
      (setI a e 0).bind fun h=>
      (getI g e).bind fun i=>
      some (.inl (h,wa .i64 b i,wa .i64 c 1))
  else
    some (.inr (.inl (a,b)))
def m_fa (b:L2) (c:L2) (e:Int) (f:LI):LI×Int×Int→Option ((LI×Int×Int)⊕((LI)⊕(LI))):=fun (d,g,a)=>
  if a < (b.length:Int) then
    (getI b a).bind fun h=>
    (getI h 0).bind fun i=>
    (m_e7 c i).bind fun j=>
    (m_e8 c j).bind fun k=>
    (m_ey k).bind fun l=>
    (loop (m_e9 l e f) (d,g,0)).bind (fun o=>match o with
      | .inl (m,n)=>
        some (.inl (m,n,wa .i64 a 1))
      | .inr p=>
        some (.inr (.inr p)))
  else
    some (.inr (.inl d))
def m_fb (b:L2) (a:LI) (h:L2):Option (LI):=
  (m_ei [1] (a.length:Int)).bind fun c=>
  (m_em a).bind fun d=>
  (m_e2 b).bind fun e=>
  (loop (m_fa e b d a) (c,0,0)).bind (fun o=>match o with
    | .inl f=>
      some f
    | .inr g=>
      some g)
def m_fc (a:Int) (b:LI) (c:LI) (d:Bool):Option ((LI×LI×Bool×Int)⊕((LI×LI×Bool))):=
  some (.inl (b,c,d,wa .i64 a 1))
def m_fd (a:Int) (b:Int):Option ((Int×Int)⊕(Int)):=
  some (.inl (b,wa .i64 a 1))
def m_fe (c:LI) (f:LI) (g:Int) (d:L2) (e:Int):Int×Int→Option ((Int×Int)⊕(Int)):=fun (b,a)=>
  if a < (c.length:Int) then
    (getI c a).bind fun h=>
    (getI f h).bind fun i=>
    if i=g then
      (getI d e).bind fun j=>
      (getI j a).bind fun k=>
      m_fd a (ws .i64 b k)
    else
      (getI d e).bind fun l=>
      (getI l a).bind fun m=>
      m_fd a (wa .i64 b m)
  else
    some (.inr b)
def m_ff (h:LI) (i:L2) (j:L2) (e:LI) (k:Int) (l:Int):LI×LI×Bool×Int→Option ((LI×LI×Bool×Int)⊕((LI×LI×Bool))):=fun (c,d,f,a)=>
  if a < (h.length:Int) then
    (getI c a).bind fun b=>
    (getI i a).bind fun m=>
    (loop (m_fe m c b j a) (0,0)).bind fun n=>
    (if (0:Int) < n then
      (getI d (ws .i64 1 b)).bind fun o=>
      (getI e a).bind fun p=>
      some (decide ((wm .i64 3 (wa .i64 o p))≤(wm .i64 2 (wa .i64 k l))))
    else
      some false).bind fun q=>
    if q=true then
      (setI c a (ws .i64 1 b)).bind fun r=>
      (getI d b).bind fun s=>
      (getI e a).bind fun t=>
      (setI d b (ws .i64 s t)).bind fun g=>
      (getI g (ws .i64 1 b)).bind fun u=>
      (getI e a).bind fun v=>
      (setI g (ws .i64 1 b) (wa .i64 u v)).bind fun w=>
      m_fc a r w true
    else
      m_fc a c d f
  else
    some (.inr (c,d,f))
def m_fg (d:L2) (e:L2) (f:LI) (g:Int) (h:Int):LI×LI×Int→Option ((LI×LI×Int)⊕((LI)⊕(LI))):=fun (a,i,b)=>
  if b < 4 then
    (loop (m_ff a d e f g h) (a,i,false,0)).bind fun (c,j,k)=>
    if k=true then
      some (.inl (c,j,wa .i64 b 1))
    else
      some (.inr (.inr c))
  else
    some (.inr (.inl a))
def m_fh (c:LI) (e:LI):LI×Int→Option ((LI×Int)⊕(LI)):=fun (b,a)=>
  if a < (c.length:Int) then
    (getI c a).bind fun d=>
    (getI b d).bind fun f=>
    (getI e a).bind fun g=>
    (setI b d (wa .i64 f g)).bind fun h=>
    some (.inl (h,wa .i64 a 1))
  else
    some (.inr b)
def m_fi (d:L2) (b:LI) (e:L2) (c:LI):Option (LI):=
  (loop (m_fh c b) ([0,0],0)).bind fun a=>
  (getI a 0).bind fun f=>
  (getI a 1).bind fun g=>
  (loop (m_fg d e b f g) (c,a,0)).bind (fun o=>match o with
    | .inl h=>
      some h
    | .inr i=>
      some i)
def m_fj (a:L2) (b:LI) (c:L2) (d:LI):Option (LI×Bool):=
  (m_fi a b c d).bind fun e=>
  some (e,true)
def m_fk (b:L2) (a:LI) (c:L2):Option (LI×Bool):=
  (m_fb b a c).bind fun d=>
  if (8:Int) < (a.length:Int) then
    none
  else
    m_fj b a c d
def m_fl (a:Int) (b:LI) (c:Int):Option (Bool):=
  (getI b a).bind fun d=>
  some (!(decide (d=c)))
def m_fm (b:LI) (c:LI) (d:Int):Int→Option ((Int)⊕(Unit⊕Int)):=fun a=>
  if a < (b.length:Int) then
    (getI b a).bind fun e=>
    (m_fl e c d).bind fun f=>
    if f=true then
      some (.inr (.inr a))
    else
      some (.inl (wa .i64 a 1))
  else
    some (.inr (.inl ()))
def m_fn (a:LI) (b:LI) (c:Int):Option (Int):=
  (loop (m_fm a b c) 0).bind (fun o=>match o with
    | .inl ()=>
      some (-1)
    | .inr d=>
      some d)
def m_fo (a:LI) (b:LI) (c:Int):Option (Bool):=
  (m_fn a b c).bind fun d=>
  some (decide ((0:Int)≤d))
def m_fp (a:Int) (b:LI):Option ((LI×Int)⊕(LI)):=
  some (.inl (b,wa .i64 a 1))
def m_fq (c:L2) (d:LI) (e:Int):LI×Int→Option ((LI×Int)⊕(LI)):=fun (b,a)=>
  if a < (c.length:Int) then
    (getI c a).bind fun f=>
    (getI d a).bind fun g=>
    (if g=e then
      (m_fo f d e).bind fun h=>
      some h
    else
      some false).bind fun i=>
    if i=true then
      (app b [a]).bind fun j=>
      m_fp a j
    else
      m_fp a b
  else
    some (.inr b)
def m_fr (a:L2) (b:LI) (c:Int):Option (LI):=
  (loop (m_fq a b c) ([],0)).bind fun d=>
  some d
def m_fs (d:L2) (b:LI) (e:LI):L2×Int→Option ((L2×Int)⊕(L2)):=fun (c,a)=>
  if a < (d.length:Int) then
    (getI b a).bind fun f=>
    (getI b (wa .i64 a 1)).bind fun g=>
    (sli e f g).bind fun h=>
    (setI c a h).bind fun i=>
    some (.inl (i,wa .i64 a 1))
  else
    some (.inr c)
def m_ft (f:Int) (b:Int) (c:LI) (d:LI) (g:LI):Option (L2):=
  (mkL ([]:LI) b).bind fun a=>
  (loop (m_fs a c d) (a,0)).bind fun e=>
  some e
def m_fu (c:LI) (d:Int):LI×Int→Option ((LI×Int)⊕(LI)):=fun (b,a)=>
  if a < (c.length:Int) then
    (setI b a d).bind fun e=>
    some (.inl (e,wa .i64 a 1))
  else
    some (.inr b)
def m_fv (b:Int) (c:Int):Option (LI):=
  (mkL 0 b).bind fun a=>
  (loop (m_fu a c) (a,0)).bind fun d=>
  some d
def m_fw (a:Int) (b:LI) (c:LI) (d:BL):Option ((LI×LI×BL×Int)⊕((LI×LI×BL)⊕(LI×LI×BL))):=
  some (.inl (b,c,d,wa .i64 a 1))
def m_fx (rec:L2→LI→LI→BL→Int→Option (LI×LI×BL×Bool)) (h:LI) (k:L2) (i:Int):LI×LI×BL×Int→Option ((LI×LI×BL×Int)⊕((LI×LI×BL)⊕(LI×LI×BL))):=fun (d,b,e,f)=>
  if f < (h.length:Int) then
    (getI h f).bind fun c=>
    (getI e c).bind fun l=>
    if l=true then
      m_fw f d b e
    else
      (setI e c true).bind fun j=>
      (getI b c).bind fun m=>
      (if m=(-1) then
        some (true,d,b,j)
      else
        (getI b c).bind fun n=>
        (rec k d b j n).bind fun g=>
        some (g.2.2.2,g.1,g.2.1,g.2.2.1)).bind fun a=>
      if a.1=true then
        (setI a.2.1 i c).bind fun o=>
        (setI a.2.2.1 c i).bind fun p=>
        some (.inr (.inr (o,p,a.2.2.2)))
      else
        m_fw f a.2.1 a.2.2.1 a.2.2.2
  else
    some (.inr (.inl (d,b,e)))
def m_fy (rec:L2→LI→LI→BL→Int→Option (LI×LI×BL×Bool)) (a:L2) (c:LI) (d:LI) (e:BL) (b:Int):Option (LI×LI×BL×Bool):=
  (getI a b).bind fun f=>
  (loop (m_fx rec f a b) (c,d,e,0)).bind (fun o=>match o with
    | .inl (g,h,i)=>
      some (g,h,i,false)
    | .inr (j,k,l)=>
      some (j,k,l,true))
def m_fz:Nat→L2→LI→LI→BL→Int→Option (LI×LI×BL×Bool)
  | 0=>fun _ _ _ _ _=>none
  | n+1=>m_fy (m_fz n)
def m_f0 (e:Int) (f:Int) (g:L2):LI×LI×BL×Int→Option ((LI×LI×BL×Int)⊕((LI×LI×BL))):=fun (c,d,h,a)=>
  if a < e then
    (mkL false f).bind fun i=>
    (m_fz FUEL g c d i a).bind fun b=>
    some (.inl (b.1,b.2.1,b.2.2.1,wa .i64 a 1))
  else
    some (.inr (c,d,h))
def m_f1 (a:Int) (b:Int) (d:LI) (e:LI) (f:LI):Option (L2×LI×LI×BL):=
  (m_ft a b d e f).bind fun c=>
  (m_fv b (-1)).bind fun g=>
  (m_fv a (-1)).bind fun h=>
  (loop (m_f0 b a c) (g,h,[],0)).bind fun (i,j,k)=>
  some (c,i,j,k)
def m_f2 (a:BL) (b:Int) (c:BL) (d:LI):Option ((BL×BL×LI×Int)⊕((BL×BL×LI))):=
  some (.inl (a,c,d,wa .i64 b 1))
def m_f3 (e:LI) (i:L2×LI×LI×BL):BL×BL×LI×Int→Option ((BL×BL×LI×Int)⊕((BL×BL×LI))):=fun (f,a,d,b)=>
  if b < (e.length:Int) then
    (getI e b).bind fun g=>
    (setI f g true).bind fun h=>
    (getI i.2.2.1 g).bind fun c=>
    (if c=(-1) then
      some false
    else
      (getI a c).bind fun j=>
      some (!(j))).bind fun k=>
    if k=true then
      (setI a c true).bind fun l=>
      (app d [c]).bind fun m=>
      m_f2 h b l m
    else
      m_f2 h b a d
  else
    some (.inr (f,a,d))
def m_f4 (b:L2×LI×LI×BL):BL×BL×LI→Option ((BL×BL×LI)⊕((BL×BL))):=fun (c,d,a)=>
  if (0:Int) < (a.length:Int) then
    (getI a 0).bind fun e=>
    (sli a 1 (a.length:Int)).bind fun f=>
    (getI b.1 e).bind fun g=>
    (loop (m_f3 g b) (c,d,f,0)).bind fun (h,i,j)=>
    some (.inl (h,i,j))
  else
    some (.inr (c,d))
def m_f5 (a:Int) (b:BL) (c:LI):Option ((BL×LI×Int)⊕((BL×LI))):=
  some (.inl (b,c,wa .i64 a 1))
def m_f6 (d:L2×LI×LI×BL):BL×LI×Int→Option ((BL×LI×Int)⊕((BL×LI))):=fun (b,c,a)=>
  if a < (d.2.1.length:Int) then
    (getI d.2.1 a).bind fun e=>
    if e=(-1) then
      (setI b a true).bind fun f=>
      (app c [a]).bind fun g=>
      m_f5 a f g
    else
      m_f5 a b c
  else
    some (.inr (b,c))
def m_f7 (a:Int) (b:Int) (d:LI) (e:LI) (f:LI):Option (BL×BL):=
  (m_f1 a b d e f).bind fun c=>
  (mkL false a).bind fun g=>
  (mkL false b).bind fun h=>
  (loop (m_f6 c) (h,[],0)).bind fun (i,j)=>
  (loop (m_f4 c) (g,i,j)).bind fun (k,l)=>
  some (k,l)
def m_f8 (a:Int) (b:LI):Option ((LI×Int)⊕(LI)):=
  some (.inl (b,wa .i64 a 1))
def m_f9 (c:BL) (d:Bool):LI×Int→Option ((LI×Int)⊕(LI)):=fun (b,a)=>
  if a < (c.length:Int) then
    (getI c a).bind fun e=>
    if (e == d)=true then
      (app b [a]).bind fun f=>
      m_f8 a f
    else
      m_f8 a b
  else
    some (.inr b)
def m_ga (a:BL) (b:Bool):Option (LI):=
  (loop (m_f9 a b) ([],0)).bind fun c=>
  some c
def m_gb (a:Int) (b:Int) (c:LI) (d:LI) (e:LI):Option (LI×LI×Int):=
  (m_dm a b c d e).bind fun f=>
  if f=0 then
    (m_f7 a b c d e).bind fun g=>
    (m_ga g.1 true).bind fun h=>
    (m_ga g.2 false).bind fun i=>
    some (h,i,0)
  else
    some ([],[],f)
def m_gc (b:LI×LI×Int) (d:LI):BL×Int→Option ((BL×Int)⊕(BL)):=fun (c,a)=>
  if a < (b.2.1.length:Int) then
    (getI b.2.1 a).bind fun e=>
    (getI d e).bind fun f=>
    (setI c f true).bind fun g=>
    some (.inl (g,wa .i64 a 1))
  else
    some (.inr c)
def m_gd (b:LI×LI×Int) (d:LI):BL×Int→Option ((BL×Int)⊕(BL)):=fun (c,a)=>
  if a < (b.1.length:Int) then
    (getI b.1 a).bind fun e=>
    (getI d e).bind fun f=>
    (setI c f true).bind fun g=>
    some (.inl (g,wa .i64 a 1))
  else
    some (.inr c)
def m_ge (a:Int) (b:LI) (c:LI):Option ((LI×LI×Int)⊕((LI×LI))):=
  some (.inl (b,c,wa .i64 a 1))
def m_gf (d:LI) (e:L2) (f:Int):LI×LI×Int→Option ((LI×LI×Int)⊕((LI×LI))):=fun (b,c,a)=>
  if a < (d.length:Int) then
    (getI d a).bind fun g=>
    (getI e f).bind fun h=>
    (m_d7 h g).bind fun i=>
    if i.2=true then
      (app b [a]).bind fun j=>
      (app c [4607182418800017408]).bind fun k=>
      m_ge a j k
    else
      m_ge a b c
  else
    some (.inr (b,c))
def m_gg (b:LI) (g:LI) (h:L2):LI×LI×LI×Int→Option ((LI×LI×LI×Int)⊕((LI×LI×LI))):=fun (c,d,e,a)=>
  if a < (b.length:Int) then
    (getI b a).bind fun i=>
    (loop (m_gf g h i) (d,e,0)).bind fun (f,j)=>
    (app c [(f.length:Int)]).bind fun k=>
    some (.inl (k,f,j,wa .i64 a 1))
  else
    some (.inr (c,d,e))
def m_gh (a:L2) (e:LI):Option (BL):=
  (m_fr a e 0).bind fun b=>
  (m_fr a e 1).bind fun c=>
  (loop (m_gg c b a) ([0],[],[],0)).bind fun (g,h,i)=>
  (mkL false (a.length:Int)).bind fun f=>
  (m_gb (b.length:Int) (c.length:Int) g h i).bind fun d=>
  if d.2.2=0 then
    (loop (m_gd d b) (f,0)).bind fun j=>
    (loop (m_gc d c) (j,0)).bind fun k=>
    some k
  else
    some f
def m_gi (a:Int) (b:LI) (c:LI) (d:LI):Option ((LI×LI×LI×Int)⊕((LI×LI×LI))):=
  some (.inl (b,c,d,wa .i64 a 1))
def m_gj (a:Int) (b:LI) (c:LI) (d:LI):Option ((LI×LI×LI×Int)⊕((LI×LI×LI))):=
  m_gi a c d b
def m_gk (e:L2) (f:BL) (g:LI×Bool):LI×LI×LI×Int→Option ((LI×LI×LI×Int)⊕((LI×LI×LI))):=fun (b,c,d,a)=>
  if a < (e.length:Int) then
    (getI f a).bind fun h=>
    if h=true then
      (app d [a]).bind fun i=>
      m_gi a b c i
    else
      (getI g.1 a).bind fun j=>
      if j=0 then
        (app b [a]).bind fun k=>
        m_gj a d k c
      else
        (app c [a]).bind fun l=>
        m_gj a d b l
  else
    some (.inr (b,c,d))
def m_gl (a:L2):Option (LI×LI×LI):=
  (m_ek a).bind fun b=>
  (m_fk b.1 b.2.1 b.2.2).bind fun c=>
  (m_gh a c.1).bind fun d=>
  (loop (m_gk a d c) ([],[],[],0)).bind fun (e,f,g)=>
  some (e,f,g)
def m_gm (b:L2):Option (LI×LI×LI×Int):=
  (m_ec b).bind fun c=>
  if c=0 then
    (m_gl b).bind fun a=>
    some (a.1,a.2.1,a.2.2,0)
  else
    some ([],[],[],c)
def m_gn (b:LI) (d:Int):(List BL)×Int→Option (((List BL)×Int)⊕(((List BL)))):=fun (c,a)=>
  if a < (b.length:Int) then
    (getI b a).bind fun e=>
    (m_du c d e).bind fun f=>
    some (.inl (f,wa .i64 a 1))
  else
    some (.inr c)
def m_go (b:L2):(List BL)×Int→Option (((List BL)×Int)⊕(((List BL)))):=fun (c,a)=>
  if a < (b.length:Int) then
    (getI b a).bind fun d=>
    (loop (m_gn d a) (c,0)).bind fun e=>
    some (.inl (e,wa .i64 a 1))
  else
    some (.inr c)
def m_gp (a:L2):Option ((List BL)):=
  (m_do (a.length:Int)).bind fun b=>
  (loop (m_go a) (b,0)).bind fun c=>
  some c
def m_gq (a:L2):Option ((List BL)×BL):=
  (m_gp a).bind fun b=>
  (mkL false (a.length:Int)).bind fun c=>
  some (b,c)
def m_gr (b:LI) (d:Int):(List BL)×Int→Option (((List BL)×Int)⊕(((List BL)))):=fun (c,a)=>
  if a < (b.length:Int) then
    (getI b a).bind fun e=>
    (m_du c d e).bind fun f=>
    some (.inl (f,wa .i64 a 1))
  else
    some (.inr c)
def m_gs (d:LI) (a:Int):(List BL)×Int→Option (((List BL)×Int)⊕(((List BL)))):=fun (f,b)=>
  if b < (d.length:Int) then
    (getI d b).bind fun c=>
    (sli d 0 b).bind fun h=>
    (loop (m_gr h c) (f,0)).bind fun e=>
    (getI e c).bind fun i=>
    (getI e a).bind fun n=>
    (setI i a false).bind fun j=>
    (setI e c j).bind fun g=>
    (getI g a).bind fun k=>
    (setI k c false).bind fun l=>
    (setI g a l).bind fun m=>
    some (.inl (m,wa .i64 b 1))
  else
    some (.inr f)
def m_gt (b:List BL) (d:BL) (a:Int):Option ((List BL)×BL×LI):=
  (m_dx b a).bind fun c=>
  (loop (m_gs c a) (b,0)).bind fun e=>
  (setI d a true).bind fun f=>
  some (e,f,c)
def m_gu (a:Int) (b:Int) (c:Int):Option ((Int×Int×Int)⊕(Int)):=
  some (.inl (b,c,wa .i64 a 1))
def m_gv (e:L2) (f:List BL) (g:BL):Int×Int×Int→Option ((Int×Int×Int)⊕(Int)):=fun (b,c,a)=>
  if a < (e.length:Int) then
    (m_dx f a).bind fun d=>
    (getI g a).bind fun h=>
    if ((!(h)) && ((decide (b < 0)) || (decide ((d.length:Int) < c))))=true then
      m_gu a a (d.length:Int)
    else
      m_gu a b c
  else
    some (.inr b)
def m_gw (a:L2):(List BL)×BL×LI×Int→Option (((List BL)×BL×LI×Int)⊕(LI)):=fun (b,c,d,e)=>
  if e < (a.length:Int) then
    (loop (m_gv a b c) ((-1),0,0)).bind fun f=>
    (m_gt b c f).bind fun g=>
    (app d [f]).bind fun h=>
    some (.inl (g.1,g.2.1,h,wa .i64 e 1))
  else
    some (.inr d)
def m_gx (a:L2):Option (LI×Int):=
  (m_ec a).bind fun b=>
  if b=0 then
    (m_gq a).bind fun c=>
    (loop (m_gw a) (c.1,c.2,[],0)).bind fun d=>
    some (d,0)
  else
    some ([],b)
def m_gy (a:Int) (b:L2):Option (Bool):=
  (m_e3 b a).bind fun c=>
  some (!(c))
def m_gz (b:LI) (c:L2):Int→Option ((Int)⊕(Unit⊕Int)):=fun a=>
  if a < (b.length:Int) then
    (getI b a).bind fun d=>
    (m_gy d c).bind fun e=>
    if e=true then
      some (.inr (.inr a))
    else
      some (.inl (wa .i64 a 1))
  else
    some (.inr (.inl ()))
def m_g0 (a:LI) (b:L2):Option (Int):=
  (loop (m_gz a b) 0).bind (fun o=>match o with
    | .inl ()=>
      some (-1)
    | .inr c=>
      some c)
def m_g1 (a:LI) (b:L2):Option (Bool):=
  (m_g0 a b).bind fun c=>
  some (decide ((0:Int)≤c))
def m_g2 (a:LI):Option (Unit):=
  some ()
def m_g3 (a:LI):Option (LI):=
  (colV a).bind fun b=>
  some b
def m_g4 (a:LI):Option (LI):=
  (m_g3 a).bind fun b=>
  (sortI b).bind fun c=>
  some c
def m_g5 (a:LI):Option (Bool):=
  (m_g2 a).bind fun d=>
  (m_g4 a).bind fun b=>
  (compactI b).bind fun c=>
  some (decide ((c.length:Int) < (a.length:Int)))
def m_g6 (a:Int) (b:List BL):Option (((List BL)×Int)⊕(((List BL)))):=
  some (.inl (b,wa .i64 a 1))
def m_g7 (c:LI) (d:L2) (e:Int) (f:Int):(List BL)×Int→Option (((List BL)×Int)⊕(((List BL)))):=fun (b,a)=>
  if a < (c.length:Int) then
    (getI c a).bind fun g=>
    (m_d8 d e g).bind fun h=>
    if h=true then
      (m_du b f a).bind fun i=>
      m_g6 a i
    else
      m_g6 a b
  else
    some (.inr b)
def m_g8 (b:LI) (d:L2):(List BL)×Int→Option (((List BL)×Int)⊕(((List BL)))):=fun (c,a)=>
  if a < (b.length:Int) then
    (getI b a).bind fun e=>
    (sli b 0 a).bind fun f=>
    (loop (m_g7 f d e a) (c,0)).bind fun g=>
    some (.inl (g,wa .i64 a 1))
  else
    some (.inr c)
def m_g9 (b:L2) (a:LI):Option (L2):=
  (m_do (a.length:Int)).bind fun c=>
  (loop (m_g8 a b) (c,0)).bind fun d=>
  (m_dz d).bind fun e=>
  some e
def m_ha (a:L2) (b:LI):Option (L2×Int):=
  (m_ec a).bind fun c=>
  if c=0 then
    (m_g1 b a).bind fun d=>
    if d=true then
      some ([],3)
    else
      (m_g5 b).bind fun e=>
      if e=true then
        some ([],90)
      else
        (m_g9 a b).bind fun f=>
        some (f,0)
  else
    some ([],c)
def m_hb (b:LI) (d:LI):LI×Int→Option ((LI×Int)⊕(LI)):=fun (c,a)=>
  if a < (b.length:Int) then
    (getI b a).bind fun e=>
    (getI d e).bind fun f=>
    (app c [f]).bind fun g=>
    some (.inl (g,wa .i64 a 1))
  else
    some (.inr c)
def m_hc (rec:L2→Int→Option (LI)) (b:LI) (c:LI) (f:L2) (g:Int):LI×Int→Option ((LI×Int)⊕(LI)):=fun (d,a)=>
  if a < ([b,c].length:Int) then
    (getI [b,c] a).bind fun e=>
    (m_ha f e).bind fun h=>
    (rec h.1 g).bind fun i=>
    (loop (m_hb i e) (d,0)).bind fun j=>
    some (.inl (j,wa .i64 a 1))
  else
    some (.inr d)
def m_hd (rec:L2→Int→Option (LI)) (a:L2) (d:Int) (b:LI) (c:LI) (e:LI):Option (LI):=
  if ((decide ((b.length:Int)=0)) || (decide ((c.length:Int)=0)))=true then
    (m_gx a).bind fun f=>
    some f.1
  else
    (loop (m_hc rec b c a d) ([],0)).bind fun g=>
    (app g e).bind fun h=>
    some h
def m_he (rec:L2→Int→Option (LI)) (a:L2) (b:Int):Option (LI):=
  if b < (a.length:Int) then
    (m_gl a).bind fun c=>
    m_hd rec a b c.1 c.2.1 c.2.2
  else
    m_hd rec a b [] [] []
def m_hf:Nat→L2→Int→Option (LI)
  | 0=>fun _ _=>none
  | n+1=>m_he (m_hf n)
def m_hg (b:L2) (a:Int):Option (LI×Int):=
  (m_ec b).bind fun c=>
  if c=0 then
    if ((decide (a < 1)) || (decide ((200:Int) < a)))=true then
      some ([],1)
    else
      (m_hf FUEL b a).bind fun d=>
      some (d,0)
  else
    some ([],c)
def m_hh (c:LI) (f:Int):LI×BL×Int→Option ((LI×BL×Int)⊕((LI)⊕Unit)):=fun (d,e,b)=>
  if b < (c.length:Int) then
    (getI c b).bind fun a=>
    (if ((decide (a < 0)) || (decide (f≤a)))=true then
      some true
    else
      (getI e a).bind fun g=>
      some g).bind fun h=>
    if h=true then
      some (.inr (.inr ()))
    else
      (setI d a b).bind fun i=>
      (setI e a true).bind fun j=>
      some (.inl (i,j,wa .i64 b 1))
  else
    some (.inr (.inl d))
def m_hi (b:LI) (a:Int):Option (LI×Bool):=
  if (b.length:Int)=a then
    (mkL 0 a).bind fun c=>
    (mkL false a).bind fun d=>
    (loop (m_hh b a) (c,d,0)).bind (fun o=>match o with
      | .inl e=>
        some (e,true)
      | .inr ()=>
        some ([],false))
  else
    some ([],false)
def m_hj (a:List (Int×Int×Int)):Option ((List (Int×Int×Int))):=
  (app [] a).bind fun b=>
  some b
def m_hk (a:Int) (b:Int):Option (Int):=
  (m_c9 a).bind fun d=>
  (m_c9 b).bind fun c=>
  if d=true then
    if c=true then
      some 0
    else
      some (-1)
  else
    if c=true then
      some 1
    else
      if a < b then
        some (-1)
      else
        if b < a then
          some 1
        else
          some 0
def m_hl (b:LI):Int→Option ((Int)⊕(Unit⊕Int)):=fun a=>
  if a < (b.length:Int) then
    (getI b a).bind fun c=>
    if c=0 then
      some (.inl (wa .i64 a 1))
    else
      some (.inr (.inr c))
  else
    some (.inr (.inl ()))
def m_hm (a:LI):Option (Int):=
  (loop (m_hl a) 0).bind (fun o=>match o with
    | .inl ()=>
      some 0
    | .inr b=>
      some b)
def m_hn (a:Int) (b:Int) (h:Int) (c:Int) (d:Int) (i:Int):Option (Int):=
  (m_hk b d).bind fun e=>
  (m_hk a c).bind fun f=>
  (m_hm [e,f]).bind fun g=>
  some g
def m_ho (e:Int) (a:Int) (d:List (Int×Int×Int)):Unit→Option ((Unit)⊕(Unit)):=fun _=>
  (if e < a then
    (getI d a).bind fun b=>
    (getI d (ws .i64 a 1)).bind fun c=>
    (m_hn b.1 b.2.1 b.2.2 c.1 c.2.1 c.2.2).bind fun f=>
    some (decide (f < 0))
  else
    some false).bind fun g=>
  if g=true then
    none
  else
    some (.inr ())
def m_hp (b:Int) (c:Int) (d:List (Int×Int×Int)):Int→Option ((Int)⊕(Unit)):=fun a=>
  if a < b then
    (loop (m_ho c a d) ()).bind fun _=>
    some (.inl (wa .i64 a 1))
  else
    some (.inr ())
def m_hq (b:List (Int×Int×Int)) (a:Int) (c:Int):Option (Unit):=
  (loop (m_hp c a b) (wa .i64 a 1)).bind fun _=>
  some ()
def m_hr (a:Int) (b:Int):Unit→Option ((Unit)⊕(Unit)):=fun _=>
  if a < (ws .i64 b 1) then
    none
  else
    some (.inr ())
def m_hs (a:Int) (b:Int):Option ((Int)⊕(Unit)):=
  some (.inl (wc .i64 (wsrc .u64 (wc .u64 (wa .i64 a b)) 1)))
def m_ht (a:Int) (e:List (Int×Int×Int)) (f:Int):Int→Option ((Int)⊕(Unit)):=fun b=>
  if a < b then
    (getI e (wc .i64 (wsrc .u64 (wc .u64 (wa .i64 a b)) 1))).bind fun c=>
    (getI e f).bind fun d=>
    (m_hn c.1 c.2.1 c.2.2 d.1 d.2.1 d.2.2).bind fun g=>
    if g < 0 then
      none
    else
      m_hs a b
  else
    some (.inr ())
def m_hu (a:Int) (b:Int):Unit→Option ((Unit)⊕(Unit)):=fun _=>
  if a < b then
    none
  else
    some (.inr ())
def m_hv (a:Int) (b:Int):Option ((Int)⊕(Int)):=
  some (.inl (wa .i64 (wc .i64 (wsrc .u64 (wc .u64 (wa .i64 a b)) 1)) 1))
def m_hw (a:Int) (e:List (Int×Int×Int)):Int→Option ((Int)⊕(Int)):=fun b=>
  if b < a then
    (getI e a).bind fun c=>
    (getI e (wc .i64 (wsrc .u64 (wc .u64 (wa .i64 b a)) 1))).bind fun d=>
    (m_hn c.1 c.2.1 c.2.2 d.1 d.2.1 d.2.2).bind fun f=>
    if f < 0 then
      none
    else
      m_hv b a
  else
    some (.inr b)
def m_hx:Option (Unit):=
  some ()
def m_hy (rec:(List (Int×Int×Int))→Int→Int→Int→Option (Unit)) (b:Int) (a:Int) (c:Int) (d:Int) (e:List (Int×Int×Int)):Option (Unit):=
  if ((decide ((wc .i64 (wsrc .u64 (wc .u64 (wa .i64 b a)) 1)) < (ws .i64 (wa .i64 (wc .i64 (wsrc .u64 (wc .u64 (wa .i64 b a)) 1)) c) d))) && (decide ((ws .i64 (wa .i64 (wc .i64 (wsrc .u64 (wc .u64 (wa .i64 b a)) 1)) c) d) < a)))=true then
    (rec e (wc .i64 (wsrc .u64 (wc .u64 (wa .i64 b a)) 1)) (ws .i64 (wa .i64 (wc .i64 (wsrc .u64 (wc .u64 (wa .i64 b a)) 1)) c) d) a).bind fun f=>
    m_hx
  else
    m_hx
def m_hz (rec:(List (Int×Int×Int))→Int→Int→Int→Option (Unit)) (a:Int) (b:Int) (c:Int) (d:List (Int×Int×Int)) (e:Int):Option (Unit):=
  if ((decide (a < b)) && (decide (b < (wc .i64 (wsrc .u64 (wc .u64 (wa .i64 a c)) 1)))))=true then
    (rec d a b (wc .i64 (wsrc .u64 (wc .u64 (wa .i64 a c)) 1))).bind fun f=>
    m_hy rec a c e b d
  else
    m_hy rec a c e b d
def m_h0 (a:Int) (b:Int):Option ((Int)⊕(Int)):=
  some (.inl (wa .i64 (wc .i64 (wsrc .u64 (wc .u64 (wa .i64 a b)) 1)) 1))
def m_h1 (b:Int) (e:List (Int×Int×Int)) (f:Int) (g:Int) (h:Int):Int→Option ((Int)⊕(Int)):=fun a=>
  if a < b then
    (getI e (ws .i64 (ws .i64 (wa .i64 (wc .i64 (wsrc .u64 (wc .u64 (wa .i64 f g)) 1)) h) 1) (wc .i64 (wsrc .u64 (wc .u64 (wa .i64 a b)) 1)))).bind fun c=>
    (getI e (wc .i64 (wsrc .u64 (wc .u64 (wa .i64 a b)) 1))).bind fun d=>
    (m_hn c.1 c.2.1 c.2.2 d.1 d.2.1 d.2.2).bind fun i=>
    if i < 0 then
      none
    else
      m_h0 a b
  else
    some (.inr a)
def m_h2 (rec:(List (Int×Int×Int))→Int→Int→Int→Option (Unit)) (e:List (Int×Int×Int)) (b:Int) (c:Int) (a:Int) (f:Int) (g:Int):Option (Unit):=
  (loop (m_h1 g e b c a) f).bind fun d=>
  if ((decide (d < a)) && (decide (a < (ws .i64 (wa .i64 (wc .i64 (wsrc .u64 (wc .u64 (wa .i64 b c)) 1)) a) d))))=true then
    none
  else
    m_hz rec b d c e a
def m_h3 (rec:(List (Int×Int×Int))→Int→Int→Int→Option (Unit)) (d:List (Int×Int×Int)) (b:Int) (a:Int) (c:Int):Option (Unit):=
  if (ws .i64 a b)=1 then
    (loop (m_ht a d b) c).bind fun _=>
    (loop (m_hr b a) ()).bind fun _=>
    some ()
  else
    if (ws .i64 c a)=1 then
      (loop (m_hw a d) b).bind fun e=>
      (loop (m_hu e a) ()).bind fun _=>
      some ()
    else
      if (wc .i64 (wsrc .u64 (wc .u64 (wa .i64 b c)) 1)) < a then
        m_h2 rec d b c a (ws .i64 (wa .i64 (wc .i64 (wsrc .u64 (wc .u64 (wa .i64 b c)) 1)) a) c) (wc .i64 (wsrc .u64 (wc .u64 (wa .i64 b c)) 1))
      else
        m_h2 rec d b c a b a
def m_h4:Nat→(List (Int×Int×Int))→Int→Int→Int→Option (Unit)
  | 0=>fun _ _ _ _=>none
  | n+1=>m_h3 (m_h4 n)
def m_h5 (a:Int):Option ((Int)⊕(Unit)):=
  some (.inl (wm .i64 a 2))
def m_h6 (d:Int) (e:List (Int×Int×Int)) (c:Int):Int×Int→Option ((Int×Int)⊕(Int)):=fun (b,a)=>
  if a≤d then
    (m_h4 FUEL e b (wa .i64 b c) a).bind fun f=>
    some (.inl (a,wa .i64 a (wm .i64 2 c)))
  else
    some (.inr b)
def m_h7 (b:Int) (d:List (Int×Int×Int)):Int→Option ((Int)⊕(Unit)):=fun a=>
  if a < b then
    (loop (m_h6 b d a) (0,wm .i64 2 a)).bind fun c=>
    if (wa .i64 c a) < b then
      (m_h4 FUEL d c (wa .i64 c a) b).bind fun e=>
      m_h5 a
    else
      m_h5 a
  else
    some (.inr ())
def m_h8 (c:Int) (d:List (Int×Int×Int)):Int×Int→Option ((Int×Int)⊕(Int)):=fun (b,a)=>
  if a≤c then
    (m_hq d b a).bind fun e=>
    some (.inl (a,wa .i64 a 20))
  else
    some (.inr b)
def m_h9 (a:List (Int×Int×Int)) (b:Int):Option (Unit):=
  (loop (m_h8 b a) (0,20)).bind fun c=>
  (m_hq a c b).bind fun d=>
  (loop (m_h7 b a) 20).bind fun _=>
  some ()
def m_ia (a:List (Int×Int×Int)):Option (Unit):=
  (m_h9 a (a.length:Int)).bind fun b=>
  some ()
def m_ib (b:List (Int×Int×Int)):Option ((List (Int×Int×Int))):=
  (m_hj b).bind fun a=>
  (m_ia a).bind fun c=>
  some a
def m_ic (c:Int):LI×Int→Option ((LI×Int)⊕(LI)):=fun (b,a)=>
  if a < c then
    (getI b (wa .i64 a 1)).bind fun d=>
    (getI b a).bind fun e=>
    (setI b (wa .i64 a 1) (wa .i64 d e)).bind fun f=>
    some (.inl (f,wa .i64 a 1))
  else
    some (.inr b)
def m_id (d:(List (Int×Int×Int))):LI×LI×LI×Int→Option ((LI×LI×LI×Int)⊕((LI×LI×LI))):=fun (b,e,f,c)=>
  if c < (d.length:Int) then
    (getI d c).bind fun a=>
    (app e [a.1]).bind fun g=>
    (app f [a.2.2]).bind fun h=>
    (getI b (wa .i64 a.2.1 1)).bind fun i=>
    (setI b (wa .i64 a.2.1 1) (wa .i64 i 1)).bind fun j=>
    some (.inl (j,g,h,wa .i64 c 1))
  else
    some (.inr (b,e,f))
def m_ie (b:Int) (a:Int) (c:List (Int×Int×Int)):Option (Int×Int×LI×LI×LI):=
  (mkL 0 (wa .i64 a 1)).bind fun d=>
  (m_ib c).bind fun e=>
  (loop (m_id e) (d,[],[],0)).bind fun (f,g,h)=>
  (loop (m_ic a) (f,0)).bind fun i=>
  some (b,a,i,g,h)
def m_if (a:Int) (b:List (Int×Int×Int)):Option (((List (Int×Int×Int))×Int)⊕(((List (Int×Int×Int))))):=
  some (.inl (b,wa .i64 a 1))
def m_ig (d:(List (Int×Int×Int))):(List (Int×Int×Int))×Int→Option (((List (Int×Int×Int))×Int)⊕(((List (Int×Int×Int))))):=fun (c,b)=>
  if b < (d.length:Int) then
    (getI d b).bind fun a=>
    if a.2.1≤a.1 then
      (app c [(a.1,a.2.1,a.2.2)]).bind fun e=>
      m_if b e
    else
      m_if b c
  else
    some (.inr c)
def m_ih (b:Int) (c:Int) (d:LI) (e:LI) (f:LI):Option (Int×Int×LI×LI×LI×Int):=
  (m_dm b c d e f).bind fun g=>
  if g=0 then
    (m_dr b c d e f).bind fun h=>
    (loop (m_ig h) ([],0)).bind fun i=>
    (m_ie b c i).bind fun a=>
    some (a.1,a.2.1,a.2.2.1,a.2.2.2.1,a.2.2.2.2,0)
  else
    some (0,0,[],[],[],g)
def m_ii (a:Int) (b:L2):Option (Bool):=
  (m_e3 b a).bind fun c=>
  some (!(c))
def m_ij (b:LI) (c:L2):Int→Option ((Int)⊕(Unit⊕Int)):=fun a=>
  if a < (b.length:Int) then
    (getI b a).bind fun d=>
    (m_ii d c).bind fun e=>
    if e=true then
      some (.inr (.inr a))
    else
      some (.inl (wa .i64 a 1))
  else
    some (.inr (.inl ()))
def m_ik (a:LI) (b:L2):Option (Int):=
  (loop (m_ij a b) 0).bind (fun o=>match o with
    | .inl ()=>
      some (-1)
    | .inr c=>
      some c)
def m_il (a:LI) (b:L2):Option (Bool):=
  (m_ik a b).bind fun c=>
  some (decide ((0:Int)≤c))
def m_im (a:L2) (b:LI):Option (Int):=
  (m_ec a).bind fun c=>
  if c=0 then
    if (b.length:Int)=(a.length:Int) then
      (m_il b a).bind fun d=>
      (if d=true then
        some true
      else
        (m_g5 b).bind fun e=>
        some e).bind fun f=>
      if f=true then
        some 90
      else
        some 0
    else
      some 2
  else
    some c
def m_in (a:L2) (b:LI):Option (L2×Int):=
  (m_im a b).bind fun c=>
  if c=0 then
    (m_g9 a b).bind fun d=>
    some (d,0)
  else
    some ([],c)
def m_io (b:LI):Int→Option ((Int)⊕(Int)):=fun a=>
  (if (0:Int) < a then
    (getI b (ws .i64 a 1)).bind fun c=>
    some (decide (c=0))
  else
    some false).bind fun d=>
  if d=true then
    some (.inl (ws .i64 a 1))
  else
    some (.inr a)
def m_ip (a:LI):Option (LI):=
  (loop (m_io a) (a.length:Int)).bind fun b=>
  (sli a 0 b).bind fun c=>
  some c
def m_iq (b:Bool) (c:LI):Option (Bool×LI):=
  (m_ip c).bind fun a=>
  if (a.length:Int)=0 then
    some (false,[])
  else
    some (b,a)
def m_ir (c:Int) (a:Int):Option (Bool×LI):=
  (m_iq (decide (c < 0)) [wc .u32 (wand .u64 a 4294967295),wc .u32 (wsrc .u64 a 32)]).bind fun b=>
  some (b.1,b.2)
def m_is (a:Int):Option (Bool×LI):=
  if a < 0 then
    m_ir a (wneg .u64 (wc .u64 a))
  else
    m_ir a (wc .u64 a)
def m_it (a:Int):Option (Bool):=
  some (!(decide ((wand .u64 a 9223372036854775808)=0)))
def m_iu (a:LI):Option (LI):=
  (app [] a).bind fun b=>
  some b
def m_iv (b:Bool) (c:LI):Option (Bool×LI):=
  (m_iu c).bind fun d=>
  (m_iq (!(b)) d).bind fun a=>
  some (a.1,a.2)
def m_iw:Option (Bool×Bool×Int):=
  some (true,false,0)
def m_ix (b:Bool) (c:LI):Option (Bool×LI):=
  (m_iu c).bind fun d=>
  (m_iq b d).bind fun a=>
  some (a.1,a.2)
def m_iy (a:Bool) (b:LI):Option (Int):=
  (m_ip b).bind fun c=>
  if (c.length:Int)=0 then
    some 0
  else
    if a=true then
      some (-1)
    else
      some 1
def m_iz (b:LI):Int→Option ((Int)⊕(Unit⊕Int)):=fun a=>
  if a < (b.length:Int) then
    (getI b a).bind fun c=>
    if c=0 then
      some (.inl (wa .i64 a 1))
    else
      (tz32 c).bind fun d=>
      some (.inr (.inr (wa .i64 (wm .i64 a 32) d)))
  else
    some (.inr (.inl ()))
def m_i0 (c:Bool) (a:LI):Option (Int):=
  (loop (m_iz a) 0).bind (fun o=>match o with
    | .inl ()=>
      some 0
    | .inr b=>
      some b)
def m_i1 (a:LI):Option (Int):=
  if (a.length:Int)=0 then
    some 0
  else
    (getI a (ws .i64 (a.length:Int) 1)).bind fun b=>
    (m_be b).bind fun c=>
    some (wa .i64 (wm .i64 (ws .i64 (a.length:Int) 1) 32) c)
def m_i2 (d:Bool) (a:LI):Option (Int):=
  (m_ip a).bind fun b=>
  (m_i1 b).bind fun c=>
  some c
def m_i3 (d:LI) (b:Int):LI×Int→Option ((LI×Int)⊕(LI)):=fun (c,a)=>
  if a < (d.length:Int) then
    (getI d a).bind fun f=>
    (wshl .u64 (wc .u64 f) (wc .u64 (wrc b 32))).bind fun e=>
    (getI c (wa .i64 (wqc .i64 b 32) a)).bind fun g=>
    (setI c (wa .i64 (wqc .i64 b 32) a) (wor .u32 g (wc .u32 (wand .u64 e 4294967295)))).bind fun h=>
    (setI h (wa .i64 (wa .i64 (wqc .i64 b 32) a) 1) (wc .u32 (wsrc .u64 e 32))).bind fun i=>
    some (.inl (i,wa .i64 a 1))
  else
    some (.inr c)
def m_i4 (a:LI) (b:Int):Option (LI):=
  if (a.length:Int)=0 then
    some []
  else
    (mkL 0 (wa .i64 (wa .i64 (wqc .i64 b 32) (a.length:Int)) 1)).bind fun c=>
    (loop (m_i3 a b) (c,0)).bind fun d=>
    (m_ip d).bind fun e=>
    some e
def m_i5 (a:Int):Option (Bool):=
  some (!(decide (a=0)))
def m_i6 (b:LI):Int→Option ((Int)⊕(Unit⊕Int)):=fun a=>
  if a < (b.length:Int) then
    (getI b a).bind fun c=>
    (m_i5 c).bind fun d=>
    if d=true then
      some (.inr (.inr a))
    else
      some (.inl (wa .i64 a 1))
  else
    some (.inr (.inl ()))
def m_i7 (a:LI):Option (Int):=
  (loop (m_i6 a) 0).bind (fun o=>match o with
    | .inl ()=>
      some (-1)
    | .inr b=>
      some b)
def m_i8 (a:LI):Option (Bool):=
  (m_i7 a).bind fun b=>
  some (decide ((0:Int)≤b))
def m_i9 (b:Int) (c:LI) (a:Int) (d:Int):Option ((LI×Int)⊕(LI)):=
  (wshr .u64 d (wc .u64 (wrc b 32))).bind fun e=>
  (setI c a (wc .u32 (wand .u64 e 4294967295))).bind fun f=>
  some (.inl (f,wa .i64 a 1))
def m_ja (f:LI) (c:LI) (b:Int):LI×Int→Option ((LI×Int)⊕(LI)):=fun (d,a)=>
  if a < (f.length:Int) then
    (getI c (wa .i64 (wqc .i64 b 32) a)).bind fun e=>
    if (wa .i64 (wa .i64 (wqc .i64 b 32) a) 1) < (c.length:Int) then
      (getI c (wa .i64 (wa .i64 (wqc .i64 b 32) a) 1)).bind fun g=>
      m_i9 b d a (wor .u64 (wc .u64 e) (wslc .u64 (wc .u64 g) 32))
    else
      m_i9 b d a (wc .u64 e)
  else
    some (.inr d)
def m_jb (a:LI) (b:Int):Option (LI×Bool):=
  if (a.length:Int)≤(wqc .i64 b 32) then
    some ([],decide ((0:Int) < (a.length:Int)))
  else
    (sli a 0 (wqc .i64 b 32)).bind fun d=>
    (m_i8 d).bind fun e=>
    (if e=true then
      some true
    else
      (getI a (wqc .i64 b 32)).bind fun f=>
      (wshl .u32 1 (wc .u64 (wrc b 32))).bind fun g=>
      some (!(decide ((wand .u32 f (ws .u32 g 1))=0)))).bind fun h=>
    (mkL 0 (ws .i64 (a.length:Int) (wqc .i64 b 32))).bind fun c=>
    (loop (m_ja c a b) (c,0)).bind fun i=>
    (m_ip i).bind fun j=>
    some (j,h)
def m_jc (b:LI) (c:Int) (a:Int):Option ((LI×Int×Int)⊕((LI×Int))):=
  (app b [wc .u32 (wand .u64 a 4294967295)]).bind fun d=>
  some (.inl (d,wsrc .u64 a 32,wa .i64 c 1))
def m_jd (d:LI) (e:LI):LI×Int×Int→Option ((LI×Int×Int)⊕((LI×Int))):=fun (b,c,a)=>
  if a < (d.length:Int) then
    (getI d a).bind fun f=>
    if a < (e.length:Int) then
      (getI e a).bind fun g=>
      m_jc b a (wa .u64 (wa .u64 (wc .u64 f) c) (wc .u64 g))
    else
      m_jc b a (wa .u64 (wc .u64 f) c)
  else
    some (.inr (b,c))
def m_je (a:LI) (b:LI):Option (LI):=
  (mkLc 0 0 (wa .i64 (a.length:Int) 1)).bind fun c=>
  (loop (m_jd a b) (c,0,0)).bind fun (d,e)=>
  (app d [wc .u32 e]).bind fun f=>
  (m_ip f).bind fun g=>
  some g
def m_jf (a:LI) (b:LI):Option (LI):=
  if (a.length:Int) < (b.length:Int) then
    m_je b a
  else
    m_je a b
def m_jg (b:Bool) (c:LI):Option (Bool×LI×Int):=
  (m_iq b c).bind fun a=>
  some (a.1,a.2,0)
def m_jh (b:Bool) (f:LI) (a:Int):Option (Bool×LI×Int):=
  if ((decide (a < (-1048576))) || (decide ((1048576:Int) < a)))=true then
    some (false,[],3)
  else
    (m_ip f).bind fun d=>
    if (0:Int)≤a then
      (m_i4 d a).bind fun g=>
      (m_iq b g).bind fun e=>
      some (e.1,e.2,0)
    else
      (m_jb d (wneg .i64 a)).bind fun c=>
      if (b && c.2)=true then
        (m_jf c.1 [1]).bind fun h=>
        m_jg b h
      else
        m_jg b c.1
def m_ji:Int×Bool×LI→Option ((Int×Bool×LI)⊕((Int×Bool×LI))):=fun (a,b,c)=>
  if (1048576:Int) < a then
    (m_jh b c (-1048576)).bind fun d=>
    some (.inl (ws .i64 a 1048576,d.1,d.2.1))
  else
    some (.inr (a,b,c))
def m_jj (b:Bool) (c:LI) (d:Int):Option (Bool×LI):=
  (loop (m_ji) (d,b,c)).bind fun (e,f,g)=>
  (m_jh f g (wneg .i64 e)).bind fun a=>
  some (a.1,a.2.1)
def m_jk (g:Bool) (h:Bool) (i:LI) (b:Int):Option (Bool×Bool×LI×Int×Bool):=
  if g=true then
    (m_iw).bind fun c=>
    some (c.1,c.2.1,[],c.2.2,false)
  else
    (m_ix h i).bind fun a=>
    (m_iy a.1 a.2).bind fun j=>
    if j=0 then
      some (false,false,[],0,true)
    else
      (m_i0 a.1 a.2).bind fun d=>
      (m_i2 a.1 a.2).bind fun k=>
      (if (ws .i64 65536 k) < b then
        some true
      else
        some (decide (b < (ws .i64 (-65536) d)))).bind fun l=>
      if l=true then
        (m_iw).bind fun e=>
        some (e.1,e.2.1,[],e.2.2,false)
      else
        (m_jj a.1 a.2 d).bind fun f=>
        some (false,f.1,f.2,wa .i64 b d,true)
def m_jl (b:Bool) (c:LI) (d:Int):Option (Bool×Bool×LI×Int):=
  (m_jk false b c d).bind fun a=>
  some (a.1,a.2.1,a.2.2.1,a.2.2.2.1)
def m_jm (b:Int) (c:Bool) (d:LI):Option (Bool×Bool×LI×Int):=
  (m_jl c d b).bind fun a=>
  some (a.1,a.2.1,a.2.2.1,a.2.2.2)
def m_jn (d:Int) (b:Int) (e:Int):Option (Bool×Bool×LI×Int):=
  (m_is (wc .i64 e)).bind fun a=>
  (m_it d).bind fun f=>
  if f=true then
    (m_iv a.1 a.2).bind fun c=>
    m_jm b c.1 c.2
  else
    m_jm b a.1 a.2
def m_jo (b:Int):Option (Bool×Bool×LI×Int):=
  (m_dg b).bind fun a=>
  if a.1=2047 then
    some (true,false,[],0)
  else
    if a.1=0 then
      m_jn b (-1074) a.2
    else
      m_jn b (ws .i64 a.1 1075) (wor .u64 a.2 4503599627370496)
def m_jp (a:Int) (b:List (Option (List (Int×(Bool×Bool×LI×Int))))):Option (((List (Option (List (Int×(Bool×Bool×LI×Int)))))×Int)⊕(((List (Option (List (Int×(Bool×Bool×LI×Int)))))))):=
  some (.inl (b,wa .i64 a 1))
def m_jq (i:LI) (d:Int) (j:LI) (g:LI×Bool) (k:LI):(List (Option (List (Int×(Bool×Bool×LI×Int)))))×Int→Option (((List (Option (List (Int×(Bool×Bool×LI×Int)))))×Int)⊕(((List (Option (List (Int×(Bool×Bool×LI×Int)))))))):=fun (b,a)=>
  (getI i (wa .i64 d 1)).bind fun l=>
  if a < l then
    (getI j a).bind fun h=>
    if d≤h then
      (getI g.1 h).bind fun e=>
      (getI g.1 d).bind fun f=>
      (getM b (imin e f)).bind fun m=>
      (getI k a).bind fun n=>
      (m_jo n).bind fun c=>
      (setM b (imin e f) (mput m (imax e f) (c.1,c.2.1,c.2.2.1,c.2.2.2))).bind fun o=>
      m_jp a o
    else
      m_jp a b
  else
    some (.inr b)
def m_jr (d:Int) (b:LI) (e:LI) (f:LI×Bool) (g:LI):(List (Option (List (Int×(Bool×Bool×LI×Int)))))×Int→Option (((List (Option (List (Int×(Bool×Bool×LI×Int)))))×Int)⊕(((List (Option (List (Int×(Bool×Bool×LI×Int)))))))):=fun (c,a)=>
  if a < d then
    (getI b a).bind fun h=>
    (loop (m_jq b a e f g) (c,h)).bind fun i=>
    some (.inl (i,wa .i64 a 1))
  else
    some (.inr c)
def m_js (c:List (Option (List (Int×(Bool×Bool×LI×Int))))):(List (Option (List (Int×(Bool×Bool×LI×Int)))))×Int→Option (((List (Option (List (Int×(Bool×Bool×LI×Int)))))×Int)⊕(((List (Option (List (Int×(Bool×Bool×LI×Int)))))))):=fun (b,a)=>
  if a < (c.length:Int) then
    (setM b a ([]:List (Int×(Bool×Bool×LI×Int)))).bind fun d=>
    some (.inl (d,wa .i64 a 1))
  else
    some (.inr b)
def m_jt (c:Int) (a:Int) (d:LI) (e:LI) (f:LI) (g:LI):Option (L2×(List (Option (List (Int×(Bool×Bool×LI×Int)))))×Int):=
  (m_dm c a d e f).bind fun j=>
  if j=0 then
    if c=a then
      (m_hi g a).bind fun h=>
      if h.2=true then
        (m_ih c a d e f).bind fun b=>
        (m_d1 b.1 b.2.1 b.2.2.1 b.2.2.2.1 b.2.2.2.2.1).bind fun k=>
        (m_in k.1 g).bind fun l=>
        (mkL (none:Option (List (Int×(Bool×Bool×LI×Int)))) a).bind fun i=>
        (loop (m_js i) (i,0)).bind fun m=>
        (loop (m_jr a d e h f) (m,0)).bind fun n=>
        some (l.1,n,0)
      else
        none
    else
      none
  else
    none
def m_ju (d:Int):LI×LI×Int→Option ((LI×LI×Int)⊕((LI×LI))):=fun (b,c,a)=>
  if a < d then
    (setI b a (-1)).bind fun e=>
    (setI c a (-1)).bind fun f=>
    some (.inl (e,f,wa .i64 a 1))
  else
    some (.inr (b,c))
def m_jv (a:Int):Option (LI×LI):=
  (mkL 0 a).bind fun b=>
  (mkL 0 a).bind fun c=>
  (loop (m_ju a) (b,c,0)).bind fun (d,e)=>
  some (d,e)
def m_jw (a:LI) (b:Int) (c:LI):Option ((LI×LI×Int)⊕((LI×LI))):=
  some (.inl (c,a,b))
def m_jx (b:Int):LI×LI×Int→Option ((LI×LI×Int)⊕((LI×LI))):=fun (c,d,a)=>
  if ((!(decide (a=(-1)))) && (decide (a < b)))=true then
    (getI d a).bind fun e=>
    (setI d a b).bind fun f=>
    if e=(-1) then
      (setI c a b).bind fun g=>
      m_jw f e g
    else
      m_jw f e c
  else
    some (.inr (c,d))
def m_jy (a:LI) (b:LI) (c:Int) (d:Int):Option (LI×LI):=
  (loop (m_jx d) (a,b,c)).bind fun (e,f)=>
  some (e,f)
def m_jz (b:LI) (f:Int):LI×LI×Int→Option ((LI×LI×Int)⊕((LI×LI))):=fun (c,d,a)=>
  if a < (b.length:Int) then
    (getI b a).bind fun g=>
    (m_jy c d g f).bind fun e=>
    some (.inl (e.1,e.2,wa .i64 a 1))
  else
    some (.inr (c,d))
def m_j0 (b:L2):LI×LI×Int→Option ((LI×LI×Int)⊕((LI×LI))):=fun (c,d,a)=>
  if a < (b.length:Int) then
    (getI b a).bind fun e=>
    (loop (m_jz e a) (c,d,0)).bind fun (f,g)=>
    some (.inl (f,g,wa .i64 a 1))
  else
    some (.inr (c,d))
def m_j1 (a:L2):Option (LI×Int):=
  (m_ec a).bind fun b=>
  if b=0 then
    (m_jv (a.length:Int)).bind fun c=>
    (loop (m_j0 a) (c.1,c.2,0)).bind fun (d,e)=>
    some (d,0)
  else
    some ([],b)
def m_j2 (a:Int) (b:LI):Option ((LI×Int)⊕(LI)):=
  some (.inl (b,wa .i64 a 1))
def m_j3 (c:BL):LI×Int→Option ((LI×Int)⊕(LI)):=fun (b,a)=>
  if a < (c.length:Int) then
    (getI c a).bind fun d=>
    if d=true then
      (app b [a]).bind fun e=>
      m_j2 a e
    else
      m_j2 a b
  else
    some (.inr b)
def m_j4 (c:Int) (d:LI):BL×Int→Option ((BL×Int)⊕(BL)):=fun (b,a)=>
  (if ((decide ((0:Int)≤a)) && (decide (a < c)))=true then
    (getI b a).bind fun e=>
    some (!(e))
  else
    some false).bind fun f=>
  if f=true then
    (setI b a true).bind fun g=>
    (getI d a).bind fun h=>
    some (.inl (g,h))
  else
    some (.inr b)
def m_j5 (b:LI) (d:Int) (e:LI):BL×Int→Option ((BL×Int)⊕(BL)):=fun (c,a)=>
  if a < (b.length:Int) then
    (getI b a).bind fun f=>
    (loop (m_j4 d e) (c,f)).bind fun g=>
    some (.inl (g,wa .i64 a 1))
  else
    some (.inr c)
def m_j6 (b:L2) (c:LI) (a:Int):Option (LI):=
  (mkL false (wa .i64 a 1)).bind fun d=>
  (setI d a true).bind fun e=>
  (getI b a).bind fun f=>
  (loop (m_j5 f a c) (e,0)).bind fun g=>
  (loop (m_j3 g) ([],0)).bind fun h=>
  some h
def m_j7 (c:LI) (e:Int):L2×Int→Option ((L2×Int)⊕(L2)):=fun (a,b)=>
  if b < (c.length:Int) then
    (getI c b).bind fun d=>
    (getI a d).bind fun f=>
    (app f [e]).bind fun g=>
    (setI a d g).bind fun h=>
    some (.inl (h,wa .i64 b 1))
  else
    some (.inr a)
def m_j8 (b:LI×Int) (d:L2):L2×Int→Option ((L2×Int)⊕(L2)):=fun (c,a)=>
  if a < (b.1.length:Int) then
    (m_j6 d b.1 a).bind fun e=>
    (loop (m_j7 e a) (c,0)).bind fun f=>
    some (.inl (f,wa .i64 a 1))
  else
    some (.inr c)
def m_j9 (b:L2):Option (L2×Int):=
  (m_j1 b).bind fun a=>
  if a.2=0 then
    (mkL ([]:LI) (a.1.length:Int)).bind fun c=>
    (loop (m_j8 a b) (c,0)).bind fun d=>
    some (d,0)
  else
    some ([],a.2)
def m_ka (a:Int) (b:L2):Option ((L2×Int)⊕(L2)):=
  some (.inl (b,wa .i64 a 1))
def m_kb (d:LI) (e:Int):L2×Int→Option ((L2×Int)⊕(L2)):=fun (a,b)=>
  if b < (d.length:Int) then
    (getI d b).bind fun c=>
    if e < c then
      (getI a c).bind fun f=>
      (app f [e]).bind fun g=>
      (setI a c g).bind fun h=>
      m_ka b h
    else
      m_ka b a
  else
    some (.inr a)
def m_kc (b:L2×Int):L2×Int→Option ((L2×Int)⊕(L2)):=fun (c,a)=>
  if a < (b.1.length:Int) then
    (getI b.1 a).bind fun d=>
    (loop (m_kb d a) (c,0)).bind fun e=>
    some (.inl (e,wa .i64 a 1))
  else
    some (.inr c)
def m_kd (a:Int) (c:L2) (h:List (Option (List (Int×(Bool×Bool×LI×Int))))):Option (L2×L2×(List (Option (List (Int×(Bool×Bool×LI×Int)))))×L2):=
  (m_j9 c).bind fun b=>
  (mkL ([]:LI) a).bind fun d=>
  (mkL (none:Option (List (Int×(Bool×Bool×LI×Int)))) a).bind fun e=>
  (mkL ([]:LI) a).bind fun f=>
  (loop (m_kc b) (f,0)).bind fun g=>
  some (b.1,d,e,g)
def m_ke (f:Int) (g:L2) (d:List (Option (List (Int×(Bool×Bool×LI×Int))))) (b:Int) (c:Int):Option (Bool×Bool×LI×Int):=
  (getM d (imin b c)).bind fun e=>
  (mlkD e (imax b c) (false,false,[],0)).bind fun a=>
  some (a.1,a.2.1,a.2.2.1,a.2.2.2)
def m_kf (c:Bool) (d:Bool) (e:LI) (f:Int) (g:Bool) (h:Bool) (i:LI) (j:Int):Option (Bool×Bool×LI×Int×Bool×Bool×LI×Int×Bool):=
  (m_jk c d e f).bind fun a=>
  (m_jk g h i j).bind fun b=>
  (if a.2.2.2.2=true then
    some b.2.2.2.2
  else
    some false).bind fun k=>
  some (a.1,a.2.1,a.2.2.1,a.2.2.2.1,b.1,b.2.1,b.2.2.1,b.2.2.2.1,k)
def m_kg (d:LI) (e:Int) (f:Int):LI×Int×Int→Option ((LI×Int×Int)⊕((LI×Int))):=fun (b,c,a)=>
  if a < (d.length:Int) then
    (getI d a).bind fun g=>
    (getI b (wa .i64 e a)).bind fun h=>
    (setI b (wa .i64 e a) (wc .u32 (wand .u64 (wa .u64 (wa .u64 (wm .u64 (wc .u64 f) (wc .u64 g)) (wc .u64 h)) c) 4294967295))).bind fun i=>
    some (.inl (i,wsrc .u64 (wa .u64 (wa .u64 (wm .u64 (wc .u64 f) (wc .u64 g)) (wc .u64 h)) c) 32,wa .i64 a 1))
  else
    some (.inr (b,c))
def m_kh (b:LI) (c:LI):LI×Int→Option ((LI×Int)⊕(LI)):=fun (d,a)=>
  if a < (b.length:Int) then
    (getI b a).bind fun e=>
    (loop (m_kg c a e) (d,0,0)).bind fun (f,g)=>
    (setI f (wa .i64 a (c.length:Int)) (wc .u32 g)).bind fun h=>
    some (.inl (h,wa .i64 a 1))
  else
    some (.inr d)
def m_ki (a:LI) (b:LI):Option (LI):=
  if ((decide ((a.length:Int)=0)) || (decide ((b.length:Int)=0)))=true then
    some []
  else
    (mkL 0 (wa .i64 (a.length:Int) (b.length:Int))).bind fun c=>
    (loop (m_kh a b) (c,0)).bind fun d=>
    (m_ip d).bind fun e=>
    some e
def m_kj (b:Bool) (c:LI) (d:Bool) (e:LI):Option (Bool×LI):=
  (m_ip c).bind fun f=>
  (m_ip e).bind fun g=>
  (m_ki f g).bind fun h=>
  (m_iq (!((b == d))) h).bind fun a=>
  some (a.1,a.2)
def m_kk (e:Bool) (f:Bool) (g:LI) (h:Int) (i:Bool) (j:Bool) (k:LI) (l:Int):Option (Bool×Bool×LI×Int):=
  (m_kf e f g h i j k l).bind fun a=>
  if a.2.2.2.2.2.2.2.2=true then
    (m_kj a.2.1 a.2.2.1 a.2.2.2.2.2.1 a.2.2.2.2.2.2.1).bind fun d=>
    (m_jl d.1 d.2 (wa .i64 a.2.2.2.1 a.2.2.2.2.2.2.2.1)).bind fun b=>
    some (b.1,b.2.1,b.2.2.1,b.2.2.2)
  else
    (m_iw).bind fun c=>
    some (c.1,c.2.1,[],c.2.2)
def m_kl (a:Bool×Bool×LI×Int×Bool) (b:Bool) (c:LI):Option (Bool×Bool×LI×Int):=
  some (a.1,b,c,a.2.2.2.1)
def m_km (c:Bool) (d:Bool) (e:LI) (f:Int):Option (Bool×Bool×LI×Int):=
  (m_jk c d e f).bind fun a=>
  if a.2.2.2.2=true then
    (m_iv a.2.1 a.2.2.1).bind fun b=>
    m_kl a b.1 b.2
  else
    m_kl a a.2.1 a.2.2.1
def m_kn (b:Bool) (c:LI) (d:Int):Option (Bool×LI):=
  (m_jh b c d).bind fun a=>
  some (a.1,a.2.1)
def m_ko (a:Int):Option (Bool):=
  some (!(decide (a=a)))
def m_kp (a:Int) (b:Int):Option (Int):=
  (m_ko a).bind fun d=>
  (m_ko b).bind fun c=>
  if d=true then
    if c=true then
      some 0
    else
      some (-1)
  else
    if c=true then
      some 1
    else
      if a < b then
        some (-1)
      else
        if b < a then
          some 1
        else
          some 0
def m_kq (b:LI) (c:LI):Int→Option ((Int)⊕(Unit⊕Int)):=fun a=>
  if (0:Int)≤a then
    (getI b a).bind fun d=>
    (getI c a).bind fun e=>
    if d=e then
      some (.inl (ws .i64 a 1))
    else
      (getI b a).bind fun f=>
      (getI c a).bind fun g=>
      (m_kp f g).bind fun h=>
      some (.inr (.inr h))
  else
    some (.inr (.inl ()))
def m_kr (a:LI) (b:LI):Option (Int):=
  if (a.length:Int)=(b.length:Int) then
    (loop (m_kq a b) (ws .i64 (a.length:Int) 1)).bind (fun o=>match o with
      | .inl ()=>
        some 0
      | .inr c=>
        some c)
  else
    (m_hk (a.length:Int) (b.length:Int)).bind fun d=>
    some d
def m_ks (c:LI) (a:Int) (b:Int):Option ((LI×Int×Int)⊕(LI)):=
  (setI c a (wc .u32 (wand .u64 b 4294967295))).bind fun d=>
  some (.inl (d,wand .u64 (wsrc .u64 b 32) 1,wa .i64 a 1))
def m_kt (c:LI) (d:LI):LI×Int×Int→Option ((LI×Int×Int)⊕(LI)):=fun (b,e,a)=>
  if a < (c.length:Int) then
    (getI c a).bind fun f=>
    if a < (d.length:Int) then
      (getI d a).bind fun g=>
      m_ks b a (ws .u64 (ws .u64 (wc .u64 f) e) (wc .u64 g))
    else
      m_ks b a (ws .u64 (wc .u64 f) e)
  else
    some (.inr b)
def m_ku (a:LI) (b:LI):Option (LI):=
  (mkL 0 (a.length:Int)).bind fun c=>
  (loop (m_kt a b) (c,0,0)).bind fun d=>
  (m_ip d).bind fun e=>
  some e
def m_kv (c:Bool) (h:LI) (d:Bool) (i:LI):Option (Bool×LI):=
  (m_ip h).bind fun a=>
  (m_ip i).bind fun b=>
  if (c == d)=true then
    (m_jf a b).bind fun j=>
    (m_iq c j).bind fun e=>
    some (e.1,e.2)
  else
    (m_kr a b).bind fun k=>
    if (0:Int)≤k then
      (m_ku a b).bind fun l=>
      (m_iq c l).bind fun f=>
      some (f.1,f.2)
    else
      (m_ku b a).bind fun m=>
      (m_iq d m).bind fun g=>
      some (g.1,g.2)
def m_kw (c:List (Bool×Bool×LI×Int)) (h:Int):Bool×LI×Int→Option ((Bool×LI×Int)⊕((Bool×LI))):=fun (d,e,a)=>
  if a < (c.length:Int) then
    (getI c a).bind fun b=>
    (m_kn b.2.1 b.2.2.1 (ws .i64 b.2.2.2 h)).bind fun f=>
    (m_kv d e f.1 f.2).bind fun g=>
    some (.inl (g.1,g.2,wa .i64 a 1))
  else
    some (.inr (d,e))
def m_kx (e:List (Bool×Bool×LI×Int)):(List (Bool×Bool×LI×Int))×Int×Int→Option (((List (Bool×Bool×LI×Int))×Int×Int)⊕(((List (Bool×Bool×LI×Int))×Int)⊕(Bool×Bool×Int))):=fun (f,g,c)=>
  if c < (e.length:Int) then
    (getI e c).bind fun b=>
    (m_jk b.1 b.2.1 b.2.2.1 b.2.2.2).bind fun a=>
    if a.2.2.2.2=true then
      (app f [(a.1,a.2.1,a.2.2.1,a.2.2.2.1)]).bind fun h=>
      some (.inl (h,imin g a.2.2.2.1,wa .i64 c 1))
    else
      (m_iw).bind fun d=>
      some (.inr (.inr (d.1,d.2.1,d.2.2)))
  else
    some (.inr (.inl (f,g)))
def m_ky (c:List (Bool×Bool×LI×Int)):Option (Bool×Bool×LI×Int):=
  (loop (m_kx c) ([],0,0)).bind (fun o=>match o with
    | .inl (d,b)=>
      (loop (m_kw d b) (false,[],0)).bind fun (e,f)=>
      (m_jl e f b).bind fun a=>
      some (a.1,a.2.1,a.2.2.1,a.2.2.2)
    | .inr (g,h,i)=>
      some (g,h,[],i))
def m_kz (a:Int) (b:List (Bool×Bool×LI×Int)):Option (((List (Bool×Bool×LI×Int))×Int)⊕(((List (Bool×Bool×LI×Int))))):=
  some (.inl (b,wa .i64 a 1))
def m_k0 (g:LI) (h:List (Option (List (Int×(Bool×Bool×LI×Int))))) (i:Int) (l:Int):(List (Bool×Bool×LI×Int))×Int→Option (((List (Bool×Bool×LI×Int))×Int)⊕(((List (Bool×Bool×LI×Int))))):=fun (f,a)=>
  if a < (g.length:Int) then
    (getI g a).bind fun j=>
    (getM h j).bind fun k=>
    (mlkD k i (false,false,[],0)).bind fun b=>
    if ((mget k i).isSome)=true then
      (getM h j).bind fun m=>
      (mlkD m l (false,false,[],0)).bind fun c=>
      (m_kk b.1 b.2.1 b.2.2.1 b.2.2.2 c.1 c.2.1 c.2.2.1 c.2.2.2).bind fun d=>
      (m_km d.1 d.2.1 d.2.2.1 d.2.2.2).bind fun e=>
      (app f [(e.1,e.2.1,e.2.2.1,e.2.2.2)]).bind fun n=>
      m_kz a n
    else
      m_kz a f
  else
    some (.inr f)
def m_k1 (l:L2) (m:L2) (e:List (Option (List (Int×(Bool×Bool×LI×Int))))) (f:L2) (g:Int) (h:L2) (i:List (Option (List (Int×(Bool×Bool×LI×Int))))) (d:Int) (c:Int):Option (Bool×Bool×LI×Int):=
  (m_ke g h i d c).bind fun a=>
  (getI f c).bind fun j=>
  (loop (m_k0 j e d c) ([(a.1,a.2.1,a.2.2.1,a.2.2.2)],0)).bind fun k=>
  (m_ky k).bind fun b=>
  some (b.1,b.2.1,b.2.2.1,b.2.2.2)
def m_k2 (b:Bool) (c:Bool) (d:LI) (e:Int):Option (Int):=
  (m_jk b c d e).bind fun a=>
  (m_iy a.2.1 a.2.2.1).bind fun f=>
  some f
def m_k3 (b:Bool) (c:Bool) (d:LI) (e:Int):Option (Bool×Bool×LI×Int):=
  (m_jk b c d e).bind fun a=>
  some (a.1,a.2.1,a.2.2.1,a.2.2.2.1)
def m_k4 (f:LI) (c:Int):LI×Int×Int→Option ((LI×Int×Int)⊕((LI×Int))):=fun (d,b,a)=>
  if (0:Int)≤a then
    (getI f a).bind fun e=>
    (wq .u64 (wor .u64 (wslc .u64 b 32) (wc .u64 e)) (wc .u64 c)).bind fun g=>
    (setI d a (wc .u32 g)).bind fun h=>
    (wr (wor .u64 (wslc .u64 b 32) (wc .u64 e)) (wc .u64 c)).bind fun i=>
    some (.inl (h,i,ws .i64 a 1))
  else
    some (.inr (d,b))
def m_k5 (a:LI) (b:Int):Option (LI×Int):=
  (mkL 0 (a.length:Int)).bind fun c=>
  (loop (m_k4 a b) (c,0,ws .i64 (a.length:Int) 1)).bind fun (d,e)=>
  (m_ip d).bind fun f=>
  some (f,wc .u32 e)
def m_k6 (a:Int):Option (Int):=
  (m_be a).bind fun b=>
  some (ws .i64 32 b)
def m_k7 (d:LI) (e:Int) (f:Int):LI×Int×Int→Option ((LI×Int×Int)⊕((LI×Int))):=fun (b,c,a)=>
  if a < (d.length:Int) then
    (getI d a).bind fun g=>
    (getW b e f a).bind fun h=>
    (setW b e f a (wc .u32 (wand .u64 (wa .u64 (wa .u64 (wc .u64 h) (wc .u64 g)) c) 4294967295))).bind fun i=>
    some (.inl (i,wsrc .u64 (wa .u64 (wa .u64 (wc .u64 h) (wc .u64 g)) c) 32,wa .i64 a 1))
  else
    some (.inr (b,c))
def m_k8 (g:LI) (h:Int) (i:Int) (c:Int):LI×Int×Int×Int→Option ((LI×Int×Int×Int)⊕((LI×Int×Int))):=fun (d,b,e,a)=>
  if a < (g.length:Int) then
    (getI g a).bind fun f=>
    (getW d h i a).bind fun j=>
    (setW d h i a (wc .u32 (wand .u64 (ws .u64 (ws .u64 (wc .u64 j) (wand .u64 (wa .u64 (wm .u64 c (wc .u64 f)) b) 4294967295)) e) 4294967295))).bind fun k=>
    some (.inl (k,wsrc .u64 (wa .u64 (wm .u64 c (wc .u64 f)) b) 32,wand .u64 (wsrc .u64 (ws .u64 (ws .u64 (wc .u64 j) (wand .u64 (wa .u64 (wm .u64 c (wc .u64 f)) b) 4294967295)) e) 32) 1,wa .i64 a 1))
  else
    some (.inr (d,b,e))
def m_k9 (a:LI) (e:LI) (f:Int) (g:Int):Int×Int→Option ((Int×Int)⊕(Int)):=fun (b,c)=>
  (if (4294967295:Int) < b then
    some true
  else
    (getI a (ws .i64 (a.length:Int) 2)).bind fun h=>
    (getW e f g (ws .i64 (a.length:Int) 2)).bind fun i=>
    some (decide ((wor .u64 (wslc .u64 c 32) (wc .u64 i)) < (wm .u64 b (wc .u64 h))))).bind fun j=>
  if j=true then
    (getI a (ws .i64 (a.length:Int) 1)).bind fun d=>
    if (4294967295:Int) < (wa .u64 c (wc .u64 d)) then
      some (.inr (ws .u64 b 1))
    else
      some (.inl (ws .u64 b 1,wa .u64 c (wc .u64 d)))
  else
    some (.inr b)
def m_la (d:LI) (b:Int) (c:Int) (a:LI):Option (LI×Int):=
  (getW d b c (a.length:Int)).bind fun f=>
  (getW d b c (ws .i64 (a.length:Int) 1)).bind fun g=>
  (getI a (ws .i64 (a.length:Int) 1)).bind fun n=>
  (wq .u64 (wor .u64 (wslc .u64 (wc .u64 f) 32) (wc .u64 g)) (wc .u64 n)).bind fun o=>
  (getI a (ws .i64 (a.length:Int) 1)).bind fun p=>
  (wr (wor .u64 (wslc .u64 (wc .u64 f) 32) (wc .u64 g)) (wc .u64 p)).bind fun q=>
  (loop (m_k9 a d b c) (o,q)).bind fun e=>
  (loop (m_k8 a b c e) (d,0,0,0)).bind fun (h,i,j)=>
  (getW h b c (a.length:Int)).bind fun k=>
  (setW h b c (a.length:Int) (wc .u32 (wand .u64 (ws .u64 (ws .u64 (wc .u64 k) i) j) 4294967295))).bind fun l=>
  if (wand .u64 (wsrc .u64 (ws .u64 (ws .u64 (wc .u64 k) i) j) 32) 1)=0 then
    some (l,wc .u32 e)
  else
    (loop (m_k7 a b c) (l,0,0)).bind fun (m,r)=>
    (getW m b c (a.length:Int)).bind fun s=>
    (setW m b c (a.length:Int) (wa .u32 s (wc .u32 r))).bind fun t=>
    some (t,wc .u32 (ws .u64 e 1))
def m_lb (b:LI):LI×LI×Int→Option ((LI×LI×Int)⊕((LI×LI))):=fun (d,c,a)=>
  if (0:Int)≤a then
    (sli c a (wa .i64 (wa .i64 a (b.length:Int)) 1)).bind fun g=>
    (m_la c a (wa .i64 (wa .i64 a (b.length:Int)) 1) b).bind fun e=>
    (setI d a e.2).bind fun f=>
    some (.inl (f,e.1,ws .i64 a 1))
  else
    some (.inr (d,c))
def m_lc (b:LI) (a:LI):Option (LI×LI):=
  (m_kr b a).bind fun i=>
  if i < 0 then
    (m_iu b).bind fun j=>
    some ([],j)
  else
    if (a.length:Int)=1 then
      (getI a 0).bind fun k=>
      (m_k5 b k).bind fun e=>
      (m_ip [e.2]).bind fun l=>
      some (e.1,l)
    else
      (getI a (ws .i64 (a.length:Int) 1)).bind fun m=>
      (m_k6 m).bind fun c=>
      (m_i4 a c).bind fun d=>
      (mkL 0 (wa .i64 (b.length:Int) 1)).bind fun f=>
      (m_i4 b c).bind fun n=>
      (cpI f 0 (f.length:Int) n).bind fun g=>
      (mkL 0 (ws .i64 (g.1.length:Int) (d.length:Int))).bind fun h=>
      (loop (m_lb d) (h,g.1,ws .i64 (h.length:Int) 1)).bind fun (o,p)=>
      (sli p 0 (d.length:Int)).bind fun q=>
      (m_ip q).bind fun r=>
      (m_jb r c).bind fun s=>
      (m_ip o).bind fun t=>
      some (t,s.1)
def m_ld (c:LI):LI→Option ((LI)⊕(LI)):=fun a=>
  (m_lc c a).bind fun d=>
  (m_jf a d.1).bind fun e=>
  (m_jb e 1).bind fun b=>
  (m_kr b.1 a).bind fun f=>
  if (0:Int)≤f then
    some (.inr a)
  else
    some (.inl b.1)
def m_le (a:LI):Option (LI):=
  if (a.length:Int)=0 then
    some []
  else
    (m_i1 a).bind fun b=>
    (m_i4 [1] (wqc .i64 (wa .i64 b 1) 2)).bind fun c=>
    (loop (m_ld a) c).bind fun d=>
    some d
def m_lf (c:Bool) (a:LI):Option (Bool×LI×Int):=
  (m_iy c a).bind fun d=>
  if d < 0 then
    some (false,[],11)
  else
    (m_ip a).bind fun e=>
    (m_le e).bind fun f=>
    (m_iq false f).bind fun b=>
    some (b.1,b.2,0)
def m_lg (e:Bool) (b:LI) (f:Bool) (c:LI):Option (Int):=
  (m_iy e b).bind fun a=>
  (m_iy f c).bind fun d=>
  if a < d then
    some (-1)
  else
    if d < a then
      some 1
    else
      (m_ip b).bind fun g=>
      (m_ip c).bind fun h=>
      (m_kr g h).bind fun i=>
      some (wm .i64 a i)
def m_lh (e:Bool) (f:LI) (g:Int) (c:Int):Option (Bool×Bool×LI×Int×Bool):=
  (m_kn e f c).bind fun b=>
  (m_lf b.1 b.2).bind fun a=>
  (m_kj a.1 a.2.1 a.1 a.2.1).bind fun d=>
  (m_lg d.1 d.2 b.1 b.2).bind fun h=>
  some (false,a.1,a.2.1,wqc .i64 (ws .i64 g c) 2,!(decide (h=0)))
def m_li (f:Bool) (a:Bool) (b:LI) (c:Int) (d:Int):Option (Bool×Bool×LI×Int×Bool):=
  (m_i2 a b).bind fun e=>
  if (wrc (ws .i64 c (imax 0 (ws .i64 (wm .i64 2 (wa .i64 d 3)) e))) 2)=0 then
    m_lh a b c (imax 0 (ws .i64 (wm .i64 2 (wa .i64 d 3)) e))
  else
    m_lh a b c (wa .i64 (imax 0 (ws .i64 (wm .i64 2 (wa .i64 d 3)) e)) 1)
def m_lj (e:Bool) (a:Bool) (b:LI) (c:Int) (f:Bool):Option (Int):=
  (m_i2 a b).bind fun d=>
  some (ws .i64 (wa .i64 c d) 1)
def m_lk (b:Bool) (c:LI) (d:Bool) (e:LI):Option (Bool×LI):=
  (m_kv b c (!(d)) e).bind fun a=>
  some (a.1,a.2)
def m_ll (a:Bool×LI) (c:Bool) (b:Bool×LI) (d:Int):Option (Bool×LI×Int×Bool):=
  (m_iy a.1 a.2).bind fun e=>
  (if e=0 then
    some (!(c))
  else
    some false).bind fun f=>
  some (b.1,b.2,d,f)
def m_lm (l:Bool) (d:Bool) (e:LI) (m:Int) (f:Bool) (a:Int):Option (Bool×LI×Int×Bool):=
  (m_i2 d e).bind fun k=>
  if k < a then
    some (false,[],(-1),false)
  else
    (m_jj d e a).bind fun b=>
    (m_kn b.1 b.2 a).bind fun g=>
    (m_lk d e g.1 g.2).bind fun c=>
    (m_is 1).bind fun h=>
    (m_kn h.1 h.2 (ws .i64 a 1)).bind fun i=>
    (m_lg c.1 c.2 i.1 i.2).bind fun j=>
    if ((decide (j=0)) && f)=true then
      m_ll c f b 1
    else
      m_ll c f b j
def m_ln (a:Bool) (b:LI):Option (Bool×LI):=
  some (a,b)
def m_lo (d:Bool) (a:Bool) (b:LI):Option (Bool×LI):=
  if d=true then
    (m_iv a b).bind fun c=>
    m_ln c.1 c.2
  else
    m_ln a b
def m_lp (a:Bool) (b:LI) (c:Bool) (f:Bool):Option (Bool×LI):=
  if f=true then
    (m_is 1).bind fun d=>
    (m_kv a b d.1 d.2).bind fun e=>
    m_lo c e.1 e.2
  else
    m_lo c a b
def m_lq (a:Bool) (b:LI) (c:Bool) (d:Bool):Option (Bool×LI):=
  m_lp a b c d
def m_lr (a:Bool) (b:LI) (c:Bool) (d:Bool):Option (Bool×LI):=
  m_lq a b c d
def m_ls (a:Bool) (b:LI) (c:Bool) (d:Bool):Option (Bool×LI):=
  m_lr a b c d
def m_lt (a:Bool) (d:Int) (b:Bool) (c:LI) (e:Int) (f:Bool):Option (Bool×LI):=
  if f=true then
    m_lp b c a false
  else
    if d=1 then
      m_lq b c a a
    else
      if d=2 then
        m_lr b c a (!(a))
      else
        if d=3 then
          m_ls b c a false
        else
          (if (0:Int) < e then
            some true
          else
            (if e=0 then
              (m_iy b c).bind fun g=>
              some (!(decide (g=0)))
            else
              some false).bind fun h=>
            (if h=true then
              (m_i0 b c).bind fun i=>
              some (decide (i=0))
            else
              some false).bind fun j=>
            some j).bind fun k=>
          m_ls b c a k
def m_lu (c:Bool) (e:Bool) (f:LI) (a:Int) (i:Bool) (d:Int) (g:Int):Option (Bool×LI):=
  if d≤a then
    (m_kn e f (ws .i64 a d)).bind fun h=>
    m_lt c g h.1 h.2 (-1) true
  else
    (m_lm c e f a i (ws .i64 d a)).bind fun b=>
    m_lt c g b.1 b.2.1 b.2.2.1 b.2.2.2
def m_lv (d:Bool) (b:LI):Option (Bool×LI):=
  (m_iu b).bind fun c=>
  (m_iq false c).bind fun a=>
  some (a.1,a.2)
def m_lw (b:LI):Int×Int→Option ((Int×Int)⊕(Int)):=fun (c,a)=>
  if a < (b.length:Int) then
    (getI b a).bind fun d=>
    (wshl .u64 (wc .u64 d) (wm .i64 32 a)).bind fun e=>
    some (.inl (wor .u64 c e,wa .i64 a 1))
  else
    some (.inr c)
def m_lx (b:Bool) (d:LI):Option (Int×Bool):=
  (m_ip d).bind fun c=>
  if (2:Int) < (c.length:Int) then
    some (0,false)
  else
    (loop (m_lw c) (0,0)).bind fun a=>
    if ((b && (decide ((0:Int) < a))) && (decide (a≤9223372036854775808)))=true then
      some (ws .i64 (wneg .i64 (wc .i64 (ws .u64 a 1))) 1,true)
    else
      if ((decide (a < 9223372036854775808)) && ((!(b)) || (decide (a=0))))=true then
        some (wc .i64 a,true)
      else
        some (0,false)
def m_ly (a:Int) (b:Bool):Option (Int):=
  if b=true then
    some (wor .u64 a 9223372036854775808)
  else
    some a
def m_lz (a:Bool) (b:Int):Option (Int):=
  if (((decide (b=3)) || ((decide (b=1)) && (!(a)))) || ((decide (b=2)) && a))=true then
    (m_ly 9218868437227405311 a).bind fun c=>
    some c
  else
    (m_ly 9218868437227405312 a).bind fun d=>
    some d
def m_l0 (a:Bool) (d:Int) (c:Int) (b:Int):Option (Int):=
  if b < 4503599627370496 then
    (m_ly b a).bind fun e=>
    some e
  else
    if (2047:Int)≤(wa .i64 c 1075) then
      (m_lz a d).bind fun f=>
      some f
    else
      (m_ly (wor .u64 (wslc .u64 (wc .u64 (wa .i64 c 1075)) 52) (ws .u64 b 4503599627370496)) a).bind fun g=>
      some g
def m_l1 (a:Bool) (d:Bool) (e:LI) (f:Int) (g:Bool) (b:Int):Option (Int):=
  (m_lj a d e f g).bind fun c=>
  (m_lu a d e f g (imax (ws .i64 c 52) (-1074)) b).bind fun h=>
  (m_lv h.1 h.2).bind fun i=>
  (m_lx i.1 i.2).bind fun j=>
  if (wc .u64 j.1)=9007199254740992 then
    m_l0 a b (wa .i64 (imax (ws .i64 c 52) (-1074)) 1) 4503599627370496
  else
    m_l0 a b (imax (ws .i64 c 52) (-1074)) (wc .u64 j.1)
def m_l2 (c:Bool) (d:Bool) (e:LI) (f:Int) (g:Int):Option (Int):=
  (m_k3 c d e f).bind fun a=>
  (if a.1=true then
    some true
  else
    (m_k2 a.1 a.2.1 a.2.2.1 a.2.2.2).bind fun h=>
    some (decide (h < 0))).bind fun i=>
  if i=true then
    some 9221120237041090560
  else
    (m_k2 a.1 a.2.1 a.2.2.1 a.2.2.2).bind fun j=>
    if j=0 then
      some 0
    else
      (m_li a.1 a.2.1 a.2.2.1 a.2.2.2 56).bind fun b=>
      (m_l1 b.1 b.2.1 b.2.2.1 b.2.2.2.1 b.2.2.2.2 g).bind fun k=>
      some k
def m_l3 (b:Int):Option (Int):=
  (m_dg b).bind fun a=>
  if ((decide (a.1=2047)) && (!(decide (a.2=0))))=true then
    some 3
  else
    if a.1=2047 then
      some 2
    else
      if ((decide (a.1=0)) && (decide (a.2=0)))=true then
        some 0
      else
        some 1
def m_l4 (c:Bool) (d:Bool) (e:LI) (f:LI):Option (Bool×LI×Bool×LI×Int):=
  (m_iq (!((c == d))) e).bind fun a=>
  (m_iq false f).bind fun b=>
  some (a.1,a.2,b.1,b.2,0)
def m_l5 (b:Bool) (e:LI) (d:Bool) (f:LI):Option (Bool×LI×Bool×LI×Int):=
  (m_ip f).bind fun c=>
  if (c.length:Int)=0 then
    some (false,[],false,[],8)
  else
    (m_ip e).bind fun g=>
    (m_lc g c).bind fun a=>
    if (b && (decide ((0:Int) < (a.2.length:Int))))=true then
      (m_jf a.1 [1]).bind fun h=>
      (m_ku c a.2).bind fun i=>
      m_l4 b d h i
    else
      m_l4 b d a.1 a.2
def m_l6 (o:Bool) (b:Bool) (d:LI) (l:Int) (p:Bool) (c:Bool) (e:LI) (m:Int) (f:Int):Option (Bool×Bool×LI×Int×Bool):=
  (m_i2 c e).bind fun g=>
  (m_i2 b d).bind fun h=>
  (m_lv b d).bind fun i=>
  (m_kn i.1 i.2 (imax 0 (ws .i64 (wa .i64 (wa .i64 f 3) g) h))).bind fun j=>
  (m_lv c e).bind fun k=>
  (m_l5 j.1 j.2 k.1 k.2).bind fun a=>
  (m_iy a.2.2.1 a.2.2.2.1).bind fun n=>
  some (!((b == c)),a.1,a.2.1,ws .i64 (ws .i64 l (imax 0 (ws .i64 (wa .i64 (wa .i64 f 3) g) h))) m,!(decide (n=0)))
def m_l7 (d:Bool) (e:Bool) (f:LI) (g:Int) (h:Bool) (i:Bool) (j:LI) (k:Int) (l:Int):Option (Int):=
  (m_k3 d e f g).bind fun a=>
  (m_k3 h i j k).bind fun b=>
  (if (a.1 || b.1)=true then
    some true
  else
    (m_k2 b.1 b.2.1 b.2.2.1 b.2.2.2).bind fun m=>
    some (decide (m=0))).bind fun n=>
  if n=true then
    some 9221120237041090560
  else
    (m_k2 a.1 a.2.1 a.2.2.1 a.2.2.2).bind fun o=>
    if o=0 then
      some 0
    else
      (m_l6 a.1 a.2.1 a.2.2.1 a.2.2.2 b.1 b.2.1 b.2.2.1 b.2.2.2 56).bind fun c=>
      (m_l1 c.1 c.2.1 c.2.2.1 c.2.2.2.1 c.2.2.2.2 l).bind fun p=>
      some p
def m_l8 (i:LI) (k:L2) (l:L2) (m:Int) (n:L2) (o:List (Option (List (Int×(Bool×Bool×LI×Int))))) (a:Int) (p:Int):L2×(List (Option (List (Int×(Bool×Bool×LI×Int)))))×Int→Option ((L2×(List (Option (List (Int×(Bool×Bool×LI×Int)))))×Int)⊕((L2×(List (Option (List (Int×(Bool×Bool×LI×Int))))))⊕(L2×(List (Option (List (Int×(Bool×Bool×LI×Int)))))))):=fun (b,c,g)=>
  if g < (i.length:Int) then
    (getI i g).bind fun j=>
    (m_k1 k b c l m n o j a).bind fun d=>
    (m_jo p).bind fun e=>
    (m_l7 d.1 d.2.1 d.2.2.1 d.2.2.2 e.1 e.2.1 e.2.2.1 e.2.2.2 0).bind fun h=>
    (m_dh h).bind fun q=>
    if q=true then
      (getM c a).bind fun r=>
      (getI b a).bind fun s=>
      (app s [h]).bind fun t=>
      (m_jo h).bind fun f=>
      (setI b a t).bind fun u=>
      (setM c a (mput r j (f.1,f.2.1,f.2.2.1,f.2.2.2))).bind fun v=>
      some (.inl (u,v,wa .i64 g 1))
    else
      some (.inr (.inr (b,c)))
  else
    some (.inr (.inl (b,c)))
def m_l9 (g:L2) (d:L2) (e:List (Option (List (Int×(Bool×Bool×LI×Int))))) (h:L2) (i:Int) (j:L2) (k:List (Option (List (Int×(Bool×Bool×LI×Int))))) (b:Int):Option (L2×(List (Option (List (Int×(Bool×Bool×LI×Int)))))×Int):=
  (m_k1 g d e h i j k b b).bind fun a=>
  (m_k2 a.1 a.2.1 a.2.2.1 a.2.2.2).bind fun p=>
  if p≤0 then
    some (d,e,231)
  else
    (m_l2 a.1 a.2.1 a.2.2.1 a.2.2.2 0).bind fun c=>
    (m_l3 c).bind fun q=>
    if q=0 then
      some (d,e,231)
    else
      (m_jo c).bind fun f=>
      (setI d b [c]).bind fun l=>
      (setM e b (mput ([]:List (Int×(Bool×Bool×LI×Int))) b (f.1,f.2.1,f.2.2.1,f.2.2.2))).bind fun m=>
      (m_dh c).bind fun r=>
      if r=true then
        (getI g b).bind fun n=>
        (sli n 1 (n.length:Int)).bind fun s=>
        (loop (m_l8 s g h i j k b c) (l,m,0)).bind (fun o=>match o with
          | .inl (t,u)=>
            some (t,u,0)
          | .inr (v,w)=>
            some (v,w,233))
      else
        some (l,m,233)
def m_ma (a:LI):Option (LI):=
  (app [] a).bind fun b=>
  some b
def m_mb (b:L2) (g:L2):LI×LI×LI×Int→Option ((LI×LI×LI×Int)⊕((LI×LI×LI))):=fun (c,d,e,a)=>
  if a < (b.length:Int) then
    (getI b a).bind fun h=>
    (app d h).bind fun f=>
    (getI g a).bind fun i=>
    (app e i).bind fun j=>
    (app c [(f.length:Int)]).bind fun k=>
    some (.inl (k,f,j,wa .i64 a 1))
  else
    some (.inr (c,d,e))
def m_mc (a:L2) (b:L2) (h:List (Option (List (Int×(Bool×Bool×LI×Int))))) (i:L2) (c:LI):Option (LI×LI×LI×LI):=
  (m_ma c).bind fun d=>
  (loop (m_mb a b) ([0],[],[],0)).bind fun (e,f,g)=>
  some (d,e,f,g)
def m_md (c:Int) (d:L2×L2×(List (Option (List (Int×(Bool×Bool×LI×Int)))))×L2) (e:L2×(List (Option (List (Int×(Bool×Bool×LI×Int)))))×Int):L2×(List (Option (List (Int×(Bool×Bool×LI×Int)))))×Int→Option ((L2×(List (Option (List (Int×(Bool×Bool×LI×Int)))))×Int)⊕((L2×(List (Option (List (Int×(Bool×Bool×LI×Int))))))⊕(Int×Int))):=fun (f,g,b)=>
  if b < c then
    (m_l9 d.1 f g d.2.2.2 c e.1 e.2.1 b).bind fun a=>
    if a.2.2=0 then
      some (.inl (a.1,a.2.1,wa .i64 b 1))
    else
      if a.2.2=231 then
        some (.inr (.inr (b,a.2.2)))
      else
        some (.inr (.inr (0,a.2.2)))
  else
    some (.inr (.inl (f,g)))
def m_me (f:Int) (c:Int) (g:LI) (h:LI) (i:LI) (e:LI):Option (LI×LI×LI×LI×Int×Int):=
  (m_jt f c g h i e).bind fun a=>
  if a.2.2=0 then
    (m_kd c a.1 a.2.1).bind fun b=>
    (loop (m_md c b a) (b.2.1,b.2.2.1,0)).bind (fun o=>match o with
      | .inl (j,k)=>
        (m_mc b.1 j k b.2.2.2 e).bind fun d=>
        some (d.1,d.2.1,d.2.2.1,d.2.2.2,c,0)
      | .inr (l,m)=>
        some ([],[],[],[],l,m))
  else
    some ([],[],[],[],0,a.2.2)
def m_mf (c:LI):LI×Int→Option ((LI×Int)⊕(LI)):=fun (a,b)=>
  if b < (c.length:Int) then
    (getI c b).bind fun d=>
    (getI a d).bind fun e=>
    (setI a d (wa .i64 e 1)).bind fun f=>
    some (.inl (f,wa .i64 b 1))
  else
    some (.inr a)
def m_mg (b:LI×Int) (d:L2):LI×Int→Option ((LI×Int)⊕(LI)):=fun (c,a)=>
  if a < (b.1.length:Int) then
    (m_j6 d b.1 a).bind fun e=>
    (loop (m_mf e) (c,0)).bind fun f=>
    some (.inl (f,wa .i64 a 1))
  else
    some (.inr c)
def m_mh (b:L2):Option (LI×Int):=
  (m_j1 b).bind fun a=>
  if a.2=0 then
    (mkL 0 (a.1.length:Int)).bind fun c=>
    (loop (m_mg a b) (c,0)).bind fun d=>
    some (d,0)
  else
    some ([],a.2)
def m_mi (b:LI×Int):Int×Int→Option ((Int×Int)⊕(Int)):=fun (c,a)=>
  if a < (b.1.length:Int) then
    (getI b.1 a).bind fun d=>
    some (.inl (wa .i64 c d,wa .i64 a 1))
  else
    some (.inr c)
def m_mj (c:L2) (d:LI):Option (Int×Int):=
  (m_in c d).bind fun a=>
  if a.2=0 then
    (m_mh a.1).bind fun b=>
    (loop (m_mi b) (0,0)).bind fun e=>
    some (e,b.2)
  else
    some (0,a.2)
def m_mk (c:Int) (b:LI):BL×Int→Option ((BL×Int)⊕(Unit⊕Unit)):=fun (d,a)=>
  if a < c then
    (getI b a).bind fun e=>
    (if e < 0 then
      some true
    else
      (getI b a).bind fun f=>
      some (decide (c≤f))).bind fun g=>
    (if g=true then
      some true
    else
      (getI b a).bind fun h=>
      (getI d h).bind fun i=>
      some i).bind fun j=>
    if j=true then
      some (.inr (.inr ()))
    else
      (getI b a).bind fun k=>
      (setI d k true).bind fun l=>
      some (.inl (l,wa .i64 a 1))
  else
    some (.inr (.inl ()))
def m_ml (b:LI) (a:Int):Option (Bool):=
  if (b.length:Int)=a then
    (mkL false a).bind fun c=>
    (loop (m_mk a b) (c,0)).bind (fun o=>match o with
      | .inl ()=>
        some true
      | .inr ()=>
        some false)
  else
    some false
def m_mm (b:LI):BL×Int→Option ((BL×Int)⊕(Unit⊕Unit)):=fun (d,c)=>
  if c < (b.length:Int) then
    (getI b c).bind fun a=>
    (if ((decide (a < 0)) || (decide ((b.length:Int)≤a)))=true then
      some true
    else
      (getI d a).bind fun e=>
      some e).bind fun f=>
    if f=true then
      some (.inr (.inr ()))
    else
      (setI d a true).bind fun g=>
      some (.inl (g,wa .i64 c 1))
  else
    some (.inr (.inl ()))
def m_mn (a:LI):Option (Bool):=
  (mkL false (a.length:Int)).bind fun b=>
  (loop (m_mm a) (b,0)).bind (fun o=>match o with
    | .inl ()=>
      some true
    | .inr ()=>
      some false)
def m_mo (b:LI):Int→Option ((Int)⊕(Unit⊕Unit)):=fun a=>
  if a < (b.length:Int) then
    (getI b (ws .i64 a 1)).bind fun c=>
    (getI b a).bind fun d=>
    if d≤c then
      some (.inr (.inr ()))
    else
      some (.inl (wa .i64 a 1))
  else
    some (.inr (.inl ()))
def m_mp (d:LI) (b:LI) (e:LI):Int→Option ((Int)⊕(Unit⊕Unit)):=fun a=>
  if a < (d.length:Int) then
    (getI b a).bind fun f=>
    (getI b (wa .i64 a 1)).bind fun g=>
    (if g < f then
      some true
    else
      (getI b (wa .i64 a 1)).bind fun h=>
      some (decide ((e.length:Int) < h))).bind fun i=>
    if i=true then
      some (.inr (.inr ()))
    else
      (getI b a).bind fun j=>
      (getI b (wa .i64 a 1)).bind fun k=>
      (sli e j k).bind fun c=>
      (if (c.length:Int)=0 then
        some true
      else
        (getI c 0).bind fun l=>
        some (!(decide (l=a)))).bind fun m=>
      (if m=true then
        some true
      else
        (getI c (ws .i64 (c.length:Int) 1)).bind fun n=>
        some (decide ((d.length:Int)≤n))).bind fun p=>
      if p=true then
        some (.inr (.inr ()))
      else
        (loop (m_mo c) 1).bind (fun o=>match o with
          | .inl ()=>
            some (.inl (wa .i64 a 1))
          | .inr ()=>
            some (.inr (.inr ())))
  else
    some (.inr (.inl ()))
def m_mq (b:LI) (a:LI) (c:LI) (g:LI):Option (Bool):=
  (getI a 0).bind fun d=>
  (if d=0 then
    (getI a (b.length:Int)).bind fun e=>
    some (!(decide (e=(c.length:Int))))
  else
    some true).bind fun f=>
  if f=true then
    some false
  else
    (loop (m_mp b a c) 0).bind (fun o=>match o with
      | .inl ()=>
        some true
      | .inr ()=>
        some false)
def m_mr (c:LI) (d:LI) (e:LI):Int→Option ((Int)⊕(Unit⊕Unit)):=fun b=>
  if b < (c.length:Int) then
    (getI d b).bind fun f=>
    (getI e f).bind fun g=>
    (m_jo g).bind fun a=>
    (m_k2 a.1 a.2.1 a.2.2.1 a.2.2.2).bind fun h=>
    if h≤0 then
      some (.inr (.inr ()))
    else
      some (.inl (wa .i64 b 1))
  else
    some (.inr (.inl ()))
def m_ms (b:LI):Int→Option ((Int)⊕(Unit⊕Unit)):=fun a=>
  if a < (b.length:Int) then
    (getI b a).bind fun c=>
    (m_dh c).bind fun d=>
    if d=true then
      some (.inl (wa .i64 a 1))
    else
      some (.inr (.inr ()))
  else
    some (.inr (.inl ()))
def m_mt (a:LI) (c:LI) (d:LI) (b:LI):Option (Int):=
  if (200:Int) < (a.length:Int) then
    some 6
  else
    (m_mn a).bind fun e=>
    if e=true then
      if ((!(decide ((c.length:Int)=(wa .i64 (a.length:Int) 1)))) || (!(decide ((d.length:Int)=(b.length:Int)))))=true then
        some 2
      else
        (m_mq a c d b).bind fun f=>
        if f=true then
          (loop (m_ms b) 0).bind (fun o=>match o with
            | .inl ()=>
              (loop (m_mr a c b) 0).bind (fun o=>match o with
                | .inl ()=>
                  some 0
                | .inr ()=>
                  some 4)
            | .inr ()=>
              some 4)
        else
          some 240
    else
      some 90
def m_mu (b:LI):Int→Option ((Int)⊕(Unit⊕Unit)):=fun a=>
  if a < (b.length:Int) then
    (getI b a).bind fun c=>
    (m_dh c).bind fun d=>
    if d=true then
      some (.inl (wa .i64 a 1))
    else
      some (.inr (.inr ()))
  else
    some (.inr (.inl ()))
def m_mv (a:LI):Option (Int):=
  (loop (m_mu a) 0).bind (fun o=>match o with
    | .inl ()=>
      some 0
    | .inr ()=>
      some 4)
def m_mw (a:LI) (b:Int):Option (Int):=
  if (a.length:Int)=b then
    (m_mv a).bind fun c=>
    some c
  else
    some 2
def m_mx (a:LI) (c:LI) (d:LI) (e:LI) (f:LI):Option (Int):=
  (m_mt a c d e).bind fun b=>
  if b=0 then
    (m_mw f (a.length:Int)).bind fun g=>
    some g
  else
    some b
def m_my (b:LI) (d:LI):LI×Int→Option ((LI×Int)⊕(LI)):=fun (c,a)=>
  if a < (b.length:Int) then
    (getI b a).bind fun e=>
    (getI d e).bind fun f=>
    (setI c a f).bind fun g=>
    some (.inl (g,wa .i64 a 1))
  else
    some (.inr c)
def m_mz (a:LI) (b:LI):Option (LI):=
  (mkL 0 (a.length:Int)).bind fun c=>
  (loop (m_my b a) (c,0)).bind fun d=>
  some d
def m_m0 (c:Int):LI×Int→Option ((LI×Int)⊕(LI)):=fun (b,a)=>
  if a < c then
    (app b [a]).bind fun d=>
    some (.inl (d,wa .i64 a 1))
  else
    some (.inr b)
def m_m1 (a:Int):Option (LI):=
  (loop (m_m0 a) ([],0)).bind fun b=>
  some b
def m_m2 (c:LI):(List (List (Bool×Bool×LI×Int)))×Int→Option (((List (List (Bool×Bool×LI×Int)))×Int)⊕(((List (List (Bool×Bool×LI×Int)))))):=fun (d,a)=>
  if a < (c.length:Int) then
    (getI c a).bind fun e=>
    (m_jo e).bind fun b=>
    (setI d a [(b.1,b.2.1,b.2.2.1,b.2.2.2)]).bind fun f=>
    some (.inl (f,wa .i64 a 1))
  else
    some (.inr d)
def m_m3 (a:LI):Option ((List (List (Bool×Bool×LI×Int)))):=
  (mkL ([]:List (Bool×Bool×LI×Int)) (a.length:Int)).bind fun b=>
  (loop (m_m2 a) (b,0)).bind fun c=>
  some c
def m_m4 (c:List (Bool×Bool×LI×Int)) (h:Int):Bool×LI×Int→Option ((Bool×LI×Int)⊕((Bool×LI))):=fun (d,e,a)=>
  if a < (c.length:Int) then
    (getI c a).bind fun b=>
    (m_kn b.2.1 b.2.2.1 (ws .i64 b.2.2.2 h)).bind fun f=>
    (m_kv d e f.1 f.2).bind fun g=>
    some (.inl (g.1,g.2,wa .i64 a 1))
  else
    some (.inr (d,e))
def m_m5 (e:List (Bool×Bool×LI×Int)):(List (Bool×Bool×LI×Int))×Int×Int→Option (((List (Bool×Bool×LI×Int))×Int×Int)⊕(((List (Bool×Bool×LI×Int))×Int)⊕(Bool×Bool×Int))):=fun (f,g,c)=>
  if c < (e.length:Int) then
    (getI e c).bind fun b=>
    (m_jk b.1 b.2.1 b.2.2.1 b.2.2.2).bind fun a=>
    if a.2.2.2.2=true then
      (app f [(a.1,a.2.1,a.2.2.1,a.2.2.2.1)]).bind fun h=>
      some (.inl (h,imin g a.2.2.2.1,wa .i64 c 1))
    else
      (m_iw).bind fun d=>
      some (.inr (.inr (d.1,d.2.1,d.2.2)))
  else
    some (.inr (.inl (f,g)))
def m_m6 (c:List (Bool×Bool×LI×Int)):Option (Bool×Bool×LI×Int):=
  (loop (m_m5 c) ([],0,0)).bind (fun o=>match o with
    | .inl (d,b)=>
      (loop (m_m4 d b) (false,[],0)).bind fun (e,f)=>
      (m_jl e f b).bind fun a=>
      some (a.1,a.2.1,a.2.2.1,a.2.2.2)
    | .inr (g,h,i)=>
      some (g,h,[],i))
def m_m7 (b:List (List (Bool×Bool×LI×Int))) (c:Int):Option (Bool×Bool×LI×Int):=
  (getI b c).bind fun d=>
  (m_m6 d).bind fun a=>
  some (a.1,a.2.1,a.2.2.1,a.2.2.2)
def m_m8 (e:List (List (Bool×Bool×LI×Int))) (f:Int) (g:Int) (h:Int):Option ((List (List (Bool×Bool×LI×Int)))):=
  (getI e f).bind fun i=>
  (m_jo g).bind fun a=>
  (m_jo h).bind fun b=>
  (m_kk a.1 a.2.1 a.2.2.1 a.2.2.2 b.1 b.2.1 b.2.2.1 b.2.2.2).bind fun c=>
  (m_km c.1 c.2.1 c.2.2.1 c.2.2.2).bind fun d=>
  (app i [(d.1,d.2.1,d.2.2.1,d.2.2.2)]).bind fun j=>
  (setI e f j).bind fun k=>
  some k
def m_m9 (d:LI) (b:Int) (e:LI) (f:LI) (g:LI):(List (List (Bool×Bool×LI×Int)))×Int→Option (((List (List (Bool×Bool×LI×Int)))×Int)⊕(((List (List (Bool×Bool×LI×Int)))))):=fun (c,a)=>
  (getI d (wa .i64 b 1)).bind fun h=>
  if a < h then
    (getI e a).bind fun i=>
    (getI f a).bind fun j=>
    (getI g b).bind fun k=>
    (m_m8 c i j k).bind fun l=>
    some (.inl (l,wa .i64 a 1))
  else
    some (.inr c)
def m_na (g:LI) (d:LI) (h:LI) (k:LI):(List (List (Bool×Bool×LI×Int)))×LI×Int→Option (((List (List (Bool×Bool×LI×Int)))×LI×Int)⊕((LI)⊕Unit)):=fun (i,j,e)=>
  if e < (g.length:Int) then
    (getI g e).bind fun a=>
    (m_m7 i a).bind fun b=>
    (getI d a).bind fun l=>
    (getI h l).bind fun m=>
    (m_jo m).bind fun c=>
    (m_l7 b.1 b.2.1 b.2.2.1 b.2.2.2 c.1 c.2.1 c.2.2.1 c.2.2.2 0).bind fun n=>
    (setI j a n).bind fun f=>
    (getI f a).bind fun o=>
    (m_dh o).bind fun p=>
    if p=true then
      (getI d a).bind fun q=>
      (loop (m_m9 d a k h f) (i,wa .i64 q 1)).bind fun r=>
      some (.inl (r,f,wa .i64 e 1))
    else
      some (.inr (.inr ()))
  else
    some (.inr (.inl j))
def m_nb (i:LI) (b:LI) (c:LI) (d:LI) (a:LI) (e:LI):Option (LI×Int):=
  (m_m3 a).bind fun f=>
  (mkL 0 (a.length:Int)).bind fun g=>
  (loop (m_na e b d c) (f,g,0)).bind (fun o=>match o with
    | .inl h=>
      some (h,0)
    | .inr ()=>
      some ([],233))
def m_nc (d:LI) (b:Int) (e:LI) (f:LI) (g:LI):(List (List (Bool×Bool×LI×Int)))×Int→Option (((List (List (Bool×Bool×LI×Int)))×Int)⊕(((List (List (Bool×Bool×LI×Int)))))):=fun (c,a)=>
  (getI d (wa .i64 b 1)).bind fun h=>
  if a < h then
    (getI e a).bind fun i=>
    (getI f a).bind fun j=>
    (getI g j).bind fun k=>
    (m_m8 c b i k).bind fun l=>
    some (.inl (l,wa .i64 a 1))
  else
    some (.inr c)
def m_nd (d:LI) (f:LI) (i:LI):(List (List (Bool×Bool×LI×Int)))×LI×Int→Option (((List (List (Bool×Bool×LI×Int)))×LI×Int)⊕((LI)⊕Unit)):=fun (j,e,a)=>
  if (0:Int)≤a then
    (getI d a).bind fun k=>
    (loop (m_nc d a f i e) (j,wa .i64 k 1)).bind fun g=>
    (m_m7 g a).bind fun b=>
    (getI d a).bind fun l=>
    (getI f l).bind fun m=>
    (m_jo m).bind fun c=>
    (m_l7 b.1 b.2.1 b.2.2.1 b.2.2.2 c.1 c.2.1 c.2.2.1 c.2.2.2 0).bind fun n=>
    (setI e a n).bind fun h=>
    (getI h a).bind fun o=>
    (m_dh o).bind fun p=>
    if p=true then
      some (.inl (g,h,ws .i64 a 1))
    else
      some (.inr (.inr ()))
  else
    some (.inr (.inl e))
def m_ne (h:LI) (b:LI) (c:LI) (d:LI) (a:LI):Option (LI×Int):=
  (m_m3 a).bind fun e=>
  (mkL 0 (a.length:Int)).bind fun f=>
  (loop (m_nd b d c) (e,f,ws .i64 (a.length:Int) 1)).bind (fun o=>match o with
    | .inl g=>
      some (g,0)
    | .inr ()=>
      some ([],233))
def m_nf (b:LI) (d:LI):LI×Int→Option ((LI×Int)⊕(LI)):=fun (c,a)=>
  if a < (b.length:Int) then
    (getI b a).bind fun e=>
    (getI d a).bind fun f=>
    (setI c e f).bind fun g=>
    some (.inl (g,wa .i64 a 1))
  else
    some (.inr c)
def m_ng (a:LI) (b:LI):Option (LI):=
  (mkL 0 (a.length:Int)).bind fun c=>
  (loop (m_nf b a) (c,0)).bind fun d=>
  some d
def m_nh (a:LI) (b:LI) (c:LI) (d:LI) (e:LI):Option (LI×Int):=
  (m_mx a b c d e).bind fun h=>
  if h=0 then
    (m_mz e a).bind fun i=>
    (m_m1 (e.length:Int)).bind fun j=>
    (m_nb a b c d i j).bind fun f=>
    if f.2=0 then
      (m_ne a b c d f.1).bind fun g=>
      if g.2=0 then
        (m_ng g.1 a).bind fun k=>
        some (k,0)
      else
        some ([],g.2)
    else
      some ([],f.2)
  else
    some ([],h)
def m_ni:Option (Bool):=
  (m_me 1 1 [0,1] [0] [4616189618054758400] [0]).bind fun a=>
  (m_nh a.1 a.2.1 a.2.2.1 a.2.2.2.1 [4620693217682128896]).bind fun b=>
  (if ((((decide (a.2.2.2.2.2=0)) && (decide (a.2.2.2.2.1=1))) && (decide (b.2=0))) && (decide ((b.1.length:Int)=1)))=true then
    (getI b.1 0).bind fun c=>
    some (decide (c=4611686018427387904))
  else
    some false).bind fun d=>
  some d
def m_nj (b:LI×LI×LI×LI×Int×Int) (d:Int) (c:LI×LI×LI×Int):Int→Option ((Int)⊕(Unit⊕Unit)):=fun a=>
  (getI b.2.1 (wa .i64 d 1)).bind fun e=>
  if a < e then
    (getI b.2.2.1 a).bind fun f=>
    (if (c.1.length:Int)≤f then
      (getI b.2.2.1 a).bind fun g=>
      some (decide (g < (wa .i64 (c.1.length:Int) (c.2.1.length:Int))))
    else
      some false).bind fun h=>
    if h=true then
      some (.inr (.inr ()))
    else
      some (.inl (wa .i64 a 1))
  else
    some (.inr (.inl ()))
def m_nk (b:LI×LI×LI×Int) (c:LI×LI×LI×LI×Int×Int):Int→Option ((Int)⊕(Unit⊕Unit)):=fun a=>
  if a < (b.1.length:Int) then
    (getI c.2.1 a).bind fun d=>
    (loop (m_nj c a b) d).bind (fun o=>match o with
      | .inl ()=>
        some (.inl (wa .i64 a 1))
      | .inr ()=>
        some (.inr (.inr ())))
  else
    some (.inr (.inl ()))
def m_nl (c:Int) (b:LI×LI×LI×LI×Int×Int):Int→Option ((Int)⊕(Unit⊕Unit)):=fun a=>
  if a < c then
    (getI b.2.1 a).bind fun d=>
    (getI b.2.1 (wa .i64 a 1)).bind fun e=>
    if e < d then
      some (.inr (.inr ()))
    else
      some (.inl (wa .i64 a 1))
  else
    some (.inr (.inl ()))
def m_nm (i:LI) (j:Int) (k:Int):Option (Bool):=
  (m_a j 9).bind fun c=>
  (m_cv i c k).bind fun e=>
  (m_c7 e.1 e.2.1 e.2.2.1 e.2.2.2.1 e.2.2.2.2).bind fun b=>
  (m_d1 b.1 b.2.1 b.2.2.1 b.2.2.2.1 b.2.2.2.2).bind fun f=>
  (m_gm f.1).bind fun d=>
  (m_hg f.1 1).bind fun g=>
  (m_me b.1 b.2.1 b.2.2.1 b.2.2.2.1 b.2.2.2.2 g.1).bind fun a=>
  (m_mj f.1 g.1).bind fun h=>
  (if ((((!(decide (f.2=0))) || (!(decide (d.2.2.2=0)))) || (!(decide (g.2=0)))) || (!(decide (h.2=0))))=true then
    some true
  else
    (m_ml g.1 c).bind fun l=>
    some (!(l))).bind fun m=>
  if m=true then
    some false
  else
    if a.2.2.2.2.2=0 then
      (if ((!(decide ((a.2.2.1.length:Int)=h.1))) || (!(decide ((a.2.2.2.1.length:Int)=h.1))))=true then
        some true
      else
        (m_mt a.1 a.2.1 a.2.2.1 a.2.2.2.1).bind fun n=>
        some (!(decide (n=0)))).bind fun p=>
      if (p || (!(decide ((a.2.1.length:Int)=(wa .i64 c 1)))))=true then
        some false
      else
        if (((decide (c < 2)) || (decide ((d.1.length:Int)=0))) || (decide ((d.2.1.length:Int)=0)))=true then
          (m_ni).bind fun q=>
          some q
        else
          (if (wa .i64 (wa .i64 (d.1.length:Int) (d.2.1.length:Int)) (d.2.2.1.length:Int))=c then
            (getI a.2.1 0).bind fun r=>
            some (!(decide (r=0)))
          else
            some true).bind fun s=>
          (if s=true then
            some true
          else
            (getI a.2.1 c).bind fun t=>
            some (!(decide (t=(a.2.2.1.length:Int))))).bind fun u=>
          if u=true then
            some false
          else
            (loop (m_nl c a) 0).bind (fun o=>match o with
              | .inl ()=>
                (loop (m_nk d a) 0).bind (fun o=>match o with
                  | .inl ()=>
                    (m_ni).bind fun v=>
                    some v
                  | .inr ()=>
                    some false)
              | .inr ()=>
                some false)
    else
      (m_ni).bind fun w=>
      some w
end M
