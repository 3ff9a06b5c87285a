/- Models of functions of the program, printed. -/
import Derived.Test.YthekfonboblioacGreatDoorM8
namespace M
open Sx
set_option linter.unusedVariables false
def m_hg (a:Int) (b:Int):Option (Int):=
  (m_hf a).bind fun d=>
  (m_hf b).bind fun c=>
  if d=true then
    if c=true then
      some 0
    else
      some (-1)
  else
    if c=true then
      some 1
    else
      if a < b then
        some (-1)
      else
        if b < a then
          some 1
        else
          some 0
def m_hh (a:Int) (b:Int):Option (Int):=
  (m_fm a).bind fun d=>
  (m_fm b).bind fun c=>
  if d=true then
    if c=true then
      some 0
    else
      some (-1)
  else
    if c=true then
      some 1
    else
      if a < b then
        some (-1)
      else
        if b < a then
          some 1
        else
          some 0
def m_hi (b:LI) (c:LI):Int→Option ((Int)⊕(Unit⊕Int)):=fun a=>
  if (0:Int)≤a then
    (getI b a).bind fun d=>
    (getI c a).bind fun e=>
    if d=e then
      some (.inl (ws .i64 a 1))
    else
      (getI b a).bind fun f=>
      (getI c a).bind fun g=>
      (m_hg f g).bind fun h=>
      some (.inr (.inr h))
  else
    some (.inr (.inl ()))
def m_hj (a:LI) (b:LI):Option (Int):=
  if (a.length:Int)=(b.length:Int) then
    (loop (m_hi a b) (ws .i64 (a.length:Int) 1)).bind (fun o=>match o with
      | .inl ()=>
        some 0
      | .inr c=>
        some c)
  else
    (m_hh (a.length:Int) (b.length:Int)).bind fun d=>
    some d
def m_hk (f:LI) (c:Int):LI×Int×Int→Option ((LI×Int×Int)⊕((LI×Int))):=fun (d,b,a)=>
  if (0:Int)≤a then
    (getI f a).bind fun e=>
    (wq .u64 (wor .u64 (wslc .u64 b 32) (wc .u64 e)) (wc .u64 c)).bind fun g=>
    (setI d a (wc .u32 g)).bind fun h=>
    (wr (wor .u64 (wslc .u64 b 32) (wc .u64 e)) (wc .u64 c)).bind fun i=>
    some (.inl (h,i,ws .i64 a 1))
  else
    some (.inr (d,b))
def m_hl (a:LI) (b:Int):Option (LI×Int):=
  (mkL 0 (a.length:Int)).bind fun c=>
  (loop (m_hk a b) (c,0,ws .i64 (a.length:Int) 1)).bind fun (d,e)=>
  (m_f1 d).bind fun f=>
  some (f,wc .u32 e)
def m_hm (d:LI) (e:Int) (f:Int):LI×Int×Int→Option ((LI×Int×Int)⊕((LI×Int))):=fun (b,c,a)=>
  if a < (d.length:Int) then
    (getI d a).bind fun g=>
    (getW b e f a).bind fun h=>
    (setW b e f a (wc .u32 (wand .u64 (wa .u64 (wa .u64 (wc .u64 h) (wc .u64 g)) c) 4294967295))).bind fun i=>
    some (.inl (i,wsrc .u64 (wa .u64 (wa .u64 (wc .u64 h) (wc .u64 g)) c) 32,wa .i64 a 1))
  else
    some (.inr (b,c))
def m_hn (g:LI) (h:Int) (i:Int) (c:Int):LI×Int×Int×Int→Option ((LI×Int×Int×Int)⊕((LI×Int×Int))):=fun (d,b,e,a)=>
  if a < (g.length:Int) then
    (getI g a).bind fun f=>
    (getW d h i a).bind fun j=>
    (setW d h i a (wc .u32 (wand .u64 (ws .u64 (ws .u64 (wc .u64 j) (wand .u64 (wa .u64 (wm .u64 c (wc .u64 f)) b) 4294967295)) e) 4294967295))).bind fun k=>
    some (.inl (k,wsrc .u64 (wa .u64 (wm .u64 c (wc .u64 f)) b) 32,wand .u64 (wsrc .u64 (ws .u64 (ws .u64 (wc .u64 j) (wand .u64 (wa .u64 (wm .u64 c (wc .u64 f)) b) 4294967295)) e) 32) 1,wa .i64 a 1))
  else
    some (.inr (d,b,e))
def m_ho (a:LI) (e:LI) (f:Int) (g:Int):Int×Int→Option ((Int×Int)⊕(Int)):=fun (b,c)=>
  (if (4294967295:Int) < b then
    some true
  else
    (getI a (ws .i64 (a.length:Int) 2)).bind fun h=>
    (getW e f g (ws .i64 (a.length:Int) 2)).bind fun i=>
    some (decide ((wor .u64 (wslc .u64 c 32) (wc .u64 i)) < (wm .u64 b (wc .u64 h))))).bind fun j=>
  if j=true then
    (getI a (ws .i64 (a.length:Int) 1)).bind fun d=>
    if (4294967295:Int) < (wa .u64 c (wc .u64 d)) then
      some (.inr (ws .u64 b 1))
    else
      some (.inl (ws .u64 b 1,wa .u64 c (wc .u64 d)))
  else
    some (.inr b)
def m_hp (d:LI) (b:Int) (c:Int) (a:LI):Option (LI×Int):=
  (getW d b c (a.length:Int)).bind fun f=>
  (getW d b c (ws .i64 (a.length:Int) 1)).bind fun g=>
  (getI a (ws .i64 (a.length:Int) 1)).bind fun n=>
  (wq .u64 (wor .u64 (wslc .u64 (wc .u64 f) 32) (wc .u64 g)) (wc .u64 n)).bind fun o=>
  (getI a (ws .i64 (a.length:Int) 1)).bind fun p=>
  (wr (wor .u64 (wslc .u64 (wc .u64 f) 32) (wc .u64 g)) (wc .u64 p)).bind fun q=>
  (loop (m_ho a d b c) (o,q)).bind fun e=>
  (loop (m_hn a b c e) (d,0,0,0)).bind fun (h,i,j)=>
  (getW h b c (a.length:Int)).bind fun k=>
  (setW h b c (a.length:Int) (wc .u32 (wand .u64 (ws .u64 (ws .u64 (wc .u64 k) i) j) 4294967295))).bind fun l=>
  if (wand .u64 (wsrc .u64 (ws .u64 (ws .u64 (wc .u64 k) i) j) 32) 1)=0 then
    some (l,wc .u32 e)
  else
    (loop (m_hm a b c) (l,0,0)).bind fun (m,r)=>
    (getW m b c (a.length:Int)).bind fun s=>
    (setW m b c (a.length:Int) (wa .u32 s (wc .u32 r))).bind fun t=>
    some (t,wc .u32 (ws .u64 e 1))
def m_hq (b:LI):LI×LI×Int→Option ((LI×LI×Int)⊕((LI×LI))):=fun (d,c,a)=>
  if (0:Int)≤a then
    (sli c a (wa .i64 (wa .i64 a (b.length:Int)) 1)).bind fun g=>
    (m_hp c a (wa .i64 (wa .i64 a (b.length:Int)) 1) b).bind fun e=>
    (setI d a e.2).bind fun f=>
    some (.inl (f,e.1,ws .i64 a 1))
  else
    some (.inr (d,c))
def m_hr (b:LI) (a:LI):Option (LI×LI):=
  (m_hj b a).bind fun i=>
  if i < 0 then
    (m_f6 b).bind fun j=>
    some ([],j)
  else
    if (a.length:Int)=1 then
      (getI a 0).bind fun k=>
      (m_hl b k).bind fun e=>
      (m_f1 [e.2]).bind fun l=>
      some (e.1,l)
    else
      (getI a (ws .i64 (a.length:Int) 1)).bind fun m=>
      (m_db m).bind fun c=>
      (m_gg a c).bind fun d=>
      (mkL 0 (wa .i64 (b.length:Int) 1)).bind fun f=>
      (m_gg b c).bind fun n=>
      (cpI f 0 (f.length:Int) n).bind fun g=>
      (mkL 0 (ws .i64 (g.1.length:Int) (d.length:Int))).bind fun h=>
      (loop (m_hq d) (h,g.1,ws .i64 (h.length:Int) 1)).bind fun (o,p)=>
      (sli p 0 (d.length:Int)).bind fun q=>
      (m_f1 q).bind fun r=>
      (m_gn r c).bind fun s=>
      (m_f1 o).bind fun t=>
      some (t,s.1)
def m_hs (c:LI) (a:Int) (b:Int):Option ((LI×Int×Int)⊕(LI)):=
  (setI c a (wc .u32 (wand .u64 b 4294967295))).bind fun d=>
  some (.inl (d,wand .u64 (wsrc .u64 b 32) 1,wa .i64 a 1))
def m_ht (c:LI) (d:LI):LI×Int×Int→Option ((LI×Int×Int)⊕(LI)):=fun (b,e,a)=>
  if a < (c.length:Int) then
    (getI c a).bind fun f=>
    if a < (d.length:Int) then
      (getI d a).bind fun g=>
      m_hs b a (ws .u64 (ws .u64 (wc .u64 f) e) (wc .u64 g))
    else
      m_hs b a (ws .u64 (wc .u64 f) e)
  else
    some (.inr b)
def m_hu (a:LI) (b:LI):Option (LI):=
  (mkL 0 (a.length:Int)).bind fun c=>
  (loop (m_ht a b) (c,0,0)).bind fun d=>
  (m_f1 d).bind fun e=>
  some e
def m_hv (c:Bool) (d:Bool) (e:LI) (f:LI):Option (Bool×LI×Bool×LI×Int):=
  (m_f2 (!((c == d))) e).bind fun a=>
  (m_f2 false f).bind fun b=>
  some (a.1,a.2,b.1,b.2,0)
def m_hw (b:Bool) (e:LI) (d:Bool) (f:LI):Option (Bool×LI×Bool×LI×Int):=
  (m_f1 f).bind fun c=>
  if (c.length:Int)=0 then
    some (false,[],false,[],8)
  else
    (m_f1 e).bind fun g=>
    (m_hr g c).bind fun a=>
    if (b && (decide ((0:Int) < (a.2.length:Int))))=true then
      (m_gr a.1 [1]).bind fun h=>
      (m_hu c a.2).bind fun i=>
      m_hv b d h i
    else
      m_hv b d a.1 a.2
def m_hx (b:LI):Int×Int→Option ((Int×Int)⊕(Int)):=fun (c,a)=>
  if a < (b.length:Int) then
    (getI b a).bind fun d=>
    (wshl .u64 (wc .u64 d) (wm .i64 32 a)).bind fun e=>
    some (.inl (wor .u64 c e,wa .i64 a 1))
  else
    some (.inr c)
def m_hy (b:Bool) (d:LI):Option (Int×Bool):=
  (m_f1 d).bind fun c=>
  if (2:Int) < (c.length:Int) then
    some (0,false)
  else
    (loop (m_hx c) (0,0)).bind fun a=>
    if ((b && (decide ((0:Int) < a))) && (decide (a≤9223372036854775808)))=true then
      some (ws .i64 (wneg .i64 (wc .i64 (ws .u64 a 1))) 1,true)
    else
      if ((decide (a < 9223372036854775808)) && ((!(b)) || (decide (a=0))))=true then
        some (wc .i64 a,true)
      else
        some (0,false)
def m_hz (c:Bool) (d:LI) (e:Int):Option (Int):=
  (m_f4 e).bind fun a=>
  (m_hw c d a.1 a.2).bind fun b=>
  (m_hy b.2.2.1 b.2.2.2.1).bind fun f=>
  some f.1
def m_h0 (b:Bool) (c:LI) (a:Int):Option (Int×Int):=
  (m_hc a).bind fun d=>
  if d=true then
    (m_hz b c a).bind fun e=>
    some (e,0)
  else
    some (0,70)
def m_h1 (a:L2):Option (Int):=
  if (a.length:Int)=0 then
    some 0
  else
    (getI a 0).bind fun b=>
    some (b.length:Int)
def m_h2 (a:LI) (b:Int):Option (Bool):=
  some (!(decide ((a.length:Int)=b)))
def m_h3 (b:L2) (c:Int):Int→Option ((Int)⊕(Unit⊕Int)):=fun a=>
  if a < (b.length:Int) then
    (getI b a).bind fun d=>
    (m_h2 d c).bind fun e=>
    if e=true then
      some (.inr (.inr a))
    else
      some (.inl (wa .i64 a 1))
  else
    some (.inr (.inl ()))
def m_h4 (a:L2) (b:Int):Option (Int):=
  (loop (m_h3 a b) 0).bind (fun o=>match o with
    | .inl ()=>
      some (-1)
    | .inr c=>
      some c)
end M
