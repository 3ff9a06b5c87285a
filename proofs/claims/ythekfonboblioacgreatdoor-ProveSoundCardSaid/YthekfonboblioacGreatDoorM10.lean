/- Models of functions of the program, printed. -/
import Derived.Test.YthekfonboblioacGreatDoorM9
namespace M
open Sx
set_option linter.unusedVariables false
def m_h5 (a:L2) (b:Int):Option (Bool):=
  (m_h4 a b).bind fun c=>
  some (decide ((0:Int)≤c))
def m_h6 (a:L2) (c:Int):Option (Int):=
  (m_h1 a).bind fun b=>
  (m_hc c).bind fun d=>
  if d=true then
    (m_h5 a b).bind fun e=>
    if e=true then
      some 5
    else
      if ((decide ((200:Int) < (a.length:Int))) || (decide ((200:Int) < b)))=true then
        some 6
      else
        some 0
  else
    some 70
def m_h7 (a:L2) (c:Int):Option (Int):=
  (m_h6 a c).bind fun b=>
  (if b=0 then
    (m_h1 a).bind fun d=>
    some (!(decide ((a.length:Int)=d)))
  else
    some false).bind fun e=>
  if e=true then
    some 5
  else
    some b
def m_h8 (a:Int):Option (Int):=
  some a
def m_h9 (c:Int) (b:Int):Option (Int):=
  (wr c b).bind fun a=>
  if a < 0 then
    m_h8 (wa .i64 a b)
  else
    m_h8 a
def m_ia (b:LI) (d:Int):LI×Int→Option ((LI×Int)⊕(LI)):=fun (c,a)=>
  if a < (b.length:Int) then
    (getI b a).bind fun e=>
    (m_h9 e d).bind fun f=>
    (app c [f]).bind fun g=>
    some (.inl (g,wa .i64 a 1))
  else
    some (.inr c)
def m_ib (b:L2) (d:Int):L2×Int→Option ((L2×Int)⊕(L2)):=fun (c,a)=>
  if a < (b.length:Int) then
    (getI b a).bind fun e=>
    (loop (m_ia e d) ([],0)).bind fun f=>
    (app c [f]).bind fun g=>
    some (.inl (g,wa .i64 a 1))
  else
    some (.inr c)
def m_ic (a:L2) (b:Int):Option (L2):=
  (loop (m_ib a b) ([],0)).bind fun c=>
  some c
def m_id (a:LI) (b:Int):Option (Bool):=
  (getI a b).bind fun c=>
  some (!(decide (c=0)))
def m_ie (b:L2) (c:Int):Int→Option ((Int)⊕(Unit⊕Int)):=fun a=>
  if a < (b.length:Int) then
    (getI b a).bind fun d=>
    (m_id d c).bind fun e=>
    if e=true then
      some (.inr (.inr a))
    else
      some (.inl (wa .i64 a 1))
  else
    some (.inr (.inl ()))
def m_if (a:L2) (b:Int):Option (Int):=
  (loop (m_ie a b) 0).bind (fun o=>match o with
    | .inl ()=>
      some (-1)
    | .inr c=>
      some c)
def m_ig (a:Int) (b:Int) (c:Int) (d:Int):Option ((Int×Int×Int)⊕(Int)):=
  (wr (wm .i64 a a) b).bind fun e=>
  some (.inl (e,wqc .i64 c 2,d))
def m_ih (b:Int):Int×Int×Int→Option ((Int×Int×Int)⊕(Int)):=fun (c,a,d)=>
  if (0:Int) < a then
    if (wrc a 2)=1 then
      (wr (wm .i64 d c) b).bind fun e=>
      m_ig c b a e
    else
      m_ig c b a d
  else
    some (.inr d)
def m_ii (a:Int) (b:Int) (c:Int):Option (Int):=
  (loop (m_ih c) (a,b,1)).bind fun d=>
  some d
def m_ij (b:Int) (a:Int):Option (Int):=
  (m_ii b (ws .i64 a 2) a).bind fun c=>
  some c
def m_ik (c:LI) (e:Int) (d:Int):LI×Int→Option ((LI×Int)⊕(LI)):=fun (b,a)=>
  if a < (c.length:Int) then
    (getI c a).bind fun f=>
    (getI b a).bind fun g=>
    (wr (wm .i64 e f) d).bind fun h=>
    (m_h9 (ws .i64 g h) d).bind fun i=>
    (setI b a i).bind fun j=>
    some (.inl (j,wa .i64 a 1))
  else
    some (.inr b)
def m_il (a:LI) (b:LI) (c:Int) (d:Int):Option (LI):=
  (loop (m_ik b c d) (a,0)).bind fun e=>
  some e
def m_im (a:Int) (b:L2) (c:LI) (d:Int):Option ((L2×LI×Int×Int)⊕((L2×LI×Int))):=
  some (.inl (b,c,d,wa .i64 a 1))
def m_in (a:Int) (b:L2):Option ((L2×Int)⊕(L2)):=
  some (.inl (b,wa .i64 a 1))
def m_io (f:L2) (c:LI) (e:Int) (g:Int):L2×Int→Option ((L2×Int)⊕(L2)):=fun (b,a)=>
  if a < (f.length:Int) then
    (getI b a).bind fun d=>
    (if a=(c.length:Int) then
      some false
    else
      (getI d e).bind fun h=>
      some (!(decide (h=0)))).bind fun i=>
    if i=true then
      (getI b (c.length:Int)).bind fun j=>
      (getI d e).bind fun k=>
      (neI a (c.length:Int)).bind fun u2628=>
      (m_il d j k g).bind fun l=>
      (setI b a l).bind fun m=>
      m_in a m
    else
      m_in a b
  else
    some (.inr b)
def m_ip (d:LI) (c:LI) (e:Int) (f:Int):L2×Int→Option ((L2×Int)⊕(L2)):=fun (a,b)=>
  if b < (d.length:Int) then
    (getI a (c.length:Int)).bind fun g=>
    (getI a (c.length:Int)).bind fun h=>
    (getI h b).bind fun i=>
    (wr (wm .i64 i e) f).bind fun j=>
    (setI g b j).bind fun k=>
    (setI a (c.length:Int) k).bind fun l=>
    some (.inl (l,wa .i64 b 1))
  else
    some (.inr a)
def m_iq (a:LI) (b:Int) (c:Int) (d:L2) (f:Int):Option ((L2×LI×Int×Int)⊕((L2×LI×Int))):=
  (getI d (a.length:Int)).bind fun g=>
  (getI g b).bind fun h=>
  (wr (wm .i64 f h) c).bind fun i=>
  (getI d (a.length:Int)).bind fun j=>
  (getI j b).bind fun k=>
  (m_ij k c).bind fun l=>
  (getI d (a.length:Int)).bind fun m=>
  (loop (m_ip m a l c) (d,0)).bind fun e=>
  (loop (m_io e a b c) (e,0)).bind fun n=>
  (app a [b]).bind fun o=>
  m_im b n o i
def m_ir (g:Int) (f:Int):L2×LI×Int×Int→Option ((L2×LI×Int×Int)⊕((L2×LI×Int))):=fun (b,a,c,d)=>
  if d < g then
    if (a.length:Int)=(b.length:Int) then
      some (.inr (b,a,c))
    else
      (sli b (a.length:Int) (b.length:Int)).bind fun h=>
      (m_if h d).bind fun e=>
      if (wa .i64 (a.length:Int) e) < (a.length:Int) then
        m_im d b a c
      else
        if (a.length:Int) < (wa .i64 (a.length:Int) e) then
          (getI b (wa .i64 (a.length:Int) e)).bind fun i=>
          (getI b (a.length:Int)).bind fun j=>
          (setI b (a.length:Int) i).bind fun k=>
          (setI k (wa .i64 (a.length:Int) e) j).bind fun l=>
          (m_h9 (wneg .i64 c) f).bind fun m=>
          m_iq a d f l m
        else
          m_iq a d f b c
  else
    some (.inr (b,a,c))
def m_is (a:L2) (b:Int):Option (L2×LI×Int):=
  (m_h1 a).bind fun c=>
  (loop (m_ir c b) (a,[],1,0)).bind fun (d,e,f)=>
  some (d,e,f)
def m_it (a:L2) (b:Int):Option (Int×Int):=
  (m_h7 a b).bind fun c=>
  if c=0 then
    (m_ic a b).bind fun e=>
    (m_is e b).bind fun d=>
    if (d.2.1.length:Int) < (a.length:Int) then
      some (0,0)
    else
      some (d.2.2,0)
  else
    some (0,c)
def m_iu (b:LI) (e:List (List (Bool×LI))) (f:Int) (g:Int):LI×Int→Option ((LI×Int)⊕(LI)):=fun (c,a)=>
  if a < (b.length:Int) then
    (getI b a).bind fun h=>
    (getI e f).bind fun i=>
    (getI i h).bind fun d=>
    (m_h0 d.1 d.2 g).bind fun j=>
    (app c [j.1]).bind fun k=>
    some (.inl (k,wa .i64 a 1))
  else
    some (.inr c)
def m_iv (b:LI) (d:LI) (e:List (List (Bool×LI))) (f:Int):L2×Int→Option ((L2×Int)⊕(L2)):=fun (c,a)=>
  if a < (b.length:Int) then
    (getI b a).bind fun g=>
    (loop (m_iu d e g f) ([],0)).bind fun h=>
    (app c [h]).bind fun i=>
    some (.inl (i,wa .i64 a 1))
  else
    some (.inr c)
def m_iw (c:List (List (Bool×LI))) (g:Int) (a:Int) (d:LI) (e:LI) (h:List (List (Bool×LI))):Option (Bool):=
  (loop (m_iv d e c a) ([],0)).bind fun f=>
  (m_it f a).bind fun b=>
  some ((decide (b.2=0)) && (!(decide (b.1=0))))
def m_ix (d:LI) (e:Int) (f:Int):LI×Int×Int→Option ((LI×Int×Int)⊕((LI×Int))):=fun (b,c,a)=>
  if a < (d.length:Int) then
    (getI d a).bind fun g=>
    (getI b (wa .i64 e a)).bind fun h=>
    (setI b (wa .i64 e a) (wc .u32 (wand .u64 (wa .u64 (wa .u64 (wm .u64 (wc .u64 f) (wc .u64 g)) (wc .u64 h)) c) 4294967295))).bind fun i=>
    some (.inl (i,wsrc .u64 (wa .u64 (wa .u64 (wm .u64 (wc .u64 f) (wc .u64 g)) (wc .u64 h)) c) 32,wa .i64 a 1))
  else
    some (.inr (b,c))
def m_iy (b:LI) (c:LI):LI×Int→Option ((LI×Int)⊕(LI)):=fun (d,a)=>
  if a < (b.length:Int) then
    (getI b a).bind fun e=>
    (loop (m_ix c a e) (d,0,0)).bind fun (f,g)=>
    (setI f (wa .i64 a (c.length:Int)) (wc .u32 g)).bind fun h=>
    some (.inl (h,wa .i64 a 1))
  else
    some (.inr d)
def m_iz (a:LI) (b:LI):Option (LI):=
  if ((decide ((a.length:Int)=0)) || (decide ((b.length:Int)=0)))=true then
    some []
  else
    (mkL 0 (wa .i64 (a.length:Int) (b.length:Int))).bind fun c=>
    (loop (m_iy a b) (c,0)).bind fun d=>
    (m_f1 d).bind fun e=>
    some e
end M
