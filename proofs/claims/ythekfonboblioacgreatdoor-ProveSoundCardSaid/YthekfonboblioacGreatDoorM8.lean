/- Models of functions of the program, printed. -/
import Derived.Test.YthekfonboblioacGreatDoorM7
namespace M
open Sx
set_option linter.unusedVariables false
def m_gk (a:LI):Option (Bool):=
  (m_gj a).bind fun b=>
  some (decide ((0:Int)≤b))
def m_gl (b:Int) (c:LI) (a:Int) (d:Int):Option ((LI×Int)⊕(LI)):=
  (wshr .u64 d (wc .u64 (wrc b 32))).bind fun e=>
  (setI c a (wc .u32 (wand .u64 e 4294967295))).bind fun f=>
  some (.inl (f,wa .i64 a 1))
def m_gm (f:LI) (c:LI) (b:Int):LI×Int→Option ((LI×Int)⊕(LI)):=fun (d,a)=>
  if a < (f.length:Int) then
    (getI c (wa .i64 (wqc .i64 b 32) a)).bind fun e=>
    if (wa .i64 (wa .i64 (wqc .i64 b 32) a) 1) < (c.length:Int) then
      (getI c (wa .i64 (wa .i64 (wqc .i64 b 32) a) 1)).bind fun g=>
      m_gl b d a (wor .u64 (wc .u64 e) (wslc .u64 (wc .u64 g) 32))
    else
      m_gl b d a (wc .u64 e)
  else
    some (.inr d)
def m_gn (a:LI) (b:Int):Option (LI×Bool):=
  if (a.length:Int)≤(wqc .i64 b 32) then
    some ([],decide ((0:Int) < (a.length:Int)))
  else
    (sli a 0 (wqc .i64 b 32)).bind fun d=>
    (m_gk d).bind fun e=>
    (if e=true then
      some true
    else
      (getI a (wqc .i64 b 32)).bind fun f=>
      (wshl .u32 1 (wc .u64 (wrc b 32))).bind fun g=>
      some (!(decide ((wand .u32 f (ws .u32 g 1))=0)))).bind fun h=>
    (mkL 0 (ws .i64 (a.length:Int) (wqc .i64 b 32))).bind fun c=>
    (loop (m_gm c a b) (c,0)).bind fun i=>
    (m_f1 i).bind fun j=>
    some (j,h)
def m_go (b:LI) (c:Int) (a:Int):Option ((LI×Int×Int)⊕((LI×Int))):=
  (app b [wc .u32 (wand .u64 a 4294967295)]).bind fun d=>
  some (.inl (d,wsrc .u64 a 32,wa .i64 c 1))
def m_gp (d:LI) (e:LI):LI×Int×Int→Option ((LI×Int×Int)⊕((LI×Int))):=fun (b,c,a)=>
  if a < (d.length:Int) then
    (getI d a).bind fun f=>
    if a < (e.length:Int) then
      (getI e a).bind fun g=>
      m_go b a (wa .u64 (wa .u64 (wc .u64 f) c) (wc .u64 g))
    else
      m_go b a (wa .u64 (wc .u64 f) c)
  else
    some (.inr (b,c))
def m_gq (a:LI) (b:LI):Option (LI):=
  (mkLc 0 0 (wa .i64 (a.length:Int) 1)).bind fun c=>
  (loop (m_gp a b) (c,0,0)).bind fun (d,e)=>
  (app d [wc .u32 e]).bind fun f=>
  (m_f1 f).bind fun g=>
  some g
def m_gr (a:LI) (b:LI):Option (LI):=
  if (a.length:Int) < (b.length:Int) then
    m_gq b a
  else
    m_gq a b
def m_gs (b:Bool) (c:LI):Option (Bool×LI×Int):=
  (m_f2 b c).bind fun a=>
  some (a.1,a.2,0)
def m_gt (b:Bool) (f:LI) (a:Int):Option (Bool×LI×Int):=
  if ((decide (a < (-1048576))) || (decide ((1048576:Int) < a)))=true then
    some (false,[],3)
  else
    (m_f1 f).bind fun d=>
    if (0:Int)≤a then
      (m_gg d a).bind fun g=>
      (m_f2 b g).bind fun e=>
      some (e.1,e.2,0)
    else
      (m_gn d (wneg .i64 a)).bind fun c=>
      if (b && c.2)=true then
        (m_gr c.1 [1]).bind fun h=>
        m_gs b h
      else
        m_gs b c.1
def m_gu:Int×Bool×LI→Option ((Int×Bool×LI)⊕((Int×Bool×LI))):=fun (a,b,c)=>
  if (1048576:Int) < a then
    (m_gt b c (-1048576)).bind fun d=>
    some (.inl (ws .i64 a 1048576,d.1,d.2.1))
  else
    some (.inr (a,b,c))
def m_gv (b:Bool) (c:LI) (d:Int):Option (Bool×LI):=
  (loop (m_gu) (d,b,c)).bind fun (e,f,g)=>
  (m_gt f g (wneg .i64 e)).bind fun a=>
  some (a.1,a.2.1)
def m_gw (g:Bool) (h:Bool) (i:LI) (b:Int):Option (Bool×Bool×LI×Int×Bool):=
  if g=true then
    (m_f8).bind fun c=>
    some (c.1,c.2.1,[],c.2.2,false)
  else
    (m_f9 h i).bind fun a=>
    (m_ga a.1 a.2).bind fun j=>
    if j=0 then
      some (false,false,[],0,true)
    else
      (m_gc a.1 a.2).bind fun d=>
      (m_ge a.1 a.2).bind fun k=>
      (if (ws .i64 65536 k) < b then
        some true
      else
        some (decide (b < (ws .i64 (-65536) d)))).bind fun l=>
      if l=true then
        (m_f8).bind fun e=>
        some (e.1,e.2.1,[],e.2.2,false)
      else
        (m_gv a.1 a.2 d).bind fun f=>
        some (false,f.1,f.2,wa .i64 b d,true)
def m_gx (b:Bool) (c:LI) (d:Int):Option (Bool×Bool×LI×Int):=
  (m_gw false b c d).bind fun a=>
  some (a.1,a.2.1,a.2.2.1,a.2.2.2.1)
def m_gy (b:Int) (c:Bool) (d:LI):Option (Bool×Bool×LI×Int):=
  (m_gx c d b).bind fun a=>
  some (a.1,a.2.1,a.2.2.1,a.2.2.2)
def m_gz (d:Int) (b:Int) (e:Int):Option (Bool×Bool×LI×Int):=
  (m_f4 (wc .i64 e)).bind fun a=>
  (m_f5 d).bind fun f=>
  if f=true then
    (m_f7 a.1 a.2).bind fun c=>
    m_gy b c.1 c.2
  else
    m_gy b a.1 a.2
def m_g0 (b:Int):Option (Bool×Bool×LI×Int):=
  (m_ft b).bind fun a=>
  if a.1=2047 then
    some (true,false,[],0)
  else
    if a.1=0 then
      m_gz b (-1074) a.2
    else
      m_gz b (ws .i64 a.1 1075) (wor .u64 a.2 4503599627370496)
def m_g1 (b:Bool) (c:Bool) (d:LI) (e:Int):Option (Int):=
  (m_gw b c d e).bind fun a=>
  (m_ga a.2.1 a.2.2.1).bind fun f=>
  some f
def m_g2 (d:LI) (b:Int) (e:LI) (f:LI):(List (Int×Int×Int))×Int→Option (((List (Int×Int×Int))×Int)⊕(((List (Int×Int×Int))))):=fun (c,a)=>
  (getI d (wa .i64 b 1)).bind fun g=>
  if a < g then
    (getI e a).bind fun h=>
    (getI f a).bind fun i=>
    (app c [(h,b,i)]).bind fun j=>
    some (.inl (j,wa .i64 a 1))
  else
    some (.inr c)
def m_g3 (d:Int) (b:LI) (e:LI) (f:LI):(List (Int×Int×Int))×Int→Option (((List (Int×Int×Int))×Int)⊕(((List (Int×Int×Int))))):=fun (c,a)=>
  if a < d then
    (getI b a).bind fun g=>
    (loop (m_g2 b a e f) (c,g)).bind fun h=>
    some (.inl (h,wa .i64 a 1))
  else
    some (.inr c)
def m_g4 (f:Int) (a:Int) (b:LI) (c:LI) (d:LI):Option ((List (Int×Int×Int))):=
  (loop (m_g3 a b c d) ([],0)).bind fun e=>
  some e
def m_g5 (a:Int) (b:List (List (Bool×LI))):Option (((List (List (Bool×LI)))×Int)⊕(((List (List (Bool×LI)))))):=
  some (.inl (b,wa .i64 a 1))
def m_g6 (e:(List (Int×Int×Int))) (g:Int):(List (List (Bool×LI)))×Int→Option (((List (List (Bool×LI)))×Int)⊕(((List (List (Bool×LI)))))):=fun (b,c)=>
  if c < (e.length:Int) then
    (getI e c).bind fun d=>
    (m_g0 d.2.2).bind fun a=>
    (m_g1 a.1 a.2.1 a.2.2.1 a.2.2.2).bind fun h=>
    if h=0 then
      m_g5 c b
    else
      (getI b d.1).bind fun i=>
      (m_gt a.2.1 a.2.2.1 (ws .i64 a.2.2.2 g)).bind fun f=>
      (setI i d.2.1 (f.1,f.2.1)).bind fun j=>
      (setI b d.1 j).bind fun k=>
      m_g5 c k
  else
    some (.inr b)
def m_g7 (c:List (List (Bool×LI))) (d:Int):(List (List (Bool×LI)))×Int→Option (((List (List (Bool×LI)))×Int)⊕(((List (List (Bool×LI)))))):=fun (b,a)=>
  if a < (c.length:Int) then
    (mkL (false,[]) d).bind fun e=>
    (setI b a e).bind fun f=>
    some (.inl (f,wa .i64 a 1))
  else
    some (.inr b)
def m_g8 (a:Int) (b:Int) (c:Bool):Option ((Int×Bool×Int)⊕(Int)):=
  some (.inl (b,c,wa .i64 a 1))
def m_g9 (d:LI):Int×Bool×Int→Option ((Int×Bool×Int)⊕(Int)):=fun (c,e,b)=>
  if b < (d.length:Int) then
    (getI d b).bind fun f=>
    (m_g0 f).bind fun a=>
    (m_g1 a.1 a.2.1 a.2.2.1 a.2.2.2).bind fun g=>
    if ((!(decide (g=0))) && (e || (decide (a.2.2.2 < c))))=true then
      m_g8 b a.2.2.2 false
    else
      m_g8 b c e
  else
    some (.inr c)
def m_ha (a:Int) (b:Int) (d:LI) (e:LI) (c:LI):Option ((List (List (Bool×LI)))×Int×Int):=
  (m_fz a b d e c).bind fun f=>
  if f=0 then
    if ((decide ((16:Int) < a)) || (decide ((16:Int) < b)))=true then
      some ([],0,6)
    else
      (loop (m_g9 c) (0,true,0)).bind fun g=>
      (mkL ([]:List (Bool×LI)) a).bind fun h=>
      (loop (m_g7 h b) (h,0)).bind fun i=>
      (m_g4 a b d e c).bind fun j=>
      (loop (m_g6 j g) (i,0)).bind fun k=>
      some (k,g,0)
  else
    some ([],0,f)
def m_hb (b:Int):Int→Option ((Int)⊕(Unit⊕Unit)):=fun a=>
  if (wm .i64 a a)≤b then
    (wr b a).bind fun c=>
    if c=0 then
      some (.inr (.inr ()))
    else
      some (.inl (wa .i64 a 1))
  else
    some (.inr (.inl ()))
def m_hc (a:Int):Option (Bool):=
  if ((decide (a < 2)) || (decide ((2147483647:Int) < a)))=true then
    some false
  else
    (loop (m_hb a) 2).bind (fun o=>match o with
      | .inl ()=>
        some true
      | .inr ()=>
        some false)
def m_hd (b:LI) (d:Int):Int→Option ((Int)⊕(Unit⊕Unit)):=fun a=>
  if a < (b.length:Int) then
    (getI b a).bind fun c=>
    (if ((decide (c < 0)) || (decide (d≤c)))=true then
      some true
    else
      (if (0:Int) < a then
        (getI b (ws .i64 a 1)).bind fun e=>
        some (decide (c≤e))
      else
        some false).bind fun f=>
      some f).bind fun g=>
    if g=true then
      some (.inr (.inr ()))
    else
      some (.inl (wa .i64 a 1))
  else
    some (.inr (.inl ()))
def m_he (a:LI) (b:Int) (c:Int):Option (Bool):=
  if (a.length:Int)=b then
    (loop (m_hd a c) 0).bind (fun o=>match o with
      | .inl ()=>
        some true
      | .inr ()=>
        some false)
  else
    some false
def m_hf (a:Int):Option (Bool):=
  some (!(decide (a=a)))
end M
