/- Models of functions of the program, printed. -/
import Derived.Test.YthekfonboblioabGreatDoorM8
namespace M
open Sx
set_option linter.unusedVariables false
def m_gm (c:LI) (e:Int) (d:Int):LI×Int→Option ((LI×Int)⊕(LI)):=fun (b,a)=>
  if a < (c.length:Int) then
    (getI c a).bind fun f=>
    (getI b a).bind fun g=>
    (wr (wm .i64 e f) d).bind fun h=>
    (m_gb (ws .i64 g h) d).bind fun i=>
    (setI b a i).bind fun j=>
    some (.inl (j,wa .i64 a 1))
  else
    some (.inr b)
def m_gn (a:LI) (b:LI) (c:Int) (d:Int):Option (LI):=
  (loop (m_gm b c d) (a,0)).bind fun e=>
  some e
def m_go (a:Int) (b:L2) (c:LI) (d:Int):Option ((L2×LI×Int×Int)⊕((L2×LI×Int))):=
  some (.inl (b,c,d,wa .i64 a 1))
def m_gp (a:Int) (b:L2):Option ((L2×Int)⊕(L2)):=
  some (.inl (b,wa .i64 a 1))
def m_gq (f:L2) (c:LI) (e:Int) (g:Int):L2×Int→Option ((L2×Int)⊕(L2)):=fun (b,a)=>
  if a < (f.length:Int) then
    (getI b a).bind fun d=>
    (if a=(c.length:Int) then
      some false
    else
      (getI d e).bind fun h=>
      some (!(decide (h=0)))).bind fun i=>
    if i=true then
      (getI b (c.length:Int)).bind fun j=>
      (getI d e).bind fun k=>
      (neI a (c.length:Int)).bind fun u2628=>
      (m_gn d j k g).bind fun l=>
      (setI b a l).bind fun m=>
      m_gp a m
    else
      m_gp a b
  else
    some (.inr b)
def m_gr (d:LI) (c:LI) (e:Int) (f:Int):L2×Int→Option ((L2×Int)⊕(L2)):=fun (a,b)=>
  if b < (d.length:Int) then
    (getI a (c.length:Int)).bind fun g=>
    (getI a (c.length:Int)).bind fun h=>
    (getI h b).bind fun i=>
    (wr (wm .i64 i e) f).bind fun j=>
    (setI g b j).bind fun k=>
    (setI a (c.length:Int) k).bind fun l=>
    some (.inl (l,wa .i64 b 1))
  else
    some (.inr a)
def m_gs (a:LI) (b:Int) (c:Int) (d:L2) (f:Int):Option ((L2×LI×Int×Int)⊕((L2×LI×Int))):=
  (getI d (a.length:Int)).bind fun g=>
  (getI g b).bind fun h=>
  (wr (wm .i64 f h) c).bind fun i=>
  (getI d (a.length:Int)).bind fun j=>
  (getI j b).bind fun k=>
  (m_gl k c).bind fun l=>
  (getI d (a.length:Int)).bind fun m=>
  (loop (m_gr m a l c) (d,0)).bind fun e=>
  (loop (m_gq e a b c) (e,0)).bind fun n=>
  (app a [b]).bind fun o=>
  m_go b n o i
def m_gt (g:Int) (f:Int):L2×LI×Int×Int→Option ((L2×LI×Int×Int)⊕((L2×LI×Int))):=fun (b,a,c,d)=>
  if d < g then
    if (a.length:Int)=(b.length:Int) then
      some (.inr (b,a,c))
    else
      (sli b (a.length:Int) (b.length:Int)).bind fun h=>
      (m_gh h d).bind fun e=>
      if (wa .i64 (a.length:Int) e) < (a.length:Int) then
        m_go d b a c
      else
        if (a.length:Int) < (wa .i64 (a.length:Int) e) then
          (getI b (wa .i64 (a.length:Int) e)).bind fun i=>
          (getI b (a.length:Int)).bind fun j=>
          (setI b (a.length:Int) i).bind fun k=>
          (setI k (wa .i64 (a.length:Int) e) j).bind fun l=>
          (m_gb (wneg .i64 c) f).bind fun m=>
          m_gs a d f l m
        else
          m_gs a d f b c
  else
    some (.inr (b,a,c))
def m_gu (a:L2) (b:Int):Option (L2×LI×Int):=
  (m_f4 a).bind fun c=>
  (loop (m_gt c b) (a,[],1,0)).bind fun (d,e,f)=>
  some (d,e,f)
def m_gv (b:L2) (a:Int):Option (Int×Int):=
  (m_f9 b a).bind fun c=>
  if c=0 then
    (m_ge b a).bind fun d=>
    (m_gu d a).bind fun e=>
    some ((e.2.1.length:Int),0)
  else
    some (0,c)
def m_gw (a:Int) (b:LI) (c:L2):Option ((LI×L2×Int)⊕(LI)):=
  some (.inl (b,c,wa .i64 a 1))
def m_gx (e:L2) (f:Int):LI×L2×Int→Option ((LI×L2×Int)⊕(LI)):=fun (b,c,a)=>
  if a < (e.length:Int) then
    (getI e a).bind fun g=>
    (m_f3 c).bind fun j=>
    (app c [g]).bind fun d=>
    (m_gv d f).bind fun h=>
    if h.1=(d.length:Int) then
      (app b [a]).bind fun i=>
      m_gw a i d
    else
      m_gw a b c
  else
    some (.inr b)
def m_gy (a:L2) (b:Int):Option (LI):=
  (loop (m_gx a b) ([],[],0)).bind fun c=>
  some c
def m_gz (d:L2) (a:Int):L2×Int→Option ((L2×Int)⊕(L2)):=fun (b,c)=>
  if c < (d.length:Int) then
    (getI d c).bind fun e=>
    (getI b a).bind fun f=>
    (getI e a).bind fun g=>
    (app f [g]).bind fun h=>
    (setI b a h).bind fun i=>
    some (.inl (i,wa .i64 c 1))
  else
    some (.inr b)
def m_g0 (c:L2) (d:L2):L2×Int→Option ((L2×Int)⊕(L2)):=fun (b,a)=>
  if a < (c.length:Int) then
    (loop (m_gz d a) (b,0)).bind fun e=>
    some (.inl (e,wa .i64 a 1))
  else
    some (.inr b)
def m_g1 (b:L2) (c:Int):Option (L2):=
  (mkL ([]:LI) c).bind fun a=>
  (loop (m_g0 a b) (a,0)).bind fun d=>
  some d
def m_g2 (c:LI) (g:(List (List (Bool×LI)))×Int×Int) (d:Int) (h:(List (List (Bool×LI)))):Int→Option ((Int)⊕(Unit⊕(Int×LI×LI))):=fun b=>
  if b < (c.length:Int) then
    (getI c b).bind fun a=>
    (m_f2 g.1 a).bind fun e=>
    (m_gy e a).bind fun f=>
    if (f.length:Int)=(ws .i64 d (h.length:Int)) then
      (m_g1 e d).bind fun i=>
      (m_gy i a).bind fun j=>
      some (.inr (.inr (a,f,j)))
    else
      some (.inl (wa .i64 b 1))
  else
    some (.inr (.inl ()))
def m_g3 (d:Int) (a:Int) (e:LI) (f:LI) (g:LI):Option (Int×Int×LI×LI×(List (List (Bool×LI)))×Int):=
  (m_dv d a e f g).bind fun b=>
  if b.2.2=0 then
    (m_fq b.1 a).bind fun c=>
    (m_fv 2147483648 5).bind fun h=>
    (loop (m_g2 h b a c) 0).bind (fun o=>match o with
      | .inl ()=>
        some (0,0,[],[],[],420)
      | .inr (i,j,k)=>
        some (ws .i64 a (c.length:Int),i,j,k,c,0))
  else
    some (0,0,[],[],[],b.2.2)
def m_g4 (b:LI):Int→Option ((Int)⊕(Unit⊕Unit)):=fun a=>
  if a < (b.length:Int) then
    (getI b a).bind fun c=>
    (m_d c).bind fun d=>
    if d=true then
      some (.inl (wa .i64 a 1))
    else
      some (.inr (.inr ()))
  else
    some (.inr (.inl ()))
def m_g5 (a:LI):Option (Bool):=
  (loop (m_g4 a) 0).bind (fun o=>match o with
    | .inl ()=>
      some true
    | .inr ()=>
      some false)
def m_g6 (c:LI) (d:Int) (b:LI) (e:Int):Int→Option ((Int)⊕(Unit⊕Unit)):=fun a=>
  (getI c (wa .i64 d 1)).bind fun f=>
  if a < f then
    (getI b a).bind fun g=>
    (if g < 0 then
      some true
    else
      (getI b a).bind fun h=>
      some (decide (e≤h))).bind fun i=>
    (if i=true then
      some true
    else
      (getI c d).bind fun j=>
      (if j < a then
        (getI b a).bind fun k=>
        (getI b (ws .i64 a 1)).bind fun l=>
        some (decide (k≤l))
      else
        some false).bind fun m=>
      some m).bind fun n=>
    if n=true then
      some (.inr (.inr ()))
    else
      some (.inl (wa .i64 a 1))
  else
    some (.inr (.inl ()))
def m_g7 (c:Int) (b:LI) (d:LI) (e:Int):Int→Option ((Int)⊕(Unit⊕Unit)):=fun a=>
  if a < c then
    (getI b a).bind fun f=>
    (loop (m_g6 b a d e) f).bind (fun o=>match o with
      | .inl ()=>
        some (.inl (wa .i64 a 1))
      | .inr ()=>
        some (.inr (.inr ())))
  else
    some (.inr (.inl ()))
def m_g8 (c:Int) (b:LI):Int→Option ((Int)⊕(Unit⊕Unit)):=fun a=>
  if a < c then
    (getI b a).bind fun d=>
    (getI b (wa .i64 a 1)).bind fun e=>
    if e < d then
      some (.inr (.inr ()))
    else
      some (.inl (wa .i64 a 1))
  else
    some (.inr (.inl ()))
def m_g9 (d:Int) (a:Int) (b:LI) (c:LI) (e:LI):Option (Int):=
  if (((((decide (d < 0)) || (decide ((200:Int) < d))) || (decide (a < 0))) || (decide ((200:Int) < a))) || (decide ((10000:Int) < (c.length:Int))))=true then
    some 6
  else
    (if ((!(decide ((e.length:Int)=(c.length:Int)))) || (!(decide ((b.length:Int)=(wa .i64 a 1)))))=true then
      some true
    else
      (getI b 0).bind fun f=>
      some (!(decide (f=0)))).bind fun g=>
    (if g=true then
      some true
    else
      (getI b a).bind fun h=>
      some (!(decide (h=(c.length:Int))))).bind fun i=>
    if i=true then
      some 1
    else
      (loop (m_g8 a b) 0).bind (fun o=>match o with
        | .inl ()=>
          (loop (m_g7 a b c d) 0).bind (fun o=>match o with
            | .inl ()=>
              (m_g5 e).bind fun j=>
              if j=true then
                some 0
              else
                some 4
            | .inr ()=>
              some 1)
        | .inr ()=>
          some 1)
def m_ha (a:Int):Option (Bool):=
  some (!(decide ((wand .u64 a 9223372036854775808)=0)))
def m_hb (c:Int) (b:Int) (d:Int):Option (Bool×Bool×LI×Int):=
  (m_ha c).bind fun e=>
  (m_bg e [wc .u32 b,wc .u32 (wsrc .u64 b 32)] d).bind fun a=>
  some (a.1,a.2.1,a.2.2.1,a.2.2.2)
def m_hc (a:Int):Option (Bool×Bool×LI×Int):=
  (m_d a).bind fun c=>
  if c=true then
    if (0:Int) < (wc .i64 (wand .u64 (wsrc .u64 a 52) 2047)) then
      m_hb a (wor .u64 (wand .u64 a 4503599627370495) 4503599627370496) (ws .i64 (wc .i64 (wand .u64 (wsrc .u64 a 52) 2047)) 1075)
    else
      m_hb a (wand .u64 a 4503599627370495) (-1074)
  else
    (m_l).bind fun b=>
    some (b.1,b.2.1,[],b.2.2)
def m_hd (b:Bool) (c:Bool) (d:LI) (e:Int):Option (Int):=
  (m_bi b c d e).bind fun a=>
  if a.1=true then
    some 0
  else
    (m_bj a.2.1 a.2.2.1).bind fun f=>
    some f
def m_he (d:LI) (b:Int) (e:LI) (f:LI):(List (Int×Int×Int))×Int→Option (((List (Int×Int×Int))×Int)⊕(((List (Int×Int×Int))))):=fun (c,a)=>
  (getI d (wa .i64 b 1)).bind fun g=>
  if a < g then
    (getI e a).bind fun h=>
    (getI f a).bind fun i=>
    (app c [(h,b,i)]).bind fun j=>
    some (.inl (j,wa .i64 a 1))
  else
    some (.inr c)
def m_hf (d:Int) (b:LI) (e:LI) (f:LI):(List (Int×Int×Int))×Int→Option (((List (Int×Int×Int))×Int)⊕(((List (Int×Int×Int))))):=fun (c,a)=>
  if a < d then
    (getI b a).bind fun g=>
    (loop (m_he b a e f) (c,g)).bind fun h=>
    some (.inl (h,wa .i64 a 1))
  else
    some (.inr c)
def m_hg (e:Int) (a:Int) (b:LI) (c:LI) (d:LI):Option ((List (Int×Int×Int))):=
  (m_g9 e a b c d).bind fun f=>
  if f=0 then
    (loop (m_hf a b c d) ([],0)).bind fun g=>
    some g
  else
    some []
def m_hh (b:(List (Int×Int×Int))):L2×Int→Option ((L2×Int)⊕(L2)):=fun (c,a)=>
  if a < (b.length:Int) then
    (getI b a).bind fun d=>
    (getI c d.1).bind fun e=>
    (getI b a).bind fun f=>
    (getI b a).bind fun g=>
    (setI e f.2.1 g.2.2).bind fun h=>
    (setI c d.1 h).bind fun i=>
    some (.inl (i,wa .i64 a 1))
  else
    some (.inr c)
def m_hi (c:Int) (d:Int):L2×Int→Option ((L2×Int)⊕(L2)):=fun (a,b)=>
  if b < c then
    (mkL 0 d).bind fun e=>
    (app a [e]).bind fun f=>
    some (.inl (f,wa .i64 b 1))
  else
    some (.inr a)
def m_hj (a:Int) (b:Int) (c:LI) (d:LI) (e:LI):Option (L2×Int):=
  (m_g9 a b c d e).bind fun f=>
  if f=0 then
    (loop (m_hi a b) ([],0)).bind fun g=>
    (m_hg a b c d e).bind fun h=>
    (loop (m_hh h) (g,0)).bind fun i=>
    some (i,0)
  else
    some ([],f)
def m_hk (a:Int) (b:List (Bool×LI)):Option (((List (Bool×LI))×Int)⊕(((List (Bool×LI))))):=
  some (.inl (b,wa .i64 a 1))
def m_hl (e:Int) (f:L2×Int) (g:Int) (h:Int):(List (Bool×LI))×Int→Option (((List (Bool×LI))×Int)⊕(((List (Bool×LI))))):=fun (c,b)=>
  if b < e then
    (getI f.1 g).bind fun i=>
    (getI i b).bind fun j=>
    (m_hc j).bind fun a=>
    (m_hd a.1 a.2.1 a.2.2.1 a.2.2.2).bind fun k=>
    if k=0 then
      (app c [(false,[])]).bind fun l=>
      m_hk b l
    else
      (m_9 a.2.1 a.2.2.1 (ws .i64 a.2.2.2 h)).bind fun d=>
      (app c [(d.1,d.2)]).bind fun m=>
      m_hk b m
  else
    some (.inr c)
def m_hm (c:Int) (d:Int) (e:L2×Int) (f:Int):(List (List (Bool×LI)))×Int→Option (((List (List (Bool×LI)))×Int)⊕(((List (List (Bool×LI)))))):=fun (b,a)=>
  if a < c then
    (loop (m_hl d e a f) ([],0)).bind fun g=>
    (app b [g]).bind fun h=>
    some (.inl (h,wa .i64 a 1))
  else
    some (.inr b)
def m_hn (a:Int) (b:Int) (c:Bool):Option ((Int×Bool×Int)⊕(Int)):=
  some (.inl (b,c,wa .i64 a 1))
def m_ho (d:LI):Int×Bool×Int→Option ((Int×Bool×Int)⊕(Int)):=fun (c,e,b)=>
  if b < (d.length:Int) then
    (getI d b).bind fun f=>
    (m_hc f).bind fun a=>
    (m_hd a.1 a.2.1 a.2.2.1 a.2.2.2).bind fun g=>
    if ((!(decide (g=0))) && ((!(e)) || (decide (a.2.2.2 < c))))=true then
      m_hn b a.2.2.2 true
    else
      m_hn b c e
  else
    some (.inr c)
def m_hp (a:Int) (b:Int) (d:LI) (e:LI) (c:LI):Option ((List (List (Bool×LI)))×Int×Int):=
  (m_g9 a b d e c).bind fun f=>
  if f=0 then
    if ((decide ((16:Int) < a)) || (decide ((16:Int) < b)))=true then
      some ([],0,6)
    else
      (loop (m_ho c) (0,false,0)).bind fun g=>
      (m_hj a b d e c).bind fun h=>
      (loop (m_hm a b h g) ([],0)).bind fun i=>
      some (i,g,0)
  else
    some ([],0,f)
end M
