/- Models of functions of the program, printed. -/
import Derived.Test.YthekfonboblioabGreatDoorM5
namespace M
open Sx
set_option linter.unusedVariables false
def m_ec (a:Int):Option (Bool):=
  some (!(decide (a=a)))
def m_ed (a:Int) (b:Int):Option (Int):=
  (m_ec a).bind fun d=>
  (m_ec b).bind fun c=>
  if d=true then
    if c=true then
      some 0
    else
      some (-1)
  else
    if c=true then
      some 1
    else
      if a < b then
        some (-1)
      else
        if b < a then
          some 1
        else
          some 0
def m_ee (a:Int) (b:Int):Option (Int):=
  (m_b7 a).bind fun d=>
  (m_b7 b).bind fun c=>
  if d=true then
    if c=true then
      some 0
    else
      some (-1)
  else
    if c=true then
      some 1
    else
      if a < b then
        some (-1)
      else
        if b < a then
          some 1
        else
          some 0
def m_ef (b:LI) (c:LI):Int→Option ((Int)⊕(Unit⊕Int)):=fun a=>
  if (0:Int)≤a then
    (getI b a).bind fun d=>
    (getI c a).bind fun e=>
    if d=e then
      some (.inl (ws .i64 a 1))
    else
      (getI b a).bind fun f=>
      (getI c a).bind fun g=>
      (m_ed f g).bind fun h=>
      some (.inr (.inr h))
  else
    some (.inr (.inl ()))
def m_eg (a:LI) (b:LI):Option (Int):=
  if (a.length:Int)=(b.length:Int) then
    (loop (m_ef a b) (ws .i64 (a.length:Int) 1)).bind (fun o=>match o with
      | .inl ()=>
        some 0
      | .inr c=>
        some c)
  else
    (m_ee (a.length:Int) (b.length:Int)).bind fun d=>
    some d
def m_eh (c:LI) (a:Int) (b:Int):Option ((LI×Int×Int)⊕(LI)):=
  (setI c a (wc .u32 (wand .u64 b 4294967295))).bind fun d=>
  some (.inl (d,wand .u64 (wsrc .u64 b 32) 1,wa .i64 a 1))
def m_ei (c:LI) (d:LI):LI×Int×Int→Option ((LI×Int×Int)⊕(LI)):=fun (b,e,a)=>
  if a < (c.length:Int) then
    (getI c a).bind fun f=>
    if a < (d.length:Int) then
      (getI d a).bind fun g=>
      m_eh b a (ws .u64 (ws .u64 (wc .u64 f) e) (wc .u64 g))
    else
      m_eh b a (ws .u64 (wc .u64 f) e)
  else
    some (.inr b)
def m_ej (a:LI) (b:LI):Option (LI):=
  (mkL 0 (a.length:Int)).bind fun c=>
  (loop (m_ei a b) (c,0,0)).bind fun d=>
  (m_cm d).bind fun e=>
  some e
def m_ek (c:Bool) (h:LI) (d:Bool) (i:LI):Option (Bool×LI):=
  (m_cm h).bind fun a=>
  (m_cm i).bind fun b=>
  if (c == d)=true then
    (m_dc a b).bind fun j=>
    (m_cn c j).bind fun e=>
    some (e.1,e.2)
  else
    (m_eg a b).bind fun k=>
    if (0:Int)≤k then
      (m_ej a b).bind fun l=>
      (m_cn c l).bind fun f=>
      some (f.1,f.2)
    else
      (m_ej b a).bind fun m=>
      (m_cn d m).bind fun g=>
      some (g.1,g.2)
def m_el (b:Bool) (c:LI) (d:Bool) (e:LI):Option (Bool×LI):=
  (m_ek b c (!(d)) e).bind fun a=>
  some (a.1,a.2)
def m_em (f:LI) (c:Int):LI×Int×Int→Option ((LI×Int×Int)⊕((LI×Int))):=fun (d,b,a)=>
  if (0:Int)≤a then
    (getI f a).bind fun e=>
    (wq .u64 (wor .u64 (wslc .u64 b 32) (wc .u64 e)) (wc .u64 c)).bind fun g=>
    (setI d a (wc .u32 g)).bind fun h=>
    (wr (wor .u64 (wslc .u64 b 32) (wc .u64 e)) (wc .u64 c)).bind fun i=>
    some (.inl (h,i,ws .i64 a 1))
  else
    some (.inr (d,b))
def m_en (a:LI) (b:Int):Option (LI×Int):=
  (mkL 0 (a.length:Int)).bind fun c=>
  (loop (m_em a b) (c,0,ws .i64 (a.length:Int) 1)).bind fun (d,e)=>
  (m_cm d).bind fun f=>
  some (f,wc .u32 e)
def m_eo (a:Int):Option (Int):=
  (m_be a).bind fun b=>
  some (ws .i64 32 b)
def m_ep (d:LI) (e:Int) (f:Int):LI×Int×Int→Option ((LI×Int×Int)⊕((LI×Int))):=fun (b,c,a)=>
  if a < (d.length:Int) then
    (getI d a).bind fun g=>
    (getW b e f a).bind fun h=>
    (setW b e f a (wc .u32 (wand .u64 (wa .u64 (wa .u64 (wc .u64 h) (wc .u64 g)) c) 4294967295))).bind fun i=>
    some (.inl (i,wsrc .u64 (wa .u64 (wa .u64 (wc .u64 h) (wc .u64 g)) c) 32,wa .i64 a 1))
  else
    some (.inr (b,c))
def m_eq (g:LI) (h:Int) (i:Int) (c:Int):LI×Int×Int×Int→Option ((LI×Int×Int×Int)⊕((LI×Int×Int))):=fun (d,b,e,a)=>
  if a < (g.length:Int) then
    (getI g a).bind fun f=>
    (getW d h i a).bind fun j=>
    (setW d h i a (wc .u32 (wand .u64 (ws .u64 (ws .u64 (wc .u64 j) (wand .u64 (wa .u64 (wm .u64 c (wc .u64 f)) b) 4294967295)) e) 4294967295))).bind fun k=>
    some (.inl (k,wsrc .u64 (wa .u64 (wm .u64 c (wc .u64 f)) b) 32,wand .u64 (wsrc .u64 (ws .u64 (ws .u64 (wc .u64 j) (wand .u64 (wa .u64 (wm .u64 c (wc .u64 f)) b) 4294967295)) e) 32) 1,wa .i64 a 1))
  else
    some (.inr (d,b,e))
def m_er (a:LI) (e:LI) (f:Int) (g:Int):Int×Int→Option ((Int×Int)⊕(Int)):=fun (b,c)=>
  (if (4294967295:Int) < b then
    some true
  else
    (getI a (ws .i64 (a.length:Int) 2)).bind fun h=>
    (getW e f g (ws .i64 (a.length:Int) 2)).bind fun i=>
    some (decide ((wor .u64 (wslc .u64 c 32) (wc .u64 i)) < (wm .u64 b (wc .u64 h))))).bind fun j=>
  if j=true then
    (getI a (ws .i64 (a.length:Int) 1)).bind fun d=>
    if (4294967295:Int) < (wa .u64 c (wc .u64 d)) then
      some (.inr (ws .u64 b 1))
    else
      some (.inl (ws .u64 b 1,wa .u64 c (wc .u64 d)))
  else
    some (.inr b)
def m_es (d:LI) (b:Int) (c:Int) (a:LI):Option (LI×Int):=
  (getW d b c (a.length:Int)).bind fun f=>
  (getW d b c (ws .i64 (a.length:Int) 1)).bind fun g=>
  (getI a (ws .i64 (a.length:Int) 1)).bind fun n=>
  (wq .u64 (wor .u64 (wslc .u64 (wc .u64 f) 32) (wc .u64 g)) (wc .u64 n)).bind fun o=>
  (getI a (ws .i64 (a.length:Int) 1)).bind fun p=>
  (wr (wor .u64 (wslc .u64 (wc .u64 f) 32) (wc .u64 g)) (wc .u64 p)).bind fun q=>
  (loop (m_er a d b c) (o,q)).bind fun e=>
  (loop (m_eq a b c e) (d,0,0,0)).bind fun (h,i,j)=>
  (getW h b c (a.length:Int)).bind fun k=>
  (setW h b c (a.length:Int) (wc .u32 (wand .u64 (ws .u64 (ws .u64 (wc .u64 k) i) j) 4294967295))).bind fun l=>
  if (wand .u64 (wsrc .u64 (ws .u64 (ws .u64 (wc .u64 k) i) j) 32) 1)=0 then
    some (l,wc .u32 e)
  else
    (loop (m_ep a b c) (l,0,0)).bind fun (m,r)=>
    (getW m b c (a.length:Int)).bind fun s=>
    (setW m b c (a.length:Int) (wa .u32 s (wc .u32 r))).bind fun t=>
    some (t,wc .u32 (ws .u64 e 1))
def m_et (b:LI):LI×LI×Int→Option ((LI×LI×Int)⊕((LI×LI))):=fun (d,c,a)=>
  if (0:Int)≤a then
    (sli c a (wa .i64 (wa .i64 a (b.length:Int)) 1)).bind fun g=>
    (m_es c a (wa .i64 (wa .i64 a (b.length:Int)) 1) b).bind fun e=>
    (setI d a e.2).bind fun f=>
    some (.inl (f,e.1,ws .i64 a 1))
  else
    some (.inr (d,c))
def m_eu (b:LI) (a:LI):Option (LI×LI):=
  (m_eg b a).bind fun i=>
  if i < 0 then
    (m_cr b).bind fun j=>
    some ([],j)
  else
    if (a.length:Int)=1 then
      (getI a 0).bind fun k=>
      (m_en b k).bind fun e=>
      (m_cm [e.2]).bind fun l=>
      some (e.1,l)
    else
      (getI a (ws .i64 (a.length:Int) 1)).bind fun m=>
      (m_eo m).bind fun c=>
      (m_c1 a c).bind fun d=>
      (mkL 0 (wa .i64 (b.length:Int) 1)).bind fun f=>
      (m_c1 b c).bind fun n=>
      (cpI f 0 (f.length:Int) n).bind fun g=>
      (mkL 0 (ws .i64 (g.1.length:Int) (d.length:Int))).bind fun h=>
      (loop (m_et d) (h,g.1,ws .i64 (h.length:Int) 1)).bind fun (o,p)=>
      (sli p 0 (d.length:Int)).bind fun q=>
      (m_cm q).bind fun r=>
      (m_c8 r c).bind fun s=>
      (m_cm o).bind fun t=>
      some (t,s.1)
def m_ev (c:Bool) (d:Bool) (e:LI) (f:LI):Option (Bool×LI×Bool×LI×Int):=
  (m_cn (!((c == d))) e).bind fun a=>
  (m_cn false f).bind fun b=>
  some (a.1,a.2,b.1,b.2,0)
def m_ew (b:Bool) (e:LI) (d:Bool) (f:LI):Option (Bool×LI×Bool×LI×Int):=
  (m_cm f).bind fun c=>
  if (c.length:Int)=0 then
    some (false,[],false,[],8)
  else
    (m_cm e).bind fun g=>
    (m_eu g c).bind fun a=>
    if (b && (decide ((0:Int) < (a.2.length:Int))))=true then
      (m_dc a.1 [1]).bind fun h=>
      (m_ej c a.2).bind fun i=>
      m_ev b d h i
    else
      m_ev b d a.1 a.2
def m_ex (b:Bool) (c:LI) (d:Bool) (e:LI):Option (Bool×LI×Int):=
  (m_ew b c d e).bind fun a=>
  if ((decide (a.2.2.2.2=0)) && (decide ((0:Int) < (a.2.2.2.1.length:Int))))=true then
    some (false,[],10)
  else
    some (a.1,a.2.1,a.2.2.2.2)
def m_ey (c:List (Bool×LI)) (j:Bool) (k:LI) (l:Bool) (m:LI) (n:Bool) (o:LI):(List (Bool×LI))×Int→Option (((List (Bool×LI))×Int)⊕(((List (Bool×LI))))):=fun (b,a)=>
  if a < (c.length:Int) then
    (getI c a).bind fun d=>
    (getI b a).bind fun e=>
    (m_eb j k e.1 e.2).bind fun f=>
    (m_eb l m d.1 d.2).bind fun g=>
    (m_el f.1 f.2 g.1 g.2).bind fun h=>
    (m_ex h.1 h.2 n o).bind fun i=>
    (setI b a (i.1,i.2.1)).bind fun p=>
    some (.inl (p,wa .i64 a 1))
  else
    some (.inr b)
def m_ez (a:List (Bool×LI)) (b:List (Bool×LI)) (c:Bool) (d:LI) (e:Bool) (f:LI) (g:Bool) (h:LI):Option ((List (Bool×LI))):=
  (loop (m_ey b e f c d g h) (a,0)).bind fun i=>
  some i
end M
