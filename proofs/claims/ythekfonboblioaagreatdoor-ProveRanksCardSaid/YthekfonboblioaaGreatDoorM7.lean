/- Models of functions of the program, printed. -/
import Derived.Test.YthekfonboblioaaGreatDoorM6
namespace M
open Sx
set_option linter.unusedVariables false
def m_e0 (c:LI) (a:Int) (b:Int):Option ((LI×Int×Int)⊕(LI)):=
  (setI c a (wc .u32 (wand .u64 b 4294967295))).bind fun d=>
  some (.inl (d,wand .u64 (wsrc .u64 b 32) 1,wa .i64 a 1))
def m_e1 (c:LI) (d:LI):LI×Int×Int→Option ((LI×Int×Int)⊕(LI)):=fun (b,e,a)=>
  if a < (c.length:Int) then
    (getI c a).bind fun f=>
    if a < (d.length:Int) then
      (getI d a).bind fun g=>
      m_e0 b a (ws .u64 (ws .u64 (wc .u64 f) e) (wc .u64 g))
    else
      m_e0 b a (ws .u64 (wc .u64 f) e)
  else
    some (.inr b)
def m_e2 (a:LI) (b:LI):Option (LI):=
  (mkL 0 (a.length:Int)).bind fun c=>
  (loop (m_e1 a b) (c,0,0)).bind fun d=>
  (m_c5 d).bind fun e=>
  some e
def m_e3 (c:Bool) (h:LI) (d:Bool) (i:LI):Option (Bool×LI):=
  (m_c5 h).bind fun a=>
  (m_c5 i).bind fun b=>
  if (c == d)=true then
    (m_dv a b).bind fun j=>
    (m_c6 c j).bind fun e=>
    some (e.1,e.2)
  else
    (m_ez a b).bind fun k=>
    if (0:Int)≤k then
      (m_e2 a b).bind fun l=>
      (m_c6 c l).bind fun f=>
      some (f.1,f.2)
    else
      (m_e2 b a).bind fun m=>
      (m_c6 d m).bind fun g=>
      some (g.1,g.2)
def m_e4 (b:Bool) (c:LI) (d:Bool) (e:LI):Option (Bool×LI):=
  (m_e3 b c (!(d)) e).bind fun a=>
  some (a.1,a.2)
def m_e5 (f:LI) (c:Int):LI×Int×Int→Option ((LI×Int×Int)⊕((LI×Int))):=fun (d,b,a)=>
  if (0:Int)≤a then
    (getI f a).bind fun e=>
    (wq .u64 (wor .u64 (wslc .u64 b 32) (wc .u64 e)) (wc .u64 c)).bind fun g=>
    (setI d a (wc .u32 g)).bind fun h=>
    (wr (wor .u64 (wslc .u64 b 32) (wc .u64 e)) (wc .u64 c)).bind fun i=>
    some (.inl (h,i,ws .i64 a 1))
  else
    some (.inr (d,b))
def m_e6 (a:LI) (b:Int):Option (LI×Int):=
  (mkL 0 (a.length:Int)).bind fun c=>
  (loop (m_e5 a b) (c,0,ws .i64 (a.length:Int) 1)).bind fun (d,e)=>
  (m_c5 d).bind fun f=>
  some (f,wc .u32 e)
def m_e7 (a:Int):Option (Int):=
  (m_be a).bind fun b=>
  some (ws .i64 32 b)
def m_e8 (d:LI) (e:Int) (f:Int):LI×Int×Int→Option ((LI×Int×Int)⊕((LI×Int))):=fun (b,c,a)=>
  if a < (d.length:Int) then
    (getI d a).bind fun g=>
    (getW b e f a).bind fun h=>
    (setW b e f a (wc .u32 (wand .u64 (wa .u64 (wa .u64 (wc .u64 h) (wc .u64 g)) c) 4294967295))).bind fun i=>
    some (.inl (i,wsrc .u64 (wa .u64 (wa .u64 (wc .u64 h) (wc .u64 g)) c) 32,wa .i64 a 1))
  else
    some (.inr (b,c))
def m_e9 (g:LI) (h:Int) (i:Int) (c:Int):LI×Int×Int×Int→Option ((LI×Int×Int×Int)⊕((LI×Int×Int))):=fun (d,b,e,a)=>
  if a < (g.length:Int) then
    (getI g a).bind fun f=>
    (getW d h i a).bind fun j=>
    (setW d h i a (wc .u32 (wand .u64 (ws .u64 (ws .u64 (wc .u64 j) (wand .u64 (wa .u64 (wm .u64 c (wc .u64 f)) b) 4294967295)) e) 4294967295))).bind fun k=>
    some (.inl (k,wsrc .u64 (wa .u64 (wm .u64 c (wc .u64 f)) b) 32,wand .u64 (wsrc .u64 (ws .u64 (ws .u64 (wc .u64 j) (wand .u64 (wa .u64 (wm .u64 c (wc .u64 f)) b) 4294967295)) e) 32) 1,wa .i64 a 1))
  else
    some (.inr (d,b,e))
def m_fa (a:LI) (e:LI) (f:Int) (g:Int):Int×Int→Option ((Int×Int)⊕(Int)):=fun (b,c)=>
  (if (4294967295:Int) < b then
    some true
  else
    (getI a (ws .i64 (a.length:Int) 2)).bind fun h=>
    (getW e f g (ws .i64 (a.length:Int) 2)).bind fun i=>
    some (decide ((wor .u64 (wslc .u64 c 32) (wc .u64 i)) < (wm .u64 b (wc .u64 h))))).bind fun j=>
  if j=true then
    (getI a (ws .i64 (a.length:Int) 1)).bind fun d=>
    if (4294967295:Int) < (wa .u64 c (wc .u64 d)) then
      some (.inr (ws .u64 b 1))
    else
      some (.inl (ws .u64 b 1,wa .u64 c (wc .u64 d)))
  else
    some (.inr b)
def m_fb (d:LI) (b:Int) (c:Int) (a:LI):Option (LI×Int):=
  (getW d b c (a.length:Int)).bind fun f=>
  (getW d b c (ws .i64 (a.length:Int) 1)).bind fun g=>
  (getI a (ws .i64 (a.length:Int) 1)).bind fun n=>
  (wq .u64 (wor .u64 (wslc .u64 (wc .u64 f) 32) (wc .u64 g)) (wc .u64 n)).bind fun o=>
  (getI a (ws .i64 (a.length:Int) 1)).bind fun p=>
  (wr (wor .u64 (wslc .u64 (wc .u64 f) 32) (wc .u64 g)) (wc .u64 p)).bind fun q=>
  (loop (m_fa a d b c) (o,q)).bind fun e=>
  (loop (m_e9 a b c e) (d,0,0,0)).bind fun (h,i,j)=>
  (getW h b c (a.length:Int)).bind fun k=>
  (setW h b c (a.length:Int) (wc .u32 (wand .u64 (ws .u64 (ws .u64 (wc .u64 k) i) j) 4294967295))).bind fun l=>
  if (wand .u64 (wsrc .u64 (ws .u64 (ws .u64 (wc .u64 k) i) j) 32) 1)=0 then
    some (l,wc .u32 e)
  else
    (loop (m_e8 a b c) (l,0,0)).bind fun (m,r)=>
    (getW m b c (a.length:Int)).bind fun s=>
    (setW m b c (a.length:Int) (wa .u32 s (wc .u32 r))).bind fun t=>
    some (t,wc .u32 (ws .u64 e 1))
def m_fc (b:LI):LI×LI×Int→Option ((LI×LI×Int)⊕((LI×LI))):=fun (d,c,a)=>
  if (0:Int)≤a then
    (sli c a (wa .i64 (wa .i64 a (b.length:Int)) 1)).bind fun g=>
    (m_fb c a (wa .i64 (wa .i64 a (b.length:Int)) 1) b).bind fun e=>
    (setI d a e.2).bind fun f=>
    some (.inl (f,e.1,ws .i64 a 1))
  else
    some (.inr (d,c))
def m_fd (b:LI) (a:LI):Option (LI×LI):=
  (m_ez b a).bind fun i=>
  if i < 0 then
    (m_da b).bind fun j=>
    some ([],j)
  else
    if (a.length:Int)=1 then
      (getI a 0).bind fun k=>
      (m_e6 b k).bind fun e=>
      (m_c5 [e.2]).bind fun l=>
      some (e.1,l)
    else
      (getI a (ws .i64 (a.length:Int) 1)).bind fun m=>
      (m_e7 m).bind fun c=>
      (m_dk a c).bind fun d=>
      (mkL 0 (wa .i64 (b.length:Int) 1)).bind fun f=>
      (m_dk b c).bind fun n=>
      (cpI f 0 (f.length:Int) n).bind fun g=>
      (mkL 0 (ws .i64 (g.1.length:Int) (d.length:Int))).bind fun h=>
      (loop (m_fc d) (h,g.1,ws .i64 (h.length:Int) 1)).bind fun (o,p)=>
      (sli p 0 (d.length:Int)).bind fun q=>
      (m_c5 q).bind fun r=>
      (m_dr r c).bind fun s=>
      (m_c5 o).bind fun t=>
      some (t,s.1)
def m_fe (c:Bool) (d:Bool) (e:LI) (f:LI):Option (Bool×LI×Bool×LI×Int):=
  (m_c6 (!((c == d))) e).bind fun a=>
  (m_c6 false f).bind fun b=>
  some (a.1,a.2,b.1,b.2,0)
def m_ff (b:Bool) (e:LI) (d:Bool) (f:LI):Option (Bool×LI×Bool×LI×Int):=
  (m_c5 f).bind fun c=>
  if (c.length:Int)=0 then
    some (false,[],false,[],8)
  else
    (m_c5 e).bind fun g=>
    (m_fd g c).bind fun a=>
    if (b && (decide ((0:Int) < (a.2.length:Int))))=true then
      (m_dv a.1 [1]).bind fun h=>
      (m_e2 c a.2).bind fun i=>
      m_fe b d h i
    else
      m_fe b d a.1 a.2
def m_fg (b:Bool) (c:LI) (d:Bool) (e:LI):Option (Bool×LI×Int):=
  (m_ff b c d e).bind fun a=>
  if ((decide (a.2.2.2.2=0)) && (decide ((0:Int) < (a.2.2.2.1.length:Int))))=true then
    some (false,[],10)
  else
    some (a.1,a.2.1,a.2.2.2.2)
def m_fh (c:List (Bool×LI)) (j:Bool) (k:LI) (l:Bool) (m:LI) (n:Bool) (o:LI):(List (Bool×LI))×Int→Option (((List (Bool×LI))×Int)⊕(((List (Bool×LI))))):=fun (b,a)=>
  if a < (c.length:Int) then
    (getI c a).bind fun d=>
    (getI b a).bind fun e=>
    (m_eu j k e.1 e.2).bind fun f=>
    (m_eu l m d.1 d.2).bind fun g=>
    (m_e4 f.1 f.2 g.1 g.2).bind fun h=>
    (m_fg h.1 h.2 n o).bind fun i=>
    (setI b a (i.1,i.2.1)).bind fun p=>
    some (.inl (p,wa .i64 a 1))
  else
    some (.inr b)
def m_fi (a:List (Bool×LI)) (b:List (Bool×LI)) (c:Bool) (d:LI) (e:Bool) (f:LI) (g:Bool) (h:LI):Option ((List (Bool×LI))):=
  (loop (m_fh b e f c d g h) (a,0)).bind fun i=>
  some i
def m_fj (a:Int) (b:List (List (Bool×LI))):Option (((List (List (Bool×LI)))×Int)⊕(((List (List (Bool×LI)))))):=
  some (.inl (b,wa .i64 a 1))
def m_fk (g:List (List (Bool×LI))) (c:Int) (h:Int) (d:Bool×LI) (i:Bool) (j:LI):(List (List (Bool×LI)))×Int→Option (((List (List (Bool×LI)))×Int)⊕(((List (List (Bool×LI)))))):=fun (b,a)=>
  if a < (g.length:Int) then
    (getI b a).bind fun e=>
    if a=c then
      m_fj a b
    else
      (getI b c).bind fun k=>
      (getI e h).bind fun f=>
      (neI a c).bind fun u110=>
      (m_fi e k f.1 f.2 d.1 d.2 i j).bind fun l=>
      (setI b a l).bind fun m=>
      m_fj a m
  else
    some (.inr b)
def m_fl (d:Int) (a:Int) (e:Bool) (f:LI) (g:LI) (b:List (List (Bool×LI))) (h:Int):Option ((List (List (Bool×LI)))×LI×Bool×LI×Int):=
  (getI b d).bind fun i=>
  (getI i a).bind fun c=>
  (loop (m_fk b d a c e f) (b,0)).bind fun j=>
  (app g [a]).bind fun k=>
  some (j,k,c.1,c.2,h)
def m_fm (b:List (List (Bool×LI))) (d:LI) (e:Bool) (f:LI) (g:Int) (h:Int) (a:Int) (c:Int):Option ((List (List (Bool×LI)))×LI×Bool×LI×Int):=
  if a < c then
    (getI b c).bind fun i=>
    (getI b a).bind fun j=>
    (setI b a i).bind fun k=>
    (setI k c j).bind fun l=>
    m_fl a h e f d l (wneg .i64 g)
  else
    m_fl a h e f d b g
def m_fn (a:Int) (b:List (List (Bool×LI))) (c:LI) (d:Bool) (e:LI) (f:Int):Option (((List (List (Bool×LI)))×LI×Bool×LI×Int×Int)⊕(((List (List (Bool×LI)))×LI×Bool×LI×Int))):=
  some (.inl (b,c,d,e,f,wa .i64 a 1))
def m_fo (c:List (List (Bool×LI))) (d:Int) (e:LI) (g:Bool) (h:LI) (i:Int):Int→Option ((Int)⊕(((List (List (Bool×LI)))×LI×Bool×LI×Int)⊕Unit)):=fun b=>
  if b < (c.length:Int) then
    (getI c b).bind fun j=>
    (getI j d).bind fun f=>
    (m_de f.1 f.2).bind fun k=>
    if k=0 then
      some (.inl (wa .i64 b 1))
    else
      (m_fm c e g h i d (e.length:Int) b).bind fun a=>
      some (.inr (.inl (a.1,a.2.1,a.2.2.1,a.2.2.2.1,a.2.2.2.2)))
  else
    some (.inr (.inr ()))
def m_fp (g:Int):(List (List (Bool×LI)))×LI×Bool×LI×Int×Int→Option (((List (List (Bool×LI)))×LI×Bool×LI×Int×Int)⊕(((List (List (Bool×LI)))×LI×Bool×LI×Int))):=fun (c,a,d,e,f,b)=>
  if b < g then
    (loop (m_fo c b a d e f) (a.length:Int)).bind (fun o=>match o with
      | .inl (h,i,j,k,l)=>
        m_fn b h i j k l
      | .inr ()=>
        m_fn b c a d e f)
  else
    some (.inr (c,a,d,e,f))
def m_fq (b:List (List (Bool×LI))) (c:Int):Option ((List (List (Bool×LI)))×LI×Bool×LI×Int):=
  (m_c8 1).bind fun a=>
  (loop (m_fp c) (b,[],a.1,a.2,1,0)).bind fun (d,e,f,g,h)=>
  some (d,e,f,g,h)
def m_fr (a:List (List (Bool×LI))):Option (Int×Int):=
  (m_em a).bind fun b=>
  if b=0 then
    (m_eq a []).bind fun c=>
    (m_eh a).bind fun d=>
    (m_fq c d).bind fun e=>
    some ((e.2.1.length:Int),0)
  else
    some (0,b)
def m_fs (d:Int) (e:List (List (Bool×LI))):BL×Int×Int→Option ((BL×Int×Int)⊕(BL)):=fun (b,f,a)=>
  if a < d then
    (m_eg e (wa .i64 a 1)).bind fun g=>
    (m_fr g).bind fun c=>
    (setI b a (decide (c.1=f))).bind fun h=>
    some (.inl (h,c.1,wa .i64 a 1))
  else
    some (.inr b)
def m_ft (b:List (List (Bool×LI))) (a:Int):Option (BL):=
  (mkL false a).bind fun c=>
  (loop (m_fs a b) (c,0,0)).bind fun d=>
  some d
end M
