/- Models of functions of the program, printed. -/
import Derived.Test.YthekfonboblioabGreatDoorM6
namespace M
open Sx
set_option linter.unusedVariables false
def m_e0 (a:Int) (b:List (List (Bool×LI))):Option (((List (List (Bool×LI)))×Int)⊕(((List (List (Bool×LI)))))):=
  some (.inl (b,wa .i64 a 1))
def m_e1 (g:List (List (Bool×LI))) (c:Int) (h:Int) (d:Bool×LI) (i:Bool) (j:LI):(List (List (Bool×LI)))×Int→Option (((List (List (Bool×LI)))×Int)⊕(((List (List (Bool×LI)))))):=fun (b,a)=>
  if a < (g.length:Int) then
    (getI b a).bind fun e=>
    if a=c then
      m_e0 a b
    else
      (getI b c).bind fun k=>
      (getI e h).bind fun f=>
      (neI a c).bind fun u110=>
      (m_ez e k f.1 f.2 d.1 d.2 i j).bind fun l=>
      (setI b a l).bind fun m=>
      m_e0 a m
  else
    some (.inr b)
def m_e2 (d:Int) (a:Int) (e:Bool) (f:LI) (g:LI) (b:List (List (Bool×LI))) (h:Int):Option ((List (List (Bool×LI)))×LI×Bool×LI×Int):=
  (getI b d).bind fun i=>
  (getI i a).bind fun c=>
  (loop (m_e1 b d a c e f) (b,0)).bind fun j=>
  (app g [a]).bind fun k=>
  some (j,k,c.1,c.2,h)
def m_e3 (b:List (List (Bool×LI))) (d:LI) (e:Bool) (f:LI) (g:Int) (h:Int) (a:Int) (c:Int):Option ((List (List (Bool×LI)))×LI×Bool×LI×Int):=
  if a < c then
    (getI b c).bind fun i=>
    (getI b a).bind fun j=>
    (setI b a i).bind fun k=>
    (setI k c j).bind fun l=>
    m_e2 a h e f d l (wneg .i64 g)
  else
    m_e2 a h e f d b g
def m_e4 (a:Int) (b:List (List (Bool×LI))) (c:LI) (d:Bool) (e:LI) (f:Int):Option (((List (List (Bool×LI)))×LI×Bool×LI×Int×Int)⊕(((List (List (Bool×LI)))×LI×Bool×LI×Int))):=
  some (.inl (b,c,d,e,f,wa .i64 a 1))
def m_e5 (c:List (List (Bool×LI))) (d:Int) (e:LI) (g:Bool) (h:LI) (i:Int):Int→Option ((Int)⊕(((List (List (Bool×LI)))×LI×Bool×LI×Int)⊕Unit)):=fun b=>
  if b < (c.length:Int) then
    (getI c b).bind fun j=>
    (getI j d).bind fun f=>
    (m_cv f.1 f.2).bind fun k=>
    if k=0 then
      some (.inl (wa .i64 b 1))
    else
      (m_e3 c e g h i d (e.length:Int) b).bind fun a=>
      some (.inr (.inl (a.1,a.2.1,a.2.2.1,a.2.2.2.1,a.2.2.2.2)))
  else
    some (.inr (.inr ()))
def m_e6 (g:Int):(List (List (Bool×LI)))×LI×Bool×LI×Int×Int→Option (((List (List (Bool×LI)))×LI×Bool×LI×Int×Int)⊕(((List (List (Bool×LI)))×LI×Bool×LI×Int))):=fun (c,a,d,e,f,b)=>
  if b < g then
    (loop (m_e5 c b a d e f) (a.length:Int)).bind (fun o=>match o with
      | .inl (h,i,j,k,l)=>
        m_e4 b h i j k l
      | .inr ()=>
        m_e4 b c a d e f)
  else
    some (.inr (c,a,d,e,f))
def m_e7 (b:List (List (Bool×LI))) (c:Int):Option ((List (List (Bool×LI)))×LI×Bool×LI×Int):=
  (m_cp 1).bind fun a=>
  (loop (m_e6 c) (b,[],a.1,a.2,1,0)).bind fun (d,e,f,g,h)=>
  some (d,e,f,g,h)
def m_e8 (a:List (List (Bool×LI))):Option (Int×Int):=
  (m_d3 a).bind fun b=>
  if b=0 then
    (m_d7 a []).bind fun c=>
    (m_dy a).bind fun d=>
    (m_e7 c d).bind fun e=>
    some ((e.2.1.length:Int),0)
  else
    some (0,b)
def m_e9 (d:Int) (e:List (List (Bool×LI))):BL×Int×Int→Option ((BL×Int×Int)⊕(BL)):=fun (b,f,a)=>
  if a < d then
    (m_dx e (wa .i64 a 1)).bind fun g=>
    (m_e8 g).bind fun c=>
    (setI b a (decide (c.1=f))).bind fun h=>
    some (.inl (h,c.1,wa .i64 a 1))
  else
    some (.inr b)
def m_fa (b:List (List (Bool×LI))) (a:Int):Option (BL):=
  (mkL false a).bind fun c=>
  (loop (m_e9 a b) (c,0,0)).bind fun d=>
  some d
def m_fb (a:LI):Option (LI):=
  (app [] a).bind fun b=>
  some b
def m_fc (d:Bool) (b:LI):Option (Bool×LI):=
  (m_cr b).bind fun c=>
  (m_cn false c).bind fun a=>
  some (a.1,a.2)
def m_fd (h:List (List (Bool×LI))) (i:LI) (e:Bool) (f:LI) (j:Int) (a:Bool) (b:LI):Option (Bool×LI):=
  (m_cv e f).bind fun g=>
  if g < 0 then
    (m_cs a b).bind fun c=>
    some (c.1,c.2)
  else
    (m_cu a b).bind fun d=>
    some (d.1,d.2)
def m_fe:LI×LI→Option ((LI×LI)⊕(LI)):=fun (b,a)=>
  if (0:Int) < (a.length:Int) then
    (m_eu b a).bind fun c=>
    some (.inl (a,c.2))
  else
    some (.inr b)
def m_ff (i:Bool) (b:LI) (j:Bool) (c:LI):Option (Bool×LI):=
  (m_cm b).bind fun d=>
  (m_cr d).bind fun e=>
  (m_cm c).bind fun f=>
  (m_cr f).bind fun g=>
  (loop (m_fe) (e,g)).bind fun h=>
  (m_cn false h).bind fun a=>
  some (a.1,a.2)
def m_fg (e:List (Bool×LI)) (f:Bool) (g:LI):(List (Bool×LI))×Int→Option (((List (Bool×LI))×Int)⊕(((List (Bool×LI))))):=fun (b,a)=>
  if a < (e.length:Int) then
    (getI b a).bind fun c=>
    (m_ex c.1 c.2 f g).bind fun d=>
    (setI b a (d.1,d.2.1)).bind fun h=>
    some (.inl (h,wa .i64 a 1))
  else
    some (.inr b)
def m_fh (a:(List (List (Bool×LI)))×LI×Bool×LI×Int) (m:Int):(List (Bool×LI))×Bool×LI×Int→Option (((List (Bool×LI))×Bool×LI×Int)⊕(((List (Bool×LI))×Bool×LI))):=fun (c,d,e,b)=>
  if b < (a.2.1.length:Int) then
    (getI a.2.1 b).bind fun f=>
    (getI a.1 b).bind fun n=>
    (getI n m).bind fun g=>
    (m_fd a.1 a.2.1 a.2.2.1 a.2.2.2.1 a.2.2.2.2 g.1 g.2).bind fun h=>
    (m_cs h.1 h.2).bind fun i=>
    (setI c f (i.1,i.2)).bind fun j=>
    (getI j f).bind fun k=>
    (m_ff d e k.1 k.2).bind fun l=>
    some (.inl (j,l.1,l.2,wa .i64 b 1))
  else
    some (.inr (c,d,e))
def m_fi (b:(List (List (Bool×LI)))×LI×Bool×LI×Int):Int→Option ((Int)⊕(Int)):=fun a=>
  (if a < (b.2.1.length:Int) then
    (getI b.2.1 a).bind fun c=>
    some (decide (c=a))
  else
    some false).bind fun d=>
  if d=true then
    some (.inl (wa .i64 a 1))
  else
    some (.inr a)
def m_fj (c:List (List (Bool×LI))):Option ((List (Bool×LI))×Int):=
  (m_d3 c).bind fun e=>
  if e=0 then
    (m_dy c).bind fun d=>
    (m_d7 c []).bind fun j=>
    (m_e7 j d).bind fun a=>
    (loop (m_fi a) 0).bind fun b=>
    if b=d then
      some ([],0)
    else
      (mkL (false,[]) d).bind fun k=>
      (m_fc a.2.2.1 a.2.2.2.1).bind fun f=>
      (setI k b (f.1,f.2)).bind fun g=>
      (getI g b).bind fun h=>
      (loop (m_fh a b) (g,h.1,h.2,0)).bind fun (i,l,m)=>
      (loop (m_fg i l m) (i,0)).bind fun n=>
      some (n,0)
  else
    some ([],e)
def m_fk (a:Int) (b:LI) (c:List (List (Bool×LI))):Option ((LI×(List (List (Bool×LI)))×Int)⊕(((List (List (Bool×LI)))))):=
  some (.inl (b,c,wa .i64 a 1))
def m_fl (a:List (List (Bool×LI))) (b:Int) (c:LI) (d:List (Bool×LI)):Option ((LI×(List (List (Bool×LI)))×Int)⊕(((List (List (Bool×LI)))))):=
  (app a [d]).bind fun e=>
  m_fk b c e
def m_fm (b:LI) (e:(List (Bool×LI))×Int):(List (Bool×LI))×Int→Option (((List (Bool×LI))×Int)⊕(((List (Bool×LI))))):=fun (c,a)=>
  if a < (b.length:Int) then
    (getI b a).bind fun f=>
    (getI e.1 a).bind fun d=>
    (setI c f (d.1,d.2)).bind fun g=>
    some (.inl (g,wa .i64 a 1))
  else
    some (.inr c)
def m_fn (b:LI) (e:List (Bool×LI)):(List (Bool×LI))×Int→Option (((List (Bool×LI))×Int)⊕(((List (Bool×LI))))):=fun (c,a)=>
  if a < (b.length:Int) then
    (getI b a).bind fun f=>
    (getI e f).bind fun d=>
    (app c [(d.1,d.2)]).bind fun g=>
    some (.inl (g,wa .i64 a 1))
  else
    some (.inr c)
def m_fo (b:List (List (Bool×LI))) (d:LI):(List (List (Bool×LI)))×Int→Option (((List (List (Bool×LI)))×Int)⊕(((List (List (Bool×LI)))))):=fun (c,a)=>
  if a < (b.length:Int) then
    (getI b a).bind fun e=>
    (loop (m_fn d e) ([],0)).bind fun f=>
    (app c [f]).bind fun g=>
    some (.inl (g,wa .i64 a 1))
  else
    some (.inr c)
def m_fp (d:Int) (i:BL) (j:List (List (Bool×LI))):LI×(List (List (Bool×LI)))×Int→Option ((LI×(List (List (Bool×LI)))×Int)⊕(((List (List (Bool×LI)))))):=fun (b,c,a)=>
  if a < d then
    (getI i a).bind fun k=>
    if k=true then
      (m_fb b).bind fun l=>
      (app l [a]).bind fun e=>
      (loop (m_fo j e) ([],0)).bind fun f=>
      (mkL (false,[]) d).bind fun g=>
      if (f.length:Int)=0 then
        (m_cp 1).bind fun h=>
        (setI g a (h.1,h.2)).bind fun m=>
        m_fl c a b m
      else
        (m_fj f).bind fun n=>
        (loop (m_fm e n) (g,0)).bind fun o=>
        m_fl c a b o
    else
      (app b [a]).bind fun p=>
      m_fk a p c
  else
    some (.inr c)
def m_fq (a:List (List (Bool×LI))) (b:Int):Option ((List (List (Bool×LI)))):=
  (m_fa a b).bind fun c=>
  (loop (m_fp b c a) ([],[],0)).bind fun d=>
  some d
def m_fr (b:Int):Int→Option ((Int)⊕(Unit⊕Unit)):=fun a=>
  if (wm .i64 a a)≤b then
    (wr b a).bind fun c=>
    if c=0 then
      some (.inr (.inr ()))
    else
      some (.inl (wa .i64 a 1))
  else
    some (.inr (.inl ()))
def m_fs (a:Int):Option (Bool):=
  if ((decide (a < 2)) || (decide ((2147483647:Int) < a)))=true then
    some false
  else
    (loop (m_fr a) 2).bind (fun o=>match o with
      | .inl ()=>
        some true
      | .inr ()=>
        some false)
def m_ft (a:Int) (b:LI):Option ((LI×Int)⊕(LI)):=
  some (.inl (b,ws .i64 a 1))
def m_fu (c:Int):LI×Int→Option ((LI×Int)⊕(LI)):=fun (b,a)=>
  if ((decide ((2:Int)≤a)) && (decide ((b.length:Int) < (imin c 100))))=true then
    (m_fs a).bind fun d=>
    if d=true then
      (app b [a]).bind fun e=>
      m_ft a e
    else
      m_ft a b
  else
    some (.inr b)
def m_fv (a:Int) (b:Int):Option (LI):=
  if a≤2 then
    some []
  else
    (loop (m_fu b) ([],imin (ws .i64 a 1) 2147483647)).bind fun c=>
    some c
def m_fw (b:LI):Int×Int→Option ((Int×Int)⊕(Int)):=fun (c,a)=>
  if a < (b.length:Int) then
    (getI b a).bind fun d=>
    (wshl .u64 (wc .u64 d) (wm .i64 32 a)).bind fun e=>
    some (.inl (wor .u64 c e,wa .i64 a 1))
  else
    some (.inr c)
def m_fx (b:Bool) (d:LI):Option (Int×Bool):=
  (m_cm d).bind fun c=>
  if (2:Int) < (c.length:Int) then
    some (0,false)
  else
    (loop (m_fw c) (0,0)).bind fun a=>
    if ((b && (decide ((0:Int) < a))) && (decide (a≤9223372036854775808)))=true then
      some (ws .i64 (wneg .i64 (wc .i64 (ws .u64 a 1))) 1,true)
    else
      if ((decide (a < 9223372036854775808)) && ((!(b)) || (decide (a=0))))=true then
        some (wc .i64 a,true)
      else
        some (0,false)
def m_fy (c:Bool) (d:LI) (e:Int):Option (Int):=
  (m_cp e).bind fun a=>
  (m_ew c d a.1 a.2).bind fun b=>
  (m_fx b.2.2.1 b.2.2.2.1).bind fun f=>
  some f.1
end M
