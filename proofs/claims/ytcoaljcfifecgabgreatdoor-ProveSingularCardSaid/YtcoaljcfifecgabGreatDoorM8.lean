/- Models of functions of the program, printed. -/
import Derived.Test.YtcoaljcfifecgabGreatDoorM7
namespace M
open Sx
set_option linter.unusedVariables false
def m_fu (a:LI):Option (LI):=
  (app [] a).bind fun b=>
  some b
def m_fv (d:Bool) (b:LI):Option (Bool×LI):=
  (m_da b).bind fun c=>
  (m_c6 false c).bind fun a=>
  some (a.1,a.2)
def m_fw (h:List (List (Bool×LI))) (i:LI) (e:Bool) (f:LI) (j:Int) (a:Bool) (b:LI):Option (Bool×LI):=
  (m_de e f).bind fun g=>
  if g < 0 then
    (m_db a b).bind fun c=>
    some (c.1,c.2)
  else
    (m_dd a b).bind fun d=>
    some (d.1,d.2)
def m_fx:LI×LI→Option ((LI×LI)⊕(LI)):=fun (b,a)=>
  if (0:Int) < (a.length:Int) then
    (m_fd b a).bind fun c=>
    some (.inl (a,c.2))
  else
    some (.inr b)
def m_fy (i:Bool) (b:LI) (j:Bool) (c:LI):Option (Bool×LI):=
  (m_c5 b).bind fun d=>
  (m_da d).bind fun e=>
  (m_c5 c).bind fun f=>
  (m_da f).bind fun g=>
  (loop (m_fx) (e,g)).bind fun h=>
  (m_c6 false h).bind fun a=>
  some (a.1,a.2)
def m_fz (e:List (Bool×LI)) (f:Bool) (g:LI):(List (Bool×LI))×Int→Option (((List (Bool×LI))×Int)⊕(((List (Bool×LI))))):=fun (b,a)=>
  if a < (e.length:Int) then
    (getI b a).bind fun c=>
    (m_fg c.1 c.2 f g).bind fun d=>
    (setI b a (d.1,d.2.1)).bind fun h=>
    some (.inl (h,wa .i64 a 1))
  else
    some (.inr b)
def m_f0 (a:(List (List (Bool×LI)))×LI×Bool×LI×Int) (m:Int):(List (Bool×LI))×Bool×LI×Int→Option (((List (Bool×LI))×Bool×LI×Int)⊕(((List (Bool×LI))×Bool×LI))):=fun (c,d,e,b)=>
  if b < (a.2.1.length:Int) then
    (getI a.2.1 b).bind fun f=>
    (getI a.1 b).bind fun n=>
    (getI n m).bind fun g=>
    (m_fw a.1 a.2.1 a.2.2.1 a.2.2.2.1 a.2.2.2.2 g.1 g.2).bind fun h=>
    (m_db h.1 h.2).bind fun i=>
    (setI c f (i.1,i.2)).bind fun j=>
    (getI j f).bind fun k=>
    (m_fy d e k.1 k.2).bind fun l=>
    some (.inl (j,l.1,l.2,wa .i64 b 1))
  else
    some (.inr (c,d,e))
def m_f1 (b:(List (List (Bool×LI)))×LI×Bool×LI×Int):Int→Option ((Int)⊕(Int)):=fun a=>
  (if a < (b.2.1.length:Int) then
    (getI b.2.1 a).bind fun c=>
    some (decide (c=a))
  else
    some false).bind fun d=>
  if d=true then
    some (.inl (wa .i64 a 1))
  else
    some (.inr a)
def m_f2 (c:List (List (Bool×LI))):Option ((List (Bool×LI))×Int):=
  (m_em c).bind fun e=>
  if e=0 then
    (m_eh c).bind fun d=>
    (m_eq c []).bind fun j=>
    (m_fq j d).bind fun a=>
    (loop (m_f1 a) 0).bind fun b=>
    if b=d then
      some ([],0)
    else
      (mkL (false,[]) d).bind fun k=>
      (m_fv a.2.2.1 a.2.2.2.1).bind fun f=>
      (setI k b (f.1,f.2)).bind fun g=>
      (getI g b).bind fun h=>
      (loop (m_f0 a b) (g,h.1,h.2,0)).bind fun (i,l,m)=>
      (loop (m_fz i l m) (i,0)).bind fun n=>
      some (n,0)
  else
    some ([],e)
def m_f3 (a:Int) (b:LI) (c:List (List (Bool×LI))):Option ((LI×(List (List (Bool×LI)))×Int)⊕(((List (List (Bool×LI)))))):=
  some (.inl (b,c,wa .i64 a 1))
def m_f4 (a:List (List (Bool×LI))) (b:Int) (c:LI) (d:List (Bool×LI)):Option ((LI×(List (List (Bool×LI)))×Int)⊕(((List (List (Bool×LI)))))):=
  (app a [d]).bind fun e=>
  m_f3 b c e
def m_f5 (b:LI) (e:(List (Bool×LI))×Int):(List (Bool×LI))×Int→Option (((List (Bool×LI))×Int)⊕(((List (Bool×LI))))):=fun (c,a)=>
  if a < (b.length:Int) then
    (getI b a).bind fun f=>
    (getI e.1 a).bind fun d=>
    (setI c f (d.1,d.2)).bind fun g=>
    some (.inl (g,wa .i64 a 1))
  else
    some (.inr c)
def m_f6 (b:LI) (e:List (Bool×LI)):(List (Bool×LI))×Int→Option (((List (Bool×LI))×Int)⊕(((List (Bool×LI))))):=fun (c,a)=>
  if a < (b.length:Int) then
    (getI b a).bind fun f=>
    (getI e f).bind fun d=>
    (app c [(d.1,d.2)]).bind fun g=>
    some (.inl (g,wa .i64 a 1))
  else
    some (.inr c)
def m_f7 (b:List (List (Bool×LI))) (d:LI):(List (List (Bool×LI)))×Int→Option (((List (List (Bool×LI)))×Int)⊕(((List (List (Bool×LI)))))):=fun (c,a)=>
  if a < (b.length:Int) then
    (getI b a).bind fun e=>
    (loop (m_f6 d e) ([],0)).bind fun f=>
    (app c [f]).bind fun g=>
    some (.inl (g,wa .i64 a 1))
  else
    some (.inr c)
def m_f8 (d:Int) (i:BL) (j:List (List (Bool×LI))):LI×(List (List (Bool×LI)))×Int→Option ((LI×(List (List (Bool×LI)))×Int)⊕(((List (List (Bool×LI)))))):=fun (b,c,a)=>
  if a < d then
    (getI i a).bind fun k=>
    if k=true then
      (m_fu b).bind fun l=>
      (app l [a]).bind fun e=>
      (loop (m_f7 j e) ([],0)).bind fun f=>
      (mkL (false,[]) d).bind fun g=>
      if (f.length:Int)=0 then
        (m_c8 1).bind fun h=>
        (setI g a (h.1,h.2)).bind fun m=>
        m_f4 c a b m
      else
        (m_f2 f).bind fun n=>
        (loop (m_f5 e n) (g,0)).bind fun o=>
        m_f4 c a b o
    else
      (app b [a]).bind fun p=>
      m_f3 a p c
  else
    some (.inr c)
def m_f9 (a:List (List (Bool×LI))) (b:Int):Option ((List (List (Bool×LI)))):=
  (m_ft a b).bind fun c=>
  (loop (m_f8 b c a) ([],[],0)).bind fun d=>
  some d
def m_ga (d:Int) (b:Int) (e:LI) (f:LI) (g:LI):Option ((List (Bool×LI))×Bool×Int):=
  (m_ee d b e f g).bind fun a=>
  if a.2.2=0 then
    (m_f9 a.1 b).bind fun c=>
    if (c.length:Int)=0 then
      some ([],false,0)
    else
      (getI c 0).bind fun h=>
      some (h,true,0)
  else
    some ([],false,a.2.2)
def m_gb (b:Bool) (c:Bool) (d:LI) (e:Int):Option (Int):=
  (m_bi b c d e).bind fun a=>
  if a.1=true then
    some 0
  else
    (m_bj a.2.1 a.2.2.1).bind fun f=>
    some f
def m_gc (d:LI) (b:Int) (e:LI) (f:LI):(List (Int×Int×Int))×Int→Option (((List (Int×Int×Int))×Int)⊕(((List (Int×Int×Int))))):=fun (c,a)=>
  (getI d (wa .i64 b 1)).bind fun g=>
  if a < g then
    (getI e a).bind fun h=>
    (getI f a).bind fun i=>
    (app c [(h,b,i)]).bind fun j=>
    some (.inl (j,wa .i64 a 1))
  else
    some (.inr c)
def m_gd (d:Int) (b:LI) (e:LI) (f:LI):(List (Int×Int×Int))×Int→Option (((List (Int×Int×Int))×Int)⊕(((List (Int×Int×Int))))):=fun (c,a)=>
  if a < d then
    (getI b a).bind fun g=>
    (loop (m_gc b a e f) (c,g)).bind fun h=>
    some (.inl (h,wa .i64 a 1))
  else
    some (.inr c)
def m_ge (e:Int) (a:Int) (b:LI) (c:LI) (d:LI):Option ((List (Int×Int×Int))):=
  (m_cb e a b c d).bind fun f=>
  if f=0 then
    (loop (m_gd a b c d) ([],0)).bind fun g=>
    some g
  else
    some []
def m_gf (b:(List (Int×Int×Int))):L2×Int→Option ((L2×Int)⊕(L2)):=fun (c,a)=>
  if a < (b.length:Int) then
    (getI b a).bind fun d=>
    (getI c d.1).bind fun e=>
    (getI b a).bind fun f=>
    (getI b a).bind fun g=>
    (setI e f.2.1 g.2.2).bind fun h=>
    (setI c d.1 h).bind fun i=>
    some (.inl (i,wa .i64 a 1))
  else
    some (.inr c)
def m_gg (c:Int) (d:Int):L2×Int→Option ((L2×Int)⊕(L2)):=fun (a,b)=>
  if b < c then
    (mkL 0 d).bind fun e=>
    (app a [e]).bind fun f=>
    some (.inl (f,wa .i64 b 1))
  else
    some (.inr a)
def m_gh (a:Int) (b:Int) (c:LI) (d:LI) (e:LI):Option (L2×Int):=
  (m_cb a b c d e).bind fun f=>
  if f=0 then
    (loop (m_gg a b) ([],0)).bind fun g=>
    (m_ge a b c d e).bind fun h=>
    (loop (m_gf h) (g,0)).bind fun i=>
    some (i,0)
  else
    some ([],f)
def m_gi (a:Int) (b:List (Bool×LI)):Option (((List (Bool×LI))×Int)⊕(((List (Bool×LI))))):=
  some (.inl (b,wa .i64 a 1))
def m_gj (e:Int) (f:L2×Int) (g:Int) (h:Int):(List (Bool×LI))×Int→Option (((List (Bool×LI))×Int)⊕(((List (Bool×LI))))):=fun (c,b)=>
  if b < e then
    (getI f.1 g).bind fun i=>
    (getI i b).bind fun j=>
    (m_ci j).bind fun a=>
    (m_gb a.1 a.2.1 a.2.2.1 a.2.2.2).bind fun k=>
    if k=0 then
      (app c [(false,[])]).bind fun l=>
      m_gi b l
    else
      (m_9 a.2.1 a.2.2.1 (ws .i64 a.2.2.2 h)).bind fun d=>
      (app c [(d.1,d.2)]).bind fun m=>
      m_gi b m
  else
    some (.inr c)
def m_gk (c:Int) (d:Int) (e:L2×Int) (f:Int):(List (List (Bool×LI)))×Int→Option (((List (List (Bool×LI)))×Int)⊕(((List (List (Bool×LI)))))):=fun (b,a)=>
  if a < c then
    (loop (m_gj d e a f) ([],0)).bind fun g=>
    (app b [g]).bind fun h=>
    some (.inl (h,wa .i64 a 1))
  else
    some (.inr b)
def m_gl (a:Int) (b:Int) (c:Bool):Option ((Int×Bool×Int)⊕(Int)):=
  some (.inl (b,c,wa .i64 a 1))
def m_gm (d:LI):Int×Bool×Int→Option ((Int×Bool×Int)⊕(Int)):=fun (c,e,b)=>
  if b < (d.length:Int) then
    (getI d b).bind fun f=>
    (m_ci f).bind fun a=>
    (m_gb a.1 a.2.1 a.2.2.1 a.2.2.2).bind fun g=>
    if ((!(decide (g=0))) && ((!(e)) || (decide (a.2.2.2 < c))))=true then
      m_gl b a.2.2.2 true
    else
      m_gl b c e
  else
    some (.inr c)
def m_gn (a:Int) (b:Int) (d:LI) (e:LI) (c:LI):Option ((List (List (Bool×LI)))×Int×Int):=
  (m_cb a b d e c).bind fun f=>
  if f=0 then
    if ((decide ((16:Int) < a)) || (decide ((16:Int) < b)))=true then
      some ([],0,6)
    else
      (loop (m_gm c) (0,false,0)).bind fun g=>
      (m_gh a b d e c).bind fun h=>
      (loop (m_gk a b h g) ([],0)).bind fun i=>
      some (i,g,0)
  else
    some ([],0,f)
def m_go (b:LI) (e:List (List (Bool×LI))) (f:Int):(List (Bool×LI))×Int→Option (((List (Bool×LI))×Int)⊕(((List (Bool×LI))))):=fun (c,a)=>
  if a < (b.length:Int) then
    (getI e f).bind fun g=>
    (getI b a).bind fun h=>
    (getI g h).bind fun d=>
    (app c [(d.1,d.2)]).bind fun i=>
    some (.inl (i,wa .i64 a 1))
  else
    some (.inr c)
def m_gp (b:List (List (Bool×LI))) (d:LI):(List (List (Bool×LI)))×Int→Option (((List (List (Bool×LI)))×Int)⊕(((List (List (Bool×LI)))))):=fun (c,a)=>
  if a < (b.length:Int) then
    (loop (m_go d b a) ([],0)).bind fun e=>
    (app c [e]).bind fun f=>
    some (.inl (f,wa .i64 a 1))
  else
    some (.inr c)
def m_gq (a:List (List (Bool×LI))) (b:LI):Option ((List (List (Bool×LI)))):=
  (loop (m_gp a b) ([],0)).bind fun c=>
  some c
def m_gr (b:List (List (Bool×LI))) (c:Int):(List (Bool×LI×Bool×LI))×Int→Option (((List (Bool×LI×Bool×LI))×Int)⊕(((List (Bool×LI×Bool×LI))))):=fun (d,a)=>
  (getI b c).bind fun h=>
  if a < (h.length:Int) then
    (getI b c).bind fun i=>
    (getI i a).bind fun e=>
    (m_k e.1 e.2).bind fun f=>
    (m_j 1).bind fun g=>
    (app d [(f.1,f.2,g.1,g.2)]).bind fun j=>
    some (.inl (j,wa .i64 a 1))
  else
    some (.inr d)
def m_gs (b:List (List (Bool×LI))):(List (List (Bool×LI×Bool×LI)))×Int→Option (((List (List (Bool×LI×Bool×LI)))×Int)⊕(((List (List (Bool×LI×Bool×LI)))))):=fun (c,a)=>
  if a < (b.length:Int) then
    (loop (m_gr b a) ([],0)).bind fun d=>
    (app c [d]).bind fun e=>
    some (.inl (e,wa .i64 a 1))
  else
    some (.inr c)
def m_gt (a:List (List (Bool×LI))):Option ((List (List (Bool×LI×Bool×LI)))):=
  (loop (m_gs a) ([],0)).bind fun b=>
  some b
def m_gu (a:List (List (Bool×LI))):Option (Int):=
  if (a.length:Int)=0 then
    some 0
  else
    (getI a 0).bind fun b=>
    some (b.length:Int)
end M
