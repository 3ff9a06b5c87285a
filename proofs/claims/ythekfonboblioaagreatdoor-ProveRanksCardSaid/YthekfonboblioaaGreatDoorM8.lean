/- Models of functions of the program, printed. -/
import Derived.Test.YthekfonboblioaaGreatDoorM7
namespace M
open Sx
set_option linter.unusedVariables false
def m_fu (a:LI):Option (LI):=
  (app [] a).bind fun b=>
  some b
def m_fv (d:Bool) (b:LI):Option (Bool×LI):=
  (m_da b).bind fun c=>
  (m_c6 false c).bind fun a=>
  some (a.1,a.2)
def m_fw (h:List (List (Bool×LI))) (i:LI) (e:Bool) (f:LI) (j:Int) (a:Bool) (b:LI):Option (Bool×LI):=
  (m_de e f).bind fun g=>
  if g < 0 then
    (m_db a b).bind fun c=>
    some (c.1,c.2)
  else
    (m_dd a b).bind fun d=>
    some (d.1,d.2)
def m_fx:LI×LI→Option ((LI×LI)⊕(LI)):=fun (b,a)=>
  if (0:Int) < (a.length:Int) then
    (m_fd b a).bind fun c=>
    some (.inl (a,c.2))
  else
    some (.inr b)
def m_fy (i:Bool) (b:LI) (j:Bool) (c:LI):Option (Bool×LI):=
  (m_c5 b).bind fun d=>
  (m_da d).bind fun e=>
  (m_c5 c).bind fun f=>
  (m_da f).bind fun g=>
  (loop (m_fx) (e,g)).bind fun h=>
  (m_c6 false h).bind fun a=>
  some (a.1,a.2)
def m_fz (e:List (Bool×LI)) (f:Bool) (g:LI):(List (Bool×LI))×Int→Option (((List (Bool×LI))×Int)⊕(((List (Bool×LI))))):=fun (b,a)=>
  if a < (e.length:Int) then
    (getI b a).bind fun c=>
    (m_fg c.1 c.2 f g).bind fun d=>
    (setI b a (d.1,d.2.1)).bind fun h=>
    some (.inl (h,wa .i64 a 1))
  else
    some (.inr b)
def m_f0 (a:(List (List (Bool×LI)))×LI×Bool×LI×Int) (m:Int):(List (Bool×LI))×Bool×LI×Int→Option (((List (Bool×LI))×Bool×LI×Int)⊕(((List (Bool×LI))×Bool×LI))):=fun (c,d,e,b)=>
  if b < (a.2.1.length:Int) then
    (getI a.2.1 b).bind fun f=>
    (getI a.1 b).bind fun n=>
    (getI n m).bind fun g=>
    (m_fw a.1 a.2.1 a.2.2.1 a.2.2.2.1 a.2.2.2.2 g.1 g.2).bind fun h=>
    (m_db h.1 h.2).bind fun i=>
    (setI c f (i.1,i.2)).bind fun j=>
    (getI j f).bind fun k=>
    (m_fy d e k.1 k.2).bind fun l=>
    some (.inl (j,l.1,l.2,wa .i64 b 1))
  else
    some (.inr (c,d,e))
def m_f1 (b:(List (List (Bool×LI)))×LI×Bool×LI×Int):Int→Option ((Int)⊕(Int)):=fun a=>
  (if a < (b.2.1.length:Int) then
    (getI b.2.1 a).bind fun c=>
    some (decide (c=a))
  else
    some false).bind fun d=>
  if d=true then
    some (.inl (wa .i64 a 1))
  else
    some (.inr a)
def m_f2 (c:List (List (Bool×LI))):Option ((List (Bool×LI))×Int):=
  (m_em c).bind fun e=>
  if e=0 then
    (m_eh c).bind fun d=>
    (m_eq c []).bind fun j=>
    (m_fq j d).bind fun a=>
    (loop (m_f1 a) 0).bind fun b=>
    if b=d then
      some ([],0)
    else
      (mkL (false,[]) d).bind fun k=>
      (m_fv a.2.2.1 a.2.2.2.1).bind fun f=>
      (setI k b (f.1,f.2)).bind fun g=>
      (getI g b).bind fun h=>
      (loop (m_f0 a b) (g,h.1,h.2,0)).bind fun (i,l,m)=>
      (loop (m_fz i l m) (i,0)).bind fun n=>
      some (n,0)
  else
    some ([],e)
def m_f3 (a:Int) (b:LI) (c:List (List (Bool×LI))):Option ((LI×(List (List (Bool×LI)))×Int)⊕(((List (List (Bool×LI)))))):=
  some (.inl (b,c,wa .i64 a 1))
def m_f4 (a:List (List (Bool×LI))) (b:Int) (c:LI) (d:List (Bool×LI)):Option ((LI×(List (List (Bool×LI)))×Int)⊕(((List (List (Bool×LI)))))):=
  (app a [d]).bind fun e=>
  m_f3 b c e
def m_f5 (b:LI) (e:(List (Bool×LI))×Int):(List (Bool×LI))×Int→Option (((List (Bool×LI))×Int)⊕(((List (Bool×LI))))):=fun (c,a)=>
  if a < (b.length:Int) then
    (getI b a).bind fun f=>
    (getI e.1 a).bind fun d=>
    (setI c f (d.1,d.2)).bind fun g=>
    some (.inl (g,wa .i64 a 1))
  else
    some (.inr c)
def m_f6 (b:LI) (e:List (Bool×LI)):(List (Bool×LI))×Int→Option (((List (Bool×LI))×Int)⊕(((List (Bool×LI))))):=fun (c,a)=>
  if a < (b.length:Int) then
    (getI b a).bind fun f=>
    (getI e f).bind fun d=>
    (app c [(d.1,d.2)]).bind fun g=>
    some (.inl (g,wa .i64 a 1))
  else
    some (.inr c)
def m_f7 (b:List (List (Bool×LI))) (d:LI):(List (List (Bool×LI)))×Int→Option (((List (List (Bool×LI)))×Int)⊕(((List (List (Bool×LI)))))):=fun (c,a)=>
  if a < (b.length:Int) then
    (getI b a).bind fun e=>
    (loop (m_f6 d e) ([],0)).bind fun f=>
    (app c [f]).bind fun g=>
    some (.inl (g,wa .i64 a 1))
  else
    some (.inr c)
def m_f8 (d:Int) (i:BL) (j:List (List (Bool×LI))):LI×(List (List (Bool×LI)))×Int→Option ((LI×(List (List (Bool×LI)))×Int)⊕(((List (List (Bool×LI)))))):=fun (b,c,a)=>
  if a < d then
    (getI i a).bind fun k=>
    if k=true then
      (m_fu b).bind fun l=>
      (app l [a]).bind fun e=>
      (loop (m_f7 j e) ([],0)).bind fun f=>
      (mkL (false,[]) d).bind fun g=>
      if (f.length:Int)=0 then
        (m_c8 1).bind fun h=>
        (setI g a (h.1,h.2)).bind fun m=>
        m_f4 c a b m
      else
        (m_f2 f).bind fun n=>
        (loop (m_f5 e n) (g,0)).bind fun o=>
        m_f4 c a b o
    else
      (app b [a]).bind fun p=>
      m_f3 a p c
  else
    some (.inr c)
def m_f9 (a:List (List (Bool×LI))) (b:Int):Option ((List (List (Bool×LI)))):=
  (m_ft a b).bind fun c=>
  (loop (m_f8 b c a) ([],[],0)).bind fun d=>
  some d
def m_ga (b:Int):Int→Option ((Int)⊕(Unit⊕Unit)):=fun a=>
  if (wm .i64 a a)≤b then
    (wr b a).bind fun c=>
    if c=0 then
      some (.inr (.inr ()))
    else
      some (.inl (wa .i64 a 1))
  else
    some (.inr (.inl ()))
def m_gb (a:Int):Option (Bool):=
  if ((decide (a < 2)) || (decide ((2147483647:Int) < a)))=true then
    some false
  else
    (loop (m_ga a) 2).bind (fun o=>match o with
      | .inl ()=>
        some true
      | .inr ()=>
        some false)
def m_gc (a:Int) (b:LI):Option ((LI×Int)⊕(LI)):=
  some (.inl (b,ws .i64 a 1))
def m_gd (c:Int):LI×Int→Option ((LI×Int)⊕(LI)):=fun (b,a)=>
  if ((decide ((2:Int)≤a)) && (decide ((b.length:Int) < (imin c 100))))=true then
    (m_gb a).bind fun d=>
    if d=true then
      (app b [a]).bind fun e=>
      m_gc a e
    else
      m_gc a b
  else
    some (.inr b)
def m_ge (a:Int) (b:Int):Option (LI):=
  if a≤2 then
    some []
  else
    (loop (m_gd b) ([],imin (ws .i64 a 1) 2147483647)).bind fun c=>
    some c
def m_gf (b:LI):Int×Int→Option ((Int×Int)⊕(Int)):=fun (c,a)=>
  if a < (b.length:Int) then
    (getI b a).bind fun d=>
    (wshl .u64 (wc .u64 d) (wm .i64 32 a)).bind fun e=>
    some (.inl (wor .u64 c e,wa .i64 a 1))
  else
    some (.inr c)
def m_gg (b:Bool) (d:LI):Option (Int×Bool):=
  (m_c5 d).bind fun c=>
  if (2:Int) < (c.length:Int) then
    some (0,false)
  else
    (loop (m_gf c) (0,0)).bind fun a=>
    if ((b && (decide ((0:Int) < a))) && (decide (a≤9223372036854775808)))=true then
      some (ws .i64 (wneg .i64 (wc .i64 (ws .u64 a 1))) 1,true)
    else
      if ((decide (a < 9223372036854775808)) && ((!(b)) || (decide (a=0))))=true then
        some (wc .i64 a,true)
      else
        some (0,false)
def m_gh (c:Bool) (d:LI) (e:Int):Option (Int):=
  (m_c8 e).bind fun a=>
  (m_ff c d a.1 a.2).bind fun b=>
  (m_gg b.2.2.1 b.2.2.2.1).bind fun f=>
  some f.1
def m_gi (b:Bool) (c:LI) (a:Int):Option (Int×Int):=
  (m_gb a).bind fun d=>
  if d=true then
    (m_gh b c a).bind fun e=>
    some (e,0)
  else
    some (0,70)
def m_gj (c:List (Bool×LI)) (f:Int) (d:Int):L2×Int→Option ((L2×Int)⊕(L2)):=fun (a,b)=>
  if b < (c.length:Int) then
    (getI c b).bind fun e=>
    (m_gi e.1 e.2 f).bind fun g=>
    (getI a d).bind fun h=>
    (app h [g.1]).bind fun i=>
    (setI a d i).bind fun j=>
    some (.inl (j,wa .i64 b 1))
  else
    some (.inr a)
def m_gk (b:List (List (Bool×LI))) (d:Int):L2×Int→Option ((L2×Int)⊕(L2)):=fun (c,a)=>
  if a < (b.length:Int) then
    (getI b a).bind fun e=>
    (loop (m_gj e d a) (c,0)).bind fun f=>
    some (.inl (f,wa .i64 a 1))
  else
    some (.inr c)
def m_gl (a:List (List (Bool×LI))) (b:Int):Option (L2):=
  (mkL ([]:LI) (a.length:Int)).bind fun c=>
  (loop (m_gk a b) (c,0)).bind fun d=>
  some d
def m_gm (a:L2):Option (Unit):=
  some ()
def m_gn (a:L2):Option (Int):=
  if (a.length:Int)=0 then
    some 0
  else
    (getI a 0).bind fun b=>
    some (b.length:Int)
end M
