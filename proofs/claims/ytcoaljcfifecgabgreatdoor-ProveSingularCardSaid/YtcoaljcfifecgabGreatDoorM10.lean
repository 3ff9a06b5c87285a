/- Models of functions of the program, printed. -/
import Derived.Test.YtcoaljcfifecgabGreatDoorM9
namespace M
open Sx
set_option linter.unusedVariables false
def m_hx (a:Int) (b:List (List (Bool×LI))) (c:LI):Option (((List (List (Bool×LI)))×LI×Int)⊕(((List (List (Bool×LI)))))):=
  some (.inl (b,c,wa .i64 a 1))
def m_hy (a:List (List (Bool×LI))) (b:Int) (c:LI) (d:List (Bool×LI)):Option (((List (List (Bool×LI)))×LI×Int)⊕(((List (List (Bool×LI)))))):=
  (app a [d]).bind fun e=>
  m_hx b e c
def m_hz (b:LI) (e:(List (Bool×LI))):(List (Bool×LI))×Int→Option (((List (Bool×LI))×Int)⊕(((List (Bool×LI))))):=fun (c,a)=>
  if a < (b.length:Int) then
    (getI b a).bind fun f=>
    (getI e a).bind fun d=>
    (setI c f (d.1,d.2)).bind fun g=>
    some (.inl (g,wa .i64 a 1))
  else
    some (.inr c)
def m_h0 (f:Int) (c:List (List (Bool×LI))):(List (List (Bool×LI)))×LI×Int→Option (((List (List (Bool×LI)))×LI×Int)⊕(((List (List (Bool×LI)))))):=fun (d,e,a)=>
  if a < f then
    (app [] e).bind fun i=>
    (app i [a]).bind fun b=>
    (if (0:Int) < (c.length:Int) then
      (m_gq c b).bind fun j=>
      (m_hp j (b.length:Int)).bind fun k=>
      some (decide ((e.length:Int) < k))
    else
      some false).bind fun l=>
    if l=true then
      m_hx a d b
    else
      (mkL (false,[]) f).bind fun m=>
      (m_j 1).bind fun g=>
      (setI m a (g.1,g.2)).bind fun h=>
      if (0:Int) < (c.length:Int) then
        (m_gq c b).bind fun n=>
        (m_hw n).bind fun o=>
        (loop (m_hz b o) (h,0)).bind fun p=>
        m_hy d a e p
      else
        m_hy d a e h
  else
    some (.inr d)
def m_h1 (a:List (List (Bool×LI))) (b:Int):Option ((List (List (Bool×LI)))):=
  (loop (m_h0 b a) ([],[],0)).bind fun c=>
  some c
def m_h2 (d:Int) (b:Int) (e:LI) (f:LI) (g:LI):Option ((List (Bool×LI))×Bool×Int):=
  (m_gn d b e f g).bind fun a=>
  if a.2.2=0 then
    (m_h1 a.1 b).bind fun c=>
    if (c.length:Int)=0 then
      some ([],false,0)
    else
      (getI c 0).bind fun h=>
      some (h,true,0)
  else
    some ([],false,a.2.2)
def m_h3 (b:LI) (c:LI):Int→Option ((Int)⊕(Unit⊕Unit)):=fun a=>
  if a < (b.length:Int) then
    (getI b a).bind fun d=>
    (getI c a).bind fun e=>
    if d=e then
      some (.inl (wa .i64 a 1))
    else
      some (.inr (.inr ()))
  else
    some (.inr (.inl ()))
def m_h4 (a:LI) (b:LI):Option (Bool):=
  if (a.length:Int)=(b.length:Int) then
    (loop (m_h3 a b) 0).bind (fun o=>match o with
      | .inl ()=>
        some true
      | .inr ()=>
        some false)
  else
    some false
def m_h5 (a:Bool) (b:LI) (c:Bool) (d:LI):Option (Bool):=
  (if (a == c)=true then
    (m_h4 b d).bind fun e=>
    some e
  else
    some false).bind fun f=>
  some f
def m_h6 (b:List (Bool×LI)) (e:List (Bool×LI)):Int→Option ((Int)⊕(Unit⊕Unit)):=fun a=>
  if a < (b.length:Int) then
    (getI b a).bind fun c=>
    (getI e a).bind fun d=>
    (m_h5 c.1 c.2 d.1 d.2).bind fun f=>
    if f=true then
      some (.inl (wa .i64 a 1))
    else
      some (.inr (.inr ()))
  else
    some (.inr (.inl ()))
def m_h7 (a:List (Bool×LI)) (b:List (Bool×LI)):Option (Bool):=
  if (a.length:Int)=(b.length:Int) then
    (loop (m_h6 a b) 0).bind (fun o=>match o with
      | .inl ()=>
        some true
      | .inr ()=>
        some false)
  else
    some false
def m_h8 (b:Int):Int→Option ((Int)⊕(Unit⊕Unit)):=fun a=>
  if (wm .i64 a a)≤b then
    (wr b a).bind fun c=>
    if c=0 then
      some (.inr (.inr ()))
    else
      some (.inl (wa .i64 a 1))
  else
    some (.inr (.inl ()))
def m_h9 (a:Int):Option (Bool):=
  if ((decide (a < 2)) || (decide ((2147483647:Int) < a)))=true then
    some false
  else
    (loop (m_h8 a) 2).bind (fun o=>match o with
      | .inl ()=>
        some true
      | .inr ()=>
        some false)
def m_ia (a:Int) (b:LI):Option ((LI×Int)⊕(LI)):=
  some (.inl (b,ws .i64 a 1))
def m_ib (c:Int):LI×Int→Option ((LI×Int)⊕(LI)):=fun (b,a)=>
  if ((decide ((2:Int)≤a)) && (decide ((b.length:Int) < (imin c 100))))=true then
    (m_h9 a).bind fun d=>
    if d=true then
      (app b [a]).bind fun e=>
      m_ia a e
    else
      m_ia a b
  else
    some (.inr b)
def m_ic (a:Int) (b:Int):Option (LI):=
  if a≤2 then
    some []
  else
    (loop (m_ib b) ([],imin (ws .i64 a 1) 2147483647)).bind fun c=>
    some c
def m_id (b:LI):Int×Int→Option ((Int×Int)⊕(Int)):=fun (c,a)=>
  if a < (b.length:Int) then
    (getI b a).bind fun d=>
    (wshl .u64 (wc .u64 d) (wm .i64 32 a)).bind fun e=>
    some (.inl (wor .u64 c e,wa .i64 a 1))
  else
    some (.inr c)
def m_ie (b:Bool) (d:LI):Option (Int×Bool):=
  (m_c5 d).bind fun c=>
  if (2:Int) < (c.length:Int) then
    some (0,false)
  else
    (loop (m_id c) (0,0)).bind fun a=>
    if ((b && (decide ((0:Int) < a))) && (decide (a≤9223372036854775808)))=true then
      some (ws .i64 (wneg .i64 (wc .i64 (ws .u64 a 1))) 1,true)
    else
      if ((decide (a < 9223372036854775808)) && ((!(b)) || (decide (a=0))))=true then
        some (wc .i64 a,true)
      else
        some (0,false)
def m_if (c:Bool) (d:LI) (e:Int):Option (Int):=
  (m_c8 e).bind fun a=>
  (m_ff c d a.1 a.2).bind fun b=>
  (m_ie b.2.2.1 b.2.2.2.1).bind fun f=>
  some f.1
def m_ig (b:Bool) (c:LI) (a:Int):Option (Int×Int):=
  (m_h9 a).bind fun d=>
  if d=true then
    (m_if b c a).bind fun e=>
    some (e,0)
  else
    some (0,70)
def m_ih (c:List (Bool×LI)) (f:Int) (d:Int):L2×Int→Option ((L2×Int)⊕(L2)):=fun (a,b)=>
  if b < (c.length:Int) then
    (getI c b).bind fun e=>
    (m_ig e.1 e.2 f).bind fun g=>
    (getI a d).bind fun h=>
    (app h [g.1]).bind fun i=>
    (setI a d i).bind fun j=>
    some (.inl (j,wa .i64 b 1))
  else
    some (.inr a)
def m_ii (b:List (List (Bool×LI))) (d:Int):L2×Int→Option ((L2×Int)⊕(L2)):=fun (c,a)=>
  if a < (b.length:Int) then
    (getI b a).bind fun e=>
    (loop (m_ih e d a) (c,0)).bind fun f=>
    some (.inl (f,wa .i64 a 1))
  else
    some (.inr c)
def m_ij (a:List (List (Bool×LI))) (b:Int):Option (L2):=
  (mkL ([]:LI) (a.length:Int)).bind fun c=>
  (loop (m_ii a b) (c,0)).bind fun d=>
  some d
def m_ik (a:L2):Option (Unit):=
  some ()
def m_il (a:L2):Option (Int):=
  if (a.length:Int)=0 then
    some 0
  else
    (getI a 0).bind fun b=>
    some (b.length:Int)
def m_im (a:LI) (b:Int):Option (Bool):=
  some (!(decide ((a.length:Int)=b)))
end M
