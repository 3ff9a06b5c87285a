/- Models of functions of the program, printed. -/
import Derived.Test.YthekfonboblioaaGreatDoorM5
namespace M
open Sx
set_option linter.unusedVariables false
def m_d9 (a:Int) (b:List (List (Bool×LI))):Option (((List (List (Bool×LI)))×Int)⊕(((List (List (Bool×LI)))))):=
  some (.inl (b,wa .i64 a 1))
def m_ea (e:(List (Int×Int×Int))) (g:Int):(List (List (Bool×LI)))×Int→Option (((List (List (Bool×LI)))×Int)⊕(((List (List (Bool×LI)))))):=fun (b,c)=>
  if c < (e.length:Int) then
    (getI e c).bind fun d=>
    (m_d4 d.2.2).bind fun a=>
    (m_d5 a.1 a.2.1 a.2.2.1 a.2.2.2).bind fun h=>
    if h=0 then
      m_d9 c b
    else
      (getI b d.1).bind fun i=>
      (m_dx a.2.1 a.2.2.1 (ws .i64 a.2.2.2 g)).bind fun f=>
      (setI i d.2.1 (f.1,f.2.1)).bind fun j=>
      (setI b d.1 j).bind fun k=>
      m_d9 c k
  else
    some (.inr b)
def m_eb (c:List (List (Bool×LI))) (d:Int):(List (List (Bool×LI)))×Int→Option (((List (List (Bool×LI)))×Int)⊕(((List (List (Bool×LI)))))):=fun (b,a)=>
  if a < (c.length:Int) then
    (mkL (false,[]) d).bind fun e=>
    (setI b a e).bind fun f=>
    some (.inl (f,wa .i64 a 1))
  else
    some (.inr b)
def m_ec (a:Int) (b:Int) (c:Bool):Option ((Int×Bool×Int)⊕(Int)):=
  some (.inl (b,c,wa .i64 a 1))
def m_ed (d:LI):Int×Bool×Int→Option ((Int×Bool×Int)⊕(Int)):=fun (c,e,b)=>
  if b < (d.length:Int) then
    (getI d b).bind fun f=>
    (m_d4 f).bind fun a=>
    (m_d5 a.1 a.2.1 a.2.2.1 a.2.2.2).bind fun g=>
    if ((!(decide (g=0))) && (e || (decide (a.2.2.2 < c))))=true then
      m_ec b a.2.2.2 false
    else
      m_ec b c e
  else
    some (.inr c)
def m_ee (a:Int) (b:Int) (d:LI) (e:LI) (c:LI):Option ((List (List (Bool×LI)))×Int×Int):=
  (m_c3 a b d e c).bind fun f=>
  if f=0 then
    if ((decide ((16:Int) < a)) || (decide ((16:Int) < b)))=true then
      some ([],0,6)
    else
      (loop (m_ed c) (0,true,0)).bind fun g=>
      (mkL ([]:List (Bool×LI)) a).bind fun h=>
      (loop (m_eb h b) (h,0)).bind fun i=>
      (m_d8 a b d e c).bind fun j=>
      (loop (m_ea j g) (i,0)).bind fun k=>
      some (k,g,0)
  else
    some ([],0,f)
def m_ef (b:List (List (Bool×LI))) (d:Int):(List (List (Bool×LI)))×Int→Option (((List (List (Bool×LI)))×Int)⊕(((List (List (Bool×LI)))))):=fun (c,a)=>
  if a < (b.length:Int) then
    (getI b a).bind fun e=>
    (sli e 0 d).bind fun f=>
    (app c [f]).bind fun g=>
    some (.inl (g,wa .i64 a 1))
  else
    some (.inr c)
def m_eg (a:List (List (Bool×LI))) (b:Int):Option ((List (List (Bool×LI)))):=
  (loop (m_ef a b) ([],0)).bind fun c=>
  some c
def m_eh (a:List (List (Bool×LI))):Option (Int):=
  if (a.length:Int)=0 then
    some 0
  else
    (getI a 0).bind fun b=>
    some (b.length:Int)
def m_ei (a:List (Bool×LI)) (b:Int):Option (Bool):=
  some (!(decide ((a.length:Int)=b)))
def m_ej (b:List (List (Bool×LI))) (c:Int):Int→Option ((Int)⊕(Unit⊕Int)):=fun a=>
  if a < (b.length:Int) then
    (getI b a).bind fun d=>
    (m_ei d c).bind fun e=>
    if e=true then
      some (.inr (.inr a))
    else
      some (.inl (wa .i64 a 1))
  else
    some (.inr (.inl ()))
def m_ek (a:List (List (Bool×LI))) (b:Int):Option (Int):=
  (loop (m_ej a b) 0).bind (fun o=>match o with
    | .inl ()=>
      some (-1)
    | .inr c=>
      some c)
def m_el (a:List (List (Bool×LI))) (b:Int):Option (Bool):=
  (m_ek a b).bind fun c=>
  some (decide ((0:Int)≤c))
def m_em (a:List (List (Bool×LI))):Option (Int):=
  (m_eh a).bind fun b=>
  (m_el a b).bind fun c=>
  if c=true then
    some 5
  else
    if ((decide ((16:Int) < (a.length:Int))) || (decide ((16:Int) < b)))=true then
      some 6
    else
      some 0
def m_en (a:List (List (Bool×LI))) (b:Int) (c:List (Bool×LI)):Option (((List (List (Bool×LI)))×Int)⊕(((List (List (Bool×LI)))))):=
  (app a [c]).bind fun d=>
  some (.inl (d,wa .i64 b 1))
def m_eo (b:List (Bool×LI)):(List (Bool×LI))×Int→Option (((List (Bool×LI))×Int)⊕(((List (Bool×LI))))):=fun (c,a)=>
  if a < (b.length:Int) then
    (getI b a).bind fun d=>
    (m_dd d.1 d.2).bind fun e=>
    (app c [(e.1,e.2)]).bind fun f=>
    some (.inl (f,wa .i64 a 1))
  else
    some (.inr c)
def m_ep (c:List (List (Bool×LI))) (d:List (Bool×LI)):(List (List (Bool×LI)))×Int→Option (((List (List (Bool×LI)))×Int)⊕(((List (List (Bool×LI)))))):=fun (b,a)=>
  if a < (c.length:Int) then
    (getI c a).bind fun h=>
    (loop (m_eo h) ([],0)).bind fun e=>
    if a < (d.length:Int) then
      (getI d a).bind fun f=>
      (m_dd f.1 f.2).bind fun g=>
      (app e [(g.1,g.2)]).bind fun i=>
      m_en b a i
    else
      m_en b a e
  else
    some (.inr b)
def m_eq (a:List (List (Bool×LI))) (b:List (Bool×LI)):Option ((List (List (Bool×LI)))):=
  (loop (m_ep a b) ([],0)).bind fun c=>
  some c
def m_er (d:LI) (e:Int) (f:Int):LI×Int×Int→Option ((LI×Int×Int)⊕((LI×Int))):=fun (b,c,a)=>
  if a < (d.length:Int) then
    (getI d a).bind fun g=>
    (getI b (wa .i64 e a)).bind fun h=>
    (setI b (wa .i64 e a) (wc .u32 (wand .u64 (wa .u64 (wa .u64 (wm .u64 (wc .u64 f) (wc .u64 g)) (wc .u64 h)) c) 4294967295))).bind fun i=>
    some (.inl (i,wsrc .u64 (wa .u64 (wa .u64 (wm .u64 (wc .u64 f) (wc .u64 g)) (wc .u64 h)) c) 32,wa .i64 a 1))
  else
    some (.inr (b,c))
def m_es (b:LI) (c:LI):LI×Int→Option ((LI×Int)⊕(LI)):=fun (d,a)=>
  if a < (b.length:Int) then
    (getI b a).bind fun e=>
    (loop (m_er c a e) (d,0,0)).bind fun (f,g)=>
    (setI f (wa .i64 a (c.length:Int)) (wc .u32 g)).bind fun h=>
    some (.inl (h,wa .i64 a 1))
  else
    some (.inr d)
def m_et (a:LI) (b:LI):Option (LI):=
  if ((decide ((a.length:Int)=0)) || (decide ((b.length:Int)=0)))=true then
    some []
  else
    (mkL 0 (wa .i64 (a.length:Int) (b.length:Int))).bind fun c=>
    (loop (m_es a b) (c,0)).bind fun d=>
    (m_c5 d).bind fun e=>
    some e
def m_eu (b:Bool) (c:LI) (d:Bool) (e:LI):Option (Bool×LI):=
  (m_c5 c).bind fun f=>
  (m_c5 e).bind fun g=>
  (m_et f g).bind fun h=>
  (m_c6 (!((b == d))) h).bind fun a=>
  some (a.1,a.2)
def m_ev (a:Int):Option (Bool):=
  some (!(decide (a=a)))
def m_ew (a:Int) (b:Int):Option (Int):=
  (m_ev a).bind fun d=>
  (m_ev b).bind fun c=>
  if d=true then
    if c=true then
      some 0
    else
      some (-1)
  else
    if c=true then
      some 1
    else
      if a < b then
        some (-1)
      else
        if b < a then
          some 1
        else
          some 0
def m_ex (a:Int) (b:Int):Option (Int):=
  (m_cq a).bind fun d=>
  (m_cq b).bind fun c=>
  if d=true then
    if c=true then
      some 0
    else
      some (-1)
  else
    if c=true then
      some 1
    else
      if a < b then
        some (-1)
      else
        if b < a then
          some 1
        else
          some 0
def m_ey (b:LI) (c:LI):Int→Option ((Int)⊕(Unit⊕Int)):=fun a=>
  if (0:Int)≤a then
    (getI b a).bind fun d=>
    (getI c a).bind fun e=>
    if d=e then
      some (.inl (ws .i64 a 1))
    else
      (getI b a).bind fun f=>
      (getI c a).bind fun g=>
      (m_ew f g).bind fun h=>
      some (.inr (.inr h))
  else
    some (.inr (.inl ()))
def m_ez (a:LI) (b:LI):Option (Int):=
  if (a.length:Int)=(b.length:Int) then
    (loop (m_ey a b) (ws .i64 (a.length:Int) 1)).bind (fun o=>match o with
      | .inl ()=>
        some 0
      | .inr c=>
        some c)
  else
    (m_ex (a.length:Int) (b.length:Int)).bind fun d=>
    some d
end M
