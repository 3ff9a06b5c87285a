/- Models of functions of the program, printed. -/
import Derived.Test.YthekfonboblioabGreatDoorM4
namespace M
open Sx
set_option linter.unusedVariables false
def m_di (b:Bool) (c:LI) (d:Int):Option (Bool×Bool×LI×Int):=
  (m_dh false b c d).bind fun a=>
  some (a.1,a.2.1,a.2.2.1,a.2.2.2.1)
def m_dj (b:Int) (c:Bool) (d:LI):Option (Bool×Bool×LI×Int):=
  (m_di c d b).bind fun a=>
  some (a.1,a.2.1,a.2.2.1,a.2.2.2)
def m_dk (d:Int) (b:Int) (e:Int):Option (Bool×Bool×LI×Int):=
  (m_cp (wc .i64 e)).bind fun a=>
  (m_cq d).bind fun f=>
  if f=true then
    (m_cs a.1 a.2).bind fun c=>
    m_dj b c.1 c.2
  else
    m_dj b a.1 a.2
def m_dl (b:Int):Option (Bool×Bool×LI×Int):=
  (m_ce b).bind fun a=>
  if a.1=2047 then
    some (true,false,[],0)
  else
    if a.1=0 then
      m_dk b (-1074) a.2
    else
      m_dk b (ws .i64 a.1 1075) (wor .u64 a.2 4503599627370496)
def m_dm (b:Bool) (c:Bool) (d:LI) (e:Int):Option (Int):=
  (m_dh b c d e).bind fun a=>
  (m_cv a.2.1 a.2.2.1).bind fun f=>
  some f
def m_dn (d:LI) (b:Int) (e:LI) (f:LI):(List (Int×Int×Int))×Int→Option (((List (Int×Int×Int))×Int)⊕(((List (Int×Int×Int))))):=fun (c,a)=>
  (getI d (wa .i64 b 1)).bind fun g=>
  if a < g then
    (getI e a).bind fun h=>
    (getI f a).bind fun i=>
    (app c [(h,b,i)]).bind fun j=>
    some (.inl (j,wa .i64 a 1))
  else
    some (.inr c)
def m_do (d:Int) (b:LI) (e:LI) (f:LI):(List (Int×Int×Int))×Int→Option (((List (Int×Int×Int))×Int)⊕(((List (Int×Int×Int))))):=fun (c,a)=>
  if a < d then
    (getI b a).bind fun g=>
    (loop (m_dn b a e f) (c,g)).bind fun h=>
    some (.inl (h,wa .i64 a 1))
  else
    some (.inr c)
def m_dp (f:Int) (a:Int) (b:LI) (c:LI) (d:LI):Option ((List (Int×Int×Int))):=
  (loop (m_do a b c d) ([],0)).bind fun e=>
  some e
def m_dq (a:Int) (b:List (List (Bool×LI))):Option (((List (List (Bool×LI)))×Int)⊕(((List (List (Bool×LI)))))):=
  some (.inl (b,wa .i64 a 1))
def m_dr (e:(List (Int×Int×Int))) (g:Int):(List (List (Bool×LI)))×Int→Option (((List (List (Bool×LI)))×Int)⊕(((List (List (Bool×LI)))))):=fun (b,c)=>
  if c < (e.length:Int) then
    (getI e c).bind fun d=>
    (m_dl d.2.2).bind fun a=>
    (m_dm a.1 a.2.1 a.2.2.1 a.2.2.2).bind fun h=>
    if h=0 then
      m_dq c b
    else
      (getI b d.1).bind fun i=>
      (m_de a.2.1 a.2.2.1 (ws .i64 a.2.2.2 g)).bind fun f=>
      (setI i d.2.1 (f.1,f.2.1)).bind fun j=>
      (setI b d.1 j).bind fun k=>
      m_dq c k
  else
    some (.inr b)
def m_ds (c:List (List (Bool×LI))) (d:Int):(List (List (Bool×LI)))×Int→Option (((List (List (Bool×LI)))×Int)⊕(((List (List (Bool×LI)))))):=fun (b,a)=>
  if a < (c.length:Int) then
    (mkL (false,[]) d).bind fun e=>
    (setI b a e).bind fun f=>
    some (.inl (f,wa .i64 a 1))
  else
    some (.inr b)
def m_dt (a:Int) (b:Int) (c:Bool):Option ((Int×Bool×Int)⊕(Int)):=
  some (.inl (b,c,wa .i64 a 1))
def m_du (d:LI):Int×Bool×Int→Option ((Int×Bool×Int)⊕(Int)):=fun (c,e,b)=>
  if b < (d.length:Int) then
    (getI d b).bind fun f=>
    (m_dl f).bind fun a=>
    (m_dm a.1 a.2.1 a.2.2.1 a.2.2.2).bind fun g=>
    if ((!(decide (g=0))) && (e || (decide (a.2.2.2 < c))))=true then
      m_dt b a.2.2.2 false
    else
      m_dt b c e
  else
    some (.inr c)
def m_dv (a:Int) (b:Int) (d:LI) (e:LI) (c:LI):Option ((List (List (Bool×LI)))×Int×Int):=
  (m_ck a b d e c).bind fun f=>
  if f=0 then
    if ((decide ((16:Int) < a)) || (decide ((16:Int) < b)))=true then
      some ([],0,6)
    else
      (loop (m_du c) (0,true,0)).bind fun g=>
      (mkL ([]:List (Bool×LI)) a).bind fun h=>
      (loop (m_ds h b) (h,0)).bind fun i=>
      (m_dp a b d e c).bind fun j=>
      (loop (m_dr j g) (i,0)).bind fun k=>
      some (k,g,0)
  else
    some ([],0,f)
def m_dw (b:List (List (Bool×LI))) (d:Int):(List (List (Bool×LI)))×Int→Option (((List (List (Bool×LI)))×Int)⊕(((List (List (Bool×LI)))))):=fun (c,a)=>
  if a < (b.length:Int) then
    (getI b a).bind fun e=>
    (sli e 0 d).bind fun f=>
    (app c [f]).bind fun g=>
    some (.inl (g,wa .i64 a 1))
  else
    some (.inr c)
def m_dx (a:List (List (Bool×LI))) (b:Int):Option ((List (List (Bool×LI)))):=
  (loop (m_dw a b) ([],0)).bind fun c=>
  some c
def m_dy (a:List (List (Bool×LI))):Option (Int):=
  if (a.length:Int)=0 then
    some 0
  else
    (getI a 0).bind fun b=>
    some (b.length:Int)
def m_dz (a:List (Bool×LI)) (b:Int):Option (Bool):=
  some (!(decide ((a.length:Int)=b)))
def m_d0 (b:List (List (Bool×LI))) (c:Int):Int→Option ((Int)⊕(Unit⊕Int)):=fun a=>
  if a < (b.length:Int) then
    (getI b a).bind fun d=>
    (m_dz d c).bind fun e=>
    if e=true then
      some (.inr (.inr a))
    else
      some (.inl (wa .i64 a 1))
  else
    some (.inr (.inl ()))
def m_d1 (a:List (List (Bool×LI))) (b:Int):Option (Int):=
  (loop (m_d0 a b) 0).bind (fun o=>match o with
    | .inl ()=>
      some (-1)
    | .inr c=>
      some c)
def m_d2 (a:List (List (Bool×LI))) (b:Int):Option (Bool):=
  (m_d1 a b).bind fun c=>
  some (decide ((0:Int)≤c))
def m_d3 (a:List (List (Bool×LI))):Option (Int):=
  (m_dy a).bind fun b=>
  (m_d2 a b).bind fun c=>
  if c=true then
    some 5
  else
    if ((decide ((16:Int) < (a.length:Int))) || (decide ((16:Int) < b)))=true then
      some 6
    else
      some 0
def m_d4 (a:List (List (Bool×LI))) (b:Int) (c:List (Bool×LI)):Option (((List (List (Bool×LI)))×Int)⊕(((List (List (Bool×LI)))))):=
  (app a [c]).bind fun d=>
  some (.inl (d,wa .i64 b 1))
def m_d5 (b:List (Bool×LI)):(List (Bool×LI))×Int→Option (((List (Bool×LI))×Int)⊕(((List (Bool×LI))))):=fun (c,a)=>
  if a < (b.length:Int) then
    (getI b a).bind fun d=>
    (m_cu d.1 d.2).bind fun e=>
    (app c [(e.1,e.2)]).bind fun f=>
    some (.inl (f,wa .i64 a 1))
  else
    some (.inr c)
def m_d6 (c:List (List (Bool×LI))) (d:List (Bool×LI)):(List (List (Bool×LI)))×Int→Option (((List (List (Bool×LI)))×Int)⊕(((List (List (Bool×LI)))))):=fun (b,a)=>
  if a < (c.length:Int) then
    (getI c a).bind fun h=>
    (loop (m_d5 h) ([],0)).bind fun e=>
    if a < (d.length:Int) then
      (getI d a).bind fun f=>
      (m_cu f.1 f.2).bind fun g=>
      (app e [(g.1,g.2)]).bind fun i=>
      m_d4 b a i
    else
      m_d4 b a e
  else
    some (.inr b)
def m_d7 (a:List (List (Bool×LI))) (b:List (Bool×LI)):Option ((List (List (Bool×LI)))):=
  (loop (m_d6 a b) ([],0)).bind fun c=>
  some c
def m_d8 (d:LI) (e:Int) (f:Int):LI×Int×Int→Option ((LI×Int×Int)⊕((LI×Int))):=fun (b,c,a)=>
  if a < (d.length:Int) then
    (getI d a).bind fun g=>
    (getI b (wa .i64 e a)).bind fun h=>
    (setI b (wa .i64 e a) (wc .u32 (wand .u64 (wa .u64 (wa .u64 (wm .u64 (wc .u64 f) (wc .u64 g)) (wc .u64 h)) c) 4294967295))).bind fun i=>
    some (.inl (i,wsrc .u64 (wa .u64 (wa .u64 (wm .u64 (wc .u64 f) (wc .u64 g)) (wc .u64 h)) c) 32,wa .i64 a 1))
  else
    some (.inr (b,c))
def m_d9 (b:LI) (c:LI):LI×Int→Option ((LI×Int)⊕(LI)):=fun (d,a)=>
  if a < (b.length:Int) then
    (getI b a).bind fun e=>
    (loop (m_d8 c a e) (d,0,0)).bind fun (f,g)=>
    (setI f (wa .i64 a (c.length:Int)) (wc .u32 g)).bind fun h=>
    some (.inl (h,wa .i64 a 1))
  else
    some (.inr d)
def m_ea (a:LI) (b:LI):Option (LI):=
  if ((decide ((a.length:Int)=0)) || (decide ((b.length:Int)=0)))=true then
    some []
  else
    (mkL 0 (wa .i64 (a.length:Int) (b.length:Int))).bind fun c=>
    (loop (m_d9 a b) (c,0)).bind fun d=>
    (m_cm d).bind fun e=>
    some e
def m_eb (b:Bool) (c:LI) (d:Bool) (e:LI):Option (Bool×LI):=
  (m_cm c).bind fun f=>
  (m_cm e).bind fun g=>
  (m_ea f g).bind fun h=>
  (m_cn (!((b == d))) h).bind fun a=>
  some (a.1,a.2)
end M
