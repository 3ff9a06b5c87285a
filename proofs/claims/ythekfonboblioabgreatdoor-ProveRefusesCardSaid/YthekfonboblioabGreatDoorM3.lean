/- Models of functions of the program, printed. -/
import Derived.Test.YthekfonboblioabGreatDoorM2
namespace M
open Sx
set_option linter.unusedVariables false
def m_cb (c:LI) (d:Int):Int×Int→Option ((Int×Int)⊕(Unit⊕Unit)):=fun (e,a)=>
  if a < (c.length:Int) then
    (getI c a).bind fun b=>
    if ((decide (b≤e)) || (decide (d≤b)))=true then
      some (.inr (.inr ()))
    else
      some (.inl (b,wa .i64 a 1))
  else
    some (.inr (.inl ()))
def m_cc (c:Int) (b:LI) (d:LI) (e:Int):Int→Option ((Int)⊕(Unit⊕Unit)):=fun a=>
  if a < c then
    (getI b a).bind fun f=>
    (getI b (wa .i64 a 1)).bind fun g=>
    (sli d f g).bind fun h=>
    (loop (m_cb h e) ((-1),0)).bind (fun o=>match o with
      | .inl ()=>
        some (.inl (wa .i64 a 1))
      | .inr ()=>
        some (.inr (.inr ())))
  else
    some (.inr (.inl ()))
def m_cd (d:Int) (b:Int) (a:LI) (c:LI) (e:LI):Option (Bool):=
  (if (a.length:Int)=(wa .i64 b 1) then
    (getI a 0).bind fun f=>
    some (!(decide (f=0)))
  else
    some true).bind fun g=>
  (if g=true then
    some true
  else
    (m_ca a).bind fun h=>
    some (!(h))).bind fun i=>
  (if i=true then
    some true
  else
    (getI a b).bind fun j=>
    some (!(decide (j=(c.length:Int))))).bind fun k=>
  (if k=true then
    some true
  else
    some (!(decide ((c.length:Int)=(e.length:Int))))).bind fun l=>
  if l=true then
    some false
  else
    (loop (m_cc b a c d) 0).bind (fun o=>match o with
      | .inl ()=>
        some true
      | .inr ()=>
        some false)
def m_ce (a:Int):Option (Int×Int):=
  some (wc .i64 (wand .u64 (wsrc .u64 a 52) 2047),wand .u64 a 4503599627370495)
def m_cf (a:Int):Option (Bool):=
  (m_ce a).bind fun b=>
  some (!(decide (b.1=2047)))
def m_cg (a:Int):Option (Bool):=
  (m_cf a).bind fun b=>
  some (!(b))
def m_ch (b:LI):Int→Option ((Int)⊕(Unit⊕Int)):=fun a=>
  if a < (b.length:Int) then
    (getI b a).bind fun c=>
    (m_cg c).bind fun d=>
    if d=true then
      some (.inr (.inr a))
    else
      some (.inl (wa .i64 a 1))
  else
    some (.inr (.inl ()))
def m_ci (a:LI):Option (Int):=
  (loop (m_ch a) 0).bind (fun o=>match o with
    | .inl ()=>
      some (-1)
    | .inr b=>
      some b)
def m_cj (a:LI):Option (Bool):=
  (m_ci a).bind fun b=>
  some (decide ((0:Int)≤b))
def m_ck (a:Int) (b:Int) (e:LI) (c:LI) (d:LI):Option (Int):=
  (m_b6 a 0 200).bind fun f=>
  (if f=true then
    (m_b6 b 0 200).bind fun g=>
    some (!(g))
  else
    some true).bind fun h=>
  if (h || (decide ((10000:Int) < (c.length:Int))))=true then
    some 6
  else
    (m_cd a b e c d).bind fun i=>
    if i=true then
      (m_cj d).bind fun j=>
      if j=true then
        some 4
      else
        some 0
    else
      some 1
def m_cl (b:LI):Int→Option ((Int)⊕(Int)):=fun a=>
  (if (0:Int) < a then
    (getI b (ws .i64 a 1)).bind fun c=>
    some (decide (c=0))
  else
    some false).bind fun d=>
  if d=true then
    some (.inl (ws .i64 a 1))
  else
    some (.inr a)
def m_cm (a:LI):Option (LI):=
  (loop (m_cl a) (a.length:Int)).bind fun b=>
  (sli a 0 b).bind fun c=>
  some c
def m_cn (b:Bool) (c:LI):Option (Bool×LI):=
  (m_cm c).bind fun a=>
  if (a.length:Int)=0 then
    some (false,[])
  else
    some (b,a)
def m_co (c:Int) (a:Int):Option (Bool×LI):=
  (m_cn (decide (c < 0)) [wc .u32 (wand .u64 a 4294967295),wc .u32 (wsrc .u64 a 32)]).bind fun b=>
  some (b.1,b.2)
def m_cp (a:Int):Option (Bool×LI):=
  if a < 0 then
    m_co a (wneg .u64 (wc .u64 a))
  else
    m_co a (wc .u64 a)
def m_cq (a:Int):Option (Bool):=
  some (!(decide ((wand .u64 a 9223372036854775808)=0)))
def m_cr (a:LI):Option (LI):=
  (app [] a).bind fun b=>
  some b
def m_cs (b:Bool) (c:LI):Option (Bool×LI):=
  (m_cr c).bind fun d=>
  (m_cn (!(b)) d).bind fun a=>
  some (a.1,a.2)
def m_ct:Option (Bool×Bool×Int):=
  some (true,false,0)
end M
