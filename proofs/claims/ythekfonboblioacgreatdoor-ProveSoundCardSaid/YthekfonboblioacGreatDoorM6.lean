/- Models of functions of the program, printed. -/
import Derived.Test.YthekfonboblioacGreatDoorM5
namespace M
open Sx
set_option linter.unusedVariables false
def m_fg (b:L2) (d:Int):LI×Int→Option ((LI×Int)⊕(LI)):=fun (c,a)=>
  if a < (b.length:Int) then
    (getI b a).bind fun e=>
    (getI e d).bind fun f=>
    (app c [f]).bind fun g=>
    some (.inl (g,wa .i64 a 1))
  else
    some (.inr c)
def m_fh (c:Int) (d:L2):L2×Int→Option ((L2×Int)⊕(L2)):=fun (b,a)=>
  if a < c then
    (loop (m_fg d a) ([],0)).bind fun e=>
    (app b [e]).bind fun f=>
    some (.inl (f,wa .i64 a 1))
  else
    some (.inr b)
def m_fi (a:L2) (b:Int):Option (L2):=
  (loop (m_fh b a) ([],0)).bind fun c=>
  some c
def m_fj (b:LI) (f:(List (List (Bool×LI)))×Int×Int) (c:Int) (g:(List (List (Bool×LI)))) (h:Int):Int→Option ((Int)⊕(Unit⊕(Int×LI×LI))):=fun a=>
  if a < (b.length:Int) then
    (getI b a).bind fun i=>
    (m_ep f.1 i).bind fun d=>
    (getI b a).bind fun j=>
    (m_ff d c j).bind fun e=>
    if (e.length:Int)=(ws .i64 c (g.length:Int)) then
      (m_fi d c).bind fun k=>
      (getI b a).bind fun l=>
      (m_ff k h l).bind fun m=>
      (getI b a).bind fun n=>
      some (.inr (.inr (n,m,e)))
    else
      some (.inl (wa .i64 a 1))
  else
    some (.inr (.inl ()))
def m_fk (d:Int) (a:Int) (e:LI) (f:LI) (g:LI):Option (Int×Int×LI×LI×(List (List (Bool×LI)))×Int):=
  (m_c1 d a e f g).bind fun b=>
  if b.2.2=0 then
    (m_eg b.1 a).bind fun c=>
    (m_el 2147483648 5).bind fun h=>
    (loop (m_fj h b a c d) 0).bind (fun o=>match o with
      | .inl ()=>
        some (0,0,[],[],[],420)
      | .inr (i,j,k)=>
        some (ws .i64 a (c.length:Int),i,j,k,c,0))
  else
    some (0,0,[],[],[],b.2.2)
def m_fl (a:Int) (b:Int) (c:Int):Option (Bool):=
  some ((decide (b≤a)) && (decide (a≤c)))
def m_fm (a:Int):Option (Bool):=
  some (!(decide (a=a)))
def m_fn (a:Int) (b:Int):Option (Bool):=
  (m_fm a).bind fun c=>
  (if c=true then
    (m_fm b).bind fun d=>
    some (!(d))
  else
    some false).bind fun e=>
  some (e || (decide (a < b)))
def m_fo (b:LI):Int→Option ((Int)⊕(Unit⊕Unit)):=fun a=>
  if (0:Int) < a then
    (getI b a).bind fun c=>
    (getI b (ws .i64 a 1)).bind fun d=>
    (m_fn c d).bind fun e=>
    if e=true then
      some (.inr (.inr ()))
    else
      some (.inl (ws .i64 a 1))
  else
    some (.inr (.inl ()))
def m_fp (a:LI):Option (Bool):=
  (loop (m_fo a) (ws .i64 (a.length:Int) 1)).bind (fun o=>match o with
    | .inl ()=>
      some true
    | .inr ()=>
      some false)
def m_fq (c:LI) (d:Int):Int×Int→Option ((Int×Int)⊕(Unit⊕Unit)):=fun (e,a)=>
  if a < (c.length:Int) then
    (getI c a).bind fun b=>
    if ((decide (b≤e)) || (decide (d≤b)))=true then
      some (.inr (.inr ()))
    else
      some (.inl (b,wa .i64 a 1))
  else
    some (.inr (.inl ()))
def m_fr (c:Int) (b:LI) (d:LI) (e:Int):Int→Option ((Int)⊕(Unit⊕Unit)):=fun a=>
  if a < c then
    (getI b a).bind fun f=>
    (getI b (wa .i64 a 1)).bind fun g=>
    (sli d f g).bind fun h=>
    (loop (m_fq h e) ((-1),0)).bind (fun o=>match o with
      | .inl ()=>
        some (.inl (wa .i64 a 1))
      | .inr ()=>
        some (.inr (.inr ())))
  else
    some (.inr (.inl ()))
def m_fs (d:Int) (b:Int) (a:LI) (c:LI) (e:LI):Option (Bool):=
  (if (a.length:Int)=(wa .i64 b 1) then
    (getI a 0).bind fun f=>
    some (!(decide (f=0)))
  else
    some true).bind fun g=>
  (if g=true then
    some true
  else
    (m_fp a).bind fun h=>
    some (!(h))).bind fun i=>
  (if i=true then
    some true
  else
    (getI a b).bind fun j=>
    some (!(decide (j=(c.length:Int))))).bind fun k=>
  (if k=true then
    some true
  else
    some (!(decide ((c.length:Int)=(e.length:Int))))).bind fun l=>
  if l=true then
    some false
  else
    (loop (m_fr b a c d) 0).bind (fun o=>match o with
      | .inl ()=>
        some true
      | .inr ()=>
        some false)
def m_ft (a:Int):Option (Int×Int):=
  some (wc .i64 (wand .u64 (wsrc .u64 a 52) 2047),wand .u64 a 4503599627370495)
def m_fu (a:Int):Option (Bool):=
  (m_ft a).bind fun b=>
  some (!(decide (b.1=2047)))
def m_fv (a:Int):Option (Bool):=
  (m_fu a).bind fun b=>
  some (!(b))
def m_fw (b:LI):Int→Option ((Int)⊕(Unit⊕Int)):=fun a=>
  if a < (b.length:Int) then
    (getI b a).bind fun c=>
    (m_fv c).bind fun d=>
    if d=true then
      some (.inr (.inr a))
    else
      some (.inl (wa .i64 a 1))
  else
    some (.inr (.inl ()))
def m_fx (a:LI):Option (Int):=
  (loop (m_fw a) 0).bind (fun o=>match o with
    | .inl ()=>
      some (-1)
    | .inr b=>
      some b)
def m_fy (a:LI):Option (Bool):=
  (m_fx a).bind fun b=>
  some (decide ((0:Int)≤b))
def m_fz (a:Int) (b:Int) (e:LI) (c:LI) (d:LI):Option (Int):=
  (m_fl a 0 200).bind fun f=>
  (if f=true then
    (m_fl b 0 200).bind fun g=>
    some (!(g))
  else
    some true).bind fun h=>
  if (h || (decide ((10000:Int) < (c.length:Int))))=true then
    some 6
  else
    (m_fs a b e c d).bind fun i=>
    if i=true then
      (m_fy d).bind fun j=>
      if j=true then
        some 4
      else
        some 0
    else
      some 1
def m_f0 (b:LI):Int→Option ((Int)⊕(Int)):=fun a=>
  (if (0:Int) < a then
    (getI b (ws .i64 a 1)).bind fun c=>
    some (decide (c=0))
  else
    some false).bind fun d=>
  if d=true then
    some (.inl (ws .i64 a 1))
  else
    some (.inr a)
def m_f1 (a:LI):Option (LI):=
  (loop (m_f0 a) (a.length:Int)).bind fun b=>
  (sli a 0 b).bind fun c=>
  some c
end M
