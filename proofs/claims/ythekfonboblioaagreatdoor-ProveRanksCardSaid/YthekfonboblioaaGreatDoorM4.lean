/- Models of functions of the program, printed. -/
import Derived.Test.YthekfonboblioaaGreatDoorM3
namespace M
open Sx
set_option linter.unusedVariables false
def m_c0 (b:LI):Int→Option ((Int)⊕(Unit⊕Int)):=fun a=>
  if a < (b.length:Int) then
    (getI b a).bind fun c=>
    (m_cz c).bind fun d=>
    if d=true then
      some (.inr (.inr a))
    else
      some (.inl (wa .i64 a 1))
  else
    some (.inr (.inl ()))
def m_c1 (a:LI):Option (Int):=
  (loop (m_c0 a) 0).bind (fun o=>match o with
    | .inl ()=>
      some (-1)
    | .inr b=>
      some b)
def m_c2 (a:LI):Option (Bool):=
  (m_c1 a).bind fun b=>
  some (decide ((0:Int)≤b))
def m_c3 (a:Int) (b:Int) (e:LI) (c:LI) (d:LI):Option (Int):=
  (m_cp a 0 200).bind fun f=>
  (if f=true then
    (m_cp b 0 200).bind fun g=>
    some (!(g))
  else
    some true).bind fun h=>
  if (h || (decide ((10000:Int) < (c.length:Int))))=true then
    some 6
  else
    (m_cw a b e c d).bind fun i=>
    if i=true then
      (m_c2 d).bind fun j=>
      if j=true then
        some 4
      else
        some 0
    else
      some 1
def m_c4 (b:LI):Int→Option ((Int)⊕(Int)):=fun a=>
  (if (0:Int) < a then
    (getI b (ws .i64 a 1)).bind fun c=>
    some (decide (c=0))
  else
    some false).bind fun d=>
  if d=true then
    some (.inl (ws .i64 a 1))
  else
    some (.inr a)
def m_c5 (a:LI):Option (LI):=
  (loop (m_c4 a) (a.length:Int)).bind fun b=>
  (sli a 0 b).bind fun c=>
  some c
def m_c6 (b:Bool) (c:LI):Option (Bool×LI):=
  (m_c5 c).bind fun a=>
  if (a.length:Int)=0 then
    some (false,[])
  else
    some (b,a)
def m_c7 (c:Int) (a:Int):Option (Bool×LI):=
  (m_c6 (decide (c < 0)) [wc .u32 (wand .u64 a 4294967295),wc .u32 (wsrc .u64 a 32)]).bind fun b=>
  some (b.1,b.2)
def m_c8 (a:Int):Option (Bool×LI):=
  if a < 0 then
    m_c7 a (wneg .u64 (wc .u64 a))
  else
    m_c7 a (wc .u64 a)
def m_c9 (a:Int):Option (Bool):=
  some (!(decide ((wand .u64 a 9223372036854775808)=0)))
def m_da (a:LI):Option (LI):=
  (app [] a).bind fun b=>
  some b
def m_db (b:Bool) (c:LI):Option (Bool×LI):=
  (m_da c).bind fun d=>
  (m_c6 (!(b)) d).bind fun a=>
  some (a.1,a.2)
def m_dc:Option (Bool×Bool×Int):=
  some (true,false,0)
def m_dd (b:Bool) (c:LI):Option (Bool×LI):=
  (m_da c).bind fun d=>
  (m_c6 b d).bind fun a=>
  some (a.1,a.2)
def m_de (a:Bool) (b:LI):Option (Int):=
  (m_c5 b).bind fun c=>
  if (c.length:Int)=0 then
    some 0
  else
    if a=true then
      some (-1)
    else
      some 1
def m_df (b:LI):Int→Option ((Int)⊕(Unit⊕Int)):=fun a=>
  if a < (b.length:Int) then
    (getI b a).bind fun c=>
    if c=0 then
      some (.inl (wa .i64 a 1))
    else
      (tz32 c).bind fun d=>
      some (.inr (.inr (wa .i64 (wm .i64 a 32) d)))
  else
    some (.inr (.inl ()))
def m_dg (c:Bool) (a:LI):Option (Int):=
  (loop (m_df a) 0).bind (fun o=>match o with
    | .inl ()=>
      some 0
    | .inr b=>
      some b)
def m_dh (a:LI):Option (Int):=
  if (a.length:Int)=0 then
    some 0
  else
    (getI a (ws .i64 (a.length:Int) 1)).bind fun b=>
    (m_be b).bind fun c=>
    some (wa .i64 (wm .i64 (ws .i64 (a.length:Int) 1) 32) c)
end M
