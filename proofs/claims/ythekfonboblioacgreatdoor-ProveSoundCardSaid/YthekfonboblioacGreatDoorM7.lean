/- Models of functions of the program, printed. -/
import Derived.Test.YthekfonboblioacGreatDoorM6
namespace M
open Sx
set_option linter.unusedVariables false
def m_f2 (b:Bool) (c:LI):Option (Bool×LI):=
  (m_f1 c).bind fun a=>
  if (a.length:Int)=0 then
    some (false,[])
  else
    some (b,a)
def m_f3 (c:Int) (a:Int):Option (Bool×LI):=
  (m_f2 (decide (c < 0)) [wc .u32 (wand .u64 a 4294967295),wc .u32 (wsrc .u64 a 32)]).bind fun b=>
  some (b.1,b.2)
def m_f4 (a:Int):Option (Bool×LI):=
  if a < 0 then
    m_f3 a (wneg .u64 (wc .u64 a))
  else
    m_f3 a (wc .u64 a)
def m_f5 (a:Int):Option (Bool):=
  some (!(decide ((wand .u64 a 9223372036854775808)=0)))
def m_f6 (a:LI):Option (LI):=
  (app [] a).bind fun b=>
  some b
def m_f7 (b:Bool) (c:LI):Option (Bool×LI):=
  (m_f6 c).bind fun d=>
  (m_f2 (!(b)) d).bind fun a=>
  some (a.1,a.2)
def m_f8:Option (Bool×Bool×Int):=
  some (true,false,0)
def m_f9 (b:Bool) (c:LI):Option (Bool×LI):=
  (m_f6 c).bind fun d=>
  (m_f2 b d).bind fun a=>
  some (a.1,a.2)
def m_ga (a:Bool) (b:LI):Option (Int):=
  (m_f1 b).bind fun c=>
  if (c.length:Int)=0 then
    some 0
  else
    if a=true then
      some (-1)
    else
      some 1
def m_gb (b:LI):Int→Option ((Int)⊕(Unit⊕Int)):=fun a=>
  if a < (b.length:Int) then
    (getI b a).bind fun c=>
    if c=0 then
      some (.inl (wa .i64 a 1))
    else
      (tz32 c).bind fun d=>
      some (.inr (.inr (wa .i64 (wm .i64 a 32) d)))
  else
    some (.inr (.inl ()))
def m_gc (c:Bool) (a:LI):Option (Int):=
  (loop (m_gb a) 0).bind (fun o=>match o with
    | .inl ()=>
      some 0
    | .inr b=>
      some b)
def m_gd (a:LI):Option (Int):=
  if (a.length:Int)=0 then
    some 0
  else
    (getI a (ws .i64 (a.length:Int) 1)).bind fun b=>
    (m_be b).bind fun c=>
    some (wa .i64 (wm .i64 (ws .i64 (a.length:Int) 1) 32) c)
def m_ge (d:Bool) (a:LI):Option (Int):=
  (m_f1 a).bind fun b=>
  (m_gd b).bind fun c=>
  some c
def m_gf (d:LI) (b:Int):LI×Int→Option ((LI×Int)⊕(LI)):=fun (c,a)=>
  if a < (d.length:Int) then
    (getI d a).bind fun f=>
    (wshl .u64 (wc .u64 f) (wc .u64 (wrc b 32))).bind fun e=>
    (getI c (wa .i64 (wqc .i64 b 32) a)).bind fun g=>
    (setI c (wa .i64 (wqc .i64 b 32) a) (wor .u32 g (wc .u32 (wand .u64 e 4294967295)))).bind fun h=>
    (setI h (wa .i64 (wa .i64 (wqc .i64 b 32) a) 1) (wc .u32 (wsrc .u64 e 32))).bind fun i=>
    some (.inl (i,wa .i64 a 1))
  else
    some (.inr c)
def m_gg (a:LI) (b:Int):Option (LI):=
  if (a.length:Int)=0 then
    some []
  else
    (mkL 0 (wa .i64 (wa .i64 (wqc .i64 b 32) (a.length:Int)) 1)).bind fun c=>
    (loop (m_gf a b) (c,0)).bind fun d=>
    (m_f1 d).bind fun e=>
    some e
def m_gh (a:Int):Option (Bool):=
  some (!(decide (a=0)))
def m_gi (b:LI):Int→Option ((Int)⊕(Unit⊕Int)):=fun a=>
  if a < (b.length:Int) then
    (getI b a).bind fun c=>
    (m_gh c).bind fun d=>
    if d=true then
      some (.inr (.inr a))
    else
      some (.inl (wa .i64 a 1))
  else
    some (.inr (.inl ()))
def m_gj (a:LI):Option (Int):=
  (loop (m_gi a) 0).bind (fun o=>match o with
    | .inl ()=>
      some (-1)
    | .inr b=>
      some b)
end M
