/- Models of functions of the program, printed. -/
import Derived.Test.YthekfonboblioabGreatDoorM7
namespace M
open Sx
set_option linter.unusedVariables false
def m_fz (b:Bool) (c:LI) (a:Int):Option (Int×Int):=
  (m_fs a).bind fun d=>
  if d=true then
    (m_fy b c a).bind fun e=>
    some (e,0)
  else
    some (0,70)
def m_f0 (c:List (Bool×LI)) (f:Int) (d:Int):L2×Int→Option ((L2×Int)⊕(L2)):=fun (a,b)=>
  if b < (c.length:Int) then
    (getI c b).bind fun e=>
    (m_fz e.1 e.2 f).bind fun g=>
    (getI a d).bind fun h=>
    (app h [g.1]).bind fun i=>
    (setI a d i).bind fun j=>
    some (.inl (j,wa .i64 b 1))
  else
    some (.inr a)
def m_f1 (b:List (List (Bool×LI))) (d:Int):L2×Int→Option ((L2×Int)⊕(L2)):=fun (c,a)=>
  if a < (b.length:Int) then
    (getI b a).bind fun e=>
    (loop (m_f0 e d a) (c,0)).bind fun f=>
    some (.inl (f,wa .i64 a 1))
  else
    some (.inr c)
def m_f2 (a:List (List (Bool×LI))) (b:Int):Option (L2):=
  (mkL ([]:LI) (a.length:Int)).bind fun c=>
  (loop (m_f1 a b) (c,0)).bind fun d=>
  some d
def m_f3 (a:L2):Option (Unit):=
  some ()
def m_f4 (a:L2):Option (Int):=
  if (a.length:Int)=0 then
    some 0
  else
    (getI a 0).bind fun b=>
    some (b.length:Int)
def m_f5 (a:LI) (b:Int):Option (Bool):=
  some (!(decide ((a.length:Int)=b)))
def m_f6 (b:L2) (c:Int):Int→Option ((Int)⊕(Unit⊕Int)):=fun a=>
  if a < (b.length:Int) then
    (getI b a).bind fun d=>
    (m_f5 d c).bind fun e=>
    if e=true then
      some (.inr (.inr a))
    else
      some (.inl (wa .i64 a 1))
  else
    some (.inr (.inl ()))
def m_f7 (a:L2) (b:Int):Option (Int):=
  (loop (m_f6 a b) 0).bind (fun o=>match o with
    | .inl ()=>
      some (-1)
    | .inr c=>
      some c)
def m_f8 (a:L2) (b:Int):Option (Bool):=
  (m_f7 a b).bind fun c=>
  some (decide ((0:Int)≤c))
def m_f9 (a:L2) (c:Int):Option (Int):=
  (m_f4 a).bind fun b=>
  (m_fs c).bind fun d=>
  if d=true then
    (m_f8 a b).bind fun e=>
    if e=true then
      some 5
    else
      if ((decide ((200:Int) < (a.length:Int))) || (decide ((200:Int) < b)))=true then
        some 6
      else
        some 0
  else
    some 70
def m_ga (a:Int):Option (Int):=
  some a
def m_gb (c:Int) (b:Int):Option (Int):=
  (wr c b).bind fun a=>
  if a < 0 then
    m_ga (wa .i64 a b)
  else
    m_ga a
def m_gc (b:LI) (d:Int):LI×Int→Option ((LI×Int)⊕(LI)):=fun (c,a)=>
  if a < (b.length:Int) then
    (getI b a).bind fun e=>
    (m_gb e d).bind fun f=>
    (app c [f]).bind fun g=>
    some (.inl (g,wa .i64 a 1))
  else
    some (.inr c)
def m_gd (b:L2) (d:Int):L2×Int→Option ((L2×Int)⊕(L2)):=fun (c,a)=>
  if a < (b.length:Int) then
    (getI b a).bind fun e=>
    (loop (m_gc e d) ([],0)).bind fun f=>
    (app c [f]).bind fun g=>
    some (.inl (g,wa .i64 a 1))
  else
    some (.inr c)
def m_ge (a:L2) (b:Int):Option (L2):=
  (loop (m_gd a b) ([],0)).bind fun c=>
  some c
def m_gf (a:LI) (b:Int):Option (Bool):=
  (getI a b).bind fun c=>
  some (!(decide (c=0)))
def m_gg (b:L2) (c:Int):Int→Option ((Int)⊕(Unit⊕Int)):=fun a=>
  if a < (b.length:Int) then
    (getI b a).bind fun d=>
    (m_gf d c).bind fun e=>
    if e=true then
      some (.inr (.inr a))
    else
      some (.inl (wa .i64 a 1))
  else
    some (.inr (.inl ()))
def m_gh (a:L2) (b:Int):Option (Int):=
  (loop (m_gg a b) 0).bind (fun o=>match o with
    | .inl ()=>
      some (-1)
    | .inr c=>
      some c)
def m_gi (a:Int) (b:Int) (c:Int) (d:Int):Option ((Int×Int×Int)⊕(Int)):=
  (wr (wm .i64 a a) b).bind fun e=>
  some (.inl (e,wqc .i64 c 2,d))
def m_gj (b:Int):Int×Int×Int→Option ((Int×Int×Int)⊕(Int)):=fun (c,a,d)=>
  if (0:Int) < a then
    if (wrc a 2)=1 then
      (wr (wm .i64 d c) b).bind fun e=>
      m_gi c b a e
    else
      m_gi c b a d
  else
    some (.inr d)
def m_gk (a:Int) (b:Int) (c:Int):Option (Int):=
  (loop (m_gj c) (a,b,1)).bind fun d=>
  some d
def m_gl (b:Int) (a:Int):Option (Int):=
  (m_gk b (ws .i64 a 2) a).bind fun c=>
  some c
end M
