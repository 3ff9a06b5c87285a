/- Models of functions of the program, printed. -/
import Derived.Test.YtpfmbaidflhamaaGreatDoorM3
namespace M
open Sx
set_option linter.unusedVariables false
def sparsekit_Bigs_l1 (b:List (Bool×LI)) (e:List (Bool×LI)):Int→Option ((Int)⊕(Unit⊕Unit)):=fun a=>
  if a < (b.length:Int) then
    (getI b a).bind fun c=>
    (getI e a).bind fun d=>
    (sparsekit_Big c.1 c.2 d.1 d.2).bind fun f=>
    if f=true then
      some (.inl (wa .i64 a 1))
    else
      some (.inr (.inr ()))
  else
    some (.inr (.inl ()))
def sparsekit_Bigs (a:List (Bool×LI)) (b:List (Bool×LI)):Option (Bool):=
  if (a.length:Int)=(b.length:Int) then
    (loop (sparsekit_Bigs_l1 a b) 0).bind (fun o=>match o with
      | .inl ()=>
        some true
      | .inr ()=>
        some false)
  else
    some false
def sparsekit_Rows_l1 (b:List (List (Bool×LI))) (c:List (List (Bool×LI))):Int→Option ((Int)⊕(Unit⊕Unit)):=fun a=>
  if a < (b.length:Int) then
    (getI b a).bind fun d=>
    (getI c a).bind fun e=>
    (sparsekit_Bigs d e).bind fun f=>
    if f=true then
      some (.inl (wa .i64 a 1))
    else
      some (.inr (.inr ()))
  else
    some (.inr (.inl ()))
def sparsekit_Rows (a:List (List (Bool×LI))) (b:List (List (Bool×LI))):Option (Bool):=
  if (a.length:Int)=(b.length:Int) then
    (loop (sparsekit_Rows_l1 a b) 0).bind (fun o=>match o with
      | .inl ()=>
        some true
      | .inr ()=>
        some false)
  else
    some false
def sparseref07_Shape_l1 (a:LI):Int→Option ((Int)⊕(Unit⊕Unit)):=fun b=>
  if b < (a.length:Int) then
    (getI a b).bind fun c=>
    (getI a 0).bind fun d=>
    if c=d then
      some (.inl (wa .i64 b 1))
    else
      some (.inr (.inr ()))
  else
    some (.inr (.inl ()))
def sparseref07_Shape (a:LI):Option (Int):=
  (loop (sparseref07_Shape_l1 a) 0).bind (fun o=>match o with
    | .inl ()=>
      (if (200:Int) < (a.length:Int) then
        some true
      else
        (if (0:Int) < (a.length:Int) then
          (getI a 0).bind fun b=>
          some (decide ((200:Int) < b))
        else
          some false).bind fun c=>
        some c).bind fun d=>
      if d=true then
        some 6
      else
        some 0
    | .inr ()=>
      some 5)
def sparseref08_Cols (a:List (List (Bool×LI))):Option (Int):=
  if (a.length:Int)=0 then
    some 0
  else
    (getI a 0).bind fun b=>
    some (b.length:Int)
def sparseref08_Check_l1 (b:List (List (Bool×LI))):LI×Int→Option ((LI×Int)⊕(LI)):=fun (c,a)=>
  if a < (b.length:Int) then
    (getI b a).bind fun d=>
    (app c [(d.length:Int)]).bind fun e=>
    some (.inl (e,wa .i64 a 1))
  else
    some (.inr c)
def sparseref08_Check (a:List (List (Bool×LI))):Option (Int):=
  (loop (sparseref08_Check_l1 a) ([],0)).bind fun b=>
  (sparseref07_Shape b).bind fun c=>
  if c=5 then
    some 5
  else
    (if (16:Int) < (a.length:Int) then
      some true
    else
      (sparseref08_Cols a).bind fun d=>
      some (decide ((16:Int) < d))).bind fun e=>
    if e=true then
      some 6
    else
      some 0
def sparseref01_trim_l4 (c:Int) (d:LI):LI×Int→Option ((LI×Int)⊕(LI)):=fun (b,a)=>
  if a < c then
    (getI d a).bind fun e=>
    (app b [e]).bind fun f=>
    some (.inl (f,wa .i64 a 1))
  else
    some (.inr b)
def sparseref01_trim_l3 (b:LI):Int→Option ((Int)⊕(Int)):=fun a=>
  (if (0:Int) < a then
    (getI b (ws .i64 a 1)).bind fun c=>
    some (decide (c=0))
  else
    some false).bind fun d=>
  if d=true then
    some (.inl (ws .i64 a 1))
  else
    some (.inr a)
def sparseref01_trim (a:LI):Option (LI):=
  (loop (sparseref01_trim_l3 a) (a.length:Int)).bind fun b=>
  (loop (sparseref01_trim_l4 b a) ([],0)).bind fun c=>
  some c
def sparseref01_make1 (b:Bool) (c:LI):Option (Bool×LI):=
  (sparseref01_trim c).bind fun a=>
  some ((b && (decide ((0:Int) < (a.length:Int)))),a)
def sparseref01_Norm (b:Bool) (c:LI):Option (Bool×LI):=
  (sparseref01_make1 b c).bind fun a=>
  some (a.1,a.2)
def sparseref01_FromInt_j1 (c:Int) (a:Int):Option (Bool×LI):=
  (sparseref01_make1 (decide (c < 0)) [wc .u32 a,wc .u32 (wsrc .u64 a 32)]).bind fun b=>
  some (b.1,b.2)
def sparseref01_FromInt (a:Int):Option (Bool×LI):=
  if a < 0 then
    sparseref01_FromInt_j1 a (wa .u64 (wc .u64 (wneg .i64 (wa .i64 a 1))) 1)
  else
    sparseref01_FromInt_j1 a (wc .u64 a)
def sparseref08_fracs_l4 (b:List (List (Bool×LI))) (c:Int):(List (Bool×LI×Bool×LI))×Int→Option (((List (Bool×LI×Bool×LI))×Int)⊕(((List (Bool×LI×Bool×LI))))):=fun (d,a)=>
  (getI b c).bind fun h=>
  if a < (h.length:Int) then
    (getI b c).bind fun i=>
    (getI i a).bind fun e=>
    (sparseref01_Norm e.1 e.2).bind fun f=>
    (sparseref01_FromInt 1).bind fun g=>
    (app d [(f.1,f.2,g.1,g.2)]).bind fun j=>
    some (.inl (j,wa .i64 a 1))
  else
    some (.inr d)
def sparseref08_fracs_l3 (b:List (List (Bool×LI))):(List (List (Bool×LI×Bool×LI)))×Int→Option (((List (List (Bool×LI×Bool×LI)))×Int)⊕(((List (List (Bool×LI×Bool×LI)))))):=fun (c,a)=>
  if a < (b.length:Int) then
    (loop (sparseref08_fracs_l4 b a) ([],0)).bind fun d=>
    (app c [d]).bind fun e=>
    some (.inl (e,wa .i64 a 1))
  else
    some (.inr c)
def sparseref08_fracs (a:List (List (Bool×LI))):Option ((List (List (Bool×LI×Bool×LI)))):=
  (loop (sparseref08_fracs_l3 a) ([],0)).bind fun b=>
  some b
def sparseref01_Sign (b:Bool) (c:LI):Option (Int):=
  (sparseref01_Norm b c).bind fun a=>
  if (a.2.length:Int)=0 then
    some 0
  else
    if a.1=true then
      some (-1)
    else
      some 1
def sparseref08_zero (a:Bool) (b:LI) (d:Bool) (e:LI):Option (Bool):=
  (sparseref01_Sign a b).bind fun c=>
  some (decide (c=0))
def sparseref01_Neg (b:Bool) (c:LI):Option (Bool×LI):=
  (sparseref01_make1 (!(b)) c).bind fun a=>
  some (a.1,a.2)
def sparseref01_mulMag_l4 (e:LI) (i:LI) (b:Int):LI×Int×Int→Option ((LI×Int×Int)⊕((LI×Int))):=fun (c,d,a)=>
  if a < (e.length:Int) then
    (getI i b).bind fun f=>
    (getI e a).bind fun g=>
    (getI c (wa .i64 b a)).bind fun h=>
    (setI c (wa .i64 b a) (wc .u32 (wa .u64 (wa .u64 d (wm .u64 (wc .u64 f) (wc .u64 g))) (wc .u64 h)))).bind fun j=>
    some (.inl (j,wsrc .u64 (wa .u64 (wa .u64 d (wm .u64 (wc .u64 f) (wc .u64 g))) (wc .u64 h)) 32,wa .i64 a 1))
  else
    some (.inr (c,d))
def sparseref01_mulMag_l3 (b:LI) (c:LI):LI×Int→Option ((LI×Int)⊕(LI)):=fun (d,a)=>
  if a < (b.length:Int) then
    (loop (sparseref01_mulMag_l4 c b a) (d,0,0)).bind fun (e,f)=>
    (setI e (wa .i64 a (c.length:Int)) (wc .u32 f)).bind fun g=>
    some (.inl (g,wa .i64 a 1))
  else
    some (.inr d)
def sparseref01_mulMag (a:LI) (b:LI):Option (LI):=
  (mkL 0 (wa .i64 (a.length:Int) (b.length:Int))).bind fun c=>
  (loop (sparseref01_mulMag_l3 a b) (c,0)).bind fun d=>
  some d
end M
