/- Models of functions of the program, printed. -/
import Derived.Test.YtpfmbaidflhamaaDoorM0
namespace M
open Sx
set_option linter.unusedVariables false
def exact_twin_j7 (a:List (List (Bool×LI))) (b:Int) (c:List (Bool×LI)):Option (((List (List (Bool×LI)))×Int)⊕(((List (List (Bool×LI)))))):=
  (app a [c]).bind fun d=>
  some (.inl (d,wa .i64 b 1))
def exact_twin_l6 (b:List (Bool×LI)):(List (Bool×LI))×Int→Option (((List (Bool×LI))×Int)⊕(((List (Bool×LI))))):=fun (c,a)=>
  if a < (b.length:Int) then
    (getI b a).bind fun d=>
    (integer_Norm d.1 d.2).bind fun e=>
    (app c [(e.1,e.2)]).bind fun f=>
    some (.inl (f,wa .i64 a 1))
  else
    some (.inr c)
def exact_twin_l5 (c:List (List (Bool×LI))) (d:List (Bool×LI)):(List (List (Bool×LI)))×Int→Option (((List (List (Bool×LI)))×Int)⊕(((List (List (Bool×LI)))))):=fun (b,a)=>
  if a < (c.length:Int) then
    (getI c a).bind fun h=>
    (loop (exact_twin_l6 h) ([],0)).bind fun e=>
    if a < (d.length:Int) then
      (getI d a).bind fun f=>
      (integer_Norm f.1 f.2).bind fun g=>
      (app e [(g.1,g.2)]).bind fun i=>
      exact_twin_j7 b a i
    else
      exact_twin_j7 b a e
  else
    some (.inr b)
def exact_twin (a:List (List (Bool×LI))) (b:List (Bool×LI)):Option ((List (List (Bool×LI)))):=
  (loop (exact_twin_l5 a b) ([],0)).bind fun c=>
  some c
def integer_FromInt_j1 (c:Int) (a:Int):Option (Bool×LI):=
  (integer_big (decide (c < 0)) [wc .u32 (wand .u64 a 4294967295),wc .u32 (wsrc .u64 a 32)]).bind fun b=>
  some (b.1,b.2)
def integer_FromInt (a:Int):Option (Bool×LI):=
  if a < 0 then
    integer_FromInt_j1 a (wneg .u64 (wc .u64 a))
  else
    integer_FromInt_j1 a (wc .u64 a)
def integer_Sign (a:Bool) (b:LI):Option (Int):=
  (integer_trim b).bind fun c=>
  if (c.length:Int)=0 then
    some 0
  else
    if a=true then
      some (-1)
    else
      some 1
def integer_times_l5 (d:LI) (e:Int) (f:Int):LI×Int×Int→Option ((LI×Int×Int)⊕((LI×Int))):=fun (b,c,a)=>
  if a < (d.length:Int) then
    (getI d a).bind fun g=>
    (getI b (wa .i64 e a)).bind fun h=>
    (setI b (wa .i64 e a) (wc .u32 (wand .u64 (wa .u64 (wa .u64 (wm .u64 (wc .u64 f) (wc .u64 g)) (wc .u64 h)) c) 4294967295))).bind fun i=>
    some (.inl (i,wsrc .u64 (wa .u64 (wa .u64 (wm .u64 (wc .u64 f) (wc .u64 g)) (wc .u64 h)) c) 32,wa .i64 a 1))
  else
    some (.inr (b,c))
def integer_times_l4 (b:LI) (c:LI):LI×Int→Option ((LI×Int)⊕(LI)):=fun (d,a)=>
  if a < (b.length:Int) then
    (getI b a).bind fun e=>
    (loop (integer_times_l5 c a e) (d,0,0)).bind fun (f,g)=>
    (setI f (wa .i64 a (c.length:Int)) (wc .u32 g)).bind fun h=>
    some (.inl (h,wa .i64 a 1))
  else
    some (.inr d)
def integer_times (a:LI) (b:LI):Option (LI):=
  if ((decide ((a.length:Int)=0)) || (decide ((b.length:Int)=0)))=true then
    some []
  else
    (mkL 0 (wa .i64 (a.length:Int) (b.length:Int))).bind fun c=>
    (loop (integer_times_l4 a b) (c,0)).bind fun d=>
    (integer_trim d).bind fun e=>
    some e
def integer_Mul (b:Bool) (c:LI) (d:Bool) (e:LI):Option (Bool×LI):=
  (integer_trim c).bind fun f=>
  (integer_trim e).bind fun g=>
  (integer_times f g).bind fun h=>
  (integer_big (!((b == d))) h).bind fun a=>
  some (a.1,a.2)
def integer_plus_j5 (b:LI) (c:Int) (a:Int):Option ((LI×Int×Int)⊕((LI×Int))):=
  (app b [wc .u32 (wand .u64 a 4294967295)]).bind fun d=>
  some (.inl (d,wsrc .u64 a 32,wa .i64 c 1))
def integer_plus_l4 (d:LI) (e:LI):LI×Int×Int→Option ((LI×Int×Int)⊕((LI×Int))):=fun (b,c,a)=>
  if a < (d.length:Int) then
    (getI d a).bind fun f=>
    if a < (e.length:Int) then
      (getI e a).bind fun g=>
      integer_plus_j5 b a (wa .u64 (wa .u64 (wc .u64 f) c) (wc .u64 g))
    else
      integer_plus_j5 b a (wa .u64 (wc .u64 f) c)
  else
    some (.inr (b,c))
def integer_plus_j1 (a:LI) (b:LI):Option (LI):=
  (mkLc 0 0 (wa .i64 (a.length:Int) 1)).bind fun c=>
  (loop (integer_plus_l4 a b) (c,0,0)).bind fun (d,e)=>
  (app d [wc .u32 e]).bind fun f=>
  (integer_trim f).bind fun g=>
  some g
def integer_plus (a:LI) (b:LI):Option (LI):=
  if (a.length:Int) < (b.length:Int) then
    integer_plus_j1 b a
  else
    integer_plus_j1 a b
def cmp_isNaN_uint32 (a:Int):Option (Bool):=
  some (!(decide (a=a)))
def cmp_Compare_uint32 (a:Int) (b:Int):Option (Int):=
  (cmp_isNaN_uint32 a).bind fun d=>
  (cmp_isNaN_uint32 b).bind fun c=>
  if d=true then
    if c=true then
      some 0
    else
      some (-1)
  else
    if c=true then
      some 1
    else
      if a < b then
        some (-1)
      else
        if b < a then
          some 1
        else
          some 0
def cmp_isNaN_int (a:Int):Option (Bool):=
  some (!(decide (a=a)))
def cmp_Compare_int (a:Int) (b:Int):Option (Int):=
  (cmp_isNaN_int a).bind fun d=>
  (cmp_isNaN_int b).bind fun c=>
  if d=true then
    if c=true then
      some 0
    else
      some (-1)
  else
    if c=true then
      some 1
    else
      if a < b then
        some (-1)
      else
        if b < a then
          some 1
        else
          some 0
def integer_compare_l1 (b:LI) (c:LI):Int→Option ((Int)⊕(Unit⊕Int)):=fun a=>
  if (0:Int)≤a then
    (getI b a).bind fun d=>
    (getI c a).bind fun e=>
    if d=e then
      some (.inl (ws .i64 a 1))
    else
      (getI b a).bind fun f=>
      (getI c a).bind fun g=>
      (cmp_Compare_uint32 f g).bind fun h=>
      some (.inr (.inr h))
  else
    some (.inr (.inl ()))
def integer_compare (a:LI) (b:LI):Option (Int):=
  if (a.length:Int)=(b.length:Int) then
    (loop (integer_compare_l1 a b) (ws .i64 (a.length:Int) 1)).bind (fun o=>match o with
      | .inl ()=>
        some 0
      | .inr c=>
        some c)
  else
    (cmp_Compare_int (a.length:Int) (b.length:Int)).bind fun d=>
    some d
def integer_minus_j4 (c:LI) (a:Int) (b:Int):Option ((LI×Int×Int)⊕(LI)):=
  (setI c a (wc .u32 (wand .u64 b 4294967295))).bind fun d=>
  some (.inl (d,wand .u64 (wsrc .u64 b 32) 1,wa .i64 a 1))
def integer_minus_l3 (c:LI) (d:LI):LI×Int×Int→Option ((LI×Int×Int)⊕(LI)):=fun (b,e,a)=>
  if a < (c.length:Int) then
    (getI c a).bind fun f=>
    if a < (d.length:Int) then
      (getI d a).bind fun g=>
      integer_minus_j4 b a (ws .u64 (ws .u64 (wc .u64 f) e) (wc .u64 g))
    else
      integer_minus_j4 b a (ws .u64 (wc .u64 f) e)
  else
    some (.inr b)
def integer_minus (a:LI) (b:LI):Option (LI):=
  (mkL 0 (a.length:Int)).bind fun c=>
  (loop (integer_minus_l3 a b) (c,0,0)).bind fun d=>
  (integer_trim d).bind fun e=>
  some e
def integer_Add (c:Bool) (h:LI) (d:Bool) (i:LI):Option (Bool×LI):=
  (integer_trim h).bind fun a=>
  (integer_trim i).bind fun b=>
  if (c == d)=true then
    (integer_plus a b).bind fun j=>
    (integer_big c j).bind fun e=>
    some (e.1,e.2)
  else
    (integer_compare a b).bind fun k=>
    if (0:Int)≤k then
      (integer_minus a b).bind fun l=>
      (integer_big c l).bind fun f=>
      some (f.1,f.2)
    else
      (integer_minus b a).bind fun m=>
      (integer_big d m).bind fun g=>
      some (g.1,g.2)
def integer_Sub (b:Bool) (c:LI) (d:Bool) (e:LI):Option (Bool×LI):=
  (integer_Add b c (!(d)) e).bind fun a=>
  some (a.1,a.2)
end M
