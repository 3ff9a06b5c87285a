/- Models of functions of the program, printed. -/
import Derived.Test.YtpfmbaidflhamaaGreatDoorM4
namespace M
open Sx
set_option linter.unusedVariables false
def sparseref07_Shape_l1 (a:LI):Int→Option ((Int)⊕(Unit⊕Unit)):=fun b=>
  if b < (a.length:Int) then
    (getI a b).bind fun c=>
    (getI a 0).bind fun d=>
    if c=d then
      some (.inl (wa .i64 b 1))
    else
      some (.inr (.inr ()))
  else
    some (.inr (.inl ()))
def sparseref07_Shape (a:LI):Option (Int):=
  (loop (sparseref07_Shape_l1 a) 0).bind (fun o=>match o with
    | .inl ()=>
      (if (200:Int) < (a.length:Int) then
        some true
      else
        (if (0:Int) < (a.length:Int) then
          (getI a 0).bind fun b=>
          some (decide ((200:Int) < b))
        else
          some false).bind fun c=>
        some c).bind fun d=>
      if d=true then
        some 6
      else
        some 0
    | .inr ()=>
      some 5)
def sparseref08_Cols (a:List (List (Bool×LI))):Option (Int):=
  if (a.length:Int)=0 then
    some 0
  else
    (getI a 0).bind fun b=>
    some (b.length:Int)
def sparseref08_Check_l1 (b:List (List (Bool×LI))):LI×Int→Option ((LI×Int)⊕(LI)):=fun (c,a)=>
  if a < (b.length:Int) then
    (getI b a).bind fun d=>
    (app c [(d.length:Int)]).bind fun e=>
    some (.inl (e,wa .i64 a 1))
  else
    some (.inr c)
def sparseref08_Check (a:List (List (Bool×LI))):Option (Int):=
  (loop (sparseref08_Check_l1 a) ([],0)).bind fun b=>
  (sparseref07_Shape b).bind fun c=>
  if c=5 then
    some 5
  else
    (if (16:Int) < (a.length:Int) then
      some true
    else
      (sparseref08_Cols a).bind fun d=>
      some (decide ((16:Int) < d))).bind fun e=>
    if e=true then
      some 6
    else
      some 0
def sparseref08_Transpose_l4 (b:List (List (Bool×LI))) (e:Int):(List (Bool×LI))×Int→Option (((List (Bool×LI))×Int)⊕(((List (Bool×LI))))):=fun (c,a)=>
  if a < (b.length:Int) then
    (getI b a).bind fun f=>
    (getI f e).bind fun d=>
    (app c [(d.1,d.2)]).bind fun g=>
    some (.inl (g,wa .i64 a 1))
  else
    some (.inr c)
def sparseref08_Transpose_l3 (b:List (List (Bool×LI))):(List (List (Bool×LI)))×Int→Option (((List (List (Bool×LI)))×Int)⊕(((List (List (Bool×LI)))))):=fun (c,a)=>
  (sparseref08_Cols b).bind fun d=>
  if a < d then
    (loop (sparseref08_Transpose_l4 b a) ([],0)).bind fun e=>
    (app c [e]).bind fun f=>
    some (.inl (f,wa .i64 a 1))
  else
    some (.inr c)
def sparseref08_Transpose (a:List (List (Bool×LI))):Option ((List (List (Bool×LI)))):=
  (loop (sparseref08_Transpose_l3 a) ([],0)).bind fun b=>
  some b
def sparseref01_mulMag_l4 (e:LI) (i:LI) (b:Int):LI×Int×Int→Option ((LI×Int×Int)⊕((LI×Int))):=fun (c,d,a)=>
  if a < (e.length:Int) then
    (getI i b).bind fun f=>
    (getI e a).bind fun g=>
    (getI c (wa .i64 b a)).bind fun h=>
    (setI c (wa .i64 b a) (wc .u32 (wa .u64 (wa .u64 d (wm .u64 (wc .u64 f) (wc .u64 g))) (wc .u64 h)))).bind fun j=>
    some (.inl (j,wsrc .u64 (wa .u64 (wa .u64 d (wm .u64 (wc .u64 f) (wc .u64 g))) (wc .u64 h)) 32,wa .i64 a 1))
  else
    some (.inr (c,d))
def sparseref01_mulMag_l3 (b:LI) (c:LI):LI×Int→Option ((LI×Int)⊕(LI)):=fun (d,a)=>
  if a < (b.length:Int) then
    (loop (sparseref01_mulMag_l4 c b a) (d,0,0)).bind fun (e,f)=>
    (setI e (wa .i64 a (c.length:Int)) (wc .u32 f)).bind fun g=>
    some (.inl (g,wa .i64 a 1))
  else
    some (.inr d)
def sparseref01_mulMag (a:LI) (b:LI):Option (LI):=
  (mkL 0 (wa .i64 (a.length:Int) (b.length:Int))).bind fun c=>
  (loop (sparseref01_mulMag_l3 a b) (c,0)).bind fun d=>
  some d
def sparseref01_Mul (b:Bool) (c:LI) (d:Bool) (e:LI):Option (Bool×LI):=
  (sparseref01_trim c).bind fun f=>
  (sparseref01_trim e).bind fun g=>
  (sparseref01_mulMag f g).bind fun h=>
  (sparseref01_make1 (!((b == d))) h).bind fun a=>
  some (a.1,a.2)
def sparseref01_addMag_j7 (b:LI) (c:Int) (a:Int):Option ((LI×Int×Int)⊕((LI×Int))):=
  (app b [wc .u32 a]).bind fun d=>
  some (.inl (d,wsrc .u64 a 32,wa .i64 c 1))
def sparseref01_addMag_j6 (a:Int) (b:LI) (c:LI) (d:Int):Option ((LI×Int×Int)⊕((LI×Int))):=
  if a < (b.length:Int) then
    (getI b a).bind fun e=>
    sparseref01_addMag_j7 c a (wa .u64 d (wc .u64 e))
  else
    sparseref01_addMag_j7 c a d
def sparseref01_addMag_l5 (b:LI) (c:LI):LI×Int×Int→Option ((LI×Int×Int)⊕((LI×Int))):=fun (d,e,a)=>
  if a < (imax (b.length:Int) (c.length:Int)) then
    if a < (b.length:Int) then
      (getI b a).bind fun f=>
      sparseref01_addMag_j6 a c d (wa .u64 e (wc .u64 f))
    else
      sparseref01_addMag_j6 a c d e
  else
    some (.inr (d,e))
def sparseref01_addMag (a:LI) (b:LI):Option (LI):=
  (loop (sparseref01_addMag_l5 a b) ([],0,0)).bind fun (c,d)=>
  (app c [wc .u32 d]).bind fun e=>
  some e
def sparseref01_cmpMag_l1 (b:LI) (c:LI):Int→Option ((Int)⊕(Unit⊕Int)):=fun a=>
  if (0:Int)≤a then
    (getI b a).bind fun d=>
    (getI c a).bind fun e=>
    if d=e then
      some (.inl (ws .i64 a 1))
    else
      (getI b a).bind fun f=>
      (getI c a).bind fun g=>
      if f < g then
        some (.inr (.inr (-1)))
      else
        some (.inr (.inr 1))
  else
    some (.inr (.inl ()))
def sparseref01_cmpMag (a:LI) (b:LI):Option (Int):=
  if (a.length:Int)=(b.length:Int) then
    (loop (sparseref01_cmpMag_l1 a b) (ws .i64 (a.length:Int) 1)).bind (fun o=>match o with
      | .inl ()=>
        some 0
      | .inr c=>
        some c)
  else
    if (a.length:Int) < (b.length:Int) then
      some (-1)
    else
      some 1
def sparseref01_subMag_j4 (b:LI) (c:Int) (a:Int):Option ((LI×Int×Int)⊕(LI)):=
  (app b [wc .u32 a]).bind fun d=>
  some (.inl (d,wsrc .u64 a 63,wa .i64 c 1))
def sparseref01_subMag_l3 (c:LI) (d:LI):LI×Int×Int→Option ((LI×Int×Int)⊕(LI)):=fun (b,e,a)=>
  if a < (c.length:Int) then
    (getI c a).bind fun f=>
    if a < (d.length:Int) then
      (getI d a).bind fun g=>
      sparseref01_subMag_j4 b a (ws .u64 (ws .u64 (wc .u64 f) e) (wc .u64 g))
    else
      sparseref01_subMag_j4 b a (ws .u64 (wc .u64 f) e)
  else
    some (.inr b)
def sparseref01_subMag (a:LI) (b:LI):Option (LI):=
  (loop (sparseref01_subMag_l3 a b) ([],0,0)).bind fun c=>
  some c
def sparseref01_Add (c:Bool) (h:LI) (d:Bool) (i:LI):Option (Bool×LI):=
  (sparseref01_trim h).bind fun a=>
  (sparseref01_trim i).bind fun b=>
  if (c == d)=true then
    (sparseref01_addMag a b).bind fun j=>
    (sparseref01_make1 c j).bind fun e=>
    some (e.1,e.2)
  else
    (sparseref01_cmpMag a b).bind fun k=>
    if (0:Int)≤k then
      (sparseref01_subMag a b).bind fun l=>
      (sparseref01_make1 c l).bind fun f=>
      some (f.1,f.2)
    else
      (sparseref01_subMag b a).bind fun m=>
      (sparseref01_make1 d m).bind fun g=>
      some (g.1,g.2)
def sparseref08_Dot_l1 (b:List (Bool×LI)) (i:List (Bool×LI)):Bool×LI×Int→Option ((Bool×LI×Int)⊕((Bool×LI))):=fun (c,d,a)=>
  if a < (b.length:Int) then
    (getI b a).bind fun e=>
    (getI i a).bind fun f=>
    (sparseref01_Mul e.1 e.2 f.1 f.2).bind fun g=>
    (sparseref01_Add c d g.1 g.2).bind fun h=>
    some (.inl (h.1,h.2,wa .i64 a 1))
  else
    some (.inr (c,d))
def sparseref08_Dot (a:List (Bool×LI)) (b:List (Bool×LI)):Option (Bool×LI):=
  (loop (sparseref08_Dot_l1 a b) (false,[],0)).bind fun (c,d)=>
  some (c,d)
def sparseref08_Times_l1 (b:List (List (Bool×LI))) (e:List (Bool×LI)):(List (Bool×LI))×Int→Option (((List (Bool×LI))×Int)⊕(((List (Bool×LI))))):=fun (c,a)=>
  if a < (b.length:Int) then
    (getI b a).bind fun f=>
    (sparseref08_Dot f e).bind fun d=>
    (app c [(d.1,d.2)]).bind fun g=>
    some (.inl (g,wa .i64 a 1))
  else
    some (.inr c)
def sparseref08_Times (a:List (List (Bool×LI))) (b:List (Bool×LI)):Option ((List (Bool×LI))):=
  (loop (sparseref08_Times_l1 a b) ([],0)).bind fun c=>
  some c
def sparseref08_Product_l1 (b:List (List (Bool×LI))) (d:(List (List (Bool×LI)))):(List (List (Bool×LI)))×Int→Option (((List (List (Bool×LI)))×Int)⊕(((List (List (Bool×LI)))))):=fun (c,a)=>
  if a < (b.length:Int) then
    (getI b a).bind fun e=>
    (sparseref08_Times d e).bind fun f=>
    (app c [f]).bind fun g=>
    some (.inl (g,wa .i64 a 1))
  else
    some (.inr c)
def sparseref08_Product (a:List (List (Bool×LI))) (b:List (List (Bool×LI))):Option ((List (List (Bool×LI)))):=
  (sparseref08_Transpose b).bind fun c=>
  (loop (sparseref08_Product_l1 a c) ([],0)).bind fun d=>
  some d
def sparseref01_Norm (b:Bool) (c:LI):Option (Bool×LI):=
  (sparseref01_make1 b c).bind fun a=>
  some (a.1,a.2)
end M
