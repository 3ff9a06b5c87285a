/- Models of functions of the program, printed. -/
import Derived.Test.YtpfmbaidflhamaaDoorTm
namespace M
open Sx
set_option linter.unusedVariables false
def sparseref01_trim_l4 (c:Int) (d:LI):LI×Int→Option ((LI×Int)⊕(LI)):=fun (b,a)=>
  if a < c then
    (getI d a).bind fun e=>
    (app b [e]).bind fun f=>
    some (.inl (f,wa .i64 a 1))
  else
    some (.inr b)
def sparseref01_trim_l3 (b:LI):Int→Option ((Int)⊕(Int)):=fun a=>
  (if (0:Int) < a then
    (getI b (ws .i64 a 1)).bind fun c=>
    some (decide (c=0))
  else
    some false).bind fun d=>
  if d=true then
    some (.inl (ws .i64 a 1))
  else
    some (.inr a)
def sparseref01_trim (a:LI):Option (LI):=
  (loop (sparseref01_trim_l3 a) (a.length:Int)).bind fun b=>
  (loop (sparseref01_trim_l4 b a) ([],0)).bind fun c=>
  some c
def sparseref01_make1 (b:Bool) (c:LI):Option (Bool×LI):=
  (sparseref01_trim c).bind fun a=>
  some ((b && (decide ((0:Int) < (a.length:Int)))),a)
def sparseref01_FromInt_j1 (c:Int) (a:Int):Option (Bool×LI):=
  (sparseref01_make1 (decide (c < 0)) [wc .u32 a,wc .u32 (wsrc .u64 a 32)]).bind fun b=>
  some (b.1,b.2)
def sparseref01_FromInt (a:Int):Option (Bool×LI):=
  if a < 0 then
    sparseref01_FromInt_j1 a (wa .u64 (wc .u64 (wneg .i64 (wa .i64 a 1))) 1)
  else
    sparseref01_FromInt_j1 a (wc .u64 a)
def sparselaw08_num (b:Int):Option (Bool×LI):=
  (sparseref01_FromInt b).bind fun a=>
  some (a.1,a.2)
def exact_columns (a:List (List (Bool×LI))):Option (Int):=
  if (a.length:Int)=0 then
    some 0
  else
    (getI a 0).bind fun b=>
    some (b.length:Int)
def exact_check_1 (a:List (Bool×LI)) (b:Int):Option (Bool):=
  some (!(decide ((a.length:Int)=b)))
def slices_IndexFunc_apiBig_l1 (b:List (List (Bool×LI))) (c:Int):Int→Option ((Int)⊕(Unit⊕Int)):=fun a=>
  if a < (b.length:Int) then
    (getI b a).bind fun d=>
    (exact_check_1 d c).bind fun e=>
    if e=true then
      some (.inr (.inr a))
    else
      some (.inl (wa .i64 a 1))
  else
    some (.inr (.inl ()))
def slices_IndexFunc_apiBig (a:List (List (Bool×LI))) (b:Int):Option (Int):=
  (loop (slices_IndexFunc_apiBig_l1 a b) 0).bind (fun o=>match o with
    | .inl ()=>
      some (-1)
    | .inr c=>
      some c)
def slices_ContainsFunc_apiBig (a:List (List (Bool×LI))) (b:Int):Option (Bool):=
  (slices_IndexFunc_apiBig a b).bind fun c=>
  some (decide ((0:Int)≤c))
def exact_check (a:List (List (Bool×LI))):Option (Int):=
  (exact_columns a).bind fun b=>
  (slices_ContainsFunc_apiBig a b).bind fun c=>
  if c=true then
    some 5
  else
    if ((decide ((16:Int) < (a.length:Int))) || (decide ((16:Int) < b)))=true then
      some 6
    else
      some 0
def exact_square (a:List (List (Bool×LI))):Option (Int):=
  (exact_check a).bind fun b=>
  (if b=0 then
    (exact_columns a).bind fun c=>
    some (!(decide ((a.length:Int)=c)))
  else
    some false).bind fun d=>
  if d=true then
    some 5
  else
    some b
def slices_Clone_uint32 (a:LI):Option (LI):=
  (app [] a).bind fun b=>
  some b
def integer_trim_l3 (b:LI):Int→Option ((Int)⊕(Int)):=fun a=>
  (if (0:Int) < a then
    (getI b (ws .i64 a 1)).bind fun c=>
    some (decide (c=0))
  else
    some false).bind fun d=>
  if d=true then
    some (.inl (ws .i64 a 1))
  else
    some (.inr a)
def integer_trim (a:LI):Option (LI):=
  (loop (integer_trim_l3 a) (a.length:Int)).bind fun b=>
  (sli a 0 b).bind fun c=>
  some c
def integer_big (b:Bool) (c:LI):Option (Bool×LI):=
  (integer_trim c).bind fun a=>
  if (a.length:Int)=0 then
    some (false,[])
  else
    some (b,a)
def integer_Norm (b:Bool) (c:LI):Option (Bool×LI):=
  (slices_Clone_uint32 c).bind fun d=>
  (integer_big b d).bind fun a=>
  some (a.1,a.2)
end M
