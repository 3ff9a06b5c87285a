/- Models of functions of the program, printed. -/
import Derived.Test.YtpfmbaidflhamaaDoorM3
namespace M
open Sx
set_option linter.unusedVariables false
def sparselaw08_square_j13 (b:List (Bool×LI)) (c:Int) (d:Int):Option (((List (Bool×LI))×Int)⊕(((List (Bool×LI))))):=
  (sparselaw08_num d).bind fun a=>
  (app b [(a.1,a.2)]).bind fun e=>
  some (.inl (e,wa .i64 c 1))
def sparselaw08_square_l12 (b:Int) (d:Int) (e:LI):(List (Bool×LI))×Int→Option (((List (Bool×LI))×Int)⊕(((List (Bool×LI))))):=fun (c,a)=>
  if a < b then
    if (wa .i64 (wm .i64 b d) a) < (e.length:Int) then
      (getI e (wa .i64 (wm .i64 b d) a)).bind fun f=>
      (sparsekit_Place f 201).bind fun g=>
      sparselaw08_square_j13 c a (ws .i64 g 100)
    else
      sparselaw08_square_j13 c a 0
  else
    some (.inr c)
def sparselaw08_square_l9 (b:Int) (d:LI):(List (List (Bool×LI)))×Int→Option (((List (List (Bool×LI)))×Int)⊕(((List (List (Bool×LI)))))):=fun (c,a)=>
  if a < b then
    (loop (sparselaw08_square_l12 b a d) ([],0)).bind fun e=>
    (app c [e]).bind fun f=>
    some (.inl (f,wa .i64 a 1))
  else
    some (.inr c)
def sparselaw08_square (a:LI) (b:Int):Option ((List (List (Bool×LI)))):=
  (loop (sparselaw08_square_l9 b a) ([],0)).bind fun c=>
  some c
def sparselaw08_even_l4 (a:Int):(List (List (Bool×LI)))×Int→Option (((List (List (Bool×LI)))×Int)⊕(((List (List (Bool×LI)))))):=fun (b,c)=>
  if c < a then
    (getI b a).bind fun e=>
    (getI b c).bind fun f=>
    (getI f a).bind fun d=>
    (setI e c (d.1,d.2)).bind fun g=>
    (setI b a g).bind fun h=>
    some (.inl (h,wa .i64 c 1))
  else
    some (.inr b)
def sparselaw08_even_l3 (c:Int):(List (List (Bool×LI)))×Int→Option (((List (List (Bool×LI)))×Int)⊕(((List (List (Bool×LI)))))):=fun (b,a)=>
  if a < c then
    (loop (sparselaw08_even_l4 a) (b,0)).bind fun d=>
    some (.inl (d,wa .i64 a 1))
  else
    some (.inr b)
def sparselaw08_even (b:LI) (a:Int):Option ((List (List (Bool×LI)))):=
  (sparselaw08_square b a).bind fun c=>
  (loop (sparselaw08_even_l3 a) (c,0)).bind fun d=>
  some d
def exact_Rank (a:List (List (Bool×LI))):Option (Int×Int):=
  (exact_check a).bind fun b=>
  if b=0 then
    (exact_twin a []).bind fun c=>
    (exact_columns a).bind fun d=>
    (exact_eliminate c d).bind fun e=>
    some ((e.2.1.length:Int),0)
  else
    some (0,b)
def exact_reduced_det (h:List (List (Bool×LI))) (e:LI) (a:Bool) (b:LI) (f:Int) (g:Int):Option (Bool×LI):=
  if (e.length:Int) < g then
    some (false,[])
  else
    if f < 0 then
      (integer_Neg a b).bind fun c=>
      some (c.1,c.2)
    else
      (integer_Norm a b).bind fun d=>
      some (d.1,d.2)
def exact_Det (b:List (List (Bool×LI))):Option (Bool×LI×Int):=
  (exact_square b).bind fun c=>
  if c=0 then
    (exact_twin b []).bind fun e=>
    (exact_eliminate e (b.length:Int)).bind fun a=>
    (exact_reduced_det a.1 a.2.1 a.2.2.1 a.2.2.2.1 a.2.2.2.2 (b.length:Int)).bind fun d=>
    some (d.1,d.2,0)
  else
    some (false,[],c)
def sparselaw08_ExactSigns_j5 (a:Bool×LI×Int) (b:Int):Option (Bool):=
  (integer_Sign a.1 a.2.1).bind fun c=>
  (if c=b then
    (sparselaw08_awake).bind fun d=>
    some d
  else
    some false).bind fun e=>
  some e
def sparselaw08_ExactSigns_j4 (b:Int×Int×Int×Int) (a:Bool×LI×Int) (c:Int):Option (Bool):=
  if (0:Int) < b.2.1 then
    sparselaw08_ExactSigns_j5 a 0
  else
    sparselaw08_ExactSigns_j5 a c
def sparselaw08_ExactSigns (d:LI) (g:Int):Option (Bool):=
  if (25:Int) < (d.length:Int) then
    (sparselaw08_awake).bind fun h=>
    some h
  else
    (sparsekit_Place g 5).bind fun e=>
    (sparselaw08_even d e).bind fun b=>
    (exact_Inertia b).bind fun a=>
    (exact_Rank b).bind fun f=>
    (exact_Det b).bind fun c=>
    if ((((!(decide (a.2.2.2=0))) || (!(decide (f.2=0)))) || (!(decide (c.2.2=0)))) || (!(decide (a.2.1=(ws .i64 e f.1)))))=true then
      some false
    else
      if (wrc a.1 2)=1 then
        sparselaw08_ExactSigns_j4 a c (-1)
      else
        sparselaw08_ExactSigns_j4 a c 1
end M
