/- Models of functions of the program, printed. -/
import Derived.Test.YtpfmbaidflhamaaDoorM3
namespace M
open Sx
set_option linter.unusedVariables false
def sparselaw08_square_j13 (b:List (Bool×LI)) (c:Int) (d:Int):Option (((List (Bool×LI))×Int)⊕(((List (Bool×LI))))):=
  (sparselaw08_num d).bind fun a=>
  (app b [(a.1,a.2)]).bind fun e=>
  some (.inl (e,wa .i64 c 1))
def sparselaw08_square_l12 (b:Int) (d:Int) (e:LI):(List (Bool×LI))×Int→Option (((List (Bool×LI))×Int)⊕(((List (Bool×LI))))):=fun (c,a)=>
  if a < b then
    if (wa .i64 (wm .i64 b d) a) < (e.length:Int) then
      (getI e (wa .i64 (wm .i64 b d) a)).bind fun f=>
      (sparsekit_Place f 201).bind fun g=>
      sparselaw08_square_j13 c a (ws .i64 g 100)
    else
      sparselaw08_square_j13 c a 0
  else
    some (.inr c)
def sparselaw08_square_l9 (b:Int) (d:LI):(List (List (Bool×LI)))×Int→Option (((List (List (Bool×LI)))×Int)⊕(((List (List (Bool×LI)))))):=fun (c,a)=>
  if a < b then
    (loop (sparselaw08_square_l12 b a d) ([],0)).bind fun e=>
    (app c [e]).bind fun f=>
    some (.inl (f,wa .i64 a 1))
  else
    some (.inr c)
def sparselaw08_square (a:LI) (b:Int):Option ((List (List (Bool×LI)))):=
  (loop (sparselaw08_square_l9 b a) ([],0)).bind fun c=>
  some c
def sparselaw08_even_l4 (a:Int):(List (List (Bool×LI)))×Int→Option (((List (List (Bool×LI)))×Int)⊕(((List (List (Bool×LI)))))):=fun (b,c)=>
  if c < a then
    (getI b a).bind fun e=>
    (getI b c).bind fun f=>
    (getI f a).bind fun d=>
    (setI e c (d.1,d.2)).bind fun g=>
    (setI b a g).bind fun h=>
    some (.inl (h,wa .i64 c 1))
  else
    some (.inr b)
def sparselaw08_even_l3 (c:Int):(List (List (Bool×LI)))×Int→Option (((List (List (Bool×LI)))×Int)⊕(((List (List (Bool×LI)))))):=fun (b,a)=>
  if a < c then
    (loop (sparselaw08_even_l4 a) (b,0)).bind fun d=>
    some (.inl (d,wa .i64 a 1))
  else
    some (.inr b)
def sparselaw08_even (b:LI) (a:Int):Option ((List (List (Bool×LI)))):=
  (sparselaw08_square b a).bind fun c=>
  (loop (sparselaw08_even_l3 a) (c,0)).bind fun d=>
  some d
def sparsekit_Shuffle_j5 (a:LI) (c:LI) (d:Int) (b:Int):Option ((LI×LI×Int)⊕(LI)):=
  (getI a b).bind fun e=>
  (app c [e]).bind fun f=>
  (sli a 0 b).bind fun g=>
  (sli a (wa .i64 b 1) (a.length:Int)).bind fun h=>
  (app g h).bind fun i=>
  some (.inl (i,f,wa .i64 d 1))
def sparsekit_Shuffle_l4 (e:Int) (d:LI):LI×LI×Int→Option ((LI×LI×Int)⊕(LI)):=fun (b,c,a)=>
  if a < e then
    if a < (d.length:Int) then
      (getI d a).bind fun f=>
      (sparsekit_Place f (b.length:Int)).bind fun g=>
      sparsekit_Shuffle_j5 b c a g
    else
      sparsekit_Shuffle_j5 b c a 0
  else
    some (.inr c)
def sparsekit_Shuffle_l1 (c:Int):LI×Int→Option ((LI×Int)⊕(LI)):=fun (b,a)=>
  if a < c then
    (app b [a]).bind fun d=>
    some (.inl (d,wa .i64 a 1))
  else
    some (.inr b)
def sparsekit_Shuffle (b:LI) (a:Int):Option (LI):=
  (loop (sparsekit_Shuffle_l1 a) ([],0)).bind fun c=>
  (loop (sparsekit_Shuffle_l4 a b) (c,[],0)).bind fun d=>
  some d
def sparselaw08_ExactSylvester_j6 (d:List (List (Bool×LI))) (a:Int×Int×Int×Int) (e:Int) (f:List (List (Bool×LI))):Option (Bool):=
  (exact_Inertia f).bind fun b=>
  (exact_Inertia d).bind fun c=>
  if (((((((!(decide (a.2.2.2=0))) || (!(decide (b.2.2.2=0)))) || (!(decide (c.2.2.2=0)))) || (!(decide ((wa .i64 (wa .i64 a.1 a.2.1) a.2.2.1)=(wa .i64 1 e))))) || (!(decide (b.1=a.1)))) || (!(decide (b.2.1=a.2.1)))) || (!(decide (b.2.2.1=a.2.2.1))))=true then
    some false
  else
    (if (((decide (c.1=a.2.2.1)) && (decide (c.2.1=a.2.1))) && (decide (c.2.2.1=a.1)))=true then
      (sparselaw08_awake).bind fun g=>
      some g
    else
      some false).bind fun h=>
    some h
def sparselaw08_ExactSylvester_l17 (i:Int) (c:Int) (j:Int) (k:Int):(List (List (Bool×LI)))×Int→Option (((List (List (Bool×LI)))×Int)⊕(((List (List (Bool×LI)))))):=fun (b,a)=>
  if a < (wa .i64 1 i) then
    (getI b a).bind fun l=>
    (getI b a).bind fun m=>
    (getI m c).bind fun d=>
    (sparselaw08_num (ws .i64 j 5)).bind fun e=>
    (getI b a).bind fun n=>
    (getI n k).bind fun f=>
    (integer_Mul e.1 e.2 f.1 f.2).bind fun g=>
    (integer_Add d.1 d.2 g.1 g.2).bind fun h=>
    (setI l c (h.1,h.2)).bind fun o=>
    (setI b a o).bind fun p=>
    some (.inl (p,wa .i64 a 1))
  else
    some (.inr b)
def sparselaw08_ExactSylvester_l16 (i:Int) (c:Int) (j:Int) (k:Int):(List (List (Bool×LI)))×Int→Option (((List (List (Bool×LI)))×Int)⊕(((List (List (Bool×LI)))))):=fun (a,b)=>
  if b < (wa .i64 1 i) then
    (getI a c).bind fun l=>
    (getI a c).bind fun m=>
    (getI m b).bind fun d=>
    (sparselaw08_num (ws .i64 j 5)).bind fun e=>
    (getI a k).bind fun n=>
    (getI n b).bind fun f=>
    (integer_Mul e.1 e.2 f.1 f.2).bind fun g=>
    (integer_Add d.1 d.2 g.1 g.2).bind fun h=>
    (setI l b (h.1,h.2)).bind fun o=>
    (setI a c o).bind fun p=>
    some (.inl (p,wa .i64 b 1))
  else
    some (.inr a)
def sparselaw08_ExactSylvester_l18 (j:Int) (b:LI) (c:Int) (d:(List (List (Bool×LI)))):(List (Bool×LI))×(List (Bool×LI))×Int→Option (((List (Bool×LI))×(List (Bool×LI))×Int)⊕(((List (Bool×LI))×(List (Bool×LI))))):=fun (e,f,a)=>
  if a < (wa .i64 1 j) then
    (getI b c).bind fun k=>
    (getI d k).bind fun l=>
    (getI b a).bind fun m=>
    (getI l m).bind fun g=>
    (app e [(g.1,g.2)]).bind fun n=>
    (getI d c).bind fun o=>
    (getI o a).bind fun h=>
    (integer_Neg h.1 h.2).bind fun i=>
    (app f [(i.1,i.2)]).bind fun p=>
    some (.inl (n,p,wa .i64 a 1))
  else
    some (.inr (e,f))
def sparselaw08_ExactSylvester_l3 (b:Int) (e:LI) (f:(List (List (Bool×LI)))):(List (List (Bool×LI)))×(List (List (Bool×LI)))×Int→Option (((List (List (Bool×LI)))×(List (List (Bool×LI)))×Int)⊕(((List (List (Bool×LI)))×(List (List (Bool×LI)))))):=fun (c,d,a)=>
  if a < (wa .i64 1 b) then
    (loop (sparselaw08_ExactSylvester_l18 b e a f) ([],[],0)).bind fun (g,h)=>
    (app c [g]).bind fun i=>
    (app d [h]).bind fun j=>
    some (.inl (i,j,wa .i64 a 1))
  else
    some (.inr (c,d))
def sparselaw08_ExactSylvester (d:LI) (j:Int) (k:Int) (l:Int) (m:Int) (n:LI):Option (Bool):=
  if (25:Int) < (d.length:Int) then
    (sparselaw08_awake).bind fun o=>
    some o
  else
    (sparsekit_Place j 4).bind fun a=>
    (sparselaw08_even d (wa .i64 1 a)).bind fun e=>
    (exact_Inertia e).bind fun f=>
    (sparsekit_Place k (wa .i64 1 a)).bind fun b=>
    (sparsekit_Place l (wa .i64 1 a)).bind fun c=>
    (sparsekit_Place m 11).bind fun g=>
    (sparsekit_Shuffle n (wa .i64 1 a)).bind fun p=>
    (loop (sparselaw08_ExactSylvester_l3 a p e) ([],[],0)).bind fun (h,i)=>
    if b=c then
      sparselaw08_ExactSylvester_j6 i f a h
    else
      (loop (sparselaw08_ExactSylvester_l16 a b g c) (h,0)).bind fun q=>
      (loop (sparselaw08_ExactSylvester_l17 a b g c) (q,0)).bind fun r=>
      sparselaw08_ExactSylvester_j6 i f a r
end M
