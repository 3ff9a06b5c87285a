/- Models of functions of the program, printed. -/
import Derived.Test.YtcoaljcfifecgagGreatDoorM5
namespace M
open Sx
set_option linter.unusedVariables false
def matrix_Integers_j13 (a:Int) (b:List (List (Bool×LI))):Option (((List (List (Bool×LI)))×Int)⊕(((List (List (Bool×LI)))))):=
  some (.inl (b,wa .i64 a 1))
def matrix_Integers_l12 (e:(List (Int×Int×Int))) (g:Int):(List (List (Bool×LI)))×Int→Option (((List (List (Bool×LI)))×Int)⊕(((List (List (Bool×LI)))))):=fun (b,c)=>
  if c < (e.length:Int) then
    (getI e c).bind fun d=>
    (float_Of d.2.2).bind fun a=>
    (dyad_Sign a.1 a.2.1 a.2.2.1 a.2.2.2).bind fun h=>
    if h=0 then
      matrix_Integers_j13 c b
    else
      (getI b d.1).bind fun i=>
      (integer_Shift a.2.1 a.2.2.1 (ws .i64 a.2.2.2 g)).bind fun f=>
      (setI i d.2.1 (f.1,f.2.1)).bind fun j=>
      (setI b d.1 j).bind fun k=>
      matrix_Integers_j13 c k
  else
    some (.inr b)
def matrix_Integers_l9 (c:List (List (Bool×LI))) (d:Int):(List (List (Bool×LI)))×Int→Option (((List (List (Bool×LI)))×Int)⊕(((List (List (Bool×LI)))))):=fun (b,a)=>
  if a < (c.length:Int) then
    (mkL (false,[]) d).bind fun e=>
    (setI b a e).bind fun f=>
    some (.inl (f,wa .i64 a 1))
  else
    some (.inr b)
def matrix_Integers_j17 (a:Int) (b:Int) (c:Bool):Option ((Int×Bool×Int)⊕(Int)):=
  some (.inl (b,c,wa .i64 a 1))
def matrix_Integers_l8 (d:LI):Int×Bool×Int→Option ((Int×Bool×Int)⊕(Int)):=fun (c,e,b)=>
  if b < (d.length:Int) then
    (getI d b).bind fun f=>
    (float_Of f).bind fun a=>
    (dyad_Sign a.1 a.2.1 a.2.2.1 a.2.2.2).bind fun g=>
    if ((!(decide (g=0))) && (e || (decide (a.2.2.2 < c))))=true then
      matrix_Integers_j17 b a.2.2.2 false
    else
      matrix_Integers_j17 b c e
  else
    some (.inr c)
def matrix_Integers (a:Int) (b:Int) (d:LI) (e:LI) (c:LI):Option ((List (List (Bool×LI)))×Int×Int):=
  (matrix_Check a b d e c).bind fun f=>
  if f=0 then
    if ((decide ((16:Int) < a)) || (decide ((16:Int) < b)))=true then
      some ([],0,6)
    else
      (loop (matrix_Integers_l8 c) (0,true,0)).bind fun g=>
      (mkL ([]:List (Bool×LI)) a).bind fun h=>
      (loop (matrix_Integers_l9 h b) (h,0)).bind fun i=>
      (matrix_entries a b d e c).bind fun j=>
      (loop (matrix_Integers_l12 j g) (i,0)).bind fun k=>
      some (k,g,0)
  else
    some ([],0,f)
def prove_columns_l1 (b:List (List (Bool×LI))) (d:Int):(List (List (Bool×LI)))×Int→Option (((List (List (Bool×LI)))×Int)⊕(((List (List (Bool×LI)))))):=fun (c,a)=>
  if a < (b.length:Int) then
    (getI b a).bind fun e=>
    (sli e 0 d).bind fun f=>
    (app c [f]).bind fun g=>
    some (.inl (g,wa .i64 a 1))
  else
    some (.inr c)
def prove_columns (a:List (List (Bool×LI))) (b:Int):Option ((List (List (Bool×LI)))):=
  (loop (prove_columns_l1 a b) ([],0)).bind fun c=>
  some c
def exact_columns (a:List (List (Bool×LI))):Option (Int):=
  if (a.length:Int)=0 then
    some 0
  else
    (getI a 0).bind fun b=>
    some (b.length:Int)
def exact_check_1 (a:List (Bool×LI)) (b:Int):Option (Bool):=
  some (!(decide ((a.length:Int)=b)))
def slices_IndexFunc_apiBig_l1 (b:List (List (Bool×LI))) (c:Int):Int→Option ((Int)⊕(Unit⊕Int)):=fun a=>
  if a < (b.length:Int) then
    (getI b a).bind fun d=>
    (exact_check_1 d c).bind fun e=>
    if e=true then
      some (.inr (.inr a))
    else
      some (.inl (wa .i64 a 1))
  else
    some (.inr (.inl ()))
def slices_IndexFunc_apiBig (a:List (List (Bool×LI))) (b:Int):Option (Int):=
  (loop (slices_IndexFunc_apiBig_l1 a b) 0).bind (fun o=>match o with
    | .inl ()=>
      some (-1)
    | .inr c=>
      some c)
def slices_ContainsFunc_apiBig (a:List (List (Bool×LI))) (b:Int):Option (Bool):=
  (slices_IndexFunc_apiBig a b).bind fun c=>
  some (decide ((0:Int)≤c))
def exact_check (a:List (List (Bool×LI))):Option (Int):=
  (exact_columns a).bind fun b=>
  (slices_ContainsFunc_apiBig a b).bind fun c=>
  if c=true then
    some 5
  else
    if ((decide ((16:Int) < (a.length:Int))) || (decide ((16:Int) < b)))=true then
      some 6
    else
      some 0
def exact_twin_j7 (a:List (List (Bool×LI))) (b:Int) (c:List (Bool×LI)):Option (((List (List (Bool×LI)))×Int)⊕(((List (List (Bool×LI)))))):=
  (app a [c]).bind fun d=>
  some (.inl (d,wa .i64 b 1))
def exact_twin_l6 (b:List (Bool×LI)):(List (Bool×LI))×Int→Option (((List (Bool×LI))×Int)⊕(((List (Bool×LI))))):=fun (c,a)=>
  if a < (b.length:Int) then
    (getI b a).bind fun d=>
    (integer_Norm d.1 d.2).bind fun e=>
    (app c [(e.1,e.2)]).bind fun f=>
    some (.inl (f,wa .i64 a 1))
  else
    some (.inr c)
def exact_twin_l5 (c:List (List (Bool×LI))) (d:List (Bool×LI)):(List (List (Bool×LI)))×Int→Option (((List (List (Bool×LI)))×Int)⊕(((List (List (Bool×LI)))))):=fun (b,a)=>
  if a < (c.length:Int) then
    (getI c a).bind fun h=>
    (loop (exact_twin_l6 h) ([],0)).bind fun e=>
    if a < (d.length:Int) then
      (getI d a).bind fun f=>
      (integer_Norm f.1 f.2).bind fun g=>
      (app e [(g.1,g.2)]).bind fun i=>
      exact_twin_j7 b a i
    else
      exact_twin_j7 b a e
  else
    some (.inr b)
def exact_twin (a:List (List (Bool×LI))) (b:List (Bool×LI)):Option ((List (List (Bool×LI)))):=
  (loop (exact_twin_l5 a b) ([],0)).bind fun c=>
  some c
def integer_times_l5 (d:LI) (e:Int) (f:Int):LI×Int×Int→Option ((LI×Int×Int)⊕((LI×Int))):=fun (b,c,a)=>
  if a < (d.length:Int) then
    (getI d a).bind fun g=>
    (getI b (wa .i64 e a)).bind fun h=>
    (setI b (wa .i64 e a) (wc .u32 (wand .u64 (wa .u64 (wa .u64 (wm .u64 (wc .u64 f) (wc .u64 g)) (wc .u64 h)) c) 4294967295))).bind fun i=>
    some (.inl (i,wsrc .u64 (wa .u64 (wa .u64 (wm .u64 (wc .u64 f) (wc .u64 g)) (wc .u64 h)) c) 32,wa .i64 a 1))
  else
    some (.inr (b,c))
def integer_times_l4 (b:LI) (c:LI):LI×Int→Option ((LI×Int)⊕(LI)):=fun (d,a)=>
  if a < (b.length:Int) then
    (getI b a).bind fun e=>
    (loop (integer_times_l5 c a e) (d,0,0)).bind fun (f,g)=>
    (setI f (wa .i64 a (c.length:Int)) (wc .u32 g)).bind fun h=>
    some (.inl (h,wa .i64 a 1))
  else
    some (.inr d)
def integer_times (a:LI) (b:LI):Option (LI):=
  if ((decide ((a.length:Int)=0)) || (decide ((b.length:Int)=0)))=true then
    some []
  else
    (mkL 0 (wa .i64 (a.length:Int) (b.length:Int))).bind fun c=>
    (loop (integer_times_l4 a b) (c,0)).bind fun d=>
    (integer_trim d).bind fun e=>
    some e
def integer_Mul (b:Bool) (c:LI) (d:Bool) (e:LI):Option (Bool×LI):=
  (integer_trim c).bind fun f=>
  (integer_trim e).bind fun g=>
  (integer_times f g).bind fun h=>
  (integer_big (!((b == d))) h).bind fun a=>
  some (a.1,a.2)
def cmp_isNaN_uint32 (a:Int):Option (Bool):=
  some (!(decide (a=a)))
def cmp_Compare_uint32 (a:Int) (b:Int):Option (Int):=
  (cmp_isNaN_uint32 a).bind fun d=>
  (cmp_isNaN_uint32 b).bind fun c=>
  if d=true then
    if c=true then
      some 0
    else
      some (-1)
  else
    if c=true then
      some 1
    else
      if a < b then
        some (-1)
      else
        if b < a then
          some 1
        else
          some 0
def cmp_Compare_int (a:Int) (b:Int):Option (Int):=
  (cmp_isNaN_int a).bind fun d=>
  (cmp_isNaN_int b).bind fun c=>
  if d=true then
    if c=true then
      some 0
    else
      some (-1)
  else
    if c=true then
      some 1
    else
      if a < b then
        some (-1)
      else
        if b < a then
          some 1
        else
          some 0
def integer_compare_l1 (b:LI) (c:LI):Int→Option ((Int)⊕(Unit⊕Int)):=fun a=>
  if (0:Int)≤a then
    (getI b a).bind fun d=>
    (getI c a).bind fun e=>
    if d=e then
      some (.inl (ws .i64 a 1))
    else
      (getI b a).bind fun f=>
      (getI c a).bind fun g=>
      (cmp_Compare_uint32 f g).bind fun h=>
      some (.inr (.inr h))
  else
    some (.inr (.inl ()))
def integer_compare (a:LI) (b:LI):Option (Int):=
  if (a.length:Int)=(b.length:Int) then
    (loop (integer_compare_l1 a b) (ws .i64 (a.length:Int) 1)).bind (fun o=>match o with
      | .inl ()=>
        some 0
      | .inr c=>
        some c)
  else
    (cmp_Compare_int (a.length:Int) (b.length:Int)).bind fun d=>
    some d
end M
