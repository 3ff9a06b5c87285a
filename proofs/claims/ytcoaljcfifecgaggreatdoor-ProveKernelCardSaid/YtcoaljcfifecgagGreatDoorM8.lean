/- Models of functions of the program, printed. -/
import Derived.Test.YtcoaljcfifecgagGreatDoorM7
namespace M
open Sx
set_option linter.unusedVariables false
def slices_Clone_int (a:LI):Option (LI):=
  (app [] a).bind fun b=>
  some b
def integer_Abs (d:Bool) (b:LI):Option (Bool×LI):=
  (slices_Clone_uint32 b).bind fun c=>
  (integer_big false c).bind fun a=>
  some (a.1,a.2)
def exact_reduced_turned (h:List (List (Bool×LI))) (i:LI) (e:Bool) (f:LI) (j:Int) (a:Bool) (b:LI):Option (Bool×LI):=
  (integer_Sign e f).bind fun g=>
  if g < 0 then
    (integer_Neg a b).bind fun c=>
    some (c.1,c.2)
  else
    (integer_Norm a b).bind fun d=>
    some (d.1,d.2)
def integer_GCD_l1:LI×LI→Option ((LI×LI)⊕(LI)):=fun (b,a)=>
  if (0:Int) < (a.length:Int) then
    (integer_divide b a).bind fun c=>
    some (.inl (a,c.2))
  else
    some (.inr b)
def integer_GCD (i:Bool) (b:LI) (j:Bool) (c:LI):Option (Bool×LI):=
  (integer_trim b).bind fun d=>
  (slices_Clone_uint32 d).bind fun e=>
  (integer_trim c).bind fun f=>
  (slices_Clone_uint32 f).bind fun g=>
  (loop (integer_GCD_l1) (e,g)).bind fun h=>
  (integer_big false h).bind fun a=>
  some (a.1,a.2)
def exact_Kernel_l5 (e:List (Bool×LI)) (f:Bool) (g:LI):(List (Bool×LI))×Int→Option (((List (Bool×LI))×Int)⊕(((List (Bool×LI))))):=fun (b,a)=>
  if a < (e.length:Int) then
    (getI b a).bind fun c=>
    (integer_Quo c.1 c.2 f g).bind fun d=>
    (setI b a (d.1,d.2.1)).bind fun h=>
    some (.inl (h,wa .i64 a 1))
  else
    some (.inr b)
def exact_Kernel_l4 (a:(List (List (Bool×LI)))×LI×Bool×LI×Int) (m:Int):(List (Bool×LI))×Bool×LI×Int→Option (((List (Bool×LI))×Bool×LI×Int)⊕(((List (Bool×LI))×Bool×LI))):=fun (c,d,e,b)=>
  if b < (a.2.1.length:Int) then
    (getI a.2.1 b).bind fun f=>
    (getI a.1 b).bind fun n=>
    (getI n m).bind fun g=>
    (exact_reduced_turned a.1 a.2.1 a.2.2.1 a.2.2.2.1 a.2.2.2.2 g.1 g.2).bind fun h=>
    (integer_Neg h.1 h.2).bind fun i=>
    (setI c f (i.1,i.2)).bind fun j=>
    (getI j f).bind fun k=>
    (integer_GCD d e k.1 k.2).bind fun l=>
    some (.inl (j,l.1,l.2,wa .i64 b 1))
  else
    some (.inr (c,d,e))
def exact_Kernel_l3 (b:(List (List (Bool×LI)))×LI×Bool×LI×Int):Int→Option ((Int)⊕(Int)):=fun a=>
  (if a < (b.2.1.length:Int) then
    (getI b.2.1 a).bind fun c=>
    some (decide (c=a))
  else
    some false).bind fun d=>
  if d=true then
    some (.inl (wa .i64 a 1))
  else
    some (.inr a)
def exact_Kernel (c:List (List (Bool×LI))):Option ((List (Bool×LI))×Int):=
  (exact_check c).bind fun e=>
  if e=0 then
    (exact_columns c).bind fun d=>
    (exact_twin c []).bind fun j=>
    (exact_eliminate j d).bind fun a=>
    (loop (exact_Kernel_l3 a) 0).bind fun b=>
    if b=d then
      some ([],0)
    else
      (mkL (false,[]) d).bind fun k=>
      (integer_Abs a.2.2.1 a.2.2.2.1).bind fun f=>
      (setI k b (f.1,f.2)).bind fun g=>
      (getI g b).bind fun h=>
      (loop (exact_Kernel_l4 a b) (g,h.1,h.2,0)).bind fun (i,l,m)=>
      (loop (exact_Kernel_l5 i l m) (i,0)).bind fun n=>
      some (n,0)
  else
    some ([],e)
def prove_kernel_j60 (a:Int) (b:LI) (c:List (List (Bool×LI))):Option ((LI×(List (List (Bool×LI)))×Int)⊕(((List (List (Bool×LI)))))):=
  some (.inl (b,c,wa .i64 a 1))
def prove_kernel_j65 (a:List (List (Bool×LI))) (b:Int) (c:LI) (d:List (Bool×LI)):Option ((LI×(List (List (Bool×LI)))×Int)⊕(((List (List (Bool×LI)))))):=
  (app a [d]).bind fun e=>
  prove_kernel_j60 b c e
def prove_kernel_l66 (b:LI) (e:(List (Bool×LI))×Int):(List (Bool×LI))×Int→Option (((List (Bool×LI))×Int)⊕(((List (Bool×LI))))):=fun (c,a)=>
  if a < (b.length:Int) then
    (getI b a).bind fun f=>
    (getI e.1 a).bind fun d=>
    (setI c f (d.1,d.2)).bind fun g=>
    some (.inl (g,wa .i64 a 1))
  else
    some (.inr c)
def prove_kernel_l67 (b:LI) (e:List (Bool×LI)):(List (Bool×LI))×Int→Option (((List (Bool×LI))×Int)⊕(((List (Bool×LI))))):=fun (c,a)=>
  if a < (b.length:Int) then
    (getI b a).bind fun f=>
    (getI e f).bind fun d=>
    (app c [(d.1,d.2)]).bind fun g=>
    some (.inl (g,wa .i64 a 1))
  else
    some (.inr c)
def prove_kernel_l63 (b:List (List (Bool×LI))) (d:LI):(List (List (Bool×LI)))×Int→Option (((List (List (Bool×LI)))×Int)⊕(((List (List (Bool×LI)))))):=fun (c,a)=>
  if a < (b.length:Int) then
    (getI b a).bind fun e=>
    (loop (prove_kernel_l67 d e) ([],0)).bind fun f=>
    (app c [f]).bind fun g=>
    some (.inl (g,wa .i64 a 1))
  else
    some (.inr c)
def prove_kernel_l45 (d:Int) (i:BL) (j:List (List (Bool×LI))):LI×(List (List (Bool×LI)))×Int→Option ((LI×(List (List (Bool×LI)))×Int)⊕(((List (List (Bool×LI)))))):=fun (b,c,a)=>
  if a < d then
    (getI i a).bind fun k=>
    if k=true then
      (slices_Clone_int b).bind fun l=>
      (app l [a]).bind fun e=>
      (loop (prove_kernel_l63 j e) ([],0)).bind fun f=>
      (mkL (false,[]) d).bind fun g=>
      if (f.length:Int)=0 then
        (integer_FromInt 1).bind fun h=>
        (setI g a (h.1,h.2)).bind fun m=>
        prove_kernel_j65 c a b m
      else
        (exact_Kernel f).bind fun n=>
        (loop (prove_kernel_l66 e n) (g,0)).bind fun o=>
        prove_kernel_j65 c a b o
    else
      (app b [a]).bind fun p=>
      prove_kernel_j60 a p c
  else
    some (.inr c)
def prove_kernel (a:List (List (Bool×LI))) (b:Int):Option ((List (List (Bool×LI)))):=
  (prove_free a b).bind fun c=>
  (loop (prove_kernel_l45 b c a) ([],[],0)).bind fun d=>
  some d
def prove_Singular (d:Int) (b:Int) (e:LI) (f:LI) (g:LI):Option ((List (Bool×LI))×Bool×Int):=
  (matrix_Integers d b e f g).bind fun a=>
  if a.2.2=0 then
    (prove_kernel a.1 b).bind fun c=>
    if (c.length:Int)=0 then
      some ([],false,0)
    else
      (getI c 0).bind fun h=>
      some (h,true,0)
  else
    some ([],false,a.2.2)
def sparseref02_Sign (b:Bool) (c:Bool) (d:LI) (e:Int):Option (Int):=
  (sparseref02_Norm b c d e).bind fun a=>
  if a.1=true then
    some 0
  else
    (sparseref01_Sign a.2.1 a.2.2.1).bind fun f=>
    some f
def sparseref09_Entries_l4 (d:LI) (b:Int) (e:LI) (f:LI):(List (Int×Int×Int))×Int→Option (((List (Int×Int×Int))×Int)⊕(((List (Int×Int×Int))))):=fun (c,a)=>
  (getI d (wa .i64 b 1)).bind fun g=>
  if a < g then
    (getI e a).bind fun h=>
    (getI f a).bind fun i=>
    (app c [(h,b,i)]).bind fun j=>
    some (.inl (j,wa .i64 a 1))
  else
    some (.inr c)
def sparseref09_Entries_l3 (d:Int) (b:LI) (e:LI) (f:LI):(List (Int×Int×Int))×Int→Option (((List (Int×Int×Int))×Int)⊕(((List (Int×Int×Int))))):=fun (c,a)=>
  if a < d then
    (getI b a).bind fun g=>
    (loop (sparseref09_Entries_l4 b a e f) (c,g)).bind fun h=>
    some (.inl (h,wa .i64 a 1))
  else
    some (.inr c)
def sparseref09_Entries (e:Int) (a:Int) (b:LI) (c:LI) (d:LI):Option ((List (Int×Int×Int))):=
  (sparseref09_Check e a b c d).bind fun f=>
  if f=0 then
    (loop (sparseref09_Entries_l3 a b c d) ([],0)).bind fun g=>
    some g
  else
    some []
def sparseref09_Dense_l2 (b:(List (Int×Int×Int))):L2×Int→Option ((L2×Int)⊕(L2)):=fun (c,a)=>
  if a < (b.length:Int) then
    (getI b a).bind fun d=>
    (getI c d.1).bind fun e=>
    (getI b a).bind fun f=>
    (getI b a).bind fun g=>
    (setI e f.2.1 g.2.2).bind fun h=>
    (setI c d.1 h).bind fun i=>
    some (.inl (i,wa .i64 a 1))
  else
    some (.inr c)
def sparseref09_Dense_l1 (c:Int) (d:Int):L2×Int→Option ((L2×Int)⊕(L2)):=fun (a,b)=>
  if b < c then
    (mkL 0 d).bind fun e=>
    (app a [e]).bind fun f=>
    some (.inl (f,wa .i64 b 1))
  else
    some (.inr a)
def sparseref09_Dense (a:Int) (b:Int) (c:LI) (d:LI) (e:LI):Option (L2×Int):=
  (sparseref09_Check a b c d e).bind fun f=>
  if f=0 then
    (loop (sparseref09_Dense_l1 a b) ([],0)).bind fun g=>
    (sparseref09_Entries a b c d e).bind fun h=>
    (loop (sparseref09_Dense_l2 h) (g,0)).bind fun i=>
    some (i,0)
  else
    some ([],f)
def sparseref09_Integers_j21 (a:Int) (b:List (Bool×LI)):Option (((List (Bool×LI))×Int)⊕(((List (Bool×LI))))):=
  some (.inl (b,wa .i64 a 1))
def sparseref09_Integers_l20 (e:Int) (f:L2×Int) (g:Int) (h:Int):(List (Bool×LI))×Int→Option (((List (Bool×LI))×Int)⊕(((List (Bool×LI))))):=fun (c,b)=>
  if b < e then
    (getI f.1 g).bind fun i=>
    (getI i b).bind fun j=>
    (sparseref03_Of j).bind fun a=>
    (sparseref02_Sign a.1 a.2.1 a.2.2.1 a.2.2.2).bind fun k=>
    if k=0 then
      (app c [(false,[])]).bind fun l=>
      sparseref09_Integers_j21 b l
    else
      (sparseref01_Shift a.2.1 a.2.2.1 (ws .i64 a.2.2.2 h)).bind fun d=>
      (app c [(d.1,d.2)]).bind fun m=>
      sparseref09_Integers_j21 b m
  else
    some (.inr c)
def sparseref09_Integers_l17 (c:Int) (d:Int) (e:L2×Int) (f:Int):(List (List (Bool×LI)))×Int→Option (((List (List (Bool×LI)))×Int)⊕(((List (List (Bool×LI)))))):=fun (b,a)=>
  if a < c then
    (loop (sparseref09_Integers_l20 d e a f) ([],0)).bind fun g=>
    (app b [g]).bind fun h=>
    some (.inl (h,wa .i64 a 1))
  else
    some (.inr b)
def sparseref09_Integers_j25 (a:Int) (b:Int) (c:Bool):Option ((Int×Bool×Int)⊕(Int)):=
  some (.inl (b,c,wa .i64 a 1))
def sparseref09_Integers_l8 (d:LI):Int×Bool×Int→Option ((Int×Bool×Int)⊕(Int)):=fun (c,e,b)=>
  if b < (d.length:Int) then
    (getI d b).bind fun f=>
    (sparseref03_Of f).bind fun a=>
    (sparseref02_Sign a.1 a.2.1 a.2.2.1 a.2.2.2).bind fun g=>
    if ((!(decide (g=0))) && ((!(e)) || (decide (a.2.2.2 < c))))=true then
      sparseref09_Integers_j25 b a.2.2.2 true
    else
      sparseref09_Integers_j25 b c e
  else
    some (.inr c)
def sparseref09_Integers (a:Int) (b:Int) (d:LI) (e:LI) (c:LI):Option ((List (List (Bool×LI)))×Int×Int):=
  (sparseref09_Check a b d e c).bind fun f=>
  if f=0 then
    if ((decide ((16:Int) < a)) || (decide ((16:Int) < b)))=true then
      some ([],0,6)
    else
      (loop (sparseref09_Integers_l8 c) (0,false,0)).bind fun g=>
      (sparseref09_Dense a b d e c).bind fun h=>
      (loop (sparseref09_Integers_l17 a b h g) ([],0)).bind fun i=>
      some (i,g,0)
  else
    some ([],0,f)
def sparseref08_fracs_l4 (b:List (List (Bool×LI))) (c:Int):(List (Bool×LI×Bool×LI))×Int→Option (((List (Bool×LI×Bool×LI))×Int)⊕(((List (Bool×LI×Bool×LI))))):=fun (d,a)=>
  (getI b c).bind fun h=>
  if a < (h.length:Int) then
    (getI b c).bind fun i=>
    (getI i a).bind fun e=>
    (sparseref01_Norm e.1 e.2).bind fun f=>
    (sparseref01_FromInt 1).bind fun g=>
    (app d [(f.1,f.2,g.1,g.2)]).bind fun j=>
    some (.inl (j,wa .i64 a 1))
  else
    some (.inr d)
def sparseref08_fracs_l3 (b:List (List (Bool×LI))):(List (List (Bool×LI×Bool×LI)))×Int→Option (((List (List (Bool×LI×Bool×LI)))×Int)⊕(((List (List (Bool×LI×Bool×LI)))))):=fun (c,a)=>
  if a < (b.length:Int) then
    (loop (sparseref08_fracs_l4 b a) ([],0)).bind fun d=>
    (app c [d]).bind fun e=>
    some (.inl (e,wa .i64 a 1))
  else
    some (.inr c)
def sparseref08_fracs (a:List (List (Bool×LI))):Option ((List (List (Bool×LI×Bool×LI)))):=
  (loop (sparseref08_fracs_l3 a) ([],0)).bind fun b=>
  some b
def sparseref08_Cols (a:List (List (Bool×LI))):Option (Int):=
  if (a.length:Int)=0 then
    some 0
  else
    (getI a 0).bind fun b=>
    some (b.length:Int)
def sparseref08_zero (a:Bool) (b:LI) (d:Bool) (e:LI):Option (Bool):=
  (sparseref01_Sign a b).bind fun c=>
  some (decide (c=0))
end M
