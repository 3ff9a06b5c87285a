/- Models of functions of the program, printed. -/
import Derived.Test.YtcoaljcfifecgagGreatDoorM9
namespace M
open Sx
set_option linter.unusedVariables false
def modular_Primes_j7 (a:Int) (b:LI):Option ((LI×Int)⊕(LI)):=
  some (.inl (b,ws .i64 a 1))
def modular_Primes_l5 (c:Int):LI×Int→Option ((LI×Int)⊕(LI)):=fun (b,a)=>
  if ((decide ((2:Int)≤a)) && (decide ((b.length:Int) < (imin c 100))))=true then
    (modular_IsPrime a).bind fun d=>
    if d=true then
      (app b [a]).bind fun e=>
      modular_Primes_j7 a e
    else
      modular_Primes_j7 a b
  else
    some (.inr b)
def modular_Primes (a:Int) (b:Int):Option (LI):=
  if a≤2 then
    some []
  else
    (loop (modular_Primes_l5 b) ([],imin (ws .i64 a 1) 2147483647)).bind fun c=>
    some c
def integer_Int_l1 (b:LI):Int×Int→Option ((Int×Int)⊕(Int)):=fun (c,a)=>
  if a < (b.length:Int) then
    (getI b a).bind fun d=>
    (wshl .u64 (wc .u64 d) (wm .i64 32 a)).bind fun e=>
    some (.inl (wor .u64 c e,wa .i64 a 1))
  else
    some (.inr c)
def integer_Int (b:Bool) (d:LI):Option (Int×Bool):=
  (integer_trim d).bind fun c=>
  if (2:Int) < (c.length:Int) then
    some (0,false)
  else
    (loop (integer_Int_l1 c) (0,0)).bind fun a=>
    if ((b && (decide ((0:Int) < a))) && (decide (a≤9223372036854775808)))=true then
      some (ws .i64 (wneg .i64 (wc .i64 (ws .u64 a 1))) 1,true)
    else
      if ((decide (a < 9223372036854775808)) && ((!(b)) || (decide (a=0))))=true then
        some (wc .i64 a,true)
      else
        some (0,false)
def modular_remainder (c:Bool) (d:LI) (e:Int):Option (Int):=
  (integer_FromInt e).bind fun a=>
  (integer_DivMod c d a.1 a.2).bind fun b=>
  (integer_Int b.2.2.1 b.2.2.2.1).bind fun f=>
  some f.1
def modular_Reduce (b:Bool) (c:LI) (a:Int):Option (Int×Int):=
  (modular_IsPrime a).bind fun d=>
  if d=true then
    (modular_remainder b c a).bind fun e=>
    some (e,0)
  else
    some (0,70)
def prove_reduced_l4 (c:List (Bool×LI)) (f:Int) (d:Int):L2×Int→Option ((L2×Int)⊕(L2)):=fun (a,b)=>
  if b < (c.length:Int) then
    (getI c b).bind fun e=>
    (modular_Reduce e.1 e.2 f).bind fun g=>
    (getI a d).bind fun h=>
    (app h [g.1]).bind fun i=>
    (setI a d i).bind fun j=>
    some (.inl (j,wa .i64 b 1))
  else
    some (.inr a)
def prove_reduced_l3 (b:List (List (Bool×LI))) (d:Int):L2×Int→Option ((L2×Int)⊕(L2)):=fun (c,a)=>
  if a < (b.length:Int) then
    (getI b a).bind fun e=>
    (loop (prove_reduced_l4 e d a) (c,0)).bind fun f=>
    some (.inl (f,wa .i64 a 1))
  else
    some (.inr c)
def prove_reduced (a:List (List (Bool×LI))) (b:Int):Option (L2):=
  (mkL ([]:LI) (a.length:Int)).bind fun c=>
  (loop (prove_reduced_l3 a b) (c,0)).bind fun d=>
  some d
def slices_Clip_int (a:L2):Option (Unit):=
  some ()
def modular_columns (a:L2):Option (Int):=
  if (a.length:Int)=0 then
    some 0
  else
    (getI a 0).bind fun b=>
    some (b.length:Int)
def modular_check_1 (a:LI) (b:Int):Option (Bool):=
  some (!(decide ((a.length:Int)=b)))
def slices_IndexFunc_int_l1 (b:L2) (c:Int):Int→Option ((Int)⊕(Unit⊕Int)):=fun a=>
  if a < (b.length:Int) then
    (getI b a).bind fun d=>
    (modular_check_1 d c).bind fun e=>
    if e=true then
      some (.inr (.inr a))
    else
      some (.inl (wa .i64 a 1))
  else
    some (.inr (.inl ()))
def slices_IndexFunc_int (a:L2) (b:Int):Option (Int):=
  (loop (slices_IndexFunc_int_l1 a b) 0).bind (fun o=>match o with
    | .inl ()=>
      some (-1)
    | .inr c=>
      some c)
def slices_ContainsFunc_int (a:L2) (b:Int):Option (Bool):=
  (slices_IndexFunc_int a b).bind fun c=>
  some (decide ((0:Int)≤c))
def modular_check (a:L2) (c:Int):Option (Int):=
  (modular_columns a).bind fun b=>
  (modular_IsPrime c).bind fun d=>
  if d=true then
    (slices_ContainsFunc_int a b).bind fun e=>
    if e=true then
      some 5
    else
      if ((decide ((200:Int) < (a.length:Int))) || (decide ((200:Int) < b)))=true then
        some 6
      else
        some 0
  else
    some 70
def modular_mod_j1 (a:Int):Option (Int):=
  some a
def modular_mod (c:Int) (b:Int):Option (Int):=
  (wr c b).bind fun a=>
  if a < 0 then
    modular_mod_j1 (wa .i64 a b)
  else
    modular_mod_j1 a
def modular_reduced_l4 (b:LI) (d:Int):LI×Int→Option ((LI×Int)⊕(LI)):=fun (c,a)=>
  if a < (b.length:Int) then
    (getI b a).bind fun e=>
    (modular_mod e d).bind fun f=>
    (app c [f]).bind fun g=>
    some (.inl (g,wa .i64 a 1))
  else
    some (.inr c)
def modular_reduced_l3 (b:L2) (d:Int):L2×Int→Option ((L2×Int)⊕(L2)):=fun (c,a)=>
  if a < (b.length:Int) then
    (getI b a).bind fun e=>
    (loop (modular_reduced_l4 e d) ([],0)).bind fun f=>
    (app c [f]).bind fun g=>
    some (.inl (g,wa .i64 a 1))
  else
    some (.inr c)
def modular_reduced (a:L2) (b:Int):Option (L2):=
  (loop (modular_reduced_l3 a b) ([],0)).bind fun c=>
  some c
def modular_echelon_1 (a:LI) (b:Int):Option (Bool):=
  (getI a b).bind fun c=>
  some (!(decide (c=0)))
end M
