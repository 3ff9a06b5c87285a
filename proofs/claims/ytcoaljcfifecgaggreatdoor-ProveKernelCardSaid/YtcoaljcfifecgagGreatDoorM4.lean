/- Models of functions of the program, printed. -/
import Derived.Test.YtcoaljcfifecgagGreatDoorM3
namespace M
open Sx
set_option linter.unusedVariables false
def slices_IndexFunc_apiFloat_l1 (b:LI):Int→Option ((Int)⊕(Unit⊕Int)):=fun a=>
  if a < (b.length:Int) then
    (getI b a).bind fun c=>
    (matrix_Check_1 c).bind fun d=>
    if d=true then
      some (.inr (.inr a))
    else
      some (.inl (wa .i64 a 1))
  else
    some (.inr (.inl ()))
def slices_IndexFunc_apiFloat (a:LI):Option (Int):=
  (loop (slices_IndexFunc_apiFloat_l1 a) 0).bind (fun o=>match o with
    | .inl ()=>
      some (-1)
    | .inr b=>
      some b)
def slices_ContainsFunc_apiFloat (a:LI):Option (Bool):=
  (slices_IndexFunc_apiFloat a).bind fun b=>
  some (decide ((0:Int)≤b))
def matrix_Check (a:Int) (b:Int) (e:LI) (c:LI) (d:LI):Option (Int):=
  (matrix_within a 0 200).bind fun f=>
  (if f=true then
    (matrix_within b 0 200).bind fun g=>
    some (!(g))
  else
    some true).bind fun h=>
  if (h || (decide ((10000:Int) < (c.length:Int))))=true then
    some 6
  else
    (matrix_columns a b e c d).bind fun i=>
    if i=true then
      (slices_ContainsFunc_apiFloat d).bind fun j=>
      if j=true then
        some 4
      else
        some 0
    else
      some 1
def integer_trim_l3 (b:LI):Int→Option ((Int)⊕(Int)):=fun a=>
  (if (0:Int) < a then
    (getI b (ws .i64 a 1)).bind fun c=>
    some (decide (c=0))
  else
    some false).bind fun d=>
  if d=true then
    some (.inl (ws .i64 a 1))
  else
    some (.inr a)
def integer_trim (a:LI):Option (LI):=
  (loop (integer_trim_l3 a) (a.length:Int)).bind fun b=>
  (sli a 0 b).bind fun c=>
  some c
def integer_big (b:Bool) (c:LI):Option (Bool×LI):=
  (integer_trim c).bind fun a=>
  if (a.length:Int)=0 then
    some (false,[])
  else
    some (b,a)
def integer_FromInt_j1 (c:Int) (a:Int):Option (Bool×LI):=
  (integer_big (decide (c < 0)) [wc .u32 (wand .u64 a 4294967295),wc .u32 (wsrc .u64 a 32)]).bind fun b=>
  some (b.1,b.2)
def integer_FromInt (a:Int):Option (Bool×LI):=
  if a < 0 then
    integer_FromInt_j1 a (wneg .u64 (wc .u64 a))
  else
    integer_FromInt_j1 a (wc .u64 a)
def float_negative (a:Int):Option (Bool):=
  some (!(decide ((wand .u64 a 9223372036854775808)=0)))
def slices_Clone_uint32 (a:LI):Option (LI):=
  (app [] a).bind fun b=>
  some b
def integer_Neg (b:Bool) (c:LI):Option (Bool×LI):=
  (slices_Clone_uint32 c).bind fun d=>
  (integer_big (!(b)) d).bind fun a=>
  some (a.1,a.2)
def dyad_bad:Option (Bool×Bool×Int):=
  some (true,false,0)
def integer_Norm (b:Bool) (c:LI):Option (Bool×LI):=
  (slices_Clone_uint32 c).bind fun d=>
  (integer_big b d).bind fun a=>
  some (a.1,a.2)
def integer_Sign (a:Bool) (b:LI):Option (Int):=
  (integer_trim b).bind fun c=>
  if (c.length:Int)=0 then
    some 0
  else
    if a=true then
      some (-1)
    else
      some 1
def integer_TrailingZeros_l1 (b:LI):Int→Option ((Int)⊕(Unit⊕Int)):=fun a=>
  if a < (b.length:Int) then
    (getI b a).bind fun c=>
    if c=0 then
      some (.inl (wa .i64 a 1))
    else
      (tz32 c).bind fun d=>
      some (.inr (.inr (wa .i64 (wm .i64 a 32) d)))
  else
    some (.inr (.inl ()))
def integer_TrailingZeros (c:Bool) (a:LI):Option (Int):=
  (loop (integer_TrailingZeros_l1 a) 0).bind (fun o=>match o with
    | .inl ()=>
      some 0
    | .inr b=>
      some b)
def integer_length (a:LI):Option (Int):=
  if (a.length:Int)=0 then
    some 0
  else
    (getI a (ws .i64 (a.length:Int) 1)).bind fun b=>
    (math_bits_Len32 b).bind fun c=>
    some (wa .i64 (wm .i64 (ws .i64 (a.length:Int) 1) 32) c)
end M
