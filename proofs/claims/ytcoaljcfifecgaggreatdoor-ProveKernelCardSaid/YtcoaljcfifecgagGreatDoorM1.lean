/- Models of functions of the program, printed. -/
import Derived.Test.YtcoaljcfifecgagGreatDoorM0
namespace M
open Sx
set_option linter.unusedVariables false
def sparseref01_cmpMag_l1 (b:LI) (c:LI):Int→Option ((Int)⊕(Unit⊕Int)):=fun a=>
  if (0:Int)≤a then
    (getI b a).bind fun d=>
    (getI c a).bind fun e=>
    if d=e then
      some (.inl (ws .i64 a 1))
    else
      (getI b a).bind fun f=>
      (getI c a).bind fun g=>
      if f < g then
        some (.inr (.inr (-1)))
      else
        some (.inr (.inr 1))
  else
    some (.inr (.inl ()))
def sparseref01_cmpMag (a:LI) (b:LI):Option (Int):=
  if (a.length:Int)=(b.length:Int) then
    (loop (sparseref01_cmpMag_l1 a b) (ws .i64 (a.length:Int) 1)).bind (fun o=>match o with
      | .inl ()=>
        some 0
      | .inr c=>
        some c)
  else
    if (a.length:Int) < (b.length:Int) then
      some (-1)
    else
      some 1
def sparseref01_subMag_j4 (b:LI) (c:Int) (a:Int):Option ((LI×Int×Int)⊕(LI)):=
  (app b [wc .u32 a]).bind fun d=>
  some (.inl (d,wsrc .u64 a 63,wa .i64 c 1))
def sparseref01_subMag_l3 (c:LI) (d:LI):LI×Int×Int→Option ((LI×Int×Int)⊕(LI)):=fun (b,e,a)=>
  if a < (c.length:Int) then
    (getI c a).bind fun f=>
    if a < (d.length:Int) then
      (getI d a).bind fun g=>
      sparseref01_subMag_j4 b a (ws .u64 (ws .u64 (wc .u64 f) e) (wc .u64 g))
    else
      sparseref01_subMag_j4 b a (ws .u64 (wc .u64 f) e)
  else
    some (.inr b)
def sparseref01_subMag (a:LI) (b:LI):Option (LI):=
  (loop (sparseref01_subMag_l3 a b) ([],0,0)).bind fun c=>
  some c
def sparseref01_Add (c:Bool) (h:LI) (d:Bool) (i:LI):Option (Bool×LI):=
  (sparseref01_trim h).bind fun a=>
  (sparseref01_trim i).bind fun b=>
  if (c == d)=true then
    (sparseref01_addMag a b).bind fun j=>
    (sparseref01_make1 c j).bind fun e=>
    some (e.1,e.2)
  else
    (sparseref01_cmpMag a b).bind fun k=>
    if (0:Int)≤k then
      (sparseref01_subMag a b).bind fun l=>
      (sparseref01_make1 c l).bind fun f=>
      some (f.1,f.2)
    else
      (sparseref01_subMag b a).bind fun m=>
      (sparseref01_make1 d m).bind fun g=>
      some (g.1,g.2)
def sparseref01_Sub (c:Bool) (d:LI) (e:Bool) (f:LI):Option (Bool×LI):=
  (sparseref01_Neg e f).bind fun a=>
  (sparseref01_Add c d a.1 a.2).bind fun b=>
  some (b.1,b.2)
def sparseref01_Shift_j2 (a:Bool) (b:LI):Option (Bool×LI):=
  some (a,b)
def sparseref01_Shift (h:Bool) (i:LI) (c:Int):Option (Bool×LI):=
  (sparseref01_Norm h i).bind fun a=>
  if (0:Int)≤c then
    (sparseref01_shl a.2 c).bind fun j=>
    (sparseref01_make1 a.1 j).bind fun d=>
    some (d.1,d.2)
  else
    (sparseref01_shr a.2 (wneg .i64 c)).bind fun e=>
    (sparseref01_make1 a.1 e.1).bind fun b=>
    if (a.1 && e.2)=true then
      (sparseref01_FromInt 1).bind fun f=>
      (sparseref01_Sub b.1 b.2 f.1 f.2).bind fun g=>
      sparseref01_Shift_j2 g.1 g.2
    else
      sparseref01_Shift_j2 b.1 b.2
def sparseref02_down_l1:Int×Bool×LI→Option ((Int×Bool×LI)⊕((Int×Bool×LI))):=fun (a,b,c)=>
  if (1048576:Int) < a then
    (sparseref01_Shift b c (-1048576)).bind fun d=>
    some (.inl (ws .i64 a 1048576,d.1,d.2))
  else
    some (.inr (a,b,c))
def sparseref02_down (b:Bool) (c:LI) (d:Int):Option (Bool×LI):=
  (loop (sparseref02_down_l1) (d,b,c)).bind fun (e,f,g)=>
  (sparseref01_Shift f g (wneg .i64 e)).bind fun a=>
  some (a.1,a.2)
def math_bits_Len32_j2 (a:Int) (b:Int):Option (Int):=
  (getI [0,1,2,2,3,3,3,3,4,4,4,4,4,4,4,4,5,5,5,5,5,5,5,5,5,5,5,5,5,5,5,5,6,6,6,6,6,6,6,6,6,6,6,6,6,6,6,6,6,6,6,6,6,6,6,6,6,6,6,6,6,6,6,6,7,7,7,7,7,7,7,7,7,7,7,7,7,7,7,7,7,7,7,7,7,7,7,7,7,7,7,7,7,7,7,7,7,7,7,7,7,7,7,7,7,7,7,7,7,7,7,7,7,7,7,7,7,7,7,7,7,7,7,7,7,7,7,7,8,8,8,8,8,8,8,8,8,8,8,8,8,8,8,8,8,8,8,8,8,8,8,8,8,8,8,8,8,8,8,8,8,8,8,8,8,8,8,8,8,8,8,8,8,8,8,8,8,8,8,8,8,8,8,8,8,8,8,8,8,8,8,8,8,8,8,8,8,8,8,8,8,8,8,8,8,8,8,8,8,8,8,8,8,8,8,8,8,8,8,8,8,8,8,8,8,8,8,8,8,8,8,8,8,8,8,8,8,8,8,8,8,8,8,8,8,8,8,8,8,8,8,8,8,8,8,8] (wc .u8 a)).bind fun c=>
  some (wa .i64 b (wc .i64 c))
def math_bits_Len32_j1 (a:Int) (b:Int):Option (Int):=
  if (256:Int)≤a then
    math_bits_Len32_j2 (wsrc .u32 a 8) (wa .i64 b 8)
  else
    math_bits_Len32_j2 a b
def math_bits_Len32 (a:Int):Option (Int):=
  if (65536:Int)≤a then
    math_bits_Len32_j1 (wsrc .u32 a 16) 16
  else
    math_bits_Len32_j1 a 0
def sparseref01_BitLen (e:Bool) (b:LI):Option (Int):=
  (sparseref01_trim b).bind fun a=>
  if (a.length:Int)=0 then
    some 0
  else
    (getI a (ws .i64 (a.length:Int) 1)).bind fun c=>
    (math_bits_Len32 c).bind fun d=>
    some (wa .i64 (wm .i64 32 (ws .i64 (a.length:Int) 1)) d)
def sparseref02_Make (g:Bool) (i:LI) (b:Int):Option (Bool×Bool×LI×Int):=
  (sparseref01_Norm g i).bind fun a=>
  if (a.2.length:Int)=0 then
    some (false,false,[],0)
  else
    if (65536:Int) < b then
      (sparseref02_Bad).bind fun d=>
      some (d.1,d.2.1,[],d.2.2)
    else
      (sparseref01_TrailingZeros a.1 a.2).bind fun c=>
      (sparseref01_Abs a.1 a.2).bind fun h=>
      (sparseref02_down h.1 h.2 c).bind fun e=>
      (if (wa .i64 b c) < (-65536) then
        some true
      else
        (sparseref01_BitLen e.1 e.2).bind fun j=>
        some (decide ((65536:Int) < (wa .i64 (wa .i64 b c) j)))).bind fun k=>
      if k=true then
        (sparseref02_Bad).bind fun f=>
        some (f.1,f.2.1,[],f.2.2)
      else
        some (false,g,e.2,wa .i64 b c)
def sparseref02_FromInt (c:Int):Option (Bool×Bool×LI×Int):=
  (sparseref01_FromInt c).bind fun b=>
  (sparseref02_Make b.1 b.2 0).bind fun a=>
  some (a.1,a.2.1,a.2.2.1,a.2.2.2)
def sparseref02_Norm (c:Bool) (d:Bool) (e:LI) (f:Int):Option (Bool×Bool×LI×Int):=
  if c=true then
    (sparseref02_Bad).bind fun b=>
    some (b.1,b.2.1,[],b.2.2)
  else
    (sparseref02_Make d e f).bind fun a=>
    some (a.1,a.2.1,a.2.2.1,a.2.2.2)
def sparseref01_Sign (b:Bool) (c:LI):Option (Int):=
  (sparseref01_Norm b c).bind fun a=>
  if (a.2.length:Int)=0 then
    some 0
  else
    if a.1=true then
      some (-1)
    else
      some 1
def sparseref03_signed (b:Bool) (a:Int):Option (Int):=
  if b=true then
    some (wor .u64 a 9223372036854775808)
  else
    some a
def sparseref03_over (a:Bool) (b:Int):Option (Int):=
  if (((decide (b=3)) || ((decide (b=1)) && (!(a)))) || ((decide (b=2)) && a))=true then
    (sparseref03_signed a 9218868437227405311).bind fun c=>
    some c
  else
    (sparseref03_signed a 9218868437227405312).bind fun d=>
    some d
end M
