/- Models of functions of the program, printed. -/
import Derived.Test.YtcoaljcfifecgagGreatDoorM4
namespace M
open Sx
set_option linter.unusedVariables false
def integer_BitLen (d:Bool) (a:LI):Option (Int):=
  (integer_trim a).bind fun b=>
  (integer_length b).bind fun c=>
  some c
def integer_up_l1 (d:LI) (b:Int):LI×Int→Option ((LI×Int)⊕(LI)):=fun (c,a)=>
  if a < (d.length:Int) then
    (getI d a).bind fun f=>
    (wshl .u64 (wc .u64 f) (wc .u64 (wrc b 32))).bind fun e=>
    (getI c (wa .i64 (wqc .i64 b 32) a)).bind fun g=>
    (setI c (wa .i64 (wqc .i64 b 32) a) (wor .u32 g (wc .u32 (wand .u64 e 4294967295)))).bind fun h=>
    (setI h (wa .i64 (wa .i64 (wqc .i64 b 32) a) 1) (wc .u32 (wsrc .u64 e 32))).bind fun i=>
    some (.inl (i,wa .i64 a 1))
  else
    some (.inr c)
def integer_up (a:LI) (b:Int):Option (LI):=
  if (a.length:Int)=0 then
    some []
  else
    (mkL 0 (wa .i64 (wa .i64 (wqc .i64 b 32) (a.length:Int)) 1)).bind fun c=>
    (loop (integer_up_l1 a b) (c,0)).bind fun d=>
    (integer_trim d).bind fun e=>
    some e
def integer_down_1 (a:Int):Option (Bool):=
  some (!(decide (a=0)))
def slices_IndexFunc_uint32_l1 (b:LI):Int→Option ((Int)⊕(Unit⊕Int)):=fun a=>
  if a < (b.length:Int) then
    (getI b a).bind fun c=>
    (integer_down_1 c).bind fun d=>
    if d=true then
      some (.inr (.inr a))
    else
      some (.inl (wa .i64 a 1))
  else
    some (.inr (.inl ()))
def slices_IndexFunc_uint32 (a:LI):Option (Int):=
  (loop (slices_IndexFunc_uint32_l1 a) 0).bind (fun o=>match o with
    | .inl ()=>
      some (-1)
    | .inr b=>
      some b)
def slices_ContainsFunc_uint32 (a:LI):Option (Bool):=
  (slices_IndexFunc_uint32 a).bind fun b=>
  some (decide ((0:Int)≤b))
def integer_down_j5 (b:Int) (c:LI) (a:Int) (d:Int):Option ((LI×Int)⊕(LI)):=
  (wshr .u64 d (wc .u64 (wrc b 32))).bind fun e=>
  (setI c a (wc .u32 (wand .u64 e 4294967295))).bind fun f=>
  some (.inl (f,wa .i64 a 1))
def integer_down_l4 (f:LI) (c:LI) (b:Int):LI×Int→Option ((LI×Int)⊕(LI)):=fun (d,a)=>
  if a < (f.length:Int) then
    (getI c (wa .i64 (wqc .i64 b 32) a)).bind fun e=>
    if (wa .i64 (wa .i64 (wqc .i64 b 32) a) 1) < (c.length:Int) then
      (getI c (wa .i64 (wa .i64 (wqc .i64 b 32) a) 1)).bind fun g=>
      integer_down_j5 b d a (wor .u64 (wc .u64 e) (wslc .u64 (wc .u64 g) 32))
    else
      integer_down_j5 b d a (wc .u64 e)
  else
    some (.inr d)
def integer_down (a:LI) (b:Int):Option (LI×Bool):=
  if (a.length:Int)≤(wqc .i64 b 32) then
    some ([],decide ((0:Int) < (a.length:Int)))
  else
    (sli a 0 (wqc .i64 b 32)).bind fun d=>
    (slices_ContainsFunc_uint32 d).bind fun e=>
    (if e=true then
      some true
    else
      (getI a (wqc .i64 b 32)).bind fun f=>
      (wshl .u32 1 (wc .u64 (wrc b 32))).bind fun g=>
      some (!(decide ((wand .u32 f (ws .u32 g 1))=0)))).bind fun h=>
    (mkL 0 (ws .i64 (a.length:Int) (wqc .i64 b 32))).bind fun c=>
    (loop (integer_down_l4 c a b) (c,0)).bind fun i=>
    (integer_trim i).bind fun j=>
    some (j,h)
def integer_plus_j5 (b:LI) (c:Int) (a:Int):Option ((LI×Int×Int)⊕((LI×Int))):=
  (app b [wc .u32 (wand .u64 a 4294967295)]).bind fun d=>
  some (.inl (d,wsrc .u64 a 32,wa .i64 c 1))
def integer_plus_l4 (d:LI) (e:LI):LI×Int×Int→Option ((LI×Int×Int)⊕((LI×Int))):=fun (b,c,a)=>
  if a < (d.length:Int) then
    (getI d a).bind fun f=>
    if a < (e.length:Int) then
      (getI e a).bind fun g=>
      integer_plus_j5 b a (wa .u64 (wa .u64 (wc .u64 f) c) (wc .u64 g))
    else
      integer_plus_j5 b a (wa .u64 (wc .u64 f) c)
  else
    some (.inr (b,c))
def integer_plus_j1 (a:LI) (b:LI):Option (LI):=
  (mkLc 0 0 (wa .i64 (a.length:Int) 1)).bind fun c=>
  (loop (integer_plus_l4 a b) (c,0,0)).bind fun (d,e)=>
  (app d [wc .u32 e]).bind fun f=>
  (integer_trim f).bind fun g=>
  some g
def integer_plus (a:LI) (b:LI):Option (LI):=
  if (a.length:Int) < (b.length:Int) then
    integer_plus_j1 b a
  else
    integer_plus_j1 a b
def integer_Shift_j3 (b:Bool) (c:LI):Option (Bool×LI×Int):=
  (integer_big b c).bind fun a=>
  some (a.1,a.2,0)
def integer_Shift (b:Bool) (f:LI) (a:Int):Option (Bool×LI×Int):=
  if ((decide (a < (-1048576))) || (decide ((1048576:Int) < a)))=true then
    some (false,[],3)
  else
    (integer_trim f).bind fun d=>
    if (0:Int)≤a then
      (integer_up d a).bind fun g=>
      (integer_big b g).bind fun e=>
      some (e.1,e.2,0)
    else
      (integer_down d (wneg .i64 a)).bind fun c=>
      if (b && c.2)=true then
        (integer_plus c.1 [1]).bind fun h=>
        integer_Shift_j3 b h
      else
        integer_Shift_j3 b c.1
def dyad_right_l1:Int×Bool×LI→Option ((Int×Bool×LI)⊕((Int×Bool×LI))):=fun (a,b,c)=>
  if (1048576:Int) < a then
    (integer_Shift b c (-1048576)).bind fun d=>
    some (.inl (ws .i64 a 1048576,d.1,d.2.1))
  else
    some (.inr (a,b,c))
def dyad_right (b:Bool) (c:LI) (d:Int):Option (Bool×LI):=
  (loop (dyad_right_l1) (d,b,c)).bind fun (e,f,g)=>
  (integer_Shift f g (wneg .i64 e)).bind fun a=>
  some (a.1,a.2.1)
def dyad_norm (g:Bool) (h:Bool) (i:LI) (b:Int):Option (Bool×Bool×LI×Int×Bool):=
  if g=true then
    (dyad_bad).bind fun c=>
    some (c.1,c.2.1,[],c.2.2,false)
  else
    (integer_Norm h i).bind fun a=>
    (integer_Sign a.1 a.2).bind fun j=>
    if j=0 then
      some (false,false,[],0,true)
    else
      (integer_TrailingZeros a.1 a.2).bind fun d=>
      (integer_BitLen a.1 a.2).bind fun k=>
      (if (ws .i64 65536 k) < b then
        some true
      else
        some (decide (b < (ws .i64 (-65536) d)))).bind fun l=>
      if l=true then
        (dyad_bad).bind fun e=>
        some (e.1,e.2.1,[],e.2.2,false)
      else
        (dyad_right a.1 a.2 d).bind fun f=>
        some (false,f.1,f.2,wa .i64 b d,true)
def dyad_Make (b:Bool) (c:LI) (d:Int):Option (Bool×Bool×LI×Int):=
  (dyad_norm false b c d).bind fun a=>
  some (a.1,a.2.1,a.2.2.1,a.2.2.2.1)
def float_Of_j2 (b:Int) (c:Bool) (d:LI):Option (Bool×Bool×LI×Int):=
  (dyad_Make c d b).bind fun a=>
  some (a.1,a.2.1,a.2.2.1,a.2.2.2)
def float_Of_j1 (d:Int) (b:Int) (e:Int):Option (Bool×Bool×LI×Int):=
  (integer_FromInt (wc .i64 e)).bind fun a=>
  (float_negative d).bind fun f=>
  if f=true then
    (integer_Neg a.1 a.2).bind fun c=>
    float_Of_j2 b c.1 c.2
  else
    float_Of_j2 b a.1 a.2
def float_Of (b:Int):Option (Bool×Bool×LI×Int):=
  (float_parts b).bind fun a=>
  if a.1=2047 then
    some (true,false,[],0)
  else
    if a.1=0 then
      float_Of_j1 b (-1074) a.2
    else
      float_Of_j1 b (ws .i64 a.1 1075) (wor .u64 a.2 4503599627370496)
def dyad_Sign (b:Bool) (c:Bool) (d:LI) (e:Int):Option (Int):=
  (dyad_norm b c d e).bind fun a=>
  (integer_Sign a.2.1 a.2.2.1).bind fun f=>
  some f
def matrix_entries_l4 (d:LI) (b:Int) (e:LI) (f:LI):(List (Int×Int×Int))×Int→Option (((List (Int×Int×Int))×Int)⊕(((List (Int×Int×Int))))):=fun (c,a)=>
  (getI d (wa .i64 b 1)).bind fun g=>
  if a < g then
    (getI e a).bind fun h=>
    (getI f a).bind fun i=>
    (app c [(h,b,i)]).bind fun j=>
    some (.inl (j,wa .i64 a 1))
  else
    some (.inr c)
def matrix_entries_l3 (d:Int) (b:LI) (e:LI) (f:LI):(List (Int×Int×Int))×Int→Option (((List (Int×Int×Int))×Int)⊕(((List (Int×Int×Int))))):=fun (c,a)=>
  if a < d then
    (getI b a).bind fun g=>
    (loop (matrix_entries_l4 b a e f) (c,g)).bind fun h=>
    some (.inl (h,wa .i64 a 1))
  else
    some (.inr c)
def matrix_entries (f:Int) (a:Int) (b:LI) (c:LI) (d:LI):Option ((List (Int×Int×Int))):=
  (loop (matrix_entries_l3 a b c d) ([],0)).bind fun e=>
  some e
end M
