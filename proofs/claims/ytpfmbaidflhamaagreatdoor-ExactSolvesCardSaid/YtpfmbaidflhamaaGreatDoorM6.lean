/- Models of functions of the program, printed. -/
import Derived.Test.YtpfmbaidflhamaaGreatDoorM5
namespace M
open Sx
set_option linter.unusedVariables false
def sparseref08_fracs_l4 (b:List (List (Bool×LI))) (c:Int):(List (Bool×LI×Bool×LI))×Int→Option (((List (Bool×LI×Bool×LI))×Int)⊕(((List (Bool×LI×Bool×LI))))):=fun (d,a)=>
  (getI b c).bind fun h=>
  if a < (h.length:Int) then
    (getI b c).bind fun i=>
    (getI i a).bind fun e=>
    (sparseref01_Norm e.1 e.2).bind fun f=>
    (sparseref01_FromInt 1).bind fun g=>
    (app d [(f.1,f.2,g.1,g.2)]).bind fun j=>
    some (.inl (j,wa .i64 a 1))
  else
    some (.inr d)
def sparseref08_fracs_l3 (b:List (List (Bool×LI))):(List (List (Bool×LI×Bool×LI)))×Int→Option (((List (List (Bool×LI×Bool×LI)))×Int)⊕(((List (List (Bool×LI×Bool×LI)))))):=fun (c,a)=>
  if a < (b.length:Int) then
    (loop (sparseref08_fracs_l4 b a) ([],0)).bind fun d=>
    (app c [d]).bind fun e=>
    some (.inl (e,wa .i64 a 1))
  else
    some (.inr c)
def sparseref08_fracs (a:List (List (Bool×LI))):Option ((List (List (Bool×LI×Bool×LI)))):=
  (loop (sparseref08_fracs_l3 a) ([],0)).bind fun b=>
  some b
def sparseref01_Sign (b:Bool) (c:LI):Option (Int):=
  (sparseref01_Norm b c).bind fun a=>
  if (a.2.length:Int)=0 then
    some 0
  else
    if a.1=true then
      some (-1)
    else
      some 1
def sparseref08_zero (a:Bool) (b:LI) (d:Bool) (e:LI):Option (Bool):=
  (sparseref01_Sign a b).bind fun c=>
  some (decide (c=0))
def sparseref01_Neg (b:Bool) (c:LI):Option (Bool×LI):=
  (sparseref01_make1 (!(b)) c).bind fun a=>
  some (a.1,a.2)
def sparseref01_Abs (c:Bool) (b:LI):Option (Bool×LI):=
  (sparseref01_make1 false b).bind fun a=>
  some (a.1,a.2)
def sparseref01_shl_l1 (c:LI) (f:Int):LI×Int×Int→Option ((LI×Int×Int)⊕((LI×Int))):=fun (d,a,b)=>
  if b < (c.length:Int) then
    (getI c b).bind fun g=>
    (wshl .u64 (wc .u64 g) (wrc f 32)).bind fun e=>
    (app d [wc .u32 (wor .u64 a e)]).bind fun h=>
    some (.inl (h,wsrc .u64 (wor .u64 a e) 32,wa .i64 b 1))
  else
    some (.inr (d,a))
def sparseref01_shl (b:LI) (a:Int):Option (LI):=
  (mkL 0 (wqc .i64 a 32)).bind fun c=>
  (loop (sparseref01_shl_l1 b a) (c,0,0)).bind fun (d,e)=>
  (app d [wc .u32 e]).bind fun f=>
  some f
def sparseref01_take_l4 (c:LI) (d:LI) (e:Int):LI×Int→Option ((LI×Int)⊕(LI)):=fun (b,a)=>
  if a≤(c.length:Int) then
    (getI d a).bind fun f=>
    (setI b (wa .i64 a e) f).bind fun g=>
    some (.inl (g,wa .i64 a 1))
  else
    some (.inr b)
def sparseref01_take_j5 (e:LI) (a:Int) (f:Int) (g:LI) (c:Int) (b:Int):Option ((LI×Int×Int×Int)⊕((LI×Int))):=
  (getI e (wa .i64 a f)).bind fun d=>
  (setI g a (wc .u32 (ws .u64 (ws .u64 (wc .u64 d) c) (wand .u64 b 4294967295)))).bind fun h=>
  some (.inl (h,wsrc .u64 (ws .u64 (ws .u64 (wc .u64 d) c) (wand .u64 b 4294967295)) 63,wsrc .u64 b 32,wa .i64 a 1))
def sparseref01_take_l3 (b:LI) (e:LI) (f:Int) (h:Int):LI×Int×Int×Int→Option ((LI×Int×Int×Int)⊕((LI×Int))):=fun (c,d,g,a)=>
  if a≤(b.length:Int) then
    if a < (b.length:Int) then
      (getI b a).bind fun i=>
      sparseref01_take_j5 e a f c d (wa .u64 g (wm .u64 h (wc .u64 i)))
    else
      sparseref01_take_j5 e a f c d g
  else
    some (.inr (c,d))
def sparseref01_take (a:LI) (b:LI) (c:Int) (d:Int):Option (LI×Bool):=
  (mkL 0 (wa .i64 (b.length:Int) 1)).bind fun e=>
  (loop (sparseref01_take_l3 b a c d) (e,0,0,0)).bind fun (f,g)=>
  if g=0 then
    (loop (sparseref01_take_l4 b f c) (a,0)).bind fun h=>
    some (h,true)
  else
    some (a,false)
def sparseref01_shr_j20 (a:Int) (b:Int) (c:LI) (d:Int) (e:Bool):Option ((Bool×LI×Int)⊕((Bool×LI))):=
  (wshr .u64 a (wrc b 32)).bind fun f=>
  (app c [wc .u32 f]).bind fun g=>
  some (.inl (e,g,wa .i64 d 1))
def sparseref01_shr_j16 (a:Int) (b:Int) (e:LI) (c:LI) (f:Bool) (d:Int):Option ((Bool×LI×Int)⊕((Bool×LI))):=
  (if a=(wqc .i64 b 32) then
    (getI e a).bind fun g=>
    (wshl .u32 1 (wrc b 32)).bind fun h=>
    some (!(decide ((wand .u32 g (ws .u32 h 1))=0)))
  else
    some false).bind fun i=>
  if i=true then
    sparseref01_shr_j20 d b c a true
  else
    sparseref01_shr_j20 d b c a f
def sparseref01_shr_l15 (a:LI) (e:Int):Bool×LI×Int→Option ((Bool×LI×Int)⊕((Bool×LI))):=fun (c,d,b)=>
  if b < (a.length:Int) then
    (getI a b).bind fun f=>
    if (wa .i64 b 1) < (a.length:Int) then
      (getI a (wa .i64 b 1)).bind fun g=>
      sparseref01_shr_j16 b e a d c (wor .u64 (wc .u64 f) (wslc .u64 (wc .u64 g) 32))
    else
      sparseref01_shr_j16 b e a d c (wc .u64 f)
  else
    some (.inr (c,d))
def sparseref01_shr_l4 (d:Int) (b:LI):Bool×Int→Option ((Bool×Int)⊕(Bool)):=fun (c,a)=>
  if ((decide (a < (wqc .i64 d 32))) && (decide (a < (b.length:Int))))=true then
    (if c=true then
      some true
    else
      (getI b a).bind fun e=>
      some (!(decide (e=0)))).bind fun f=>
    some (.inl (f,wa .i64 a 1))
  else
    some (.inr c)
def sparseref01_shr (b:LI) (a:Int):Option (LI×Bool):=
  (loop (sparseref01_shr_l4 a b) (false,0)).bind fun c=>
  (loop (sparseref01_shr_l15 b a) (c,[],wqc .i64 a 32)).bind fun (d,e)=>
  some (e,d)
def sparseref01_divMag_l5 (c:LI) (d:Int):LI×Int→Option ((LI×Int)⊕((LI×Int))):=fun (e,a)=>
  (sparseref01_take e c d a).bind fun b=>
  if b.2=true then
    some (.inr (b.1,a))
  else
    some (.inl (b.1,ws .u64 a 1))
def sparseref01_divMag_l4 (c:LI) (d:LI):LI×LI×Int→Option ((LI×LI×Int)⊕((LI×LI))):=fun (b,e,a)=>
  if (0:Int)≤a then
    (getI b (wa .i64 a (c.length:Int))).bind fun f=>
    (getI b (ws .i64 (wa .i64 a (c.length:Int)) 1)).bind fun g=>
    (getI d (ws .i64 (c.length:Int) 1)).bind fun h=>
    (wq .u64 (wor .u64 (wslc .u64 (wc .u64 f) 32) (wc .u64 g)) (wc .u64 h)).bind fun i=>
    (loop (sparseref01_divMag_l5 d a) (b,imin i 4294967295)).bind fun (j,k)=>
    (setI e a (wc .u32 k)).bind fun l=>
    some (.inl (j,l,ws .i64 a 1))
  else
    some (.inr (b,e))
def sparseref01_divMag_j1 (b:LI) (a:LI) (c:LI) (d:Int) (e:LI):Option (LI×LI):=
  (mkL 0 (wa .i64 (ws .i64 (b.length:Int) (a.length:Int)) 1)).bind fun f=>
  (loop (sparseref01_divMag_l4 a c) (e,f,ws .i64 (b.length:Int) (a.length:Int))).bind fun (g,h)=>
  (sparseref01_trim g).bind fun i=>
  (sparseref01_shr i d).bind fun j=>
  (sparseref01_trim h).bind fun k=>
  (sparseref01_trim j.1).bind fun l=>
  some (k,l)
def sparseref01_divMag (b:LI) (a:LI):Option (LI×LI):=
  (sparseref01_cmpMag b a).bind fun f=>
  if f < 0 then
    some ([],b)
  else
    (getI a (ws .i64 (a.length:Int) 1)).bind fun g=>
    (math_bits_LeadingZeros32 g).bind fun c=>
    (sparseref01_shl b c).bind fun d=>
    (sparseref01_shl a c).bind fun h=>
    (sli h 0 (a.length:Int)).bind fun e=>
    if (d.length:Int)=(b.length:Int) then
      (app d [0]).bind fun i=>
      sparseref01_divMag_j1 b a e c i
    else
      sparseref01_divMag_j1 b a e c d
def sparseref01_Sub (c:Bool) (d:LI) (e:Bool) (f:LI):Option (Bool×LI):=
  (sparseref01_Neg e f).bind fun a=>
  (sparseref01_Add c d a.1 a.2).bind fun b=>
  some (b.1,b.2)
def sparseref01_DivMod_j3 (a:Bool) (b:LI) (c:Bool) (d:LI):Option (Bool×LI×Bool×LI):=
  some (a,b,c,d)
def sparseref01_DivMod_j4 (a:Bool×LI) (b:Bool) (c:LI):Option (Bool×LI×Bool×LI):=
  sparseref01_DivMod_j3 b c a.1 a.2
def sparseref01_DivMod (l:Bool) (m:LI) (n:Bool) (o:LI):Option (Bool×LI×Bool×LI):=
  (sparseref01_Norm l m).bind fun d=>
  (sparseref01_Norm n o).bind fun c=>
  (sparseref01_divMag d.2 c.2).bind fun e=>
  (sparseref01_make1 (!((d.1 == c.1))) e.1).bind fun a=>
  (sparseref01_make1 d.1 e.2).bind fun b=>
  (sparseref01_Sign b.1 b.2).bind fun p=>
  if p < 0 then
    (sparseref01_Abs c.1 c.2).bind fun f=>
    (sparseref01_Add b.1 b.2 f.1 f.2).bind fun g=>
    if c.1=true then
      (sparseref01_FromInt 1).bind fun h=>
      (sparseref01_Add a.1 a.2 h.1 h.2).bind fun i=>
      sparseref01_DivMod_j4 g i.1 i.2
    else
      (sparseref01_FromInt 1).bind fun j=>
      (sparseref01_Sub a.1 a.2 j.1 j.2).bind fun k=>
      sparseref01_DivMod_j4 g k.1 k.2
  else
    sparseref01_DivMod_j3 a.1 a.2 b.1 b.2
def sparseref01_GCD_l2:Bool×LI×Bool×LI→Option ((Bool×LI×Bool×LI)⊕((Bool×LI))):=fun (c,d,a,b)=>
  (sparseref01_Sign a b).bind fun f=>
  if f=0 then
    some (.inr (c,d))
  else
    (sparseref01_DivMod c d a b).bind fun e=>
    some (.inl (a,b,e.2.2.1,e.2.2.2))
def sparseref01_GCD (c:Bool) (d:LI) (e:Bool) (f:LI):Option (Bool×LI):=
  (sparseref01_Abs c d).bind fun a=>
  (sparseref01_Abs e f).bind fun b=>
  (loop (sparseref01_GCD_l2) (a.1,a.2,b.1,b.2)).bind fun (g,h)=>
  some (g,h)
def sparseref01_Quo (b:Bool) (c:LI) (d:Bool) (e:LI):Option (Bool×LI×Bool):=
  (sparseref01_DivMod b c d e).bind fun a=>
  (sparseref01_Sign a.2.2.1 a.2.2.2).bind fun f=>
  if f=0 then
    some (a.1,a.2.1,true)
  else
    some (false,[],false)
def sparseref08_frac_j1 (e:Bool) (f:LI) (g:Bool) (h:LI) (a:Bool) (b:LI):Option (Bool×LI×Bool×LI):=
  (sparseref01_Quo e f a b).bind fun c=>
  (sparseref01_Quo g h a b).bind fun d=>
  some (c.1,c.2.1,d.1,d.2.1)
def sparseref08_frac (d:Bool) (e:LI) (a:Bool) (b:LI):Option (Bool×LI×Bool×LI):=
  (sparseref01_GCD d e a b).bind fun c=>
  (sparseref01_Sign a b).bind fun g=>
  if g < 0 then
    (sparseref01_Neg c.1 c.2).bind fun f=>
    sparseref08_frac_j1 d e a b f.1 f.2
  else
    sparseref08_frac_j1 d e a b c.1 c.2
end M
