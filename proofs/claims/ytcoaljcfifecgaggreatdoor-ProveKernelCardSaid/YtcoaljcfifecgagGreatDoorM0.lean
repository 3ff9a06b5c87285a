/- Models of functions of the program, printed. -/
import Derived.Test.YtcoaljcfifecgagGreatDoorTm
namespace M
open Sx
set_option linter.unusedVariables false
def sparsegen_Mod (a:Int) (b:Int):Option (Int):=
  (wr (wc .u64 a) (wc .u64 b)).bind fun c=>
  some (wc .i64 c)
def sparsegen_Word_j1 (a:Int):Option (Int):=
  some (wxor .u64 (wm .u64 (wxor .u64 a (wsrc .u64 a 31)) 13787848793156543929) (wsrc .u64 (wm .u64 (wxor .u64 a (wsrc .u64 a 31)) 13787848793156543929) 29))
def sparsegen_Word (a:LI) (b:Int):Option (Int):=
  if (0:Int) < (a.length:Int) then
    (sparsegen_Mod b (a.length:Int)).bind fun c=>
    (getI a c).bind fun d=>
    sparsegen_Word_j1 (wxor .u64 (wm .u64 (wc .u64 (wa .i64 b 1)) 11400714819323198485) d)
  else
    sparsegen_Word_j1 (wm .u64 (wc .u64 (wa .i64 b 1)) 11400714819323198485)
def sparseref03_IsFinite (a:Int):Option (Bool):=
  some (!(decide ((wand .u64 (wsrc .u64 a 52) 2047)=2047)))
def sparseref01_trim_l4 (c:Int) (d:LI):LI×Int→Option ((LI×Int)⊕(LI)):=fun (b,a)=>
  if a < c then
    (getI d a).bind fun e=>
    (app b [e]).bind fun f=>
    some (.inl (f,wa .i64 a 1))
  else
    some (.inr b)
def sparseref01_trim_l3 (b:LI):Int→Option ((Int)⊕(Int)):=fun a=>
  (if (0:Int) < a then
    (getI b (ws .i64 a 1)).bind fun c=>
    some (decide (c=0))
  else
    some false).bind fun d=>
  if d=true then
    some (.inl (ws .i64 a 1))
  else
    some (.inr a)
def sparseref01_trim (a:LI):Option (LI):=
  (loop (sparseref01_trim_l3 a) (a.length:Int)).bind fun b=>
  (loop (sparseref01_trim_l4 b a) ([],0)).bind fun c=>
  some c
def sparseref01_make1 (b:Bool) (c:LI):Option (Bool×LI):=
  (sparseref01_trim c).bind fun a=>
  some ((b && (decide ((0:Int) < (a.length:Int)))),a)
def sparseref01_FromInt_j1 (c:Int) (a:Int):Option (Bool×LI):=
  (sparseref01_make1 (decide (c < 0)) [wc .u32 a,wc .u32 (wsrc .u64 a 32)]).bind fun b=>
  some (b.1,b.2)
def sparseref01_FromInt (a:Int):Option (Bool×LI):=
  if a < 0 then
    sparseref01_FromInt_j1 a (wa .u64 (wc .u64 (wneg .i64 (wa .i64 a 1))) 1)
  else
    sparseref01_FromInt_j1 a (wc .u64 a)
def sparseref01_Norm (b:Bool) (c:LI):Option (Bool×LI):=
  (sparseref01_make1 b c).bind fun a=>
  some (a.1,a.2)
def sparseref02_Bad:Option (Bool×Bool×Int):=
  some (true,false,0)
def sparseref01_TrailingZeros_l1 (b:LI):Int→Option ((Int)⊕(Unit⊕Int)):=fun a=>
  if a < (b.length:Int) then
    (getI b a).bind fun c=>
    if c=0 then
      some (.inl (wa .i64 a 1))
    else
      (getI b a).bind fun d=>
      (tz32 d).bind fun e=>
      some (.inr (.inr (wa .i64 (wm .i64 32 a) e)))
  else
    some (.inr (.inl ()))
def sparseref01_TrailingZeros (d:Bool) (a:LI):Option (Int):=
  (sparseref01_trim a).bind fun b=>
  (loop (sparseref01_TrailingZeros_l1 b) 0).bind (fun o=>match o with
    | .inl ()=>
      some 0
    | .inr c=>
      some c)
def sparseref01_Abs (c:Bool) (b:LI):Option (Bool×LI):=
  (sparseref01_make1 false b).bind fun a=>
  some (a.1,a.2)
def sparseref01_shl_l1 (c:LI) (f:Int):LI×Int×Int→Option ((LI×Int×Int)⊕((LI×Int))):=fun (d,a,b)=>
  if b < (c.length:Int) then
    (getI c b).bind fun g=>
    (wshl .u64 (wc .u64 g) (wrc f 32)).bind fun e=>
    (app d [wc .u32 (wor .u64 a e)]).bind fun h=>
    some (.inl (h,wsrc .u64 (wor .u64 a e) 32,wa .i64 b 1))
  else
    some (.inr (d,a))
def sparseref01_shl (b:LI) (a:Int):Option (LI):=
  (mkL 0 (wqc .i64 a 32)).bind fun c=>
  (loop (sparseref01_shl_l1 b a) (c,0,0)).bind fun (d,e)=>
  (app d [wc .u32 e]).bind fun f=>
  some f
def sparseref01_shr_j20 (a:Int) (b:Int) (c:LI) (d:Int) (e:Bool):Option ((Bool×LI×Int)⊕((Bool×LI))):=
  (wshr .u64 a (wrc b 32)).bind fun f=>
  (app c [wc .u32 f]).bind fun g=>
  some (.inl (e,g,wa .i64 d 1))
def sparseref01_shr_j16 (a:Int) (b:Int) (e:LI) (c:LI) (f:Bool) (d:Int):Option ((Bool×LI×Int)⊕((Bool×LI))):=
  (if a=(wqc .i64 b 32) then
    (getI e a).bind fun g=>
    (wshl .u32 1 (wrc b 32)).bind fun h=>
    some (!(decide ((wand .u32 g (ws .u32 h 1))=0)))
  else
    some false).bind fun i=>
  if i=true then
    sparseref01_shr_j20 d b c a true
  else
    sparseref01_shr_j20 d b c a f
def sparseref01_shr_l15 (a:LI) (e:Int):Bool×LI×Int→Option ((Bool×LI×Int)⊕((Bool×LI))):=fun (c,d,b)=>
  if b < (a.length:Int) then
    (getI a b).bind fun f=>
    if (wa .i64 b 1) < (a.length:Int) then
      (getI a (wa .i64 b 1)).bind fun g=>
      sparseref01_shr_j16 b e a d c (wor .u64 (wc .u64 f) (wslc .u64 (wc .u64 g) 32))
    else
      sparseref01_shr_j16 b e a d c (wc .u64 f)
  else
    some (.inr (c,d))
def sparseref01_shr_l4 (d:Int) (b:LI):Bool×Int→Option ((Bool×Int)⊕(Bool)):=fun (c,a)=>
  if ((decide (a < (wqc .i64 d 32))) && (decide (a < (b.length:Int))))=true then
    (if c=true then
      some true
    else
      (getI b a).bind fun e=>
      some (!(decide (e=0)))).bind fun f=>
    some (.inl (f,wa .i64 a 1))
  else
    some (.inr c)
def sparseref01_shr (b:LI) (a:Int):Option (LI×Bool):=
  (loop (sparseref01_shr_l4 a b) (false,0)).bind fun c=>
  (loop (sparseref01_shr_l15 b a) (c,[],wqc .i64 a 32)).bind fun (d,e)=>
  some (e,d)
def sparseref01_Neg (b:Bool) (c:LI):Option (Bool×LI):=
  (sparseref01_make1 (!(b)) c).bind fun a=>
  some (a.1,a.2)
def sparseref01_addMag_j7 (b:LI) (c:Int) (a:Int):Option ((LI×Int×Int)⊕((LI×Int))):=
  (app b [wc .u32 a]).bind fun d=>
  some (.inl (d,wsrc .u64 a 32,wa .i64 c 1))
def sparseref01_addMag_j6 (a:Int) (b:LI) (c:LI) (d:Int):Option ((LI×Int×Int)⊕((LI×Int))):=
  if a < (b.length:Int) then
    (getI b a).bind fun e=>
    sparseref01_addMag_j7 c a (wa .u64 d (wc .u64 e))
  else
    sparseref01_addMag_j7 c a d
def sparseref01_addMag_l5 (b:LI) (c:LI):LI×Int×Int→Option ((LI×Int×Int)⊕((LI×Int))):=fun (d,e,a)=>
  if a < (imax (b.length:Int) (c.length:Int)) then
    if a < (b.length:Int) then
      (getI b a).bind fun f=>
      sparseref01_addMag_j6 a c d (wa .u64 e (wc .u64 f))
    else
      sparseref01_addMag_j6 a c d e
  else
    some (.inr (d,e))
def sparseref01_addMag (a:LI) (b:LI):Option (LI):=
  (loop (sparseref01_addMag_l5 a b) ([],0,0)).bind fun (c,d)=>
  (app c [wc .u32 d]).bind fun e=>
  some e
end M
