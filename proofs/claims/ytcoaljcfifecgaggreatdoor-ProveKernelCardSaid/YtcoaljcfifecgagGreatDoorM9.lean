/- Models of functions of the program, printed. -/
import Derived.Test.YtcoaljcfifecgagGreatDoorM8
namespace M
open Sx
set_option linter.unusedVariables false
def sparseref01_mulMag_l4 (e:LI) (i:LI) (b:Int):LI×Int×Int→Option ((LI×Int×Int)⊕((LI×Int))):=fun (c,d,a)=>
  if a < (e.length:Int) then
    (getI i b).bind fun f=>
    (getI e a).bind fun g=>
    (getI c (wa .i64 b a)).bind fun h=>
    (setI c (wa .i64 b a) (wc .u32 (wa .u64 (wa .u64 d (wm .u64 (wc .u64 f) (wc .u64 g))) (wc .u64 h)))).bind fun j=>
    some (.inl (j,wsrc .u64 (wa .u64 (wa .u64 d (wm .u64 (wc .u64 f) (wc .u64 g))) (wc .u64 h)) 32,wa .i64 a 1))
  else
    some (.inr (c,d))
def sparseref01_mulMag_l3 (b:LI) (c:LI):LI×Int→Option ((LI×Int)⊕(LI)):=fun (d,a)=>
  if a < (b.length:Int) then
    (loop (sparseref01_mulMag_l4 c b a) (d,0,0)).bind fun (e,f)=>
    (setI e (wa .i64 a (c.length:Int)) (wc .u32 f)).bind fun g=>
    some (.inl (g,wa .i64 a 1))
  else
    some (.inr d)
def sparseref01_mulMag (a:LI) (b:LI):Option (LI):=
  (mkL 0 (wa .i64 (a.length:Int) (b.length:Int))).bind fun c=>
  (loop (sparseref01_mulMag_l3 a b) (c,0)).bind fun d=>
  some d
def sparseref01_Mul (b:Bool) (c:LI) (d:Bool) (e:LI):Option (Bool×LI):=
  (sparseref01_trim c).bind fun f=>
  (sparseref01_trim e).bind fun g=>
  (sparseref01_mulMag f g).bind fun h=>
  (sparseref01_make1 (!((b == d))) h).bind fun a=>
  some (a.1,a.2)
def sparseref01_take_l4 (c:LI) (d:LI) (e:Int):LI×Int→Option ((LI×Int)⊕(LI)):=fun (b,a)=>
  if a≤(c.length:Int) then
    (getI d a).bind fun f=>
    (setI b (wa .i64 a e) f).bind fun g=>
    some (.inl (g,wa .i64 a 1))
  else
    some (.inr b)
def sparseref01_take_j5 (e:LI) (a:Int) (f:Int) (g:LI) (c:Int) (b:Int):Option ((LI×Int×Int×Int)⊕((LI×Int))):=
  (getI e (wa .i64 a f)).bind fun d=>
  (setI g a (wc .u32 (ws .u64 (ws .u64 (wc .u64 d) c) (wand .u64 b 4294967295)))).bind fun h=>
  some (.inl (h,wsrc .u64 (ws .u64 (ws .u64 (wc .u64 d) c) (wand .u64 b 4294967295)) 63,wsrc .u64 b 32,wa .i64 a 1))
def sparseref01_take_l3 (b:LI) (e:LI) (f:Int) (h:Int):LI×Int×Int×Int→Option ((LI×Int×Int×Int)⊕((LI×Int))):=fun (c,d,g,a)=>
  if a≤(b.length:Int) then
    if a < (b.length:Int) then
      (getI b a).bind fun i=>
      sparseref01_take_j5 e a f c d (wa .u64 g (wm .u64 h (wc .u64 i)))
    else
      sparseref01_take_j5 e a f c d g
  else
    some (.inr (c,d))
def sparseref01_take (a:LI) (b:LI) (c:Int) (d:Int):Option (LI×Bool):=
  (mkL 0 (wa .i64 (b.length:Int) 1)).bind fun e=>
  (loop (sparseref01_take_l3 b a c d) (e,0,0,0)).bind fun (f,g)=>
  if g=0 then
    (loop (sparseref01_take_l4 b f c) (a,0)).bind fun h=>
    some (h,true)
  else
    some (a,false)
def sparseref01_divMag_l5 (c:LI) (d:Int):LI×Int→Option ((LI×Int)⊕((LI×Int))):=fun (e,a)=>
  (sparseref01_take e c d a).bind fun b=>
  if b.2=true then
    some (.inr (b.1,a))
  else
    some (.inl (b.1,ws .u64 a 1))
def sparseref01_divMag_l4 (c:LI) (d:LI):LI×LI×Int→Option ((LI×LI×Int)⊕((LI×LI))):=fun (b,e,a)=>
  if (0:Int)≤a then
    (getI b (wa .i64 a (c.length:Int))).bind fun f=>
    (getI b (ws .i64 (wa .i64 a (c.length:Int)) 1)).bind fun g=>
    (getI d (ws .i64 (c.length:Int) 1)).bind fun h=>
    (wq .u64 (wor .u64 (wslc .u64 (wc .u64 f) 32) (wc .u64 g)) (wc .u64 h)).bind fun i=>
    (loop (sparseref01_divMag_l5 d a) (b,imin i 4294967295)).bind fun (j,k)=>
    (setI e a (wc .u32 k)).bind fun l=>
    some (.inl (j,l,ws .i64 a 1))
  else
    some (.inr (b,e))
def sparseref01_divMag_j1 (b:LI) (a:LI) (c:LI) (d:Int) (e:LI):Option (LI×LI):=
  (mkL 0 (wa .i64 (ws .i64 (b.length:Int) (a.length:Int)) 1)).bind fun f=>
  (loop (sparseref01_divMag_l4 a c) (e,f,ws .i64 (b.length:Int) (a.length:Int))).bind fun (g,h)=>
  (sparseref01_trim g).bind fun i=>
  (sparseref01_shr i d).bind fun j=>
  (sparseref01_trim h).bind fun k=>
  (sparseref01_trim j.1).bind fun l=>
  some (k,l)
def sparseref01_divMag (b:LI) (a:LI):Option (LI×LI):=
  (sparseref01_cmpMag b a).bind fun f=>
  if f < 0 then
    some ([],b)
  else
    (getI a (ws .i64 (a.length:Int) 1)).bind fun g=>
    (math_bits_LeadingZeros32 g).bind fun c=>
    (sparseref01_shl b c).bind fun d=>
    (sparseref01_shl a c).bind fun h=>
    (sli h 0 (a.length:Int)).bind fun e=>
    if (d.length:Int)=(b.length:Int) then
      (app d [0]).bind fun i=>
      sparseref01_divMag_j1 b a e c i
    else
      sparseref01_divMag_j1 b a e c d
def sparseref01_DivMod_j3 (a:Bool) (b:LI) (c:Bool) (d:LI):Option (Bool×LI×Bool×LI):=
  some (a,b,c,d)
def sparseref01_DivMod_j4 (a:Bool×LI) (b:Bool) (c:LI):Option (Bool×LI×Bool×LI):=
  sparseref01_DivMod_j3 b c a.1 a.2
def sparseref01_DivMod (l:Bool) (m:LI) (n:Bool) (o:LI):Option (Bool×LI×Bool×LI):=
  (sparseref01_Norm l m).bind fun d=>
  (sparseref01_Norm n o).bind fun c=>
  (sparseref01_divMag d.2 c.2).bind fun e=>
  (sparseref01_make1 (!((d.1 == c.1))) e.1).bind fun a=>
  (sparseref01_make1 d.1 e.2).bind fun b=>
  (sparseref01_Sign b.1 b.2).bind fun p=>
  if p < 0 then
    (sparseref01_Abs c.1 c.2).bind fun f=>
    (sparseref01_Add b.1 b.2 f.1 f.2).bind fun g=>
    if c.1=true then
      (sparseref01_FromInt 1).bind fun h=>
      (sparseref01_Add a.1 a.2 h.1 h.2).bind fun i=>
      sparseref01_DivMod_j4 g i.1 i.2
    else
      (sparseref01_FromInt 1).bind fun j=>
      (sparseref01_Sub a.1 a.2 j.1 j.2).bind fun k=>
      sparseref01_DivMod_j4 g k.1 k.2
  else
    sparseref01_DivMod_j3 a.1 a.2 b.1 b.2
def sparseref01_GCD_l2:Bool×LI×Bool×LI→Option ((Bool×LI×Bool×LI)⊕((Bool×LI))):=fun (c,d,a,b)=>
  (sparseref01_Sign a b).bind fun f=>
  if f=0 then
    some (.inr (c,d))
  else
    (sparseref01_DivMod c d a b).bind fun e=>
    some (.inl (a,b,e.2.2.1,e.2.2.2))
def sparseref01_GCD (c:Bool) (d:LI) (e:Bool) (f:LI):Option (Bool×LI):=
  (sparseref01_Abs c d).bind fun a=>
  (sparseref01_Abs e f).bind fun b=>
  (loop (sparseref01_GCD_l2) (a.1,a.2,b.1,b.2)).bind fun (g,h)=>
  some (g,h)
def sparseref01_Quo (b:Bool) (c:LI) (d:Bool) (e:LI):Option (Bool×LI×Bool):=
  (sparseref01_DivMod b c d e).bind fun a=>
  (sparseref01_Sign a.2.2.1 a.2.2.2).bind fun f=>
  if f=0 then
    some (a.1,a.2.1,true)
  else
    some (false,[],false)
def sparseref08_frac_j1 (e:Bool) (f:LI) (g:Bool) (h:LI) (a:Bool) (b:LI):Option (Bool×LI×Bool×LI):=
  (sparseref01_Quo e f a b).bind fun c=>
  (sparseref01_Quo g h a b).bind fun d=>
  some (c.1,c.2.1,d.1,d.2.1)
def sparseref08_frac (d:Bool) (e:LI) (a:Bool) (b:LI):Option (Bool×LI×Bool×LI):=
  (sparseref01_GCD d e a b).bind fun c=>
  (sparseref01_Sign a b).bind fun g=>
  if g < 0 then
    (sparseref01_Neg c.1 c.2).bind fun f=>
    sparseref08_frac_j1 d e a b f.1 f.2
  else
    sparseref08_frac_j1 d e a b c.1 c.2
def sparseref08_minus (m:Bool) (n:LI) (c:Bool) (d:LI) (o:Bool) (p:LI) (q:Bool) (r:LI) (s:Bool) (t:LI) (u:Bool) (v:LI) (w:Bool) (x:LI) (y:Bool) (z:LI):Option (Bool×LI×Bool×LI):=
  (sparseref01_Mul o p s t).bind fun e=>
  (sparseref01_Mul e.1 e.2 y z).bind fun f=>
  (sparseref01_Mul q r u v).bind fun g=>
  (sparseref01_Mul g.1 g.2 w x).bind fun h=>
  (sparseref08_frac f.1 f.2 h.1 h.2).bind fun a=>
  (sparseref01_Mul m n a.2.2.1 a.2.2.2).bind fun i=>
  (sparseref01_Mul a.1 a.2.1 c d).bind fun j=>
  (sparseref01_Sub i.1 i.2 j.1 j.2).bind fun k=>
  (sparseref01_Mul c d a.2.2.1 a.2.2.2).bind fun l=>
  (sparseref08_frac k.1 k.2 l.1 l.2).bind fun b=>
  some (b.1,b.2.1,b.2.2.1,b.2.2.2)
def sparseref08_echelon_j76 (a:Int) (b:List (List (Bool×LI×Bool×LI))) (c:Bool) (d:LI) (e:Bool) (f:LI) (g:LI):Option (((List (List (Bool×LI×Bool×LI)))×Bool×LI×Bool×LI×LI×Int)⊕(((List (List (Bool×LI×Bool×LI)))×Bool×LI×Bool×LI×LI))):=
  some (.inl (b,c,d,e,f,g,wa .i64 a 1))
def sparseref08_echelon_l84 (j:Int) (h:Int) (i:LI) (k:Int) (c:Bool×LI×Bool×LI):(List (List (Bool×LI×Bool×LI)))×Int→Option (((List (List (Bool×LI×Bool×LI)))×Int)⊕(((List (List (Bool×LI×Bool×LI)))))):=fun (a,b)=>
  if b < j then
    (getI a h).bind fun l=>
    (getI a h).bind fun m=>
    (getI m b).bind fun d=>
    (getI a (i.length:Int)).bind fun n=>
    (getI n b).bind fun e=>
    (getI a (i.length:Int)).bind fun o=>
    (getI o k).bind fun f=>
    (sparseref08_minus d.1 d.2.1 d.2.2.1 d.2.2.2 c.1 c.2.1 c.2.2.1 c.2.2.2 e.1 e.2.1 e.2.2.1 e.2.2.2 f.1 f.2.1 f.2.2.1 f.2.2.2).bind fun g=>
    (setI l b (g.1,g.2.1,g.2.2.1,g.2.2.2)).bind fun p=>
    (setI a h p).bind fun q=>
    some (.inl (q,wa .i64 b 1))
  else
    some (.inr a)
def sparseref08_echelon_l83 (c:Int) (d:Int) (e:LI):(List (List (Bool×LI×Bool×LI)))×Int→Option (((List (List (Bool×LI×Bool×LI)))×Int)⊕(((List (List (Bool×LI×Bool×LI)))))):=fun (a,b)=>
  if b < (a.length:Int) then
    (getI a b).bind fun f=>
    (getI f c).bind fun g=>
    (loop (sparseref08_echelon_l84 d b e c g) (a,c)).bind fun h=>
    some (.inl (h,wa .i64 b 1))
  else
    some (.inr a)
def sparseref08_echelon_j80 (a:LI) (b:Int) (i:Bool) (j:LI) (k:Int) (d:List (List (Bool×LI×Bool×LI))) (l:Bool) (m:LI):Option (((List (List (Bool×LI×Bool×LI)))×Bool×LI×Bool×LI×LI×Int)⊕(((List (List (Bool×LI×Bool×LI)))×Bool×LI×Bool×LI×LI))):=
  (getI d (a.length:Int)).bind fun n=>
  (getI n b).bind fun e=>
  (sparseref01_Mul l m e.1 e.2.1).bind fun f=>
  (getI d (a.length:Int)).bind fun o=>
  (getI o b).bind fun g=>
  (sparseref01_Mul i j g.2.2.1 g.2.2.2).bind fun h=>
  (sparseref08_frac f.1 f.2 h.1 h.2).bind fun c=>
  (loop (sparseref08_echelon_l83 b k a) (d,wa .i64 (a.length:Int) 1)).bind fun p=>
  (app a [b]).bind fun q=>
  sparseref08_echelon_j76 b p c.1 c.2.1 c.2.2.1 c.2.2.2 q
def sparseref08_echelon_l79 (c:List (List (Bool×LI×Bool×LI))) (d:Int):Int→Option ((Int)⊕(Int)):=fun a=>
  (if a < (c.length:Int) then
    (getI c a).bind fun e=>
    (getI e d).bind fun b=>
    (sparseref08_zero b.1 b.2.1 b.2.2.1 b.2.2.2).bind fun f=>
    some f
  else
    some false).bind fun g=>
  if g=true then
    some (.inl (wa .i64 a 1))
  else
    some (.inr a)
def sparseref08_echelon_l57 (i:Int):(List (List (Bool×LI×Bool×LI)))×Bool×LI×Bool×LI×LI×Int→Option (((List (List (Bool×LI×Bool×LI)))×Bool×LI×Bool×LI×LI×Int)⊕(((List (List (Bool×LI×Bool×LI)))×Bool×LI×Bool×LI×LI))):=fun (a,d,e,f,g,b,c)=>
  if c < i then
    (loop (sparseref08_echelon_l79 a c) (b.length:Int)).bind fun h=>
    if h=(a.length:Int) then
      sparseref08_echelon_j76 c a d e f g b
    else
      if h=(b.length:Int) then
        sparseref08_echelon_j80 b c f g i a d e
      else
        (getI a (b.length:Int)).bind fun k=>
        (getI a h).bind fun l=>
        (setI a h k).bind fun m=>
        (setI m (b.length:Int) l).bind fun n=>
        (sparseref01_Neg d e).bind fun j=>
        sparseref08_echelon_j80 b c f g i n j.1 j.2
  else
    some (.inr (a,d,e,f,g,b))
def sparseref08_echelon (c:List (List (Bool×LI×Bool×LI))) (d:Int):Option ((List (List (Bool×LI×Bool×LI)))×LI×Bool×LI×Bool×LI):=
  (sparseref01_FromInt 1).bind fun a=>
  (sparseref01_FromInt 1).bind fun b=>
  (loop (sparseref08_echelon_l57 d) (c,a.1,a.2,b.1,b.2,[],0)).bind fun (e,f,g,h,i,j)=>
  some (e,j,f,g,h,i)
def sparseref08_Rank (a:List (List (Bool×LI))):Option (Int):=
  (sparseref08_fracs a).bind fun b=>
  (sparseref08_Cols a).bind fun c=>
  (sparseref08_echelon b c).bind fun d=>
  some (d.2.1.length:Int)
def sparseref08_Dot_l1 (b:List (Bool×LI)) (i:List (Bool×LI)):Bool×LI×Int→Option ((Bool×LI×Int)⊕((Bool×LI))):=fun (c,d,a)=>
  if a < (b.length:Int) then
    (getI b a).bind fun e=>
    (getI i a).bind fun f=>
    (sparseref01_Mul e.1 e.2 f.1 f.2).bind fun g=>
    (sparseref01_Add c d g.1 g.2).bind fun h=>
    some (.inl (h.1,h.2,wa .i64 a 1))
  else
    some (.inr (c,d))
def sparseref08_Dot (a:List (Bool×LI)) (b:List (Bool×LI)):Option (Bool×LI):=
  (loop (sparseref08_Dot_l1 a b) (false,[],0)).bind fun (c,d)=>
  some (c,d)
def sparseref08_Times_l1 (b:List (List (Bool×LI))) (e:List (Bool×LI)):(List (Bool×LI))×Int→Option (((List (Bool×LI))×Int)⊕(((List (Bool×LI))))):=fun (c,a)=>
  if a < (b.length:Int) then
    (getI b a).bind fun f=>
    (sparseref08_Dot f e).bind fun d=>
    (app c [(d.1,d.2)]).bind fun g=>
    some (.inl (g,wa .i64 a 1))
  else
    some (.inr c)
def sparseref08_Times (a:List (List (Bool×LI))) (b:List (Bool×LI)):Option ((List (Bool×LI))):=
  (loop (sparseref08_Times_l1 a b) ([],0)).bind fun c=>
  some c
def modular_IsPrime_l2 (b:Int):Int→Option ((Int)⊕(Unit⊕Unit)):=fun a=>
  if (wm .i64 a a)≤b then
    (wr b a).bind fun c=>
    if c=0 then
      some (.inr (.inr ()))
    else
      some (.inl (wa .i64 a 1))
  else
    some (.inr (.inl ()))
def modular_IsPrime (a:Int):Option (Bool):=
  if ((decide (a < 2)) || (decide ((2147483647:Int) < a)))=true then
    some false
  else
    (loop (modular_IsPrime_l2 a) 2).bind (fun o=>match o with
      | .inl ()=>
        some true
      | .inr ()=>
        some false)
end M
