/- Models of functions of the program, printed. -/
import Derived.Test.YtpfmbaidflhamaaGreatDoorM5
namespace M
open Sx
set_option linter.unusedVariables false
def sparseref08_frac_j1 (e:Bool) (f:LI) (g:Bool) (h:LI) (a:Bool) (b:LI):Option (Bool×LI×Bool×LI):=
  (sparseref01_Quo e f a b).bind fun c=>
  (sparseref01_Quo g h a b).bind fun d=>
  some (c.1,c.2.1,d.1,d.2.1)
def sparseref08_frac (d:Bool) (e:LI) (a:Bool) (b:LI):Option (Bool×LI×Bool×LI):=
  (sparseref01_GCD d e a b).bind fun c=>
  (sparseref01_Sign a b).bind fun g=>
  if g < 0 then
    (sparseref01_Neg c.1 c.2).bind fun f=>
    sparseref08_frac_j1 d e a b f.1 f.2
  else
    sparseref08_frac_j1 d e a b c.1 c.2
def sparseref08_minus (m:Bool) (n:LI) (c:Bool) (d:LI) (o:Bool) (p:LI) (q:Bool) (r:LI) (s:Bool) (t:LI) (u:Bool) (v:LI) (w:Bool) (x:LI) (y:Bool) (z:LI):Option (Bool×LI×Bool×LI):=
  (sparseref01_Mul o p s t).bind fun e=>
  (sparseref01_Mul e.1 e.2 y z).bind fun f=>
  (sparseref01_Mul q r u v).bind fun g=>
  (sparseref01_Mul g.1 g.2 w x).bind fun h=>
  (sparseref08_frac f.1 f.2 h.1 h.2).bind fun a=>
  (sparseref01_Mul m n a.2.2.1 a.2.2.2).bind fun i=>
  (sparseref01_Mul a.1 a.2.1 c d).bind fun j=>
  (sparseref01_Sub i.1 i.2 j.1 j.2).bind fun k=>
  (sparseref01_Mul c d a.2.2.1 a.2.2.2).bind fun l=>
  (sparseref08_frac k.1 k.2 l.1 l.2).bind fun b=>
  some (b.1,b.2.1,b.2.2.1,b.2.2.2)
def sparseref08_echelon_j76 (a:Int) (b:List (List (Bool×LI×Bool×LI))) (c:Bool) (d:LI) (e:Bool) (f:LI) (g:LI):Option (((List (List (Bool×LI×Bool×LI)))×Bool×LI×Bool×LI×LI×Int)⊕(((List (List (Bool×LI×Bool×LI)))×Bool×LI×Bool×LI×LI))):=
  some (.inl (b,c,d,e,f,g,wa .i64 a 1))
def sparseref08_echelon_l84 (j:Int) (h:Int) (i:LI) (k:Int) (c:Bool×LI×Bool×LI):(List (List (Bool×LI×Bool×LI)))×Int→Option (((List (List (Bool×LI×Bool×LI)))×Int)⊕(((List (List (Bool×LI×Bool×LI)))))):=fun (a,b)=>
  if b < j then
    (getI a h).bind fun l=>
    (getI a h).bind fun m=>
    (getI m b).bind fun d=>
    (getI a (i.length:Int)).bind fun n=>
    (getI n b).bind fun e=>
    (getI a (i.length:Int)).bind fun o=>
    (getI o k).bind fun f=>
    (sparseref08_minus d.1 d.2.1 d.2.2.1 d.2.2.2 c.1 c.2.1 c.2.2.1 c.2.2.2 e.1 e.2.1 e.2.2.1 e.2.2.2 f.1 f.2.1 f.2.2.1 f.2.2.2).bind fun g=>
    (setI l b (g.1,g.2.1,g.2.2.1,g.2.2.2)).bind fun p=>
    (setI a h p).bind fun q=>
    some (.inl (q,wa .i64 b 1))
  else
    some (.inr a)
def sparseref08_echelon_l83 (c:Int) (d:Int) (e:LI):(List (List (Bool×LI×Bool×LI)))×Int→Option (((List (List (Bool×LI×Bool×LI)))×Int)⊕(((List (List (Bool×LI×Bool×LI)))))):=fun (a,b)=>
  if b < (a.length:Int) then
    (getI a b).bind fun f=>
    (getI f c).bind fun g=>
    (loop (sparseref08_echelon_l84 d b e c g) (a,c)).bind fun h=>
    some (.inl (h,wa .i64 b 1))
  else
    some (.inr a)
def sparseref08_echelon_j80 (a:LI) (b:Int) (i:Bool) (j:LI) (k:Int) (d:List (List (Bool×LI×Bool×LI))) (l:Bool) (m:LI):Option (((List (List (Bool×LI×Bool×LI)))×Bool×LI×Bool×LI×LI×Int)⊕(((List (List (Bool×LI×Bool×LI)))×Bool×LI×Bool×LI×LI))):=
  (getI d (a.length:Int)).bind fun n=>
  (getI n b).bind fun e=>
  (sparseref01_Mul l m e.1 e.2.1).bind fun f=>
  (getI d (a.length:Int)).bind fun o=>
  (getI o b).bind fun g=>
  (sparseref01_Mul i j g.2.2.1 g.2.2.2).bind fun h=>
  (sparseref08_frac f.1 f.2 h.1 h.2).bind fun c=>
  (loop (sparseref08_echelon_l83 b k a) (d,wa .i64 (a.length:Int) 1)).bind fun p=>
  (app a [b]).bind fun q=>
  sparseref08_echelon_j76 b p c.1 c.2.1 c.2.2.1 c.2.2.2 q
def sparseref08_echelon_l79 (c:List (List (Bool×LI×Bool×LI))) (d:Int):Int→Option ((Int)⊕(Int)):=fun a=>
  (if a < (c.length:Int) then
    (getI c a).bind fun e=>
    (getI e d).bind fun b=>
    (sparseref08_zero b.1 b.2.1 b.2.2.1 b.2.2.2).bind fun f=>
    some f
  else
    some false).bind fun g=>
  if g=true then
    some (.inl (wa .i64 a 1))
  else
    some (.inr a)
def sparseref08_echelon_l57 (i:Int):(List (List (Bool×LI×Bool×LI)))×Bool×LI×Bool×LI×LI×Int→Option (((List (List (Bool×LI×Bool×LI)))×Bool×LI×Bool×LI×LI×Int)⊕(((List (List (Bool×LI×Bool×LI)))×Bool×LI×Bool×LI×LI))):=fun (a,d,e,f,g,b,c)=>
  if c < i then
    (loop (sparseref08_echelon_l79 a c) (b.length:Int)).bind fun h=>
    if h=(a.length:Int) then
      sparseref08_echelon_j76 c a d e f g b
    else
      if h=(b.length:Int) then
        sparseref08_echelon_j80 b c f g i a d e
      else
        (getI a (b.length:Int)).bind fun k=>
        (getI a h).bind fun l=>
        (setI a h k).bind fun m=>
        (setI m (b.length:Int) l).bind fun n=>
        (sparseref01_Neg d e).bind fun j=>
        sparseref08_echelon_j80 b c f g i n j.1 j.2
  else
    some (.inr (a,d,e,f,g,b))
def sparseref08_echelon (c:List (List (Bool×LI×Bool×LI))) (d:Int):Option ((List (List (Bool×LI×Bool×LI)))×LI×Bool×LI×Bool×LI):=
  (sparseref01_FromInt 1).bind fun a=>
  (sparseref01_FromInt 1).bind fun b=>
  (loop (sparseref08_echelon_l57 d) (c,a.1,a.2,b.1,b.2,[],0)).bind fun (e,f,g,h,i,j)=>
  some (e,j,f,g,h,i)
def sparseref08_Rank (a:List (List (Bool×LI))):Option (Int):=
  (sparseref08_fracs a).bind fun b=>
  (sparseref08_Cols a).bind fun c=>
  (sparseref08_echelon b c).bind fun d=>
  some (d.2.1.length:Int)
def sparseref08_Kernel_l13 (h:Int) (b:List (Bool×LI×Bool×LI)) (i:Bool) (j:LI):(List (Bool×LI))×Int→Option (((List (Bool×LI))×Int)⊕(((List (Bool×LI))))):=fun (c,a)=>
  if a < h then
    (getI b a).bind fun d=>
    (sparseref01_Mul d.1 d.2.1 i j).bind fun e=>
    (getI b a).bind fun f=>
    (sparseref01_Quo e.1 e.2 f.2.2.1 f.2.2.2).bind fun g=>
    (app c [(g.1,g.2.1)]).bind fun k=>
    some (.inl (k,wa .i64 a 1))
  else
    some (.inr c)
def sparseref08_Kernel_l10 (j:Int) (d:List (Bool×LI×Bool×LI)):Bool×LI×Int→Option ((Bool×LI×Int)⊕((Bool×LI))):=fun (b,c,a)=>
  if a < j then
    (getI d a).bind fun e=>
    (getI d a).bind fun f=>
    (sparseref01_GCD b c f.2.2.1 f.2.2.2).bind fun g=>
    (sparseref01_Quo e.2.2.1 e.2.2.2 g.1 g.2).bind fun h=>
    (sparseref01_Mul b c h.1 h.2.1).bind fun i=>
    some (.inl (i.1,i.2,wa .i64 a 1))
  else
    some (.inr (b,c))
def sparseref08_Kernel_l16 (k:Int) (l:(List (List (Bool×LI×Bool×LI)))×LI×Bool×LI×Bool×LI) (m:Int) (n:List (Bool×LI×Bool×LI)) (e:Bool×LI) (f:Bool×LI):Bool×LI×Bool×LI×Int→Option ((Bool×LI×Bool×LI×Int)⊕((Bool×LI×Bool×LI))):=fun (g,h,i,j,a)=>
  if a≤k then
    (getI l.1 m).bind fun o=>
    (getI o a).bind fun b=>
    (getI n a).bind fun c=>
    (sparseref08_minus g h i j b.1 b.2.1 b.2.2.1 b.2.2.2 c.1 c.2.1 c.2.2.1 c.2.2.2 e.1 e.2 f.1 f.2).bind fun d=>
    some (.inl (d.1,d.2.1,d.2.2.1,d.2.2.2,wa .i64 a 1))
  else
    some (.inr (g,h,i,j))
def sparseref08_Kernel_l7 (j:Int) (e:(List (List (Bool×LI×Bool×LI)))×LI×Bool×LI×Bool×LI) (k:Bool×LI) (l:Bool×LI):(List (Bool×LI×Bool×LI))×Int→Option (((List (Bool×LI×Bool×LI))×Int)⊕(((List (Bool×LI×Bool×LI))))):=fun (b,a)=>
  if (0:Int)≤a then
    (getI b a).bind fun c=>
    (loop (sparseref08_Kernel_l16 j e a b k l) (c.1,c.2.1,c.2.2.1,c.2.2.2,wa .i64 a 1)).bind fun (m,n,o,p)=>
    (getI e.1 a).bind fun q=>
    (getI q a).bind fun f=>
    (sparseref01_Mul m n f.2.2.1 f.2.2.2).bind fun g=>
    (getI e.1 a).bind fun r=>
    (getI r a).bind fun h=>
    (sparseref01_Mul o p h.1 h.2.1).bind fun i=>
    (sparseref08_frac g.1 g.2 i.1 i.2).bind fun d=>
    (setI b a (d.1,d.2.1,d.2.2.1,d.2.2.2)).bind fun s=>
    some (.inl (s,ws .i64 a 1))
  else
    some (.inr b)
def sparseref08_Kernel_l4 (d:Int):(List (Bool×LI×Bool×LI))×Int→Option (((List (Bool×LI×Bool×LI))×Int)⊕(((List (Bool×LI×Bool×LI))))):=fun (b,a)=>
  if a < d then
    (sparseref01_FromInt 1).bind fun c=>
    (setI b a (false,[],c.1,c.2)).bind fun e=>
    some (.inl (e,wa .i64 a 1))
  else
    some (.inr b)
def sparseref08_Kernel_l3 (b:(List (List (Bool×LI×Bool×LI)))×LI×Bool×LI×Bool×LI):Int→Option ((Int)⊕(Int)):=fun a=>
  (if a < (b.2.1.length:Int) then
    (getI b.2.1 a).bind fun c=>
    some (decide (c=a))
  else
    some false).bind fun d=>
  if d=true then
    some (.inl (wa .i64 a 1))
  else
    some (.inr a)
def sparseref08_Kernel (f:List (List (Bool×LI))):Option ((List (Bool×LI))):=
  (sparseref08_Cols f).bind fun a=>
  (sparseref08_fracs f).bind fun i=>
  (sparseref08_echelon i a).bind fun b=>
  if (b.2.1.length:Int)=a then
    some []
  else
    (loop (sparseref08_Kernel_l3 b) 0).bind fun c=>
    (sparseref01_FromInt 1).bind fun d=>
    (sparseref01_FromInt 1).bind fun e=>
    (mkL (false,[],false,[]) a).bind fun j=>
    (loop (sparseref08_Kernel_l4 a) (j,0)).bind fun k=>
    (setI k c (d.1,d.2,e.1,e.2)).bind fun l=>
    (loop (sparseref08_Kernel_l7 c b d e) (l,ws .i64 c 1)).bind fun g=>
    (sparseref01_FromInt 1).bind fun h=>
    (loop (sparseref08_Kernel_l10 a g) (h.1,h.2,0)).bind fun (m,n)=>
    (loop (sparseref08_Kernel_l13 a g m n) ([],0)).bind fun o=>
    some o
def sparseref08_Dot_l1 (b:List (Bool×LI)) (i:List (Bool×LI)):Bool×LI×Int→Option ((Bool×LI×Int)⊕((Bool×LI))):=fun (c,d,a)=>
  if a < (b.length:Int) then
    (getI b a).bind fun e=>
    (getI i a).bind fun f=>
    (sparseref01_Mul e.1 e.2 f.1 f.2).bind fun g=>
    (sparseref01_Add c d g.1 g.2).bind fun h=>
    some (.inl (h.1,h.2,wa .i64 a 1))
  else
    some (.inr (c,d))
def sparseref08_Dot (a:List (Bool×LI)) (b:List (Bool×LI)):Option (Bool×LI):=
  (loop (sparseref08_Dot_l1 a b) (false,[],0)).bind fun (c,d)=>
  some (c,d)
def sparseref08_Bound_l1 (b:List (List (Bool×LI))):Bool×LI×Int→Option ((Bool×LI×Int)⊕((Bool×LI))):=fun (c,d,a)=>
  if a < (b.length:Int) then
    (getI b a).bind fun g=>
    (getI b a).bind fun h=>
    (sparseref08_Dot g h).bind fun e=>
    (sparseref01_Mul c d e.1 e.2).bind fun f=>
    some (.inl (f.1,f.2,wa .i64 a 1))
  else
    some (.inr (c,d))
def sparseref08_Bound (b:List (List (Bool×LI))):Option (Bool×LI):=
  (sparseref01_FromInt 1).bind fun a=>
  (loop (sparseref08_Bound_l1 b) (a.1,a.2,0)).bind fun (c,d)=>
  some (c,d)
def sparseref08_Det (a:List (List (Bool×LI))):Option (Bool×LI):=
  (sparseref08_fracs a).bind fun c=>
  (sparseref08_echelon c (a.length:Int)).bind fun b=>
  if (b.2.1.length:Int) < (a.length:Int) then
    some (false,[])
  else
    some (b.2.2.1,b.2.2.2.1)
def sparselaw08_num (b:Int):Option (Bool×LI):=
  (sparseref01_FromInt b).bind fun a=>
  some (a.1,a.2)
def exact_Solve_l1 (a:(List (List (Bool×LI)))×LI×Bool×LI×Int) (f:List (List (Bool×LI))):(List (Bool×LI))×Int→Option (((List (Bool×LI))×Int)⊕(((List (Bool×LI))))):=fun (c,b)=>
  if b < (a.1.length:Int) then
    (getI a.1 b).bind fun g=>
    (getI g (f.length:Int)).bind fun d=>
    (exact_reduced_turned a.1 a.2.1 a.2.2.1 a.2.2.2.1 a.2.2.2.2 d.1 d.2).bind fun e=>
    (app c [(e.1,e.2)]).bind fun h=>
    some (.inl (h,wa .i64 b 1))
  else
    some (.inr c)
def exact_Solve (a:List (List (Bool×LI))) (c:List (Bool×LI)):Option ((List (Bool×LI))×Bool×LI×Int):=
  (exact_square a).bind fun d=>
  if d=0 then
    if (c.length:Int)=(a.length:Int) then
      (exact_twin a c).bind fun f=>
      (exact_eliminate f (a.length:Int)).bind fun b=>
      if (b.2.1.length:Int) < (a.length:Int) then
        some ([],false,[],9)
      else
        (loop (exact_Solve_l1 b a) ([],0)).bind fun g=>
        (integer_Abs b.2.2.1 b.2.2.2.1).bind fun e=>
        some (g,e.1,e.2,0)
    else
      some ([],false,[],2)
  else
    some ([],false,[],d)
def integer_Cmp (e:Bool) (b:LI) (f:Bool) (c:LI):Option (Int):=
  (integer_Sign e b).bind fun a=>
  (integer_Sign f c).bind fun d=>
  if a < d then
    some (-1)
  else
    if d < a then
      some 1
    else
      (integer_trim b).bind fun g=>
      (integer_trim c).bind fun h=>
      (integer_compare g h).bind fun i=>
      some (wm .i64 a i)
def exact_product_l13 (b:List (Bool×LI)) (i:List (List (Bool×LI))) (j:Int):Bool×LI×Int→Option ((Bool×LI×Int)⊕((Bool×LI))):=fun (c,d,a)=>
  if a < (b.length:Int) then
    (getI b a).bind fun e=>
    (getI i a).bind fun k=>
    (getI k j).bind fun f=>
    (integer_Mul e.1 e.2 f.1 f.2).bind fun g=>
    (integer_Add c d g.1 g.2).bind fun h=>
    some (.inl (h.1,h.2,wa .i64 a 1))
  else
    some (.inr (c,d))
def exact_product_l12 (b:List (Bool×LI)) (d:List (List (Bool×LI))):(List (Bool×LI))×Int→Option (((List (Bool×LI))×Int)⊕(((List (Bool×LI))))):=fun (c,a)=>
  if a < (b.length:Int) then
    (loop (exact_product_l13 b d a) (false,[],0)).bind fun (e,f)=>
    (app c [(e,f)]).bind fun g=>
    some (.inl (g,wa .i64 a 1))
  else
    some (.inr c)
def exact_product_l9 (b:List (List (Bool×LI))) (d:List (List (Bool×LI))):(List (List (Bool×LI)))×Int→Option (((List (List (Bool×LI)))×Int)⊕(((List (List (Bool×LI)))))):=fun (c,a)=>
  if a < (b.length:Int) then
    (getI b a).bind fun e=>
    (loop (exact_product_l12 e d) ([],0)).bind fun f=>
    (app c [f]).bind fun g=>
    some (.inl (g,wa .i64 a 1))
  else
    some (.inr c)
def exact_product_v2_l13 (b:List (Bool×LI)) (i:List (List (Bool×LI))) (j:Int):Bool×LI×Int→Option ((Bool×LI×Int)⊕((Bool×LI))):=fun (c,d,a)=>
  if a < (b.length:Int) then
    (getI b a).bind fun e=>
    (getI i a).bind fun k=>
    (getI k j).bind fun f=>
    (integer_Mul e.1 e.2 f.1 f.2).bind fun g=>
    (integer_Add c d g.1 g.2).bind fun h=>
    some (.inl (h.1,h.2,wa .i64 a 1))
  else
    some (.inr (c,d))
def exact_product_v2_l12 (b:List (Bool×LI)) (d:List (List (Bool×LI))):(List (Bool×LI))×Int→Option (((List (Bool×LI))×Int)⊕(((List (Bool×LI))))):=fun (c,a)=>
  if a < (b.length:Int) then
    (loop (exact_product_v2_l13 b d a) (false,[],0)).bind fun (e,f)=>
    (app c [(e,f)]).bind fun g=>
    some (.inl (g,wa .i64 a 1))
  else
    some (.inr c)
def exact_product_v2_l9 (b:List (List (Bool×LI))) (d:List (List (Bool×LI))):(List (List (Bool×LI)))×Int→Option (((List (List (Bool×LI)))×Int)⊕(((List (List (Bool×LI)))))):=fun (c,a)=>
  if a < (b.length:Int) then
    (getI b a).bind fun e=>
    (loop (exact_product_v2_l12 e d) ([],0)).bind fun f=>
    (app c [f]).bind fun g=>
    some (.inl (g,wa .i64 a 1))
  else
    some (.inr c)
def exact_product_v2 (a:List (List (Bool×LI))) (b:List (List (Bool×LI))):Option ((List (List (Bool×LI)))):=
  (loop (exact_product_v2_l9 a b) ([],0)).bind fun c=>
  some c
def exact_characteristic_l10 (b:(List (List (Bool×LI)))):Bool×LI×Int→Option ((Bool×LI×Int)⊕((Bool×LI))):=fun (c,d,a)=>
  if a < (b.length:Int) then
    (getI b a).bind fun g=>
    (getI g a).bind fun e=>
    (integer_Add c d e.1 e.2).bind fun f=>
    some (.inl (f.1,f.2,wa .i64 a 1))
  else
    some (.inr (c,d))
def exact_characteristic_l9 (f:List (List (Bool×LI))) (g:List (Bool×LI)) (h:List (List (Bool×LI))) (i:Int):(List (List (Bool×LI)))×Int→Option (((List (List (Bool×LI)))×Int)⊕(((List (List (Bool×LI)))))):=fun (b,a)=>
  if a < (f.length:Int) then
    (getI b a).bind fun j=>
    (getI b a).bind fun k=>
    (getI k a).bind fun c=>
    (getI g (wa .i64 (ws .i64 (h.length:Int) i) 1)).bind fun d=>
    (integer_Add c.1 c.2 d.1 d.2).bind fun e=>
    (setI j a (e.1,e.2)).bind fun l=>
    (setI b a l).bind fun m=>
    some (.inl (m,wa .i64 a 1))
  else
    some (.inr b)
def exact_characteristic_l8 (b:List (List (Bool×LI))):(List (Bool×LI))×(List (List (Bool×LI)))×Int→Option (((List (Bool×LI))×(List (List (Bool×LI)))×Int)⊕(((List (Bool×LI))))):=fun (c,d,a)=>
  if a≤(b.length:Int) then
    (loop (exact_characteristic_l9 d c b a) (d,0)).bind fun i=>
    (exact_product_v2 b i).bind fun e=>
    (loop (exact_characteristic_l10 e) (false,[],0)).bind fun (j,k)=>
    (integer_FromInt a).bind fun f=>
    (integer_Quo j k f.1 f.2).bind fun g=>
    (integer_Neg g.1 g.2.1).bind fun h=>
    (setI c (ws .i64 (b.length:Int) a) (h.1,h.2)).bind fun l=>
    some (.inl (l,e,wa .i64 a 1))
  else
    some (.inr c)
def exact_characteristic_l1 (c:List (List (Bool×LI))) (d:List (List (Bool×LI))):(List (List (Bool×LI)))×Int→Option (((List (List (Bool×LI)))×Int)⊕(((List (List (Bool×LI)))))):=fun (b,a)=>
  if a < (c.length:Int) then
    (mkL (false,[]) (d.length:Int)).bind fun e=>
    (setI b a e).bind fun f=>
    some (.inl (f,wa .i64 a 1))
  else
    some (.inr b)
def exact_characteristic (a:List (List (Bool×LI))):Option ((List (Bool×LI))):=
  (mkL (false,[]) (wa .i64 (a.length:Int) 1)).bind fun d=>
  (integer_FromInt 1).bind fun b=>
  (setI d (a.length:Int) (b.1,b.2)).bind fun e=>
  (mkL ([]:List (Bool×LI)) (a.length:Int)).bind fun c=>
  (loop (exact_characteristic_l1 c a) (c,0)).bind fun f=>
  (loop (exact_characteristic_l8 a) (e,f,1)).bind fun g=>
  some g
end M
