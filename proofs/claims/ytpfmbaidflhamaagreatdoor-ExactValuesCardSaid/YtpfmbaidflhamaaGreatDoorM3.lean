/- Models of functions of the program, printed. -/
import Derived.Test.YtpfmbaidflhamaaGreatDoorM2
namespace M
open Sx
set_option linter.unusedVariables false
def exact_sweep_l1 (c:List (Bool×LI)) (j:Bool) (k:LI) (l:Bool) (m:LI) (n:Bool) (o:LI):(List (Bool×LI))×Int→Option (((List (Bool×LI))×Int)⊕(((List (Bool×LI))))):=fun (b,a)=>
  if a < (c.length:Int) then
    (getI c a).bind fun d=>
    (getI b a).bind fun e=>
    (integer_Mul j k e.1 e.2).bind fun f=>
    (integer_Mul l m d.1 d.2).bind fun g=>
    (integer_Sub f.1 f.2 g.1 g.2).bind fun h=>
    (integer_Quo h.1 h.2 n o).bind fun i=>
    (setI b a (i.1,i.2.1)).bind fun p=>
    some (.inl (p,wa .i64 a 1))
  else
    some (.inr b)
def exact_sweep (a:List (Bool×LI)) (b:List (Bool×LI)) (c:Bool) (d:LI) (e:Bool) (f:LI) (g:Bool) (h:LI):Option ((List (Bool×LI))):=
  (loop (exact_sweep_l1 b e f c d g h) (a,0)).bind fun i=>
  some i
def exact_reduced_step_j5 (a:Int) (b:List (List (Bool×LI))):Option (((List (List (Bool×LI)))×Int)⊕(((List (List (Bool×LI)))))):=
  some (.inl (b,wa .i64 a 1))
def exact_reduced_step_l4 (g:List (List (Bool×LI))) (c:Int) (h:Int) (d:Bool×LI) (i:Bool) (j:LI):(List (List (Bool×LI)))×Int→Option (((List (List (Bool×LI)))×Int)⊕(((List (List (Bool×LI)))))):=fun (b,a)=>
  if a < (g.length:Int) then
    (getI b a).bind fun e=>
    if a=c then
      exact_reduced_step_j5 a b
    else
      (getI b c).bind fun k=>
      (getI e h).bind fun f=>
      (neI a c).bind fun u110=>
      (exact_sweep e k f.1 f.2 d.1 d.2 i j).bind fun l=>
      (setI b a l).bind fun m=>
      exact_reduced_step_j5 a m
  else
    some (.inr b)
def exact_reduced_step_j1 (d:Int) (a:Int) (e:Bool) (f:LI) (g:LI) (b:List (List (Bool×LI))) (h:Int):Option ((List (List (Bool×LI)))×LI×Bool×LI×Int):=
  (getI b d).bind fun i=>
  (getI i a).bind fun c=>
  (loop (exact_reduced_step_l4 b d a c e f) (b,0)).bind fun j=>
  (app g [a]).bind fun k=>
  some (j,k,c.1,c.2,h)
def exact_reduced_step (b:List (List (Bool×LI))) (d:LI) (e:Bool) (f:LI) (g:Int) (h:Int) (a:Int) (c:Int):Option ((List (List (Bool×LI)))×LI×Bool×LI×Int):=
  if a < c then
    (getI b c).bind fun i=>
    (getI b a).bind fun j=>
    (setI b a i).bind fun k=>
    (setI k c j).bind fun l=>
    exact_reduced_step_j1 a h e f d l (wneg .i64 g)
  else
    exact_reduced_step_j1 a h e f d b g
def exact_eliminate_j12 (a:Int) (b:List (List (Bool×LI))) (c:LI) (d:Bool) (e:LI) (f:Int):Option (((List (List (Bool×LI)))×LI×Bool×LI×Int×Int)⊕(((List (List (Bool×LI)))×LI×Bool×LI×Int))):=
  some (.inl (b,c,d,e,f,wa .i64 a 1))
def exact_eliminate_l13 (c:List (List (Bool×LI))) (d:Int) (e:LI) (g:Bool) (h:LI) (i:Int):Int→Option ((Int)⊕(((List (List (Bool×LI)))×LI×Bool×LI×Int)⊕Unit)):=fun b=>
  if b < (c.length:Int) then
    (getI c b).bind fun j=>
    (getI j d).bind fun f=>
    (integer_Sign f.1 f.2).bind fun k=>
    if k=0 then
      some (.inl (wa .i64 b 1))
    else
      (exact_reduced_step c e g h i d (e.length:Int) b).bind fun a=>
      some (.inr (.inl (a.1,a.2.1,a.2.2.1,a.2.2.2.1,a.2.2.2.2)))
  else
    some (.inr (.inr ()))
def exact_eliminate_l9 (g:Int):(List (List (Bool×LI)))×LI×Bool×LI×Int×Int→Option (((List (List (Bool×LI)))×LI×Bool×LI×Int×Int)⊕(((List (List (Bool×LI)))×LI×Bool×LI×Int))):=fun (c,a,d,e,f,b)=>
  if b < g then
    (loop (exact_eliminate_l13 c b a d e f) (a.length:Int)).bind (fun o=>match o with
      | .inl (h,i,j,k,l)=>
        exact_eliminate_j12 b h i j k l
      | .inr ()=>
        exact_eliminate_j12 b c a d e f)
  else
    some (.inr (c,a,d,e,f))
def exact_eliminate (b:List (List (Bool×LI))) (c:Int):Option ((List (List (Bool×LI)))×LI×Bool×LI×Int):=
  (integer_FromInt 1).bind fun a=>
  (loop (exact_eliminate_l9 c) (b,[],a.1,a.2,1,0)).bind fun (d,e,f,g,h)=>
  some (d,e,f,g,h)
def integer_Neg (b:Bool) (c:LI):Option (Bool×LI):=
  (slices_Clone_uint32 c).bind fun d=>
  (integer_big (!(b)) d).bind fun a=>
  some (a.1,a.2)
def exact_reduced_det (h:List (List (Bool×LI))) (e:LI) (a:Bool) (b:LI) (f:Int) (g:Int):Option (Bool×LI):=
  if (e.length:Int) < g then
    some (false,[])
  else
    if f < 0 then
      (integer_Neg a b).bind fun c=>
      some (c.1,c.2)
    else
      (integer_Norm a b).bind fun d=>
      some (d.1,d.2)
def exact_Det (b:List (List (Bool×LI))):Option (Bool×LI×Int):=
  (exact_square b).bind fun c=>
  if c=0 then
    (exact_twin b []).bind fun e=>
    (exact_eliminate e (b.length:Int)).bind fun a=>
    (exact_reduced_det a.1 a.2.1 a.2.2.1 a.2.2.2.1 a.2.2.2.2 (b.length:Int)).bind fun d=>
    some (d.1,d.2,0)
  else
    some (false,[],c)
def exact_Rank (a:List (List (Bool×LI))):Option (Int×Int):=
  (exact_check a).bind fun b=>
  if b=0 then
    (exact_twin a []).bind fun c=>
    (exact_columns a).bind fun d=>
    (exact_eliminate c d).bind fun e=>
    some ((e.2.1.length:Int),0)
  else
    some (0,b)
def integer_Abs (d:Bool) (b:LI):Option (Bool×LI):=
  (slices_Clone_uint32 b).bind fun c=>
  (integer_big false c).bind fun a=>
  some (a.1,a.2)
def exact_reduced_turned (h:List (List (Bool×LI))) (i:LI) (e:Bool) (f:LI) (j:Int) (a:Bool) (b:LI):Option (Bool×LI):=
  (integer_Sign e f).bind fun g=>
  if g < 0 then
    (integer_Neg a b).bind fun c=>
    some (c.1,c.2)
  else
    (integer_Norm a b).bind fun d=>
    some (d.1,d.2)
def integer_GCD_l1:LI×LI→Option ((LI×LI)⊕(LI)):=fun (b,a)=>
  if (0:Int) < (a.length:Int) then
    (integer_divide b a).bind fun c=>
    some (.inl (a,c.2))
  else
    some (.inr b)
def integer_GCD (i:Bool) (b:LI) (j:Bool) (c:LI):Option (Bool×LI):=
  (integer_trim b).bind fun d=>
  (slices_Clone_uint32 d).bind fun e=>
  (integer_trim c).bind fun f=>
  (slices_Clone_uint32 f).bind fun g=>
  (loop (integer_GCD_l1) (e,g)).bind fun h=>
  (integer_big false h).bind fun a=>
  some (a.1,a.2)
def exact_Kernel_l5 (e:List (Bool×LI)) (f:Bool) (g:LI):(List (Bool×LI))×Int→Option (((List (Bool×LI))×Int)⊕(((List (Bool×LI))))):=fun (b,a)=>
  if a < (e.length:Int) then
    (getI b a).bind fun c=>
    (integer_Quo c.1 c.2 f g).bind fun d=>
    (setI b a (d.1,d.2.1)).bind fun h=>
    some (.inl (h,wa .i64 a 1))
  else
    some (.inr b)
def exact_Kernel_l4 (a:(List (List (Bool×LI)))×LI×Bool×LI×Int) (m:Int):(List (Bool×LI))×Bool×LI×Int→Option (((List (Bool×LI))×Bool×LI×Int)⊕(((List (Bool×LI))×Bool×LI))):=fun (c,d,e,b)=>
  if b < (a.2.1.length:Int) then
    (getI a.2.1 b).bind fun f=>
    (getI a.1 b).bind fun n=>
    (getI n m).bind fun g=>
    (exact_reduced_turned a.1 a.2.1 a.2.2.1 a.2.2.2.1 a.2.2.2.2 g.1 g.2).bind fun h=>
    (integer_Neg h.1 h.2).bind fun i=>
    (setI c f (i.1,i.2)).bind fun j=>
    (getI j f).bind fun k=>
    (integer_GCD d e k.1 k.2).bind fun l=>
    some (.inl (j,l.1,l.2,wa .i64 b 1))
  else
    some (.inr (c,d,e))
def exact_Kernel_l3 (b:(List (List (Bool×LI)))×LI×Bool×LI×Int):Int→Option ((Int)⊕(Int)):=fun a=>
  (if a < (b.2.1.length:Int) then
    (getI b.2.1 a).bind fun c=>
    some (decide (c=a))
  else
    some false).bind fun d=>
  if d=true then
    some (.inl (wa .i64 a 1))
  else
    some (.inr a)
def exact_Kernel (c:List (List (Bool×LI))):Option ((List (Bool×LI))×Int):=
  (exact_check c).bind fun e=>
  if e=0 then
    (exact_columns c).bind fun d=>
    (exact_twin c []).bind fun j=>
    (exact_eliminate j d).bind fun a=>
    (loop (exact_Kernel_l3 a) 0).bind fun b=>
    if b=d then
      some ([],0)
    else
      (mkL (false,[]) d).bind fun k=>
      (integer_Abs a.2.2.1 a.2.2.2.1).bind fun f=>
      (setI k b (f.1,f.2)).bind fun g=>
      (getI g b).bind fun h=>
      (loop (exact_Kernel_l4 a b) (g,h.1,h.2,0)).bind fun (i,l,m)=>
      (loop (exact_Kernel_l5 i l m) (i,0)).bind fun n=>
      some (n,0)
  else
    some ([],e)
def exact_Bound_l4 (c:List (Bool×LI)):Bool×LI×Int→Option ((Bool×LI×Int)⊕((Bool×LI))):=fun (d,e,b)=>
  if b < (c.length:Int) then
    (getI c b).bind fun a=>
    (integer_Mul a.1 a.2 a.1 a.2).bind fun f=>
    (integer_Add d e f.1 f.2).bind fun g=>
    some (.inl (g.1,g.2,wa .i64 b 1))
  else
    some (.inr (d,e))
def exact_Bound_l3 (b:List (List (Bool×LI))):Bool×LI×Int→Option ((Bool×LI×Int)⊕((Bool×LI))):=fun (c,d,a)=>
  if a < (b.length:Int) then
    (getI b a).bind fun f=>
    (loop (exact_Bound_l4 f) (false,[],0)).bind fun (g,h)=>
    (integer_Mul c d g h).bind fun e=>
    some (.inl (e.1,e.2,wa .i64 a 1))
  else
    some (.inr (c,d))
def exact_Bound (a:List (List (Bool×LI))):Option (Bool×LI×Int):=
  (exact_check a).bind fun b=>
  if b=0 then
    (integer_FromInt 1).bind fun c=>
    (loop (exact_Bound_l3 a) (c.1,c.2,0)).bind fun (d,e)=>
    some (d,e,0)
  else
    some (false,[],b)
def sparsekit_Limbs_l1 (b:LI) (c:LI):Int→Option ((Int)⊕(Unit⊕Unit)):=fun a=>
  if a < (b.length:Int) then
    (getI b a).bind fun d=>
    (getI c a).bind fun e=>
    if d=e then
      some (.inl (wa .i64 a 1))
    else
      some (.inr (.inr ()))
  else
    some (.inr (.inl ()))
def sparsekit_Limbs (a:LI) (b:LI):Option (Bool):=
  if (a.length:Int)=(b.length:Int) then
    (loop (sparsekit_Limbs_l1 a b) 0).bind (fun o=>match o with
      | .inl ()=>
        some true
      | .inr ()=>
        some false)
  else
    some false
def sparsekit_Big (a:Bool) (b:LI) (c:Bool) (d:LI):Option (Bool):=
  (if (a == c)=true then
    (sparsekit_Limbs b d).bind fun e=>
    some e
  else
    some false).bind fun f=>
  some f
end M
