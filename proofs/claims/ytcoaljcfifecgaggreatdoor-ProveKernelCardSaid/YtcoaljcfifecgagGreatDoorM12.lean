/- Models of functions of the program, printed. -/
import Derived.Test.YtcoaljcfifecgagGreatDoorM11
namespace M
open Sx
set_option linter.unusedVariables false
def prove_minor_l5 (b:LI) (e:List (List (Bool×LI))) (f:Int) (g:Int):LI×Int→Option ((LI×Int)⊕(LI)):=fun (c,a)=>
  if a < (b.length:Int) then
    (getI b a).bind fun h=>
    (getI e f).bind fun i=>
    (getI i h).bind fun d=>
    (modular_Reduce d.1 d.2 g).bind fun j=>
    (app c [j.1]).bind fun k=>
    some (.inl (k,wa .i64 a 1))
  else
    some (.inr c)
def prove_minor_l3 (b:LI) (d:LI) (e:List (List (Bool×LI))) (f:Int):L2×Int→Option ((L2×Int)⊕(L2)):=fun (c,a)=>
  if a < (b.length:Int) then
    (getI b a).bind fun g=>
    (loop (prove_minor_l5 d e g f) ([],0)).bind fun h=>
    (app c [h]).bind fun i=>
    some (.inl (i,wa .i64 a 1))
  else
    some (.inr c)
def prove_minor (c:List (List (Bool×LI))) (g:Int) (a:Int) (d:LI) (e:LI) (h:List (List (Bool×LI))):Option (Bool):=
  (loop (prove_minor_l3 d e c a) ([],0)).bind fun f=>
  (modular_Det f a).bind fun b=>
  some ((decide (b.2=0)) && (!(decide (b.1=0))))
def prove_inKernel_l4 (b:List (Bool×LI)) (i:List (Bool×LI)):Bool×LI×Int→Option ((Bool×LI×Int)⊕((Bool×LI))):=fun (c,d,a)=>
  if a < (b.length:Int) then
    (getI b a).bind fun e=>
    (getI i a).bind fun f=>
    (integer_Mul e.1 e.2 f.1 f.2).bind fun g=>
    (integer_Add c d g.1 g.2).bind fun h=>
    some (.inl (h.1,h.2,wa .i64 a 1))
  else
    some (.inr (c,d))
def prove_inKernel_l3 (b:List (List (Bool×LI))) (d:List (Bool×LI)):Int→Option ((Int)⊕(Unit⊕Unit)):=fun a=>
  if a < (b.length:Int) then
    (getI b a).bind fun e=>
    (integer_FromInt 0).bind fun c=>
    (loop (prove_inKernel_l4 e d) (c.1,c.2,0)).bind fun (f,g)=>
    (integer_Sign f g).bind fun h=>
    if h=0 then
      some (.inl (wa .i64 a 1))
    else
      some (.inr (.inr ()))
  else
    some (.inr (.inl ()))
def prove_inKernel (a:List (List (Bool×LI))) (b:List (Bool×LI)):Option (Bool):=
  (loop (prove_inKernel_l3 a b) 0).bind (fun o=>match o with
    | .inl ()=>
      some true
    | .inr ()=>
      some false)
def prove_Check_l7 (b:List (List (Bool×LI))) (d:Int) (e:(List (List (Bool×LI)))×Int×Int):Int→Option ((Int)⊕(Unit⊕Unit)):=fun a=>
  if a < (b.length:Int) then
    (getI b a).bind fun c=>
    (if (c.length:Int)=d then
      (prove_inKernel e.1 c).bind fun f=>
      some (!(f))
    else
      some true).bind fun g=>
    if g=true then
      some (.inr (.inr ()))
    else
      some (.inl (wa .i64 a 1))
  else
    some (.inr (.inl ()))
def prove_Check (f:Int) (b:Int) (j:LI) (k:LI) (l:LI) (c:Int) (d:Int) (g:LI) (h:LI) (a:List (List (Bool×LI))):Option (Bool):=
  (matrix_Integers f b j k l).bind fun e=>
  (if e.2.2=0 then
    (modular_IsPrime d).bind fun m=>
    some (!(m))
  else
    some true).bind fun n=>
  if (n || (decide ((2147483647:Int) < d)))=true then
    some false
  else
    (prove_ascending g c f).bind fun p=>
    (if p=true then
      (prove_ascending h c b).bind fun q=>
      some (!(q))
    else
      some true).bind fun r=>
    (if r=true then
      some true
    else
      (prove_minor e.1 c d g h a).bind fun s=>
      some (!(s))).bind fun t=>
    if t=true then
      some false
    else
      if (a.length:Int)=(ws .i64 b c) then
        (loop (prove_Check_l7 a b e) 0).bind (fun o=>match o with
          | .inl ()=>
            (exact_Rank a).bind fun i=>
            some ((decide (i.2=0)) && (decide (i.1=(a.length:Int))))
          | .inr ()=>
            some false)
      else
        some false
def sparselaw42_awake:Option (Bool):=
  (sparseref03_FromInt 2 0).bind fun b=>
  (sparseref03_FromInt 4 0).bind fun d=>
  (prove_Rank 2 2 [0,2,4] [0,1,0,1] [4607182418800017408,b,b,d]).bind fun a=>
  (prove_Singular 2 2 [0,2,4] [0,1,0,1] [4607182418800017408,b,b,d]).bind fun c=>
  (if a.2.2.2.2.2=0 then
    some (decide (c.2.2=0))
  else
    some false).bind fun g=>
  (if g=true then
    some c.2.1
  else
    some false).bind fun h=>
  (if h=true then
    some (decide (a.1=1))
  else
    some false).bind fun i=>
  (if i=true then
    some (decide (a.2.1=2147483647))
  else
    some false).bind fun j=>
  (if j=true then
    some (decide ((a.2.2.2.2.1.length:Int)=1))
  else
    some false).bind fun k=>
  (if k=true then
    some (decide ((c.1.length:Int)=2))
  else
    some false).bind fun l=>
  (if l=true then
    (getI c.1 0).bind fun e=>
    (sparseref01_FromInt (-2)).bind fun f=>
    (sparsekit_Big e.1 e.2 f.1 f.2).bind fun m=>
    some m
  else
    some false).bind fun n=>
  (if n=true then
    (prove_Check 2 2 [0,2,4] [0,1,0,1] [4607182418800017408,b,b,d] a.1 a.2.1 a.2.2.1 a.2.2.2.1 a.2.2.2.2.1).bind fun o=>
    some o
  else
    some false).bind fun p=>
  some p
def sparselaw42_ProveKernel_l6 (b:(List (Bool×LI))):Int→Option ((Int)⊕(Unit⊕Unit)):=fun a=>
  if a < (b.length:Int) then
    (getI b a).bind fun c=>
    (sparseref01_Sign c.1 c.2).bind fun d=>
    if d=0 then
      some (.inl (wa .i64 a 1))
    else
      some (.inr (.inr ()))
  else
    some (.inr (.inl ()))
def sparselaw42_ProveKernel_l5 (b:(List (Bool×LI))×Bool×Int):Bool×Int→Option ((Bool×Int)⊕(Bool)):=fun (c,a)=>
  if a < (b.1.length:Int) then
    (if c=true then
      some true
    else
      (getI b.1 a).bind fun d=>
      (sparseref01_Sign d.1 d.2).bind fun e=>
      some (!(decide (e=0)))).bind fun f=>
    some (.inl (f,wa .i64 a 1))
  else
    some (.inr c)
def sparselaw42_ProveKernel_j2 (a:(List (Bool×LI))×Bool×Int) (b:Int×Int×LI×LI×LI) (c:(List (List (Bool×LI)))×Int×Int) (d:Int):Option (Bool):=
  if ((!(decide (a.2.2=0))) || (!((a.2.1 == (decide (d < b.2.1))))))=true then
    some false
  else
    if a.2.1=true then
      if (a.1.length:Int)=b.2.1 then
        (loop (sparselaw42_ProveKernel_l5 a) (false,0)).bind fun e=>
        (sparseref08_Times c.1 a.1).bind fun f=>
        (loop (sparselaw42_ProveKernel_l6 f) 0).bind (fun o=>match o with
          | .inl ()=>
            (if e=true then
              (sparselaw42_awake).bind fun g=>
              some g
            else
              some false).bind fun h=>
            some h
          | .inr ()=>
            some false)
      else
        some false
    else
      (if (a.1.length:Int)=0 then
        (sparselaw42_awake).bind fun i=>
        some i
      else
        some false).bind fun j=>
      some j
def sparselaw42_ProveKernel (d:LI) (e:Int) (f:Int) (g:Int) (h:Bool):Option (Bool):=
  (sparselaw42_pick d e f g h).bind fun a=>
  (prove_Singular a.1 a.2.1 a.2.2.1 a.2.2.2.1 a.2.2.2.2).bind fun c=>
  (sparseref09_Integers a.1 a.2.1 a.2.2.1 a.2.2.2.1 a.2.2.2.2).bind fun b=>
  if ((decide ((0:Int) < a.1)) && (decide ((0:Int) < a.2.1)))=true then
    (sparseref08_Rank b.1).bind fun i=>
    sparselaw42_ProveKernel_j2 c a b i
  else
    sparselaw42_ProveKernel_j2 c a b 0
end M
