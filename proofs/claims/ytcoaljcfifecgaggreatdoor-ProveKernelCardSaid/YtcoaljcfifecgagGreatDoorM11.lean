/- Models of functions of the program, printed. -/
import Derived.Test.YtcoaljcfifecgagGreatDoorM10
namespace M
open Sx
set_option linter.unusedVariables false
def slices_IndexFunc_int_v2_l1 (b:L2) (c:Int):Int→Option ((Int)⊕(Unit⊕Int)):=fun a=>
  if a < (b.length:Int) then
    (getI b a).bind fun d=>
    (modular_echelon_1 d c).bind fun e=>
    if e=true then
      some (.inr (.inr a))
    else
      some (.inl (wa .i64 a 1))
  else
    some (.inr (.inl ()))
def slices_IndexFunc_int_v2 (a:L2) (b:Int):Option (Int):=
  (loop (slices_IndexFunc_int_v2_l1 a b) 0).bind (fun o=>match o with
    | .inl ()=>
      some (-1)
    | .inr c=>
      some c)
def modular_raise_j4 (a:Int) (b:Int) (c:Int) (d:Int):Option ((Int×Int×Int)⊕(Int)):=
  (wr (wm .i64 a a) b).bind fun e=>
  some (.inl (e,wqc .i64 c 2,d))
def modular_raise_l3 (b:Int):Int×Int×Int→Option ((Int×Int×Int)⊕(Int)):=fun (c,a,d)=>
  if (0:Int) < a then
    if (wrc a 2)=1 then
      (wr (wm .i64 d c) b).bind fun e=>
      modular_raise_j4 c b a e
    else
      modular_raise_j4 c b a d
  else
    some (.inr d)
def modular_raise (a:Int) (b:Int) (c:Int):Option (Int):=
  (loop (modular_raise_l3 c) (a,b,1)).bind fun d=>
  some d
def modular_inverse (b:Int) (a:Int):Option (Int):=
  (modular_raise b (ws .i64 a 2) a).bind fun c=>
  some c
def modular_subtract_l1 (c:LI) (e:Int) (d:Int):LI×Int→Option ((LI×Int)⊕(LI)):=fun (b,a)=>
  if a < (c.length:Int) then
    (getI c a).bind fun f=>
    (getI b a).bind fun g=>
    (wr (wm .i64 e f) d).bind fun h=>
    (modular_mod (ws .i64 g h) d).bind fun i=>
    (setI b a i).bind fun j=>
    some (.inl (j,wa .i64 a 1))
  else
    some (.inr b)
def modular_subtract (a:LI) (b:LI) (c:Int) (d:Int):Option (LI):=
  (loop (modular_subtract_l1 b c d) (a,0)).bind fun e=>
  some e
def modular_echelon_j161 (a:Int) (b:L2) (c:LI) (d:Int):Option ((L2×LI×Int×Int)⊕((L2×LI×Int))):=
  some (.inl (b,c,d,wa .i64 a 1))
def modular_echelon_j170 (a:Int) (b:L2):Option ((L2×Int)⊕(L2)):=
  some (.inl (b,wa .i64 a 1))
def modular_echelon_l168 (f:L2) (c:LI) (e:Int) (g:Int):L2×Int→Option ((L2×Int)⊕(L2)):=fun (b,a)=>
  if a < (f.length:Int) then
    (getI b a).bind fun d=>
    (if a=(c.length:Int) then
      some false
    else
      (getI d e).bind fun h=>
      some (!(decide (h=0)))).bind fun i=>
    if i=true then
      (getI b (c.length:Int)).bind fun j=>
      (getI d e).bind fun k=>
      (neI a (c.length:Int)).bind fun u2628=>
      (modular_subtract d j k g).bind fun l=>
      (setI b a l).bind fun m=>
      modular_echelon_j170 a m
    else
      modular_echelon_j170 a b
  else
    some (.inr b)
def modular_echelon_l163 (d:LI) (c:LI) (e:Int) (f:Int):L2×Int→Option ((L2×Int)⊕(L2)):=fun (a,b)=>
  if b < (d.length:Int) then
    (getI a (c.length:Int)).bind fun g=>
    (getI a (c.length:Int)).bind fun h=>
    (getI h b).bind fun i=>
    (wr (wm .i64 i e) f).bind fun j=>
    (setI g b j).bind fun k=>
    (setI a (c.length:Int) k).bind fun l=>
    some (.inl (l,wa .i64 b 1))
  else
    some (.inr a)
def modular_echelon_j162 (a:LI) (b:Int) (c:Int) (d:L2) (f:Int):Option ((L2×LI×Int×Int)⊕((L2×LI×Int))):=
  (getI d (a.length:Int)).bind fun g=>
  (getI g b).bind fun h=>
  (wr (wm .i64 f h) c).bind fun i=>
  (getI d (a.length:Int)).bind fun j=>
  (getI j b).bind fun k=>
  (modular_inverse k c).bind fun l=>
  (getI d (a.length:Int)).bind fun m=>
  (loop (modular_echelon_l163 m a l c) (d,0)).bind fun e=>
  (loop (modular_echelon_l168 e a b c) (e,0)).bind fun n=>
  (app a [b]).bind fun o=>
  modular_echelon_j161 b n o i
def modular_echelon_l142 (g:Int) (f:Int):L2×LI×Int×Int→Option ((L2×LI×Int×Int)⊕((L2×LI×Int))):=fun (b,a,c,d)=>
  if d < g then
    if (a.length:Int)=(b.length:Int) then
      some (.inr (b,a,c))
    else
      (sli b (a.length:Int) (b.length:Int)).bind fun h=>
      (slices_IndexFunc_int_v2 h d).bind fun e=>
      if (wa .i64 (a.length:Int) e) < (a.length:Int) then
        modular_echelon_j161 d b a c
      else
        if (a.length:Int) < (wa .i64 (a.length:Int) e) then
          (getI b (wa .i64 (a.length:Int) e)).bind fun i=>
          (getI b (a.length:Int)).bind fun j=>
          (setI b (a.length:Int) i).bind fun k=>
          (setI k (wa .i64 (a.length:Int) e) j).bind fun l=>
          (modular_mod (wneg .i64 c) f).bind fun m=>
          modular_echelon_j162 a d f l m
        else
          modular_echelon_j162 a d f b c
  else
    some (.inr (b,a,c))
def modular_echelon (a:L2) (b:Int):Option (L2×LI×Int):=
  (modular_columns a).bind fun c=>
  (loop (modular_echelon_l142 c b) (a,[],1,0)).bind fun (d,e,f)=>
  some (d,e,f)
def modular_Rank (b:L2) (a:Int):Option (Int×Int):=
  (modular_check b a).bind fun c=>
  if c=0 then
    (modular_reduced b a).bind fun d=>
    (modular_echelon d a).bind fun e=>
    some ((e.2.1.length:Int),0)
  else
    some (0,c)
def prove_independent_j5 (a:Int) (b:LI) (c:L2):Option ((LI×L2×Int)⊕(LI)):=
  some (.inl (b,c,wa .i64 a 1))
def prove_independent_l4 (e:L2) (f:Int):LI×L2×Int→Option ((LI×L2×Int)⊕(LI)):=fun (b,c,a)=>
  if a < (e.length:Int) then
    (getI e a).bind fun g=>
    (slices_Clip_int c).bind fun j=>
    (app c [g]).bind fun d=>
    (modular_Rank d f).bind fun h=>
    if h.1=(d.length:Int) then
      (app b [a]).bind fun i=>
      prove_independent_j5 a i d
    else
      prove_independent_j5 a b c
  else
    some (.inr b)
def prove_independent (a:L2) (b:Int):Option (LI):=
  (loop (prove_independent_l4 a b) ([],[],0)).bind fun c=>
  some c
def prove_transposed_l4 (d:L2) (a:Int):L2×Int→Option ((L2×Int)⊕(L2)):=fun (b,c)=>
  if c < (d.length:Int) then
    (getI d c).bind fun e=>
    (getI b a).bind fun f=>
    (getI e a).bind fun g=>
    (app f [g]).bind fun h=>
    (setI b a h).bind fun i=>
    some (.inl (i,wa .i64 c 1))
  else
    some (.inr b)
def prove_transposed_l3 (c:L2) (d:L2):L2×Int→Option ((L2×Int)⊕(L2)):=fun (b,a)=>
  if a < (c.length:Int) then
    (loop (prove_transposed_l4 d a) (b,0)).bind fun e=>
    some (.inl (e,wa .i64 a 1))
  else
    some (.inr b)
def prove_transposed (b:L2) (c:Int):Option (L2):=
  (mkL ([]:LI) c).bind fun a=>
  (loop (prove_transposed_l3 a b) (a,0)).bind fun d=>
  some d
def prove_Rank_l1 (c:LI) (g:(List (List (Bool×LI)))×Int×Int) (d:Int) (h:(List (List (Bool×LI)))):Int→Option ((Int)⊕(Unit⊕(Int×LI×LI))):=fun b=>
  if b < (c.length:Int) then
    (getI c b).bind fun a=>
    (prove_reduced g.1 a).bind fun e=>
    (prove_independent e a).bind fun f=>
    if (f.length:Int)=(ws .i64 d (h.length:Int)) then
      (prove_transposed e d).bind fun i=>
      (prove_independent i a).bind fun j=>
      some (.inr (.inr (a,f,j)))
    else
      some (.inl (wa .i64 b 1))
  else
    some (.inr (.inl ()))
def prove_Rank (d:Int) (a:Int) (e:LI) (f:LI) (g:LI):Option (Int×Int×LI×LI×(List (List (Bool×LI)))×Int):=
  (matrix_Integers d a e f g).bind fun b=>
  if b.2.2=0 then
    (prove_kernel b.1 a).bind fun c=>
    (modular_Primes 2147483648 5).bind fun h=>
    (loop (prove_Rank_l1 h b a c) 0).bind (fun o=>match o with
      | .inl ()=>
        some (0,0,[],[],[],420)
      | .inr (i,j,k)=>
        some (ws .i64 a (c.length:Int),i,j,k,c,0))
  else
    some (0,0,[],[],[],b.2.2)
def sparsekit_Limbs_l1 (b:LI) (c:LI):Int→Option ((Int)⊕(Unit⊕Unit)):=fun a=>
  if a < (b.length:Int) then
    (getI b a).bind fun d=>
    (getI c a).bind fun e=>
    if d=e then
      some (.inl (wa .i64 a 1))
    else
      some (.inr (.inr ()))
  else
    some (.inr (.inl ()))
def sparsekit_Limbs (a:LI) (b:LI):Option (Bool):=
  if (a.length:Int)=(b.length:Int) then
    (loop (sparsekit_Limbs_l1 a b) 0).bind (fun o=>match o with
      | .inl ()=>
        some true
      | .inr ()=>
        some false)
  else
    some false
def sparsekit_Big (a:Bool) (b:LI) (c:Bool) (d:LI):Option (Bool):=
  (if (a == c)=true then
    (sparsekit_Limbs b d).bind fun e=>
    some e
  else
    some false).bind fun f=>
  some f
def prove_ascending_l9 (b:LI) (d:Int):Int→Option ((Int)⊕(Unit⊕Unit)):=fun a=>
  if a < (b.length:Int) then
    (getI b a).bind fun c=>
    (if ((decide (c < 0)) || (decide (d≤c)))=true then
      some true
    else
      (if (0:Int) < a then
        (getI b (ws .i64 a 1)).bind fun e=>
        some (decide (c≤e))
      else
        some false).bind fun f=>
      some f).bind fun g=>
    if g=true then
      some (.inr (.inr ()))
    else
      some (.inl (wa .i64 a 1))
  else
    some (.inr (.inl ()))
def prove_ascending (a:LI) (b:Int) (c:Int):Option (Bool):=
  if (a.length:Int)=b then
    (loop (prove_ascending_l9 a c) 0).bind (fun o=>match o with
      | .inl ()=>
        some true
      | .inr ()=>
        some false)
  else
    some false
def modular_square (a:L2) (c:Int):Option (Int):=
  (modular_check a c).bind fun b=>
  (if b=0 then
    (modular_columns a).bind fun d=>
    some (!(decide ((a.length:Int)=d)))
  else
    some false).bind fun e=>
  if e=true then
    some 5
  else
    some b
def modular_Det (a:L2) (b:Int):Option (Int×Int):=
  (modular_square a b).bind fun c=>
  if c=0 then
    (modular_reduced a b).bind fun e=>
    (modular_echelon e b).bind fun d=>
    if (d.2.1.length:Int) < (a.length:Int) then
      some (0,0)
    else
      some (d.2.2,0)
  else
    some (0,c)
end M
