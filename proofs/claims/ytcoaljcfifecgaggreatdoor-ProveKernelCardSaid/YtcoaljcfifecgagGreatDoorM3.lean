/- Models of functions of the program, printed. -/
import Derived.Test.YtcoaljcfifecgagGreatDoorM2
namespace M
open Sx
set_option linter.unusedVariables false
def sparseref03_nan (a:Int):Option (Bool):=
  (sparseref03_Kind a).bind fun b=>
  some (decide (b=3))
def sparseref03_Minus (a:Int):Option (Bool):=
  some (!(decide ((wand .u64 a 9223372036854775808)=0)))
def sparseref03_Of_j1 (c:Int) (b:Int) (d:Int):Option (Bool×Bool×LI×Int):=
  (sparseref03_Minus c).bind fun e=>
  (sparseref02_Make e [wc .u32 b,wc .u32 (wsrc .u64 b 32)] d).bind fun a=>
  some (a.1,a.2.1,a.2.2.1,a.2.2.2)
def sparseref03_Of (a:Int):Option (Bool×Bool×LI×Int):=
  (sparseref03_IsFinite a).bind fun c=>
  if c=true then
    if (0:Int) < (wc .i64 (wand .u64 (wsrc .u64 a 52) 2047)) then
      sparseref03_Of_j1 a (wor .u64 (wand .u64 a 4503599627370495) 4503599627370496) (ws .i64 (wc .i64 (wand .u64 (wsrc .u64 a 52) 2047)) 1075)
    else
      sparseref03_Of_j1 a (wand .u64 a 4503599627370495) (-1074)
  else
    (sparseref02_Bad).bind fun b=>
    some (b.1,b.2.1,[],b.2.2)
def sparseref02_Scale (e:Bool) (f:Bool) (g:LI) (h:Int) (c:Int):Option (Bool×Bool×LI×Int):=
  (sparseref02_Norm e f g h).bind fun a=>
  (if a.1=true then
    some true
  else
    (sparseref01_Sign a.2.1 a.2.2.1).bind fun i=>
    some (decide (i=0))).bind fun j=>
  if j=true then
    some (a.1,a.2.1,a.2.2.1,a.2.2.2)
  else
    if ((decide ((262144:Int) < c)) || (decide (c < (-262144))))=true then
      (sparseref02_Bad).bind fun d=>
      some (d.1,d.2.1,[],d.2.2)
    else
      (sparseref02_Make a.2.1 a.2.2.1 (wa .i64 a.2.2.2 c)).bind fun b=>
      some (b.1,b.2.1,b.2.2.1,b.2.2.2)
def sparseref03_Scale (a:Int) (d:Int) (e:Int):Option (Int):=
  (sparseref03_nan a).bind fun f=>
  if f=true then
    some 9221120237041090560
  else
    (sparseref03_Kind a).bind fun g=>
    if g=1 then
      (sparseref03_Of a).bind fun b=>
      (sparseref02_Scale b.1 b.2.1 b.2.2.1 b.2.2.2 (imax (-5000) (imin 5000 d))).bind fun c=>
      (sparseref03_Round c.1 c.2.1 c.2.2.1 c.2.2.2 e).bind fun h=>
      some h
    else
      some a
def sparselaw42_pick_l10 (a:Int×Int×LI×LI×LI) (e:Int) (f:Int):LI×LI×Int→Option ((LI×LI×Int)⊕((LI×LI))):=fun (c,d,b)=>
  if b < a.1 then
    (app c [b]).bind fun g=>
    (sparseref09_At a.1 a.2.1 a.2.2.1 a.2.2.2.1 a.2.2.2.2 b e).bind fun h=>
    (sparseref03_Scale h (ws .i64 (wc .i64 (wrc f 7)) 3) 0).bind fun i=>
    (app d [i]).bind fun j=>
    some (.inl (g,j,wa .i64 b 1))
  else
    some (.inr (c,d))
def sparselaw42_pick_j9 (c:LI) (a:Int) (d:Int×Int×LI×LI×LI) (e:LI) (f:LI) (g:LI) (h:Int):Option ((LI×LI×LI×Int)⊕((LI×LI×LI))):=
  (sparsegen_Word c (wa .i64 820 a)).bind fun i=>
  (loop (sparselaw42_pick_l10 d h i) (e,f,0)).bind fun (b,j)=>
  (app g [(b.length:Int)]).bind fun k=>
  some (.inl (k,b,j,wa .i64 a 1))
def sparselaw42_pick_l7 (c:Int×Int×LI×LI×LI) (b:LI):LI×LI×LI×Int→Option ((LI×LI×LI×Int)⊕((LI×LI×LI))):=fun (d,e,f,a)=>
  if a < c.2.1 then
    (if (0:Int) < a then
      (sparsegen_Word b (wa .i64 800 a)).bind fun g=>
      some (decide ((wrc g 2)=0))
    else
      some false).bind fun h=>
    if h=true then
      (sparsegen_Word b (wa .i64 810 a)).bind fun i=>
      (wr i (wc .u64 a)).bind fun j=>
      sparselaw42_pick_j9 b a c e f d (wc .i64 j)
    else
      sparselaw42_pick_j9 b a c e f d a
  else
    some (.inr (d,e,f))
def sparselaw42_pick (b:LI) (c:Int) (d:Int) (e:Int) (f:Bool):Option (Int×Int×LI×LI×LI):=
  (sparsegen_Mod e 3).bind fun g=>
  (sparsegen_Mod c 5).bind fun h=>
  (sparsegen_Mod d 5).bind fun i=>
  (sparsegen_General b h i g).bind fun a=>
  if f=true then
    (loop (sparselaw42_pick_l7 a b) ([0],[],[],0)).bind fun (j,k,l)=>
    some (a.1,a.2.1,j,k,l)
  else
    some (a.1,a.2.1,a.2.2.1,a.2.2.2.1,a.2.2.2.2)
def matrix_within (a:Int) (b:Int) (c:Int):Option (Bool):=
  some ((decide (b≤a)) && (decide (a≤c)))
def cmp_isNaN_int (a:Int):Option (Bool):=
  some (!(decide (a=a)))
def cmp_Less_int (a:Int) (b:Int):Option (Bool):=
  (cmp_isNaN_int a).bind fun c=>
  (if c=true then
    (cmp_isNaN_int b).bind fun d=>
    some (!(d))
  else
    some false).bind fun e=>
  some (e || (decide (a < b)))
def slices_IsSorted_int_l1 (b:LI):Int→Option ((Int)⊕(Unit⊕Unit)):=fun a=>
  if (0:Int) < a then
    (getI b a).bind fun c=>
    (getI b (ws .i64 a 1)).bind fun d=>
    (cmp_Less_int c d).bind fun e=>
    if e=true then
      some (.inr (.inr ()))
    else
      some (.inl (ws .i64 a 1))
  else
    some (.inr (.inl ()))
def slices_IsSorted_int (a:LI):Option (Bool):=
  (loop (slices_IsSorted_int_l1 a) (ws .i64 (a.length:Int) 1)).bind (fun o=>match o with
    | .inl ()=>
      some true
    | .inr ()=>
      some false)
def matrix_columns_l27 (c:LI) (d:Int):Int×Int→Option ((Int×Int)⊕(Unit⊕Unit)):=fun (e,a)=>
  if a < (c.length:Int) then
    (getI c a).bind fun b=>
    if ((decide (b≤e)) || (decide (d≤b)))=true then
      some (.inr (.inr ()))
    else
      some (.inl (b,wa .i64 a 1))
  else
    some (.inr (.inl ()))
def matrix_columns_l24 (c:Int) (b:LI) (d:LI) (e:Int):Int→Option ((Int)⊕(Unit⊕Unit)):=fun a=>
  if a < c then
    (getI b a).bind fun f=>
    (getI b (wa .i64 a 1)).bind fun g=>
    (sli d f g).bind fun h=>
    (loop (matrix_columns_l27 h e) ((-1),0)).bind (fun o=>match o with
      | .inl ()=>
        some (.inl (wa .i64 a 1))
      | .inr ()=>
        some (.inr (.inr ())))
  else
    some (.inr (.inl ()))
def matrix_columns (d:Int) (b:Int) (a:LI) (c:LI) (e:LI):Option (Bool):=
  (if (a.length:Int)=(wa .i64 b 1) then
    (getI a 0).bind fun f=>
    some (!(decide (f=0)))
  else
    some true).bind fun g=>
  (if g=true then
    some true
  else
    (slices_IsSorted_int a).bind fun h=>
    some (!(h))).bind fun i=>
  (if i=true then
    some true
  else
    (getI a b).bind fun j=>
    some (!(decide (j=(c.length:Int))))).bind fun k=>
  (if k=true then
    some true
  else
    some (!(decide ((c.length:Int)=(e.length:Int))))).bind fun l=>
  if l=true then
    some false
  else
    (loop (matrix_columns_l24 b a c d) 0).bind (fun o=>match o with
      | .inl ()=>
        some true
      | .inr ()=>
        some false)
def float_parts (a:Int):Option (Int×Int):=
  some (wc .i64 (wand .u64 (wsrc .u64 a 52) 2047),wand .u64 a 4503599627370495)
def float_IsFinite (a:Int):Option (Bool):=
  (float_parts a).bind fun b=>
  some (!(decide (b.1=2047)))
def matrix_Check_1 (a:Int):Option (Bool):=
  (float_IsFinite a).bind fun b=>
  some (!(b))
end M
