/- Models of functions of the program, printed. -/
import Derived.Test.YtpfmbaidflhamaaDoorM2
namespace M
open Sx
set_option linter.unusedVariables false
def exact_eliminate_j12 (a:Int) (b:List (List (Bool×LI))) (c:LI) (d:Bool) (e:LI) (f:Int):Option (((List (List (Bool×LI)))×LI×Bool×LI×Int×Int)⊕(((List (List (Bool×LI)))×LI×Bool×LI×Int))):=
  some (.inl (b,c,d,e,f,wa .i64 a 1))
def exact_eliminate_l13 (c:List (List (Bool×LI))) (d:Int) (e:LI) (g:Bool) (h:LI) (i:Int):Int→Option ((Int)⊕(((List (List (Bool×LI)))×LI×Bool×LI×Int)⊕Unit)):=fun b=>
  if b < (c.length:Int) then
    (getI c b).bind fun j=>
    (getI j d).bind fun f=>
    (integer_Sign f.1 f.2).bind fun k=>
    if k=0 then
      some (.inl (wa .i64 b 1))
    else
      (exact_reduced_step c e g h i d (e.length:Int) b).bind fun a=>
      some (.inr (.inl (a.1,a.2.1,a.2.2.1,a.2.2.2.1,a.2.2.2.2)))
  else
    some (.inr (.inr ()))
def exact_eliminate_l9 (g:Int):(List (List (Bool×LI)))×LI×Bool×LI×Int×Int→Option (((List (List (Bool×LI)))×LI×Bool×LI×Int×Int)⊕(((List (List (Bool×LI)))×LI×Bool×LI×Int))):=fun (c,a,d,e,f,b)=>
  if b < g then
    (loop (exact_eliminate_l13 c b a d e f) (a.length:Int)).bind (fun o=>match o with
      | .inl (h,i,j,k,l)=>
        exact_eliminate_j12 b h i j k l
      | .inr ()=>
        exact_eliminate_j12 b c a d e f)
  else
    some (.inr (c,a,d,e,f))
def exact_eliminate (b:List (List (Bool×LI))) (c:Int):Option ((List (List (Bool×LI)))×LI×Bool×LI×Int):=
  (integer_FromInt 1).bind fun a=>
  (loop (exact_eliminate_l9 c) (b,[],a.1,a.2,1,0)).bind fun (d,e,f,g,h)=>
  some (d,e,f,g,h)
def integer_Neg (b:Bool) (c:LI):Option (Bool×LI):=
  (slices_Clone_uint32 c).bind fun d=>
  (integer_big (!(b)) d).bind fun a=>
  some (a.1,a.2)
def exact_reduced_turned (h:List (List (Bool×LI))) (i:LI) (e:Bool) (f:LI) (j:Int) (a:Bool) (b:LI):Option (Bool×LI):=
  (integer_Sign e f).bind fun g=>
  if g < 0 then
    (integer_Neg a b).bind fun c=>
    some (c.1,c.2)
  else
    (integer_Norm a b).bind fun d=>
    some (d.1,d.2)
def integer_Abs (d:Bool) (b:LI):Option (Bool×LI):=
  (slices_Clone_uint32 b).bind fun c=>
  (integer_big false c).bind fun a=>
  some (a.1,a.2)
def exact_Solve_l1 (a:(List (List (Bool×LI)))×LI×Bool×LI×Int) (f:List (List (Bool×LI))):(List (Bool×LI))×Int→Option (((List (Bool×LI))×Int)⊕(((List (Bool×LI))))):=fun (c,b)=>
  if b < (a.1.length:Int) then
    (getI a.1 b).bind fun g=>
    (getI g (f.length:Int)).bind fun d=>
    (exact_reduced_turned a.1 a.2.1 a.2.2.1 a.2.2.2.1 a.2.2.2.2 d.1 d.2).bind fun e=>
    (app c [(e.1,e.2)]).bind fun h=>
    some (.inl (h,wa .i64 b 1))
  else
    some (.inr c)
def exact_Solve (a:List (List (Bool×LI))) (c:List (Bool×LI)):Option ((List (Bool×LI))×Bool×LI×Int):=
  (exact_square a).bind fun d=>
  if d=0 then
    if (c.length:Int)=(a.length:Int) then
      (exact_twin a c).bind fun f=>
      (exact_eliminate f (a.length:Int)).bind fun b=>
      if (b.2.1.length:Int) < (a.length:Int) then
        some ([],false,[],9)
      else
        (loop (exact_Solve_l1 b a) ([],0)).bind fun g=>
        (integer_Abs b.2.2.1 b.2.2.2.1).bind fun e=>
        some (g,e.1,e.2,0)
    else
      some ([],false,[],2)
  else
    some ([],false,[],d)
def integer_Cmp (e:Bool) (b:LI) (f:Bool) (c:LI):Option (Int):=
  (integer_Sign e b).bind fun a=>
  (integer_Sign f c).bind fun d=>
  if a < d then
    some (-1)
  else
    if d < a then
      some 1
    else
      (integer_trim b).bind fun g=>
      (integer_trim c).bind fun h=>
      (integer_compare g h).bind fun i=>
      some (wm .i64 a i)
def exact_product_l13 (b:List (Bool×LI)) (i:List (List (Bool×LI))) (j:Int):Bool×LI×Int→Option ((Bool×LI×Int)⊕((Bool×LI))):=fun (c,d,a)=>
  if a < (b.length:Int) then
    (getI b a).bind fun e=>
    (getI i a).bind fun k=>
    (getI k j).bind fun f=>
    (integer_Mul e.1 e.2 f.1 f.2).bind fun g=>
    (integer_Add c d g.1 g.2).bind fun h=>
    some (.inl (h.1,h.2,wa .i64 a 1))
  else
    some (.inr (c,d))
def exact_product_l12 (b:List (Bool×LI)) (d:List (List (Bool×LI))):(List (Bool×LI))×Int→Option (((List (Bool×LI))×Int)⊕(((List (Bool×LI))))):=fun (c,a)=>
  if a < (b.length:Int) then
    (loop (exact_product_l13 b d a) (false,[],0)).bind fun (e,f)=>
    (app c [(e,f)]).bind fun g=>
    some (.inl (g,wa .i64 a 1))
  else
    some (.inr c)
def exact_product_l9 (b:List (List (Bool×LI))) (d:List (List (Bool×LI))):(List (List (Bool×LI)))×Int→Option (((List (List (Bool×LI)))×Int)⊕(((List (List (Bool×LI)))))):=fun (c,a)=>
  if a < (b.length:Int) then
    (getI b a).bind fun e=>
    (loop (exact_product_l12 e d) ([],0)).bind fun f=>
    (app c [f]).bind fun g=>
    some (.inl (g,wa .i64 a 1))
  else
    some (.inr c)
def exact_product_v2_l13 (b:List (Bool×LI)) (i:List (List (Bool×LI))) (j:Int):Bool×LI×Int→Option ((Bool×LI×Int)⊕((Bool×LI))):=fun (c,d,a)=>
  if a < (b.length:Int) then
    (getI b a).bind fun e=>
    (getI i a).bind fun k=>
    (getI k j).bind fun f=>
    (integer_Mul e.1 e.2 f.1 f.2).bind fun g=>
    (integer_Add c d g.1 g.2).bind fun h=>
    some (.inl (h.1,h.2,wa .i64 a 1))
  else
    some (.inr (c,d))
def exact_product_v2_l12 (b:List (Bool×LI)) (d:List (List (Bool×LI))):(List (Bool×LI))×Int→Option (((List (Bool×LI))×Int)⊕(((List (Bool×LI))))):=fun (c,a)=>
  if a < (b.length:Int) then
    (loop (exact_product_v2_l13 b d a) (false,[],0)).bind fun (e,f)=>
    (app c [(e,f)]).bind fun g=>
    some (.inl (g,wa .i64 a 1))
  else
    some (.inr c)
def exact_product_v2_l9 (b:List (List (Bool×LI))) (d:List (List (Bool×LI))):(List (List (Bool×LI)))×Int→Option (((List (List (Bool×LI)))×Int)⊕(((List (List (Bool×LI)))))):=fun (c,a)=>
  if a < (b.length:Int) then
    (getI b a).bind fun e=>
    (loop (exact_product_v2_l12 e d) ([],0)).bind fun f=>
    (app c [f]).bind fun g=>
    some (.inl (g,wa .i64 a 1))
  else
    some (.inr c)
def exact_product_v2 (a:List (List (Bool×LI))) (b:List (List (Bool×LI))):Option ((List (List (Bool×LI)))):=
  (loop (exact_product_v2_l9 a b) ([],0)).bind fun c=>
  some c
def exact_characteristic_l10 (b:(List (List (Bool×LI)))):Bool×LI×Int→Option ((Bool×LI×Int)⊕((Bool×LI))):=fun (c,d,a)=>
  if a < (b.length:Int) then
    (getI b a).bind fun g=>
    (getI g a).bind fun e=>
    (integer_Add c d e.1 e.2).bind fun f=>
    some (.inl (f.1,f.2,wa .i64 a 1))
  else
    some (.inr (c,d))
def exact_characteristic_l9 (f:List (List (Bool×LI))) (g:List (Bool×LI)) (h:List (List (Bool×LI))) (i:Int):(List (List (Bool×LI)))×Int→Option (((List (List (Bool×LI)))×Int)⊕(((List (List (Bool×LI)))))):=fun (b,a)=>
  if a < (f.length:Int) then
    (getI b a).bind fun j=>
    (getI b a).bind fun k=>
    (getI k a).bind fun c=>
    (getI g (wa .i64 (ws .i64 (h.length:Int) i) 1)).bind fun d=>
    (integer_Add c.1 c.2 d.1 d.2).bind fun e=>
    (setI j a (e.1,e.2)).bind fun l=>
    (setI b a l).bind fun m=>
    some (.inl (m,wa .i64 a 1))
  else
    some (.inr b)
def exact_characteristic_l8 (b:List (List (Bool×LI))):(List (Bool×LI))×(List (List (Bool×LI)))×Int→Option (((List (Bool×LI))×(List (List (Bool×LI)))×Int)⊕(((List (Bool×LI))))):=fun (c,d,a)=>
  if a≤(b.length:Int) then
    (loop (exact_characteristic_l9 d c b a) (d,0)).bind fun i=>
    (exact_product_v2 b i).bind fun e=>
    (loop (exact_characteristic_l10 e) (false,[],0)).bind fun (j,k)=>
    (integer_FromInt a).bind fun f=>
    (integer_Quo j k f.1 f.2).bind fun g=>
    (integer_Neg g.1 g.2.1).bind fun h=>
    (setI c (ws .i64 (b.length:Int) a) (h.1,h.2)).bind fun l=>
    some (.inl (l,e,wa .i64 a 1))
  else
    some (.inr c)
def exact_characteristic_l1 (c:List (List (Bool×LI))) (d:List (List (Bool×LI))):(List (List (Bool×LI)))×Int→Option (((List (List (Bool×LI)))×Int)⊕(((List (List (Bool×LI)))))):=fun (b,a)=>
  if a < (c.length:Int) then
    (mkL (false,[]) (d.length:Int)).bind fun e=>
    (setI b a e).bind fun f=>
    some (.inl (f,wa .i64 a 1))
  else
    some (.inr b)
def exact_characteristic (a:List (List (Bool×LI))):Option ((List (Bool×LI))):=
  (mkL (false,[]) (wa .i64 (a.length:Int) 1)).bind fun d=>
  (integer_FromInt 1).bind fun b=>
  (setI d (a.length:Int) (b.1,b.2)).bind fun e=>
  (mkL ([]:List (Bool×LI)) (a.length:Int)).bind fun c=>
  (loop (exact_characteristic_l1 c a) (c,0)).bind fun f=>
  (loop (exact_characteristic_l8 a) (e,f,1)).bind fun g=>
  some g
def exact_Inertia_j13 (a:Int) (b:Int) (c:Int):Option ((Int×Int×Int)⊕(Int)):=
  some (.inl (a,c,wa .i64 b 1))
def exact_Inertia_j12 (a:Int) (b:Int) (d:Int) (c:Int):Option ((Int×Int×Int)⊕(Int)):=
  if a=0 then
    exact_Inertia_j13 c b d
  else
    exact_Inertia_j13 c b a
def exact_Inertia_l11 (e:(List (Bool×LI))):Int×Int×Int→Option ((Int×Int×Int)⊕(Int)):=fun (b,c,a)=>
  if a < (e.length:Int) then
    (getI e a).bind fun f=>
    (integer_Sign f.1 f.2).bind fun d=>
    if (wm .i64 d c) < 0 then
      exact_Inertia_j12 d a c (wa .i64 b 1)
    else
      exact_Inertia_j12 d a c b
  else
    some (.inr b)
def exact_Inertia_l6 (c:List (List (Bool×LI))) (d:(List (Bool×LI))):Int→Option ((Int)⊕(Int)):=fun a=>
  (if a < (c.length:Int) then
    (getI d a).bind fun b=>
    (integer_Sign b.1 b.2).bind fun e=>
    some (decide (e=0))
  else
    some false).bind fun f=>
  if f=true then
    some (.inl (wa .i64 a 1))
  else
    some (.inr a)
def exact_Inertia_l15 (b:List (Bool×LI)) (e:List (List (Bool×LI))) (f:Int):Int→Option ((Int)⊕(Unit⊕Unit)):=fun a=>
  if a < (b.length:Int) then
    (getI b a).bind fun c=>
    (getI e a).bind fun g=>
    (getI g f).bind fun d=>
    (integer_Cmp c.1 c.2 d.1 d.2).bind fun h=>
    if h=0 then
      some (.inl (wa .i64 a 1))
    else
      some (.inr (.inr ()))
  else
    some (.inr (.inl ()))
def exact_Inertia_l3 (b:List (List (Bool×LI))):Int→Option ((Int)⊕(Unit⊕Unit)):=fun a=>
  if a < (b.length:Int) then
    (getI b a).bind fun c=>
    (loop (exact_Inertia_l15 c b a) 0).bind (fun o=>match o with
      | .inl ()=>
        some (.inl (wa .i64 a 1))
      | .inr ()=>
        some (.inr (.inr ())))
  else
    some (.inr (.inl ()))
def exact_Inertia (a:List (List (Bool×LI))):Option (Int×Int×Int×Int):=
  (exact_square a).bind fun b=>
  if b=0 then
    (loop (exact_Inertia_l3 a) 0).bind (fun o=>match o with
      | .inl ()=>
        (exact_twin a []).bind fun f=>
        (exact_characteristic f).bind fun c=>
        (loop (exact_Inertia_l6 a c) 0).bind fun d=>
        (loop (exact_Inertia_l11 c) (0,0,0)).bind fun e=>
        some (ws .i64 (ws .i64 (a.length:Int) d) e,d,e,0)
      | .inr ()=>
        some (0,0,0,80))
  else
    some (0,0,0,b)
def slices_Reverse_string_l1:(List ByteArray)×Int×Int→Option (((List ByteArray)×Int×Int)⊕(((List ByteArray)))):=fun (a,b,c)=>
  if b < c then
    (getI a c).bind fun d=>
    (getI a b).bind fun e=>
    (setI a b d).bind fun f=>
    (setI f c e).bind fun g=>
    some (.inl (g,wa .i64 b 1,ws .i64 c 1))
  else
    some (.inr a)
def slices_Reverse_string (a:List ByteArray):Option ((List ByteArray)):=
  (loop (slices_Reverse_string_l1) (a,0,ws .i64 (a.length:Int) 1)).bind fun b=>
  some b
def integer_Format_j4 (a:List ByteArray):Option (ByteArray):=
  (slices_Reverse_string a).bind fun b=>
  (joinG b (⟨#[]⟩:ByteArray)).bind fun c=>
  some c
def integer_Format_j5 (a:List ByteArray) (b:ByteArray) (c:LI×Int):Option ((LI×(List ByteArray))⊕(((List ByteArray)))):=
  (app a [b]).bind fun d=>
  some (.inl (c.1,d))
def integer_Format_l3:LI×(List ByteArray)→Option ((LI×(List ByteArray))⊕(((List ByteArray)))):=fun (b,c)=>
  if (0:Int) < (b.length:Int) then
    (integer_short b 1000000000).bind fun a=>
    (itoaG (wc .i64 a.2)).bind fun d=>
    if (0:Int) < (a.1.length:Int) then
      none
    else
      integer_Format_j5 c d a
  else
    some (.inr c)
def integer_Format (b:Bool) (c:LI):Option (ByteArray):=
  (integer_trim c).bind fun d=>
  (slices_Clone_uint32 d).bind fun e=>
  (loop (integer_Format_l3) (e,[])).bind fun a=>
  if (a.length:Int)=0 then
    some (⟨#[48]⟩:ByteArray)
  else
    if b=true then
      (app a [(⟨#[45]⟩:ByteArray)]).bind fun f=>
      integer_Format_j4 f
    else
      integer_Format_j4 a
def sparselaw08_awake:Option (Bool):=
  (sparselaw08_num 2).bind fun c=>
  (sparselaw08_num 1).bind fun d=>
  (sparselaw08_num 1).bind fun e=>
  (sparselaw08_num (-1)).bind fun f=>
  (sparselaw08_num 3).bind fun g=>
  (sparselaw08_num 0).bind fun h=>
  (exact_Solve [[(c.1,c.2),(d.1,d.2)],[(e.1,e.2),(f.1,f.2)]] [(g.1,g.2),(h.1,h.2)]).bind fun a=>
  (sparselaw08_num 0).bind fun i=>
  (sparselaw08_num 1).bind fun j=>
  (sparselaw08_num 1).bind fun k=>
  (sparselaw08_num 0).bind fun l=>
  (exact_Inertia [[(i.1,i.2),(j.1,j.2)],[(k.1,k.2),(l.1,l.2)]]).bind fun b=>
  (if ((decide (a.2.2.2=0)) && (decide ((a.1.length:Int)=2)))=true then
    (getI a.1 0).bind fun m=>
    (integer_Format m.1 m.2).bind fun o=>
    some (decide (o=(⟨#[51]⟩:ByteArray)))
  else
    some false).bind fun p=>
  (if p=true then
    (getI a.1 1).bind fun n=>
    (integer_Format n.1 n.2).bind fun q=>
    some (decide (q=(⟨#[51]⟩:ByteArray)))
  else
    some false).bind fun r=>
  (if r=true then
    (integer_Format a.2.1 a.2.2.1).bind fun s=>
    some (decide (s=(⟨#[51]⟩:ByteArray)))
  else
    some false).bind fun t=>
  some ((((t && (decide (b.2.2.2=0))) && (decide (b.1=1))) && (decide (b.2.1=0))) && (decide (b.2.2.1=1)))
def sparsekit_Place (a:Int) (b:Int):Option (Int):=
  (wr (wc .u64 a) (wc .u64 b)).bind fun c=>
  some (wc .i64 c)
end M
