/- Models of functions of the program, printed. -/
import Derived.Test.YtpfmbaidflhamaaGreatDoorM3
namespace M
open Sx
set_option linter.unusedVariables false
def integer_Format_j4 (a:List ByteArray):Option (ByteArray):=
  (slices_Reverse_string a).bind fun b=>
  (joinG b (⟨#[]⟩:ByteArray)).bind fun c=>
  some c
def integer_Format_j5 (a:List ByteArray) (b:ByteArray) (c:LI×Int):Option ((LI×(List ByteArray))⊕(((List ByteArray)))):=
  (app a [b]).bind fun d=>
  some (.inl (c.1,d))
def integer_Format_l3:LI×(List ByteArray)→Option ((LI×(List ByteArray))⊕(((List ByteArray)))):=fun (b,c)=>
  if (0:Int) < (b.length:Int) then
    (integer_short b 1000000000).bind fun a=>
    (itoaG (wc .i64 a.2)).bind fun d=>
    if (0:Int) < (a.1.length:Int) then
      none
    else
      integer_Format_j5 c d a
  else
    some (.inr c)
def integer_Format (b:Bool) (c:LI):Option (ByteArray):=
  (integer_trim c).bind fun d=>
  (slices_Clone_uint32 d).bind fun e=>
  (loop (integer_Format_l3) (e,[])).bind fun a=>
  if (a.length:Int)=0 then
    some (⟨#[48]⟩:ByteArray)
  else
    if b=true then
      (app a [(⟨#[45]⟩:ByteArray)]).bind fun f=>
      integer_Format_j4 f
    else
      integer_Format_j4 a
def sparselaw08_awake:Option (Bool):=
  (sparselaw08_num 2).bind fun c=>
  (sparselaw08_num 1).bind fun d=>
  (sparselaw08_num 1).bind fun e=>
  (sparselaw08_num (-1)).bind fun f=>
  (sparselaw08_num 3).bind fun g=>
  (sparselaw08_num 0).bind fun h=>
  (exact_Solve [[(c.1,c.2),(d.1,d.2)],[(e.1,e.2),(f.1,f.2)]] [(g.1,g.2),(h.1,h.2)]).bind fun a=>
  (sparselaw08_num 0).bind fun i=>
  (sparselaw08_num 1).bind fun j=>
  (sparselaw08_num 1).bind fun k=>
  (sparselaw08_num 0).bind fun l=>
  (exact_Inertia [[(i.1,i.2),(j.1,j.2)],[(k.1,k.2),(l.1,l.2)]]).bind fun b=>
  (if ((decide (a.2.2.2=0)) && (decide ((a.1.length:Int)=2)))=true then
    (getI a.1 0).bind fun m=>
    (integer_Format m.1 m.2).bind fun o=>
    some (decide (o=(⟨#[51]⟩:ByteArray)))
  else
    some false).bind fun p=>
  (if p=true then
    (getI a.1 1).bind fun n=>
    (integer_Format n.1 n.2).bind fun q=>
    some (decide (q=(⟨#[51]⟩:ByteArray)))
  else
    some false).bind fun r=>
  (if r=true then
    (integer_Format a.2.1 a.2.2.1).bind fun s=>
    some (decide (s=(⟨#[51]⟩:ByteArray)))
  else
    some false).bind fun t=>
  some ((((t && (decide (b.2.2.2=0))) && (decide (b.1=1))) && (decide (b.2.1=0))) && (decide (b.2.2.1=1)))
def sparsekit_TwinBig_l1 (b:LI):LI×Int→Option ((LI×Int)⊕(LI)):=fun (c,a)=>
  if a < (b.length:Int) then
    (getI b a).bind fun d=>
    (app c [d]).bind fun e=>
    some (.inl (e,wa .i64 a 1))
  else
    some (.inr c)
def sparsekit_TwinBig (a:Bool) (b:LI):Option (Bool×LI):=
  (loop (sparsekit_TwinBig_l1 b) ([],0)).bind fun c=>
  some (a,c)
def sparsekit_TwinBigs_l1 (b:List (Bool×LI)):(List (Bool×LI))×Int→Option (((List (Bool×LI))×Int)⊕(((List (Bool×LI))))):=fun (c,a)=>
  if a < (b.length:Int) then
    (getI b a).bind fun d=>
    (sparsekit_TwinBig d.1 d.2).bind fun e=>
    (app c [(e.1,e.2)]).bind fun f=>
    some (.inl (f,wa .i64 a 1))
  else
    some (.inr c)
def sparsekit_TwinBigs (a:List (Bool×LI)):Option ((List (Bool×LI))):=
  (loop (sparsekit_TwinBigs_l1 a) ([],0)).bind fun b=>
  some b
def sparsekit_TwinRows_l1 (b:List (List (Bool×LI))):(List (List (Bool×LI)))×Int→Option (((List (List (Bool×LI)))×Int)⊕(((List (List (Bool×LI)))))):=fun (c,a)=>
  if a < (b.length:Int) then
    (getI b a).bind fun d=>
    (sparsekit_TwinBigs d).bind fun e=>
    (app c [e]).bind fun f=>
    some (.inl (f,wa .i64 a 1))
  else
    some (.inr c)
def sparsekit_TwinRows (a:List (List (Bool×LI))):Option ((List (List (Bool×LI)))):=
  (loop (sparsekit_TwinRows_l1 a) ([],0)).bind fun b=>
  some b
def exact_Least_1 (b:Int) (c:List (Bool×LI)):Option (Bool×LI):=
  (getI c b).bind fun a=>
  some (a.1,a.2)
def exact_inner_l1 (b:List (List (Bool×LI))) (i:Int) (j:List (Bool×LI)):Bool×LI×Int→Option ((Bool×LI×Int)⊕((Bool×LI))):=fun (c,d,a)=>
  if a < (b.length:Int) then
    (getI b a).bind fun k=>
    (getI k i).bind fun e=>
    (exact_Least_1 a j).bind fun f=>
    (integer_Mul e.1 e.2 f.1 f.2).bind fun g=>
    (integer_Add c d g.1 g.2).bind fun h=>
    some (.inl (h.1,h.2,wa .i64 a 1))
  else
    some (.inr (c,d))
def exact_inner (a:List (List (Bool×LI))) (b:Int) (c:List (Bool×LI)):Option (Bool×LI):=
  (loop (exact_inner_l1 a b c) (false,[],0)).bind fun (d,e)=>
  some (d,e)
def exact_Least_2 (b:Int) (c:List (List (Bool×LI))) (d:Int):Option (Bool×LI):=
  (getI c b).bind fun e=>
  (getI e d).bind fun a=>
  some (a.1,a.2)
def exact_inner_v2_l1 (b:List (List (Bool×LI))) (i:Int) (j:List (List (Bool×LI))) (k:Int):Bool×LI×Int→Option ((Bool×LI×Int)⊕((Bool×LI))):=fun (c,d,a)=>
  if a < (b.length:Int) then
    (getI b a).bind fun l=>
    (getI l i).bind fun e=>
    (exact_Least_2 a j k).bind fun f=>
    (integer_Mul e.1 e.2 f.1 f.2).bind fun g=>
    (integer_Add c d g.1 g.2).bind fun h=>
    some (.inl (h.1,h.2,wa .i64 a 1))
  else
    some (.inr (c,d))
def exact_inner_v2 (a:List (List (Bool×LI))) (b:Int) (c:List (List (Bool×LI))) (d:Int):Option (Bool×LI):=
  (loop (exact_inner_v2_l1 a b c d) (false,[],0)).bind fun (e,f)=>
  some (e,f)
def exact_Least_l5 (f:Int) (a:Int) (d:List (List (Bool×LI))):(List (List (Bool×LI)))×Int→Option (((List (List (Bool×LI)))×Int)⊕(((List (List (Bool×LI)))))):=fun (b,c)=>
  if c < f then
    (getI b a).bind fun g=>
    (exact_inner_v2 d a d c).bind fun e=>
    (app g [(e.1,e.2)]).bind fun h=>
    (setI b a h).bind fun i=>
    some (.inl (i,wa .i64 c 1))
  else
    some (.inr b)
def exact_Least_l4 (b:Int) (c:List (List (Bool×LI))) (g:List (Bool×LI)):(List (List (Bool×LI)))×(List (Bool×LI))×Int→Option (((List (List (Bool×LI)))×(List (Bool×LI))×Int)⊕(((List (List (Bool×LI)))×(List (Bool×LI))))):=fun (d,e,a)=>
  if a < b then
    (exact_inner c a g).bind fun f=>
    (setI e a (f.1,f.2)).bind fun h=>
    (loop (exact_Least_l5 b a c) (d,0)).bind fun i=>
    some (.inl (i,h,wa .i64 a 1))
  else
    some (.inr (d,e))
def exact_Least (a:List (List (Bool×LI))) (d:List (Bool×LI)):Option ((List (Bool×LI))×Bool×LI×Int):=
  (exact_check a).bind fun e=>
  if e=0 then
    if (d.length:Int)=(a.length:Int) then
      (exact_columns a).bind fun c=>
      (mkL ([]:List (Bool×LI)) c).bind fun f=>
      (mkL (false,[]) c).bind fun g=>
      (loop (exact_Least_l4 c a d) (f,g,0)).bind fun (h,i)=>
      (exact_Solve h i).bind fun b=>
      some (b.1,b.2.1,b.2.2.1,b.2.2.2)
    else
      some ([],false,[],2)
  else
    some ([],false,[],e)
def sparsekit_Limbs_l1 (b:LI) (c:LI):Int→Option ((Int)⊕(Unit⊕Unit)):=fun a=>
  if a < (b.length:Int) then
    (getI b a).bind fun d=>
    (getI c a).bind fun e=>
    if d=e then
      some (.inl (wa .i64 a 1))
    else
      some (.inr (.inr ()))
  else
    some (.inr (.inl ()))
def sparsekit_Limbs (a:LI) (b:LI):Option (Bool):=
  if (a.length:Int)=(b.length:Int) then
    (loop (sparsekit_Limbs_l1 a b) 0).bind (fun o=>match o with
      | .inl ()=>
        some true
      | .inr ()=>
        some false)
  else
    some false
def sparsekit_Big (a:Bool) (b:LI) (c:Bool) (d:LI):Option (Bool):=
  (if (a == c)=true then
    (sparsekit_Limbs b d).bind fun e=>
    some e
  else
    some false).bind fun f=>
  some f
def sparsekit_Bigs_l1 (b:List (Bool×LI)) (e:List (Bool×LI)):Int→Option ((Int)⊕(Unit⊕Unit)):=fun a=>
  if a < (b.length:Int) then
    (getI b a).bind fun c=>
    (getI e a).bind fun d=>
    (sparsekit_Big c.1 c.2 d.1 d.2).bind fun f=>
    if f=true then
      some (.inl (wa .i64 a 1))
    else
      some (.inr (.inr ()))
  else
    some (.inr (.inl ()))
def sparsekit_Bigs (a:List (Bool×LI)) (b:List (Bool×LI)):Option (Bool):=
  if (a.length:Int)=(b.length:Int) then
    (loop (sparsekit_Bigs_l1 a b) 0).bind (fun o=>match o with
      | .inl ()=>
        some true
      | .inr ()=>
        some false)
  else
    some false
def sparsekit_Rows_l1 (b:List (List (Bool×LI))) (c:List (List (Bool×LI))):Int→Option ((Int)⊕(Unit⊕Unit)):=fun a=>
  if a < (b.length:Int) then
    (getI b a).bind fun d=>
    (getI c a).bind fun e=>
    (sparsekit_Bigs d e).bind fun f=>
    if f=true then
      some (.inl (wa .i64 a 1))
    else
      some (.inr (.inr ()))
  else
    some (.inr (.inl ()))
def sparsekit_Rows (a:List (List (Bool×LI))) (b:List (List (Bool×LI))):Option (Bool):=
  if (a.length:Int)=(b.length:Int) then
    (loop (sparsekit_Rows_l1 a b) 0).bind (fun o=>match o with
      | .inl ()=>
        some true
      | .inr ()=>
        some false)
  else
    some false
end M
