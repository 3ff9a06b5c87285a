/- Models of functions of the program, printed. -/
import Derived.Test.YtpfmbaidflhamaaGreatDoorM6
namespace M
open Sx
set_option linter.unusedVariables false
def exact_Inertia_j13 (a:Int) (b:Int) (c:Int):Option ((Int×Int×Int)⊕(Int)):=
  some (.inl (a,c,wa .i64 b 1))
def exact_Inertia_j12 (a:Int) (b:Int) (d:Int) (c:Int):Option ((Int×Int×Int)⊕(Int)):=
  if a=0 then
    exact_Inertia_j13 c b d
  else
    exact_Inertia_j13 c b a
def exact_Inertia_l11 (e:(List (Bool×LI))):Int×Int×Int→Option ((Int×Int×Int)⊕(Int)):=fun (b,c,a)=>
  if a < (e.length:Int) then
    (getI e a).bind fun f=>
    (integer_Sign f.1 f.2).bind fun d=>
    if (wm .i64 d c) < 0 then
      exact_Inertia_j12 d a c (wa .i64 b 1)
    else
      exact_Inertia_j12 d a c b
  else
    some (.inr b)
def exact_Inertia_l6 (c:List (List (Bool×LI))) (d:(List (Bool×LI))):Int→Option ((Int)⊕(Int)):=fun a=>
  (if a < (c.length:Int) then
    (getI d a).bind fun b=>
    (integer_Sign b.1 b.2).bind fun e=>
    some (decide (e=0))
  else
    some false).bind fun f=>
  if f=true then
    some (.inl (wa .i64 a 1))
  else
    some (.inr a)
def exact_Inertia_l15 (b:List (Bool×LI)) (e:List (List (Bool×LI))) (f:Int):Int→Option ((Int)⊕(Unit⊕Unit)):=fun a=>
  if a < (b.length:Int) then
    (getI b a).bind fun c=>
    (getI e a).bind fun g=>
    (getI g f).bind fun d=>
    (integer_Cmp c.1 c.2 d.1 d.2).bind fun h=>
    if h=0 then
      some (.inl (wa .i64 a 1))
    else
      some (.inr (.inr ()))
  else
    some (.inr (.inl ()))
def exact_Inertia_l3 (b:List (List (Bool×LI))):Int→Option ((Int)⊕(Unit⊕Unit)):=fun a=>
  if a < (b.length:Int) then
    (getI b a).bind fun c=>
    (loop (exact_Inertia_l15 c b a) 0).bind (fun o=>match o with
      | .inl ()=>
        some (.inl (wa .i64 a 1))
      | .inr ()=>
        some (.inr (.inr ())))
  else
    some (.inr (.inl ()))
def exact_Inertia (a:List (List (Bool×LI))):Option (Int×Int×Int×Int):=
  (exact_square a).bind fun b=>
  if b=0 then
    (loop (exact_Inertia_l3 a) 0).bind (fun o=>match o with
      | .inl ()=>
        (exact_twin a []).bind fun f=>
        (exact_characteristic f).bind fun c=>
        (loop (exact_Inertia_l6 a c) 0).bind fun d=>
        (loop (exact_Inertia_l11 c) (0,0,0)).bind fun e=>
        some (ws .i64 (ws .i64 (a.length:Int) d) e,d,e,0)
      | .inr ()=>
        some (0,0,0,80))
  else
    some (0,0,0,b)
def slices_Reverse_string_l1:(List ByteArray)×Int×Int→Option (((List ByteArray)×Int×Int)⊕(((List ByteArray)))):=fun (a,b,c)=>
  if b < c then
    (getI a c).bind fun d=>
    (getI a b).bind fun e=>
    (setI a b d).bind fun f=>
    (setI f c e).bind fun g=>
    some (.inl (g,wa .i64 b 1,ws .i64 c 1))
  else
    some (.inr a)
def slices_Reverse_string (a:List ByteArray):Option ((List ByteArray)):=
  (loop (slices_Reverse_string_l1) (a,0,ws .i64 (a.length:Int) 1)).bind fun b=>
  some b
def integer_Format_j4 (a:List ByteArray):Option (ByteArray):=
  (slices_Reverse_string a).bind fun b=>
  (joinG b (⟨#[]⟩:ByteArray)).bind fun c=>
  some c
def integer_Format_j5 (a:List ByteArray) (b:ByteArray) (c:LI×Int):Option ((LI×(List ByteArray))⊕(((List ByteArray)))):=
  (app a [b]).bind fun d=>
  some (.inl (c.1,d))
def integer_Format_l3:LI×(List ByteArray)→Option ((LI×(List ByteArray))⊕(((List ByteArray)))):=fun (b,c)=>
  if (0:Int) < (b.length:Int) then
    (integer_short b 1000000000).bind fun a=>
    (itoaG (wc .i64 a.2)).bind fun d=>
    if (0:Int) < (a.1.length:Int) then
      none
    else
      integer_Format_j5 c d a
  else
    some (.inr c)
def integer_Format (b:Bool) (c:LI):Option (ByteArray):=
  (integer_trim c).bind fun d=>
  (slices_Clone_uint32 d).bind fun e=>
  (loop (integer_Format_l3) (e,[])).bind fun a=>
  if (a.length:Int)=0 then
    some (⟨#[48]⟩:ByteArray)
  else
    if b=true then
      (app a [(⟨#[45]⟩:ByteArray)]).bind fun f=>
      integer_Format_j4 f
    else
      integer_Format_j4 a
def sparselaw08_awake:Option (Bool):=
  (sparselaw08_num 2).bind fun c=>
  (sparselaw08_num 1).bind fun d=>
  (sparselaw08_num 1).bind fun e=>
  (sparselaw08_num (-1)).bind fun f=>
  (sparselaw08_num 3).bind fun g=>
  (sparselaw08_num 0).bind fun h=>
  (exact_Solve [[(c.1,c.2),(d.1,d.2)],[(e.1,e.2),(f.1,f.2)]] [(g.1,g.2),(h.1,h.2)]).bind fun a=>
  (sparselaw08_num 0).bind fun i=>
  (sparselaw08_num 1).bind fun j=>
  (sparselaw08_num 1).bind fun k=>
  (sparselaw08_num 0).bind fun l=>
  (exact_Inertia [[(i.1,i.2),(j.1,j.2)],[(k.1,k.2),(l.1,l.2)]]).bind fun b=>
  (if ((decide (a.2.2.2=0)) && (decide ((a.1.length:Int)=2)))=true then
    (getI a.1 0).bind fun m=>
    (integer_Format m.1 m.2).bind fun o=>
    some (decide (o=(⟨#[51]⟩:ByteArray)))
  else
    some false).bind fun p=>
  (if p=true then
    (getI a.1 1).bind fun n=>
    (integer_Format n.1 n.2).bind fun q=>
    some (decide (q=(⟨#[51]⟩:ByteArray)))
  else
    some false).bind fun r=>
  (if r=true then
    (integer_Format a.2.1 a.2.2.1).bind fun s=>
    some (decide (s=(⟨#[51]⟩:ByteArray)))
  else
    some false).bind fun t=>
  some ((((t && (decide (b.2.2.2=0))) && (decide (b.1=1))) && (decide (b.2.1=0))) && (decide (b.2.2.1=1)))
def sparselaw08_ExactValues (a:List (List (Bool×LI))):Option (Bool):=
  (sparselaw08_small a).bind fun j=>
  if j=true then
    (sparsekit_TwinRows a).bind fun d=>
    (exact_Det d).bind fun b=>
    (exact_Rank d).bind fun f=>
    (exact_Kernel d).bind fun g=>
    (exact_Bound d).bind fun c=>
    (sparsekit_Rows d a).bind fun k=>
    if k=true then
      (sparseref08_Check a).bind fun e=>
      if e=0 then
        (if f.2=0 then
          some (!(decide (g.2=0)))
        else
          some true).bind fun l=>
        (if l=true then
          some true
        else
          some (!(decide (c.2.2=0)))).bind fun m=>
        (if m=true then
          some true
        else
          (sparseref08_Rank a).bind fun n=>
          some (!(decide (f.1=n)))).bind fun o=>
        (if o=true then
          some true
        else
          (sparseref08_Kernel a).bind fun p=>
          (sparsekit_Bigs g.1 p).bind fun q=>
          some (!(q))).bind fun r=>
        (if r=true then
          some true
        else
          (sparseref08_Bound a).bind fun h=>
          (sparsekit_Big c.1 c.2.1 h.1 h.2).bind fun s=>
          some (!(s))).bind fun t=>
        if t=true then
          some false
        else
          (sparseref08_Cols a).bind fun u=>
          if (a.length:Int)=u then
            (if b.2.2=0 then
              (sparseref08_Det a).bind fun i=>
              (sparsekit_Big b.1 b.2.1 i.1 i.2).bind fun v=>
              some v
            else
              some false).bind fun w=>
            (if w=true then
              (sparselaw08_awake).bind fun x=>
              some x
            else
              some false).bind fun y=>
            some y
          else
            (if b.2.2=5 then
              (sparsekit_Big b.1 b.2.1 false []).bind fun z=>
              some z
            else
              some false).bind fun a0=>
            (if a0=true then
              (sparselaw08_awake).bind fun a1=>
              some a1
            else
              some false).bind fun a2=>
            some a2
      else
        (if ((((decide (b.2.2=e)) && (decide (f.2=e))) && (decide (g.2=e))) && (decide (c.2.2=e)))=true then
          (sparsekit_Big b.1 b.2.1 false []).bind fun a3=>
          some a3
        else
          some false).bind fun a4=>
        (if ((a4 && (decide (f.1=0))) && (decide ((g.1.length:Int)=0)))=true then
          (sparsekit_Big c.1 c.2.1 false []).bind fun a5=>
          some a5
        else
          some false).bind fun a6=>
        (if a6=true then
          (sparselaw08_awake).bind fun a7=>
          some a7
        else
          some false).bind fun a8=>
        some a8
    else
      some false
  else
    (sparselaw08_awake).bind fun a9=>
    some a9
end M
