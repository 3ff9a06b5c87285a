/- Models of functions of the program, printed. -/
import Derived.Test.YtpfmbaidflhamaaGreatDoorM6
namespace M
open Sx
set_option linter.unusedVariables false
def sparseref08_minus (m:Bool) (n:LI) (c:Bool) (d:LI) (o:Bool) (p:LI) (q:Bool) (r:LI) (s:Bool) (t:LI) (u:Bool) (v:LI) (w:Bool) (x:LI) (y:Bool) (z:LI):Option (Bool×LI×Bool×LI):=
  (sparseref01_Mul o p s t).bind fun e=>
  (sparseref01_Mul e.1 e.2 y z).bind fun f=>
  (sparseref01_Mul q r u v).bind fun g=>
  (sparseref01_Mul g.1 g.2 w x).bind fun h=>
  (sparseref08_frac f.1 f.2 h.1 h.2).bind fun a=>
  (sparseref01_Mul m n a.2.2.1 a.2.2.2).bind fun i=>
  (sparseref01_Mul a.1 a.2.1 c d).bind fun j=>
  (sparseref01_Sub i.1 i.2 j.1 j.2).bind fun k=>
  (sparseref01_Mul c d a.2.2.1 a.2.2.2).bind fun l=>
  (sparseref08_frac k.1 k.2 l.1 l.2).bind fun b=>
  some (b.1,b.2.1,b.2.2.1,b.2.2.2)
def sparseref08_echelon_j76 (a:Int) (b:List (List (Bool×LI×Bool×LI))) (c:Bool) (d:LI) (e:Bool) (f:LI) (g:LI):Option (((List (List (Bool×LI×Bool×LI)))×Bool×LI×Bool×LI×LI×Int)⊕(((List (List (Bool×LI×Bool×LI)))×Bool×LI×Bool×LI×LI))):=
  some (.inl (b,c,d,e,f,g,wa .i64 a 1))
def sparseref08_echelon_l84 (j:Int) (h:Int) (i:LI) (k:Int) (c:Bool×LI×Bool×LI):(List (List (Bool×LI×Bool×LI)))×Int→Option (((List (List (Bool×LI×Bool×LI)))×Int)⊕(((List (List (Bool×LI×Bool×LI)))))):=fun (a,b)=>
  if b < j then
    (getI a h).bind fun l=>
    (getI a h).bind fun m=>
    (getI m b).bind fun d=>
    (getI a (i.length:Int)).bind fun n=>
    (getI n b).bind fun e=>
    (getI a (i.length:Int)).bind fun o=>
    (getI o k).bind fun f=>
    (sparseref08_minus d.1 d.2.1 d.2.2.1 d.2.2.2 c.1 c.2.1 c.2.2.1 c.2.2.2 e.1 e.2.1 e.2.2.1 e.2.2.2 f.1 f.2.1 f.2.2.1 f.2.2.2).bind fun g=>
    (setI l b (g.1,g.2.1,g.2.2.1,g.2.2.2)).bind fun p=>
    (setI a h p).bind fun q=>
    some (.inl (q,wa .i64 b 1))
  else
    some (.inr a)
def sparseref08_echelon_l83 (c:Int) (d:Int) (e:LI):(List (List (Bool×LI×Bool×LI)))×Int→Option (((List (List (Bool×LI×Bool×LI)))×Int)⊕(((List (List (Bool×LI×Bool×LI)))))):=fun (a,b)=>
  if b < (a.length:Int) then
    (getI a b).bind fun f=>
    (getI f c).bind fun g=>
    (loop (sparseref08_echelon_l84 d b e c g) (a,c)).bind fun h=>
    some (.inl (h,wa .i64 b 1))
  else
    some (.inr a)
def sparseref08_echelon_j80 (a:LI) (b:Int) (i:Bool) (j:LI) (k:Int) (d:List (List (Bool×LI×Bool×LI))) (l:Bool) (m:LI):Option (((List (List (Bool×LI×Bool×LI)))×Bool×LI×Bool×LI×LI×Int)⊕(((List (List (Bool×LI×Bool×LI)))×Bool×LI×Bool×LI×LI))):=
  (getI d (a.length:Int)).bind fun n=>
  (getI n b).bind fun e=>
  (sparseref01_Mul l m e.1 e.2.1).bind fun f=>
  (getI d (a.length:Int)).bind fun o=>
  (getI o b).bind fun g=>
  (sparseref01_Mul i j g.2.2.1 g.2.2.2).bind fun h=>
  (sparseref08_frac f.1 f.2 h.1 h.2).bind fun c=>
  (loop (sparseref08_echelon_l83 b k a) (d,wa .i64 (a.length:Int) 1)).bind fun p=>
  (app a [b]).bind fun q=>
  sparseref08_echelon_j76 b p c.1 c.2.1 c.2.2.1 c.2.2.2 q
def sparseref08_echelon_l79 (c:List (List (Bool×LI×Bool×LI))) (d:Int):Int→Option ((Int)⊕(Int)):=fun a=>
  (if a < (c.length:Int) then
    (getI c a).bind fun e=>
    (getI e d).bind fun b=>
    (sparseref08_zero b.1 b.2.1 b.2.2.1 b.2.2.2).bind fun f=>
    some f
  else
    some false).bind fun g=>
  if g=true then
    some (.inl (wa .i64 a 1))
  else
    some (.inr a)
def sparseref08_echelon_l57 (i:Int):(List (List (Bool×LI×Bool×LI)))×Bool×LI×Bool×LI×LI×Int→Option (((List (List (Bool×LI×Bool×LI)))×Bool×LI×Bool×LI×LI×Int)⊕(((List (List (Bool×LI×Bool×LI)))×Bool×LI×Bool×LI×LI))):=fun (a,d,e,f,g,b,c)=>
  if c < i then
    (loop (sparseref08_echelon_l79 a c) (b.length:Int)).bind fun h=>
    if h=(a.length:Int) then
      sparseref08_echelon_j76 c a d e f g b
    else
      if h=(b.length:Int) then
        sparseref08_echelon_j80 b c f g i a d e
      else
        (getI a (b.length:Int)).bind fun k=>
        (getI a h).bind fun l=>
        (setI a h k).bind fun m=>
        (setI m (b.length:Int) l).bind fun n=>
        (sparseref01_Neg d e).bind fun j=>
        sparseref08_echelon_j80 b c f g i n j.1 j.2
  else
    some (.inr (a,d,e,f,g,b))
def sparseref08_echelon (c:List (List (Bool×LI×Bool×LI))) (d:Int):Option ((List (List (Bool×LI×Bool×LI)))×LI×Bool×LI×Bool×LI):=
  (sparseref01_FromInt 1).bind fun a=>
  (sparseref01_FromInt 1).bind fun b=>
  (loop (sparseref08_echelon_l57 d) (c,a.1,a.2,b.1,b.2,[],0)).bind fun (e,f,g,h,i,j)=>
  some (e,j,f,g,h,i)
def sparseref08_Det (a:List (List (Bool×LI))):Option (Bool×LI):=
  (sparseref08_fracs a).bind fun c=>
  (sparseref08_echelon c (a.length:Int)).bind fun b=>
  if (b.2.1.length:Int) < (a.length:Int) then
    some (false,[])
  else
    some (b.2.2.1,b.2.2.2.1)
def sparseref08_replaced_l1 (b:List (List (Bool×LI))) (e:List (Bool×LI)) (f:Int):(List (List (Bool×LI)))×Int→Option (((List (List (Bool×LI)))×Int)⊕(((List (List (Bool×LI)))))):=fun (c,a)=>
  if a < (b.length:Int) then
    (getI b a).bind fun g=>
    (app ([]:List (Bool×LI)) g).bind fun h=>
    (getI e a).bind fun d=>
    (setI h f (d.1,d.2)).bind fun i=>
    (app c [i]).bind fun j=>
    some (.inl (j,wa .i64 a 1))
  else
    some (.inr c)
def sparseref08_replaced (a:List (List (Bool×LI))) (b:Int) (c:List (Bool×LI)):Option ((List (List (Bool×LI)))):=
  (loop (sparseref08_replaced_l1 a c b) ([],0)).bind fun d=>
  some d
def sparseref08_Solve_j4 (a:List (Bool×LI)) (b:Int) (c:Bool) (d:LI):Option (((List (Bool×LI))×Int)⊕(((List (Bool×LI))))):=
  (app a [(c,d)]).bind fun e=>
  some (.inl (e,wa .i64 b 1))
def sparseref08_Solve_l3 (d:List (List (Bool×LI))) (g:List (Bool×LI)) (e:Bool×LI):(List (Bool×LI))×Int→Option (((List (Bool×LI))×Int)⊕(((List (Bool×LI))))):=fun (c,a)=>
  if a < (d.length:Int) then
    (sparseref08_replaced d a g).bind fun h=>
    (sparseref08_Det h).bind fun b=>
    (sparseref01_Sign e.1 e.2).bind fun i=>
    if i < 0 then
      (sparseref01_Neg b.1 b.2).bind fun f=>
      sparseref08_Solve_j4 c a f.1 f.2
    else
      sparseref08_Solve_j4 c a b.1 b.2
  else
    some (.inr c)
def sparseref08_Solve (b:List (List (Bool×LI))) (d:List (Bool×LI)):Option ((List (Bool×LI))×Bool×LI×Bool):=
  (sparseref08_Det b).bind fun a=>
  (sparseref01_Sign a.1 a.2).bind fun e=>
  if e=0 then
    some ([],false,[],false)
  else
    (loop (sparseref08_Solve_l3 b d a) ([],0)).bind fun f=>
    (sparseref01_Abs a.1 a.2).bind fun c=>
    some (f,c.1,c.2,true)
def sparseref08_Least (b:List (List (Bool×LI))) (d:List (Bool×LI)):Option ((List (Bool×LI))×Bool×LI×Bool):=
  (sparseref08_Transpose b).bind fun c=>
  (sparseref08_Product c b).bind fun e=>
  (sparseref08_Times c d).bind fun f=>
  (sparseref08_Solve e f).bind fun a=>
  some (a.1,a.2.1,a.2.2.1,a.2.2.2)
def sparselaw08_ExactSolves_j8 (c:List (List (Bool×LI))) (e:List (Bool×LI)) (a:(List (Bool×LI))×Bool×LI×Int) (d:Bool):Option (Bool):=
  (sparseref08_Cols c).bind fun f=>
  if (c.length:Int)=f then
    (sparseref08_Solve c e).bind fun b=>
    if b.2.2.2=true then
      (if a.2.2.2=0 then
        (sparsekit_Bigs a.1 b.1).bind fun g=>
        some g
      else
        some false).bind fun h=>
      (if h=true then
        (sparsekit_Big a.2.1 a.2.2.1 b.2.1 b.2.2.1).bind fun i=>
        some i
      else
        some false).bind fun j=>
      (if j=true then
        (sparselaw08_awake).bind fun k=>
        some k
      else
        some false).bind fun l=>
      some l
    else
      (if ((decide (a.2.2.2=9)) && (d && (decide ((a.1.length:Int)=0))))=true then
        (sparselaw08_awake).bind fun m=>
        some m
      else
        some false).bind fun n=>
      some n
  else
    (if ((decide (a.2.2.2=5)) && (d && (decide ((a.1.length:Int)=0))))=true then
      (sparselaw08_awake).bind fun o=>
      some o
    else
      some false).bind fun p=>
    some p
def sparselaw08_ExactSolves_j19 (a:(List (Bool×LI))×Bool×LI×Int) (b:(List (Bool×LI))×Bool×LI×Int) (c:Bool) (d:Bool) (e:Int):Option (Bool):=
  (if ((((decide (a.2.2.2=e)) && (decide (b.2.2.2=2))) && (c && (decide ((a.1.length:Int)=0)))) && (d && (decide ((b.1.length:Int)=0))))=true then
    (sparselaw08_awake).bind fun f=>
    some f
  else
    some false).bind fun g=>
  some g
def sparselaw08_ExactSolves (b:List (List (Bool×LI))) (d:List (Bool×LI)):Option (Bool):=
  (sparselaw08_small b).bind fun k=>
  (if k=true then
    (sparselaw08_slim d).bind fun l=>
    some (!(l))
  else
    some true).bind fun m=>
  if m=true then
    (sparselaw08_awake).bind fun n=>
    some n
  else
    (sparsekit_TwinRows b).bind fun h=>
    (sparsekit_TwinBigs d).bind fun i=>
    (exact_Solve h i).bind fun c=>
    (exact_Least h i).bind fun a=>
    (sparsekit_Rows h b).bind fun o=>
    (if o=true then
      (sparsekit_Bigs i d).bind fun p=>
      some (!(p))
    else
      some true).bind fun q=>
    if q=true then
      some false
    else
      (sparsekit_Big c.2.1 c.2.2.1 false []).bind fun e=>
      (sparsekit_Big a.2.1 a.2.2.1 false []).bind fun f=>
      (sparseref08_Check b).bind fun j=>
      if j=0 then
        if (d.length:Int)=(b.length:Int) then
          (sparseref08_Least b d).bind fun g=>
          if g.2.2.2=true then
            (if a.2.2.2=0 then
              (sparsekit_Bigs a.1 g.1).bind fun r=>
              some (!(r))
            else
              some true).bind fun s=>
            (if s=true then
              some true
            else
              (sparsekit_Big a.2.1 a.2.2.1 g.2.1 g.2.2.1).bind fun t=>
              some (!(t))).bind fun u=>
            if u=true then
              some false
            else
              sparselaw08_ExactSolves_j8 b d c e
          else
            if ((!(decide (a.2.2.2=9))) || (!((f && (decide ((a.1.length:Int)=0))))))=true then
              some false
            else
              sparselaw08_ExactSolves_j8 b d c e
        else
          (sparseref08_Cols b).bind fun v=>
          if (b.length:Int)=v then
            sparselaw08_ExactSolves_j19 c a e f 2
          else
            sparselaw08_ExactSolves_j19 c a e f 5
      else
        (if ((((decide (c.2.2.2=j)) && (decide (a.2.2.2=j))) && (e && (decide ((c.1.length:Int)=0)))) && (f && (decide ((a.1.length:Int)=0))))=true then
          (sparselaw08_awake).bind fun w=>
          some w
        else
          some false).bind fun x=>
        some x
end M
