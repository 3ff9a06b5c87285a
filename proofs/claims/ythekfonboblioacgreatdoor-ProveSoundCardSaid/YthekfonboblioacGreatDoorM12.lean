/- Models of functions of the program, printed. -/
import Derived.Test.YthekfonboblioacGreatDoorM11
namespace M
open Sx
set_option linter.unusedVariables false
def m_jr (a:List (List (Bool×LI))):Option (Int×Int):=
  (m_ja a).bind fun b=>
  if b=0 then
    (m_je a []).bind fun c=>
    (m_i5 a).bind fun d=>
    (m_jq c d).bind fun e=>
    some ((e.2.1.length:Int),0)
  else
    some (0,b)
def m_js (b:List (List (Bool×LI))) (d:Int) (e:(List (List (Bool×LI)))×Int×Int):Int→Option ((Int)⊕(Unit⊕Unit)):=fun a=>
  if a < (b.length:Int) then
    (getI b a).bind fun c=>
    (if (c.length:Int)=d then
      (m_i4 e.1 c).bind fun f=>
      some (!(f))
    else
      some true).bind fun g=>
    if g=true then
      some (.inr (.inr ()))
    else
      some (.inl (wa .i64 a 1))
  else
    some (.inr (.inl ()))
def m_jt (f:Int) (b:Int) (j:LI) (k:LI) (l:LI) (c:Int) (d:Int) (g:LI) (h:LI) (a:List (List (Bool×LI))):Option (Bool):=
  (m_ha f b j k l).bind fun e=>
  (if e.2.2=0 then
    (m_hc d).bind fun m=>
    some (!(m))
  else
    some true).bind fun n=>
  if (n || (decide ((2147483647:Int) < d)))=true then
    some false
  else
    (m_he g c f).bind fun p=>
    (if p=true then
      (m_he h c b).bind fun q=>
      some (!(q))
    else
      some true).bind fun r=>
    (if r=true then
      some true
    else
      (m_iw e.1 c d g h a).bind fun s=>
      some (!(s))).bind fun t=>
    if t=true then
      some false
    else
      if (a.length:Int)=(ws .i64 b c) then
        (loop (m_js a b e) 0).bind (fun o=>match o with
          | .inl ()=>
            (m_jr a).bind fun i=>
            some ((decide (i.2=0)) && (decide (i.1=(a.length:Int))))
          | .inr ()=>
            some false)
      else
        some false
def m_ju (b:List (List (Bool×LI))) (d:Int):(List (List (Bool×LI)))×Int→Option (((List (List (Bool×LI)))×Int)⊕(((List (List (Bool×LI)))))):=fun (c,a)=>
  if a < (b.length:Int) then
    (getI b a).bind fun e=>
    (sli e 0 d).bind fun f=>
    (app c [f]).bind fun g=>
    some (.inl (g,wa .i64 a 1))
  else
    some (.inr c)
def m_jv (a:List (List (Bool×LI))) (b:Int):Option ((List (List (Bool×LI)))):=
  (loop (m_ju a b) ([],0)).bind fun c=>
  some c
def m_jw (d:Int) (e:List (List (Bool×LI))):BL×Int×Int→Option ((BL×Int×Int)⊕(BL)):=fun (b,f,a)=>
  if a < d then
    (m_jv e (wa .i64 a 1)).bind fun g=>
    (m_jr g).bind fun c=>
    (setI b a (decide (c.1=f))).bind fun h=>
    some (.inl (h,c.1,wa .i64 a 1))
  else
    some (.inr b)
def m_jx (b:List (List (Bool×LI))) (a:Int):Option (BL):=
  (mkL false a).bind fun c=>
  (loop (m_jw a b) (c,0,0)).bind fun d=>
  some d
def m_jy (a:LI):Option (LI):=
  (app [] a).bind fun b=>
  some b
def m_jz (d:Bool) (b:LI):Option (Bool×LI):=
  (m_f6 b).bind fun c=>
  (m_f2 false c).bind fun a=>
  some (a.1,a.2)
def m_j0 (h:List (List (Bool×LI))) (i:LI) (e:Bool) (f:LI) (j:Int) (a:Bool) (b:LI):Option (Bool×LI):=
  (m_ga e f).bind fun g=>
  if g < 0 then
    (m_f7 a b).bind fun c=>
    some (c.1,c.2)
  else
    (m_f9 a b).bind fun d=>
    some (d.1,d.2)
def m_j1:LI×LI→Option ((LI×LI)⊕(LI)):=fun (b,a)=>
  if (0:Int) < (a.length:Int) then
    (m_hr b a).bind fun c=>
    some (.inl (a,c.2))
  else
    some (.inr b)
def m_j2 (i:Bool) (b:LI) (j:Bool) (c:LI):Option (Bool×LI):=
  (m_f1 b).bind fun d=>
  (m_f6 d).bind fun e=>
  (m_f1 c).bind fun f=>
  (m_f6 f).bind fun g=>
  (loop (m_j1) (e,g)).bind fun h=>
  (m_f2 false h).bind fun a=>
  some (a.1,a.2)
def m_j3 (e:List (Bool×LI)) (f:Bool) (g:LI):(List (Bool×LI))×Int→Option (((List (Bool×LI))×Int)⊕(((List (Bool×LI))))):=fun (b,a)=>
  if a < (e.length:Int) then
    (getI b a).bind fun c=>
    (m_jg c.1 c.2 f g).bind fun d=>
    (setI b a (d.1,d.2.1)).bind fun h=>
    some (.inl (h,wa .i64 a 1))
  else
    some (.inr b)
def m_j4 (a:(List (List (Bool×LI)))×LI×Bool×LI×Int) (m:Int):(List (Bool×LI))×Bool×LI×Int→Option (((List (Bool×LI))×Bool×LI×Int)⊕(((List (Bool×LI))×Bool×LI))):=fun (c,d,e,b)=>
  if b < (a.2.1.length:Int) then
    (getI a.2.1 b).bind fun f=>
    (getI a.1 b).bind fun n=>
    (getI n m).bind fun g=>
    (m_j0 a.1 a.2.1 a.2.2.1 a.2.2.2.1 a.2.2.2.2 g.1 g.2).bind fun h=>
    (m_f7 h.1 h.2).bind fun i=>
    (setI c f (i.1,i.2)).bind fun j=>
    (getI j f).bind fun k=>
    (m_j2 d e k.1 k.2).bind fun l=>
    some (.inl (j,l.1,l.2,wa .i64 b 1))
  else
    some (.inr (c,d,e))
def m_j5 (b:(List (List (Bool×LI)))×LI×Bool×LI×Int):Int→Option ((Int)⊕(Int)):=fun a=>
  (if a < (b.2.1.length:Int) then
    (getI b.2.1 a).bind fun c=>
    some (decide (c=a))
  else
    some false).bind fun d=>
  if d=true then
    some (.inl (wa .i64 a 1))
  else
    some (.inr a)
def m_j6 (c:List (List (Bool×LI))):Option ((List (Bool×LI))×Int):=
  (m_ja c).bind fun e=>
  if e=0 then
    (m_i5 c).bind fun d=>
    (m_je c []).bind fun j=>
    (m_jq j d).bind fun a=>
    (loop (m_j5 a) 0).bind fun b=>
    if b=d then
      some ([],0)
    else
      (mkL (false,[]) d).bind fun k=>
      (m_jz a.2.2.1 a.2.2.2.1).bind fun f=>
      (setI k b (f.1,f.2)).bind fun g=>
      (getI g b).bind fun h=>
      (loop (m_j4 a b) (g,h.1,h.2,0)).bind fun (i,l,m)=>
      (loop (m_j3 i l m) (i,0)).bind fun n=>
      some (n,0)
  else
    some ([],e)
def m_j7 (a:Int) (b:LI) (c:List (List (Bool×LI))):Option ((LI×(List (List (Bool×LI)))×Int)⊕(((List (List (Bool×LI)))))):=
  some (.inl (b,c,wa .i64 a 1))
def m_j8 (a:List (List (Bool×LI))) (b:Int) (c:LI) (d:List (Bool×LI)):Option ((LI×(List (List (Bool×LI)))×Int)⊕(((List (List (Bool×LI)))))):=
  (app a [d]).bind fun e=>
  m_j7 b c e
def m_j9 (b:LI) (e:(List (Bool×LI))×Int):(List (Bool×LI))×Int→Option (((List (Bool×LI))×Int)⊕(((List (Bool×LI))))):=fun (c,a)=>
  if a < (b.length:Int) then
    (getI b a).bind fun f=>
    (getI e.1 a).bind fun d=>
    (setI c f (d.1,d.2)).bind fun g=>
    some (.inl (g,wa .i64 a 1))
  else
    some (.inr c)
def m_ka (b:LI) (e:List (Bool×LI)):(List (Bool×LI))×Int→Option (((List (Bool×LI))×Int)⊕(((List (Bool×LI))))):=fun (c,a)=>
  if a < (b.length:Int) then
    (getI b a).bind fun f=>
    (getI e f).bind fun d=>
    (app c [(d.1,d.2)]).bind fun g=>
    some (.inl (g,wa .i64 a 1))
  else
    some (.inr c)
def m_kb (b:List (List (Bool×LI))) (d:LI):(List (List (Bool×LI)))×Int→Option (((List (List (Bool×LI)))×Int)⊕(((List (List (Bool×LI)))))):=fun (c,a)=>
  if a < (b.length:Int) then
    (getI b a).bind fun e=>
    (loop (m_ka d e) ([],0)).bind fun f=>
    (app c [f]).bind fun g=>
    some (.inl (g,wa .i64 a 1))
  else
    some (.inr c)
def m_kc (d:Int) (i:BL) (j:List (List (Bool×LI))):LI×(List (List (Bool×LI)))×Int→Option ((LI×(List (List (Bool×LI)))×Int)⊕(((List (List (Bool×LI)))))):=fun (b,c,a)=>
  if a < d then
    (getI i a).bind fun k=>
    if k=true then
      (m_jy b).bind fun l=>
      (app l [a]).bind fun e=>
      (loop (m_kb j e) ([],0)).bind fun f=>
      (mkL (false,[]) d).bind fun g=>
      if (f.length:Int)=0 then
        (m_f4 1).bind fun h=>
        (setI g a (h.1,h.2)).bind fun m=>
        m_j8 c a b m
      else
        (m_j6 f).bind fun n=>
        (loop (m_j9 e n) (g,0)).bind fun o=>
        m_j8 c a b o
    else
      (app b [a]).bind fun p=>
      m_j7 a p c
  else
    some (.inr c)
def m_kd (a:List (List (Bool×LI))) (b:Int):Option ((List (List (Bool×LI)))):=
  (m_jx a b).bind fun c=>
  (loop (m_kc b c a) ([],[],0)).bind fun d=>
  some d
def m_ke (a:Int) (b:LI):Option ((LI×Int)⊕(LI)):=
  some (.inl (b,ws .i64 a 1))
def m_kf (c:Int):LI×Int→Option ((LI×Int)⊕(LI)):=fun (b,a)=>
  if ((decide ((2:Int)≤a)) && (decide ((b.length:Int) < (imin c 100))))=true then
    (m_hc a).bind fun d=>
    if d=true then
      (app b [a]).bind fun e=>
      m_ke a e
    else
      m_ke a b
  else
    some (.inr b)
def m_kg (a:Int) (b:Int):Option (LI):=
  if a≤2 then
    some []
  else
    (loop (m_kf b) ([],imin (ws .i64 a 1) 2147483647)).bind fun c=>
    some c
def m_kh (c:List (Bool×LI)) (f:Int) (d:Int):L2×Int→Option ((L2×Int)⊕(L2)):=fun (a,b)=>
  if b < (c.length:Int) then
    (getI c b).bind fun e=>
    (m_h0 e.1 e.2 f).bind fun g=>
    (getI a d).bind fun h=>
    (app h [g.1]).bind fun i=>
    (setI a d i).bind fun j=>
    some (.inl (j,wa .i64 b 1))
  else
    some (.inr a)
def m_ki (b:List (List (Bool×LI))) (d:Int):L2×Int→Option ((L2×Int)⊕(L2)):=fun (c,a)=>
  if a < (b.length:Int) then
    (getI b a).bind fun e=>
    (loop (m_kh e d a) (c,0)).bind fun f=>
    some (.inl (f,wa .i64 a 1))
  else
    some (.inr c)
def m_kj (a:List (List (Bool×LI))) (b:Int):Option (L2):=
  (mkL ([]:LI) (a.length:Int)).bind fun c=>
  (loop (m_ki a b) (c,0)).bind fun d=>
  some d
def m_kk (a:L2):Option (Unit):=
  some ()
def m_kl (b:L2) (a:Int):Option (Int×Int):=
  (m_h6 b a).bind fun c=>
  if c=0 then
    (m_ic b a).bind fun d=>
    (m_is d a).bind fun e=>
    some ((e.2.1.length:Int),0)
  else
    some (0,c)
end M
