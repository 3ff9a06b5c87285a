/- Models of functions of the program, printed. -/
import Derived.Test.YthekfonboblioabGreatDoorM10
namespace M
open Sx
set_option linter.unusedVariables false
def m_iq (a:List (List (Bool×LI))):Option (Int):=
  (m_hv a).bind fun b=>
  (m_hw a).bind fun c=>
  (m_ip b c).bind fun d=>
  some (d.2.1.length:Int)
def m_ir (a:List (List (Bool×LI))) (b:Int):Option (Int):=
  if b=0 then
    some 0
  else
    (m_iq a).bind fun c=>
    some c
def m_is (h:Int) (b:List (Bool×LI×Bool×LI)) (i:Bool) (j:LI):(List (Bool×LI))×Int→Option (((List (Bool×LI))×Int)⊕(((List (Bool×LI))))):=fun (c,a)=>
  if a < h then
    (getI b a).bind fun d=>
    (m_h1 d.1 d.2.1 i j).bind fun e=>
    (getI b a).bind fun f=>
    (m_if e.1 e.2 f.2.2.1 f.2.2.2).bind fun g=>
    (app c [(g.1,g.2.1)]).bind fun k=>
    some (.inl (k,wa .i64 a 1))
  else
    some (.inr c)
def m_it (j:Int) (d:List (Bool×LI×Bool×LI)):Bool×LI×Int→Option ((Bool×LI×Int)⊕((Bool×LI))):=fun (b,c,a)=>
  if a < j then
    (getI d a).bind fun e=>
    (getI d a).bind fun f=>
    (m_ie b c f.2.2.1 f.2.2.2).bind fun g=>
    (m_if e.2.2.1 e.2.2.2 g.1 g.2).bind fun h=>
    (m_h1 b c h.1 h.2.1).bind fun i=>
    some (.inl (i.1,i.2,wa .i64 a 1))
  else
    some (.inr (b,c))
def m_iu (k:Int) (l:(List (List (Bool×LI×Bool×LI)))×LI×Bool×LI×Bool×LI) (m:Int) (n:List (Bool×LI×Bool×LI)) (e:Bool×LI) (f:Bool×LI):Bool×LI×Bool×LI×Int→Option ((Bool×LI×Bool×LI×Int)⊕((Bool×LI×Bool×LI))):=fun (g,h,i,j,a)=>
  if a≤k then
    (getI l.1 m).bind fun o=>
    (getI o a).bind fun b=>
    (getI n a).bind fun c=>
    (m_ii g h i j b.1 b.2.1 b.2.2.1 b.2.2.2 c.1 c.2.1 c.2.2.1 c.2.2.2 e.1 e.2 f.1 f.2).bind fun d=>
    some (.inl (d.1,d.2.1,d.2.2.1,d.2.2.2,wa .i64 a 1))
  else
    some (.inr (g,h,i,j))
def m_iv (j:Int) (e:(List (List (Bool×LI×Bool×LI)))×LI×Bool×LI×Bool×LI) (k:Bool×LI) (l:Bool×LI):(List (Bool×LI×Bool×LI))×Int→Option (((List (Bool×LI×Bool×LI))×Int)⊕(((List (Bool×LI×Bool×LI))))):=fun (b,a)=>
  if (0:Int)≤a then
    (getI b a).bind fun c=>
    (loop (m_iu j e a b k l) (c.1,c.2.1,c.2.2.1,c.2.2.2,wa .i64 a 1)).bind fun (m,n,o,p)=>
    (getI e.1 a).bind fun q=>
    (getI q a).bind fun f=>
    (m_h1 m n f.2.2.1 f.2.2.2).bind fun g=>
    (getI e.1 a).bind fun r=>
    (getI r a).bind fun h=>
    (m_h1 o p h.1 h.2.1).bind fun i=>
    (m_ih g.1 g.2 i.1 i.2).bind fun d=>
    (setI b a (d.1,d.2.1,d.2.2.1,d.2.2.2)).bind fun s=>
    some (.inl (s,ws .i64 a 1))
  else
    some (.inr b)
def m_iw (d:Int):(List (Bool×LI×Bool×LI))×Int→Option (((List (Bool×LI×Bool×LI))×Int)⊕(((List (Bool×LI×Bool×LI))))):=fun (b,a)=>
  if a < d then
    (m_j 1).bind fun c=>
    (setI b a (false,[],c.1,c.2)).bind fun e=>
    some (.inl (e,wa .i64 a 1))
  else
    some (.inr b)
def m_ix (b:(List (List (Bool×LI×Bool×LI)))×LI×Bool×LI×Bool×LI):Int→Option ((Int)⊕(Int)):=fun a=>
  (if a < (b.2.1.length:Int) then
    (getI b.2.1 a).bind fun c=>
    some (decide (c=a))
  else
    some false).bind fun d=>
  if d=true then
    some (.inl (wa .i64 a 1))
  else
    some (.inr a)
def m_iy (f:List (List (Bool×LI))):Option ((List (Bool×LI))):=
  (m_hw f).bind fun a=>
  (m_hv f).bind fun i=>
  (m_ip i a).bind fun b=>
  if (b.2.1.length:Int)=a then
    some []
  else
    (loop (m_ix b) 0).bind fun c=>
    (m_j 1).bind fun d=>
    (m_j 1).bind fun e=>
    (mkL (false,[],false,[]) a).bind fun j=>
    (loop (m_iw a) (j,0)).bind fun k=>
    (setI k c (d.1,d.2,e.1,e.2)).bind fun l=>
    (loop (m_iv c b d e) (l,ws .i64 c 1)).bind fun g=>
    (m_j 1).bind fun h=>
    (loop (m_it a g) (h.1,h.2,0)).bind fun (m,n)=>
    (loop (m_is a g m n) ([],0)).bind fun o=>
    some o
def m_iz (a:Int) (b:List (List (Bool×LI))) (c:LI):Option (((List (List (Bool×LI)))×LI×Int)⊕(((List (List (Bool×LI)))))):=
  some (.inl (b,c,wa .i64 a 1))
def m_i0 (a:List (List (Bool×LI))) (b:Int) (c:LI) (d:List (Bool×LI)):Option (((List (List (Bool×LI)))×LI×Int)⊕(((List (List (Bool×LI)))))):=
  (app a [d]).bind fun e=>
  m_iz b e c
def m_i1 (b:LI) (e:(List (Bool×LI))):(List (Bool×LI))×Int→Option (((List (Bool×LI))×Int)⊕(((List (Bool×LI))))):=fun (c,a)=>
  if a < (b.length:Int) then
    (getI b a).bind fun f=>
    (getI e a).bind fun d=>
    (setI c f (d.1,d.2)).bind fun g=>
    some (.inl (g,wa .i64 a 1))
  else
    some (.inr c)
def m_i2 (f:Int) (c:List (List (Bool×LI))):(List (List (Bool×LI)))×LI×Int→Option (((List (List (Bool×LI)))×LI×Int)⊕(((List (List (Bool×LI)))))):=fun (d,e,a)=>
  if a < f then
    (app [] e).bind fun i=>
    (app i [a]).bind fun b=>
    (if (0:Int) < (c.length:Int) then
      (m_hs c b).bind fun j=>
      (m_ir j (b.length:Int)).bind fun k=>
      some (decide ((e.length:Int) < k))
    else
      some false).bind fun l=>
    if l=true then
      m_iz a d b
    else
      (mkL (false,[]) f).bind fun m=>
      (m_j 1).bind fun g=>
      (setI m a (g.1,g.2)).bind fun h=>
      if (0:Int) < (c.length:Int) then
        (m_hs c b).bind fun n=>
        (m_iy n).bind fun o=>
        (loop (m_i1 b o) (h,0)).bind fun p=>
        m_i0 d a e p
      else
        m_i0 d a e h
  else
    some (.inr d)
def m_i3 (a:List (List (Bool×LI))) (b:Int):Option ((List (List (Bool×LI)))):=
  (loop (m_i2 b a) ([],[],0)).bind fun c=>
  some c
def m_i4 (b:Int):Int→Option ((Int)⊕(Unit⊕Unit)):=fun a=>
  if (wm .i64 a a)≤b then
    (wr b a).bind fun c=>
    if c=0 then
      some (.inr (.inr ()))
    else
      some (.inl (wa .i64 a 1))
  else
    some (.inr (.inl ()))
def m_i5 (a:Int):Option (Bool):=
  if ((decide (a < 2)) || (decide ((2147483647:Int) < a)))=true then
    some false
  else
    (loop (m_i4 a) 2).bind (fun o=>match o with
      | .inl ()=>
        some true
      | .inr ()=>
        some false)
def m_i6 (a:Int) (b:LI):Option ((LI×Int)⊕(LI)):=
  some (.inl (b,ws .i64 a 1))
def m_i7 (c:Int):LI×Int→Option ((LI×Int)⊕(LI)):=fun (b,a)=>
  if ((decide ((1:Int) < a)) && (decide ((b.length:Int) < (imin c 100))))=true then
    (m_i5 a).bind fun d=>
    if d=true then
      (app b [a]).bind fun e=>
      m_i6 a e
    else
      m_i6 a b
  else
    some (.inr b)
def m_i8 (a:Int) (b:Int):Option (LI):=
  if a≤2 then
    some []
  else
    (loop (m_i7 b) ([],ws .i64 (imin a 2147483648) 1)).bind fun c=>
    some c
def m_i9 (c:Bool) (d:LI) (e:Int):Option (Int):=
  (m_j e).bind fun a=>
  (m_ic c d a.1 a.2).bind fun b=>
  (m_bu b.2.2.1 b.2.2.2).bind fun f=>
  some f.1
def m_ja (b:List (List (Bool×LI))) (c:Int) (f:Int):LI×Int→Option ((LI×Int)⊕(LI)):=fun (d,a)=>
  (getI b c).bind fun g=>
  if a < (g.length:Int) then
    (getI b c).bind fun h=>
    (getI h a).bind fun e=>
    (m_i9 e.1 e.2 f).bind fun i=>
    (app d [i]).bind fun j=>
    some (.inl (j,wa .i64 a 1))
  else
    some (.inr d)
def m_jb (b:List (List (Bool×LI))) (d:Int):L2×Int→Option ((L2×Int)⊕(L2)):=fun (c,a)=>
  if a < (b.length:Int) then
    (loop (m_ja b a d) ([],0)).bind fun e=>
    (app c [e]).bind fun f=>
    some (.inl (f,wa .i64 a 1))
  else
    some (.inr c)
def m_jc (a:List (List (Bool×LI))) (b:Int):Option (L2):=
  (loop (m_jb a b) ([],0)).bind fun c=>
  some c
def m_jd (c:Int):LI×Int→Option ((LI×Int)⊕(LI)):=fun (b,a)=>
  if a < c then
    (app b [a]).bind fun d=>
    some (.inl (d,wa .i64 a 1))
  else
    some (.inr b)
def m_je (a:Int):Option (LI):=
  (loop (m_jd a) ([],0)).bind fun b=>
  some b
def m_jf (b:LI) (d:LI) (e:Int) (f:L2):LI×Int→Option ((LI×Int)⊕(LI)):=fun (c,a)=>
  if a < (b.length:Int) then
    (getI d e).bind fun g=>
    (getI f g).bind fun h=>
    (getI b a).bind fun i=>
    (getI h i).bind fun j=>
    (app c [j]).bind fun k=>
    some (.inl (k,wa .i64 a 1))
  else
    some (.inr c)
def m_jg (b:LI) (d:LI) (e:L2):L2×Int→Option ((L2×Int)⊕(L2)):=fun (c,a)=>
  if a < (b.length:Int) then
    (loop (m_jf d b a e) ([],0)).bind fun f=>
    (app c [f]).bind fun g=>
    some (.inl (g,wa .i64 a 1))
  else
    some (.inr c)
def m_jh (a:L2) (b:LI) (c:LI):Option (L2):=
  (loop (m_jg b c a) ([],0)).bind fun d=>
  some d
def m_ji (a:Int):Option (Int):=
  some a
def m_jj (c:Int) (b:Int):Option (Int):=
  (wr c b).bind fun a=>
  if a < 0 then
    m_ji (wa .i64 a b)
  else
    m_ji a
def m_jk (a:L2):Option (Int):=
  if (a.length:Int)=0 then
    some 0
  else
    (getI a 0).bind fun b=>
    some (b.length:Int)
def m_jl (a:Int) (b:Int) (c:Int) (d:Int):Option ((Int×Int×Int)⊕(Int)):=
  (wr (wm .i64 a a) b).bind fun e=>
  some (.inl (e,wqc .i64 c 2,d))
def m_jm (b:Int):Int×Int×Int→Option ((Int×Int×Int)⊕(Int)):=fun (c,a,d)=>
  if (0:Int) < a then
    if (wrc a 2)=1 then
      (wr (wm .i64 d c) b).bind fun e=>
      m_jl c b a e
    else
      m_jl c b a d
  else
    some (.inr d)
def m_jn (b:Int) (c:Int) (a:Int):Option (Int):=
  (m_jj b a).bind fun d=>
  (loop (m_jm a) (d,c,1)).bind fun e=>
  some e
def m_jo (b:Int) (a:Int):Option (Int):=
  (m_jn b (ws .i64 a 2) a).bind fun c=>
  some c
end M
