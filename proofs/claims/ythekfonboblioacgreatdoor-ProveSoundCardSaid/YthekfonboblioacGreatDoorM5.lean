/- Models of functions of the program, printed. -/
import Derived.Test.YthekfonboblioacGreatDoorM4
namespace M
open Sx
set_option linter.unusedVariables false
def m_ec (a:Int) (b:List (List (Bool×LI))) (c:LI):Option (((List (List (Bool×LI)))×LI×Int)⊕(((List (List (Bool×LI)))))):=
  some (.inl (b,c,wa .i64 a 1))
def m_ed (a:List (List (Bool×LI))) (b:Int) (c:LI) (d:List (Bool×LI)):Option (((List (List (Bool×LI)))×LI×Int)⊕(((List (List (Bool×LI)))))):=
  (app a [d]).bind fun e=>
  m_ec b e c
def m_ee (b:LI) (e:(List (Bool×LI))):(List (Bool×LI))×Int→Option (((List (Bool×LI))×Int)⊕(((List (Bool×LI))))):=fun (c,a)=>
  if a < (b.length:Int) then
    (getI b a).bind fun f=>
    (getI e a).bind fun d=>
    (setI c f (d.1,d.2)).bind fun g=>
    some (.inl (g,wa .i64 a 1))
  else
    some (.inr c)
def m_ef (f:Int) (c:List (List (Bool×LI))):(List (List (Bool×LI)))×LI×Int→Option (((List (List (Bool×LI)))×LI×Int)⊕(((List (List (Bool×LI)))))):=fun (d,e,a)=>
  if a < f then
    (app [] e).bind fun i=>
    (app i [a]).bind fun b=>
    (if (0:Int) < (c.length:Int) then
      (m_d3 c b).bind fun j=>
      (m_d4 j (b.length:Int)).bind fun k=>
      some (decide ((e.length:Int) < k))
    else
      some false).bind fun l=>
    if l=true then
      m_ec a d b
    else
      (mkL (false,[]) f).bind fun m=>
      (m_j 1).bind fun g=>
      (setI m a (g.1,g.2)).bind fun h=>
      if (0:Int) < (c.length:Int) then
        (m_d3 c b).bind fun n=>
        (m_eb n).bind fun o=>
        (loop (m_ee b o) (h,0)).bind fun p=>
        m_ed d a e p
      else
        m_ed d a e h
  else
    some (.inr d)
def m_eg (a:List (List (Bool×LI))) (b:Int):Option ((List (List (Bool×LI)))):=
  (loop (m_ef b a) ([],[],0)).bind fun c=>
  some c
def m_eh (b:Int):Int→Option ((Int)⊕(Unit⊕Unit)):=fun a=>
  if (wm .i64 a a)≤b then
    (wr b a).bind fun c=>
    if c=0 then
      some (.inr (.inr ()))
    else
      some (.inl (wa .i64 a 1))
  else
    some (.inr (.inl ()))
def m_ei (a:Int):Option (Bool):=
  if ((decide (a < 2)) || (decide ((2147483647:Int) < a)))=true then
    some false
  else
    (loop (m_eh a) 2).bind (fun o=>match o with
      | .inl ()=>
        some true
      | .inr ()=>
        some false)
def m_ej (a:Int) (b:LI):Option ((LI×Int)⊕(LI)):=
  some (.inl (b,ws .i64 a 1))
def m_ek (c:Int):LI×Int→Option ((LI×Int)⊕(LI)):=fun (b,a)=>
  if ((decide ((1:Int) < a)) && (decide ((b.length:Int) < (imin c 100))))=true then
    (m_ei a).bind fun d=>
    if d=true then
      (app b [a]).bind fun e=>
      m_ej a e
    else
      m_ej a b
  else
    some (.inr b)
def m_el (a:Int) (b:Int):Option (LI):=
  if a≤2 then
    some []
  else
    (loop (m_ek b) ([],ws .i64 (imin a 2147483648) 1)).bind fun c=>
    some c
def m_em (c:Bool) (d:LI) (e:Int):Option (Int):=
  (m_j e).bind fun a=>
  (m_dm c d a.1 a.2).bind fun b=>
  (m_bu b.2.2.1 b.2.2.2).bind fun f=>
  some f.1
def m_en (b:List (List (Bool×LI))) (c:Int) (f:Int):LI×Int→Option ((LI×Int)⊕(LI)):=fun (d,a)=>
  (getI b c).bind fun g=>
  if a < (g.length:Int) then
    (getI b c).bind fun h=>
    (getI h a).bind fun e=>
    (m_em e.1 e.2 f).bind fun i=>
    (app d [i]).bind fun j=>
    some (.inl (j,wa .i64 a 1))
  else
    some (.inr d)
def m_eo (b:List (List (Bool×LI))) (d:Int):L2×Int→Option ((L2×Int)⊕(L2)):=fun (c,a)=>
  if a < (b.length:Int) then
    (loop (m_en b a d) ([],0)).bind fun e=>
    (app c [e]).bind fun f=>
    some (.inl (f,wa .i64 a 1))
  else
    some (.inr c)
def m_ep (a:List (List (Bool×LI))) (b:Int):Option (L2):=
  (loop (m_eo a b) ([],0)).bind fun c=>
  some c
def m_eq (c:Int):LI×Int→Option ((LI×Int)⊕(LI)):=fun (b,a)=>
  if a < c then
    (app b [a]).bind fun d=>
    some (.inl (d,wa .i64 a 1))
  else
    some (.inr b)
def m_er (a:Int):Option (LI):=
  (loop (m_eq a) ([],0)).bind fun b=>
  some b
def m_es (b:LI) (d:LI) (e:Int) (f:L2):LI×Int→Option ((LI×Int)⊕(LI)):=fun (c,a)=>
  if a < (b.length:Int) then
    (getI d e).bind fun g=>
    (getI f g).bind fun h=>
    (getI b a).bind fun i=>
    (getI h i).bind fun j=>
    (app c [j]).bind fun k=>
    some (.inl (k,wa .i64 a 1))
  else
    some (.inr c)
def m_et (b:LI) (d:LI) (e:L2):L2×Int→Option ((L2×Int)⊕(L2)):=fun (c,a)=>
  if a < (b.length:Int) then
    (loop (m_es d b a e) ([],0)).bind fun f=>
    (app c [f]).bind fun g=>
    some (.inl (g,wa .i64 a 1))
  else
    some (.inr c)
def m_eu (a:L2) (b:LI) (c:LI):Option (L2):=
  (loop (m_et b c a) ([],0)).bind fun d=>
  some d
def m_ev (a:Int):Option (Int):=
  some a
def m_ew (c:Int) (b:Int):Option (Int):=
  (wr c b).bind fun a=>
  if a < 0 then
    m_ev (wa .i64 a b)
  else
    m_ev a
def m_ex (a:L2):Option (Int):=
  if (a.length:Int)=0 then
    some 0
  else
    (getI a 0).bind fun b=>
    some (b.length:Int)
def m_ey (a:Int) (b:Int) (c:Int) (d:Int):Option ((Int×Int×Int)⊕(Int)):=
  (wr (wm .i64 a a) b).bind fun e=>
  some (.inl (e,wqc .i64 c 2,d))
def m_ez (b:Int):Int×Int×Int→Option ((Int×Int×Int)⊕(Int)):=fun (c,a,d)=>
  if (0:Int) < a then
    if (wrc a 2)=1 then
      (wr (wm .i64 d c) b).bind fun e=>
      m_ey c b a e
    else
      m_ey c b a d
  else
    some (.inr d)
def m_e0 (b:Int) (c:Int) (a:Int):Option (Int):=
  (m_ew b a).bind fun d=>
  (loop (m_ez a) (d,c,1)).bind fun e=>
  some e
def m_e1 (b:Int) (a:Int):Option (Int):=
  (m_e0 b (ws .i64 a 2) a).bind fun c=>
  some c
def m_e2 (a:Int) (b:L2) (c:Int) (d:LI):Option ((L2×Int×LI×Int)⊕((L2×Int×LI))):=
  some (.inl (b,c,d,wa .i64 a 1))
def m_e3 (b:Int) (d:LI) (f:Int) (e:Int):L2×Int→Option ((L2×Int)⊕(L2)):=fun (a,c)=>
  (getI a b).bind fun g=>
  if ((decide (c < (g.length:Int))) && (!(decide (b=(d.length:Int)))))=true then
    (getI a b).bind fun h=>
    (getI a b).bind fun i=>
    (getI i c).bind fun j=>
    (getI a (d.length:Int)).bind fun k=>
    (getI k c).bind fun l=>
    (wr (wm .i64 f l) e).bind fun m=>
    (m_ew (ws .i64 j m) e).bind fun n=>
    (setI h c n).bind fun o=>
    (setI a b o).bind fun p=>
    some (.inl (p,wa .i64 c 1))
  else
    some (.inr a)
def m_e4 (c:Int) (d:LI) (e:Int):L2×Int→Option ((L2×Int)⊕(L2)):=fun (a,b)=>
  if b < (a.length:Int) then
    (getI a b).bind fun f=>
    (getI f c).bind fun g=>
    (loop (m_e3 b d g e) (a,0)).bind fun h=>
    some (.inl (h,wa .i64 b 1))
  else
    some (.inr a)
def m_e5 (b:LI) (d:Int) (e:Int):L2×Int→Option ((L2×Int)⊕(L2)):=fun (a,c)=>
  (getI a (b.length:Int)).bind fun f=>
  if c < (f.length:Int) then
    (getI a (b.length:Int)).bind fun g=>
    (getI a (b.length:Int)).bind fun h=>
    (getI h c).bind fun i=>
    (wr (wm .i64 i d) e).bind fun j=>
    (setI g c j).bind fun k=>
    (setI a (b.length:Int) k).bind fun l=>
    some (.inl (l,wa .i64 c 1))
  else
    some (.inr a)
def m_e6 (a:LI) (b:Int) (c:Int) (d:L2) (e:Int):Option ((L2×Int×LI×Int)⊕((L2×Int×LI))):=
  (getI d (a.length:Int)).bind fun f=>
  (getI f b).bind fun g=>
  (wr (wm .i64 e g) c).bind fun h=>
  (getI d (a.length:Int)).bind fun i=>
  (getI i b).bind fun j=>
  (m_e1 j c).bind fun k=>
  (loop (m_e5 a k c) (d,0)).bind fun l=>
  (loop (m_e4 b a c) (l,0)).bind fun m=>
  (app a [b]).bind fun n=>
  m_e2 b m h n
def m_e7 (b:L2) (c:Int):Int→Option ((Int)⊕(Int)):=fun a=>
  (if a < (b.length:Int) then
    (getI b a).bind fun d=>
    (getI d c).bind fun e=>
    some (decide (e=0))
  else
    some false).bind fun f=>
  if f=true then
    some (.inl (wa .i64 a 1))
  else
    some (.inr a)
def m_e8 (g:L2) (e:Int):L2×Int×LI×Int→Option ((L2×Int×LI×Int)⊕((L2×Int×LI))):=fun (a,f,b,c)=>
  (m_ex g).bind fun h=>
  if c < h then
    (loop (m_e7 a c) (b.length:Int)).bind fun d=>
    if d=(a.length:Int) then
      m_e2 c a 0 b
    else
      if d=(b.length:Int) then
        m_e6 b c e a f
      else
        (getI a (b.length:Int)).bind fun i=>
        (getI a d).bind fun j=>
        (setI a d i).bind fun k=>
        (setI k (b.length:Int) j).bind fun l=>
        (m_ew (wneg .i64 f) e).bind fun m=>
        m_e6 b c e l m
  else
    some (.inr (a,f,b))
def m_e9 (b:L2) (c:Int) (e:Int):LI×Int→Option ((LI×Int)⊕(LI)):=fun (d,a)=>
  (getI b c).bind fun f=>
  if a < (f.length:Int) then
    (getI b c).bind fun g=>
    (getI g a).bind fun h=>
    (m_ew h e).bind fun i=>
    (app d [i]).bind fun j=>
    some (.inl (j,wa .i64 a 1))
  else
    some (.inr d)
def m_fa (b:L2) (d:Int):L2×Int→Option ((L2×Int)⊕(L2)):=fun (c,a)=>
  if a < (b.length:Int) then
    (loop (m_e9 b a d) ([],0)).bind fun e=>
    (app c [e]).bind fun f=>
    some (.inl (f,wa .i64 a 1))
  else
    some (.inr c)
def m_fb (b:L2) (a:Int):Option (L2×LI×Int):=
  (loop (m_fa b a) ([],0)).bind fun c=>
  (wr 1 a).bind fun d=>
  (loop (m_e8 b a) (c,d,[],0)).bind fun (e,f,g)=>
  some (e,g,f)
def m_fc (a:L2) (b:Int):Option (Int):=
  (m_fb a b).bind fun c=>
  some (c.2.1.length:Int)
def m_fd (a:Int) (b:LI):Option ((LI×Int)⊕(LI)):=
  some (.inl (b,wa .i64 a 1))
def m_fe (d:Int) (c:L2) (e:Int):LI×Int→Option ((LI×Int)⊕(LI)):=fun (a,b)=>
  if b < d then
    (m_er (c.length:Int)).bind fun f=>
    (app [] a).bind fun g=>
    (app g [b]).bind fun h=>
    (m_eu c f h).bind fun i=>
    (m_fc i e).bind fun j=>
    if (a.length:Int) < j then
      (app a [b]).bind fun k=>
      m_fd b k
    else
      m_fd b a
  else
    some (.inr a)
def m_ff (a:L2) (b:Int) (c:Int):Option (LI):=
  (loop (m_fe b a c) ([],0)).bind fun d=>
  some d
end M
