/- Models of functions of the program, printed. -/
import Derived.Test.YtcoaljcfifecgabGreatDoorM11
namespace M
open Sx
set_option linter.unusedVariables false
def m_jj (c:LI) (g:(List (List (Bool×LI)))×Int×Int) (d:Int) (h:(List (List (Bool×LI)))):Int→Option ((Int)⊕(Unit⊕(Int×LI×LI))):=fun b=>
  if b < (c.length:Int) then
    (getI c b).bind fun a=>
    (m_ij g.1 a).bind fun e=>
    (m_jf e a).bind fun f=>
    if (f.length:Int)=(ws .i64 d (h.length:Int)) then
      (m_ji e d).bind fun i=>
      (m_jf i a).bind fun j=>
      some (.inr (.inr (a,f,j)))
    else
      some (.inl (wa .i64 b 1))
  else
    some (.inr (.inl ()))
def m_jk (d:Int) (a:Int) (e:LI) (f:LI) (g:LI):Option (Int×Int×LI×LI×(List (List (Bool×LI)))×Int):=
  (m_ee d a e f g).bind fun b=>
  if b.2.2=0 then
    (m_f9 b.1 a).bind fun c=>
    (m_ic 2147483648 5).bind fun h=>
    (loop (m_jj h b a c) 0).bind (fun o=>match o with
      | .inl ()=>
        some (0,0,[],[],[],420)
      | .inr (i,j,k)=>
        some (ws .i64 a (c.length:Int),i,j,k,c,0))
  else
    some (0,0,[],[],[],b.2.2)
def m_jl (b:LI) (d:Int):Int→Option ((Int)⊕(Unit⊕Unit)):=fun a=>
  if a < (b.length:Int) then
    (getI b a).bind fun c=>
    (if ((decide (c < 0)) || (decide (d≤c)))=true then
      some true
    else
      (if (0:Int) < a then
        (getI b (ws .i64 a 1)).bind fun e=>
        some (decide (c≤e))
      else
        some false).bind fun f=>
      some f).bind fun g=>
    if g=true then
      some (.inr (.inr ()))
    else
      some (.inl (wa .i64 a 1))
  else
    some (.inr (.inl ()))
def m_jm (a:LI) (b:Int) (c:Int):Option (Bool):=
  if (a.length:Int)=b then
    (loop (m_jl a c) 0).bind (fun o=>match o with
      | .inl ()=>
        some true
      | .inr ()=>
        some false)
  else
    some false
def m_jn (a:L2) (c:Int):Option (Int):=
  (m_iq a c).bind fun b=>
  (if b=0 then
    (m_il a).bind fun d=>
    some (!(decide ((a.length:Int)=d)))
  else
    some false).bind fun e=>
  if e=true then
    some 5
  else
    some b
def m_jo (a:L2) (b:Int):Option (Int×Int):=
  (m_jn a b).bind fun c=>
  if c=0 then
    (m_iv a b).bind fun e=>
    (m_jb e b).bind fun d=>
    if (d.2.1.length:Int) < (a.length:Int) then
      some (0,0)
    else
      some (d.2.2,0)
  else
    some (0,c)
def m_jp (b:LI) (e:List (List (Bool×LI))) (f:Int) (g:Int):LI×Int→Option ((LI×Int)⊕(LI)):=fun (c,a)=>
  if a < (b.length:Int) then
    (getI b a).bind fun h=>
    (getI e f).bind fun i=>
    (getI i h).bind fun d=>
    (m_ig d.1 d.2 g).bind fun j=>
    (app c [j.1]).bind fun k=>
    some (.inl (k,wa .i64 a 1))
  else
    some (.inr c)
def m_jq (b:LI) (d:LI) (e:List (List (Bool×LI))) (f:Int):L2×Int→Option ((L2×Int)⊕(L2)):=fun (c,a)=>
  if a < (b.length:Int) then
    (getI b a).bind fun g=>
    (loop (m_jp d e g f) ([],0)).bind fun h=>
    (app c [h]).bind fun i=>
    some (.inl (i,wa .i64 a 1))
  else
    some (.inr c)
def m_jr (c:List (List (Bool×LI))) (g:Int) (a:Int) (d:LI) (e:LI) (h:List (List (Bool×LI))):Option (Bool):=
  (loop (m_jq d e c a) ([],0)).bind fun f=>
  (m_jo f a).bind fun b=>
  some ((decide (b.2=0)) && (!(decide (b.1=0))))
def m_js (b:List (Bool×LI)) (i:List (Bool×LI)):Bool×LI×Int→Option ((Bool×LI×Int)⊕((Bool×LI))):=fun (c,d,a)=>
  if a < (b.length:Int) then
    (getI b a).bind fun e=>
    (getI i a).bind fun f=>
    (m_eu e.1 e.2 f.1 f.2).bind fun g=>
    (m_e3 c d g.1 g.2).bind fun h=>
    some (.inl (h.1,h.2,wa .i64 a 1))
  else
    some (.inr (c,d))
def m_jt (b:List (List (Bool×LI))) (d:List (Bool×LI)):Int→Option ((Int)⊕(Unit⊕Unit)):=fun a=>
  if a < (b.length:Int) then
    (getI b a).bind fun e=>
    (m_c8 0).bind fun c=>
    (loop (m_js e d) (c.1,c.2,0)).bind fun (f,g)=>
    (m_de f g).bind fun h=>
    if h=0 then
      some (.inl (wa .i64 a 1))
    else
      some (.inr (.inr ()))
  else
    some (.inr (.inl ()))
def m_ju (a:List (List (Bool×LI))) (b:List (Bool×LI)):Option (Bool):=
  (loop (m_jt a b) 0).bind (fun o=>match o with
    | .inl ()=>
      some true
    | .inr ()=>
      some false)
def m_jv (b:List (List (Bool×LI))) (d:Int) (e:(List (List (Bool×LI)))×Int×Int):Int→Option ((Int)⊕(Unit⊕Unit)):=fun a=>
  if a < (b.length:Int) then
    (getI b a).bind fun c=>
    (if (c.length:Int)=d then
      (m_ju e.1 c).bind fun f=>
      some (!(f))
    else
      some true).bind fun g=>
    if g=true then
      some (.inr (.inr ()))
    else
      some (.inl (wa .i64 a 1))
  else
    some (.inr (.inl ()))
def m_jw (f:Int) (b:Int) (j:LI) (k:LI) (l:LI) (c:Int) (d:Int) (g:LI) (h:LI) (a:List (List (Bool×LI))):Option (Bool):=
  (m_ee f b j k l).bind fun e=>
  (if e.2.2=0 then
    (m_h9 d).bind fun m=>
    some (!(m))
  else
    some true).bind fun n=>
  if (n || (decide ((2147483647:Int) < d)))=true then
    some false
  else
    (m_jm g c f).bind fun p=>
    (if p=true then
      (m_jm h c b).bind fun q=>
      some (!(q))
    else
      some true).bind fun r=>
    (if r=true then
      some true
    else
      (m_jr e.1 c d g h a).bind fun s=>
      some (!(s))).bind fun t=>
    if t=true then
      some false
    else
      if (a.length:Int)=(ws .i64 b c) then
        (loop (m_jv a b e) 0).bind (fun o=>match o with
          | .inl ()=>
            (m_fr a).bind fun i=>
            some ((decide (i.2=0)) && (decide (i.1=(a.length:Int))))
          | .inr ()=>
            some false)
      else
        some false
def m_jx:Option (Bool):=
  (m_bz 2 0).bind fun b=>
  (m_bz 4 0).bind fun d=>
  (m_jk 2 2 [0,2,4] [0,1,0,1] [4607182418800017408,b,b,d]).bind fun a=>
  (m_ga 2 2 [0,2,4] [0,1,0,1] [4607182418800017408,b,b,d]).bind fun c=>
  (if a.2.2.2.2.2=0 then
    some (decide (c.2.2=0))
  else
    some false).bind fun g=>
  (if g=true then
    some c.2.1
  else
    some false).bind fun h=>
  (if h=true then
    some (decide (a.1=1))
  else
    some false).bind fun i=>
  (if i=true then
    some (decide (a.2.1=2147483647))
  else
    some false).bind fun j=>
  (if j=true then
    some (decide ((a.2.2.2.2.1.length:Int)=1))
  else
    some false).bind fun k=>
  (if k=true then
    some (decide ((c.1.length:Int)=2))
  else
    some false).bind fun l=>
  (if l=true then
    (getI c.1 0).bind fun e=>
    (m_j (-2)).bind fun f=>
    (m_h5 e.1 e.2 f.1 f.2).bind fun m=>
    some m
  else
    some false).bind fun n=>
  (if n=true then
    (m_jw 2 2 [0,2,4] [0,1,0,1] [4607182418800017408,b,b,d] a.1 a.2.1 a.2.2.1 a.2.2.2.1 a.2.2.2.2.1).bind fun o=>
    some o
  else
    some false).bind fun p=>
  some p
def m_jy (d:LI) (e:Int) (f:Int) (g:Int) (h:Bool):Option (Bool):=
  (m_co d e f g h).bind fun a=>
  (m_ga a.1 a.2.1 a.2.2.1 a.2.2.2.1 a.2.2.2.2).bind fun b=>
  (m_h2 a.1 a.2.1 a.2.2.1 a.2.2.2.1 a.2.2.2.2).bind fun c=>
  (if ((decide (b.2.2=c.2.2)) && (b.2.1 == c.2.1))=true then
    (m_h7 b.1 c.1).bind fun i=>
    some i
  else
    some false).bind fun j=>
  (if j=true then
    (m_jx).bind fun k=>
    some k
  else
    some false).bind fun l=>
  some l
end M
