/- Models of functions of the program, printed. -/
import Derived.Test.YthekfonboblioacGreatDoorM10
namespace M
open Sx
set_option linter.unusedVariables false
def m_i0 (b:Bool) (c:LI) (d:Bool) (e:LI):Option (Bool×LI):=
  (m_f1 c).bind fun f=>
  (m_f1 e).bind fun g=>
  (m_iz f g).bind fun h=>
  (m_f2 (!((b == d))) h).bind fun a=>
  some (a.1,a.2)
def m_i1 (c:Bool) (h:LI) (d:Bool) (i:LI):Option (Bool×LI):=
  (m_f1 h).bind fun a=>
  (m_f1 i).bind fun b=>
  if (c == d)=true then
    (m_gr a b).bind fun j=>
    (m_f2 c j).bind fun e=>
    some (e.1,e.2)
  else
    (m_hj a b).bind fun k=>
    if (0:Int)≤k then
      (m_hu a b).bind fun l=>
      (m_f2 c l).bind fun f=>
      some (f.1,f.2)
    else
      (m_hu b a).bind fun m=>
      (m_f2 d m).bind fun g=>
      some (g.1,g.2)
def m_i2 (b:List (Bool×LI)) (i:List (Bool×LI)):Bool×LI×Int→Option ((Bool×LI×Int)⊕((Bool×LI))):=fun (c,d,a)=>
  if a < (b.length:Int) then
    (getI b a).bind fun e=>
    (getI i a).bind fun f=>
    (m_i0 e.1 e.2 f.1 f.2).bind fun g=>
    (m_i1 c d g.1 g.2).bind fun h=>
    some (.inl (h.1,h.2,wa .i64 a 1))
  else
    some (.inr (c,d))
def m_i3 (b:List (List (Bool×LI))) (d:List (Bool×LI)):Int→Option ((Int)⊕(Unit⊕Unit)):=fun a=>
  if a < (b.length:Int) then
    (getI b a).bind fun e=>
    (m_f4 0).bind fun c=>
    (loop (m_i2 e d) (c.1,c.2,0)).bind fun (f,g)=>
    (m_ga f g).bind fun h=>
    if h=0 then
      some (.inl (wa .i64 a 1))
    else
      some (.inr (.inr ()))
  else
    some (.inr (.inl ()))
def m_i4 (a:List (List (Bool×LI))) (b:List (Bool×LI)):Option (Bool):=
  (loop (m_i3 a b) 0).bind (fun o=>match o with
    | .inl ()=>
      some true
    | .inr ()=>
      some false)
def m_i5 (a:List (List (Bool×LI))):Option (Int):=
  if (a.length:Int)=0 then
    some 0
  else
    (getI a 0).bind fun b=>
    some (b.length:Int)
def m_i6 (a:List (Bool×LI)) (b:Int):Option (Bool):=
  some (!(decide ((a.length:Int)=b)))
def m_i7 (b:List (List (Bool×LI))) (c:Int):Int→Option ((Int)⊕(Unit⊕Int)):=fun a=>
  if a < (b.length:Int) then
    (getI b a).bind fun d=>
    (m_i6 d c).bind fun e=>
    if e=true then
      some (.inr (.inr a))
    else
      some (.inl (wa .i64 a 1))
  else
    some (.inr (.inl ()))
def m_i8 (a:List (List (Bool×LI))) (b:Int):Option (Int):=
  (loop (m_i7 a b) 0).bind (fun o=>match o with
    | .inl ()=>
      some (-1)
    | .inr c=>
      some c)
def m_i9 (a:List (List (Bool×LI))) (b:Int):Option (Bool):=
  (m_i8 a b).bind fun c=>
  some (decide ((0:Int)≤c))
def m_ja (a:List (List (Bool×LI))):Option (Int):=
  (m_i5 a).bind fun b=>
  (m_i9 a b).bind fun c=>
  if c=true then
    some 5
  else
    if ((decide ((16:Int) < (a.length:Int))) || (decide ((16:Int) < b)))=true then
      some 6
    else
      some 0
def m_jb (a:List (List (Bool×LI))) (b:Int) (c:List (Bool×LI)):Option (((List (List (Bool×LI)))×Int)⊕(((List (List (Bool×LI)))))):=
  (app a [c]).bind fun d=>
  some (.inl (d,wa .i64 b 1))
def m_jc (b:List (Bool×LI)):(List (Bool×LI))×Int→Option (((List (Bool×LI))×Int)⊕(((List (Bool×LI))))):=fun (c,a)=>
  if a < (b.length:Int) then
    (getI b a).bind fun d=>
    (m_f9 d.1 d.2).bind fun e=>
    (app c [(e.1,e.2)]).bind fun f=>
    some (.inl (f,wa .i64 a 1))
  else
    some (.inr c)
def m_jd (c:List (List (Bool×LI))) (d:List (Bool×LI)):(List (List (Bool×LI)))×Int→Option (((List (List (Bool×LI)))×Int)⊕(((List (List (Bool×LI)))))):=fun (b,a)=>
  if a < (c.length:Int) then
    (getI c a).bind fun h=>
    (loop (m_jc h) ([],0)).bind fun e=>
    if a < (d.length:Int) then
      (getI d a).bind fun f=>
      (m_f9 f.1 f.2).bind fun g=>
      (app e [(g.1,g.2)]).bind fun i=>
      m_jb b a i
    else
      m_jb b a e
  else
    some (.inr b)
def m_je (a:List (List (Bool×LI))) (b:List (Bool×LI)):Option ((List (List (Bool×LI)))):=
  (loop (m_jd a b) ([],0)).bind fun c=>
  some c
def m_jf (b:Bool) (c:LI) (d:Bool) (e:LI):Option (Bool×LI):=
  (m_i1 b c (!(d)) e).bind fun a=>
  some (a.1,a.2)
def m_jg (b:Bool) (c:LI) (d:Bool) (e:LI):Option (Bool×LI×Int):=
  (m_hw b c d e).bind fun a=>
  if ((decide (a.2.2.2.2=0)) && (decide ((0:Int) < (a.2.2.2.1.length:Int))))=true then
    some (false,[],10)
  else
    some (a.1,a.2.1,a.2.2.2.2)
def m_jh (c:List (Bool×LI)) (j:Bool) (k:LI) (l:Bool) (m:LI) (n:Bool) (o:LI):(List (Bool×LI))×Int→Option (((List (Bool×LI))×Int)⊕(((List (Bool×LI))))):=fun (b,a)=>
  if a < (c.length:Int) then
    (getI c a).bind fun d=>
    (getI b a).bind fun e=>
    (m_i0 j k e.1 e.2).bind fun f=>
    (m_i0 l m d.1 d.2).bind fun g=>
    (m_jf f.1 f.2 g.1 g.2).bind fun h=>
    (m_jg h.1 h.2 n o).bind fun i=>
    (setI b a (i.1,i.2.1)).bind fun p=>
    some (.inl (p,wa .i64 a 1))
  else
    some (.inr b)
def m_ji (a:List (Bool×LI)) (b:List (Bool×LI)) (c:Bool) (d:LI) (e:Bool) (f:LI) (g:Bool) (h:LI):Option ((List (Bool×LI))):=
  (loop (m_jh b e f c d g h) (a,0)).bind fun i=>
  some i
def m_jj (a:Int) (b:List (List (Bool×LI))):Option (((List (List (Bool×LI)))×Int)⊕(((List (List (Bool×LI)))))):=
  some (.inl (b,wa .i64 a 1))
def m_jk (g:List (List (Bool×LI))) (c:Int) (h:Int) (d:Bool×LI) (i:Bool) (j:LI):(List (List (Bool×LI)))×Int→Option (((List (List (Bool×LI)))×Int)⊕(((List (List (Bool×LI)))))):=fun (b,a)=>
  if a < (g.length:Int) then
    (getI b a).bind fun e=>
    if a=c then
      m_jj a b
    else
      (getI b c).bind fun k=>
      (getI e h).bind fun f=>
      (neI a c).bind fun u110=>
      (m_ji e k f.1 f.2 d.1 d.2 i j).bind fun l=>
      (setI b a l).bind fun m=>
      m_jj a m
  else
    some (.inr b)
def m_jl (d:Int) (a:Int) (e:Bool) (f:LI) (g:LI) (b:List (List (Bool×LI))) (h:Int):Option ((List (List (Bool×LI)))×LI×Bool×LI×Int):=
  (getI b d).bind fun i=>
  (getI i a).bind fun c=>
  (loop (m_jk b d a c e f) (b,0)).bind fun j=>
  (app g [a]).bind fun k=>
  some (j,k,c.1,c.2,h)
def m_jm (b:List (List (Bool×LI))) (d:LI) (e:Bool) (f:LI) (g:Int) (h:Int) (a:Int) (c:Int):Option ((List (List (Bool×LI)))×LI×Bool×LI×Int):=
  if a < c then
    (getI b c).bind fun i=>
    (getI b a).bind fun j=>
    (setI b a i).bind fun k=>
    (setI k c j).bind fun l=>
    m_jl a h e f d l (wneg .i64 g)
  else
    m_jl a h e f d b g
def m_jn (a:Int) (b:List (List (Bool×LI))) (c:LI) (d:Bool) (e:LI) (f:Int):Option (((List (List (Bool×LI)))×LI×Bool×LI×Int×Int)⊕(((List (List (Bool×LI)))×LI×Bool×LI×Int))):=
  some (.inl (b,c,d,e,f,wa .i64 a 1))
def m_jo (c:List (List (Bool×LI))) (d:Int) (e:LI) (g:Bool) (h:LI) (i:Int):Int→Option ((Int)⊕(((List (List (Bool×LI)))×LI×Bool×LI×Int)⊕Unit)):=fun b=>
  if b < (c.length:Int) then
    (getI c b).bind fun j=>
    (getI j d).bind fun f=>
    (m_ga f.1 f.2).bind fun k=>
    if k=0 then
      some (.inl (wa .i64 b 1))
    else
      (m_jm c e g h i d (e.length:Int) b).bind fun a=>
      some (.inr (.inl (a.1,a.2.1,a.2.2.1,a.2.2.2.1,a.2.2.2.2)))
  else
    some (.inr (.inr ()))
def m_jp (g:Int):(List (List (Bool×LI)))×LI×Bool×LI×Int×Int→Option (((List (List (Bool×LI)))×LI×Bool×LI×Int×Int)⊕(((List (List (Bool×LI)))×LI×Bool×LI×Int))):=fun (c,a,d,e,f,b)=>
  if b < g then
    (loop (m_jo c b a d e f) (a.length:Int)).bind (fun o=>match o with
      | .inl (h,i,j,k,l)=>
        m_jn b h i j k l
      | .inr ()=>
        m_jn b c a d e f)
  else
    some (.inr (c,a,d,e,f))
def m_jq (b:List (List (Bool×LI))) (c:Int):Option ((List (List (Bool×LI)))×LI×Bool×LI×Int):=
  (m_f4 1).bind fun a=>
  (loop (m_jp c) (b,[],a.1,a.2,1,0)).bind fun (d,e,f,g,h)=>
  some (d,e,f,g,h)
end M
