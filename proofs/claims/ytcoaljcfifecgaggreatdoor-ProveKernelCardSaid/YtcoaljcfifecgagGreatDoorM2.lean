/- Models of functions of the program, printed. -/
import Derived.Test.YtcoaljcfifecgagGreatDoorM1
namespace M
open Sx
set_option linter.unusedVariables false
def sparseref01_Lost (e:Bool) (a:LI) (b:Int):Option (Bool):=
  (sparseref01_trim a).bind fun c=>
  (sparseref01_shr c b).bind fun d=>
  some d.2
def sparseref02_Up (b:Bool) (c:Int) (d:Bool) (a:Int):Option (Bool):=
  if a=1 then
    some b
  else
    if a=2 then
      some (!(b))
    else
      if a=3 then
        some false
      else
        some ((decide ((0:Int) < c)) || ((decide (c=0)) && d))
def sparseref02_Cut_j10 (a:Bool) (b:LI):Option (Bool×LI):=
  some (a,b)
def sparseref02_Cut_j8 (a:Bool×LI) (d:Bool) (e:Int) (f:Int):Option (Bool×LI):=
  (sparseref01_Sign a.1 a.2).bind fun g=>
  (if g=0 then
    some false
  else
    (sparseref01_TrailingZeros a.1 a.2).bind fun h=>
    some (decide (h=0))).bind fun i=>
  (sparseref02_Up d f i e).bind fun j=>
  if j=true then
    (sparseref01_FromInt 1).bind fun b=>
    (sparseref01_Add a.1 a.2 b.1 b.2).bind fun c=>
    sparseref02_Cut_j10 c.1 c.2
  else
    sparseref02_Cut_j10 a.1 a.2
def sparseref02_Cut_j14 (a:Bool×LI) (b:Bool) (c:Int) (d:Int):Option (Bool×LI):=
  sparseref02_Cut_j8 a b c d
def sparseref02_Cut_j16 (a:Bool×LI) (b:Bool) (c:Int) (d:Int):Option (Bool×LI):=
  sparseref02_Cut_j14 a b c d
def sparseref02_Cut (c:Bool) (d:Bool) (e:LI) (b:Int) (h:Bool) (f:Int):Option (Bool×LI):=
  (sparseref02_down d e b).bind fun a=>
  (sparseref01_Lost d e b).bind fun i=>
  if ((!(i)) && (!(h)))=true then
    some (a.1,a.2)
  else
    if (0:Int) < b then
      (sparseref02_down d e (ws .i64 b 1)).bind fun g=>
      (sparseref01_TrailingZeros g.1 g.2).bind fun j=>
      (if j=0 then
        (sparseref01_Sign g.1 g.2).bind fun k=>
        some (!(decide (k=0)))
      else
        some false).bind fun l=>
      if l=true then
        (if h=true then
          some true
        else
          (sparseref01_Lost d e (ws .i64 b 1)).bind fun m=>
          some m).bind fun n=>
        if n=true then
          sparseref02_Cut_j16 a c f 1
        else
          sparseref02_Cut_j16 a c f 0
      else
        sparseref02_Cut_j14 a c f (-1)
    else
      sparseref02_Cut_j8 a c f (-1)
def sparseref01_Int_l1 (b:Bool×LI):Int×Int→Option ((Int×Int)⊕(Int)):=fun (c,a)=>
  if a < (b.2.length:Int) then
    (getI b.2 a).bind fun d=>
    (wshl .u64 (wc .u64 d) (wm .i64 32 a)).bind fun e=>
    some (.inl (wor .u64 c e,wa .i64 a 1))
  else
    some (.inr c)
def sparseref01_Int (c:Bool) (d:LI):Option (Int×Bool):=
  (sparseref01_Norm c d).bind fun b=>
  if (2:Int) < (b.2.length:Int) then
    some (0,false)
  else
    (loop (sparseref01_Int_l1 b) (0,0)).bind fun a=>
    if b.1=true then
      if (9223372036854775808:Int) < a then
        some (0,false)
      else
        some (ws .i64 (wneg .i64 (wc .i64 (ws .u64 a 1))) 1,true)
    else
      if (9223372036854775807:Int) < a then
        some (0,false)
      else
        some (wc .i64 a,true)
def sparseref03_rounded_j2 (b:Bool) (d:Int) (c:Int) (a:Int):Option (Int):=
  if ((decide ((4503599627370496:Int)≤a)) && (decide ((1024:Int) < (wa .i64 c 53))))=true then
    (sparseref03_over b d).bind fun e=>
    some e
  else
    if (4503599627370496:Int)≤a then
      (sparseref03_signed b (wor .u64 (wslc .u64 (wc .u64 (wa .i64 c 1075)) 52) (wc .u64 (ws .i64 a 4503599627370496)))).bind fun f=>
      some f
    else
      (sparseref03_signed b (wc .u64 a)).bind fun g=>
      some g
def sparseref03_rounded_j1 (a:Bool) (b:Int) (c:Int) (d:Int) (f:Bool) (g:LI):Option (Int):=
  (sparseref01_Int f g).bind fun e=>
  if e.1=9007199254740992 then
    sparseref03_rounded_j2 a b (wa .i64 (imax (ws .i64 (ws .i64 (wa .i64 c d) 1) 52) (-1074)) 1) 4503599627370496
  else
    sparseref03_rounded_j2 a b (imax (ws .i64 (ws .i64 (wa .i64 c d) 1) 52) (-1074)) e.1
def sparseref03_rounded (c:Bool) (e:Bool) (f:LI) (a:Int) (i:Bool) (d:Int):Option (Int):=
  (sparseref01_BitLen e f).bind fun b=>
  if (1024:Int)≤(ws .i64 (wa .i64 a b) 1) then
    (sparseref03_over c d).bind fun j=>
    some j
  else
    if a≤(imax (ws .i64 (ws .i64 (wa .i64 a b) 1) 52) (-1074)) then
      (sparseref02_Cut c e f (ws .i64 (imax (ws .i64 (ws .i64 (wa .i64 a b) 1) 52) (-1074)) a) i d).bind fun g=>
      sparseref03_rounded_j1 c d a b g.1 g.2
    else
      (sparseref01_Shift e f (ws .i64 a (imax (ws .i64 (ws .i64 (wa .i64 a b) 1) 52) (-1074)))).bind fun h=>
      sparseref03_rounded_j1 c d a b h.1 h.2
def sparseref03_Round (c:Bool) (d:Bool) (e:LI) (f:Int) (g:Int):Option (Int):=
  (sparseref02_Norm c d e f).bind fun a=>
  if a.1=true then
    some 9221120237041090560
  else
    (sparseref01_Sign a.2.1 a.2.2.1).bind fun h=>
    if h=0 then
      some 0
    else
      (sparseref01_Abs a.2.1 a.2.2.1).bind fun b=>
      (sparseref03_rounded a.2.1 b.1 b.2 a.2.2.2 false g).bind fun i=>
      some i
def sparseref03_FromInt (b:Int) (c:Int):Option (Int):=
  (sparseref02_FromInt b).bind fun a=>
  (sparseref03_Round a.1 a.2.1 a.2.2.1 a.2.2.2 c).bind fun d=>
  some d
def sparsegen_Small (a:Int):Option (Int):=
  (sparseref03_FromInt (ws .i64 (wc .i64 (wrc a 19)) 9) 0).bind fun b=>
  some b
def sparsegen_Num (a:Int) (c:Int):Option (Int):=
  (sparsegen_Mod c 4).bind fun b=>
  if b=1 then
    some (wor .u64 (wand .u64 a 9227875636482146303) (wslc .u64 (wa .u64 1019 (wand .u64 (wsrc .u64 a 52) 7)) 52))
  else
    if b=2 then
      some (wor .u64 (wand .u64 a 9225623836668461056) (wslc .u64 (wa .u64 983 (wrc (wsrc .u64 a 8) 81)) 52))
    else
      if b=3 then
        (sparseref03_IsFinite a).bind fun d=>
        if d=true then
          some a
        else
          some 0
      else
        (sparsegen_Small a).bind fun e=>
        some e
def sparsegen_General_j13 (a:Int) (b:LI) (c:LI):Option ((LI×LI×Int)⊕((LI×LI))):=
  some (.inl (b,c,wa .i64 a 1))
def sparsegen_General_l12 (d:Int) (f:LI) (g:Int) (h:Int):LI×LI×Int→Option ((LI×LI×Int)⊕((LI×LI))):=fun (b,c,a)=>
  if a < d then
    (sparsegen_Word f (wa .i64 (wa .i64 100 (wm .i64 g d)) a)).bind fun e=>
    if (0:Int) < (wrc (wsrc .u64 e 40) 3) then
      (app b [a]).bind fun i=>
      (sparsegen_Num e h).bind fun j=>
      (app c [j]).bind fun k=>
      sparsegen_General_j13 a i k
    else
      sparsegen_General_j13 a b c
  else
    some (.inr (b,c))
def sparsegen_General_l9 (f:Int) (g:Int) (h:LI) (i:Int):LI×LI×LI×Int→Option ((LI×LI×LI×Int)⊕((LI×LI×LI))):=fun (b,c,d,a)=>
  if a < f then
    (loop (sparsegen_General_l12 g h a i) (c,d,0)).bind fun (e,j)=>
    (app b [(e.length:Int)]).bind fun k=>
    some (.inl (k,e,j,wa .i64 a 1))
  else
    some (.inr (b,c,d))
def sparsegen_General (c:LI) (a:Int) (b:Int) (d:Int):Option (Int×Int×LI×LI×LI):=
  (loop (sparsegen_General_l9 b a c d) ([0],[],[],0)).bind fun (e,f,g)=>
  some (a,b,e,f,g)
def sparseref06_Finite_l1 (b:LI):Int→Option ((Int)⊕(Unit⊕Unit)):=fun a=>
  if a < (b.length:Int) then
    (getI b a).bind fun c=>
    (sparseref03_IsFinite c).bind fun d=>
    if d=true then
      some (.inl (wa .i64 a 1))
    else
      some (.inr (.inr ()))
  else
    some (.inr (.inl ()))
def sparseref06_Finite (a:LI):Option (Bool):=
  (loop (sparseref06_Finite_l1 a) 0).bind (fun o=>match o with
    | .inl ()=>
      some true
    | .inr ()=>
      some false)
def sparseref09_Check_l76 (c:LI) (d:Int) (b:LI) (e:Int):Int→Option ((Int)⊕(Unit⊕Unit)):=fun a=>
  (getI c (wa .i64 d 1)).bind fun f=>
  if a < f then
    (getI b a).bind fun g=>
    (if g < 0 then
      some true
    else
      (getI b a).bind fun h=>
      some (decide (e≤h))).bind fun i=>
    (if i=true then
      some true
    else
      (getI c d).bind fun j=>
      (if j < a then
        (getI b a).bind fun k=>
        (getI b (ws .i64 a 1)).bind fun l=>
        some (decide (k≤l))
      else
        some false).bind fun m=>
      some m).bind fun n=>
    if n=true then
      some (.inr (.inr ()))
    else
      some (.inl (wa .i64 a 1))
  else
    some (.inr (.inl ()))
def sparseref09_Check_l59 (c:Int) (b:LI) (d:LI) (e:Int):Int→Option ((Int)⊕(Unit⊕Unit)):=fun a=>
  if a < c then
    (getI b a).bind fun f=>
    (loop (sparseref09_Check_l76 b a d e) f).bind (fun o=>match o with
      | .inl ()=>
        some (.inl (wa .i64 a 1))
      | .inr ()=>
        some (.inr (.inr ())))
  else
    some (.inr (.inl ()))
def sparseref09_Check_l8 (c:Int) (b:LI):Int→Option ((Int)⊕(Unit⊕Unit)):=fun a=>
  if a < c then
    (getI b a).bind fun d=>
    (getI b (wa .i64 a 1)).bind fun e=>
    if e < d then
      some (.inr (.inr ()))
    else
      some (.inl (wa .i64 a 1))
  else
    some (.inr (.inl ()))
def sparseref09_Check (d:Int) (a:Int) (b:LI) (c:LI) (e:LI):Option (Int):=
  if (((((decide (d < 0)) || (decide ((200:Int) < d))) || (decide (a < 0))) || (decide ((200:Int) < a))) || (decide ((10000:Int) < (c.length:Int))))=true then
    some 6
  else
    (if ((!(decide ((e.length:Int)=(c.length:Int)))) || (!(decide ((b.length:Int)=(wa .i64 a 1)))))=true then
      some true
    else
      (getI b 0).bind fun f=>
      some (!(decide (f=0)))).bind fun g=>
    (if g=true then
      some true
    else
      (getI b a).bind fun h=>
      some (!(decide (h=(c.length:Int))))).bind fun i=>
    if i=true then
      some 1
    else
      (loop (sparseref09_Check_l8 a b) 0).bind (fun o=>match o with
        | .inl ()=>
          (loop (sparseref09_Check_l59 a b c d) 0).bind (fun o=>match o with
            | .inl ()=>
              (sparseref06_Finite e).bind fun j=>
              if j=true then
                some 0
              else
                some 4
            | .inr ()=>
              some 1)
        | .inr ()=>
          some 1)
def sparseref09_At_l3 (b:LI) (c:Int) (d:LI) (e:Int) (f:LI):Int→Option ((Int)⊕(Unit⊕Int)):=fun a=>
  (getI b (wa .i64 c 1)).bind fun g=>
  if a < g then
    (getI d a).bind fun h=>
    if h=e then
      (getI f a).bind fun i=>
      some (.inr (.inr i))
    else
      some (.inl (wa .i64 a 1))
  else
    some (.inr (.inl ()))
def sparseref09_At (f:Int) (c:Int) (b:LI) (d:LI) (e:LI) (g:Int) (a:Int):Option (Int):=
  (sparseref09_Check f c b d e).bind fun h=>
  if (((!(decide (h=0))) || (decide (a < 0))) || (decide (c≤a)))=true then
    some 0
  else
    (getI b a).bind fun i=>
    (loop (sparseref09_At_l3 b a d g e) i).bind (fun o=>match o with
      | .inl ()=>
        some 0
      | .inr j=>
        some j)
def sparseref03_Kind (a:Int):Option (Int):=
  if ((decide ((wand .u64 (wsrc .u64 a 52) 2047)=2047)) && (!(decide ((wand .u64 a 4503599627370495)=0))))=true then
    some 3
  else
    if (wand .u64 (wsrc .u64 a 52) 2047)=2047 then
      some 2
    else
      if ((decide ((wand .u64 (wsrc .u64 a 52) 2047)=0)) && (decide ((wand .u64 a 4503599627370495)=0)))=true then
        some 0
      else
        some 1
end M
