/- Models of functions of the program, printed. -/
import Derived.Test.YtcoaljcfifecgaeGreatDoorM11
namespace M
open Sx
set_option linter.unusedVariables false
def m_jd (a:Bool) (b:LI) (c:Bool) (d:LI):Option (Bool):=
  (if (a == c)=true then
    (m_jc b d).bind fun e=>
    some e
  else
    some false).bind fun f=>
  some f
def m_je:Option (Bool):=
  (m_bz 2 0).bind fun b=>
  (m_bz 4 0).bind fun d=>
  (m_hm 2 2 [0,2,4] [0,1,0,1] [4607182418800017408,b,b,d]).bind fun a=>
  (m_ja 2 2 [0,2,4] [0,1,0,1] [4607182418800017408,b,b,d]).bind fun c=>
  (if a.2.2.2.2.2=0 then
    some (decide (c.2.2=0))
  else
    some false).bind fun g=>
  (if g=true then
    some c.2.1
  else
    some false).bind fun h=>
  (if h=true then
    some (decide (a.1=1))
  else
    some false).bind fun i=>
  (if i=true then
    some (decide (a.2.1=2147483647))
  else
    some false).bind fun j=>
  (if j=true then
    some (decide ((a.2.2.2.2.1.length:Int)=1))
  else
    some false).bind fun k=>
  (if k=true then
    some (decide ((c.1.length:Int)=2))
  else
    some false).bind fun l=>
  (if l=true then
    (getI c.1 0).bind fun e=>
    (m_j (-2)).bind fun f=>
    (m_jd e.1 e.2 f.1 f.2).bind fun m=>
    some m
  else
    some false).bind fun n=>
  (if n=true then
    (m_i9 2 2 [0,2,4] [0,1,0,1] [4607182418800017408,b,b,d] a.1 a.2.1 a.2.2.1 a.2.2.2.1 a.2.2.2.2.1).bind fun o=>
    some o
  else
    some false).bind fun p=>
  some p
def m_jf (a:Int×Int×LI×LI×(List (List (Bool×LI)))×Int) (b:Int×Int×LI×LI×LI) (c:Int):Option (Bool):=
  (if a.1=c then
    (m_i9 b.1 b.2.1 b.2.2.1 b.2.2.2.1 b.2.2.2.2 a.1 a.2.1 a.2.2.1 a.2.2.2.1 a.2.2.2.2.1).bind fun d=>
    some d
  else
    some false).bind fun e=>
  (if e=true then
    (m_je).bind fun f=>
    some f
  else
    some false).bind fun g=>
  some g
def m_jg (c:LI) (d:Int) (e:Int) (f:Int) (g:Bool):Option (Bool):=
  (m_co c d e f g).bind fun a=>
  (m_hm a.1 a.2.1 a.2.2.1 a.2.2.2.1 a.2.2.2.2).bind fun b=>
  if b.2.2.2.2.2=0 then
    (m_hz a.1 a.2.1 a.2.2.1 a.2.2.2.1 a.2.2.2.2).bind fun h=>
    if ((decide ((0:Int) < a.1)) && (decide ((0:Int) < a.2.1)))=true then
      (m_ix h.1).bind fun i=>
      m_jf b a i
    else
      m_jf b a 0
  else
    (if b.2.2.2.2.2=420 then
      (m_je).bind fun j=>
      some j
    else
      some false).bind fun k=>
    some k
end M
