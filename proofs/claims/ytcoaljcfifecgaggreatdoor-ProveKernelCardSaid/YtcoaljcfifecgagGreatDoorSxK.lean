/- An append of one part of a row to an earlier part of it. It holds over any program. -/
import Derived.Test.YtcoaljcfifecgagGreatDoorSxJ
import Derived.Lib.SlicesCompact
import Derived.Lib.TrailingZeros
import Derived.Lib.SliceRun
namespace Sx
open Go
section
variable {P:Program} {α β:Type} {E:Rp α} {q:α} {a:Act} {w0 w:World} {ros:List Fact} {rs:List Res} {d:Option Tmp} {t:TypeId} {p:String} {af:Array Edge} {g:Option (Nat×Bool)} {x y:Operand} {T U e:TypeId} {h:Hdr} {l:List α}
theorem yenil (hS:SlT P T e E q) (hx:a.eval x=h.v) (hy:a.eval y=hnil.v):Yi P a w ⟨d,.binOp .eql T x y U,t,p,af,g⟩ (.bool h.a.isNone):=by
  have:=Go.Lib.run_eql_slice_nil (P:=P) w T e h.a h.n h.c 0 0 hS.und
  simp [Yi,execOp,hx,hy,eqGuard,Hdr.v,hnil,this]
theorem nilS (h:Hdr):h.a.isNone=true∨h.a.isNone=false:=by cases h.a<;>simp
theorem nilE (hn:h.a.isNone=true) (hm:imm E h.v l∈ros) (hst:St w0 ros rs w):l=[]:=by
  obtain ⟨X,hX⟩:=hst
  obtain ⟨⟨b,cap,hv,hc,_,hx⟩,_⟩:=hX.ro _ hm
  cases l with
  | nil=>rfl
  | cons z l=>
    obtain ⟨hb,_⟩:=hx 0 z rfl
    have h1:h.a=b:=by injection hv
    rw [h1,hb] at hn
    cases hn
theorem nilM {f:List α→Option β} {r:Option β} (h:(app [] []).bind f=r):f []=r:=by
  have:app ([]:List α) []=some []:=by unfold app BIG; simp
  rw [this] at h
  exact h
end
def tz32 (x:Int):Option Int:=if 0≤x∧x < 4294967296 then some (Go.Lib.ctz 32 x.toNat:Int) else none
theorem bp0 {a:Act}:((#[]:Array (Nat×Operand)).map fun (i,x)=>(i,a.eval x))=([]:List (Nat×Value)).toArray:=by simp
end Sx
