/- An append of one part of a row to an earlier part of it. It holds over any program. -/
import Derived.Test.YtpfmbaidflhamaaDoorSxJ
import Derived.Lib.SlicesCompact
import Derived.Lib.TrailingZeros
import Derived.Lib.SliceRun
namespace Sx
open Go
theorem rAp2 {α:Type} {E:Rp α} {q:α} {P:Program} {a:Act} {w w0:World} {ros:List Fact} {rs:List Res} {d:Option Tmp} {t:TypeId} {p:String} {af:Array Edge} {g:Option (Nat×Bool)} {x y:Operand} {T e:TypeId} {h:Hdr} {l l1 l2 k:List α} {hi1 lo hi:Int}
    (hst:St w0 ros (row e E h.v l::rs) w) (hS:SlT P T e E q) (hx:a.eval x=(subH h E.s 0 hi1).v) (hy:a.eval y=(subH h E.s lo hi).v) (g1:sli l 0 hi1=some l1) (g2:sli l lo hi=some l2) (hk:app l1 l2=some k):
    ∃ (h':Hdr) (w':World),(execOp a.eval ⟨d,.call ⟨.builtin .append,#[x,y],#[T,T]⟩,t,p,af,g⟩).run P w=.ok (.value h'.v) w'∧St w0 ros (row e E h'.v k::rs) w':=by
  obtain ⟨X,hX⟩:=hst
  have hsee:Sees w X E h.v l:=by
    obtain ⟨F,hr,_⟩:=hX.own
    exact row_sees hr
  have hX':StX w0 X ros (row e E (subH h E.s 0 hi1).v l1::rs) w:=hX.upd fun F hF _=>⟨F,fun _=>row_cut g1 X F hF,fun _ hb=>.inl hb,Chg.refl _ _⟩
  obtain ⟨rfl,h0,h1,h2⟩:=sli_some g2
  obtain ⟨v',w',k1,k2⟩:=r_appX (d:=d) (t:=t) (p:=p) (af:=af) (g:=g) hX' hS hx hy (sees_sub hsee h0 h1 h2) hk
  obtain ⟨h',rfl⟩:=(rdO (.head _):Rd ros (row e E v' k::rs) E v' k).hdr k2
  exact ⟨h',w',k1,k2⟩
section
variable {P:Program} {α β:Type} {E:Rp α} {q:α} {a:Act} {w0 w:World} {ros:List Fact} {rs:List Res} {d:Option Tmp} {t:TypeId} {p:String} {af:Array Edge} {g:Option (Nat×Bool)} {x y:Operand} {T U e:TypeId} {h:Hdr} {l:List α}
theorem yenil (hS:SlT P T e E q) (hx:a.eval x=h.v) (hy:a.eval y=hnil.v):Yi P a w ⟨d,.binOp .eql T x y U,t,p,af,g⟩ (.bool h.a.isNone):=by
  have:=Go.Lib.run_eql_slice_nil (P:=P) w T e h.a h.n h.c 0 0 hS.und
  simp [Yi,execOp,hx,hy,eqGuard,Hdr.v,hnil,this]
theorem nilS (h:Hdr):h.a.isNone=true∨h.a.isNone=false:=by cases h.a<;>simp
theorem nilE (hn:h.a.isNone=true) (hm:imm E h.v l∈ros) (hst:St w0 ros rs w):l=[]:=by
  obtain ⟨X,hX⟩:=hst
  obtain ⟨⟨b,cap,hv,hc,_,hx⟩,_⟩:=hX.ro _ hm
  cases l with
  | nil=>rfl
  | cons z l=>
    obtain ⟨hb,_⟩:=hx 0 z rfl
    have h1:h.a=b:=by injection hv
    rw [h1,hb] at hn
    cases hn
theorem nilM {f:List α→Option β} {r:Option β} (h:(app [] []).bind f=r):f []=r:=by
  have:app ([]:List α) []=some []:=by unfold app BIG; simp
  rw [this] at h
  exact h
end
theorem bp0 {a:Act}:((#[]:Array (Nat×Operand)).map fun (i,x)=>(i,a.eval x))=([]:List (Nat×Value)).toArray:=by simp
end Sx
