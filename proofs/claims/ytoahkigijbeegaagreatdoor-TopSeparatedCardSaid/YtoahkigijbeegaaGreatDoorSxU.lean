/- Strings as elements and values: they are told by their bytes. -/
import Derived.Test.YtoahkigijbeegaaGreatDoorSxO
import Derived.Laws.Strings
import Derived.Scope
namespace Sx
open Go
section
variable {P:Program} {a:Act} {w w0:World} {d:Option Tmp} {T U t:TypeId} {p:String} {af:Array Edge} {g:Option (Nat×Bool)} {mu:List Fact} {rs:List Res} {x y:Operand} {v:Value} {i:Int}
end
def mkLc {β:Type} (z:β) (n c:Int):Option (List β):=if 0≤n∧n≤c∧c≤BIG then some (List.replicate n.toNat z) else none
section
variable {α:Type} {P:Program} {a:Act} {w w0:World} {d:Option Tmp} {T e t:TypeId} {p:String} {af:Array Edge} {g:Option (Nat×Bool)} {mu:List Fact} {rs:List Res} {x y:Operand} {E:Rp α} {q:α} {l:List α}
theorem rMkc {n c:Int} {ik ik2:IntKind} (nu:St w0 mu rs w) (hS:SlT P T e E q) (hx:a.eval x=.int ik n) (hy:a.eval y=.int ik2 c) (hk:mkLc q n c=some l):
  ∃ (h:Hdr) (w':World),(execOp a.eval ⟨d,.makeSlice T x y,t,p,af,g⟩).run P w=.ok (.value h.v) w'∧St w0 mu (row e E h.v l::rs) w':=by
 obtain ⟨ti,zv,hi,Mu,IG,hz,sE⟩:=hS.inf
 unfold mkLc BIG at hk
 split at hk
 ·rename_i hb
  obtain rfl:=P1 hk
  obtain ⟨k,rfl⟩:=D3 hb.1
  obtain ⟨kc,rfl⟩:=D3 (show 0≤c by omega)
  have jM:k≤kc:=n0
  have eP:kc≤1099511627776:=n0
  have Gu:(ti.bytes:Int)*(kc:Int)≤281474976710656:=by
   have h2:((ti.bytes*kc:Nat):Int)≤((256*1099511627776:Nat):Int):=by
    have:ti.bytes*kc≤256*1099511627776:=F5 n0 n0
    omega
   rw [cd] at h2
   omega
  have hr:=run_make (P:=P) w T e ti zv hS.und hi hz ik ik2 (k:Int) (kc:Int) n0 n0 Gu n0
  have Ev:kc≤maxLen:=by simp only [maxLen]; omega
  simp only [H1] at hr
  have TF:=sE w fun _=>True
  let cc:CS E.s:=⟨zv.cells.toList,E.len TF,E.one TF⟩
  refine ⟨⟨some ⟨w.heap.size,0,none⟩,k,kc⟩,_,?_,nu.new (r1:=row e E _ _) (Chg.alloc _ _ (.cells (madeCells zv.cells (kc*ti.size)) e)) fun X _ _=>⟨fun b=>b=w.heap.size,?_,fun b hb=>n0⟩⟩
  ·simp [execOp,hx,hy,hr,Hdr.v]
  ·refine ⟨by simp; omega,List.replicate k cc,All2.rep k (sE _ X),?_,fun b=>by simp [Value.ownBlock,Hdr.v]; exact eq_comm⟩
   have hm:=jh (c:=cc) (zv:=zv) E.pos (by simp [cc]) kc
   rw [Mu]
   have key:(w.alloc (.cells (madeCells zv.cells (kc*E.s)) e)).ownsRow 0 e E.s (.slice (some ⟨w.heap.size,0,none⟩) k kc) k (cellsOf (List.replicate k cc)):=by
    refine ⟨by rw [K4]; simp,.inr ⟨w.heap.size,kc,madeCells zv.cells (kc*E.s),rfl,n8 _,heap_alloc_new w _,jM,Ev,by rw [size_madeCells],?_⟩⟩
    have eE:List.replicate kc cc=List.replicate k cc++List.replicate (kc - k) cc:=by rw [jj,jt jM]
    rw [hm,eE,s9,Kc]
    rw [K4]
    simp
   simpa [Hdr.v] using key
 ·cases hk
end
section
variable {α:Type} {P:Program} {a:Act} {w w0 w':World} {mu MF:List Fact} {rs:List Res} {T U To e:TypeId} {E:Rp α} {b:Nat} {vals ru:List Value} {d:Option Tmp} {t:TypeId} {p:String} {af:Array Edge} {g:Option (Nat×Bool)} {x:Operand} {h q:Hdr} {hs:List Hdr} {ls m:List (List α)} {lo hi:Int}
end
section
variable {α:Type} {w w0 w':World} {mu MF:List Fact} {rs:List Res} {T:TypeId} {E:Rp α} {hs dH sP:List Hdr} {ls z1 z2:List (List α)} {l l' l2:List α} {h h2 hA hT:Hdr} {rA rT:List α} {v:Value} {i j:Int} {u:Unit} {q:Fact}
end
section
variable {α:Type} {w w0 w':World} {mu MF:List Fact} {rs:List Res} {T To:TypeId} {hs:List Hdr} {ls:List (List α)} {v:Value}
end
def getW {α:Type} (l:List α) (lo hi i:Int):Option α:=if 0≤lo∧0≤i∧i < hi - lo∧hi≤l.length then getI l (lo+i) else none
def setW {α:Type} (l:List α) (lo hi i:Int) (z:α):Option (List α):=if 0≤lo∧0≤i∧i < hi - lo∧hi≤l.length then setI l (lo+i) z else none
theorem X9 {α:Type} {l:List α} {lo hi i:Int} {z:α} (h:getW l lo hi i=some z):getI l (lo+i)=some z:=by
 unfold getW at h; split at h
 ·exact h
 ·cases h
theorem te {α:Type} {l m:List α} {lo hi i:Int} {z:α} (h:setW l lo hi i z=some m):setI l (lo+i) z=some m:=by
 unfold setW at h; split at h
 ·exact h
 ·cases h
section
variable {α:Type} {P:Program} {a:Act} {w w0:World} {d:Option Tmp} {T e t:TypeId} {p:String} {af:Array Edge} {g:Option (Nat×Bool)} {mu:List Fact} {rs:List Res} {x y:Operand} {E:Rp α} {q z:α} {l m:List α} {h:Hdr} {lo hi i:Int}
theorem AB {X:Nat→Prop} (hs:Sees w X E h.v l) (h0:0≤lo) (h1:0≤i) (h2:i < hi - lo) (h3:hi≤l.length):eAddr (subH h E.s lo hi).v E.s i=eAddr h.v E.s (lo+i):=by
 obtain ⟨b,cap,hv,hc,hm,hx⟩:=hs
 obtain ⟨BE,bG,Hu⟩:h.a=b∧h.n=l.length∧h.c=cap:=by simpa [Hdr.v] using hv
 have Bu:¬ cap=lo.toNat:=n0
 obtain ⟨ha,_⟩:=hx 0 (l[0]'(n0)) (J2 n0)
 have EE:sAddr (subH h E.s lo hi).v=(sAddr h.v).add (lo.toNat*E.s):=by
  have e:h.a=some (sAddr h.v):=BE.trans ha
  have:(subH h E.s lo hi).a=some ((sAddr h.v).add (lo.toNat*E.s)):=by
   show (if h.c=lo.toNat then h.a else h.a.map _)=_
   rw [J0 (by rw [Hu]; exact Bu),e]; rfl
  show sAddr (.slice (subH h E.s lo hi).a _ _)=_
  rw [this]; rfl
 unfold eAddr
 rw [EE,Ec,show (lo+i).toNat=lo.toNat+i.toNat by omega,S5]
theorem Wj {ik:IntKind} (hS:SlT P T e E q) (hx:a.eval x=(subH h E.s lo hi).v) (hy:a.eval y=.int ik i) (nu:St w0 mu rs w) (hr:Rd mu rs E h.v l) (h0:0≤lo) (h1:0≤i) (h2:i < hi - lo) (h3:hi≤l.length):Yi P a w ⟨d,.indexAddr T x y,t,p,af,g⟩ (eAddr h.v E.s (lo+i)):=by
 obtain ⟨X,_,hs⟩:=hr.sees nu
 rw [← AB hs h0 h1 h2 h3]
 have hl:=kh (l:=l) h0 (show lo≤hi by omega) h3
 exact fg hS hx hy (qh hs h0 n0 h3) h1 (by rw [hl]; omega)
theorem K9 {ik:IntKind} (hS:SlT P T e E q) (hx:a.eval x=(subH h E.s lo hi).v) (hy:a.eval y=.int ik i) (nu:St w0 mu rs w) (hr:Rd mu rs E h.v l) (hz:getW l lo hi i=some z):Yi P a w ⟨d,.indexAddr T x y,t,p,af,g⟩ (eAddr h.v E.s (lo+i)):=by
 unfold getW at hz; split at hz
 ·rename_i hc; exact Wj hS hx hy nu hr hc.1 hc.2.1 hc.2.2.1 hc.2.2.2
 ·cases hz
theorem Ed {ik:IntKind} (hS:SlT P T e E q) (hx:a.eval x=(subH h E.s lo hi).v) (hy:a.eval y=.int ik i) (nu:St w0 mu rs w) (hr:Rd mu rs E h.v l) (hz:setW l lo hi i z=some m):Yi P a w ⟨d,.indexAddr T x y,t,p,af,g⟩ (eAddr h.v E.s (lo+i)):=by
 unfold setW at hz; split at hz
 ·rename_i hc; exact Wj hS hx hy nu hr hc.1 hc.2.1 hc.2.2.1 hc.2.2.2
 ·cases hz
end
section
variable {α:Type} {w w0:World} {mu:List Fact} {rs:List Res} {T:TypeId} {E:Rp α} {hs:List Hdr} {ls ls':List (List α)} {l l' m:List α} {h h':Hdr} {i j:Int} {u:Unit}
theorem St.unfoc0 (h1:getI hs i=some h) (h2:getI ls i=some l) (nu:St w0 mu (row T E h.v l::famx T E i.toNat hs ls::rs) w):St w0 mu (fam T E hs ls::rs) w:=by
 have:=St.unfoc h1 h2 nu
 rwa [se (X5 h1),se (X5 h2)] at this
end
def ng:Exit→Bool | .goto _=>false | _=>true
theorem Ww {P:Program} {Q:Exit→Act→World→Prop} {a:Act} {w:World} {c:Code} (h:∀ Q':Exit→Act→World→Prop,(∀ e a w,ng e=true→Q e a w→Q' e a w)→c.wp P Q' a w):(Code.scope c).wp P Q a w:=
 wp_scope_straight (h _ fun e a w he hq=>by cases e<;>first | (simp [ng] at he; done) | exact hq)
section
variable {P:Program} {a:Act} {w w0:World} {d:Option Tmp} {T t:TypeId} {p:String} {af:Array Edge} {g:Option (Nat×Bool)} {x:Operand} {v:Value} {i:Int} {mu:List Fact} {rs:List Res}
end
section
variable {P:Program} {w:World} {fn:Func} {R:Ending→World→Prop} {n:Nat} {f:Nat→Value}
end
section
variable {α:Type} {w0 w:World} {mu:List Fact} {rs:List Res} {r:Res} {T:TypeId} {E:Rp α} {v:Value} {l:List α} {ls:List (List α)} {hs:List Hdr} {h:Hdr} {z:α} {i k:Int} {s:Nat} {cs:List Value}
end
end Sx
