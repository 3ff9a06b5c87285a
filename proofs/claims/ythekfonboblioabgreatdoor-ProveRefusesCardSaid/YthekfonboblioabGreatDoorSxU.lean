/- Strings as elements and values: they are told by their bytes. -/
import Derived.Test.YthekfonboblioabGreatDoorSxO
import Derived.Laws.Strings
import Derived.Scope
namespace Sx
open Go
section
variable {P:Program} {a:Act} {w w0:World} {d:Option Tmp} {T U t:TypeId} {p:String} {af:Array Edge} {g:Option (Nat×Bool)} {ax:List Fact} {rs:List Res} {x y:Operand} {v:Value} {i:Int}
end
def mkLc {β:Type} (z:β) (n c:Int):Option (List β):=if 0≤n∧n≤c∧c≤BIG then some (List.replicate n.toNat z) else none
section
variable {α:Type} {P:Program} {a:Act} {w w0:World} {d:Option Tmp} {T e t:TypeId} {p:String} {af:Array Edge} {g:Option (Nat×Bool)} {ax:List Fact} {rs:List Res} {x y:Operand} {E:Rp α} {q:α} {l:List α}
theorem rMkc {n c:Int} {ik ik2:IntKind} (cx:St w0 ax rs w) (hS:SlT P T e E q) (hx:a.eval x=.int ik n) (hy:a.eval y=.int ik2 c) (hk:mkLc q n c=some l):
  ∃ (h:Hdr) (w':World),(execOp a.eval ⟨d,.makeSlice T x y,t,p,af,g⟩).run P w=.ok (.value h.v) w'∧St w0 ax (row e E h.v l::rs) w':=by
 obtain ⟨ti,zv,hi,CC,IL,hz,iJ⟩:=hS.inf
 unfold mkLc BIG at hk
 split at hk
 ·rename_i hb
  obtain rfl:=N2 hk
  obtain ⟨k,rfl⟩:=W4 hb.1
  obtain ⟨kc,rfl⟩:=W4 (show 0≤c by omega)
  have tO:k≤kc:=A0
  have gT:kc≤1099511627776:=A0
  have Yz:(ti.bytes:Int)*(kc:Int)≤281474976710656:=by
   have h2:((ti.bytes*kc:Nat):Int)≤((256*1099511627776:Nat):Int):=by
    have:ti.bytes*kc≤256*1099511627776:=S9 A0 A0
    omega
   rw [Uv] at h2
   omega
  have hr:=run_make (P:=P) w T e ti zv hS.und hi hz ik ik2 (k:Int) (kc:Int) A0 A0 Yz A0
  have sI:kc≤maxLen:=by simp only [maxLen]; omega
  simp only [Z0] at hr
  have QL:=iJ w fun _=>True
  let cc:CS E.s:=⟨zv.cells.toList,E.len QL,E.one QL⟩
  refine ⟨⟨some ⟨w.heap.size,0,none⟩,k,kc⟩,_,?_,cx.new (r1:=row e E _ _) (Chg.alloc _ _ (.cells (madeCells zv.cells (kc*ti.size)) e)) fun X _ _=>⟨fun b=>b=w.heap.size,?_,fun b hb=>A0⟩⟩
  ·simp [execOp,hx,hy,hr,Hdr.v]
  ·refine ⟨by simp; omega,List.replicate k cc,All2.rep k (iJ _ X),?_,fun b=>by simp [Value.ownBlock,Hdr.v]; exact eq_comm⟩
   have hm:=Lq (c:=cc) (zv:=zv) E.pos (by simp [cc]) kc
   rw [CC]
   have key:(w.alloc (.cells (madeCells zv.cells (kc*E.s)) e)).ownsRow 0 e E.s (.slice (some ⟨w.heap.size,0,none⟩) k kc) k (cellsOf (List.replicate k cc)):=by
    refine ⟨by rw [S4]; simp,.inr ⟨w.heap.size,kc,madeCells zv.cells (kc*E.s),rfl,P9 _,heap_alloc_new w _,tO,sI,by rw [size_madeCells],?_⟩⟩
    have dC:List.replicate kc cc=List.replicate k cc++List.replicate (kc - k) cc:=by rw [List.replicate_append_replicate,Nat.add_sub_cancel' tO]
    rw [hm,dC,Cb,xv]
    rw [S4]
    simp
   simpa [Hdr.v] using key
 ·cases hk
end
section
variable {α:Type} {P:Program} {a:Act} {w w0 w':World} {ax qH:List Fact} {rs:List Res} {T U To e:TypeId} {E:Rp α} {b:Nat} {vals dx:List Value} {d:Option Tmp} {t:TypeId} {p:String} {af:Array Edge} {g:Option (Nat×Bool)} {x:Operand} {h q:Hdr} {hs:List Hdr} {ls m:List (List α)} {lo hi:Int}
theorem ySlF {lo' RA:Option Operand} {k1 k2:IntKind} (hS:SlT P U e rH q) (hx:a.eval x=h.v) (cx:St w0 ax rs w) (hr:Rd ax rs rH h.v hs) (hf:fam T E hs ls∈rs) (Xz:lo'.map a.eval=some (.int k1 lo)∨(lo'=none∧lo=0)) (vG:RA.map a.eval=some (.int k2 hi)∨(RA=none∧hi=ls.length)) (hm:sli ls lo hi=some m):
  Yi P a w ⟨d,.slice U x lo' RA none,t,p,af,g⟩ (subH h 1 lo hi).v:=by
 have hl:=cx.famL hf
 obtain ⟨_,h0,h1,h2⟩:=dg hm
 have OH:sli hs lo hi=some (subL hs lo hi):=by unfold sli; rw [M0 ⟨h0,h1,by rw [hl]; exact h2⟩]
 rw [← hl] at vG
 exact ySl hS hx cx hr Xz vG OH
def wE (w:World):World:={w with heap:=#[] }
def frz (b:Nat) (w:World):Fact where
 h:=fun w' X=>∀ c,c < w.heap.size→c≠b→X c∧w'.heap[c]?=w.heap[c]?
 mono:=fun h hX hs c h1 h2=>⟨hs c (h c h1 h2).1,(hX c (h c h1 h2).1).trans (h c h1 h2).2⟩
theorem St.guestB (cx:St w0 ax (box b T vals::rs) w):St (wE w) (frz b w::ax) [box b T vals] w:=by
 obtain ⟨X,hX⟩:=cx
 obtain ⟨F,⟨hF,OI⟩,hd,_⟩:=hX.own
 refine ⟨fun c=>c < w.heap.size∧c≠b,⟨rfl,rfl,rfl,P9 _,fun c hc=>absurd hc (Dl c)⟩,fun c hc=>absurd hc (Dl c),fun c hc=>hc.1,fun r hr=>?_,F,⟨hF,OI⟩,fun c hc hx=>hx.2 ((OI c).1 hc),trivial⟩
 rcases U3.1 hr with rfl | hr
 ·exact fun c h1 h2=>⟨⟨h1,h2⟩,rfl⟩
 ·exact r.mono (hX.ro r hr) (Same.refl _ _) fun c hc=>⟨hX.xlt c hc,fun e=>hd c ((OI c).2 e) hc⟩
theorem St.backB (cx:St w0 ax (box b T vals::rs) w) (h1:St (wE w) (frz b w::qH) [box b T dx] w'):St w0 ax (box b T dx::rs) w':=by
 obtain ⟨Y,hY⟩:=h1
 obtain ⟨F,⟨hF,OI⟩,_,_⟩:=hY.own
 have hz:=hY.ro _ (.head _)
 refine cx.upd fun X G _ hG=>⟨G,fun _=>⟨hF,hG.2⟩,fun _ h=>.inl h,hY.ext.os,hY.ext.tape,hY.ext.output,?_,fun c hc hn=>(hz c hc fun e=>hn ((hG.2 c).2 e)).2⟩
 have QK:b < w'.heap.size:=(Uh.1 hF).1
 rcases Pa w'.heap.size w.heap.size with hlt | tx
 ·by_cases hb:w.heap.size - 1=b
  ·omega
  ·have:=(hz (w.heap.size - 1) A0 hb).2
   have h3:(w.heap.size - 1) < w'.heap.size:=by
    have h4:w.heap[w.heap.size - 1]?=some (w.heap[w.heap.size - 1]'(A0)):=by simp
    rw [h4] at this
    exact (Uh.1 this).1
   omega
 ·exact tx
end
def neI (i j:Int):Option Unit:=if i=j then none else some ()
theorem Pj {i j:Int} {u:Unit} (h:neI i j=some u):i≠j:=by
 unfold neI at h
 split at h
 ·cases h
 ·assumption
section
variable {α:Type} {w w0 w':World} {ax qH:List Fact} {rs:List Res} {T:TypeId} {E:Rp α} {hs gH bM:List Hdr} {ls z1 z2:List (List α)} {l l' l2:List α} {h h2 hA hT:Hdr} {rA rT:List α} {v:Value} {i j:Int} {u:Unit} {q:Fact}
def frzR (v:Value) (w:World):Fact where
 h:=fun w' X=>∀ c,c < w.heap.size→v.ownBlock≠some c→X c∧w'.heap[c]?=w.heap[c]?
 mono:=fun h hX hs c h1 h2=>⟨hs c (h c h1 h2).1,(hX c (h c h1 h2).1).trans (h c h1 h2).2⟩
theorem St.guestX (kx:neI i j=some u) (h0:getI hs i=some h) (h1:getI hs j=some h2) (h3:getI ls j=some l2) (cx:St w0 ax (row T E v l::famx T E i.toNat hs ls::rs) w):St (wE w) (imm E h2.v l2::frzR v w::ax) [row T E v l] w:=by
 obtain ⟨X,hX⟩:=cx
 obtain ⟨F,hF,hd,F2,qK,CM,_⟩:=hX.own
 have PG:i.toNat≠j.toNat:=by
  obtain ⟨a1,_,_⟩:=E8 h0
  obtain ⟨a2,_,_⟩:=E8 h1
  have:=Pj kx
  omega
 obtain ⟨k,hk⟩:∃ k,((zrow T E hs ls).eraseIdx i.toNat)[k]?=some (row T E h2.v l2):=by
  have hz:=Qb (T:=T) (E:=E) (O5 h1) (O5 h3)
  rcases Pa j.toNat i.toNat with hlt | tx
  ·exact ⟨j.toNat,by rw [GF,M0 hlt]; exact hz⟩
  ·exact ⟨j.toNat - 1,by rw [GF,B0,show j.toNat - 1+1=j.toNat by omega]; exact hz⟩
 obtain ⟨G,hG,hg⟩:=Ke qK.2 hk
 have OI:=hF.2.choose_spec.2.2
 have WK:∀ c,X c→c < w.heap.size∧v.ownBlock≠some c:=fun c hc=>⟨hX.xlt c hc,fun e=>hd c ((OI c).2 e) hc⟩
 refine ⟨fun c=>c < w.heap.size∧v.ownBlock≠some c,⟨rfl,rfl,rfl,P9 _,fun c hc=>absurd hc (Dl c)⟩,fun c hc=>absurd hc (Dl c),fun c hc=>hc.1,fun r hr=>?_,F,(row T E v l).loc hF (Same.refl _ _) WK (Same.refl _ _),fun c hc hx=>hx.2 ((OI c).1 hc),trivial⟩
 rcases U3.1 hr with rfl | hr
 ·refine (pg X G hg).mono (Same.refl _ _) fun c hc=>?_
  rcases hc with hc | hc
  ·exact WK c hc
  ·exact ⟨(row T E h2.v l2).lt hg hc,fun e=>CM c (hG c hc) (.inr ((OI c).2 e))⟩
 ·rcases U3.1 hr with rfl | hr
  ·exact fun c h1 h2=>⟨⟨h1,h2⟩,rfl⟩
  ·exact r.mono (hX.ro r hr) (Same.refl _ _) WK
theorem St.backR {s:Nat} {e':α→List Value} {hp:0 < s} {hl:∀ x,(e' x).length=s} {ho:∀ x v,v∈e' x→v.oneCell'=true} (cx:St w0 ax (row T (rF s e' hp hl ho) v l::rs) w) (h1:St (wE w) (q::frzR v w::qH) [row T (rF s e' hp hl ho) v l'] w'):St w0 ax (row T (rF s e' hp hl ho) v l'::rs) w':=by
 obtain ⟨Y,hY⟩:=h1
 obtain ⟨F',aH,_,_⟩:=hY.own
 have hlt:∀ c,F' c→c < w'.heap.size:=fun c hc=>(row T (rF s e' hp hl ho) v l').lt aH hc
 obtain ⟨hm,cs,ha,hr,he⟩:=aH
 have hz:=hY.ro _ (.tail _ (.head _))
 refine cx.upd fun X F _ hF=>?_
 obtain ⟨_,_,_,_,GO⟩:=hF
 refine ⟨F,fun _=>⟨hm,cs,⟨ha.1,fun i c x hc hx=>ha.2 i c x hc hx⟩,hr,GO⟩,fun _ h=>.inl h,hY.ext.os,hY.ext.tape,hY.ext.output,?_,fun c hc hn=>(hz c hc fun e=>hn ((GO c).2 e)).2⟩
 rcases Pa w'.heap.size w.heap.size with TI | tx
 ·exfalso
  by_cases hb:v.ownBlock=some (w.heap.size - 1)
  ·have:=hlt _ ((he _).2 hb); omega
  ·have:=(hz (w.heap.size - 1) A0 hb).2
   have h4:w.heap[w.heap.size - 1]?=some (w.heap[w.heap.size - 1]'(A0)):=by simp
   rw [h4] at this
   have:=(Uh.1 this).1
   omega
 ·exact tx
theorem Rf {γ:Type} {x:List α} {y:γ} {hs gH:List γ} (h1:setI ls j x=some z1) (h2:setI hs j y=some gH) (hl:hs.length=ls.length):gH.length=z1.length:=by
 obtain ⟨_,_,rfl⟩:=H7 h1
 obtain ⟨_,_,rfl⟩:=H7 h2
 simpa using hl
theorem Cd {γ:Type} {l:List γ} {j:Int} {x:γ} (h0:0≤j) (h:l[j.toNat]?=some x):getI l j=some x:=by
 cases j with
 | ofNat k=>exact h
 | negSucc k=>simp at h0
theorem Xc {γ:Type} {l:List γ} {j:Int} {x:γ} (h0:0≤j) (h:j < l.length):setI l j x=some (l.set j.toNat x):=by
 cases j with
 | ofNat k=>
  have h':k < l.length:=by simpa using h
  simp only [setI]
  rw [M0 h']
  rfl
 | negSucc k=>simp at h0
theorem yr {γ:Type} {l:List γ} {a t:Nat} {x y z:γ} (h:a≠t):((l.set a x).set t y).set a z=(l.set t y).set a z:=by
 apply Da
 intro k
 simp only [Ih,N3]
 split
 ·rfl
 ·split
  ·rfl
  ·rfl
theorem St.fswap (a1:getI hs i=some hA) (a2:getI ls i=some rA) (t1:getI hs j=some hT) (t2:getI ls j=some rT) (s1:setI hs j hA=some gH) (s2:setI ls j rA=some z1) (s3:setI gH i hT=some bM) (s4:setI z1 i rT=some z2) (cx:St w0 ax (fam T E hs ls::rs) w):St w0 ax (fam T E bM z2::rs) w:=by
 obtain ⟨b1,b2,rfl⟩:=H7 s1
 obtain ⟨_,b3,rfl⟩:=H7 s2
 obtain ⟨b4,b5,rfl⟩:=H7 s3
 obtain ⟨_,b6,rfl⟩:=H7 s4
 have ea1:=O5 a1
 have ea2:=O5 a2
 have et1:=O5 t1
 have et2:=O5 t2
 rw [N3] at b5 b6
 by_cases PG:i=j
 ·subst PG
  obtain rfl:hA=hT:=N2 (a1.symm.trans t1)
  obtain rfl:rA=rT:=N2 (a2.symm.trans t2)
  rw [set_self ea1,set_self ea2,set_self ea1,set_self ea2]
  exact cx
 ·have kx:i.toNat≠j.toNat:=A0
  have h5:=(cx.foc a1 a2).rowNh T E
  have h6:St w0 ax (row T E hnil.v ([]:List α)::famx T E i.toNat hs ls::row T E hA.v rA::rs) w:=h5.pk 3 [0,1,0] rfl
  have h7:=h6.unfoc a1 a2
  have g1:getI (hs.set i.toNat hnil) j=some hT:=Cd b1 (by rw [A6 kx]; exact et1)
  have g2:getI (ls.set i.toNat []) j=some rT:=Cd b1 (by rw [A6 kx]; exact et2)
  have h8:=h7.foc g1 g2
  have h9:St w0 ax (row T E hA.v rA::famx T E j.toNat (hs.set i.toNat hnil) (ls.set i.toNat [])::row T E hT.v rT::rs) w:=h8.pk 3 [2,1,0] rfl
  have WN:=h9.unfoc g1 g2
  have YS:St w0 ax (row T E hT.v rT::fam T E ((hs.set i.toNat hnil).set j.toNat hA) ((ls.set i.toNat []).set j.toNat rA)::rs) w:=WN.pk 2 [1,0] rfl
  have p1:setI ((hs.set i.toNat hnil).set j.toNat hA) i hT=some ((hs.set j.toNat hA).set i.toNat hT):=by
   rw [← yr kx (x:=hnil) (y:=hA) (z:=hT)]
   exact Xc b4 (by simpa using b5)
  have p2:setI ((ls.set i.toNat []).set j.toNat rA) i rT=some ((ls.set j.toNat rA).set i.toNat rT):=by
   rw [← yr kx (x:=[]) (y:=rA) (z:=rT)]
   exact Xc b4 (by simpa using b6)
  exact YS.fput p1 p2
end
section
variable {α:Type} {w w0 w':World} {ax qH:List Fact} {rs:List Res} {T To:TypeId} {hs:List Hdr} {ls:List (List α)} {v:Value}
end
def getW {α:Type} (l:List α) (lo hi i:Int):Option α:=if 0≤lo∧0≤i∧i < hi - lo∧hi≤l.length then getI l (lo+i) else none
def setW {α:Type} (l:List α) (lo hi i:Int) (z:α):Option (List α):=if 0≤lo∧0≤i∧i < hi - lo∧hi≤l.length then setI l (lo+i) z else none
theorem qc {α:Type} {l:List α} {lo hi i:Int} {z:α} (h:getW l lo hi i=some z):getI l (lo+i)=some z:=by
 unfold getW at h; split at h
 ·exact h
 ·cases h
theorem eg {α:Type} {l m:List α} {lo hi i:Int} {z:α} (h:setW l lo hi i z=some m):setI l (lo+i) z=some m:=by
 unfold setW at h; split at h
 ·exact h
 ·cases h
section
variable {α:Type} {P:Program} {a:Act} {w w0:World} {d:Option Tmp} {T e t:TypeId} {p:String} {af:Array Edge} {g:Option (Nat×Bool)} {ax:List Fact} {rs:List Res} {x y:Operand} {E:Rp α} {q z:α} {l m:List α} {h:Hdr} {lo hi i:Int}
theorem aE {X:Nat→Prop} (hs:Sees w X E h.v l) (h0:0≤lo) (h1:0≤i) (h2:i < hi - lo) (h3:hi≤l.length):eAddr (subH h E.s lo hi).v E.s i=eAddr h.v E.s (lo+i):=by
 obtain ⟨b,cap,hv,hc,hm,hx⟩:=hs
 obtain ⟨HG,dK,TD⟩:h.a=b∧h.n=l.length∧h.c=cap:=by simpa [Hdr.v] using hv
 have kx:¬ cap=lo.toNat:=A0
 obtain ⟨ha,_⟩:=hx 0 (l[0]'(A0)) (B3 A0)
 have lI:sAddr (subH h E.s lo hi).v=(sAddr h.v).add (lo.toNat*E.s):=by
  have e:h.a=some (sAddr h.v):=HG.trans ha
  have:(subH h E.s lo hi).a=some ((sAddr h.v).add (lo.toNat*E.s)):=by
   show (if h.c=lo.toNat then h.a else h.a.map _)=_
   rw [K0 (by rw [TD]; exact kx),e]; rfl
  show sAddr (.slice (subH h E.s lo hi).a _ _)=_
  rw [this]; rfl
 unfold eAddr
 rw [lI,Kd,show (lo+i).toNat=lo.toNat+i.toNat by omega,Z8]
theorem vn {ik:IntKind} (hS:SlT P T e E q) (hx:a.eval x=(subH h E.s lo hi).v) (hy:a.eval y=.int ik i) (cx:St w0 ax rs w) (hr:Rd ax rs E h.v l) (h0:0≤lo) (h1:0≤i) (h2:i < hi - lo) (h3:hi≤l.length):Yi P a w ⟨d,.indexAddr T x y,t,p,af,g⟩ (eAddr h.v E.s (lo+i)):=by
 obtain ⟨X,_,hs⟩:=hr.sees cx
 rw [← aE hs h0 h1 h2 h3]
 have hl:=Xq (l:=l) h0 (show lo≤hi by omega) h3
 exact ai hS hx hy (zr hs h0 A0 h3) h1 (by rw [hl]; omega)
theorem Ub {ik:IntKind} (hS:SlT P T e E q) (hx:a.eval x=(subH h E.s lo hi).v) (hy:a.eval y=.int ik i) (cx:St w0 ax rs w) (hr:Rd ax rs E h.v l) (hz:getW l lo hi i=some z):Yi P a w ⟨d,.indexAddr T x y,t,p,af,g⟩ (eAddr h.v E.s (lo+i)):=by
 unfold getW at hz; split at hz
 ·rename_i hc; exact vn hS hx hy cx hr hc.1 hc.2.1 hc.2.2.1 hc.2.2.2
 ·cases hz
theorem mf {ik:IntKind} (hS:SlT P T e E q) (hx:a.eval x=(subH h E.s lo hi).v) (hy:a.eval y=.int ik i) (cx:St w0 ax rs w) (hr:Rd ax rs E h.v l) (hz:setW l lo hi i z=some m):Yi P a w ⟨d,.indexAddr T x y,t,p,af,g⟩ (eAddr h.v E.s (lo+i)):=by
 unfold setW at hz; split at hz
 ·rename_i hc; exact vn hS hx hy cx hr hc.1 hc.2.1 hc.2.2.1 hc.2.2.2
 ·cases hz
end
section
variable {α:Type} {w w0:World} {ax:List Fact} {rs:List Res} {T:TypeId} {E:Rp α} {hs:List Hdr} {ls ls':List (List α)} {l l' m:List α} {h h':Hdr} {i j:Int} {u:Unit}
theorem St.foc2 (kx:neI i j=some u) (h1:getI hs i=some h) (h2:getI ls i=some l) (k1:getI hs j=some h') (k2:getI ls j=some l') (cx:St w0 ax (fam T E hs ls::rs) w):
  St w0 ax (row T E h.v l::row T E h'.v l'::famx T E j.toNat (hs.set i.toNat hnil) (ls.set i.toNat [])::rs) w:=by
 obtain ⟨a0,_,_⟩:=E8 h1
 obtain ⟨b0,_,_⟩:=E8 k1
 have hn:i.toNat≠j.toNat:=by have:=Pj kx; omega
 have h5:=(cx.foc h1 h2).rowNh T E
 have h6:St w0 ax (row T E hnil.v ([]:List α)::famx T E i.toNat hs ls::row T E h.v l::rs) w:=h5.pk 3 [0,1,0] rfl
 have h7:=h6.unfoc h1 h2
 have g1:getI (hs.set i.toNat hnil) j=some h':=Cd b0 (by rw [A6 hn]; exact O5 k1)
 have g2:getI (ls.set i.toNat []) j=some l':=Cd b0 (by rw [A6 hn]; exact O5 k2)
 exact (h7.foc g1 g2).pk 3 [2,0,0] rfl
theorem St.unfoc2 (kx:neI i j=some u) (h1:getI hs i=some h) (k1:getI hs j=some h') (k2:getI ls j=some l') (hq:setI ls i m=some ls')
  (cx:St w0 ax (row T E h.v m::row T E h'.v l'::famx T E j.toNat (hs.set i.toNat hnil) (ls.set i.toNat [])::rs) w):St w0 ax (fam T E hs ls'::rs) w:=by
 obtain ⟨a0,a1,_⟩:=E8 h1
 obtain ⟨b0,_,_⟩:=E8 k1
 obtain ⟨c0,c1,rfl⟩:=H7 hq
 have hn:i.toNat≠j.toNat:=by have:=Pj kx; omega
 have e1:(hs.set i.toNat hnil)[j.toNat]?=some h':=by rw [A6 hn]; exact O5 k1
 have e2:(ls.set i.toNat [])[j.toNat]?=some l':=by rw [A6 hn]; exact O5 k2
 have h5:St w0 ax (row T E h'.v l'::famx T E j.toNat (hs.set i.toNat hnil) (ls.set i.toNat [])::row T E h.v m::rs) w:=cx.pk 3 [1,1,0] rfl
 have h6:=h5.unfoc (Cd b0 e1) (Cd b0 e2)
 rw [set_self e1,set_self e2] at h6
 have h7:St w0 ax (row T E h.v m::fam T E (hs.set i.toNat hnil) (ls.set i.toNat [])::rs) w:=h6.pk 2 [1,0] rfl
 have p1:setI (hs.set i.toNat hnil) i h=some hs:=by
  rw [Xc a0 (by simpa using a1),Ll,set_self (O5 h1)]
 have p2:setI (ls.set i.toNat []) i m=some (ls.set i.toNat m):=by
  rw [Xc a0 (by simpa using c1),Ll]
 exact h7.fput p1 p2
end
def ng:Exit→Bool | .goto _=>false | _=>true
theorem Rz {P:Program} {Q:Exit→Act→World→Prop} {a:Act} {w:World} {c:Code} (h:∀ Q':Exit→Act→World→Prop,(∀ e a w,ng e=true→Q e a w→Q' e a w)→c.wp P Q' a w):(Code.scope c).wp P Q a w:=
 wp_scope_straight (h _ fun e a w he hq=>by cases e<;>first | (simp [ng] at he; done) | exact hq)
structure FldV (P:Program) (T:TypeId) (i off:Nat):Prop where
 fv:∃ fs fd du,P.underlying T=some (.struct fs)∧fs[i]?=some fd∧P.underlying fd.type=some du∧nonAgg du=true∧fd.offset=off
def isFldV (P:Program) (T i off:Nat):Bool:=match P.underlying T with
 | some (.struct fs)=>match fs[i]? with
  | some fd=>match P.underlying fd.type with
   | some du=>nonAgg du && Nat.beq fd.offset off
   | none=>false
  | none=>false
 | _=>false
theorem fvOf {P:Program} {T i off:Nat} (h:isFldV P T i off=true):FldV P T i off:=by
 unfold isFldV at h
 split at h
 ·rename_i fs h1
  split at h
  ·rename_i fd h2
   split at h
   ·rename_i du h3
    simp only [w4] at h
    exact ⟨fs,fd,du,h1,h2,h3,h.1,X6 h.2⟩
   ·cases h
  ·cases h
 ·cases h
theorem yFv {P:Program} {a:Act} {w:World} {d:Option Tmp} {T t:TypeId} {p:String} {af:Array Edge} {g:Option (Nat×Bool)} {x:Operand} {u:Value} {i off:Nat} {cs:List Value} (hF:FldV P T i off) (hx:a.eval x=.agg cs.toArray) (hu:cs[off]?=some u):Yi P a w ⟨d,.field T x i,t,p,af,g⟩ u:=by
 obtain ⟨fs,fd,du,h1,h2,h3,h4,rfl⟩:=hF.fv
 exact yfv h1 h2 h3 h4 hx hu
section
variable {P:Program} {a:Act} {w w0:World} {d:Option Tmp} {T t:TypeId} {p:String} {af:Array Edge} {g:Option (Nat×Bool)} {x:Operand} {v:Value} {i:Int} {ax:List Fact} {rs:List Res}
theorem w6 {s o n:Nat} {cs us:List Value} (hT:StT P T n) (hx:a.eval x=fAddr v s i o) (hc:CAt w v s i cs) (hu:(cs.drop o).take n=us) (hl:us.length=n):Yi P a w ⟨d,.load T x,t,p,af,g⟩ (.agg us.toArray):=by
 subst hl
 refine Yh hT hx fun j u hj=>?_
 rw [Kd,Qd]
 refine hc (o+j) u ?_
 rw [← hu,H6] at hj
 split at hj
 ·simpa using hj
 ·cases hj
end
section
variable {P:Program} {w:World} {fn:Func} {R:Ending→World→Prop} {n:Nat} {f:Nat→Value}
end
structure Pn where
 v:Value
 s:Nat
 i:Int
 cs:List Value
def pins (r:Res) (ps:List Pn):Res where
 holds w X F:=r.holds w X F∧∀ p,p∈ps→∀ j u,p.cs[j]?=some u→F (sAddr p.v).block∧w.cell? ((sAddr p.v).add (p.i.toNat*p.s+j))=some u
 loc:=fun ⟨h,hp⟩ hX hs hF=>⟨r.loc h hX hs hF,fun p hm j u hu=>by
  obtain ⟨h1,h2⟩:=hp p hm j u hu
  refine ⟨h1,?_⟩
  rw [← h2]
  exact World.cell?_of_block (by rw [Pe]; exact hF _ h1)⟩
 lt:=fun ⟨h,_⟩ hb=>r.lt h hb
section
variable {α:Type} {w0 w:World} {ax:List Fact} {rs:List Res} {r:Res} {ps:List Pn} {T:TypeId} {E:Rp α} {v:Value} {l:List α} {ls:List (List α)} {hs:List Hdr} {h:Hdr} {z:α} {i k:Int} {s:Nat} {cs:List Value}
theorem St.pin0 (cx:St w0 ax (r::rs) w):St w0 ax (pins r []::rs) w:=cx.conv fun _ _ h=>⟨h,fun _ hp=>by cases hp⟩
theorem St.unpin (cx:St w0 ax (pins r ps::rs) w):St w0 ax (r::rs) w:=cx.conv fun _ _ h=>h.1
theorem Nr {X F:Nat→Prop} (hF:(row T E v l).holds w X F) (hz:getI l i=some z):F (sAddr v).block∧∃ cs,E.r w X cs z∧∀ j u,cs[j]?=some u→w.cell? ((sAddr v).add (i.toNat*E.s+j))=some u:=by
 obtain ⟨h0,h1,h2⟩:=E8 hz
 obtain ⟨b,cap,hv,hc,hm,hx⟩:=ec hF
 obtain ⟨ha,cs,hr,hj⟩:=hx _ _ h2
 refine ⟨?_,cs,hr,hj⟩
 obtain ⟨_,_,_,_,he⟩:=hF
 rw [he]
 have CI:v=.slice (some (sAddr v)) l.length cap:=by rw [← ha]; exact hv
 have hb:sBlk v=some (sAddr v).block:=by
  generalize sAddr v=ad at CI
  subst CI; rfl
 revert hb
 unfold sBlk Value.ownBlock
 split<;>simp
theorem St.pinO (cx:St w0 ax (pins (row T E v l) ps::rs) w) (hz:getI l i=some z):∃ cs,St w0 (elt E cs z::ax) (pins (row T E v l) (⟨v,E.s,i,cs⟩::ps)::rs) w:=by
 obtain ⟨X,hX⟩:=cx
 obtain ⟨F,⟨hF,hp⟩,hd,Ix⟩:=hX.own
 obtain ⟨hb,cs,hr,hj⟩:=Nr hF hz
 refine ⟨cs,X,hX.ext,hX.old,hX.xlt,fun q hq=>?_,F,⟨hF,fun p hm j u hu=>?_⟩,hd,Ix⟩
 ·rcases U3.1 hq with rfl | hq
  ·exact hr
  ·exact hX.ro q hq
 ·rcases U3.1 hm with rfl | hm
  ·exact ⟨hb,hj j u hu⟩
  ·exact hp p hm j u hu
theorem St.pinF (h1:getI hs k=some h) (h2:getI ls k=some l) (cx:St w0 ax (pins (fam T E hs ls) ps::rs) w) (hz:getI l i=some z):∃ cs,St w0 (elt E cs z::ax) (pins (fam T E hs ls) (⟨h.v,E.s,i,cs⟩::ps)::rs) w:=by
 obtain ⟨X,hX⟩:=cx
 obtain ⟨F,⟨hF,hp⟩,hd,Ix⟩:=hX.own
 obtain ⟨G,hG,hg⟩:=Ke hF.2 (Qb (O5 h1) (O5 h2))
 obtain ⟨hb,cs,hr,hj⟩:=Nr hg hz
 refine ⟨cs,X,hX.ext,hX.old,hX.xlt,fun q hq=>?_,F,⟨hF,fun p hm j u hu=>?_⟩,hd,Ix⟩
 ·rcases U3.1 hq with rfl | hq
  ·exact hr
  ·exact hX.ro q hq
 ·rcases U3.1 hm with rfl | hm
  ·exact ⟨hG _ hb,hj j u hu⟩
  ·exact hp p hm j u hu
theorem St.cAtP (cx:St w0 ax rs w) (hm:pins r ps∈rs) (hp:(⟨v,s,i,cs⟩:Pn)∈ps):CAt w v s i cs:=by
 obtain ⟨X,hX⟩:=cx
 obtain ⟨F,hF⟩:=hX.own.get hm
 exact fun j u hu=>(hF.2 _ hp j u hu).2
theorem Q8 (h:pins (row T E v l) ps∈rs):Rd ax rs E v l:=fun _ _ _ cx=>by obtain ⟨F,hF⟩:=cx.own.get h; exact ec hF.1
theorem Vr (hm:pins (fam T E hs ls) ps∈rs) (h1:getI hs i=some h) (h2:getI ls i=some l):Rd ax rs E h.v l:=fun _ _ _ cx=>by
 obtain ⟨F,hF⟩:=cx.own.get hm
 obtain ⟨G,_,hg⟩:=Ke hF.1.2 (Qb (O5 h1) (O5 h2))
 exact ec hg
theorem mhP {p:Pn} {l:List Pn}:p∈p::l:=.head _
theorem mtP {p q:Pn} {l:List Pn} (h:p∈l):p∈q::l:=.tail _ h
end
end Sx
