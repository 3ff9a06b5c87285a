/- Strings as elements and values: they are told by their bytes. -/
import Derived.Test.YthekfonboblioacGreatDoorSxO
import Derived.Laws.Strings
import Derived.Scope
namespace Sx
open Go
section
variable {P:Program} {a:Act} {w w0:World} {d:Option Tmp} {T U t:TypeId} {p:String} {af:Array Edge} {g:Option (Nat×Bool)} {ros:List Fact} {rs:List Res} {x y:Operand} {v:Value} {i:Int}
end
def mkLc {β:Type} (z:β) (n c:Int):Option (List β):=if 0≤n∧n≤c∧c≤BIG then some (List.replicate n.toNat z) else none
section
variable {α:Type} {P:Program} {a:Act} {w w0:World} {d:Option Tmp} {T e t:TypeId} {p:String} {af:Array Edge} {g:Option (Nat×Bool)} {ros:List Fact} {rs:List Res} {x y:Operand} {E:Rp α} {q:α} {l:List α}
theorem rMkc {n c:Int} {ik ik2:IntKind} (hst:St w0 ros rs w) (hS:SlT P T e E q) (hx:a.eval x=.int ik n) (hy:a.eval y=.int ik2 c) (hk:mkLc q n c=some l):
  ∃ (h:Hdr) (w':World),(execOp a.eval ⟨d,.makeSlice T x y,t,p,af,g⟩).run P w=.ok (.value h.v) w'∧St w0 ros (row e E h.v l::rs) w':=by
 obtain ⟨ti,zv,hi,hsz,hby,hz,hzc⟩:=hS.inf
 unfold mkLc BIG at hk
 split at hk
 ·rename_i hb
  obtain rfl:=N3 hk
  obtain ⟨k,rfl⟩:=W5 hb.1
  obtain ⟨kc,rfl⟩:=W5 (show 0≤c by omega)
  have hkc:k≤kc:=A0
  have hbig:kc≤1099511627776:=A0
  have hbytes:(ti.bytes:Int)*(kc:Int)≤281474976710656:=by
   have h2:((ti.bytes*kc:Nat):Int)≤((256*1099511627776:Nat):Int):=by
    have:ti.bytes*kc≤256*1099511627776:=D8 A0 A0
    omega
   rw [Pu] at h2
   omega
  have hr:=run_make (P:=P) w T e ti zv hS.und hi hz ik ik2 (k:Int) (kc:Int) A0 A0 hbytes A0
  have hml:kc≤maxLen:=by simp only [maxLen]; omega
  simp only [A1] at hr
  have hzr:=hzc w fun _=>True
  let cc:CS E.s:=⟨zv.cells.toList,E.len hzr,E.one hzr⟩
  refine ⟨⟨some ⟨w.heap.size,0,none⟩,k,kc⟩,_,?_,hst.new (r1:=row e E _ _) (Chg.alloc _ _ (.cells (madeCells zv.cells (kc*ti.size)) e)) fun X _ _=>⟨fun b=>b=w.heap.size,?_,fun b hb=>A0⟩⟩
  ·simp [execOp,hx,hy,hr,Hdr.v]
  ·refine ⟨by simp; omega,List.replicate k cc,All2.rep k (hzc _ X),?_,fun b=>by simp [Value.ownBlock,Hdr.v]; exact eq_comm⟩
   have hm:=Up (c:=cc) (zv:=zv) E.pos (by simp [cc]) kc
   rw [hsz]
   have key:(w.alloc (.cells (madeCells zv.cells (kc*E.s)) e)).ownsRow 0 e E.s (.slice (some ⟨w.heap.size,0,none⟩) k kc) k (cellsOf (List.replicate k cc)):=by
    refine ⟨by rw [H4]; simp,.inr ⟨w.heap.size,kc,madeCells zv.cells (kc*E.s),rfl,oc _,heap_alloc_new w _,hkc,hml,by rw [size_madeCells],?_⟩⟩
    have hsplit:List.replicate kc cc=List.replicate k cc++List.replicate (kc - k) cc:=by rw [List.replicate_append_replicate,Nat.add_sub_cancel' hkc]
    rw [hm,hsplit,aa,Ik]
    rw [H4]
    simp
   simpa [Hdr.v] using key
 ·cases hk
end
section
variable {α:Type} {P:Program} {a:Act} {w w0 w':World} {ros ros1:List Fact} {rs:List Res} {T U To e:TypeId} {E:Rp α} {b:Nat} {vals vals':List Value} {d:Option Tmp} {t:TypeId} {p:String} {af:Array Edge} {g:Option (Nat×Bool)} {x:Operand} {h q:Hdr} {hs:List Hdr} {ls m:List (List α)} {lo hi:Int}
theorem ySlF {lo' hi':Option Operand} {k1 k2:IntKind} (hS:SlT P U e rH q) (hx:a.eval x=h.v) (hst:St w0 ros rs w) (hr:Rd ros rs rH h.v hs) (hf:fam T E hs ls∈rs) (hlo:lo'.map a.eval=some (.int k1 lo)∨(lo'=none∧lo=0)) (hhi:hi'.map a.eval=some (.int k2 hi)∨(hi'=none∧hi=ls.length)) (hm:sli ls lo hi=some m):
  Yi P a w ⟨d,.slice U x lo' hi' none,t,p,af,g⟩ (subH h 1 lo hi).v:=by
 have hl:=hst.famL hf
 obtain ⟨_,h0,h1,h2⟩:=Yd hm
 have hm':sli hs lo hi=some (subL hs lo hi):=by unfold sli; rw [M0 ⟨h0,h1,by rw [hl]; exact h2⟩]
 rw [← hl] at hhi
 exact ySl hS hx hst hr hlo hhi hm'
def wE (w:World):World:={w with heap:=#[] }
def frz (b:Nat) (w:World):Fact where
 h:=fun w' X=>∀ c,c < w.heap.size→c≠b→X c∧w'.heap[c]?=w.heap[c]?
 mono:=fun h hX hs c h1 h2=>⟨hs c (h c h1 h2).1,(hX c (h c h1 h2).1).trans (h c h1 h2).2⟩
theorem St.guestB (hst:St w0 ros (box b T vals::rs) w):St (wE w) (frz b w::ros) [box b T vals] w:=by
 obtain ⟨X,hX⟩:=hst
 obtain ⟨F,⟨hF,hFb⟩,hd,_⟩:=hX.own
 refine ⟨fun c=>c < w.heap.size∧c≠b,⟨rfl,rfl,rfl,oc _,fun c hc=>absurd hc (Ck c)⟩,fun c hc=>absurd hc (Ck c),fun c hc=>hc.1,fun r hr=>?_,F,⟨hF,hFb⟩,fun c hc hx=>hx.2 ((hFb c).1 hc),trivial⟩
 rcases P3.1 hr with rfl | hr
 ·exact fun c h1 h2=>⟨⟨h1,h2⟩,rfl⟩
 ·exact r.mono (hX.ro r hr) (Same.refl _ _) fun c hc=>⟨hX.xlt c hc,fun e=>hd c ((hFb c).2 e) hc⟩
theorem St.backB (hst:St w0 ros (box b T vals::rs) w) (h1:St (wE w) (frz b w::ros1) [box b T vals'] w'):St w0 ros (box b T vals'::rs) w':=by
 obtain ⟨Y,hY⟩:=h1
 obtain ⟨F,⟨hF,hFb⟩,_,_⟩:=hY.own
 have hz:=hY.ro _ (.head _)
 refine hst.upd fun X G _ hG=>⟨G,fun _=>⟨hF,hG.2⟩,fun _ h=>.inl h,hY.ext.os,hY.ext.tape,hY.ext.output,?_,fun c hc hn=>(hz c hc fun e=>hn ((hG.2 c).2 e)).2⟩
 have hbl:b < w'.heap.size:=(ph.1 hF).1
 rcases wb w'.heap.size w.heap.size with hlt | hge
 ·by_cases hb:w.heap.size - 1=b
  ·omega
  ·have:=(hz (w.heap.size - 1) A0 hb).2
   have h3:(w.heap.size - 1) < w'.heap.size:=by
    have h4:w.heap[w.heap.size - 1]?=some (w.heap[w.heap.size - 1]'(A0)):=by simp
    rw [h4] at this
    exact (ph.1 this).1
   omega
 ·exact hge
end
def neI (i j:Int):Option Unit:=if i=j then none else some ()
theorem kj {i j:Int} {u:Unit} (h:neI i j=some u):i≠j:=by
 unfold neI at h
 split at h
 ·cases h
 ·assumption
section
variable {α:Type} {w w0 w':World} {ros ros1:List Fact} {rs:List Res} {T:TypeId} {E:Rp α} {hs hs2 hs3:List Hdr} {ls z1 z2:List (List α)} {l l' l2:List α} {h h2 hA hT:Hdr} {rA rT:List α} {v:Value} {i j:Int} {u:Unit} {q:Fact}
def frzR (v:Value) (w:World):Fact where
 h:=fun w' X=>∀ c,c < w.heap.size→v.ownBlock≠some c→X c∧w'.heap[c]?=w.heap[c]?
 mono:=fun h hX hs c h1 h2=>⟨hs c (h c h1 h2).1,(hX c (h c h1 h2).1).trans (h c h1 h2).2⟩
theorem St.guestX (hne:neI i j=some u) (h0:getI hs i=some h) (h1:getI hs j=some h2) (h3:getI ls j=some l2) (hst:St w0 ros (row T E v l::famx T E i.toNat hs ls::rs) w):St (wE w) (imm E h2.v l2::frzR v w::ros) [row T E v l] w:=by
 obtain ⟨X,hX⟩:=hst
 obtain ⟨F,hF,hd,F2,hF2,hd2,_⟩:=hX.own
 have hij:i.toNat≠j.toNat:=by
  obtain ⟨a1,_,_⟩:=A8 h0
  obtain ⟨a2,_,_⟩:=A8 h1
  have:=kj hne
  omega
 obtain ⟨k,hk⟩:∃ k,((zrow T E hs ls).eraseIdx i.toNat)[k]?=some (row T E h2.v l2):=by
  have hz:=Jb (T:=T) (E:=E) (I5 h1) (I5 h3)
  rcases wb j.toNat i.toNat with hlt | hge
  ·exact ⟨j.toNat,by rw [GD,M0 hlt]; exact hz⟩
  ·exact ⟨j.toNat - 1,by rw [GD,B0,show j.toNat - 1+1=j.toNat by omega]; exact hz⟩
 obtain ⟨G,hG,hg⟩:=we hF2.2 hk
 have hFb:=hF.2.choose_spec.2.2
 have hsub:∀ c,X c→c < w.heap.size∧v.ownBlock≠some c:=fun c hc=>⟨hX.xlt c hc,fun e=>hd c ((hFb c).2 e) hc⟩
 refine ⟨fun c=>c < w.heap.size∧v.ownBlock≠some c,⟨rfl,rfl,rfl,oc _,fun c hc=>absurd hc (Ck c)⟩,fun c hc=>absurd hc (Ck c),fun c hc=>hc.1,fun r hr=>?_,F,(row T E v l).loc hF (Same.refl _ _) hsub (Same.refl _ _),fun c hc hx=>hx.2 ((hFb c).1 hc),trivial⟩
 rcases P3.1 hr with rfl | hr
 ·refine (Qf X G hg).mono (Same.refl _ _) fun c hc=>?_
  rcases hc with hc | hc
  ·exact hsub c hc
  ·exact ⟨(row T E h2.v l2).lt hg hc,fun e=>hd2 c (hG c hc) (.inr ((hFb c).2 e))⟩
 ·rcases P3.1 hr with rfl | hr
  ·exact fun c h1 h2=>⟨⟨h1,h2⟩,rfl⟩
  ·exact r.mono (hX.ro r hr) (Same.refl _ _) hsub
theorem St.backR {s:Nat} {e':α→List Value} {hp:0 < s} {hl:∀ x,(e' x).length=s} {ho:∀ x v,v∈e' x→v.oneCell'=true} (hst:St w0 ros (row T (rF s e' hp hl ho) v l::rs) w) (h1:St (wE w) (q::frzR v w::ros1) [row T (rF s e' hp hl ho) v l'] w'):St w0 ros (row T (rF s e' hp hl ho) v l'::rs) w':=by
 obtain ⟨Y,hY⟩:=h1
 obtain ⟨F',hF',_,_⟩:=hY.own
 have hlt:∀ c,F' c→c < w'.heap.size:=fun c hc=>(row T (rF s e' hp hl ho) v l').lt hF' hc
 obtain ⟨hm,cs,ha,hr,he⟩:=hF'
 have hz:=hY.ro _ (.tail _ (.head _))
 refine hst.upd fun X F _ hF=>?_
 obtain ⟨_,_,_,_,he0⟩:=hF
 refine ⟨F,fun _=>⟨hm,cs,⟨ha.1,fun i c x hc hx=>ha.2 i c x hc hx⟩,hr,he0⟩,fun _ h=>.inl h,hY.ext.os,hY.ext.tape,hY.ext.output,?_,fun c hc hn=>(hz c hc fun e=>hn ((he0 c).2 e)).2⟩
 rcases wb w'.heap.size w.heap.size with hlt2 | hge
 ·exfalso
  by_cases hb:v.ownBlock=some (w.heap.size - 1)
  ·have:=hlt _ ((he _).2 hb); omega
  ·have:=(hz (w.heap.size - 1) A0 hb).2
   have h4:w.heap[w.heap.size - 1]?=some (w.heap[w.heap.size - 1]'(A0)):=by simp
   rw [h4] at this
   have:=(ph.1 this).1
   omega
 ·exact hge
theorem Bf {γ:Type} {x:List α} {y:γ} {hs hs2:List γ} (h1:setI ls j x=some z1) (h2:setI hs j y=some hs2) (hl:hs.length=ls.length):hs2.length=z1.length:=by
 obtain ⟨_,_,rfl⟩:=C7 h1
 obtain ⟨_,_,rfl⟩:=C7 h2
 simpa using hl
theorem Wc {γ:Type} {l:List γ} {j:Int} {x:γ} (h0:0≤j) (h:l[j.toNat]?=some x):getI l j=some x:=by
 cases j with
 | ofNat k=>exact h
 | negSucc k=>simp at h0
theorem Jf {γ:Type} {l:List γ} {j:Int} {x:γ} (h0:0≤j) (h:j < l.length):setI l j x=some (l.set j.toNat x):=by
 cases j with
 | ofNat k=>
  have h':k < l.length:=by simpa using h
  simp only [setI]
  rw [M0 h']
  rfl
 | negSucc k=>simp at h0
theorem Cq {γ:Type} {l:List γ} {a t:Nat} {x y z:γ} (h:a≠t):((l.set a x).set t y).set a z=(l.set t y).set a z:=by
 apply Sa
 intro k
 simp only [fh,O3]
 split
 ·rfl
 ·split
  ·rfl
  ·rfl
theorem St.fswap (a1:getI hs i=some hA) (a2:getI ls i=some rA) (t1:getI hs j=some hT) (t2:getI ls j=some rT) (s1:setI hs j hA=some hs2) (s2:setI ls j rA=some z1) (s3:setI hs2 i hT=some hs3) (s4:setI z1 i rT=some z2) (hst:St w0 ros (fam T E hs ls::rs) w):St w0 ros (fam T E hs3 z2::rs) w:=by
 obtain ⟨b1,b2,rfl⟩:=C7 s1
 obtain ⟨_,b3,rfl⟩:=C7 s2
 obtain ⟨b4,b5,rfl⟩:=C7 s3
 obtain ⟨_,b6,rfl⟩:=C7 s4
 have ea1:=I5 a1
 have ea2:=I5 a2
 have et1:=I5 t1
 have et2:=I5 t2
 rw [O3] at b5 b6
 by_cases hij:i=j
 ·subst hij
  obtain rfl:hA=hT:=N3 (a1.symm.trans t1)
  obtain rfl:rA=rT:=N3 (a2.symm.trans t2)
  rw [set_self ea1,set_self ea2,set_self ea1,set_self ea2]
  exact hst
 ·have hne:i.toNat≠j.toNat:=A0
  have h5:=(hst.foc a1 a2).rowNh T E
  have h6:St w0 ros (row T E hnil.v ([]:List α)::famx T E i.toNat hs ls::row T E hA.v rA::rs) w:=h5.pk 3 [0,1,0] rfl
  have h7:=h6.unfoc a1 a2
  have g1:getI (hs.set i.toNat hnil) j=some hT:=Wc b1 (by rw [H6 hne]; exact et1)
  have g2:getI (ls.set i.toNat []) j=some rT:=Wc b1 (by rw [H6 hne]; exact et2)
  have h8:=h7.foc g1 g2
  have h9:St w0 ros (row T E hA.v rA::famx T E j.toNat (hs.set i.toNat hnil) (ls.set i.toNat [])::row T E hT.v rT::rs) w:=h8.pk 3 [2,1,0] rfl
  have h10:=h9.unfoc g1 g2
  have h11:St w0 ros (row T E hT.v rT::fam T E ((hs.set i.toNat hnil).set j.toNat hA) ((ls.set i.toNat []).set j.toNat rA)::rs) w:=h10.pk 2 [1,0] rfl
  have p1:setI ((hs.set i.toNat hnil).set j.toNat hA) i hT=some ((hs.set j.toNat hA).set i.toNat hT):=by
   rw [← Cq hne (x:=hnil) (y:=hA) (z:=hT)]
   exact Jf b4 (by simpa using b5)
  have p2:setI ((ls.set i.toNat []).set j.toNat rA) i rT=some ((ls.set j.toNat rA).set i.toNat rT):=by
   rw [← Cq hne (x:=[]) (y:=rA) (z:=rT)]
   exact Jf b4 (by simpa using b6)
  exact h11.fput p1 p2
end
theorem bp8 {a:Act} {i1 i2 i3 i4 i5 i6 i7 i8:Nat} {x1 x2 x3 x4 x5 x6 x7 x8:Operand} {v1 v2 v3 v4 v5 v6 v7 v8:Value} (h1:a.eval x1=v1) (h2:a.eval x2=v2) (h3:a.eval x3=v3) (h4:a.eval x4=v4) (h5:a.eval x5=v5) (h6:a.eval x6=v6) (h7:a.eval x7=v7) (h8:a.eval x8=v8):(#[(i1,x1),(i2,x2),(i3,x3),(i4,x4),(i5,x5),(i6,x6),(i7,x7),(i8,x8)].map fun (i,x)=>(i,a.eval x))=[(i1,v1),(i2,v2),(i3,v3),(i4,v4),(i5,v5),(i6,v6),(i7,v7),(i8,v8)].toArray:=by simp [h1,h2,h3,h4,h5,h6,h7,h8]
section
variable {α:Type} {w w0 w':World} {ros ros1:List Fact} {rs:List Res} {T To:TypeId} {hs:List Hdr} {ls:List (List α)} {v:Value}
end
def getW {α:Type} (l:List α) (lo hi i:Int):Option α:=if 0≤lo∧0≤i∧i < hi - lo∧hi≤l.length then getI l (lo+i) else none
def setW {α:Type} (l:List α) (lo hi i:Int) (z:α):Option (List α):=if 0≤lo∧0≤i∧i < hi - lo∧hi≤l.length then setI l (lo+i) z else none
theorem ec {α:Type} {l:List α} {lo hi i:Int} {z:α} (h:getW l lo hi i=some z):getI l (lo+i)=some z:=by
 unfold getW at h; split at h
 ·exact h
 ·cases h
theorem If {α:Type} {l m:List α} {lo hi i:Int} {z:α} (h:setW l lo hi i z=some m):setI l (lo+i) z=some m:=by
 unfold setW at h; split at h
 ·exact h
 ·cases h
section
variable {α:Type} {P:Program} {a:Act} {w w0:World} {d:Option Tmp} {T e t:TypeId} {p:String} {af:Array Edge} {g:Option (Nat×Bool)} {ros:List Fact} {rs:List Res} {x y:Operand} {E:Rp α} {q z:α} {l m:List α} {h:Hdr} {lo hi i:Int}
theorem wC {X:Nat→Prop} (hs:Sees w X E h.v l) (h0:0≤lo) (h1:0≤i) (h2:i < hi - lo) (h3:hi≤l.length):eAddr (subH h E.s lo hi).v E.s i=eAddr h.v E.s (lo+i):=by
 obtain ⟨b,cap,hv,hc,hm,hx⟩:=hs
 obtain ⟨ha',hn',hc'⟩:h.a=b∧h.n=l.length∧h.c=cap:=by simpa [Hdr.v] using hv
 have hne:¬ cap=lo.toNat:=A0
 obtain ⟨ha,_⟩:=hx 0 (l[0]'(A0)) (U3 A0)
 have hadd:sAddr (subH h E.s lo hi).v=(sAddr h.v).add (lo.toNat*E.s):=by
  have e:h.a=some (sAddr h.v):=ha'.trans ha
  have:(subH h E.s lo hi).a=some ((sAddr h.v).add (lo.toNat*E.s)):=by
   show (if h.c=lo.toNat then h.a else h.a.map _)=_
   rw [K0 (by rw [hc']; exact hne),e]; rfl
  show sAddr (.slice (subH h E.s lo hi).a _ _)=_
  rw [this]; rfl
 unfold eAddr
 rw [hadd,nd,show (lo+i).toNat=lo.toNat+i.toNat by omega,T6]
theorem Zl {ik:IntKind} (hS:SlT P T e E q) (hx:a.eval x=(subH h E.s lo hi).v) (hy:a.eval y=.int ik i) (hst:St w0 ros rs w) (hr:Rd ros rs E h.v l) (h0:0≤lo) (h1:0≤i) (h2:i < hi - lo) (h3:hi≤l.length):Yi P a w ⟨d,.indexAddr T x y,t,p,af,g⟩ (eAddr h.v E.s (lo+i)):=by
 obtain ⟨X,_,hs⟩:=hr.sees hst
 rw [← wC hs h0 h1 h2 h3]
 have hl:=iq (l:=l) h0 (show lo≤hi by omega) h3
 exact uh hS hx hy (Dq hs h0 A0 h3) h1 (by rw [hl]; omega)
theorem Lb {ik:IntKind} (hS:SlT P T e E q) (hx:a.eval x=(subH h E.s lo hi).v) (hy:a.eval y=.int ik i) (hst:St w0 ros rs w) (hr:Rd ros rs E h.v l) (hz:getW l lo hi i=some z):Yi P a w ⟨d,.indexAddr T x y,t,p,af,g⟩ (eAddr h.v E.s (lo+i)):=by
 unfold getW at hz; split at hz
 ·rename_i hc; exact Zl hS hx hy hst hr hc.1 hc.2.1 hc.2.2.1 hc.2.2.2
 ·cases hz
theorem Xe {ik:IntKind} (hS:SlT P T e E q) (hx:a.eval x=(subH h E.s lo hi).v) (hy:a.eval y=.int ik i) (hst:St w0 ros rs w) (hr:Rd ros rs E h.v l) (hz:setW l lo hi i z=some m):Yi P a w ⟨d,.indexAddr T x y,t,p,af,g⟩ (eAddr h.v E.s (lo+i)):=by
 unfold setW at hz; split at hz
 ·rename_i hc; exact Zl hS hx hy hst hr hc.1 hc.2.1 hc.2.2.1 hc.2.2.2
 ·cases hz
end
section
variable {α:Type} {w w0:World} {ros:List Fact} {rs:List Res} {T:TypeId} {E:Rp α} {hs:List Hdr} {ls ls':List (List α)} {l l' m:List α} {h h':Hdr} {i j:Int} {u:Unit}
theorem St.foc2 (hne:neI i j=some u) (h1:getI hs i=some h) (h2:getI ls i=some l) (k1:getI hs j=some h') (k2:getI ls j=some l') (hst:St w0 ros (fam T E hs ls::rs) w):
  St w0 ros (row T E h.v l::row T E h'.v l'::famx T E j.toNat (hs.set i.toNat hnil) (ls.set i.toNat [])::rs) w:=by
 obtain ⟨a0,_,_⟩:=A8 h1
 obtain ⟨b0,_,_⟩:=A8 k1
 have hn:i.toNat≠j.toNat:=by have:=kj hne; omega
 have h5:=(hst.foc h1 h2).rowNh T E
 have h6:St w0 ros (row T E hnil.v ([]:List α)::famx T E i.toNat hs ls::row T E h.v l::rs) w:=h5.pk 3 [0,1,0] rfl
 have h7:=h6.unfoc h1 h2
 have g1:getI (hs.set i.toNat hnil) j=some h':=Wc b0 (by rw [H6 hn]; exact I5 k1)
 have g2:getI (ls.set i.toNat []) j=some l':=Wc b0 (by rw [H6 hn]; exact I5 k2)
 exact (h7.foc g1 g2).pk 3 [2,0,0] rfl
theorem St.unfoc2 (hne:neI i j=some u) (h1:getI hs i=some h) (k1:getI hs j=some h') (k2:getI ls j=some l') (hq:setI ls i m=some ls')
  (hst:St w0 ros (row T E h.v m::row T E h'.v l'::famx T E j.toNat (hs.set i.toNat hnil) (ls.set i.toNat [])::rs) w):St w0 ros (fam T E hs ls'::rs) w:=by
 obtain ⟨a0,a1,_⟩:=A8 h1
 obtain ⟨b0,_,_⟩:=A8 k1
 obtain ⟨c0,c1,rfl⟩:=C7 hq
 have hn:i.toNat≠j.toNat:=by have:=kj hne; omega
 have e1:(hs.set i.toNat hnil)[j.toNat]?=some h':=by rw [H6 hn]; exact I5 k1
 have e2:(ls.set i.toNat [])[j.toNat]?=some l':=by rw [H6 hn]; exact I5 k2
 have h5:St w0 ros (row T E h'.v l'::famx T E j.toNat (hs.set i.toNat hnil) (ls.set i.toNat [])::row T E h.v m::rs) w:=hst.pk 3 [1,1,0] rfl
 have h6:=h5.unfoc (Wc b0 e1) (Wc b0 e2)
 rw [set_self e1,set_self e2] at h6
 have h7:St w0 ros (row T E h.v m::fam T E (hs.set i.toNat hnil) (ls.set i.toNat [])::rs) w:=h6.pk 2 [1,0] rfl
 have p1:setI (hs.set i.toNat hnil) i h=some hs:=by
  rw [Jf a0 (by simpa using a1),Nk,set_self (I5 h1)]
 have p2:setI (ls.set i.toNat []) i m=some (ls.set i.toNat m):=by
  rw [Jf a0 (by simpa using c1),Nk]
 exact h7.fput p1 p2
end
def ng:Exit→Bool | .goto _=>false | _=>true
theorem Zx {P:Program} {Q:Exit→Act→World→Prop} {a:Act} {w:World} {c:Code} (h:∀ Q':Exit→Act→World→Prop,(∀ e a w,ng e=true→Q e a w→Q' e a w)→c.wp P Q' a w):(Code.scope c).wp P Q a w:=
 wp_scope_straight (h _ fun e a w he hq=>by cases e<;>first | (simp [ng] at he; done) | exact hq)
structure FldV (P:Program) (T:TypeId) (i off:Nat):Prop where
 fv:∃ fs fd du,P.underlying T=some (.struct fs)∧fs[i]?=some fd∧P.underlying fd.type=some du∧nonAgg du=true∧fd.offset=off
def isFldV (P:Program) (T i off:Nat):Bool:=match P.underlying T with
 | some (.struct fs)=>match fs[i]? with
  | some fd=>match P.underlying fd.type with
   | some du=>nonAgg du && Nat.beq fd.offset off
   | none=>false
  | none=>false
 | _=>false
theorem fvOf {P:Program} {T i off:Nat} (h:isFldV P T i off=true):FldV P T i off:=by
 unfold isFldV at h
 split at h
 ·rename_i fs h1
  split at h
  ·rename_i fd h2
   split at h
   ·rename_i du h3
    simp only [V3] at h
    exact ⟨fs,fd,du,h1,h2,h3,h.1,S6 h.2⟩
   ·cases h
  ·cases h
 ·cases h
theorem yFv {P:Program} {a:Act} {w:World} {d:Option Tmp} {T t:TypeId} {p:String} {af:Array Edge} {g:Option (Nat×Bool)} {x:Operand} {u:Value} {i off:Nat} {cs:List Value} (hF:FldV P T i off) (hx:a.eval x=.agg cs.toArray) (hu:cs[off]?=some u):Yi P a w ⟨d,.field T x i,t,p,af,g⟩ u:=by
 obtain ⟨fs,fd,du,h1,h2,h3,h4,rfl⟩:=hF.fv
 exact yfv h1 h2 h3 h4 hx hu
section
variable {P:Program} {a:Act} {w w0:World} {d:Option Tmp} {T t:TypeId} {p:String} {af:Array Edge} {g:Option (Nat×Bool)} {x:Operand} {v:Value} {i:Int} {ros:List Fact} {rs:List Res}
theorem X5 {s o n:Nat} {cs us:List Value} (hT:StT P T n) (hx:a.eval x=fAddr v s i o) (hc:CAt w v s i cs) (hu:(cs.drop o).take n=us) (hl:us.length=n):Yi P a w ⟨d,.load T x,t,p,af,g⟩ (.agg us.toArray):=by
 subst hl
 refine rh hT hx fun j u hj=>?_
 rw [nd,Yg]
 refine hc (o+j) u ?_
 rw [← hu,A6] at hj
 split at hj
 ·simpa using hj
 ·cases hj
end
section
variable {P:Program} {w:World} {fn:Func} {R:Ending→World→Prop} {n:Nat} {f:Nat→Value}
end
structure Pn where
 v:Value
 s:Nat
 i:Int
 cs:List Value
def pins (r:Res) (ps:List Pn):Res where
 holds w X F:=r.holds w X F∧∀ p,p∈ps→∀ j u,p.cs[j]?=some u→F (sAddr p.v).block∧w.cell? ((sAddr p.v).add (p.i.toNat*p.s+j))=some u
 loc:=fun ⟨h,hp⟩ hX hs hF=>⟨r.loc h hX hs hF,fun p hm j u hu=>by
  obtain ⟨h1,h2⟩:=hp p hm j u hu
  refine ⟨h1,?_⟩
  rw [← h2]
  exact World.cell?_of_block (by rw [Ae]; exact hF _ h1)⟩
 lt:=fun ⟨h,_⟩ hb=>r.lt h hb
section
variable {α:Type} {w0 w:World} {ros:List Fact} {rs:List Res} {r:Res} {ps:List Pn} {T:TypeId} {E:Rp α} {v:Value} {l:List α} {ls:List (List α)} {hs:List Hdr} {h:Hdr} {z:α} {i k:Int} {s:Nat} {cs:List Value}
theorem St.pin0 (hst:St w0 ros (r::rs) w):St w0 ros (pins r []::rs) w:=hst.conv fun _ _ h=>⟨h,fun _ hp=>by cases hp⟩
theorem St.unpin (hst:St w0 ros (pins r ps::rs) w):St w0 ros (r::rs) w:=hst.conv fun _ _ h=>h.1
theorem Uq {X F:Nat→Prop} (hF:(row T E v l).holds w X F) (hz:getI l i=some z):F (sAddr v).block∧∃ cs,E.r w X cs z∧∀ j u,cs[j]?=some u→w.cell? ((sAddr v).add (i.toNat*E.s+j))=some u:=by
 obtain ⟨h0,h1,h2⟩:=A8 hz
 obtain ⟨b,cap,hv,hc,hm,hx⟩:=Ub hF
 obtain ⟨ha,cs,hr,hj⟩:=hx _ _ h2
 refine ⟨?_,cs,hr,hj⟩
 obtain ⟨_,_,_,_,he⟩:=hF
 rw [he]
 have hv':v=.slice (some (sAddr v)) l.length cap:=by rw [← ha]; exact hv
 have hb:sBlk v=some (sAddr v).block:=by
  generalize sAddr v=ad at hv'
  subst hv'; rfl
 revert hb
 unfold sBlk Value.ownBlock
 split<;>simp
theorem St.pinO (hst:St w0 ros (pins (row T E v l) ps::rs) w) (hz:getI l i=some z):∃ cs,St w0 (elt E cs z::ros) (pins (row T E v l) (⟨v,E.s,i,cs⟩::ps)::rs) w:=by
 obtain ⟨X,hX⟩:=hst
 obtain ⟨F,⟨hF,hp⟩,hd,hrest⟩:=hX.own
 obtain ⟨hb,cs,hr,hj⟩:=Uq hF hz
 refine ⟨cs,X,hX.ext,hX.old,hX.xlt,fun q hq=>?_,F,⟨hF,fun p hm j u hu=>?_⟩,hd,hrest⟩
 ·rcases P3.1 hq with rfl | hq
  ·exact hr
  ·exact hX.ro q hq
 ·rcases P3.1 hm with rfl | hm
  ·exact ⟨hb,hj j u hu⟩
  ·exact hp p hm j u hu
theorem St.pinF (h1:getI hs k=some h) (h2:getI ls k=some l) (hst:St w0 ros (pins (fam T E hs ls) ps::rs) w) (hz:getI l i=some z):∃ cs,St w0 (elt E cs z::ros) (pins (fam T E hs ls) (⟨h.v,E.s,i,cs⟩::ps)::rs) w:=by
 obtain ⟨X,hX⟩:=hst
 obtain ⟨F,⟨hF,hp⟩,hd,hrest⟩:=hX.own
 obtain ⟨G,hG,hg⟩:=we hF.2 (Jb (I5 h1) (I5 h2))
 obtain ⟨hb,cs,hr,hj⟩:=Uq hg hz
 refine ⟨cs,X,hX.ext,hX.old,hX.xlt,fun q hq=>?_,F,⟨hF,fun p hm j u hu=>?_⟩,hd,hrest⟩
 ·rcases P3.1 hq with rfl | hq
  ·exact hr
  ·exact hX.ro q hq
 ·rcases P3.1 hm with rfl | hm
  ·exact ⟨hG _ hb,hj j u hu⟩
  ·exact hp p hm j u hu
theorem St.cAtP (hst:St w0 ros rs w) (hm:pins r ps∈rs) (hp:(⟨v,s,i,cs⟩:Pn)∈ps):CAt w v s i cs:=by
 obtain ⟨X,hX⟩:=hst
 obtain ⟨F,hF⟩:=hX.own.get hm
 exact fun j u hu=>(hF.2 _ hp j u hu).2
theorem P8 (h:pins (row T E v l) ps∈rs):Rd ros rs E v l:=fun _ _ _ hst=>by obtain ⟨F,hF⟩:=hst.own.get h; exact Ub hF.1
theorem er (hm:pins (fam T E hs ls) ps∈rs) (h1:getI hs i=some h) (h2:getI ls i=some l):Rd ros rs E h.v l:=fun _ _ _ hst=>by
 obtain ⟨F,hF⟩:=hst.own.get hm
 obtain ⟨G,_,hg⟩:=we hF.1.2 (Jb (I5 h1) (I5 h2))
 exact Ub hg
theorem mhP {p:Pn} {l:List Pn}:p∈p::l:=.head _
theorem mtP {p q:Pn} {l:List Pn} (h:p∈l):p∈q::l:=.tail _ h
end
end Sx
