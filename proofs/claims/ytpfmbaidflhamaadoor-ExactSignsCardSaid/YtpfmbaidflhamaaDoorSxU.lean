/- Strings as elements and values: they are told by their bytes. -/
import Derived.Test.YtpfmbaidflhamaaDoorSxO
import Derived.Laws.Strings
import Derived.Scope
namespace Sx
open Go
section
variable {P:Program} {a:Act} {w w0:World} {d:Option Tmp} {T U t:TypeId} {p:String} {af:Array Edge} {g:Option (Nat×Bool)} {ros:List Fact} {rs:List Res} {x y:Operand} {v:Value} {i:Int}
def rG:Rp ByteArray:=rF 1 (fun n=>[.string n]) (by omega) (fun _=>rfl) (fun _ v h=>by simp at h; subst h; rfl)
theorem mkG {x:ByteArray}:Mk ros rG [.string x] x:=fun _ _ _=>rfl
theorem ySt {l:List ByteArray} {z:ByteArray} (hO:OneT P T) (hx:a.eval x=eAddr v 1 i) (hst:St w0 ros rs w) (hr:Rd ros rs rG v l) (hz:getI l i=some z):Yi P a w ⟨d,.load T x,t,p,af,g⟩ (.string z):=by
  obtain ⟨X,_,hs⟩:=hr.sees hst
  obtain ⟨cs,rfl,h2⟩:=sees_at hs hz
  exact yCe hO hx h2 rfl
theorem yegs {m n:ByteArray} (hx:a.eval x=.string m) (hy:a.eval y=.string n):Yi P a w ⟨d,.binOp .eql T x y U,t,p,af,g⟩ (.bool (decide (m=n))):=by
  have h:(m.toList == n.toList)=decide (m=n):=by
    rw [ByteArray.toList_eq,ByteArray.toList_eq]
    by_cases h:m=n
    · subst h; simp
    · have h2:m.data.toList≠n.data.toList:=fun h2=>h (by cases m; cases n; simp at h2; simp [h2])
      rw [decide_eq_false h]
      exact beq_eq_false_iff_ne.2 h2
  simp [Yi,execOp,hx,hy,eqGuard,binOp,Op.stringOp,h]
end
def mkLc {β:Type} (z:β) (n c:Int):Option (List β):=if 0≤n∧n≤c∧c≤BIG then some (List.replicate n.toNat z) else none
section
variable {α:Type} {P:Program} {a:Act} {w w0:World} {d:Option Tmp} {T e t:TypeId} {p:String} {af:Array Edge} {g:Option (Nat×Bool)} {ros:List Fact} {rs:List Res} {x y:Operand} {E:Rp α} {q:α} {l:List α}
theorem rMkc {n c:Int} {ik ik2:IntKind} (hst:St w0 ros rs w) (hS:SlT P T e E q) (hx:a.eval x=.int ik n) (hy:a.eval y=.int ik2 c) (hk:mkLc q n c=some l):
    ∃ (h:Hdr) (w':World),(execOp a.eval ⟨d,.makeSlice T x y,t,p,af,g⟩).run P w=.ok (.value h.v) w'∧St w0 ros (row e E h.v l::rs) w':=by
  obtain ⟨ti,zv,hi,hsz,hby,hz,hzc⟩:=hS.inf
  unfold mkLc BIG at hk
  split at hk
  · rename_i hb
    obtain rfl:=Option.some.inj hk
    obtain ⟨k,rfl⟩:=Int.eq_ofNat_of_zero_le hb.1
    obtain ⟨kc,rfl⟩:=Int.eq_ofNat_of_zero_le (show 0≤c by omega)
    have hkc:k≤kc:=by omega
    have hbig:kc≤1099511627776:=by omega
    have hbytes:(ti.bytes:Int)*(kc:Int)≤281474976710656:=by
      have h2:((ti.bytes*kc:Nat):Int)≤((256*1099511627776:Nat):Int):=by
        have:ti.bytes*kc≤256*1099511627776:=Nat.mul_le_mul (by omega) (by omega)
        omega
      rw [Int.natCast_mul] at h2
      omega
    have hr:=run_make (P:=P) w T e ti zv hS.und hi hz ik ik2 (k:Int) (kc:Int) (by omega) (by omega) hbytes (by omega)
    have hml:kc≤maxLen:=by simp only [maxLen]; omega
    simp only [Int.toNat_natCast] at hr
    have hzr:=hzc w fun _=>True
    let cc:CS E.s:=⟨zv.cells.toList,E.len hzr,E.one hzr⟩
    refine ⟨⟨some ⟨w.heap.size,0,none⟩,k,kc⟩,_,?_,hst.new (r1:=row e E _ _) (Chg.alloc _ _ (.cells (madeCells zv.cells (kc*ti.size)) e)) fun X _ _=>⟨fun b=>b=w.heap.size,?_,fun b hb=>by omega⟩⟩
    · simp [execOp,hx,hy,hr,Hdr.v]
    · refine ⟨by simp; omega,List.replicate k cc,All2.rep k (hzc _ X),?_,fun b=>by simp [Value.ownBlock,Hdr.v]; exact eq_comm⟩
      have hm:=toList_made (c:=cc) (zv:=zv) E.pos (by simp [cc]) kc
      rw [hsz]
      have key:(w.alloc (.cells (madeCells zv.cells (kc*E.s)) e)).ownsRow 0 e E.s (.slice (some ⟨w.heap.size,0,none⟩) k kc) k (cellsOf (List.replicate k cc)):=by
        refine ⟨by rw [cellsOf_length]; simp,.inr ⟨w.heap.size,kc,madeCells zv.cells (kc*E.s),rfl,Nat.zero_le _,heap_alloc_new w _,hkc,hml,by rw [size_madeCells],?_⟩⟩
        have hsplit:List.replicate kc cc=List.replicate k cc++List.replicate (kc - k) cc:=by rw [List.replicate_append_replicate,Nat.add_sub_cancel' hkc]
        rw [hm,hsplit,cellsOf_append,List.take_left']
        rw [cellsOf_length]
        simp
      simpa [Hdr.v] using key
  · cases hk
end
def itoaG (x:Int):Option ByteArray:=if 0≤x∧x < 10 then some ⟨#[UInt8.ofNat (48+x.toNat)]⟩ else none
def joinB (l:List ByteArray) (s:ByteArray):List UInt8:=s.data.toList.intercalate (l.map (·.data.toList))
def joinG (l:List ByteArray) (s:ByteArray):Option ByteArray:=if l.length≤1000∧(joinB l s).length≤1000000 then some ⟨(joinB l s).toArray⟩ else none
section
variable {α:Type} {P:Program} {a:Act} {w w0 w':World} {ros ros1:List Fact} {rs:List Res} {T U To e:TypeId} {E:Rp α} {b:Nat} {vals vals':List Value} {d:Option Tmp} {t:TypeId} {p:String} {af:Array Edge} {g:Option (Nat×Bool)} {x:Operand} {h q:Hdr} {hs:List Hdr} {ls m:List (List α)} {lo hi:Int}
def wE (w:World):World:={w with heap:=#[] }
end
def neI (i j:Int):Option Unit:=if i=j then none else some ()
theorem neI_some {i j:Int} {u:Unit} (h:neI i j=some u):i≠j:=by
  unfold neI at h
  split at h
  · cases h
  · assumption
section
variable {α:Type} {w w0 w':World} {ros ros1:List Fact} {rs:List Res} {T:TypeId} {E:Rp α} {hs hs2 hs3:List Hdr} {ls z1 z2:List (List α)} {l l' l2:List α} {h h2 hA hT:Hdr} {rA rT:List α} {v:Value} {i j:Int} {u:Unit} {q:Fact}
def frzR (v:Value) (w:World):Fact where
  h:=fun w' X=>∀ c,c < w.heap.size→v.ownBlock≠some c→X c∧w'.heap[c]?=w.heap[c]?
  mono:=fun h hX hs c h1 h2=>⟨hs c (h c h1 h2).1,(hX c (h c h1 h2).1).trans (h c h1 h2).2⟩
theorem St.guestX (hne:neI i j=some u) (h0:getI hs i=some h) (h1:getI hs j=some h2) (h3:getI ls j=some l2) (hst:St w0 ros (row T E v l::famx T E i.toNat hs ls::rs) w):St (wE w) (imm E h2.v l2::frzR v w::ros) [row T E v l] w:=by
  obtain ⟨X,hX⟩:=hst
  obtain ⟨F,hF,hd,F2,hF2,hd2,_⟩:=hX.own
  have hij:i.toNat≠j.toNat:=by
    obtain ⟨a1,_,_⟩:=getI_some h0
    obtain ⟨a2,_,_⟩:=getI_some h1
    have:=neI_some hne
    omega
  obtain ⟨k,hk⟩:∃ k,((zrow T E hs ls).eraseIdx i.toNat)[k]?=some (row T E h2.v l2):=by
    have hz:=zrow_get (T:=T) (E:=E) (getI_nat h1) (getI_nat h3)
    rcases Nat.lt_or_ge j.toNat i.toNat with hlt | hge
    · exact ⟨j.toNat,by rw [List.getElem?_eraseIdx,if_pos hlt]; exact hz⟩
    · exact ⟨j.toNat - 1,by rw [List.getElem?_eraseIdx,if_neg (by omega),show j.toNat - 1+1=j.toNat by omega]; exact hz⟩
  obtain ⟨G,hG,hg⟩:=bigH_get hF2.2 hk
  have hFb:=hF.2.choose_spec.2.2
  have hsub:∀ c,X c→c < w.heap.size∧v.ownBlock≠some c:=fun c hc=>⟨hX.xlt c hc,fun e=>hd c ((hFb c).2 e) hc⟩
  refine ⟨fun c=>c < w.heap.size∧v.ownBlock≠some c,⟨rfl,rfl,rfl,Nat.zero_le _,fun c hc=>absurd hc (Nat.not_lt_zero c)⟩,fun c hc=>absurd hc (Nat.not_lt_zero c),fun c hc=>hc.1,fun r hr=>?_,F,(row T E v l).loc hF (Same.refl _ _) hsub (Same.refl _ _),fun c hc hx=>hx.2 ((hFb c).1 hc),trivial⟩
  rcases List.mem_cons.1 hr with rfl | hr
  · refine (row_imm X G hg).mono (Same.refl _ _) fun c hc=>?_
    rcases hc with hc | hc
    · exact hsub c hc
    · exact ⟨(row T E h2.v l2).lt hg hc,fun e=>hd2 c (hG c hc) (.inr ((hFb c).2 e))⟩
  · rcases List.mem_cons.1 hr with rfl | hr
    · exact fun c h1 h2=>⟨⟨h1,h2⟩,rfl⟩
    · exact r.mono (hX.ro r hr) (Same.refl _ _) hsub
theorem swap_len {γ:Type} {x:List α} {y:γ} {hs hs2:List γ} (h1:setI ls j x=some z1) (h2:setI hs j y=some hs2) (hl:hs.length=ls.length):hs2.length=z1.length:=by
  obtain ⟨_,_,rfl⟩:=setI_some h1
  obtain ⟨_,_,rfl⟩:=setI_some h2
  simpa using hl
theorem getI_of {γ:Type} {l:List γ} {j:Int} {x:γ} (h0:0≤j) (h:l[j.toNat]?=some x):getI l j=some x:=by
  cases j with
  | ofNat k=>exact h
  | negSucc k=>simp at h0
theorem setI_of {γ:Type} {l:List γ} {j:Int} {x:γ} (h0:0≤j) (h:j < l.length):setI l j x=some (l.set j.toNat x):=by
  cases j with
  | ofNat k=>
    have h':k < l.length:=by simpa using h
    simp only [setI]
    rw [if_pos h']
    rfl
  | negSucc k=>simp at h0
theorem set3 {γ:Type} {l:List γ} {a t:Nat} {x y z:γ} (h:a≠t):((l.set a x).set t y).set a z=(l.set t y).set a z:=by
  apply List.ext_getElem?
  intro k
  simp only [List.getElem?_set,List.length_set]
  split
  · rfl
  · split
    · rfl
    · rfl
theorem St.fswap (a1:getI hs i=some hA) (a2:getI ls i=some rA) (t1:getI hs j=some hT) (t2:getI ls j=some rT) (s1:setI hs j hA=some hs2) (s2:setI ls j rA=some z1) (s3:setI hs2 i hT=some hs3) (s4:setI z1 i rT=some z2) (hst:St w0 ros (fam T E hs ls::rs) w):St w0 ros (fam T E hs3 z2::rs) w:=by
  obtain ⟨b1,b2,rfl⟩:=setI_some s1
  obtain ⟨_,b3,rfl⟩:=setI_some s2
  obtain ⟨b4,b5,rfl⟩:=setI_some s3
  obtain ⟨_,b6,rfl⟩:=setI_some s4
  have ea1:=getI_nat a1
  have ea2:=getI_nat a2
  have et1:=getI_nat t1
  have et2:=getI_nat t2
  rw [List.length_set] at b5 b6
  by_cases hij:i=j
  · subst hij
    obtain rfl:hA=hT:=Option.some.inj (a1.symm.trans t1)
    obtain rfl:rA=rT:=Option.some.inj (a2.symm.trans t2)
    rw [set_self ea1,set_self ea2,set_self ea1,set_self ea2]
    exact hst
  · have hne:i.toNat≠j.toNat:=by omega
    have h5:=(hst.foc a1 a2).rowNh T E
    have h6:St w0 ros (row T E hnil.v ([]:List α)::famx T E i.toNat hs ls::row T E hA.v rA::rs) w:=h5.pk 3 [0,1,0] rfl
    have h7:=h6.unfoc a1 a2
    have g1:getI (hs.set i.toNat hnil) j=some hT:=getI_of b1 (by rw [List.getElem?_set_ne hne]; exact et1)
    have g2:getI (ls.set i.toNat []) j=some rT:=getI_of b1 (by rw [List.getElem?_set_ne hne]; exact et2)
    have h8:=h7.foc g1 g2
    have h9:St w0 ros (row T E hA.v rA::famx T E j.toNat (hs.set i.toNat hnil) (ls.set i.toNat [])::row T E hT.v rT::rs) w:=h8.pk 3 [2,1,0] rfl
    have h10:=h9.unfoc g1 g2
    have h11:St w0 ros (row T E hT.v rT::fam T E ((hs.set i.toNat hnil).set j.toNat hA) ((ls.set i.toNat []).set j.toNat rA)::rs) w:=h10.pk 2 [1,0] rfl
    have p1:setI ((hs.set i.toNat hnil).set j.toNat hA) i hT=some ((hs.set j.toNat hA).set i.toNat hT):=by
      rw [← set3 hne (x:=hnil) (y:=hA) (z:=hT)]
      exact setI_of b4 (by simpa using b5)
    have p2:setI ((ls.set i.toNat []).set j.toNat rA) i rT=some ((ls.set j.toNat rA).set i.toNat rT):=by
      rw [← set3 hne (x:=[]) (y:=rA) (z:=rT)]
      exact setI_of b4 (by simpa using b6)
    exact h11.fput p1 p2
end
section
variable {α:Type} {w w0 w':World} {ros ros1:List Fact} {rs:List Res} {T To:TypeId} {hs:List Hdr} {ls:List (List α)} {v:Value}
end
def getW {α:Type} (l:List α) (lo hi i:Int):Option α:=if 0≤lo∧0≤i∧i < hi - lo∧hi≤l.length then getI l (lo+i) else none
def setW {α:Type} (l:List α) (lo hi i:Int) (z:α):Option (List α):=if 0≤lo∧0≤i∧i < hi - lo∧hi≤l.length then setI l (lo+i) z else none
theorem getW_g {α:Type} {l:List α} {lo hi i:Int} {z:α} (h:getW l lo hi i=some z):getI l (lo+i)=some z:=by
  unfold getW at h; split at h
  · exact h
  · cases h
theorem setW_g {α:Type} {l m:List α} {lo hi i:Int} {z:α} (h:setW l lo hi i z=some m):setI l (lo+i) z=some m:=by
  unfold setW at h; split at h
  · exact h
  · cases h
section
variable {α:Type} {P:Program} {a:Act} {w w0:World} {d:Option Tmp} {T e t:TypeId} {p:String} {af:Array Edge} {g:Option (Nat×Bool)} {ros:List Fact} {rs:List Res} {x y:Operand} {E:Rp α} {q z:α} {l m:List α} {h:Hdr} {lo hi i:Int}
theorem eAddr_sub {X:Nat→Prop} (hs:Sees w X E h.v l) (h0:0≤lo) (h1:0≤i) (h2:i < hi - lo) (h3:hi≤l.length):eAddr (subH h E.s lo hi).v E.s i=eAddr h.v E.s (lo+i):=by
  obtain ⟨b,cap,hv,hc,hm,hx⟩:=hs
  obtain ⟨ha',hn',hc'⟩:h.a=b∧h.n=l.length∧h.c=cap:=by simpa [Hdr.v] using hv
  have hne:¬ cap=lo.toNat:=by omega
  obtain ⟨ha,_⟩:=hx 0 (l[0]'(by omega)) (List.getElem?_eq_getElem (by omega))
  have hadd:sAddr (subH h E.s lo hi).v=(sAddr h.v).add (lo.toNat*E.s):=by
    have e:h.a=some (sAddr h.v):=ha'.trans ha
    have:(subH h E.s lo hi).a=some ((sAddr h.v).add (lo.toNat*E.s)):=by
      show (if h.c=lo.toNat then h.a else h.a.map _)=_
      rw [if_neg (by rw [hc']; exact hne),e]; rfl
    show sAddr (.slice (subH h E.s lo hi).a _ _)=_
    rw [this]; rfl
  unfold eAddr
  rw [hadd,add_add,show (lo+i).toNat=lo.toNat+i.toNat by omega,Nat.add_mul]
theorem yWraw {ik:IntKind} (hS:SlT P T e E q) (hx:a.eval x=(subH h E.s lo hi).v) (hy:a.eval y=.int ik i) (hst:St w0 ros rs w) (hr:Rd ros rs E h.v l) (h0:0≤lo) (h1:0≤i) (h2:i < hi - lo) (h3:hi≤l.length):Yi P a w ⟨d,.indexAddr T x y,t,p,af,g⟩ (eAddr h.v E.s (lo+i)):=by
  obtain ⟨X,_,hs⟩:=hr.sees hst
  rw [← eAddr_sub hs h0 h1 h2 h3]
  have hl:=subL_length (l:=l) h0 (show lo≤hi by omega) h3
  exact yia_raw hS hx hy (sees_sub hs h0 (by omega) h3) h1 (by rw [hl]; omega)
theorem yIaW {ik:IntKind} (hS:SlT P T e E q) (hx:a.eval x=(subH h E.s lo hi).v) (hy:a.eval y=.int ik i) (hst:St w0 ros rs w) (hr:Rd ros rs E h.v l) (hz:getW l lo hi i=some z):Yi P a w ⟨d,.indexAddr T x y,t,p,af,g⟩ (eAddr h.v E.s (lo+i)):=by
  unfold getW at hz; split at hz
  · rename_i hc; exact yWraw hS hx hy hst hr hc.1 hc.2.1 hc.2.2.1 hc.2.2.2
  · cases hz
theorem yIsW {ik:IntKind} (hS:SlT P T e E q) (hx:a.eval x=(subH h E.s lo hi).v) (hy:a.eval y=.int ik i) (hst:St w0 ros rs w) (hr:Rd ros rs E h.v l) (hz:setW l lo hi i z=some m):Yi P a w ⟨d,.indexAddr T x y,t,p,af,g⟩ (eAddr h.v E.s (lo+i)):=by
  unfold setW at hz; split at hz
  · rename_i hc; exact yWraw hS hx hy hst hr hc.1 hc.2.1 hc.2.2.1 hc.2.2.2
  · cases hz
end
section
variable {α:Type} {w w0:World} {ros:List Fact} {rs:List Res} {T:TypeId} {E:Rp α} {hs:List Hdr} {ls ls':List (List α)} {l l' m:List α} {h h':Hdr} {i j:Int} {u:Unit}
theorem St.foc2 (hne:neI i j=some u) (h1:getI hs i=some h) (h2:getI ls i=some l) (k1:getI hs j=some h') (k2:getI ls j=some l') (hst:St w0 ros (fam T E hs ls::rs) w):
    St w0 ros (row T E h.v l::row T E h'.v l'::famx T E j.toNat (hs.set i.toNat hnil) (ls.set i.toNat [])::rs) w:=by
  obtain ⟨a0,_,_⟩:=getI_some h1
  obtain ⟨b0,_,_⟩:=getI_some k1
  have hn:i.toNat≠j.toNat:=by have:=neI_some hne; omega
  have h5:=(hst.foc h1 h2).rowNh T E
  have h6:St w0 ros (row T E hnil.v ([]:List α)::famx T E i.toNat hs ls::row T E h.v l::rs) w:=h5.pk 3 [0,1,0] rfl
  have h7:=h6.unfoc h1 h2
  have g1:getI (hs.set i.toNat hnil) j=some h':=getI_of b0 (by rw [List.getElem?_set_ne hn]; exact getI_nat k1)
  have g2:getI (ls.set i.toNat []) j=some l':=getI_of b0 (by rw [List.getElem?_set_ne hn]; exact getI_nat k2)
  exact (h7.foc g1 g2).pk 3 [2,0,0] rfl
theorem St.unfoc2 (hne:neI i j=some u) (h1:getI hs i=some h) (k1:getI hs j=some h') (k2:getI ls j=some l') (hq:setI ls i m=some ls')
    (hst:St w0 ros (row T E h.v m::row T E h'.v l'::famx T E j.toNat (hs.set i.toNat hnil) (ls.set i.toNat [])::rs) w):St w0 ros (fam T E hs ls'::rs) w:=by
  obtain ⟨a0,a1,_⟩:=getI_some h1
  obtain ⟨b0,_,_⟩:=getI_some k1
  obtain ⟨c0,c1,rfl⟩:=setI_some hq
  have hn:i.toNat≠j.toNat:=by have:=neI_some hne; omega
  have e1:(hs.set i.toNat hnil)[j.toNat]?=some h':=by rw [List.getElem?_set_ne hn]; exact getI_nat k1
  have e2:(ls.set i.toNat [])[j.toNat]?=some l':=by rw [List.getElem?_set_ne hn]; exact getI_nat k2
  have h5:St w0 ros (row T E h'.v l'::famx T E j.toNat (hs.set i.toNat hnil) (ls.set i.toNat [])::row T E h.v m::rs) w:=hst.pk 3 [1,1,0] rfl
  have h6:=h5.unfoc (getI_of b0 e1) (getI_of b0 e2)
  rw [set_self e1,set_self e2] at h6
  have h7:St w0 ros (row T E h.v m::fam T E (hs.set i.toNat hnil) (ls.set i.toNat [])::rs) w:=h6.pk 2 [1,0] rfl
  have p1:setI (hs.set i.toNat hnil) i h=some hs:=by
    rw [setI_of a0 (by simpa using a1),List.set_set,set_self (getI_nat h1)]
  have p2:setI (ls.set i.toNat []) i m=some (ls.set i.toNat m):=by
    rw [setI_of a0 (by simpa using c1),List.set_set]
  exact h7.fput p1 p2
end
def ng:Exit→Bool | .goto _=>false | _=>true
theorem scopeQ {P:Program} {Q:Exit→Act→World→Prop} {a:Act} {w:World} {c:Code} (h:∀ Q':Exit→Act→World→Prop,(∀ e a w,ng e=true→Q e a w→Q' e a w)→c.wp P Q' a w):(Code.scope c).wp P Q a w:=
  wp_scope_straight (h _ fun e a w he hq=>by cases e<;>first | (simp [ng] at he; done) | exact hq)
structure FldV (P:Program) (T:TypeId) (i off:Nat):Prop where
  fv:∃ fs fd du,P.underlying T=some (.struct fs)∧fs[i]?=some fd∧P.underlying fd.type=some du∧nonAgg du=true∧fd.offset=off
def isFldV (P:Program) (T i off:Nat):Bool:=match P.underlying T with
  | some (.struct fs)=>match fs[i]? with
    | some fd=>match P.underlying fd.type with
      | some du=>nonAgg du && Nat.beq fd.offset off
      | none=>false
    | none=>false
  | _=>false
theorem fvOf {P:Program} {T i off:Nat} (h:isFldV P T i off=true):FldV P T i off:=by
  unfold isFldV at h
  split at h
  · rename_i fs h1
    split at h
    · rename_i fd h2
      split at h
      · rename_i du h3
        simp only [Bool.and_eq_true] at h
        exact ⟨fs,fd,du,h1,h2,h3,h.1,Nat.eq_of_beq_eq_true h.2⟩
      · cases h
    · cases h
  · cases h
theorem yFv {P:Program} {a:Act} {w:World} {d:Option Tmp} {T t:TypeId} {p:String} {af:Array Edge} {g:Option (Nat×Bool)} {x:Operand} {u:Value} {i off:Nat} {cs:List Value} (hF:FldV P T i off) (hx:a.eval x=.agg cs.toArray) (hu:cs[off]?=some u):Yi P a w ⟨d,.field T x i,t,p,af,g⟩ u:=by
  obtain ⟨fs,fd,du,h1,h2,h3,h4,rfl⟩:=hF.fv
  exact yfv h1 h2 h3 h4 hx hu
section
variable {P:Program} {a:Act} {w w0:World} {d:Option Tmp} {T t:TypeId} {p:String} {af:Array Edge} {g:Option (Nat×Bool)} {x:Operand} {v:Value} {i:Int} {ros:List Fact} {rs:List Res}
end
section
variable {P:Program} {w:World} {fn:Func} {R:Ending→World→Prop} {n:Nat} {f:Nat→Value}
theorem fin4 {r1 r2 r3 r4:ResultVar} {v1 v2 v3 v4:Value} (hr:fn.results=#[r1,r2,r3,r4]) (h1:RV P f w n r1 v1) (h2:RV P f w n r2 v2) (h3:RV P f w n r3 v3) (h4:RV P f w n r4 v4) (h:R (.returned (.tuple #[v1,v2,v3,v4])) w):bodyPost P fn R .ret (fr n f) w∧bodyPost P fn R .normal (fr n f) w:=by
  have e:(results fn (fr n f).tmps).run P w=.ok (.tuple #[v1,v2,v3,v4]) w:=by
    have e1:=rv_run h1
    have e2:=rv_run h2
    have e3:=rv_run h3
    have e4:=rv_run h4
    simp only [results_eq,hr,Sem.run_bind,Array.mapM_eq_mapM_toList,List.mapM_cons,List.mapM_nil]
    simp only [Sem.run_bind,Sem.run_map,e1,e2,e3,e4,Result.andThen_ok,Sem.run_pure]
    rfl
  exact ⟨⟨rfl,_,e,h⟩,⟨rfl,_,e,h⟩⟩
theorem fin4r {r1 r2 r3 r4:ResultVar} {v1 v2 v3 v4:Value} (hr:fn.results=#[r1,r2,r3,r4]) (h1:RV P f w n r1 v1) (h2:RV P f w n r2 v2) (h3:RV P f w n r3 v3) (h4:RV P f w n r4 v4) (h:R (.returned (.tuple #[v1,v2,v3,v4])) w):bodyPost P fn R .ret (fr n f) w:=(fin4 hr h1 h2 h3 h4 h).1
end
structure Pn where
  v:Value
  s:Nat
  i:Int
  cs:List Value
section
variable {α:Type} {w0 w:World} {ros:List Fact} {rs:List Res} {r:Res} {ps:List Pn} {T:TypeId} {E:Rp α} {v:Value} {l:List α} {ls:List (List α)} {hs:List Hdr} {h:Hdr} {z:α} {i k:Int} {s:Nat} {cs:List Value}
end
end Sx
