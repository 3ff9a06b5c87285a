/- Queues: a slice of the call's own whose head is cut off, and that is appended to. It holds over any program. -/
import Derived.Test.YtoahkigijbeegaaGreatDoorSxL
namespace Sx
open Go
def rowS {α:Type} (T:TypeId) (E:Rp α) (v:Value) (l:List α):Res where
 holds w X F:=l.length≤maxLen∧∃ cs:List (CS E.s),All2 w X E cs l∧((v=.slice none 0 0∧l=[])∨∃ g o cap cur,v=.slice (some ⟨g,o,none⟩) l.length cap∧w.heap[g]?=some (.cells cur T (0,0))∧l.length≤cap∧cap≤maxLen∧o+cap*E.s≤cur.size∧(cur.toList.drop o).take (l.length*E.s)=cellsOf cs)∧∀ b,F b↔v.ownBlock=some b
 loc:=fun ⟨hm,cs,ha,h,he⟩ hX hs hF=>by
  refine ⟨hm,cs,ha.mono hX hs,?_,he⟩
  rcases h with h | ⟨g,o,cap,cur,hv,hg,r⟩
  ·exact .inl h
  ·exact .inr ⟨g,o,cap,cur,hv,by rw [hF g ((he g).2 (by rw [hv]; rfl))]; exact hg,r⟩
 lt:=fun {w X F b} ⟨hm,cs,ha,h,he⟩ hb=>by
  have h1:=(he _).1 hb
  rcases h with ⟨rfl,_⟩ | ⟨g,o,cap,cur,rfl,hg,_⟩
  ·simp [Value.ownBlock] at h1
  ·simp [Value.ownBlock] at h1
   subst h1
   exact (yd.1 hg).1
section
variable {P:Program} {α:Type} {E:Rp α} {q:α} {l m k:List α} {a:Act} {w0 w:World} {mu:List Fact} {rs:List Res} {d:Option Tmp} {t:TypeId} {p:String} {af:Array Edge} {g:Option (Nat×Bool)} {x y:Operand} {v u:Value} {T U e:TypeId} {h:Hdr}
theorem St.toQ (nu:St w0 mu (row T E v l::rs) w):St w0 mu (rowS T E v l::rs) w:=by
 refine nu.conv fun X F ⟨hm,cs,ha,⟨hl,hh⟩,he⟩=>⟨hm,cs,ha,?_,he⟩
 rcases hh with ⟨rfl,hn⟩ | ⟨g,cap,cur,rfl,ME,hg,Bv,jy,Mu,vv⟩
 ·exact .inl ⟨rfl,P6 hn⟩
 ·exact .inr ⟨g,0,cap,cur,rfl,hg,Bv,jy,n0,by rw [y8]; exact vv⟩
theorem ux {X F:Nat→Prop} (h:(rowS T E v l).holds w X F):Sees w X E v l:=by
 obtain ⟨hm,cs,ha,h,he⟩:=h
 rcases h with ⟨rfl,rfl⟩ | ⟨g,o,cap,cur,rfl,hg,Bv,jy,Mu,vv⟩
 ·exact ⟨none,0,rfl,G0,G0,fun i x hi=>by simp at hi⟩
 ·refine ⟨_,cap,rfl,Bv,hm,fun i x hi=>⟨rfl,?_⟩⟩
  have wF:i < cs.length:=by rw [ha.1]; exact (C2.1 hi).1
  have hc:cs[i]?=some cs[i]:=by simp [wF]
  refine ⟨cs[i].1,ha.2 i _ x hc hi,fun j u hu=>?_⟩
  have h1:=Cc hc hu
  rw [← vv,K5] at h1
  split at h1
  ·simp only [sAddr]
   rw [M7,cell_of_row w g _ cur T (0,0) hg]
   rw [B6] at h1
   simpa using h1
  ·cases h1
theorem rdQ (h:rowS T E v l∈rs):Rd mu rs E v l:=fun _ _ _ nu=>by obtain ⟨F,hF⟩:=nu.own.get h; exact ux hF
theorem St.qcut {lo hi:Int} (nu:St w0 mu (rowS T E h.v l::rs) w) (hk:sli l lo hi=some m) (hh:hi=l.length):St w0 mu (rowS T E (subH h E.s lo hi).v m::rs) w:=by
 obtain ⟨rfl,h0,h1,_⟩:=Ta hk
 subst hh
 have fL:subL l lo (l.length:Int)=l.drop lo.toNat:=by unfold subL; rw [H1,M6]
 rw [fL]
 refine nu.upd fun X F DF ⟨hm,cs,ha,hr,he⟩=>?_
 rcases hr with ⟨hv,rfl⟩ | ⟨g,o,cap,cur,hv,hg,Bv,jy,Mu,vv⟩
 ·have WD:h.a=none∧h.n=0∧h.c=0:=by simpa [Hdr.v] using hv
  obtain ⟨e1,e2,e3⟩:=WD
  simp only [A6] at h1
  have JG:lo.toNat=0:=n0
  have hs:(subH h E.s lo ((([]:List α).length:Nat):Int)).v=.slice none 0 0:=by
   simp [subH,Hdr.v,e1,e3,JG]
  refine ⟨fun _=>False,fun _=>⟨G0,[],⟨G0,fun i c x hc=>by simp at hc⟩,.inl ⟨hs,G0⟩,fun b=>by rw [hs]; simp [Value.ownBlock]⟩,fun b hb=>hb.elim,Chg.refl _ _⟩
 ·have WD:h.a=some ⟨g,o,none⟩∧h.n=l.length∧h.c=cap:=by simpa [Hdr.v] using hv
  obtain ⟨e1,e2,e3⟩:=WD
  have Nu:lo.toNat≤l.length:=n0
  have hE:∀ c:List (CS E.s),True:=fun _=>trivial
  have lF:cellsOf (cs.drop lo.toNat)=(cur.toList.drop (o+lo.toNat*E.s)).take ((l.drop lo.toNat).length*E.s):=by
   rw [Xr,← vv,List.drop_take,G9,P7,Nat.sub_mul]
  refine ⟨fun b=>b=g,fun hs=>⟨by simp only [P7]; omega,cs.drop lo.toNat,(ha.mono hs (fun _ h=>h)).drop _,?_,?_⟩,fun b hb=>.inl ((he b).2 (by rw [hv]; simp [Value.ownBlock]; exact hb.symm)),Chg.refl _ _⟩
  ·right
   by_cases hc:cap=lo.toNat
   ·refine ⟨g,o,0,cur,?_,hg,?_,G0,n0,?_⟩
    ·simp [subH,Hdr.v,e1,e3,hc]
    ·simp only [P7]; omega
    ·rw [lF]
     have:(l.drop lo.toNat).length=0:=by simp only [P7]; omega
     rw [this]; simp
   ·refine ⟨g,o+lo.toNat*E.s,cap - lo.toNat,cur,?_,hg,?_,n0,?_,lF.symm⟩
    ·simp [subH,Hdr.v,e1,e3,hc,M7]
    ·simp only [P7]; omega
    ·rw [Nat.sub_mul]
     have:lo.toNat*E.s≤cap*E.s:=q8 _ n0
     omega
  ·intro b
   have:(subH h E.s lo (l.length:Int)).v.ownBlock=some g:=by
    by_cases hc:cap=lo.toNat
    ·simp [subH,Hdr.v,e1,e3,hc,Value.ownBlock]
    ·simp [subH,Hdr.v,e1,e3,hc,Value.ownBlock,M7]
   rw [this]
   simp [eq_comm]
theorem rQAp (nu:St w0 mu (rowS e E h.v l::rs) w) (hS:SlT P T e E q) (hx:a.eval x=h.v) (hy:a.eval y=u) (hu:Rd mu (rowS e E h.v l::rs) E u m) (Bu:m≠[]) (hk:app l m=some k):
  ∃ (h':Hdr) (w':World),(execOp a.eval ⟨d,.call ⟨.builtin .append,#[x,y],#[T,T]⟩,t,p,af,g⟩).run P w=.ok (.value h'.v) w'∧St w0 mu (rowS e E h'.v k::rs) w':=by
 obtain ⟨X,hX⟩:=nu
 have Tu:Sees w X E u m:=hu _ _ _ hX
 obtain ⟨ti,zv,hi,Mu,IG,hz,sE⟩:=hS.inf
 obtain ⟨rfl,hb⟩:=Fs hk
 unfold BIG at hb
 have xH:zv.cells.size=E.s:=by have:=E.len (sE w X); simpa using this
 have wH:l.length+m.length≤maxLen:=by simp only [maxLen]; omega
 have Gu:(l.length+m.length)*ti.bytes≤140737488355328:=by
  have:(l.length+m.length)*ti.bytes≤1099511627776*128:=F5 n0 IG
  omega
 have cN:0 < m.length:=by cases m with | nil=>exact absurd rfl Bu | cons=>simp
 obtain ⟨ad,mcap,rfl,dN⟩:∃ ad mcap,u=.slice (some ad) m.length mcap∧m.length≤mcap:=by
  obtain ⟨a',cap,rfl,hc,_,hx⟩:=Tu
  obtain ⟨z,m',rfl⟩:=kD Bu
  cases a' with
  | none=>have:=(hx 0 z rfl).1; cases this
  | some ad=>exact ⟨ad,cap,rfl,hc⟩
 obtain ⟨c2,yF,Tw⟩:=Do Tu
 have sy:=yF.1
 obtain ⟨F0,⟨hm,cs,ha,hr,he⟩,_⟩:=hX.own
 rcases hr with ⟨hv,rfl⟩ | ⟨gb,o,cap,cur,hv,hg,Bv,jy,XO,vv⟩
 ·
  have CO:StX w0 X mu (row e E h.v ([]:List α)::rs) w:=hX.upd (w':=w) (r1:=row e E h.v []) fun F hF _=>⟨F,fun _=>by
   obtain ⟨_,_,_,_,LF⟩:=hF
   exact ⟨G0,[],All2.nil,by rw [hv]; exact World.ownsRow_nil w 0 e E.s,LF⟩,fun _ h=>.inl h,Chg.refl _ _⟩
  obtain ⟨v',w',k1,k2⟩:=bp (P:=P) (d:=d) (t:=t) (p:=p) (af:=af) (g:=g) CO hS hx hy Tu hk
  obtain ⟨h',rfl⟩:=(rdO (.head _):Rd mu (row e E v' _::rs) E v' _).hdr k2
  exact ⟨h',w',k1,k2.toQ⟩
 ·have holds:∀ j u,(cellsOf cs)[j]?=some u→w.cell? ((⟨gb,o,none⟩:Addr).add j)=some u:=by
   intro j u hj
   rw [← vv,K5] at hj
   split at hj
   ·rw [M7,cell_of_row w gb _ cur e (0,0) hg]
    rw [B6] at hj
    simpa using hj
   ·cases hj
  have Ev:l.length*E.s≤cap*E.s:=q8 _ Bv
  have iF:(cellsOf cs).length=l.length*E.s:=by rw [K4,ha.1]
  have Gv:(cellsOf c2).length=m.length*E.s:=by rw [K4,sy]
  by_cases By:l.length+m.length≤cap
  ·have OF:o+l.length*E.s+(cellsOf c2).length≤cur.size:=by
    rw [Gv]
    have:(l.length+m.length)*E.s≤cap*E.s:=q8 _ By
    rw [S5] at this
    omega
   have hf:=run_firstCells_some (P:=P) w ti.size m.length ad m.length mcap (cellsOf c2) (by rw [Gv,Mu]) Tw
   have hs:=run_storeCells_at (P:=P) gb (o+l.length*E.s) e (cellsOf c2) 0 cur w hg (by simpa using OF) (fun u hu=>mf u hu)
   simp only [l7] at hs
   have MG:(Builtin.append_ #[T,T] t #[h.v,.slice (some ad) m.length mcap]).run P w=.ok (.slice (some ⟨gb,o,none⟩) (l.length+m.length) cap) (w.setRow gb (cur.toList.take (o+l.length*E.s)++cellsOf c2++cur.toList.drop (o+l.length*E.s+(cellsOf c2).length)).toArray):=by
    rw [hv]
    rw [Mu] at hf
    simp [Builtin.append_,run_underlying hS.und,Go.sizeOf,typeInfo,hi,Mu,Builtin.lenOf,By,hf,M7,hs]
   refine ⟨⟨some ⟨gb,o,none⟩,l.length+m.length,cap⟩,_,by have e0:=MG; simp [execOp,resolve,invoke,builtin,hx,hy,e0]; exact ⟨rfl,rfl⟩,X,hX.upd fun F hF _=>⟨F,fun Fu=>?_,fun _ h=>.inl h,Chg.setRow (b:=gb) ?_⟩⟩
   ·obtain ⟨_,_,_,_,LF⟩:=hF
    have FE:=(ha.app yF).mono Fu (fun _ h=>h)
    refine ⟨by simpa using wH,cs++c2,FE,.inr ⟨gb,o,cap,_,by simp [Hdr.v],setRow_heap w gb cur _ e (0,0) hg,by simpa using By,jy,?_,?_⟩,fun b=>by rw [LF b,hv]; simp [Hdr.v,Value.ownBlock]⟩
    ·simp only [Mc,H2,A4,P7,J9]
     omega
    ·rw [s9,← vv]
     simp only [H2,S5]
     have oy:cur.toList.length=cur.size:=J9
     apply C6
     intro j
     simp only [K5,qj,B6,H2,A4,P7,oy,Gv,List.toList_toArray]
     have f1:min (o+l.length*E.s) cur.size=o+l.length*E.s:=n0
     have f2:min (l.length*E.s) (cur.size - o)=l.length*E.s:=n0
     rw [f1,f2]
     by_cases hj:j < l.length*E.s+m.length*E.s
     ·rw [I0 hj]
      by_cases zE:j < l.length*E.s
      ·rw [I0 (show o+j < o+l.length*E.s by omega)]
       simp [zE]
      ·rw [J0 (show ¬ o+j < o+l.length*E.s by omega),show o+j - (o+l.length*E.s)=j - l.length*E.s by omega,I0 (show j - l.length*E.s < m.length*E.s by omega)]
       simp [zE]
     ·rw [J0 hj,J0 (show ¬ j < l.length*E.s by omega),L5 (by rw [Gv]; omega)]
   ·obtain ⟨_,_,_,_,LF⟩:=hF
    exact (LF gb).2 (by rw [hv]; rfl)
  ·have MG:=run_append_grow (P:=P) w T t e ti zv hS.und hi hz ⟨gb,o,none⟩ l.length cap (cellsOf cs) (by rw [iF,Mu]) holds ad m.length mcap (cellsOf c2) (by rw [Gv,Mu]) Tw n0 n0 (growslice_fits n0 Gu)
   have nv:=grownCap_ge w (l.length+m.length) cap e
   have hle:=grownCap_le_maxLen w (l.length+m.length) cap e wH
   refine ⟨⟨some ⟨w.heap.size,0,none⟩,l.length+m.length,grownCap w (l.length+m.length) cap e⟩,_,by have e0:=MG; rw [← hv] at e0; simp [execOp,resolve,invoke,builtin,hx,hy,e0]; exact ⟨rfl,rfl⟩,X,hX.upd fun F hF _=>⟨fun b=>b=w.heap.size,fun Fu=>?_,fun b hb=>.inr n0,(Chg.drew F w).trans (Chg.alloc F _ _)⟩⟩
   have FE:=(ha.app yF).mono Fu (fun _ h=>h)
   refine ⟨by simpa using wH,cs++c2,FE,.inr ⟨w.heap.size,0,grownCap w (l.length+m.length) cap e,_,by simp [Hdr.v],heap_alloc_new (World.drew w) _,by simpa using nv,hle,?_,?_⟩,fun b=>by simp [Hdr.v,Value.ownBlock]; exact eq_comm⟩
   ·rw [Array.size_append,size_zeroCells,xH,Mc,H2,iF,Gv]
    rw [o8,← S5,← S5,jt nv]
    exact O4 _
   ·rw [s9,y8,Array.toList_append,Kc]
    simp only [H2,iF,Gv,S5]
end
end Sx
