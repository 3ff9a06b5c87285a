/- Queues: a slice of the call's own whose head is cut off, and that is appended to. It holds over any program. -/
import Derived.Test.YthekfonboblioacGreatDoorSxL
namespace Sx
open Go
def rowS {α:Type} (T:TypeId) (E:Rp α) (v:Value) (l:List α):Res where
 holds w X F:=l.length≤maxLen∧∃ cs:List (CS E.s),All2 w X E cs l∧((v=.slice none 0 0∧l=[])∨∃ g o cap cur,v=.slice (some ⟨g,o,none⟩) l.length cap∧w.heap[g]?=some (.cells cur T (0,0))∧l.length≤cap∧cap≤maxLen∧o+cap*E.s≤cur.size∧(cur.toList.drop o).take (l.length*E.s)=cellsOf cs)∧∀ b,F b↔v.ownBlock=some b
 loc:=fun ⟨hm,cs,ha,h,he⟩ hX hs hF=>by
  refine ⟨hm,cs,ha.mono hX hs,?_,he⟩
  rcases h with h | ⟨g,o,cap,cur,hv,hg,r⟩
  ·exact .inl h
  ·exact .inr ⟨g,o,cap,cur,hv,by rw [hF g ((he g).2 (by rw [hv]; rfl))]; exact hg,r⟩
 lt:=fun {w X F b} ⟨hm,cs,ha,h,he⟩ hb=>by
  have h1:=(he _).1 hb
  rcases h with ⟨rfl,_⟩ | ⟨g,o,cap,cur,rfl,hg,_⟩
  ·simp [Value.ownBlock] at h1
  ·simp [Value.ownBlock] at h1
   subst h1
   exact (ph.1 hg).1
section
variable {P:Program} {α:Type} {E:Rp α} {q:α} {l m k:List α} {a:Act} {w0 w:World} {ros:List Fact} {rs:List Res} {d:Option Tmp} {t:TypeId} {p:String} {af:Array Edge} {g:Option (Nat×Bool)} {x y:Operand} {v u:Value} {T U e:TypeId} {h:Hdr}
theorem St.toQ (hst:St w0 ros (row T E v l::rs) w):St w0 ros (rowS T E v l::rs) w:=by
 refine hst.conv fun X F ⟨hm,cs,ha,⟨hl,hh⟩,he⟩=>⟨hm,cs,ha,?_,he⟩
 rcases hh with ⟨rfl,hn⟩ | ⟨g,cap,cur,rfl,hg0,hg,hcap,hmax,hsz,htake⟩
 ·exact .inl ⟨rfl,U6 hn⟩
 ·exact .inr ⟨g,0,cap,cur,rfl,hg,hcap,hmax,A0,by rw [B9]; exact htake⟩
theorem Wq {X F:Nat→Prop} (h:(rowS T E v l).holds w X F):Sees w X E v l:=by
 obtain ⟨hm,cs,ha,h,he⟩:=h
 rcases h with ⟨rfl,rfl⟩ | ⟨g,o,cap,cur,rfl,hg,hcap,hmax,hsz,htake⟩
 ·exact ⟨none,0,rfl,H0,H0,fun i x hi=>by simp at hi⟩
 ·refine ⟨_,cap,rfl,hcap,hm,fun i x hi=>⟨rfl,?_⟩⟩
  have hi2:i < cs.length:=by rw [ha.1]; exact (S2.1 hi).1
  have hc:cs[i]?=some cs[i]:=by simp [hi2]
  refine ⟨cs[i].1,ha.2 i _ x hc hi,fun j u hu=>?_⟩
  have h1:=jd hc hu
  rw [← htake,A6] at h1
  split at h1
  ·simp only [sAddr]
   rw [ia,cell_of_row w g _ cur T (0,0) hg]
   rw [G8] at h1
   simpa using h1
  ·cases h1
theorem rdQ (h:rowS T E v l∈rs):Rd ros rs E v l:=fun _ _ _ hst=>by obtain ⟨F,hF⟩:=hst.own.get h; exact Wq hF
theorem St.fzq (hst:St w0 ros (rowS T E v l::rs) w):St w0 (imm E v l::ros) rs w:=hst.freeze fun X F h=>by
 refine ⟨(Wq h).mono (Same.refl _ _) (fun b hb=>.inl hb) (fun _ _ _=>rfl),fun _ b hb=>.inr ?_⟩
 obtain ⟨hm,cs,ha,hr,he⟩:=h
 rw [he]
 revert hb
 unfold sBlk Value.ownBlock
 split<;>simp
theorem St.qcut {lo hi:Int} (hst:St w0 ros (rowS T E h.v l::rs) w) (hk:sli l lo hi=some m) (hh:hi=l.length):St w0 ros (rowS T E (subH h E.s lo hi).v m::rs) w:=by
 obtain ⟨rfl,h0,h1,_⟩:=Yd hk
 subst hh
 have hsub:subL l lo (l.length:Int)=l.drop lo.toNat:=by unfold subL; rw [A1,E8]
 rw [hsub]
 refine hst.upd fun X F hro ⟨hm,cs,ha,hr,he⟩=>?_
 rcases hr with ⟨hv,rfl⟩ | ⟨g,o,cap,cur,hv,hg,hcap,hmax,hsz,htake⟩
 ·have hv':h.a=none∧h.n=0∧h.c=0:=by simpa [Hdr.v] using hv
  obtain ⟨e1,e2,e3⟩:=hv'
  simp only [N2] at h1
  have h00:lo.toNat=0:=A0
  have hs:(subH h E.s lo ((([]:List α).length:Nat):Int)).v=.slice none 0 0:=by
   simp [subH,Hdr.v,e1,e3,h00]
  refine ⟨fun _=>False,fun _=>⟨H0,[],⟨H0,fun i c x hc=>by simp at hc⟩,.inl ⟨hs,H0⟩,fun b=>by rw [hs]; simp [Value.ownBlock]⟩,fun b hb=>hb.elim,Chg.refl _ _⟩
 ·have hv':h.a=some ⟨g,o,none⟩∧h.n=l.length∧h.c=cap:=by simpa [Hdr.v] using hv
  obtain ⟨e1,e2,e3⟩:=hv'
  have hlo:lo.toNat≤l.length:=A0
  have hE:∀ c:List (CS E.s),True:=fun _=>trivial
  have hcells:cellsOf (cs.drop lo.toNat)=(cur.toList.drop (o+lo.toNat*E.s)).take ((l.drop lo.toNat).length*E.s):=by
   rw [Wt,← htake,List.drop_take,na,y6,Nat.sub_mul]
  refine ⟨fun b=>b=g,fun hs=>⟨by simp only [y6]; omega,cs.drop lo.toNat,(ha.mono hs (fun _ h=>h)).drop _,?_,?_⟩,fun b hb=>.inl ((he b).2 (by rw [hv]; simp [Value.ownBlock]; exact hb.symm)),Chg.refl _ _⟩
  ·right
   by_cases hc:cap=lo.toNat
   ·refine ⟨g,o,0,cur,?_,hg,?_,H0,A0,?_⟩
    ·simp [subH,Hdr.v,e1,e3,hc]
    ·simp only [y6]; omega
    ·rw [hcells]
     have:(l.drop lo.toNat).length=0:=by simp only [y6]; omega
     rw [this]; simp
   ·refine ⟨g,o+lo.toNat*E.s,cap - lo.toNat,cur,?_,hg,?_,A0,?_,hcells.symm⟩
    ·simp [subH,Hdr.v,e1,e3,hc,ia]
    ·simp only [y6]; omega
    ·rw [Nat.sub_mul]
     have:lo.toNat*E.s≤cap*E.s:=M9 _ A0
     omega
  ·intro b
   have:(subH h E.s lo (l.length:Int)).v.ownBlock=some g:=by
    by_cases hc:cap=lo.toNat
    ·simp [subH,Hdr.v,e1,e3,hc,Value.ownBlock]
    ·simp [subH,Hdr.v,e1,e3,hc,Value.ownBlock,ia]
   rw [this]
   simp [eq_comm]
theorem rQAp (hst:St w0 ros (rowS e E h.v l::rs) w) (hS:SlT P T e E q) (hx:a.eval x=h.v) (hy:a.eval y=u) (hu:Rd ros (rowS e E h.v l::rs) E u m) (hne:m≠[]) (hk:app l m=some k):
  ∃ (h':Hdr) (w':World),(execOp a.eval ⟨d,.call ⟨.builtin .append,#[x,y],#[T,T]⟩,t,p,af,g⟩).run P w=.ok (.value h'.v) w'∧St w0 ros (rowS e E h'.v k::rs) w':=by
 obtain ⟨X,hX⟩:=hst
 have hsee:Sees w X E u m:=hu _ _ _ hX
 obtain ⟨ti,zv,hi,hsz,hby,hz,hzc⟩:=hS.inf
 obtain ⟨rfl,hb⟩:=ga hk
 unfold BIG at hb
 have hzs:zv.cells.size=E.s:=by have:=E.len (hzc w X); simpa using this
 have h63:l.length+m.length≤maxLen:=by simp only [maxLen]; omega
 have hbytes:(l.length+m.length)*ti.bytes≤140737488355328:=by
  have:(l.length+m.length)*ti.bytes≤1099511627776*128:=D8 A0 hby
  omega
 have hmpos:0 < m.length:=by cases m with | nil=>exact absurd rfl hne | cons=>simp
 obtain ⟨ad,mcap,rfl,hmcap⟩:∃ ad mcap,u=.slice (some ad) m.length mcap∧m.length≤mcap:=by
  obtain ⟨a',cap,rfl,hc,_,hx⟩:=hsee
  obtain ⟨z,m',rfl⟩:=ID hne
  cases a' with
  | none=>have:=(hx 0 z rfl).1; cases this
  | some ad=>exact ⟨ad,cap,rfl,hc⟩
 obtain ⟨c2,hA2,hnews⟩:=Gq hsee
 have hl2:=hA2.1
 obtain ⟨F0,⟨hm,cs,ha,hr,he⟩,_⟩:=hX.own
 rcases hr with ⟨hv,rfl⟩ | ⟨gb,o,cap,cur,hv,hg,hcap,hmax,hszc,htake⟩
 ·
  have hX2:StX w0 X ros (row e E h.v ([]:List α)::rs) w:=hX.upd (w':=w) (r1:=row e E h.v []) fun F hF _=>⟨F,fun _=>by
   obtain ⟨_,_,_,_,hF2⟩:=hF
   exact ⟨H0,[],All2.nil,by rw [hv]; exact World.ownsRow_nil w 0 e E.s,hF2⟩,fun _ h=>.inl h,Chg.refl _ _⟩
  obtain ⟨v',w',k1,k2⟩:=sr (P:=P) (d:=d) (t:=t) (p:=p) (af:=af) (g:=g) hX2 hS hx hy hsee hk
  obtain ⟨h',rfl⟩:=(rdO (.head _):Rd ros (row e E v' _::rs) E v' _).hdr k2
  exact ⟨h',w',k1,k2.toQ⟩
 ·have holds:∀ j u,(cellsOf cs)[j]?=some u→w.cell? ((⟨gb,o,none⟩:Addr).add j)=some u:=by
   intro j u hj
   rw [← htake,A6] at hj
   split at hj
   ·rw [ia,cell_of_row w gb _ cur e (0,0) hg]
    rw [G8] at hj
    simpa using hj
   ·cases hj
  have hml:l.length*E.s≤cap*E.s:=M9 _ hcap
  have hclen:(cellsOf cs).length=l.length*E.s:=by rw [H4,ha.1]
  have hc2len:(cellsOf c2).length=m.length*E.s:=by rw [H4,hl2]
  by_cases hroom:l.length+m.length≤cap
  ·have hfit:o+l.length*E.s+(cellsOf c2).length≤cur.size:=by
    rw [hc2len]
    have:(l.length+m.length)*E.s≤cap*E.s:=M9 _ hroom
    rw [T6] at this
    omega
   have hf:=run_firstCells_some (P:=P) w ti.size m.length ad m.length mcap (cellsOf c2) (by rw [hc2len,hsz]) hnews
   have hs:=run_storeCells_at (P:=P) gb (o+l.length*E.s) e (cellsOf c2) 0 cur w hg (by simpa using hfit) (fun u hu=>Hg u hu)
   simp only [w9] at hs
   have hrun:(Builtin.append_ #[T,T] t #[h.v,.slice (some ad) m.length mcap]).run P w=.ok (.slice (some ⟨gb,o,none⟩) (l.length+m.length) cap) (w.setRow gb (cur.toList.take (o+l.length*E.s)++cellsOf c2++cur.toList.drop (o+l.length*E.s+(cellsOf c2).length)).toArray):=by
    rw [hv]
    rw [hsz] at hf
    simp [Builtin.append_,run_underlying hS.und,Go.sizeOf,typeInfo,hi,hsz,Builtin.lenOf,hroom,hf,ia,hs]
   refine ⟨⟨some ⟨gb,o,none⟩,l.length+m.length,cap⟩,_,by have e0:=hrun; simp [execOp,resolve,invoke,builtin,hx,hy,e0]; exact ⟨rfl,rfl⟩,X,hX.upd fun F hF _=>⟨F,fun hsame=>?_,fun _ h=>.inl h,Chg.setRow (b:=gb) ?_⟩⟩
   ·obtain ⟨_,_,_,_,hF2⟩:=hF
    have hAll:=(ha.app hA2).mono hsame (fun _ h=>h)
    refine ⟨by simpa using h63,cs++c2,hAll,.inr ⟨gb,o,cap,_,by simp [Hdr.v],setRow_heap w gb cur _ e (0,0) hg,by simpa using hroom,hmax,?_,?_⟩,fun b=>by rw [hF2 b,hv]; simp [Hdr.v,Value.ownBlock]⟩
    ·simp only [Kk,P1,Z3,y6,Gc]
     omega
    ·rw [aa,← htake]
     simp only [P1,T6]
     have hcs:cur.toList.length=cur.size:=Gc
     apply Sa
     intro j
     simp only [A6,Xk,G8,P1,Z3,y6,hcs,hc2len,List.toList_toArray]
     have f1:min (o+l.length*E.s) cur.size=o+l.length*E.s:=A0
     have f2:min (l.length*E.s) (cur.size - o)=l.length*E.s:=A0
     rw [f1,f2]
     by_cases hj:j < l.length*E.s+m.length*E.s
     ·rw [M0 hj]
      by_cases hj1:j < l.length*E.s
      ·rw [M0 (show o+j < o+l.length*E.s by omega)]
       simp [hj1]
      ·rw [K0 (show ¬ o+j < o+l.length*E.s by omega),show o+j - (o+l.length*E.s)=j - l.length*E.s by omega,M0 (show j - l.length*E.s < m.length*E.s by omega)]
       simp [hj1]
     ·rw [K0 hj,K0 (show ¬ j < l.length*E.s by omega),A9 (by rw [hc2len]; omega)]
   ·obtain ⟨_,_,_,_,hF2⟩:=hF
    exact (hF2 gb).2 (by rw [hv]; rfl)
  ·have hrun:=run_append_grow (P:=P) w T t e ti zv hS.und hi hz ⟨gb,o,none⟩ l.length cap (cellsOf cs) (by rw [hclen,hsz]) holds ad m.length mcap (cellsOf c2) (by rw [hc2len,hsz]) hnews A0 A0 (growslice_fits A0 hbytes)
   have hge:=grownCap_ge w (l.length+m.length) cap e
   have hle:=grownCap_le_maxLen w (l.length+m.length) cap e h63
   refine ⟨⟨some ⟨w.heap.size,0,none⟩,l.length+m.length,grownCap w (l.length+m.length) cap e⟩,_,by have e0:=hrun; rw [← hv] at e0; simp [execOp,resolve,invoke,builtin,hx,hy,e0]; exact ⟨rfl,rfl⟩,X,hX.upd fun F hF _=>⟨fun b=>b=w.heap.size,fun hsame=>?_,fun b hb=>.inr A0,(Chg.drew F w).trans (Chg.alloc F _ _)⟩⟩
   have hAll:=(ha.app hA2).mono hsame (fun _ h=>h)
   refine ⟨by simpa using h63,cs++c2,hAll,.inr ⟨w.heap.size,0,grownCap w (l.length+m.length) cap e,_,by simp [Hdr.v],heap_alloc_new (World.drew w) _,by simpa using hge,hle,?_,?_⟩,fun b=>by simp [Hdr.v,Value.ownBlock]; exact eq_comm⟩
   ·rw [Array.size_append,size_zeroCells,hzs,Kk,P1,hclen,hc2len]
    rw [Y8,← T6,← T6,Nat.add_sub_cancel' hge]
    exact O2 _
   ·rw [aa,B9,Array.toList_append,Ik]
    simp only [P1,hclen,hc2len,T6]
end
end Sx
