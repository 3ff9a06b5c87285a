/- A full slice expression, and an append to a slice without room: it is copied. It holds over any program. -/
import Derived.Test.YthekfonboblioacGreatDoorSxU
namespace Sx
open Go
def clH (h:Hdr):Hdr:=⟨h.a,h.n,h.n⟩
section
variable {α:Type} {P:Program} {E:Rp α} {q:α} {a:Act} {w0 w:World} {ros:List Fact} {rs:List Res} {d:Option Tmp} {t:TypeId} {p:String} {af:Array Edge} {g:Option (Nat×Bool)} {x y hi mx:Operand} {T e:TypeId} {h:Hdr} {l m k:List α} {v u:Value} {X:Nat→Prop}
theorem ySl3 {k1 k2:IntKind} {n1 n2:Int} (hS:SlT P T e E q) (hx:a.eval x=h.v) (hst:St w0 ros rs w) (hr:Rd ros rs E h.v l) (hh:a.eval hi=.int k1 n1) (hm:a.eval mx=.int k2 n2) (e1:n1=l.length) (e2:n2=l.length):
  Yi P a w ⟨d,.slice T x none (some hi) (some mx),t,p,af,g⟩ (clH h).v:=by
 subst e1 e2
 obtain ⟨ti,zv,hi0,hsz,_⟩:=hS.inf
 obtain ⟨X,_,b,cap,hv,hc,hmx,hx'⟩:=hr.sees hst
 obtain ⟨ha',hn',hc'⟩:h.a=b∧h.n=l.length∧h.c=cap:=by simpa [Hdr.v] using hv
 have hb:(Instr.sliceBounds true l.length cap none (some (.int k1 l.length)) (some (.int k2 l.length))).run P w=.ok (0,l.length,l.length) w:=by
  have h0:(0:Int)≤l.length:=A0
  have h3:(l.length:Int)≤cap:=A0
  simp [Instr.sliceBounds,Instr.sliceBound,asIntOf,h0,h3]
 have e1:(Instr.sliceAt T h.v none (some (.int k1 l.length)) (some (.int k2 l.length))).run P w=.ok (clH h).v w:=by
  have e2:h.v=.slice b l.length cap:=hv
  have e3:(b.map fun x=>x.add 0)=b:=by cases b<;>simp [Addr.add]
  simp only [e2,Instr.sliceAt,Sem.run_bind,run_underlying hS.und,Result.andThen_ok,Instr.slice,hb,Go.sizeOf,typeInfo,run_program,hi0,Sem.run_pure,hsz,su,e3]
  simp [clH,Hdr.v,ha',hn']
 simp [Yi,execOp,hx,hh,hm,e1]
theorem Sees.cells {ad:Addr} {n c:Nat} (hs:Sees w X E (.slice (some ad) n c) l):n=l.length∧l.length≤maxLen∧∃ cs:List (CS E.s),All2 w X E cs l∧∀ j u,(cellsOf cs)[j]?=some u→w.cell? (ad.add j)=some u:=by
 obtain ⟨b,cap,hv,hc,hm,hx⟩:=hs
 have hn:n=l.length:=by injection hv
 refine ⟨hn,hm,?_⟩
 have hex:∀ i (h:i < l.length),∃ c:CS E.s,E.r w X c.1 l[i]∧∀ j u,c.1[j]?=some u→w.cell? (ad.add (i*E.s+j))=some u:=by
  intro i h
  obtain ⟨_,cs,h1,h2⟩:=hx i l[i] (by simp [h])
  exact ⟨⟨cs,E.len h1,E.one h1⟩,h1,h2⟩
 have hc2:∃ c2:List (CS E.s),c2.length=l.length∧∀ i c x,c2[i]?=some c→l[i]?=some x→E.r w X c.1 x∧∀ j u,c.1[j]?=some u→w.cell? (ad.add (i*E.s+j))=some u:=by
  refine ⟨List.ofFn fun i:Fin l.length=>Classical.choose (hex i.1 i.2),H0,fun i c x hc hx=>?_⟩
  have hi':i < l.length:=(S2.1 hx).1
  have hsp:=Ib (hex i hi')
  simp only [Uk,hi',dite_true,Na] at hc
  have hx':l[i]=x:=(S2.1 hx).2
  rw [← hc,← hx']
  exact hsp
 obtain ⟨c2,hl2,hc2⟩:=hc2
 refine ⟨c2,⟨hl2,fun i c x h1 h2=>(hc2 i c x h1 h2).1⟩,fun j u' hj=>?_⟩
 have hlt:j < l.length*E.s:=by have:=(S2.1 hj).1; rwa [H4,hl2] at this
 have hp:=E.pos
 have hq:j / E.s < l.length:=Gk (by rw [Z8]; exact hlt)
 have hmd:j % E.s < E.s:=ub _ hp
 have hq2:j / E.s < c2.length:=A0
 obtain ⟨_,h2⟩:=hc2 (j / E.s) c2[j / E.s] l[j / E.s] (by simp [hq2]) (by simp [hq])
 have h4:j / E.s*E.s+j % E.s=j:=by rw [Z8]; exact Xg j E.s
 have h5:(c2[j / E.s]).1[j % E.s]?=some ((c2[j / E.s]).1[j % E.s]'(by rw [(c2[j / E.s]).2.1]; exact hmd)):=by simp [(c2[j / E.s]).2.1,hmd]
 have h6:=h2 _ _ h5
 have h7:=jd (l:=c2) (i:=j / E.s) (by simp [hq2]) h5
 rw [h4] at h6 h7
 rw [h7] at hj
 simp only [Na] at hj
 subst hj
 exact h6
theorem StX.new {w':World} {r1:Res} (h:StX w0 X ros rs w) (hc:Chg (fun _=>False) w w') (hr:Same X w w'→∃ F':Nat→Prop,r1.holds w' X F'∧∀ b,F' b→w.heap.size≤b):St w0 ros (r1::rs) w':=by
 obtain ⟨e0,e1,e2,e3⟩:=StX.chg0 h hc (fun _ h=>h.elim)
 obtain ⟨F',hr',hF'⟩:=hr e0
 refine ⟨X,e1,h.old,e2,e3,F',hr',fun b hb hx=>?_,?_⟩
 ·have:=hF' b hb; have:=h.xlt b hx; omega
 ·refine h.own.shift e0 (fun _ h=>h) (fun b _ hb=>hc.same b hb id) (fun b hb=>?_)
  rcases hb with hb | hb
  ·exact .inl hb
  ·exact .inr (hF' b hb)
theorem rApC (hst:St w0 ros rs w) (hS:SlT P T e E q) (hx:a.eval x=(clH h).v) (hm:imm E h.v l∈ros) (hy:a.eval y=u) (hu:Rd ros rs E u m) (hk:app l m=some k) (hne:m≠[]):
  ∃ (h':Hdr) (w':World),(execOp a.eval ⟨d,.call ⟨.builtin .append,#[x,y],#[T,T]⟩,t,p,af,g⟩).run P w=.ok (.value h'.v) w'∧St w0 ros (row e E h'.v k::rs) w':=by
 obtain ⟨ti,zv,hi,hsz,hby,hz,hzc⟩:=hS.inf
 obtain ⟨rfl,hb⟩:=ga hk
 unfold BIG at hb
 obtain ⟨X,hX⟩:=hst
 have hzs:zv.cells.size=E.s:=by have:=E.len (hzc w X); simpa using this
 have hmn:0 < m.length:=Cb.2 hne
 have h63:l.length+m.length≤maxLen:=by simp only [maxLen]; omega
 have hbytes:(l.length+m.length)*ti.bytes≤140737488355328:=by
  have:(l.length+m.length)*ti.bytes≤1099511627776*128:=D8 A0 hby
  omega
 have hl:=(hX.ro _ hm).1
 have hu':=hu _ _ _ hX
 obtain ⟨ad,cu,rfl,c2,hA2,hn2⟩:∃ (ad:Addr) (cu:Nat),u=.slice (some ad) m.length cu∧∃ c2:List (CS E.s),All2 w X E c2 m∧∀ j u,(cellsOf c2)[j]?=some u→w.cell? (ad.add j)=some u:=by
  have hu2:=hu'
  obtain ⟨b,cap,rfl,hc,hmx,hxx⟩:=hu'
  obtain ⟨ad,hb1⟩:∃ ad,b=some ad:=⟨_,(hxx 0 (m[0]'hmn) (by simp [hmn])).1⟩
  subst hb1
  obtain ⟨_,_,h3⟩:=hu2.cells
  exact ⟨_,cap,rfl,h3⟩
 have mk:∀ (c1:List (CS E.s)) (old:Nat),All2 w X E c1 l→old < l.length+m.length→
   St w0 ros (row e E (.slice (some ⟨w.heap.size,0,none⟩) (l.length+m.length) (grownCap w (l.length+m.length) old e)) (l++m)::rs) (w.drew.alloc (.cells ((cellsOf c1).toArray++(cellsOf c2).toArray++Builtin.zeroCells zv.cells (grownCap w (l.length+m.length) old e - (l.length+m.length))) e)):=by
  intro c1 old hA1 ho
  have hge:=grownCap_ge w (l.length+m.length) old e
  have hcm:grownCap w (l.length+m.length) old e≤maxLen:=grownCap_le_maxLen w (l.length+m.length) old e h63
  have hlen:(cellsOf c1++cellsOf c2).length=(l.length+m.length)*E.s:=by rw [P1,H4,H4,hA1.1,hA2.1,T6]
  refine hX.new ((Chg.drew _ _).trans (Chg.alloc _ _ _)) fun hsame=>⟨fun b=>b=w.heap.size,⟨by simpa using h63,c1++c2,(hA1.app hA2).mono hsame (fun _ h=>h),⟨?_,.inr ⟨w.heap.size,_,_,by rw [P1],oc _,heap_alloc_new w.drew _,by rw [P1]; exact hge,hcm,?_,?_⟩⟩,fun b=>by simp [Value.ownBlock]; exact eq_comm⟩,fun b hb=>A0⟩
  ·rw [aa,hlen,P1]
  ·simp only [Array.size_append,Kk,size_zeroCells,hzs,H4,hA1.1,hA2.1,← T6]
   congr 1
   omega
  ·rw [aa,P1,← hlen]
   simp only [Array.toList_append,T7]
   rw [← T7]
   exact List.take_left
 cases ha:h.a with
 | none=>
  have hl0:l=[]:=by
   obtain ⟨b,cap,hv,_,_,hxx⟩:=hl
   cases l with
   | nil=>rfl
   | cons z l=>
    have h1:=(hxx 0 z rfl).1
    have h2:h.a=b:=by injection hv
    rw [h2,h1] at ha; cases ha
  subst hl0
  have hn:h.n=0:=by obtain ⟨b,cap,hv,_⟩:=hl; injection hv
  have hr:=run_append_nil (P:=P) w T t e ti zv hS.und hi hz ad m.length cu (cellsOf c2) (by rw [H4,hA2.1,hsz]) hn2 A0 A0 (by have:=hbytes; simp only [N2,Y8] at this; omega)
  have h2:=mk [] 0 All2.nil (by simpa using hmn)
  simp only [N2,Y8,xc,cellsOf,List.flatMap_nil,Array.empty_append] at h2
  refine ⟨⟨some ⟨w.heap.size,0,none⟩,m.length,grownCap w m.length 0 e⟩,_,?_,h2⟩
  have hv:(clH h).v=.slice none 0 0:=by unfold clH Hdr.v; rw [ha,hn]
  rw [hv] at hx
  simp [execOp,resolve,invoke,builtin,hx,hy,hr,Hdr.v,cellsOf]
 | some b=>
  have hv:h.v=.slice (some b) h.n h.c:=by unfold Hdr.v; rw [ha]
  rw [hv] at hl
  obtain ⟨hn,_,c1,hA1,hn1⟩:=hl.cells
  have hr:=run_append_grow (P:=P) w T t e ti zv hS.und hi hz b l.length l.length (cellsOf c1) (by rw [H4,hA1.1,hsz]) hn1 ad m.length cu (cellsOf c2) (by rw [H4,hA2.1,hsz]) hn2 A0 A0 (growslice_fits A0 hbytes)
  refine ⟨⟨some ⟨w.heap.size,0,none⟩,l.length+m.length,grownCap w (l.length+m.length) l.length e⟩,_,?_,mk c1 l.length hA1 A0⟩
  have hv2:(clH h).v=.slice (some b) l.length l.length:=by unfold clH Hdr.v; rw [ha,hn]
  rw [hv2] at hx
  simp [execOp,resolve,invoke,builtin,hx,hy,hr,Hdr.v]
end
end Sx
