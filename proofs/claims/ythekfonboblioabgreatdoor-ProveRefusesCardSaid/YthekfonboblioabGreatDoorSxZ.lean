/- A full slice expression, and an append to a slice without room: it is copied. It holds over any program. -/
import Derived.Test.YthekfonboblioabGreatDoorSxU
namespace Sx
open Go
def clH (h:Hdr):Hdr:=⟨h.a,h.n,h.n⟩
section
variable {α:Type} {P:Program} {E:Rp α} {q:α} {a:Act} {w0 w:World} {ax:List Fact} {rs:List Res} {d:Option Tmp} {t:TypeId} {p:String} {af:Array Edge} {g:Option (Nat×Bool)} {x y hi mx:Operand} {T e:TypeId} {h:Hdr} {l m k:List α} {v u:Value} {X:Nat→Prop}
theorem ySl3 {k1 k2:IntKind} {n1 n2:Int} (hS:SlT P T e E q) (hx:a.eval x=h.v) (cx:St w0 ax rs w) (hr:Rd ax rs E h.v l) (hh:a.eval hi=.int k1 n1) (hm:a.eval mx=.int k2 n2) (e1:n1=l.length) (e2:n2=l.length):
  Yi P a w ⟨d,.slice T x none (some hi) (some mx),t,p,af,g⟩ (clH h).v:=by
 subst e1 e2
 obtain ⟨ti,zv,HJ,CC,_⟩:=hS.inf
 obtain ⟨X,_,b,cap,hv,hc,jM,UA⟩:=hr.sees cx
 obtain ⟨HG,dK,TD⟩:h.a=b∧h.n=l.length∧h.c=cap:=by simpa [Hdr.v] using hv
 have hb:(Instr.sliceBounds true l.length cap none (some (.int k1 l.length)) (some (.int k2 l.length))).run P w=.ok (0,l.length,l.length) w:=by
  have h0:(0:Int)≤l.length:=A0
  have h3:(l.length:Int)≤cap:=A0
  simp [Instr.sliceBounds,Instr.sliceBound,asIntOf,h0,h3]
 have e1:(Instr.sliceAt T h.v none (some (.int k1 l.length)) (some (.int k2 l.length))).run P w=.ok (clH h).v w:=by
  have e2:h.v=.slice b l.length cap:=hv
  have e3:(b.map fun x=>x.add 0)=b:=by cases b<;>simp [Addr.add]
  simp only [e2,Instr.sliceAt,Sem.run_bind,run_underlying hS.und,Result.andThen_ok,Instr.slice,hb,Go.sizeOf,typeInfo,run_program,HJ,Sem.run_pure,CC,iv,e3]
  simp [clH,Hdr.v,HG,dK]
 simp [Yi,execOp,hx,hh,hm,e1]
theorem Sees.cells {ad:Addr} {n c:Nat} (hs:Sees w X E (.slice (some ad) n c) l):n=l.length∧l.length≤maxLen∧∃ cs:List (CS E.s),All2 w X E cs l∧∀ j u,(cellsOf cs)[j]?=some u→w.cell? (ad.add j)=some u:=by
 obtain ⟨b,cap,hv,hc,hm,hx⟩:=hs
 have hn:n=l.length:=by injection hv
 refine ⟨hn,hm,?_⟩
 have hex:∀ i (h:i < l.length),∃ c:CS E.s,E.r w X c.1 l[i]∧∀ j u,c.1[j]?=some u→w.cell? (ad.add (i*E.s+j))=some u:=by
  intro i h
  obtain ⟨_,cs,h1,h2⟩:=hx i l[i] (by simp [h])
  exact ⟨⟨cs,E.len h1,E.one h1⟩,h1,h2⟩
 have HE:∃ c2:List (CS E.s),c2.length=l.length∧∀ i c x,c2[i]?=some c→l[i]?=some x→E.r w X c.1 x∧∀ j u,c.1[j]?=some u→w.cell? (ad.add (i*E.s+j))=some u:=by
  refine ⟨List.ofFn fun i:Fin l.length=>Classical.choose (hex i.1 i.2),H0,fun i c x hc hx=>?_⟩
  have RA:i < l.length:=(Z1.1 hx).1
  have HK:=Pb (hex i RA)
  simp only [Tl,RA,dite_true,Oa] at hc
  have UA:l[i]=x:=(Z1.1 hx).2
  rw [← hc,← UA]
  exact HK
 obtain ⟨c2,Px,HE⟩:=HE
 refine ⟨c2,⟨Px,fun i c x h1 h2=>(HE i c x h1 h2).1⟩,fun j u' hj=>?_⟩
 have hlt:j < l.length*E.s:=by have:=(Z1.1 hj).1; rwa [S4,Px] at this
 have hp:=E.pos
 have hq:j / E.s < l.length:=Il (by rw [G8]; exact hlt)
 have eK:j % E.s < E.s:=Gb _ hp
 have bI:j / E.s < c2.length:=A0
 obtain ⟨_,h2⟩:=HE (j / E.s) c2[j / E.s] l[j / E.s] (by simp [bI]) (by simp [hq])
 have h4:j / E.s*E.s+j % E.s=j:=by rw [G8]; exact Ch j E.s
 have h5:(c2[j / E.s]).1[j % E.s]?=some ((c2[j / E.s]).1[j % E.s]'(by rw [(c2[j / E.s]).2.1]; exact eK)):=by simp [(c2[j / E.s]).2.1,eK]
 have h6:=h2 _ _ h5
 have h7:=Ie (l:=c2) (i:=j / E.s) (by simp [bI]) h5
 rw [h4] at h6 h7
 rw [h7] at hj
 simp only [Oa] at hj
 subst hj
 exact h6
theorem StX.new {w':World} {r1:Res} (h:StX w0 X ax rs w) (hc:Chg (fun _=>False) w w') (hr:Same X w w'→∃ F':Nat→Prop,r1.holds w' X F'∧∀ b,F' b→w.heap.size≤b):St w0 ax (r1::rs) w':=by
 obtain ⟨e0,e1,e2,e3⟩:=StX.chg0 h hc (fun _ h=>h.elim)
 obtain ⟨F',dH,aH⟩:=hr e0
 refine ⟨X,e1,h.old,e2,e3,F',dH,fun b hb hx=>?_,?_⟩
 ·have:=aH b hb; have:=h.xlt b hx; omega
 ·refine h.own.shift e0 (fun _ h=>h) (fun b _ hb=>hc.same b hb id) (fun b hb=>?_)
  rcases hb with hb | hb
  ·exact .inl hb
  ·exact .inr (aH b hb)
theorem rApC (cx:St w0 ax rs w) (hS:SlT P T e E q) (hx:a.eval x=(clH h).v) (hm:imm E h.v l∈ax) (hy:a.eval y=u) (hu:Rd ax rs E u m) (hk:app l m=some k) (kx:m≠[]):
  ∃ (h':Hdr) (w':World),(execOp a.eval ⟨d,.call ⟨.builtin .append,#[x,y],#[T,T]⟩,t,p,af,g⟩).run P w=.ok (.value h'.v) w'∧St w0 ax (row e E h'.v k::rs) w':=by
 obtain ⟨ti,zv,hi,CC,IL,hz,iJ⟩:=hS.inf
 obtain ⟨rfl,hb⟩:=Ma hk
 unfold BIG at hb
 obtain ⟨X,hX⟩:=cx
 have pL:zv.cells.size=E.s:=by have:=E.len (iJ w X); simpa using this
 have qI:0 < m.length:=Jb.2 kx
 have KM:l.length+m.length≤maxLen:=by simp only [maxLen]; omega
 have Yz:(l.length+m.length)*ti.bytes≤140737488355328:=by
  have:(l.length+m.length)*ti.bytes≤1099511627776*128:=S9 A0 IL
  omega
 have hl:=(hX.ro _ hm).1
 have BJ:=hu _ _ _ hX
 obtain ⟨ad,cu,rfl,c2,AI,jB⟩:∃ (ad:Addr) (cu:Nat),u=.slice (some ad) m.length cu∧∃ c2:List (CS E.s),All2 w X E c2 m∧∀ j u,(cellsOf c2)[j]?=some u→w.cell? (ad.add j)=some u:=by
  have mR:=BJ
  obtain ⟨b,cap,rfl,hc,jM,dO⟩:=BJ
  obtain ⟨ad,SG⟩:∃ ad,b=some ad:=⟨_,(dO 0 (m[0]'qI) (by simp [qI])).1⟩
  subst SG
  obtain ⟨_,_,h3⟩:=mR.cells
  exact ⟨_,cap,rfl,h3⟩
 have mk:∀ (c1:List (CS E.s)) (old:Nat),All2 w X E c1 l→old < l.length+m.length→
   St w0 ax (row e E (.slice (some ⟨w.heap.size,0,none⟩) (l.length+m.length) (grownCap w (l.length+m.length) old e)) (l++m)::rs) (w.drew.alloc (.cells ((cellsOf c1).toArray++(cellsOf c2).toArray++Builtin.zeroCells zv.cells (grownCap w (l.length+m.length) old e - (l.length+m.length))) e)):=by
  intro c1 old PL ho
  have tx:=grownCap_ge w (l.length+m.length) old e
  have OK:grownCap w (l.length+m.length) old e≤maxLen:=grownCap_le_maxLen w (l.length+m.length) old e KM
  have hlen:(cellsOf c1++cellsOf c2).length=(l.length+m.length)*E.s:=by rw [Q1,S4,S4,PL.1,AI.1,Z8]
  refine hX.new ((Chg.drew _ _).trans (Chg.alloc _ _ _)) fun cA=>⟨fun b=>b=w.heap.size,⟨by simpa using KM,c1++c2,(PL.app AI).mono cA (fun _ h=>h),⟨?_,.inr ⟨w.heap.size,_,_,by rw [Q1],P9 _,heap_alloc_new w.drew _,by rw [Q1]; exact tx,OK,?_,?_⟩⟩,fun b=>by simp [Value.ownBlock]; exact eq_comm⟩,fun b hb=>A0⟩
  ·rw [Cb,hlen,Q1]
  ·simp only [Array.size_append,List.size_toArray,size_zeroCells,pL,S4,PL.1,AI.1,← Z8]
   congr 1
   omega
  ·rw [Cb,Q1,← hlen]
   simp only [Array.toList_append,Z7]
   rw [← Z7]
   exact List.take_left
 cases ha:h.a with
 | none=>
  have PH:l=[]:=by
   obtain ⟨b,cap,hv,_,_,dO⟩:=hl
   cases l with
   | nil=>rfl
   | cons z l=>
    have h1:=(dO 0 z rfl).1
    have h2:h.a=b:=by injection hv
    rw [h2,h1] at ha; cases ha
  subst PH
  have hn:h.n=0:=by obtain ⟨b,cap,hv,_⟩:=hl; injection hv
  have hr:=run_append_nil (P:=P) w T t e ti zv hS.und hi hz ad m.length cu (cellsOf c2) (by rw [S4,AI.1,CC]) jB A0 A0 (by have:=Yz; simp only [Y2,Q9] at this; omega)
  have h2:=mk [] 0 All2.nil (by simpa using qI)
  simp only [Y2,Q9,Gc,cellsOf,List.flatMap_nil,Array.empty_append] at h2
  refine ⟨⟨some ⟨w.heap.size,0,none⟩,m.length,grownCap w m.length 0 e⟩,_,?_,h2⟩
  have hv:(clH h).v=.slice none 0 0:=by unfold clH Hdr.v; rw [ha,hn]
  rw [hv] at hx
  simp [execOp,resolve,invoke,builtin,hx,hy,hr,Hdr.v,cellsOf]
 | some b=>
  have hv:h.v=.slice (some b) h.n h.c:=by unfold Hdr.v; rw [ha]
  rw [hv] at hl
  obtain ⟨hn,_,c1,PL,HI⟩:=hl.cells
  have hr:=run_append_grow (P:=P) w T t e ti zv hS.und hi hz b l.length l.length (cellsOf c1) (by rw [S4,PL.1,CC]) HI ad m.length cu (cellsOf c2) (by rw [S4,AI.1,CC]) jB A0 A0 (growslice_fits A0 Yz)
  refine ⟨⟨some ⟨w.heap.size,0,none⟩,l.length+m.length,grownCap w (l.length+m.length) l.length e⟩,_,?_,mk c1 l.length PL A0⟩
  have hv2:(clH h).v=.slice (some b) l.length l.length:=by unfold clH Hdr.v; rw [ha,hn]
  rw [hv2] at hx
  simp [execOp,resolve,invoke,builtin,hx,hy,hr,Hdr.v]
end
end Sx
