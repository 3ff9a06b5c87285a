/- What each operation comes to, over any program: the operations that make or write memory. -/
import Derived.Test.YthekfonboblioacGreatDoorSxD
namespace Sx
open Go
section
variable {P:Program} {w0 w:World} {ros:List Fact} {rs:List Res} {a:Act} {d:Option Tmp} {t:TypeId} {p:String} {af:Array Edge} {g:Option (Nat×Bool)}
variable {x y z:Operand} {T U:TypeId} {v u:Value}
theorem Ui (hst:St w0 ros rs w) {vals:List Value} (hx:a.eval x=v) (hc:v.cells=vals.toArray):
  ∃ b w',(execOp a.eval ⟨d,.box T x,t,p,af,g⟩).run P w=.ok (.value (.pointer (some ⟨b,0,none⟩))) w'∧St w0 ros (box b T vals::rs) w':=by
 refine ⟨w.heap.size,w.alloc (.cells vals.toArray T),?_,?_⟩
 ·simp [execOp,Instr.box,newVar,newRow,hx,hc]
 ·exact hst.new (Chg.alloc _ _ _) fun X _ _=>⟨fun b=>b=w.heap.size,⟨heap_alloc_new w _,fun _=>Jd⟩,fun b hb=>A0⟩
theorem Cz (hst:St w0 ros rs w) {vals:List Value} {ti:TypeInfo} {zv:Value} (hi:P.info? T=some ti) (hz:ti.zero=some zv) (hc:zv.cells=vals.toArray):
  ∃ b w',(execOp a.eval ⟨d,.alloc T,t,p,af,g⟩).run P w=.ok (.value (.pointer (some ⟨b,0,none⟩))) w'∧St w0 ros (box b T vals::rs) w':=by
 refine ⟨w.heap.size,w.alloc (.cells vals.toArray T),?_,?_⟩
 ·simp [execOp,Instr.alloc,newVar,newRow,zeroValue,typeInfo,hi,hz,hc]
 ·exact hst.new (Chg.alloc _ _ _) fun X _ _=>⟨fun b=>b=w.heap.size,⟨heap_alloc_new w _,fun _=>Jd⟩,fun b hb=>A0⟩
theorem nr {b o n:Nat} {vals us:List Value} {ti:TypeInfo} (hst:St w0 ros (box b U vals::rs) w) (hi:P.info? T=some ti) (hn:ti.size=n)
  (hx:a.eval x=.pointer (some ⟨b,o,none⟩)) (hy:a.eval y=u) (hc:u.cells=us.toArray) (hl:us.length=n) (ho:o+n≤vals.length) (h1:∀ v,v∈us→v.oneCell'=true):
  ∃ w',(execOp a.eval ⟨d,.store T x y,t,p,af,g⟩).run P w=.ok .skip w'∧St w0 ros (box b U (vals.take o++us++vals.drop (o+n))::rs) w':=by
 have hb:=hst.box_h (.head _)
 have hs:=run_storeCells_at (P:=P) b o U us 0 vals.toArray w hb (by simp; omega) h1
 refine ⟨_,?_,hst.upd fun X F _ ⟨hb,hF⟩=>⟨F,fun _=>⟨setRow_heap w b vals.toArray _ U (0,0) hb,hF⟩,fun _ h=>.inl h,Chg.setRow ((hF b).2 rfl)⟩⟩
 simp only [w9,hl] at hs
 simp only [execOp,Instr.storeAt,hx,hy,Instr.sureAddr,Sem.run_bind,Sem.run_pure,Result.andThen_ok,storeVar,Go.sizeOf,typeInfo,hc,run_program,hi]
 simp [hn,hl,hs]
section
variable {α:Type} {E:Rp α} {l m:List α} {e:TypeId} {q:α}
def Mk (ros:List Fact) (E:Rp α) (cs:List Value) (x:α):Prop:=∀ w X,(∀ q,q∈ros→q.h w X)→E.r w X cs x
theorem rr {i:Int} {z:α} {l':List α} {ti:TypeInfo} {cs:List Value} (hst:St w0 ros (row U E v l::rs) w) (hi:P.info? T=some ti) (hn:ti.size=E.s)
  (hx:a.eval x=eAddr v E.s i) (hy:a.eval y=u) (hc:u.cells=cs.toArray) (hm:Mk ros E cs z) (hq:setI l i z=some l'):
  ∃ w',(execOp a.eval ⟨d,.store T x y,t,p,af,g⟩).run P w=.ok .skip w'∧St w0 ros (row U E v l'::rs) w':=by
 obtain ⟨h0,h1,rfl⟩:=C7 hq
 have hlt:i.toNat < l.length:=A0
 obtain ⟨X0,hX0⟩:=hst.use
 have hr0:=hm w X0 hX0
 have hone:∀ v∈cs,v.oneCell'=true:=E.one hr0
 have hlen:=E.len hr0
 have raw:∀ X F,(row U E v l).holds w X F→∃ b cap cur,v=.slice (some ⟨b,0,none⟩) l.length cap∧w.heap[b]?=some (.cells cur U (0,0))∧l.length≤cap∧cap≤maxLen∧cur.size=cap*E.s:=by
  rintro X F ⟨hm,c,ha,⟨_,h⟩,hF⟩
  rcases h with ⟨_,h0⟩ | ⟨g,cap,cur,rfl,_,hg,hcap,hmax,hsz,htake⟩
  ·omega
  ·exact ⟨g,cap,cur,rfl,hg,hcap,hmax,hsz⟩
 obtain ⟨b,cap,cur,rfl,hb,hcap,hmax,hsz⟩:∃ b cap cur,v=.slice (some ⟨b,0,none⟩) l.length cap∧w.heap[b]?=some (.cells cur U (0,0))∧l.length≤cap∧cap≤maxLen∧cur.size=cap*E.s:=by
  obtain ⟨X,hst⟩:=hst
  obtain ⟨F,hF,_⟩:=hst.own
  exact raw X F hF
 have hmul:i.toNat*E.s+E.s≤l.length*E.s:=by
  have h2:(i.toNat+1)*E.s≤l.length*E.s:=M9 _ A0
  rw [T6] at h2; omega
 have hmul2:l.length*E.s≤cap*E.s:=M9 _ hcap
 have hs:=run_storeCells_at (P:=P) b (i.toNat*E.s) U cs 0 cur w hb (by rw [hlen]; omega) hone
 simp only [w9,hlen] at hs
 have hadd:(⟨b,0,none⟩:Addr).add (i.toNat*E.s)=⟨b,i.toNat*E.s,none⟩:=by rw [ia,Y8]
 refine ⟨w.setRow b (cur.toList.take (i.toNat*E.s)++cs++cur.toList.drop (i.toNat*E.s+E.s)).toArray,?_,hst.upd fun X F hfs hF=>?_⟩
 ·simp only [execOp,Instr.storeAt,hx,hy,eAddr,sAddr,Instr.sureAddr,Sem.run_bind,Sem.run_pure,Result.andThen_ok,storeVar,Go.sizeOf,typeInfo,hc,run_program,hi,hadd]
  simp [hn,hlen,hs]
 ·obtain ⟨hmx,c,ha,⟨hl2,h⟩,hFb⟩:=hF
  rcases h with ⟨hv,_⟩ | ⟨b',cap',cur',hv,hb0,hg',hcap',hmax',hsz',htake'⟩
  ·cases hv
  ·simp at hv
   obtain ⟨rfl,rfl⟩:=hv
   have:cur'=cur:=by rw [hg'] at hb; simpa using hb
   subst this
   have hFF:F b:=(hFb b).2 (by simp [Value.ownBlock])
   let c1:CS E.s:=⟨cs,hlen,hone⟩
   refine ⟨F,fun hsame=>⟨by simpa using hmx,c.set i.toNat c1,(ha.mono hsame (fun _ h=>h)).set (E.mono (hm w X hfs) hsame (fun _ h=>h)),⟨by rw [H4]; simp [ha.1],.inr ⟨b,cap,_,H0,hb0,setRow_heap w b cur' _ U (0,0) hb,by simpa using hcap,hmax,?_,?_⟩⟩,hFb⟩,fun _ h=>.inl h,Chg.setRow hFF⟩
   ·simp [hlen]; omega
   ·obtain ⟨q0,hq0⟩:∃ q0,c[i.toNat]?=some q0:=⟨c[i.toNat]'(by rw [ha.1]; exact hlt),by simp [ha.1,hlt]⟩
    rw [VC hq0 c1,← htake']
    simp only [O3]
    apply Sa
    intro j
    have hc1:c1.1=cs:=rfl
    simp only [A6,Xk,P1,Z3,hlen,G8,Gc,hc1]
    have e1:min (i.toNat*E.s) cur'.size=i.toNat*E.s:=A0
    have e2:min (i.toNat*E.s) (min (l.length*E.s) cur'.size)=i.toNat*E.s:=A0
    rw [e1,e2]
    by_cases hj:j < l.length*E.s
    ·rw [M0 hj]
     by_cases hj1:j < i.toNat*E.s+E.s
     ·rw [M0 hj1,M0 hj1]
      by_cases hj2:j < i.toNat*E.s
      ·simp [hj2]; omega
      ·simp [hj2]
     ·rw [K0 hj1,K0 hj1,C0]
    ·rw [K0 hj,B0,B0]
def BIG:Int:=1099511627776
def mkL {β:Type} (z:β) (n:Int):Option (List β):=if 0≤n∧n≤BIG then some (List.replicate n.toNat z) else none
def app {β:Type} (l m:List β):Option (List β):=if ((l.length+m.length:Nat):Int)≤BIG then some (l++m) else none
theorem ga {β:Type} {l m k:List β} (h:app l m=some k):k=l++m∧((l.length+m.length:Nat):Int)≤BIG:=by
 unfold app at h
 split at h
 ·rename_i hb; simp at h; exact ⟨h.symm,hb⟩
 ·cases h
theorem zA {β:Type} {z:β} {n:Int} {l:List β} (h:mkL z n=some l):∃ k:Nat,n=(k:Int)∧(k:Int)≤BIG∧l=List.replicate k z:=by
 unfold mkL at h
 split at h
 ·rename_i hb; simp at h; exact ⟨n.toNat,A0,A0,h.symm⟩
 ·cases h
theorem Up {s:Nat} {c:CS s} {zv:Value} (hp:0 < s) (hz:zv.cells=c.1.toArray) (n:Nat):(madeCells zv.cells (n*s)).toList=cellsOf (List.replicate n c):=by
 apply Sa
 intro j
 by_cases hj:j < n*s
 ·have hq:j / s < n:=Gk (by rw [Z8]; exact hj)
  have hm:j % s < s:=ub _ hp
  have h1:(List.replicate n c)[j / s]?=some c:=by simp [hq]
  have h2:c.1[j % s]?=some (c.1[j % s]'(by rw [c.2.1]; exact hm)):=by simp [c.2.1,hm]
  have h3:=jd h1 h2
  have h4:j / s*s+j % s=j:=by rw [Z8]; exact Xg j s
  rw [h4] at h3
  rw [h3]
  simp [madeCells,hj,hz,c.2.1,hm]
 ·rw [A9 (by simp [size_madeCells]; omega),A9 (by rw [H4]; simp; omega)]
theorem yz {n:Int} {l:List α} {ik:IntKind} (hst:St w0 ros rs w) (hS:SlT P T e E q) (hx:a.eval x=.int ik n) (hk:mkL q n=some l):
  ∃ v w',(execOp a.eval ⟨d,.makeSlice T x x,t,p,af,g⟩).run P w=.ok (.value v) w'∧St w0 ros (row e E v l::rs) w':=by
 obtain ⟨ti,zv,hi,hsz,hby,hz,hzc⟩:=hS.inf
 obtain ⟨k,rfl,hb,rfl⟩:=zA hk
 unfold BIG at hb
 have hbytes:(ti.bytes:Int)*(k:Int)≤281474976710656:=by
  have h2:((ti.bytes*k:Nat):Int)≤((256*1099511627776:Nat):Int):=by
   have:ti.bytes*k≤256*1099511627776:=D8 A0 A0
   omega
  rw [Pu] at h2
  omega
 have hr:=run_make (P:=P) w T e ti zv hS.und hi hz ik ik (k:Int) (k:Int) A0 (Qe _) hbytes A0
 have hml:k≤maxLen:=by simp only [maxLen]; omega
 simp only [A1] at hr
 have hzr:=hzc w fun _=>True
 let c:CS E.s:=⟨zv.cells.toList,E.len hzr,E.one hzr⟩
 refine ⟨.slice (some ⟨w.heap.size,0,none⟩) k k,_,?_,hst.new (r1:=row e E _ _) (Chg.alloc _ _ (.cells (madeCells zv.cells (k*ti.size)) e)) fun X _ _=>⟨fun b=>b=w.heap.size,?_,fun b hb=>A0⟩⟩
 ·simp [execOp,hx,hr]
 ·refine ⟨by simpa using hml,List.replicate k c,All2.rep k (hzc _ X),?_,fun b=>by simp [Value.ownBlock]; exact eq_comm⟩
  have h:=World.ownsRow_lit (base:=0) (e:=e) (size:=E.s) w (madeCells zv.cells (k*ti.size)) k (oc _) hml (by rw [size_madeCells,hsz])
  rw [hsz,Up (c:=c) E.pos (by simp [c]) k] at h
  rw [hsz]
  simpa using h
theorem NB:∀ (l:List Value) (k off:Nat) (cells:Array Value),off+k+l.length≤cells.size→
  ((l.zipIdx k).foldl (fun (cs:Array Value) (cq:Value×Nat)=>cs.setIfInBounds (off+cq.2) cq.1) cells).toList=cells.toList.take (off+k)++l++cells.toList.drop (off+k+l.length):=by
 intro l
 induction l with
 | nil=>intro k off cells _; simp
 | cons v l ih=>
  intro k off cells h
  simp only [List.zipIdx_cons,List.foldl_cons,E2] at*
  rw [ih (k+1) off _ (by simp; omega)]
  have e:=list_seg_step cells.toList (off+k) v l (by simp; omega)
  simpa [Array.toList_setIfInBounds,Yg] using e
theorem ZB {s:Nat}:∀ (qs:List Value) (j:Nat) (cells:Array Value),(∀ q,q∈qs→q.cells.size=s)→(j+qs.length)*s≤cells.size→
  ∃ cs,Instr.fill (fun i=>some (i*s,s)) cells (qs.zipIdx j |>.map fun q=>(q.2,q.1))=some cs∧cs.toList=cells.toList.take (j*s)++qs.flatMap (fun q=>q.cells.toList)++cells.toList.drop ((j+qs.length)*s):=by
 intro qs
 induction qs with
 | nil=>intro j cells _ _; exact ⟨cells,by simp [Instr.fill],H0⟩
 | cons q qs ih=>
  intro j cells hq hsz
  have h1:=hq q H0
  have e1:(j+(q::qs).length)*s=(j+1+qs.length)*s:=by simp only [E2]; congr 1; omega
  have e2:(j+1+qs.length)*s=j*s+s+qs.length*s:=by rw [T6,T6,Wg]
  have hfit:j*s+s≤cells.size:=A0
  let cells':=q.cells.zipIdx.foldl (fun (cs:Array Value) (cq:Value×Nat)=>cs.setIfInBounds (j*s+cq.2) cq.1) cells
  have hc':cells'.toList=cells.toList.take (j*s)++q.cells.toList++cells.toList.drop (j*s+s):=by
   have:=NB q.cells.toList 0 (j*s) cells (by simp [h1]; omega)
   simp only [w9,Gc,h1] at this
   rw [← this]
   refine Z0 Array.toList ?_
   simp only [cells',← Array.foldl_toList,Array.toList_zipIdx]
  have hl':cells'.size=cells.size:=by
   rw [← Gc,hc']
   simp [h1]; omega
  obtain ⟨cs,hcs,hct⟩:=ih (j+1) cells' (fun q' h=>hq q' (by simp [h])) A0
  refine ⟨cs,?_,?_⟩
  ·simp only [List.zipIdx_cons,Bc,Instr.fill]
   rw [K0 (by simp [h1]; omega)]
   exact hcs
  ·rw [hct,hc']
   simp only [gh]
   have e3:(j+1)*s=j*s+s:=by rw [T6,Wg]
   rw [e3]
   have e4:(cells.toList.take (j*s)++q.cells.toList++cells.toList.drop (j*s+s)).take (j*s+s)=cells.toList.take (j*s)++q.cells.toList:=by
    rw [DD (by simp [h1]; omega)]
    exact y9 (by simp [h1]; omega)
   have e5:(cells.toList.take (j*s)++q.cells.toList++cells.toList.drop (j*s+s)).drop ((j+1+qs.length)*s)=cells.toList.drop ((j+(q::qs).length)*s):=by
    rw [List.drop_append]
    have:(cells.toList.take (j*s)++q.cells.toList).length=j*s+s:=by simp [h1]; omega
    rw [Je A0,this,xc,na]
    congr 1
    omega
   rw [e4,e5]
   simp
def Mks (ros:List Fact) (E:Rp α):List Value→List α→Prop
 | [],[]=>True
 | q::qs,x::xs=>(∃ cs,q.cells=cs.toArray∧Mk ros E cs x)∧Mks ros E qs xs
 | _,_=>False
theorem Mks.all {w:World} {X:Nat→Prop} (hX:∀ q,q∈ros→q.h w X):∀ {qs:List Value} {l:List α},Mks ros E qs l→∃ c:List (CS E.s),(∀ w X,(∀ q,q∈ros→q.h w X)→All2 w X E c l)∧qs.map Value.cells=c.map (fun z=>z.1.toArray):=by
 intro qs
 induction qs with
 | nil=>intro l h; cases l with
  | nil=>exact ⟨[],fun _ _ _=>All2.nil,rfl⟩
  | cons x xs=>exact h.elim
 | cons q qs ih=>intro l h; cases l with
  | nil=>exact h.elim
  | cons x xs=>
   obtain ⟨⟨cs,h1,h2⟩,h3⟩:=h
   obtain ⟨c,h4,h5⟩:=ih h3
   have hr:=h2 w X hX
   obtain ⟨c1,hc1⟩:∃ c1:CS E.s,c1.1=cs:=⟨⟨cs,E.len hr,E.one hr⟩,rfl⟩
   refine ⟨c1::c,fun w' X' h=>?_,by simp [h1,h5,hc1]⟩
   have:=h4 w' X' h
   refine ⟨by simp [this.1],fun i c' x' hc hx=>?_⟩
   cases i with
   | zero=>simp at hc hx; subst hc; subst hx; rw [hc1]; exact h2 w' X' h
   | succ i=>simp at hc hx; exact this.2 i c' x' hc hx
theorem zz {n:Nat} {parts:Array (Nat×Operand)} (hst:St w0 ros rs w) (hS:SlT P T e E q)
  (qs:List Value) (hp:(parts.map fun (i,x)=>(i,a.eval x))=(qs.zipIdx.map fun q=>(q.2,q.1)).toArray) (hl:l.length=n) (hn:Nat.ble (n*E.s) 16777216=true)
  (hq:Mks ros E qs l):
  ∃ v w',(execOp a.eval ⟨d,.buildSlice T n parts,t,p,af,g⟩).run P w=.ok (.value v) w'∧St w0 ros (row e E v l::rs) w':=by
 obtain ⟨ti,zv,hi,hsz,hby,hz,hzc⟩:=hS.inf
 have hn:n*E.s≤16777216:=by simpa using hn
 obtain ⟨X0,hX0⟩:=hst.use
 obtain ⟨c,hall,hcm⟩:=Mks.all hX0 hq
 have hcl:c.length=n:=by rw [(hall w X0 hX0).1,hl]
 have hql:qs.length=n:=by have:=Z0 List.length hcm; simpa [hcl] using this
 have hcs:∀ q,q∈qs→q.cells.size=E.s:=by
  intro q hm
  have:q.cells∈qs.map Value.cells:=List.mem_map_of_mem hm
  rw [hcm] at this
  obtain ⟨z,_,hz⟩:=Sk.1 this
  rw [← hz]; simp [z.2.1]
 have hflat:qs.flatMap (fun q=>q.cells.toList)=cellsOf c:=by
  have:qs.flatMap (fun q=>q.cells.toList)=(qs.map Value.cells).flatMap Array.toList:=by rw [List.flatMap_map]
  rw [this,hcm,List.flatMap_map]; rfl
 have key:∀ cells:Array Value,cells.size=n*E.s→∃ cs,Instr.fill (fun i=>some (i*E.s,E.s)) cells (qs.zipIdx.map fun q=>(q.2,q.1))=some cs∧cs.toList=cellsOf c:=by
  intro cells hsz'
  obtain ⟨cs,h1,h2⟩:=ZB (s:=E.s) qs 0 cells hcs (by rw [Y8,hql]; omega)
  refine ⟨cs,h1,?_⟩
  rw [h2,hflat,su,Y8,hql,Je (by simp [hsz'])]
  simp
 have hml:n≤maxLen:=by
  have h1:n*1≤n*E.s:=Nat.mul_le_mul_left _ E.pos
  simp only [maxLen]; omega
 obtain ⟨cs,hf,hct⟩:∃ cs,Instr.fill (fun i=>some (i*E.s,E.s)) ((Array.range (n*E.s)).map ((if n*E.s=0 then (#[]:Array Value) else zv.cells)[· % (if n*E.s=0 then (#[]:Array Value) else zv.cells).size]!)) (qs.zipIdx.map fun q=>(q.2,q.1))=some cs∧cs.toList=cellsOf c:=key _ H0
 have hsize:cs.size=n*E.s:=by rw [← Gc,hct,H4,hcl]
 refine ⟨.slice (some ⟨w.heap.size,0,none⟩) n n,w.alloc (.cells cs e),?_,hst.new (r1:=row e E _ l) (Chg.alloc _ _ _) fun X hsame hX=>⟨fun b=>b=w.heap.size,?_,fun b hb=>A0⟩⟩
 ·have hsz2:¬ (16777216 < n*E.s):=A0
  have e0:(execOp a.eval ⟨d,.buildSlice T n parts,t,p,af,g⟩)=(do pure (.value (← Instr.buildSlice T n (parts.map fun (i,x)=>(i,a.eval x))))):=rfl
  rw [e0,hp]
  by_cases hne:n*E.s=0
  ·have hp0:=E.pos
   obtain rfl:n=0:=by rcases Nat.mul_eq_zero.1 hne with h | h<;>omega
   obtain rfl:qs=[]:=U6 hql
   obtain rfl:c=[]:=U6 hcl
   obtain rfl:cs=#[]:=by cases cs; simpa [cellsOf] using hct
   simp [Instr.buildSlice,run_underlying hS.und,Go.sizeOf,typeInfo,hi,newRow,Instr.fill,Array.range_zero']
  ·simp only [hne,if_false] at hf
   simp [Instr.buildSlice,run_underlying hS.und,Go.sizeOf,typeInfo,hi,hsz,hsz2,hne,newRow,zeroValue,hz,hf]
 ·have h:=World.ownsRow_lit (base:=0) (e:=e) (size:=E.s) w cs n (oc _) hml hsize
  rw [hct] at h
  exact ⟨A0,c,(hall w X hX).mono hsame (fun _ h=>h),by rw [hl]; exact h,fun b=>by simp [Value.ownBlock]; exact eq_comm⟩
theorem Ay {ti:TypeInfo} {cap n:Nat} {xs:List Value} {sz:Nat} {T t e:TypeId} (hT:P.underlying T=some (.slice e)) (hi:P.info? e=some ti) (hown:w.ownsRow 0 e sz v n xs) (ad:Addr):
  (Builtin.append_ #[T,T] t #[v,.slice (some ad) 0 cap]).run P w=.ok v w:=by
 rcases hown.2 with ⟨rfl,_⟩ | ⟨g',cap',cur,rfl,_,_,hnc,_⟩
 ·simp [Builtin.append_,run_underlying hT,Go.sizeOf,typeInfo,hi,Builtin.lenOf,Builtin.firstCells,loadCells,loadCellsFrom]
 ·simp [Builtin.append_,run_underlying hT,Go.sizeOf,typeInfo,hi,Builtin.lenOf,Builtin.firstCells,hnc,storeCells,loadCells,loadCellsFrom]
theorem sr {k:List α} {X:Nat→Prop} (hX:StX w0 X ros (row e E v l::rs) w) (hS:SlT P T e E q)
  (hx:a.eval x=v) (hy:a.eval y=u) (hsee:Sees w X E u m) (hk:app l m=some k):
  ∃ v' w',(execOp a.eval ⟨d,.call ⟨.builtin .append,#[x,y],#[T,T]⟩,t,p,af,g⟩).run P w=.ok (.value v') w'∧St w0 ros (row e E v' k::rs) w':=by
 obtain ⟨ti,zv,hi,hsz,hby,hz,hzc⟩:=hS.inf
 obtain ⟨rfl,hb⟩:=ga hk
 unfold BIG at hb
 have hzs:zv.cells.size=E.s:=by have:=E.len (hzc w X); simpa using this
 obtain ⟨F,⟨hm,c,ha,hown,hF⟩,_⟩:=hX.own
 have h63:l.length+m.length≤maxLen:=by simp only [maxLen]; omega
 have hbytes:(l.length+m.length)*ti.bytes≤140737488355328:=by
  have:(l.length+m.length)*ti.bytes≤1099511627776*128:=D8 A0 hby
  omega
 have main:∃ v' w',∃ c2:List (CS E.s),All2 w X E c2 m∧(Builtin.append_ #[T,T] t #[v,u]).run P w=.ok v' w'∧w'.ownsRow 0 e E.s v' (l.length+m.length) (cellsOf c++cellsOf c2)∧w.grownBy w' v.ownBlock∧
   (v'.ownBlock=v.ownBlock∨v'.ownBlock=some w.heap.size):=by
  obtain ⟨ad,cap,rfl,hcap,hmm,hsee⟩:=hsee
  cases ad with
  | none=>
   have hm0:m=[]:=by
    cases m with
    | nil=>rfl
    | cons q m=>have:=(hsee 0 q rfl).1; cases this
   subst hm0
   refine ⟨v,w,[],All2.nil,?_,by simpa [cellsOf] using hown,⟨rfl,rfl,rfl,O2 _,fun _ _ _=>rfl⟩,.inl rfl⟩
   by_cases hc0:cap=0
   ·subst hc0
    exact run_append_owned_none (P:=P) w 0 T t e ti E.s hS.und hi v l.length _ hown
   ·rcases hown.2 with ⟨rfl,hl0⟩ | ⟨g',cap',cur,rfl,_,_,hnc,_⟩
    ·simp [Builtin.append_,run_underlying hS.und,Go.sizeOf,typeInfo,hi,Builtin.lenOf,Builtin.firstCells]
    ·simp [Builtin.append_,run_underlying hS.und,Go.sizeOf,typeInfo,hi,Builtin.lenOf,Builtin.firstCells,hnc,storeCells]
  | some ad=>
   have hex:∀ i (h:i < m.length),∃ c:CS E.s,E.r w X c.1 m[i]∧∀ j u,c.1[j]?=some u→w.cell? (ad.add (i*E.s+j))=some u:=by
    intro i h
    obtain ⟨_,cs,h1,h2⟩:=hsee i m[i] (by simp [h])
    exact ⟨⟨cs,E.len h1,E.one h1⟩,h1,h2⟩
   have hc2:∃ c2:List (CS E.s),c2.length=m.length∧∀ i c x,c2[i]?=some c→m[i]?=some x→E.r w X c.1 x∧∀ j u,c.1[j]?=some u→w.cell? (ad.add (i*E.s+j))=some u:=by
    refine ⟨List.ofFn fun i:Fin m.length=>Classical.choose (hex i.1 i.2),H0,fun i c x hc hx=>?_⟩
    have hi':i < m.length:=(S2.1 hx).1
    have hsp:=Ib (hex i hi')
    simp only [Uk,hi',dite_true,Na] at hc
    have hx':m[i]=x:=(S2.1 hx).2
    rw [← hc,← hx']
    exact hsp
   obtain ⟨c2,hl2,hc2⟩:=hc2
   have hA2:All2 w X E c2 m:=⟨hl2,fun i c x h1 h2=>(hc2 i c x h1 h2).1⟩
   have hnews:∀ j u,(cellsOf c2)[j]?=some u→w.cell? (ad.add j)=some u:=by
    intro j u' hj
    have hlt:j < m.length*E.s:=by have:=(S2.1 hj).1; rwa [H4,hl2] at this
    have hp:=E.pos
    have hq:j / E.s < m.length:=Gk (by rw [Z8]; exact hlt)
    have hmd:j % E.s < E.s:=ub _ hp
    have hq2:j / E.s < c2.length:=A0
    obtain ⟨_,h2⟩:=hc2 (j / E.s) c2[j / E.s] m[j / E.s] (by simp [hq2]) (by simp [hq])
    have h4:j / E.s*E.s+j % E.s=j:=by rw [Z8]; exact Xg j E.s
    have h5:(c2[j / E.s]).1[j % E.s]?=some ((c2[j / E.s]).1[j % E.s]'(by rw [(c2[j / E.s]).2.1]; exact hmd)):=by simp [(c2[j / E.s]).2.1,hmd]
    have h6:=h2 _ _ h5
    have h7:=jd (l:=c2) (i:=j / E.s) (by simp [hq2]) h5
    rw [h4] at h6 h7
    rw [h7] at hj
    simp only [Na] at hj
    subst hj
    exact h6
   obtain ⟨v',w',h1,h2,h3,_⟩:=run_append_own (P:=P) w 0 T t e ti zv E.s ti.bytes hS.und hi hz hsz rfl hzs E.pos v l.length _ hown ad m.length cap (cellsOf c2) (by rw [H4,hl2]) hnews (fun u hu=>Hg u hu) h63 hbytes (oc _)
   refine ⟨v',w',c2,hA2,h1,h2,h3,?_⟩
   by_cases hm0:m.length=0
   ·have hr:=Ay (P:=P) (w:=w) (t:=t) hS.und hi hown (cap:=cap) ad
    rw [hm0] at h1
    rw [hr] at h1
    simp only [Result.ok.injEq] at h1
    rw [← h1.1]; exact .inl rfl
   ·rcases hown.2 with ⟨rfl,hl0⟩ | ⟨g',cap',cur,rfl,_,hgg,hnc,hcm,hcs,htk⟩
    ·have hr:=run_append_nil (P:=P) w T t e ti zv hS.und hi hz ad m.length cap (cellsOf c2) (by rw [H4,hl2,hsz]) hnews A0 A0 (by have:=hbytes; rw [hl0,Y8] at this; omega)
     rw [hr] at h1
     simp only [Result.ok.injEq] at h1
     rw [← h1.1]; exact .inr rfl
    ·by_cases hroom:l.length+m.length≤cap'
     ·have hfit:l.length*ti.size+(cellsOf c2).length≤cur.size:=by rw [hcs,H4,hl2,hsz,← T6]; exact M9 _ hroom
      have hr:=run_append_room (P:=P) w T t e ti hS.und hi g' l.length cap' cur hgg ad m.length cap (cellsOf c2) (by rw [H4,hl2,hsz]) hnews (fun u hu=>Hg u hu) hroom hfit
      rw [hr] at h1
      simp only [Result.ok.injEq] at h1
      rw [← h1.1]; exact .inl rfl
     ·have holds:∀ j u,(cellsOf c)[j]?=some u→w.cell? ((⟨g',0,none⟩:Addr).add j)=some u:=hown.cells (g:=g') rfl
      have hr:=run_append_grow (P:=P) w T t e ti zv hS.und hi hz ⟨g',0,none⟩ l.length cap' (cellsOf c) (by rw [H4,ha.1,hsz]) holds ad m.length cap (cellsOf c2) (by rw [H4,hl2,hsz]) hnews A0 A0 (growslice_fits A0 hbytes)
      rw [hr] at h1
      simp only [Result.ok.injEq] at h1
      rw [← h1.1]; exact .inr rfl
 obtain ⟨v',w',c2,hA2,h1,h2,h3,h4⟩:=main
 refine ⟨v',w',?_,X,hX.upd fun F' hr' _=>⟨fun b=>v'.ownBlock=some b,fun hsame=>⟨by simpa using h63,c++c2,(ha.app hA2).mono hsame (fun _ h=>h),by rw [aa]; simpa using h2,fun b=>Jd⟩,?_,(Chg.grown h3).mono (fun b hb=>?_)⟩⟩
 ·simp [execOp,resolve,invoke,builtin,hx,hy,h1]
 ·obtain ⟨_,_,_,_,hF'⟩:=hr'
  intro b hb
  rcases h4 with h4 | h4
  ·exact .inl ((hF' b).2 (h4▸hb))
  ·exact .inr (by rw [h4] at hb; simp at hb; omega)
 ·obtain ⟨_,_,_,_,hF'⟩:=hr'
  exact (hF' b).2 hb
theorem Bz {k:List α} (hst:St w0 ros (row e E v l::rs) w) (hS:SlT P T e E q)
  (hx:a.eval x=v) (hy:a.eval y=u) (hu:Rd ros (row e E v l::rs) E u m) (hk:app l m=some k):
  ∃ v' w',(execOp a.eval ⟨d,.call ⟨.builtin .append,#[x,y],#[T,T]⟩,t,p,af,g⟩).run P w=.ok (.value v') w'∧St w0 ros (row e E v' k::rs) w':=by
 obtain ⟨X,hX⟩:=hst
 exact sr hX hS hx hy (hu _ _ _ hX) hk
theorem W3 {i:Int} {z:α} {l':List α} {cs:List Value} (hst:St w0 ros (row U E v l::rs) w) (hO:OneT P T) (hE:E.s=1) (hx:a.eval x=eAddr v E.s i) (hy:a.eval y=u) (hc:u.cells=cs.toArray) (hm:Mk ros E cs z) (hq:setI l i z=some l'):
  ∃ w',(execOp a.eval ⟨d,.store T x y,t,p,af,g⟩).run P w=.ok .skip w'∧St w0 ros (row U E v l'::rs) w':=by
 obtain ⟨ti,h1,h2⟩:=hO.inf
 exact rr hst h1 A0 hx hy hc hm hq
theorem w8 {i:Int} {z:α} {l':List α} {cs:List Value} (hst:St w0 ros (row U E v l::rs) w) (hT:StT P T E.s) (hx:a.eval x=eAddr v E.s i) (hy:a.eval y=u) (hc:u.cells=cs.toArray) (hm:Mk ros E cs z) (hq:setI l i z=some l'):
  ∃ w',(execOp a.eval ⟨d,.store T x y,t,p,af,g⟩).run P w=.ok .skip w'∧St w0 ros (row U E v l'::rs) w':=by
 obtain ⟨ti,h1,h2⟩:=hT.inf
 exact rr hst h1 h2 hx hy hc hm hq
end
theorem Ea {b o:Nat} {vals vals':List Value} (hst:St w0 ros (box b U vals::rs) w) (hO:OneT P T) (hx:a.eval x=.pointer (some ⟨b,o,none⟩)) (hy:a.eval y=u) (hc:u.cells=#[u]) (h1:u.oneCell'=true) (ho:Nat.blt o vals.length=true) (hv:vals.set o u=vals'):
  ∃ w',(execOp a.eval ⟨d,.store T x y,t,p,af,g⟩).run P w=.ok .skip w'∧St w0 ros (box b U vals'::rs) w':=by
 obtain ⟨ti,h2,h3⟩:=hO.inf
 have ho':o < vals.length:=by simpa [S7] using ho
 obtain ⟨w',hr,hs⟩:=nr (P:=P) (U:=U) (us:=[u]) (d:=d) (t:=t) (p:=p) (af:=af) (g:=g) hst h2 h3 hx hy hc rfl A0 (by simpa using h1)
 have:vals.take o++[u]++vals.drop (o+1)=vals':=by rw [← hv,yu,M0 ho']; simp
 rw [this] at hs
 exact ⟨w',hr,hs⟩
theorem G3 {b o n:Nat} {vals us vals':List Value} (hst:St w0 ros (box b U vals::rs) w) (hT:StT P T n) (hx:a.eval x=.pointer (some ⟨b,o,none⟩)) (hy:a.eval y=.agg us.toArray) (hl:us.length=n) (ho:Nat.ble (o+n) vals.length=true) (h1:∀ v,v∈us→v.oneCell'=true) (hv:vals.take o++us++vals.drop (o+n)=vals'):
  ∃ w',(execOp a.eval ⟨d,.store T x y,t,p,af,g⟩).run P w=.ok .skip w'∧St w0 ros (box b U vals'::rs) w':=by
 obtain ⟨ti,h2,h3⟩:=hT.inf
 subst hv
 exact nr (P:=P) (U:=U) (us:=us) (d:=d) (t:=t) (p:=p) (af:=af) (g:=g) hst h2 h3 hx hy rfl hl (by simpa using ho) h1
end
end Sx
