/- What each operation comes to, over any program: the operations that make or write memory. -/
import Derived.Test.YtoahkigijbeegaaGreatDoorSxD
namespace Sx
open Go
section
variable {P:Program} {w0 w:World} {mu:List Fact} {rs:List Res} {a:Act} {d:Option Tmp} {t:TypeId} {p:String} {af:Array Edge} {g:Option (Nat×Bool)}
variable {x y z:Operand} {T U:TypeId} {v u:Value}
theorem W5 (nu:St w0 mu rs w) {vals:List Value} (hx:a.eval x=v) (hc:v.cells=vals.toArray):
  ∃ b w',(execOp a.eval ⟨d,.box T x,t,p,af,g⟩).run P w=.ok (.value (.pointer (some ⟨b,0,none⟩))) w'∧St w0 mu (box b T vals::rs) w':=by
 refine ⟨w.heap.size,w.alloc (.cells vals.toArray T),?_,?_⟩
 ·simp [execOp,Instr.box,newVar,newRow,hx,hc]
 ·exact nu.new (Chg.alloc _ _ _) fun X _ _=>⟨fun b=>b=w.heap.size,⟨heap_alloc_new w _,fun _=>U8⟩,fun b hb=>n0⟩
theorem wy (nu:St w0 mu rs w) {vals:List Value} {ti:TypeInfo} {zv:Value} (hi:P.info? T=some ti) (hz:ti.zero=some zv) (hc:zv.cells=vals.toArray):
  ∃ b w',(execOp a.eval ⟨d,.alloc T,t,p,af,g⟩).run P w=.ok (.value (.pointer (some ⟨b,0,none⟩))) w'∧St w0 mu (box b T vals::rs) w':=by
 refine ⟨w.heap.size,w.alloc (.cells vals.toArray T),?_,?_⟩
 ·simp [execOp,Instr.alloc,newVar,newRow,zeroValue,typeInfo,hi,hz,hc]
 ·exact nu.new (Chg.alloc _ _ _) fun X _ _=>⟨fun b=>b=w.heap.size,⟨heap_alloc_new w _,fun _=>U8⟩,fun b hb=>n0⟩
theorem Zo {b o n:Nat} {vals us:List Value} {ti:TypeInfo} (nu:St w0 mu (box b U vals::rs) w) (hi:P.info? T=some ti) (hn:ti.size=n)
  (hx:a.eval x=.pointer (some ⟨b,o,none⟩)) (hy:a.eval y=u) (hc:u.cells=us.toArray) (hl:us.length=n) (ho:o+n≤vals.length) (h1:∀ v,v∈us→v.oneCell'=true):
  ∃ w',(execOp a.eval ⟨d,.store T x y,t,p,af,g⟩).run P w=.ok .skip w'∧St w0 mu (box b U (vals.take o++us++vals.drop (o+n))::rs) w':=by
 have hb:=nu.box_h (.head _)
 have hs:=run_storeCells_at (P:=P) b o U us 0 vals.toArray w hb (by simp; omega) h1
 refine ⟨_,?_,nu.upd fun X F _ ⟨hb,hF⟩=>⟨F,fun _=>⟨setRow_heap w b vals.toArray _ U (0,0) hb,hF⟩,fun _ h=>.inl h,Chg.setRow ((hF b).2 rfl)⟩⟩
 simp only [l7,hl] at hs
 simp only [execOp,Instr.storeAt,hx,hy,Instr.sureAddr,Sem.run_bind,Sem.run_pure,Result.andThen_ok,storeVar,Go.sizeOf,typeInfo,hc,run_program,hi]
 simp [hn,hl,hs]
section
variable {α:Type} {E:Rp α} {l m:List α} {e:TypeId} {q:α}
def Mk (mu:List Fact) (E:Rp α) (cs:List Value) (x:α):Prop:=∀ w X,(∀ q,q∈mu→q.h w X)→E.r w X cs x
theorem r_st {i:Int} {z:α} {l':List α} {ti:TypeInfo} {cs:List Value} (nu:St w0 mu (row U E v l::rs) w) (hi:P.info? T=some ti) (hn:ti.size=E.s)
  (hx:a.eval x=eAddr v E.s i) (hy:a.eval y=u) (hc:u.cells=cs.toArray) (hm:Mk mu E cs z) (hq:setI l i z=some l'):
  ∃ w',(execOp a.eval ⟨d,.store T x y,t,p,af,g⟩).run P w=.ok .skip w'∧St w0 mu (row U E v l'::rs) w':=by
 obtain ⟨h0,h1,rfl⟩:=y7 hq
 have hlt:i.toNat < l.length:=n0
 obtain ⟨X0,kG⟩:=nu.use
 have EF:=hm w X0 kG
 have pI:∀ v∈cs,v.oneCell'=true:=E.one EF
 have hlen:=E.len EF
 have raw:∀ X F,(row U E v l).holds w X F→∃ b cap cur,v=.slice (some ⟨b,0,none⟩) l.length cap∧w.heap[b]?=some (.cells cur U (0,0))∧l.length≤cap∧cap≤maxLen∧cur.size=cap*E.s:=by
  rintro X F ⟨hm,c,ha,⟨_,h⟩,hF⟩
  rcases h with ⟨_,h0⟩ | ⟨g,cap,cur,rfl,_,hg,Bv,jy,Mu,vv⟩
  ·omega
  ·exact ⟨g,cap,cur,rfl,hg,Bv,jy,Mu⟩
 obtain ⟨b,cap,cur,rfl,hb,Bv,jy,Mu⟩:∃ b cap cur,v=.slice (some ⟨b,0,none⟩) l.length cap∧w.heap[b]?=some (.cells cur U (0,0))∧l.length≤cap∧cap≤maxLen∧cur.size=cap*E.s:=by
  obtain ⟨X,nu⟩:=nu
  obtain ⟨F,hF,_⟩:=nu.own
  exact raw X F hF
 have hmul:i.toNat*E.s+E.s≤l.length*E.s:=by
  have h2:(i.toNat+1)*E.s≤l.length*E.s:=q8 _ n0
  rw [S5] at h2; omega
 have bN:l.length*E.s≤cap*E.s:=q8 _ Bv
 have hs:=run_storeCells_at (P:=P) b (i.toNat*E.s) U cs 0 cur w hb (by rw [hlen]; omega) pI
 simp only [l7,hlen] at hs
 have EE:(⟨b,0,none⟩:Addr).add (i.toNat*E.s)=⟨b,i.toNat*E.s,none⟩:=by rw [M7,o8]
 refine ⟨w.setRow b (cur.toList.take (i.toNat*E.s)++cs++cur.toList.drop (i.toNat*E.s+E.s)).toArray,?_,nu.upd fun X F mO hF=>?_⟩
 ·simp only [execOp,Instr.storeAt,hx,hy,eAddr,sAddr,Instr.sureAddr,Sem.run_bind,Sem.run_pure,Result.andThen_ok,storeVar,Go.sizeOf,typeInfo,hc,run_program,hi,EE]
  simp [hn,hlen,hs]
 ·obtain ⟨PH,c,ha,⟨sy,h⟩,SM⟩:=hF
  rcases h with ⟨hv,_⟩ | ⟨b',Cv,cur',hv,WE,BK,pG,nG,nI,VG⟩
  ·cases hv
  ·simp at hv
   obtain ⟨rfl,rfl⟩:=hv
   have:cur'=cur:=by rw [BK] at hb; simpa using hb
   subst this
   have PO:F b:=(SM b).2 (by simp [Value.ownBlock])
   let c1:CS E.s:=⟨cs,hlen,pI⟩
   refine ⟨F,fun Fu=>⟨by simpa using PH,c.set i.toNat c1,(ha.mono Fu (fun _ h=>h)).set (E.mono (hm w X mO) Fu (fun _ h=>h)),⟨by rw [K4]; simp [ha.1],.inr ⟨b,cap,_,G0,WE,setRow_heap w b cur' _ U (0,0) hb,by simpa using Bv,jy,?_,?_⟩⟩,SM⟩,fun _ h=>.inl h,Chg.setRow PO⟩
   ·simp [hlen]; omega
   ·obtain ⟨q0,YD⟩:∃ q0,c[i.toNat]?=some q0:=⟨c[i.toNat]'(by rw [ha.1]; exact hlt),by simp [ha.1,hlt]⟩
    rw [pC YD c1,← VG]
    simp only [s7]
    apply C6
    intro j
    have cx:c1.1=cs:=rfl
    simp only [K5,qj,H2,A4,hlen,B6,J9,cx]
    have e1:min (i.toNat*E.s) cur'.size=i.toNat*E.s:=n0
    have e2:min (i.toNat*E.s) (min (l.length*E.s) cur'.size)=i.toNat*E.s:=n0
    rw [e1,e2]
    by_cases hj:j < l.length*E.s
    ·rw [I0 hj]
     by_cases zE:j < i.toNat*E.s+E.s
     ·rw [I0 zE,I0 zE]
      by_cases yE:j < i.toNat*E.s
      ·simp [yE]; omega
      ·simp [yE]
     ·rw [J0 zE,J0 zE,B0]
    ·rw [J0 hj,A0,A0]
def BIG:Int:=1099511627776
def mkL {β:Type} (z:β) (n:Int):Option (List β):=if 0≤n∧n≤BIG then some (List.replicate n.toNat z) else none
def app {β:Type} (l m:List β):Option (List β):=if ((l.length+m.length:Nat):Int)≤BIG then some (l++m) else none
theorem Fs {β:Type} {l m k:List β} (h:app l m=some k):k=l++m∧((l.length+m.length:Nat):Int)≤BIG:=by
 unfold app at h
 split at h
 ·rename_i hb; simp at h; exact ⟨h.symm,hb⟩
 ·cases h
theorem Np {β:Type} {z:β} {n:Int} {l:List β} (h:mkL z n=some l):∃ k:Nat,n=(k:Int)∧(k:Int)≤BIG∧l=List.replicate k z:=by
 unfold mkL at h
 split at h
 ·rename_i hb; simp at h; exact ⟨n.toNat,n0,n0,h.symm⟩
 ·cases h
theorem jh {s:Nat} {c:CS s} {zv:Value} (hp:0 < s) (hz:zv.cells=c.1.toArray) (n:Nat):(madeCells zv.cells (n*s)).toList=cellsOf (List.replicate n c):=by
 apply C6
 intro j
 by_cases hj:j < n*s
 ·have hq:j / s < n:=Zs (by rw [s8]; exact hj)
  have hm:j % s < s:=Nf _ hp
  have h1:(List.replicate n c)[j / s]?=some c:=by simp [hq]
  have h2:c.1[j % s]?=some (c.1[j % s]'(by rw [c.2.1]; exact hm)):=by simp [c.2.1,hm]
  have h3:=Cc h1 h2
  have h4:j / s*s+j % s=j:=by rw [s8]; exact bj j s
  rw [h4] at h3
  rw [h3]
  simp [madeCells,hj,hz,c.2.1,hm]
 ·rw [L5 (by simp [size_madeCells]; omega),L5 (by rw [K4]; simp; omega)]
theorem py {n:Int} {l:List α} {ik:IntKind} (nu:St w0 mu rs w) (hS:SlT P T e E q) (hx:a.eval x=.int ik n) (hk:mkL q n=some l):
  ∃ v w',(execOp a.eval ⟨d,.makeSlice T x x,t,p,af,g⟩).run P w=.ok (.value v) w'∧St w0 mu (row e E v l::rs) w':=by
 obtain ⟨ti,zv,hi,Mu,IG,hz,sE⟩:=hS.inf
 obtain ⟨k,rfl,hb,rfl⟩:=Np hk
 unfold BIG at hb
 have Gu:(ti.bytes:Int)*(k:Int)≤281474976710656:=by
  have h2:((ti.bytes*k:Nat):Int)≤((256*1099511627776:Nat):Int):=by
   have:ti.bytes*k≤256*1099511627776:=F5 n0 n0
   omega
  rw [cd] at h2
  omega
 have hr:=run_make (P:=P) w T e ti zv hS.und hi hz ik ik (k:Int) (k:Int) n0 (Int.le_refl _) Gu n0
 have Ev:k≤maxLen:=by simp only [maxLen]; omega
 simp only [H1] at hr
 have TF:=sE w fun _=>True
 let c:CS E.s:=⟨zv.cells.toList,E.len TF,E.one TF⟩
 refine ⟨.slice (some ⟨w.heap.size,0,none⟩) k k,_,?_,nu.new (r1:=row e E _ _) (Chg.alloc _ _ (.cells (madeCells zv.cells (k*ti.size)) e)) fun X _ _=>⟨fun b=>b=w.heap.size,?_,fun b hb=>n0⟩⟩
 ·simp [execOp,hx,hr]
 ·refine ⟨by simpa using Ev,List.replicate k c,All2.rep k (sE _ X),?_,fun b=>by simp [Value.ownBlock]; exact eq_comm⟩
  have h:=World.ownsRow_lit (base:=0) (e:=e) (size:=E.s) w (madeCells zv.cells (k*ti.size)) k (n8 _) Ev (by rw [size_madeCells,Mu])
  rw [Mu,jh (c:=c) E.pos (by simp [c]) k] at h
  rw [Mu]
  simpa using h
theorem SA:∀ (l:List Value) (k off:Nat) (cells:Array Value),off+k+l.length≤cells.size→
  ((l.zipIdx k).foldl (fun (cs:Array Value) (cq:Value×Nat)=>cs.setIfInBounds (off+cq.2) cq.1) cells).toList=cells.toList.take (off+k)++l++cells.toList.drop (off+k+l.length):=by
 intro l
 induction l with
 | nil=>intro k off cells _; simp
 | cons v l ih=>
  intro k off cells h
  simp only [List.zipIdx_cons,List.foldl_cons,B4] at*
  rw [ih (k+1) off _ (by simp; omega)]
  have e:=list_seg_step cells.toList (off+k) v l (by simp; omega)
  simpa [Array.toList_setIfInBounds,Of] using e
theorem fB {s:Nat}:∀ (qs:List Value) (j:Nat) (cells:Array Value),(∀ q,q∈qs→q.cells.size=s)→(j+qs.length)*s≤cells.size→
  ∃ cs,Instr.fill (fun i=>some (i*s,s)) cells (qs.zipIdx j |>.map fun q=>(q.2,q.1))=some cs∧cs.toList=cells.toList.take (j*s)++qs.flatMap (fun q=>q.cells.toList)++cells.toList.drop ((j+qs.length)*s):=by
 intro qs
 induction qs with
 | nil=>intro j cells _ _; exact ⟨cells,by simp [Instr.fill],G0⟩
 | cons q qs ih=>
  intro j cells hq Mu
  have h1:=hq q G0
  have e1:(j+(q::qs).length)*s=(j+1+qs.length)*s:=by simp only [B4]; congr 1; omega
  have e2:(j+1+qs.length)*s=j*s+s+qs.length*s:=by rw [S5,S5,Nat.one_mul]
  have OF:j*s+s≤cells.size:=n0
  let cells':=q.cells.zipIdx.foldl (fun (cs:Array Value) (cq:Value×Nat)=>cs.setIfInBounds (j*s+cq.2) cq.1) cells
  have Hu:cells'.toList=cells.toList.take (j*s)++q.cells.toList++cells.toList.drop (j*s+s):=by
   have:=SA q.cells.toList 0 (j*s) cells (by simp [h1]; omega)
   simp only [l7,J9,h1] at this
   rw [← this]
   refine S0 Array.toList ?_
   simp only [cells',← Array.foldl_toList,Array.toList_zipIdx]
  have xE:cells'.size=cells.size:=by
   rw [← J9,Hu]
   simp [h1]; omega
  obtain ⟨cs,oy,WH⟩:=ih (j+1) cells' (fun q' h=>hq q' (by simp [h])) n0
  refine ⟨cs,?_,?_⟩
  ·simp only [List.zipIdx_cons,F7,Instr.fill]
   rw [J0 (by simp [h1]; omega)]
   exact oy
  ·rw [WH,Hu]
   simp only [Tc]
   have e3:(j+1)*s=j*s+s:=by rw [S5,Nat.one_mul]
   rw [e3]
   have e4:(cells.toList.take (j*s)++q.cells.toList++cells.toList.drop (j*s+s)).take (j*s+s)=cells.toList.take (j*s)++q.cells.toList:=by
    rw [gD (by simp [h1]; omega)]
    exact P4 (by simp [h1]; omega)
   have e5:(cells.toList.take (j*s)++q.cells.toList++cells.toList.drop (j*s+s)).drop ((j+1+qs.length)*s)=cells.toList.drop ((j+(q::qs).length)*s):=by
    rw [List.drop_append]
    have:(cells.toList.take (j*s)++q.cells.toList).length=j*s+s:=by simp [h1]; omega
    rw [wj n0,this,v8,G9]
    congr 1
    omega
   rw [e4,e5]
   simp
def Mks (mu:List Fact) (E:Rp α):List Value→List α→Prop
 | [],[]=>True
 | q::qs,x::xs=>(∃ cs,q.cells=cs.toArray∧Mk mu E cs x)∧Mks mu E qs xs
 | _,_=>False
theorem Mks.all {w:World} {X:Nat→Prop} (hX:∀ q,q∈mu→q.h w X):∀ {qs:List Value} {l:List α},Mks mu E qs l→∃ c:List (CS E.s),(∀ w X,(∀ q,q∈mu→q.h w X)→All2 w X E c l)∧qs.map Value.cells=c.map (fun z=>z.1.toArray):=by
 intro qs
 induction qs with
 | nil=>intro l h; cases l with
  | nil=>exact ⟨[],fun _ _ _=>All2.nil,rfl⟩
  | cons x xs=>exact h.elim
 | cons q qs ih=>intro l h; cases l with
  | nil=>exact h.elim
  | cons x xs=>
   obtain ⟨⟨cs,h1,h2⟩,h3⟩:=h
   obtain ⟨c,h4,h5⟩:=ih h3
   have hr:=h2 w X hX
   obtain ⟨c1,cx⟩:∃ c1:CS E.s,c1.1=cs:=⟨⟨cs,E.len hr,E.one hr⟩,rfl⟩
   refine ⟨c1::c,fun w' X' h=>?_,by simp [h1,h5,cx]⟩
   have:=h4 w' X' h
   refine ⟨by simp [this.1],fun i c' x' hc hx=>?_⟩
   cases i with
   | zero=>simp at hc hx; subst hc; subst hx; rw [cx]; exact h2 w' X' h
   | succ i=>simp at hc hx; exact this.2 i c' x' hc hx
theorem qy {n:Nat} {parts:Array (Nat×Operand)} (nu:St w0 mu rs w) (hS:SlT P T e E q)
  (qs:List Value) (hp:(parts.map fun (i,x)=>(i,a.eval x))=(qs.zipIdx.map fun q=>(q.2,q.1)).toArray) (hl:l.length=n) (hn:Nat.ble (n*E.s) 16777216=true)
  (hq:Mks mu E qs l):
  ∃ v w',(execOp a.eval ⟨d,.buildSlice T n parts,t,p,af,g⟩).run P w=.ok (.value v) w'∧St w0 mu (row e E v l::rs) w':=by
 obtain ⟨ti,zv,hi,Mu,IG,hz,sE⟩:=hS.inf
 have hn:n*E.s≤16777216:=by simpa using hn
 obtain ⟨X0,kG⟩:=nu.use
 obtain ⟨c,iv,XH⟩:=Mks.all kG hq
 have Hv:c.length=n:=by rw [(iv w X0 kG).1,hl]
 have gH:qs.length=n:=by have:=S0 List.length XH; simpa [Hv] using this
 have oy:∀ q,q∈qs→q.cells.size=E.s:=by
  intro q hm
  have:q.cells∈qs.map Value.cells:=List.mem_map_of_mem hm
  rw [XH] at this
  obtain ⟨z,_,hz⟩:=Z5.1 this
  rw [← hz]; simp [z.2.1]
 have ZI:qs.flatMap (fun q=>q.cells.toList)=cellsOf c:=by
  have:qs.flatMap (fun q=>q.cells.toList)=(qs.map Value.cells).flatMap Array.toList:=by rw [Jt]
  rw [this,XH,Jt]; rfl
 have key:∀ cells:Array Value,cells.size=n*E.s→∃ cs,Instr.fill (fun i=>some (i*E.s,E.s)) cells (qs.zipIdx.map fun q=>(q.2,q.1))=some cs∧cs.toList=cellsOf c:=by
  intro cells nI
  obtain ⟨cs,h1,h2⟩:=fB (s:=E.s) qs 0 cells oy (by rw [o8,gH]; omega)
  refine ⟨cs,h1,?_⟩
  rw [h2,ZI,Qs,o8,gH,wj (by simp [nI])]
  simp
 have Ev:n≤maxLen:=by
  have h1:n*1≤n*E.s:=Nat.mul_le_mul_left _ E.pos
  simp only [maxLen]; omega
 obtain ⟨cs,hf,WH⟩:∃ cs,Instr.fill (fun i=>some (i*E.s,E.s)) ((Array.range (n*E.s)).map ((if n*E.s=0 then (#[]:Array Value) else zv.cells)[· % (if n*E.s=0 then (#[]:Array Value) else zv.cells).size]!)) (qs.zipIdx.map fun q=>(q.2,q.1))=some cs∧cs.toList=cellsOf c:=key _ G0
 have OI:cs.size=n*E.s:=by rw [← J9,WH,K4,Hv]
 refine ⟨.slice (some ⟨w.heap.size,0,none⟩) n n,w.alloc (.cells cs e),?_,nu.new (r1:=row e E _ l) (Chg.alloc _ _ _) fun X Fu hX=>⟨fun b=>b=w.heap.size,?_,fun b hb=>n0⟩⟩
 ·have eL:¬ (16777216 < n*E.s):=n0
  have e0:(execOp a.eval ⟨d,.buildSlice T n parts,t,p,af,g⟩)=(do pure (.value (← Instr.buildSlice T n (parts.map fun (i,x)=>(i,a.eval x))))):=rfl
  rw [e0,hp]
  by_cases Bu:n*E.s=0
  ·have zP:=E.pos
   obtain rfl:n=0:=by rcases Nat.mul_eq_zero.1 Bu with h | h<;>omega
   obtain rfl:qs=[]:=P6 gH
   obtain rfl:c=[]:=P6 Hv
   obtain rfl:cs=#[]:=by cases cs; simpa [cellsOf] using WH
   simp [Instr.buildSlice,run_underlying hS.und,Go.sizeOf,typeInfo,hi,newRow,Instr.fill,Array.range_zero']
  ·simp only [Bu,if_false] at hf
   simp [Instr.buildSlice,run_underlying hS.und,Go.sizeOf,typeInfo,hi,Mu,eL,Bu,newRow,zeroValue,hz,hf]
 ·have h:=World.ownsRow_lit (base:=0) (e:=e) (size:=E.s) w cs n (n8 _) Ev OI
  rw [WH] at h
  exact ⟨n0,c,(iv w X hX).mono Fu (fun _ h=>h),by rw [hl]; exact h,fun b=>by simp [Value.ownBlock]; exact eq_comm⟩
theorem ox {ti:TypeInfo} {cap n:Nat} {xs:List Value} {sz:Nat} {T t e:TypeId} (hT:P.underlying T=some (.slice e)) (hi:P.info? e=some ti) (Fv:w.ownsRow 0 e sz v n xs) (ad:Addr):
  (Builtin.append_ #[T,T] t #[v,.slice (some ad) 0 cap]).run P w=.ok v w:=by
 rcases Fv.2 with ⟨rfl,_⟩ | ⟨g',Cv,cur,rfl,_,_,pJ,_⟩
 ·simp [Builtin.append_,run_underlying hT,Go.sizeOf,typeInfo,hi,Builtin.lenOf,Builtin.firstCells,loadCells,loadCellsFrom]
 ·simp [Builtin.append_,run_underlying hT,Go.sizeOf,typeInfo,hi,Builtin.lenOf,Builtin.firstCells,pJ,storeCells,loadCells,loadCellsFrom]
theorem bp {k:List α} {X:Nat→Prop} (hX:StX w0 X mu (row e E v l::rs) w) (hS:SlT P T e E q)
  (hx:a.eval x=v) (hy:a.eval y=u) (Tu:Sees w X E u m) (hk:app l m=some k):
  ∃ v' w',(execOp a.eval ⟨d,.call ⟨.builtin .append,#[x,y],#[T,T]⟩,t,p,af,g⟩).run P w=.ok (.value v') w'∧St w0 mu (row e E v' k::rs) w':=by
 obtain ⟨ti,zv,hi,Mu,IG,hz,sE⟩:=hS.inf
 obtain ⟨rfl,hb⟩:=Fs hk
 unfold BIG at hb
 have xH:zv.cells.size=E.s:=by have:=E.len (sE w X); simpa using this
 obtain ⟨F,⟨hm,c,ha,Fv,hF⟩,_⟩:=hX.own
 have wH:l.length+m.length≤maxLen:=by simp only [maxLen]; omega
 have Gu:(l.length+m.length)*ti.bytes≤140737488355328:=by
  have:(l.length+m.length)*ti.bytes≤1099511627776*128:=F5 n0 IG
  omega
 have main:∃ v' w',∃ c2:List (CS E.s),All2 w X E c2 m∧(Builtin.append_ #[T,T] t #[v,u]).run P w=.ok v' w'∧w'.ownsRow 0 e E.s v' (l.length+m.length) (cellsOf c++cellsOf c2)∧w.grownBy w' v.ownBlock∧
   (v'.ownBlock=v.ownBlock∨v'.ownBlock=some w.heap.size):=by
  obtain ⟨ad,cap,rfl,Bv,ZD,Tu⟩:=Tu
  cases ad with
  | none=>
   have cG:m=[]:=by
    cases m with
    | nil=>rfl
    | cons q m=>have:=(Tu 0 q rfl).1; cases this
   subst cG
   refine ⟨v,w,[],All2.nil,?_,by simpa [cellsOf] using Fv,⟨rfl,rfl,rfl,O4 _,fun _ _ _=>rfl⟩,.inl rfl⟩
   by_cases aI:cap=0
   ·subst aI
    exact run_append_owned_none (P:=P) w 0 T t e ti E.s hS.und hi v l.length _ Fv
   ·rcases Fv.2 with ⟨rfl,tF⟩ | ⟨g',Cv,cur,rfl,_,_,pJ,_⟩
    ·simp [Builtin.append_,run_underlying hS.und,Go.sizeOf,typeInfo,hi,Builtin.lenOf,Builtin.firstCells]
    ·simp [Builtin.append_,run_underlying hS.und,Go.sizeOf,typeInfo,hi,Builtin.lenOf,Builtin.firstCells,pJ,storeCells]
  | some ad=>
   have hex:∀ i (h:i < m.length),∃ c:CS E.s,E.r w X c.1 m[i]∧∀ j u,c.1[j]?=some u→w.cell? (ad.add (i*E.s+j))=some u:=by
    intro i h
    obtain ⟨_,cs,h1,h2⟩:=Tu i m[i] (by simp [h])
    exact ⟨⟨cs,E.len h1,E.one h1⟩,h1,h2⟩
   have uv:∃ c2:List (CS E.s),c2.length=m.length∧∀ i c x,c2[i]?=some c→m[i]?=some x→E.r w X c.1 x∧∀ j u,c.1[j]?=some u→w.cell? (ad.add (i*E.s+j))=some u:=by
    refine ⟨List.ofFn fun i:Fin m.length=>Classical.choose (hex i.1 i.2),G0,fun i c x hc hx=>?_⟩
    have IA:i < m.length:=(C2.1 hx).1
    have EH:=vd (hex i IA)
    simp only [Ht,IA,dite_true,w6] at hc
    have pv:m[i]=x:=(C2.1 hx).2
    rw [← hc,← pv]
    exact EH
   obtain ⟨c2,sy,uv⟩:=uv
   have yF:All2 w X E c2 m:=⟨sy,fun i c x h1 h2=>(uv i c x h1 h2).1⟩
   have Tw:∀ j u,(cellsOf c2)[j]?=some u→w.cell? (ad.add j)=some u:=by
    intro j u' hj
    have hlt:j < m.length*E.s:=by have:=(C2.1 hj).1; rwa [K4,sy] at this
    have hp:=E.pos
    have hq:j / E.s < m.length:=Zs (by rw [s8]; exact hlt)
    have HF:j % E.s < E.s:=Nf _ hp
    have GE:j / E.s < c2.length:=n0
    obtain ⟨_,h2⟩:=uv (j / E.s) c2[j / E.s] m[j / E.s] (by simp [GE]) (by simp [hq])
    have h4:j / E.s*E.s+j % E.s=j:=by rw [s8]; exact bj j E.s
    have h5:(c2[j / E.s]).1[j % E.s]?=some ((c2[j / E.s]).1[j % E.s]'(by rw [(c2[j / E.s]).2.1]; exact HF)):=by simp [(c2[j / E.s]).2.1,HF]
    have h6:=h2 _ _ h5
    have h7:=Cc (l:=c2) (i:=j / E.s) (by simp [GE]) h5
    rw [h4] at h6 h7
    rw [h7] at hj
    simp only [w6] at hj
    subst hj
    exact h6
   obtain ⟨v',w',h1,h2,h3,_⟩:=run_append_own (P:=P) w 0 T t e ti zv E.s ti.bytes hS.und hi hz Mu rfl xH E.pos v l.length _ Fv ad m.length cap (cellsOf c2) (by rw [K4,sy]) Tw (fun u hu=>mf u hu) wH Gu (n8 _)
   refine ⟨v',w',c2,yF,h1,h2,h3,?_⟩
   by_cases cG:m.length=0
   ·have hr:=ox (P:=P) (w:=w) (t:=t) hS.und hi Fv (cap:=cap) ad
    rw [cG] at h1
    rw [hr] at h1
    simp only [Result.ok.injEq] at h1
    rw [← h1.1]; exact .inl rfl
   ·rcases Fv.2 with ⟨rfl,tF⟩ | ⟨g',Cv,cur,rfl,_,lO,pJ,XH,oy,WJ⟩
    ·have hr:=run_append_nil (P:=P) w T t e ti zv hS.und hi hz ad m.length cap (cellsOf c2) (by rw [K4,sy,Mu]) Tw n0 n0 (by have:=Gu; rw [tF,o8] at this; omega)
     rw [hr] at h1
     simp only [Result.ok.injEq] at h1
     rw [← h1.1]; exact .inr rfl
    ·by_cases By:l.length+m.length≤Cv
     ·have OF:l.length*ti.size+(cellsOf c2).length≤cur.size:=by rw [oy,K4,sy,Mu,← S5]; exact q8 _ By
      have hr:=run_append_room (P:=P) w T t e ti hS.und hi g' l.length Cv cur lO ad m.length cap (cellsOf c2) (by rw [K4,sy,Mu]) Tw (fun u hu=>mf u hu) By OF
      rw [hr] at h1
      simp only [Result.ok.injEq] at h1
      rw [← h1.1]; exact .inl rfl
     ·have holds:∀ j u,(cellsOf c)[j]?=some u→w.cell? ((⟨g',0,none⟩:Addr).add j)=some u:=Fv.cells (g:=g') rfl
      have hr:=run_append_grow (P:=P) w T t e ti zv hS.und hi hz ⟨g',0,none⟩ l.length Cv (cellsOf c) (by rw [K4,ha.1,Mu]) holds ad m.length cap (cellsOf c2) (by rw [K4,sy,Mu]) Tw n0 n0 (growslice_fits n0 Gu)
      rw [hr] at h1
      simp only [Result.ok.injEq] at h1
      rw [← h1.1]; exact .inr rfl
 obtain ⟨v',w',c2,yF,h1,h2,h3,h4⟩:=main
 refine ⟨v',w',?_,X,hX.upd fun F' eH _=>⟨fun b=>v'.ownBlock=some b,fun Fu=>⟨by simpa using wH,c++c2,(ha.app yF).mono Fu (fun _ h=>h),by rw [s9]; simpa using h2,fun b=>U8⟩,?_,(Chg.grown h3).mono (fun b hb=>?_)⟩⟩
 ·simp [execOp,resolve,invoke,builtin,hx,hy,h1]
 ·obtain ⟨_,_,_,_,pE⟩:=eH
  intro b hb
  rcases h4 with h4 | h4
  ·exact .inl ((pE b).2 (h4▸hb))
  ·exact .inr (by rw [h4] at hb; simp at hb; omega)
 ·obtain ⟨_,_,_,_,pE⟩:=eH
  exact (pE b).2 hb
theorem uy {k:List α} (nu:St w0 mu (row e E v l::rs) w) (hS:SlT P T e E q)
  (hx:a.eval x=v) (hy:a.eval y=u) (hu:Rd mu (row e E v l::rs) E u m) (hk:app l m=some k):
  ∃ v' w',(execOp a.eval ⟨d,.call ⟨.builtin .append,#[x,y],#[T,T]⟩,t,p,af,g⟩).run P w=.ok (.value v') w'∧St w0 mu (row e E v' k::rs) w':=by
 obtain ⟨X,hX⟩:=nu
 exact bp hX hS hx hy (hu _ _ _ hX) hk
theorem V1 {i:Int} {z:α} {l':List α} {cs:List Value} (nu:St w0 mu (row U E v l::rs) w) (hO:OneT P T) (hE:E.s=1) (hx:a.eval x=eAddr v E.s i) (hy:a.eval y=u) (hc:u.cells=cs.toArray) (hm:Mk mu E cs z) (hq:setI l i z=some l'):
  ∃ w',(execOp a.eval ⟨d,.store T x y,t,p,af,g⟩).run P w=.ok .skip w'∧St w0 mu (row U E v l'::rs) w':=by
 obtain ⟨ti,h1,h2⟩:=hO.inf
 exact r_st nu h1 n0 hx hy hc hm hq
end
theorem Yb {b o:Nat} {vals ru:List Value} (nu:St w0 mu (box b U vals::rs) w) (hO:OneT P T) (hx:a.eval x=.pointer (some ⟨b,o,none⟩)) (hy:a.eval y=u) (hc:u.cells=#[u]) (h1:u.oneCell'=true) (ho:Nat.blt o vals.length=true) (hv:vals.set o u=ru):
  ∃ w',(execOp a.eval ⟨d,.store T x y,t,p,af,g⟩).run P w=.ok .skip w'∧St w0 mu (box b U ru::rs) w':=by
 obtain ⟨ti,h2,h3⟩:=hO.inf
 have wE:o < vals.length:=by simpa [L6] using ho
 obtain ⟨w',hr,hs⟩:=Zo (P:=P) (U:=U) (us:=[u]) (d:=d) (t:=t) (p:=p) (af:=af) (g:=g) nu h2 h3 hx hy hc rfl n0 (by simpa using h1)
 have:vals.take o++[u]++vals.drop (o+1)=ru:=by rw [← hv,nt,I0 wE]; simp
 rw [this] at hs
 exact ⟨w',hr,hs⟩
theorem w5 {b o n:Nat} {vals us ru:List Value} (nu:St w0 mu (box b U vals::rs) w) (hT:StT P T n) (hx:a.eval x=.pointer (some ⟨b,o,none⟩)) (hy:a.eval y=.agg us.toArray) (hl:us.length=n) (ho:Nat.ble (o+n) vals.length=true) (h1:∀ v,v∈us→v.oneCell'=true) (hv:vals.take o++us++vals.drop (o+n)=ru):
  ∃ w',(execOp a.eval ⟨d,.store T x y,t,p,af,g⟩).run P w=.ok .skip w'∧St w0 mu (box b U ru::rs) w':=by
 obtain ⟨ti,h2,h3⟩:=hT.inf
 subst hv
 exact Zo (P:=P) (U:=U) (us:=us) (d:=d) (t:=t) (p:=p) (af:=af) (g:=g) nu h2 h3 hx hy rfl hl (by simpa using ho) h1
end
end Sx
