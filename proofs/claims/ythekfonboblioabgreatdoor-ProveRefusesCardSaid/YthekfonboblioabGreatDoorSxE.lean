/- What each operation comes to, over any program: the operations that make or write memory. -/
import Derived.Test.YthekfonboblioabGreatDoorSxD
namespace Sx
open Go
section
variable {P:Program} {w0 w:World} {ax:List Fact} {rs:List Res} {a:Act} {d:Option Tmp} {t:TypeId} {p:String} {af:Array Edge} {g:Option (Nat×Bool)}
variable {x y z:Operand} {T U:TypeId} {v u:Value}
theorem jd (cx:St w0 ax rs w) {vals:List Value} (hx:a.eval x=v) (hc:v.cells=vals.toArray):
  ∃ b w',(execOp a.eval ⟨d,.box T x,t,p,af,g⟩).run P w=.ok (.value (.pointer (some ⟨b,0,none⟩))) w'∧St w0 ax (box b T vals::rs) w':=by
 refine ⟨w.heap.size,w.alloc (.cells vals.toArray T),?_,?_⟩
 ·simp [execOp,Instr.box,newVar,newRow,hx,hc]
 ·exact cx.new (Chg.alloc _ _ _) fun X _ _=>⟨fun b=>b=w.heap.size,⟨heap_alloc_new w _,fun _=>Yd⟩,fun b hb=>A0⟩
theorem iB (cx:St w0 ax rs w) {vals:List Value} {ti:TypeInfo} {zv:Value} (hi:P.info? T=some ti) (hz:ti.zero=some zv) (hc:zv.cells=vals.toArray):
  ∃ b w',(execOp a.eval ⟨d,.alloc T,t,p,af,g⟩).run P w=.ok (.value (.pointer (some ⟨b,0,none⟩))) w'∧St w0 ax (box b T vals::rs) w':=by
 refine ⟨w.heap.size,w.alloc (.cells vals.toArray T),?_,?_⟩
 ·simp [execOp,Instr.alloc,newVar,newRow,zeroValue,typeInfo,hi,hz,hc]
 ·exact cx.new (Chg.alloc _ _ _) fun X _ _=>⟨fun b=>b=w.heap.size,⟨heap_alloc_new w _,fun _=>Yd⟩,fun b hb=>A0⟩
theorem Xr {b o n:Nat} {vals us:List Value} {ti:TypeInfo} (cx:St w0 ax (box b U vals::rs) w) (hi:P.info? T=some ti) (hn:ti.size=n)
  (hx:a.eval x=.pointer (some ⟨b,o,none⟩)) (hy:a.eval y=u) (hc:u.cells=us.toArray) (hl:us.length=n) (ho:o+n≤vals.length) (h1:∀ v,v∈us→v.oneCell'=true):
  ∃ w',(execOp a.eval ⟨d,.store T x y,t,p,af,g⟩).run P w=.ok .skip w'∧St w0 ax (box b U (vals.take o++us++vals.drop (o+n))::rs) w':=by
 have hb:=cx.box_h (.head _)
 have hs:=run_storeCells_at (P:=P) b o U us 0 vals.toArray w hb (by simp; omega) h1
 refine ⟨_,?_,cx.upd fun X F _ ⟨hb,hF⟩=>⟨F,fun _=>⟨setRow_heap w b vals.toArray _ U (0,0) hb,hF⟩,fun _ h=>.inl h,Chg.setRow ((hF b).2 rfl)⟩⟩
 simp only [T9,hl] at hs
 simp only [execOp,Instr.storeAt,hx,hy,Instr.sureAddr,Sem.run_bind,Sem.run_pure,Result.andThen_ok,storeVar,Go.sizeOf,typeInfo,hc,run_program,hi]
 simp [hn,hl,hs]
section
variable {α:Type} {E:Rp α} {l m:List α} {e:TypeId} {q:α}
def Mk (ax:List Fact) (E:Rp α) (cs:List Value) (x:α):Prop:=∀ w X,(∀ q,q∈ax→q.h w X)→E.r w X cs x
theorem Yr {i:Int} {z:α} {l':List α} {ti:TypeInfo} {cs:List Value} (cx:St w0 ax (row U E v l::rs) w) (hi:P.info? T=some ti) (hn:ti.size=E.s)
  (hx:a.eval x=eAddr v E.s i) (hy:a.eval y=u) (hc:u.cells=cs.toArray) (hm:Mk ax E cs z) (hq:setI l i z=some l'):
  ∃ w',(execOp a.eval ⟨d,.store T x y,t,p,af,g⟩).run P w=.ok .skip w'∧St w0 ax (row U E v l'::rs) w':=by
 obtain ⟨h0,h1,rfl⟩:=H7 hq
 have hlt:i.toNat < l.length:=A0
 obtain ⟨X0,NN⟩:=cx.use
 have DH:=hm w X0 NN
 have eI:∀ v∈cs,v.oneCell'=true:=E.one DH
 have hlen:=E.len DH
 have raw:∀ X F,(row U E v l).holds w X F→∃ b cap cur,v=.slice (some ⟨b,0,none⟩) l.length cap∧w.heap[b]?=some (.cells cur U (0,0))∧l.length≤cap∧cap≤maxLen∧cur.size=cap*E.s:=by
  rintro X F ⟨hm,c,ha,⟨_,h⟩,hF⟩
  rcases h with ⟨_,h0⟩ | ⟨g,cap,cur,rfl,_,hg,fH,SI,CC,uK⟩
  ·omega
  ·exact ⟨g,cap,cur,rfl,hg,fH,SI,CC⟩
 obtain ⟨b,cap,cur,rfl,hb,fH,SI,CC⟩:∃ b cap cur,v=.slice (some ⟨b,0,none⟩) l.length cap∧w.heap[b]?=some (.cells cur U (0,0))∧l.length≤cap∧cap≤maxLen∧cur.size=cap*E.s:=by
  obtain ⟨X,cx⟩:=cx
  obtain ⟨F,hF,_⟩:=cx.own
  exact raw X F hF
 have hmul:i.toNat*E.s+E.s≤l.length*E.s:=by
  have h2:(i.toNat+1)*E.s≤l.length*E.s:=Eb _ A0
  rw [Z8] at h2; omega
 have UQ:l.length*E.s≤cap*E.s:=Eb _ fH
 have hs:=run_storeCells_at (P:=P) b (i.toNat*E.s) U cs 0 cur w hb (by rw [hlen]; omega) eI
 simp only [T9,hlen] at hs
 have lI:(⟨b,0,none⟩:Addr).add (i.toNat*E.s)=⟨b,i.toNat*E.s,none⟩:=by rw [Oe,Q9]
 refine ⟨w.setRow b (cur.toList.take (i.toNat*E.s)++cs++cur.toList.drop (i.toNat*E.s+E.s)).toArray,?_,cx.upd fun X F IH hF=>?_⟩
 ·simp only [execOp,Instr.storeAt,hx,hy,eAddr,sAddr,Instr.sureAddr,Sem.run_bind,Sem.run_pure,Result.andThen_ok,storeVar,Go.sizeOf,typeInfo,hc,run_program,hi,lI]
  simp [hn,hlen,hs]
 ·obtain ⟨jM,c,ha,⟨Px,h⟩,OI⟩:=hF
  rcases h with ⟨hv,_⟩ | ⟨b',DD,cur',hv,sJ,DO,CK,xK,PM,nL⟩
  ·cases hv
  ·simp at hv
   obtain ⟨rfl,rfl⟩:=hv
   have:cur'=cur:=by rw [DO] at hb; simpa using hb
   subst this
   have NS:F b:=(OI b).2 (by simp [Value.ownBlock])
   let c1:CS E.s:=⟨cs,hlen,eI⟩
   refine ⟨F,fun cA=>⟨by simpa using jM,c.set i.toNat c1,(ha.mono cA (fun _ h=>h)).set (E.mono (hm w X IH) cA (fun _ h=>h)),⟨by rw [S4]; simp [ha.1],.inr ⟨b,cap,_,H0,sJ,setRow_heap w b cur' _ U (0,0) hb,by simpa using fH,SI,?_,?_⟩⟩,OI⟩,fun _ h=>.inl h,Chg.setRow NS⟩
   ·simp [hlen]; omega
   ·obtain ⟨q0,zH⟩:∃ q0,c[i.toNat]?=some q0:=⟨c[i.toNat]'(by rw [ha.1]; exact hlt),by simp [ha.1,hlt]⟩
    rw [RE zH c1,← nL]
    simp only [N3]
    apply Da
    intro j
    have rJ:c1.1=cs:=rfl
    simp only [H6,Ov,Q1,B4,hlen,V9,kf,rJ]
    have e1:min (i.toNat*E.s) cur'.size=i.toNat*E.s:=A0
    have e2:min (i.toNat*E.s) (min (l.length*E.s) cur'.size)=i.toNat*E.s:=A0
    rw [e1,e2]
    by_cases hj:j < l.length*E.s
    ·rw [M0 hj]
     by_cases HH:j < i.toNat*E.s+E.s
     ·rw [M0 HH,M0 HH]
      by_cases QH:j < i.toNat*E.s
      ·simp [QH]; omega
      ·simp [QH]
     ·rw [K0 HH,K0 HH,C0]
    ·rw [K0 hj,B0,B0]
def BIG:Int:=1099511627776
def mkL {β:Type} (z:β) (n:Int):Option (List β):=if 0≤n∧n≤BIG then some (List.replicate n.toNat z) else none
def app {β:Type} (l m:List β):Option (List β):=if ((l.length+m.length:Nat):Int)≤BIG then some (l++m) else none
theorem Ma {β:Type} {l m k:List β} (h:app l m=some k):k=l++m∧((l.length+m.length:Nat):Int)≤BIG:=by
 unfold app at h
 split at h
 ·rename_i hb; simp at h; exact ⟨h.symm,hb⟩
 ·cases h
theorem mC {β:Type} {z:β} {n:Int} {l:List β} (h:mkL z n=some l):∃ k:Nat,n=(k:Int)∧(k:Int)≤BIG∧l=List.replicate k z:=by
 unfold mkL at h
 split at h
 ·rename_i hb; simp at h; exact ⟨n.toNat,A0,A0,h.symm⟩
 ·cases h
theorem Lq {s:Nat} {c:CS s} {zv:Value} (hp:0 < s) (hz:zv.cells=c.1.toArray) (n:Nat):(madeCells zv.cells (n*s)).toList=cellsOf (List.replicate n c):=by
 apply Da
 intro j
 by_cases hj:j < n*s
 ·have hq:j / s < n:=Il (by rw [G8]; exact hj)
  have hm:j % s < s:=Gb _ hp
  have h1:(List.replicate n c)[j / s]?=some c:=by simp [hq]
  have h2:c.1[j % s]?=some (c.1[j % s]'(by rw [c.2.1]; exact hm)):=by simp [c.2.1,hm]
  have h3:=Ie h1 h2
  have h4:j / s*s+j % s=j:=by rw [G8]; exact Ch j s
  rw [h4] at h3
  rw [h3]
  simp [madeCells,hj,hz,c.2.1,hm]
 ·rw [K7 (by simp [size_madeCells]; omega),K7 (by rw [S4]; simp; omega)]
theorem aB {n:Int} {l:List α} {ik:IntKind} (cx:St w0 ax rs w) (hS:SlT P T e E q) (hx:a.eval x=.int ik n) (hk:mkL q n=some l):
  ∃ v w',(execOp a.eval ⟨d,.makeSlice T x x,t,p,af,g⟩).run P w=.ok (.value v) w'∧St w0 ax (row e E v l::rs) w':=by
 obtain ⟨ti,zv,hi,CC,IL,hz,iJ⟩:=hS.inf
 obtain ⟨k,rfl,hb,rfl⟩:=mC hk
 unfold BIG at hb
 have Yz:(ti.bytes:Int)*(k:Int)≤281474976710656:=by
  have h2:((ti.bytes*k:Nat):Int)≤((256*1099511627776:Nat):Int):=by
   have:ti.bytes*k≤256*1099511627776:=S9 A0 A0
   omega
  rw [Uv] at h2
  omega
 have hr:=run_make (P:=P) w T e ti zv hS.und hi hz ik ik (k:Int) (k:Int) A0 (ef _) Yz A0
 have sI:k≤maxLen:=by simp only [maxLen]; omega
 simp only [Z0] at hr
 have QL:=iJ w fun _=>True
 let c:CS E.s:=⟨zv.cells.toList,E.len QL,E.one QL⟩
 refine ⟨.slice (some ⟨w.heap.size,0,none⟩) k k,_,?_,cx.new (r1:=row e E _ _) (Chg.alloc _ _ (.cells (madeCells zv.cells (k*ti.size)) e)) fun X _ _=>⟨fun b=>b=w.heap.size,?_,fun b hb=>A0⟩⟩
 ·simp [execOp,hx,hr]
 ·refine ⟨by simpa using sI,List.replicate k c,All2.rep k (iJ _ X),?_,fun b=>by simp [Value.ownBlock]; exact eq_comm⟩
  have h:=World.ownsRow_lit (base:=0) (e:=e) (size:=E.s) w (madeCells zv.cells (k*ti.size)) k (P9 _) sI (by rw [size_madeCells,CC])
  rw [CC,Lq (c:=c) E.pos (by simp [c]) k] at h
  rw [CC]
  simpa using h
theorem wD:∀ (l:List Value) (k off:Nat) (cells:Array Value),off+k+l.length≤cells.size→
  ((l.zipIdx k).foldl (fun (cs:Array Value) (cq:Value×Nat)=>cs.setIfInBounds (off+cq.2) cq.1) cells).toList=cells.toList.take (off+k)++l++cells.toList.drop (off+k+l.length):=by
 intro l
 induction l with
 | nil=>intro k off cells _; simp
 | cons v l ih=>
  intro k off cells h
  simp only [List.zipIdx_cons,List.foldl_cons,I2] at*
  rw [ih (k+1) off _ (by simp; omega)]
  have e:=list_seg_step cells.toList (off+k) v l (by simp; omega)
  simpa [Array.toList_setIfInBounds,Qd] using e
theorem GD {s:Nat}:∀ (qs:List Value) (j:Nat) (cells:Array Value),(∀ q,q∈qs→q.cells.size=s)→(j+qs.length)*s≤cells.size→
  ∃ cs,Instr.fill (fun i=>some (i*s,s)) cells (qs.zipIdx j |>.map fun q=>(q.2,q.1))=some cs∧cs.toList=cells.toList.take (j*s)++qs.flatMap (fun q=>q.cells.toList)++cells.toList.drop ((j+qs.length)*s):=by
 intro qs
 induction qs with
 | nil=>intro j cells _ _; exact ⟨cells,by simp [Instr.fill],H0⟩
 | cons q qs ih=>
  intro j cells hq CC
  have h1:=hq q H0
  have e1:(j+(q::qs).length)*s=(j+1+qs.length)*s:=by simp only [I2]; congr 1; omega
  have e2:(j+1+qs.length)*s=j*s+s+qs.length*s:=by rw [Z8,Z8,Bh]
  have VM:j*s+s≤cells.size:=A0
  let cells':=q.cells.zipIdx.foldl (fun (cs:Array Value) (cq:Value×Nat)=>cs.setIfInBounds (j*s+cq.2) cq.1) cells
  have TD:cells'.toList=cells.toList.take (j*s)++q.cells.toList++cells.toList.drop (j*s+s):=by
   have:=wD q.cells.toList 0 (j*s) cells (by simp [h1]; omega)
   simp only [T9,kf,h1] at this
   rw [← this]
   refine C1 Array.toList ?_
   simp only [cells',← Array.foldl_toList,Array.toList_zipIdx]
  have gK:cells'.size=cells.size:=by
   rw [← kf,TD]
   simp [h1]; omega
  obtain ⟨cs,KI,DM⟩:=ih (j+1) cells' (fun q' h=>hq q' (by simp [h])) A0
  refine ⟨cs,?_,?_⟩
  ·simp only [List.zipIdx_cons,Jc,Instr.fill]
   rw [K0 (by simp [h1]; omega)]
   exact KI
  ·rw [DM,TD]
   simp only [Kh]
   have e3:(j+1)*s=j*s+s:=by rw [Z8,Bh]
   rw [e3]
   have e4:(cells.toList.take (j*s)++q.cells.toList++cells.toList.drop (j*s+s)).take (j*s+s)=cells.toList.take (j*s)++q.cells.toList:=by
    rw [DF (by simp [h1]; omega)]
    exact Y7 (by simp [h1]; omega)
   have e5:(cells.toList.take (j*s)++q.cells.toList++cells.toList.drop (j*s+s)).drop ((j+1+qs.length)*s)=cells.toList.drop ((j+(q::qs).length)*s):=by
    rw [List.drop_append]
    have:(cells.toList.take (j*s)++q.cells.toList).length=j*s+s:=by simp [h1]; omega
    rw [Ye A0,this,Gc,Wa]
    congr 1
    omega
   rw [e4,e5]
   simp
def Mks (ax:List Fact) (E:Rp α):List Value→List α→Prop
 | [],[]=>True
 | q::qs,x::xs=>(∃ cs,q.cells=cs.toArray∧Mk ax E cs x)∧Mks ax E qs xs
 | _,_=>False
theorem Mks.all {w:World} {X:Nat→Prop} (hX:∀ q,q∈ax→q.h w X):∀ {qs:List Value} {l:List α},Mks ax E qs l→∃ c:List (CS E.s),(∀ w X,(∀ q,q∈ax→q.h w X)→All2 w X E c l)∧qs.map Value.cells=c.map (fun z=>z.1.toArray):=by
 intro qs
 induction qs with
 | nil=>intro l h; cases l with
  | nil=>exact ⟨[],fun _ _ _=>All2.nil,rfl⟩
  | cons x xs=>exact h.elim
 | cons q qs ih=>intro l h; cases l with
  | nil=>exact h.elim
  | cons x xs=>
   obtain ⟨⟨cs,h1,h2⟩,h3⟩:=h
   obtain ⟨c,h4,h5⟩:=ih h3
   have hr:=h2 w X hX
   obtain ⟨c1,rJ⟩:∃ c1:CS E.s,c1.1=cs:=⟨⟨cs,E.len hr,E.one hr⟩,rfl⟩
   refine ⟨c1::c,fun w' X' h=>?_,by simp [h1,h5,rJ]⟩
   have:=h4 w' X' h
   refine ⟨by simp [this.1],fun i c' x' hc hx=>?_⟩
   cases i with
   | zero=>simp at hc hx; subst hc; subst hx; rw [rJ]; exact h2 w' X' h
   | succ i=>simp at hc hx; exact this.2 i c' x' hc hx
theorem bB {n:Nat} {parts:Array (Nat×Operand)} (cx:St w0 ax rs w) (hS:SlT P T e E q)
  (qs:List Value) (hp:(parts.map fun (i,x)=>(i,a.eval x))=(qs.zipIdx.map fun q=>(q.2,q.1)).toArray) (hl:l.length=n) (hn:Nat.ble (n*E.s) 16777216=true)
  (hq:Mks ax E qs l):
  ∃ v w',(execOp a.eval ⟨d,.buildSlice T n parts,t,p,af,g⟩).run P w=.ok (.value v) w'∧St w0 ax (row e E v l::rs) w':=by
 obtain ⟨ti,zv,hi,CC,IL,hz,iJ⟩:=hS.inf
 have hn:n*E.s≤16777216:=by simpa using hn
 obtain ⟨X0,NN⟩:=cx.use
 obtain ⟨c,Qx,OK⟩:=Mks.all NN hq
 have HN:c.length=n:=by rw [(Qx w X0 NN).1,hl]
 have aK:qs.length=n:=by have:=C1 List.length OK; simpa [HN] using this
 have KI:∀ q,q∈qs→q.cells.size=E.s:=by
  intro q hm
  have:q.cells∈qs.map Value.cells:=List.mem_map_of_mem hm
  rw [OK] at this
  obtain ⟨z,_,hz⟩:=Fh.1 this
  rw [← hz]; simp [z.2.1]
 have kN:qs.flatMap (fun q=>q.cells.toList)=cellsOf c:=by
  have:qs.flatMap (fun q=>q.cells.toList)=(qs.map Value.cells).flatMap Array.toList:=by rw [List.flatMap_map]
  rw [this,OK,List.flatMap_map]; rfl
 have key:∀ cells:Array Value,cells.size=n*E.s→∃ cs,Instr.fill (fun i=>some (i*E.s,E.s)) cells (qs.zipIdx.map fun q=>(q.2,q.1))=some cs∧cs.toList=cellsOf c:=by
  intro cells PM
  obtain ⟨cs,h1,h2⟩:=GD (s:=E.s) qs 0 cells KI (by rw [Q9,aK]; omega)
  refine ⟨cs,h1,?_⟩
  rw [h2,kN,iv,Q9,aK,Ye (by simp [PM])]
  simp
 have sI:n≤maxLen:=by
  have h1:n*1≤n*E.s:=nv _ E.pos
  simp only [maxLen]; omega
 obtain ⟨cs,hf,DM⟩:∃ cs,Instr.fill (fun i=>some (i*E.s,E.s)) ((Array.range (n*E.s)).map ((if n*E.s=0 then (#[]:Array Value) else zv.cells)[· % (if n*E.s=0 then (#[]:Array Value) else zv.cells).size]!)) (qs.zipIdx.map fun q=>(q.2,q.1))=some cs∧cs.toList=cellsOf c:=key _ H0
 have cN:cs.size=n*E.s:=by rw [← kf,DM,S4,HN]
 refine ⟨.slice (some ⟨w.heap.size,0,none⟩) n n,w.alloc (.cells cs e),?_,cx.new (r1:=row e E _ l) (Chg.alloc _ _ _) fun X cA hX=>⟨fun b=>b=w.heap.size,?_,fun b hb=>A0⟩⟩
 ·have dP:¬ (16777216 < n*E.s):=A0
  have e0:(execOp a.eval ⟨d,.buildSlice T n parts,t,p,af,g⟩)=(do pure (.value (← Instr.buildSlice T n (parts.map fun (i,x)=>(i,a.eval x))))):=rfl
  rw [e0,hp]
  by_cases kx:n*E.s=0
  ·have vN:=E.pos
   obtain rfl:n=0:=by rcases Nat.mul_eq_zero.1 kx with h | h<;>omega
   obtain rfl:qs=[]:=S6 aK
   obtain rfl:c=[]:=S6 HN
   obtain rfl:cs=#[]:=by cases cs; simpa [cellsOf] using DM
   simp [Instr.buildSlice,run_underlying hS.und,Go.sizeOf,typeInfo,hi,newRow,Instr.fill,Array.range_zero']
  ·simp only [kx,if_false] at hf
   simp [Instr.buildSlice,run_underlying hS.und,Go.sizeOf,typeInfo,hi,CC,dP,kx,newRow,zeroValue,hz,hf]
 ·have h:=World.ownsRow_lit (base:=0) (e:=e) (size:=E.s) w cs n (P9 _) sI cN
  rw [DM] at h
  exact ⟨A0,c,(Qx w X hX).mono cA (fun _ h=>h),by rw [hl]; exact h,fun b=>by simp [Value.ownBlock]; exact eq_comm⟩
theorem fA {ti:TypeInfo} {cap n:Nat} {xs:List Value} {sz:Nat} {T t e:TypeId} (hT:P.underlying T=some (.slice e)) (hi:P.info? e=some ti) (JG:w.ownsRow 0 e sz v n xs) (ad:Addr):
  (Builtin.append_ #[T,T] t #[v,.slice (some ad) 0 cap]).run P w=.ok v w:=by
 rcases JG.2 with ⟨rfl,_⟩ | ⟨g',DD,cur,rfl,_,_,yN,_⟩
 ·simp [Builtin.append_,run_underlying hT,Go.sizeOf,typeInfo,hi,Builtin.lenOf,Builtin.firstCells,loadCells,loadCellsFrom]
 ·simp [Builtin.append_,run_underlying hT,Go.sizeOf,typeInfo,hi,Builtin.lenOf,Builtin.firstCells,yN,storeCells,loadCells,loadCellsFrom]
theorem eB {k:List α} {X:Nat→Prop} (hX:StX w0 X ax (row e E v l::rs) w) (hS:SlT P T e E q)
  (hx:a.eval x=v) (hy:a.eval y=u) (IG:Sees w X E u m) (hk:app l m=some k):
  ∃ v' w',(execOp a.eval ⟨d,.call ⟨.builtin .append,#[x,y],#[T,T]⟩,t,p,af,g⟩).run P w=.ok (.value v') w'∧St w0 ax (row e E v' k::rs) w':=by
 obtain ⟨ti,zv,hi,CC,IL,hz,iJ⟩:=hS.inf
 obtain ⟨rfl,hb⟩:=Ma hk
 unfold BIG at hb
 have pL:zv.cells.size=E.s:=by have:=E.len (iJ w X); simpa using this
 obtain ⟨F,⟨hm,c,ha,JG,hF⟩,_⟩:=hX.own
 have KM:l.length+m.length≤maxLen:=by simp only [maxLen]; omega
 have Yz:(l.length+m.length)*ti.bytes≤140737488355328:=by
  have:(l.length+m.length)*ti.bytes≤1099511627776*128:=S9 A0 IL
  omega
 have main:∃ v' w',∃ c2:List (CS E.s),All2 w X E c2 m∧(Builtin.append_ #[T,T] t #[v,u]).run P w=.ok v' w'∧w'.ownsRow 0 e E.s v' (l.length+m.length) (cellsOf c++cellsOf c2)∧w.grownBy w' v.ownBlock∧
   (v'.ownBlock=v.ownBlock∨v'.ownBlock=some w.heap.size):=by
  obtain ⟨ad,cap,rfl,fH,GH,IG⟩:=IG
  cases ad with
  | none=>
   have fK:m=[]:=by
    cases m with
    | nil=>rfl
    | cons q m=>have:=(IG 0 q rfl).1; cases this
   subst fK
   refine ⟨v,w,[],All2.nil,?_,by simpa [cellsOf] using JG,⟨rfl,rfl,rfl,H2 _,fun _ _ _=>rfl⟩,.inl rfl⟩
   by_cases KO:cap=0
   ·subst KO
    exact run_append_owned_none (P:=P) w 0 T t e ti E.s hS.und hi v l.length _ JG
   ·rcases JG.2 with ⟨rfl,PH⟩ | ⟨g',DD,cur,rfl,_,_,yN,_⟩
    ·simp [Builtin.append_,run_underlying hS.und,Go.sizeOf,typeInfo,hi,Builtin.lenOf,Builtin.firstCells]
    ·simp [Builtin.append_,run_underlying hS.und,Go.sizeOf,typeInfo,hi,Builtin.lenOf,Builtin.firstCells,yN,storeCells]
  | some ad=>
   have hex:∀ i (h:i < m.length),∃ c:CS E.s,E.r w X c.1 m[i]∧∀ j u,c.1[j]?=some u→w.cell? (ad.add (i*E.s+j))=some u:=by
    intro i h
    obtain ⟨_,cs,h1,h2⟩:=IG i m[i] (by simp [h])
    exact ⟨⟨cs,E.len h1,E.one h1⟩,h1,h2⟩
   have HE:∃ c2:List (CS E.s),c2.length=m.length∧∀ i c x,c2[i]?=some c→m[i]?=some x→E.r w X c.1 x∧∀ j u,c.1[j]?=some u→w.cell? (ad.add (i*E.s+j))=some u:=by
    refine ⟨List.ofFn fun i:Fin m.length=>Classical.choose (hex i.1 i.2),H0,fun i c x hc hx=>?_⟩
    have RA:i < m.length:=(Z1.1 hx).1
    have HK:=Pb (hex i RA)
    simp only [Tl,RA,dite_true,Oa] at hc
    have UA:m[i]=x:=(Z1.1 hx).2
    rw [← hc,← UA]
    exact HK
   obtain ⟨c2,Px,HE⟩:=HE
   have AI:All2 w X E c2 m:=⟨Px,fun i c x h1 h2=>(HE i c x h1 h2).1⟩
   have bH:∀ j u,(cellsOf c2)[j]?=some u→w.cell? (ad.add j)=some u:=by
    intro j u' hj
    have hlt:j < m.length*E.s:=by have:=(Z1.1 hj).1; rwa [S4,Px] at this
    have hp:=E.pos
    have hq:j / E.s < m.length:=Il (by rw [G8]; exact hlt)
    have eK:j % E.s < E.s:=Gb _ hp
    have bI:j / E.s < c2.length:=A0
    obtain ⟨_,h2⟩:=HE (j / E.s) c2[j / E.s] m[j / E.s] (by simp [bI]) (by simp [hq])
    have h4:j / E.s*E.s+j % E.s=j:=by rw [G8]; exact Ch j E.s
    have h5:(c2[j / E.s]).1[j % E.s]?=some ((c2[j / E.s]).1[j % E.s]'(by rw [(c2[j / E.s]).2.1]; exact eK)):=by simp [(c2[j / E.s]).2.1,eK]
    have h6:=h2 _ _ h5
    have h7:=Ie (l:=c2) (i:=j / E.s) (by simp [bI]) h5
    rw [h4] at h6 h7
    rw [h7] at hj
    simp only [Oa] at hj
    subst hj
    exact h6
   obtain ⟨v',w',h1,h2,h3,_⟩:=run_append_own (P:=P) w 0 T t e ti zv E.s ti.bytes hS.und hi hz CC rfl pL E.pos v l.length _ JG ad m.length cap (cellsOf c2) (by rw [S4,Px]) bH (fun u hu=>Tk u hu) KM Yz (P9 _)
   refine ⟨v',w',c2,AI,h1,h2,h3,?_⟩
   by_cases fK:m.length=0
   ·have hr:=fA (P:=P) (w:=w) (t:=t) hS.und hi JG (cap:=cap) ad
    rw [fK] at h1
    rw [hr] at h1
    simp only [Result.ok.injEq] at h1
    rw [← h1.1]; exact .inl rfl
   ·rcases JG.2 with ⟨rfl,PH⟩ | ⟨g',DD,cur,rfl,_,AO,yN,OK,KI,WH⟩
    ·have hr:=run_append_nil (P:=P) w T t e ti zv hS.und hi hz ad m.length cap (cellsOf c2) (by rw [S4,Px,CC]) bH A0 A0 (by have:=Yz; rw [PH,Q9] at this; omega)
     rw [hr] at h1
     simp only [Result.ok.injEq] at h1
     rw [← h1.1]; exact .inr rfl
    ·by_cases vK:l.length+m.length≤DD
     ·have VM:l.length*ti.size+(cellsOf c2).length≤cur.size:=by rw [KI,S4,Px,CC,← Z8]; exact Eb _ vK
      have hr:=run_append_room (P:=P) w T t e ti hS.und hi g' l.length DD cur AO ad m.length cap (cellsOf c2) (by rw [S4,Px,CC]) bH (fun u hu=>Tk u hu) vK VM
      rw [hr] at h1
      simp only [Result.ok.injEq] at h1
      rw [← h1.1]; exact .inl rfl
     ·have holds:∀ j u,(cellsOf c)[j]?=some u→w.cell? ((⟨g',0,none⟩:Addr).add j)=some u:=JG.cells (g:=g') rfl
      have hr:=run_append_grow (P:=P) w T t e ti zv hS.und hi hz ⟨g',0,none⟩ l.length DD (cellsOf c) (by rw [S4,ha.1,CC]) holds ad m.length cap (cellsOf c2) (by rw [S4,Px,CC]) bH A0 A0 (growslice_fits A0 Yz)
      rw [hr] at h1
      simp only [Result.ok.injEq] at h1
      rw [← h1.1]; exact .inr rfl
 obtain ⟨v',w',c2,AI,h1,h2,h3,h4⟩:=main
 refine ⟨v',w',?_,X,hX.upd fun F' dH _=>⟨fun b=>v'.ownBlock=some b,fun cA=>⟨by simpa using KM,c++c2,(ha.app AI).mono cA (fun _ h=>h),by rw [Cb]; simpa using h2,fun b=>Yd⟩,?_,(Chg.grown h3).mono (fun b hb=>?_)⟩⟩
 ·simp [execOp,resolve,invoke,builtin,hx,hy,h1]
 ·obtain ⟨_,_,_,_,aH⟩:=dH
  intro b hb
  rcases h4 with h4 | h4
  ·exact .inl ((aH b).2 (h4▸hb))
  ·exact .inr (by rw [h4] at hb; simp at hb; omega)
 ·obtain ⟨_,_,_,_,aH⟩:=dH
  exact (aH b).2 hb
theorem fB {k:List α} (cx:St w0 ax (row e E v l::rs) w) (hS:SlT P T e E q)
  (hx:a.eval x=v) (hy:a.eval y=u) (hu:Rd ax (row e E v l::rs) E u m) (hk:app l m=some k):
  ∃ v' w',(execOp a.eval ⟨d,.call ⟨.builtin .append,#[x,y],#[T,T]⟩,t,p,af,g⟩).run P w=.ok (.value v') w'∧St w0 ax (row e E v' k::rs) w':=by
 obtain ⟨X,hX⟩:=cx
 exact eB hX hS hx hy (hu _ _ _ hX) hk
theorem S3 {i:Int} {z:α} {l':List α} {cs:List Value} (cx:St w0 ax (row U E v l::rs) w) (hO:OneT P T) (hE:E.s=1) (hx:a.eval x=eAddr v E.s i) (hy:a.eval y=u) (hc:u.cells=cs.toArray) (hm:Mk ax E cs z) (hq:setI l i z=some l'):
  ∃ w',(execOp a.eval ⟨d,.store T x y,t,p,af,g⟩).run P w=.ok .skip w'∧St w0 ax (row U E v l'::rs) w':=by
 obtain ⟨ti,h1,h2⟩:=hO.inf
 exact Yr cx h1 A0 hx hy hc hm hq
theorem C8 {i:Int} {z:α} {l':List α} {cs:List Value} (cx:St w0 ax (row U E v l::rs) w) (hT:StT P T E.s) (hx:a.eval x=eAddr v E.s i) (hy:a.eval y=u) (hc:u.cells=cs.toArray) (hm:Mk ax E cs z) (hq:setI l i z=some l'):
  ∃ w',(execOp a.eval ⟨d,.store T x y,t,p,af,g⟩).run P w=.ok .skip w'∧St w0 ax (row U E v l'::rs) w':=by
 obtain ⟨ti,h1,h2⟩:=hT.inf
 exact Yr cx h1 h2 hx hy hc hm hq
end
theorem ZA {b o:Nat} {vals dx:List Value} (cx:St w0 ax (box b U vals::rs) w) (hO:OneT P T) (hx:a.eval x=.pointer (some ⟨b,o,none⟩)) (hy:a.eval y=u) (hc:u.cells=#[u]) (h1:u.oneCell'=true) (ho:Nat.blt o vals.length=true) (hv:vals.set o u=dx):
  ∃ w',(execOp a.eval ⟨d,.store T x y,t,p,af,g⟩).run P w=.ok .skip w'∧St w0 ax (box b U dx::rs) w':=by
 obtain ⟨ti,h2,h3⟩:=hO.inf
 have FH:o < vals.length:=by simpa [X7] using ho
 obtain ⟨w',hr,hs⟩:=Xr (P:=P) (U:=U) (us:=[u]) (d:=d) (t:=t) (p:=p) (af:=af) (g:=g) cx h2 h3 hx hy hc rfl A0 (by simpa using h1)
 have:vals.take o++[u]++vals.drop (o+1)=dx:=by rw [← hv,yv,M0 FH]; simp
 rw [this] at hs
 exact ⟨w',hr,hs⟩
theorem I3 {b o n:Nat} {vals us dx:List Value} (cx:St w0 ax (box b U vals::rs) w) (hT:StT P T n) (hx:a.eval x=.pointer (some ⟨b,o,none⟩)) (hy:a.eval y=.agg us.toArray) (hl:us.length=n) (ho:Nat.ble (o+n) vals.length=true) (h1:∀ v,v∈us→v.oneCell'=true) (hv:vals.take o++us++vals.drop (o+n)=dx):
  ∃ w',(execOp a.eval ⟨d,.store T x y,t,p,af,g⟩).run P w=.ok .skip w'∧St w0 ax (box b U dx::rs) w':=by
 obtain ⟨ti,h2,h3⟩:=hT.inf
 subst hv
 exact Xr (P:=P) (U:=U) (us:=us) (d:=d) (t:=t) (p:=p) (af:=af) (g:=g) cx h2 h3 hx hy rfl hl (by simpa using ho) h1
end
end Sx
