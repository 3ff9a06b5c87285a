/- Regions that draw their order: an invariant that speaks of the operations already carried out serves every order. It holds over any program. -/
import Derived.Test.YthekfonboblioabGreatDoorSxC
import Derived.Orders
import Derived.KernelRfl
namespace Sx
open Go
theorem uE {α:Type} {p q:α→Bool}:∀ {l:List α},(∀ j∈l,q j=true→p j=true)→(∃ i∈l,p i=true∧q i=false)→l.countP q < l.countP p:=by
  intro l
  induction l with
  | nil=>rintro _ ⟨i,hi,_⟩; cases hi
  | cons x l ih=>
    intro h1 ⟨i,hi,hp,hq⟩
    have hle:l.countP q≤l.countP p:=List.countP_mono_left (fun j hj=>h1 j (Ic _ hj))
    rcases U3.1 hi with rfl | hi
    · simp [hp,hq]; omega
    · have:=ih (fun j hj=>h1 j (Ic _ hj)) ⟨i,hi,hp,hq⟩
      have hx:=h1 x (Hc ..)
      by_cases nO:q x=true
      · simp [nO,hx nO]; exact this
      · simp only [List.countP_cons,nO]
        by_cases wR:p x=true<;>simp [wR]<;>omega
def rdy (ops:Array Oper) (listed:Array Bool):List Nat:=(List.range ops.size).filter fun i=>
  !listed.getD i true && ((ops[i]?).map (·.after.all fun e=>!Region.binds .any e || listed.getD e.on false)).getD false
def lin (ops:Array Oper):Nat→Nat→Array Bool→List Nat
  | 0,_,_=>[]
  | fuel+1,t,listed=>
    match (rdy ops listed)[t % (rdy ops listed).length]? with
    | some i=>i::lin ops fuel (t / (rdy ops listed).length) (listed.setIfInBounds i true)
    | none=>[]
theorem lD (ops:Array Oper):∀ (fuel t:Nat) (listed:Array Bool) (acc:List Nat),
    Region.linearise.go .any ops fuel t listed acc=acc.reverse++lin ops fuel t listed:=by
  intro fuel
  induction fuel with
  | zero=>intro t listed acc; simp [Region.linearise.go,lin]
  | succ fuel ih=>
    intro t listed acc
    have e1:Region.linearise.go .any ops (fuel+1) t listed acc=match (rdy ops listed)[t % (rdy ops listed).length]? with
      | some i=>Region.linearise.go .any ops fuel (t / (rdy ops listed).length) (listed.setIfInBounds i true) (i::acc)
      | none=>acc.reverse:=rfl
    rw [e1]
    unfold lin
    cases h:(rdy ops listed)[t % (rdy ops listed).length]? with
    | none=>simp
    | some i=>simp only; rw [ih]; simp
theorem zk {l:Array Bool} {j:Nat} (h:j < l.size) (d d':Bool):l.getD j d=l.getD j d':=by simp [Array.getD,h]
theorem yk {l:Array Bool} {i:Nat} (h:i < l.size) (v d:Bool):(l.setIfInBounds i v).getD i d=v:=by simp [Array.getD,h]
theorem Pt (l:Array Bool) {i j:Nat} (h:i≠j) (v d:Bool):(l.setIfInBounds i v).getD j d=l.getD j d:=by
  by_cases hj:j < l.size
  · simp only [Array.getD,qG,hj,dite_true,Array.getInternal_eq_getElem]
    rw [rG (by simpa using hj),K0 h]
  · simp [Array.getD,hj]
def acyc (ops:Array Oper):Bool:=(List.range ops.size).all fun i=>((ops[i]?).map fun o=>o.after.all fun e=>!Region.binds .any e || Nat.blt e.on i).getD true
def opSt (P:Program) (ops:Array Oper) (o:Oper) (a:Act) (w:World) (K:Act→World→Prop) (Q:Exit→Act→World→Prop):Prop:=
  if Region.wanted o (yielded ops a.tmps) then o.wp P a w K Q else K (a.put o.dst undef) w
theorem qy {P:Program} {id:Nat} {ops:Array Oper} {Q:Exit→Act→World→Prop} {a:Act} {w:World}
    (hm:P.follows .mixedOrders=true) (AQ:acyc ops=true) (I:(Nat→Bool)→Act→World→Prop)
    (h0:I (fun _=>false) a {w with drawn:=w.drawn+1 })
    (hs:∀ i o S a w,ops[i]?=some o→S i=false→(∀ e∈o.after,Region.binds .any e=true→S e.on=true)→I S a w→
      opSt P ops o a w (fun a' w'=>I (fun j=>j == i || S j) a' w') Q)
    (hf:∀ S a w,(∀ i,i < ops.size→S i=true)→I S a w→Q .normal a w):(Code.region id ops true).wp P Q a w:=by
  refine wp_region_draw fun t=>?_
  have key:∀ (fuel t:Nat) (listed:Array Bool) (S:Nat→Bool) (a:Act) (w:World),listed.size=ops.size→(∀ j,S j=listed.getD j false)→
      (List.range ops.size).countP (fun j=>!listed.getD j true)≤fuel→I S a w→wpOps P ops Q (lin ops fuel t listed) a w:=by
    intro fuel
    induction fuel with
    | zero=>
      intro t listed S a w CC hS hc hI
      simp only [lin,wpOps]
      refine hf S a w (fun i hi=>?_) hI
      have h0:(List.range ops.size).countP (fun j=>!listed.getD j true)=0:=A0
      rw [List.countP_eq_zero] at h0
      have:=h0 i (Z6.2 hi)
      rw [hS,zk A0 false true]
      cases h:listed.getD i true
      · rw [h] at this; exact absurd rfl this
      · rfl
    | succ fuel ih=>
      intro t listed S a w CC hS hc hI
      unfold lin
      split
      · rename_i i hi
        have VG:i∈rdy ops listed:=Rl hi
        simp only [rdy,We,Z6,w4] at VG
        obtain ⟨hlt,XL,YM⟩:=VG
        have bK:ops[i]?=some ops[i]:=by simp [hlt]
        simp only [wpOps,bK]
        have SO:S i=false:=by
          rw [hS,zk A0 false true]
          cases h:listed.getD i true
          · rfl
          · rw [h] at XL; cases XL
        have nN:∀ e∈(ops[i]).after,Region.binds .any e=true→S e.on=true:=by
          intro e he hb
          simp only [bK,xh,yl,mw] at YM
          have:=YM e he
          rw [hb] at this
          rw [hS]
          simpa only [Y5,Zd] using this
        have cx:=hs i ops[i] S a w bK SO nN hI
        have GM:∀ j,(j == i || S j)=(listed.setIfInBounds i true).getD j false:=by
          intro j
          by_cases FJ:j=i
          · subst FJ; rw [yk A0]; simp
          · have h1:(j == i)=false:=by simpa using FJ
            rw [h1,Zd,hS,Pt _ (fun e=>FJ e.symm)]
        have TD:(List.range ops.size).countP (fun j=>!(listed.setIfInBounds i true).getD j true)≤fuel:=by
          have:(List.range ops.size).countP (fun j=>!(listed.setIfInBounds i true).getD j true) < (List.range ops.size).countP (fun j=>!listed.getD j true):=by
            refine uE ?_ ⟨i,Z6.2 hlt,XL,?_⟩
            · intro j hj hq
              rw [Z6] at hj
              by_cases FJ:j=i
              · subst FJ; rw [yk A0] at hq; cases hq
              · rwa [Pt _ (fun e=>FJ e.symm)] at hq
            · show (!(listed.setIfInBounds i true).getD i true)=false
              rw [yk A0]; rfl
          omega
        have rec_:=fun a' w' HM=>ih (t / (rdy ops listed).length) (listed.setIfInBounds i true) (fun j=>j == i || S j) a' w' (by simpa using CC) GM TD HM
        unfold opSt at cx
        by_cases hw:Region.wanted ops[i] (yielded ops a.tmps)=true
        · rw [M0 hw] at cx ⊢
          refine .inl ?_
          unfold Oper.wp at cx ⊢
          generalize (execOp a.eval ops[i]).run P w=r at*
          revert cx
          cases r with
          | ok x w'=>
            cases x<;>simp only [Oper.upon]<;>intro cx<;>first
              | exact rec_ _ _ cx
              | exact cx
              | (refine cx.mono ?_
                 intro e w'' h
                 cases e<;>first | exact rec_ _ _ h | exact h)
              | (refine cx.mono ?_
                 intro v w'' h
                 exact rec_ _ _ h)
          | halt x w'=>cases x<;>simp only [Oper.upon]<;>intro cx<;>exact cx
        · rw [K0 hw] at cx ⊢
          exact rec_ _ _ cx
      · rename_i fN
        have GP:rdy ops listed=[]:=by
          rw [List.getElem?_eq_none_iff] at fN
          by_cases he:(rdy ops listed).length=0
          · exact S6 he
          · have:=Gb t (Bl he); omega
        simp only [wpOps]
        refine hf S a w ?_ hI
        intro i
        induction i using Nat.strongRecOn with
        | _ i ihi=>
          intro hi
          cases SO:S i with
          | true=>rfl
          | false=>
            exfalso
            have bK:ops[i]?=some ops[i]:=by simp [hi]
            have XL:listed.getD i true=false:=by
              rw [zk A0 true false,← hS,SO]
            have:i∈rdy ops listed:=by
              simp only [rdy,We,Z6,w4]
              refine ⟨hi,by rw [XL]; rfl,?_⟩
              simp only [bK,xh,yl,mw]
              intro e he
              cases hb:Region.binds .any e with
              | false=>rfl
              | true=>
                simp only [acyc,w7,Z6] at AQ
                have ha:=AQ i hi
                simp only [bK,xh,yl,mw] at ha
                have QO:=ha e he
                rw [hb] at QO
                have hlt:e.on < i:=by simpa [X7] using QO
                have:=ihi e.on hlt A0
                rw [hS] at this
                rw [this]
                rfl
            rw [GP] at this
            cases this
  have jP:Region.schedule (P.follows .mixedOrders) ops t=lin ops ops.size t (Array.replicate ops.size false):=by
    simp only [Region.schedule,hm,iw,if_true,Region.linearise]
    rw [lD]
    simp
  rw [jP]
  refine key _ _ _ (fun _=>false) _ _ H0 (fun j=>by by_cases hj:j < ops.size<;>simp [Array.getD,hj]) ?_ h0
  refine Ca (List.countP_le_length ..) H0
def prs (o:Oper):List Nat:=o.after.toList.filterMap fun e=>bif Region.binds .any e then some e.on else none
def mk1 (tb:List Nat) (o:Oper):Nat:=(prs o).foldl (fun s p=>s ||| 2 ^ p ||| tb.getD p 0) 0
def tbOK (os:List Oper) (tb:List Nat):Bool:=(List.range os.length).all fun k=>match os[k]? with
  | some o=>Nat.beq (tb.getD k 0) (mk1 tb o) && (prs o).all (fun p=>Nat.blt p k)
  | none=>true
def rdsB (os:List Oper) (o:Oper) (d:Nat):Bool:=(o.looksAt os.toArray).any (Nat.beq d)
def rdOK (os:List Oper) (tb lo:List Nat):Bool:=(List.range os.length).all fun k=>match (os[k]?).bind (·.dst) with
  | none=>true
  | some d=>(List.range os.length).all fun i=>match os[i]? with
    | none=>true
    | some o=>!rdsB os o d || (tb.getD i 0).testBit k || (lo.any (Nat.beq k) && ((tb.getD k 0).testBit i || Nat.beq i k))
def dsOK (os:List Oper):Bool:=(List.range os.length).all fun i=>(List.range os.length).all fun j=>Nat.beq i j || (match (os[i]?).bind (·.dst),(os[j]?).bind (·.dst) with | some a,some b=>!Nat.beq a b | _,_=>true)
def nsel (o:Oper):Bool:=match o.op with | .select ..=>false | _=>true
def selOK (os:List Oper):Bool:=os.all nsel
def incB:List Nat→Bool | a::b::r=>Nat.blt a b && incB (b::r) | _=>true
def allOK (os:List Oper) (tb lo:List Nat):Bool:=acyc os.toArray && (tbOK os tb && (rdOK os tb lo && (dsOK os && (selOK os && incB lo))))
def memB (l:List Nat) (k:Nat):Bool:=l.any (Nat.beq k)
def ready (tb lo D:List Nat) (i:Nat):Bool:=lo.all fun e=>!(tb.getD i 0).testBit e || memB D e
def forced (tb D:List Nat) (i:Nat):Bool:=D.any fun e=>(tb.getD e 0).testBit i
def fresh (tb D:List Nat) (i:Nat):Bool:=match D with | []=>true | e::_=>(tb.getD i 0).testBit e
def newQ (n:Nat) (tb lo D:List Nat):List Nat:=(List.range n).filter fun i=>!memB lo i && ready tb lo D i && !forced tb D i && fresh tb D i
def oldQ (n:Nat) (tb lo D:List Nat):List Nat:=(List.range n).filter fun i=>!memB lo i && ready tb lo D i && !forced tb D i && !fresh tb D i
def candL (tb lo D:List Nat):List Nat:=lo.filter fun e=>!memB D e && ready tb lo D e
def updO (f:Nat→Value) (d:Option Nat) (v:Value):Nat→Value:=match d with | some d=>upd f d v | none=>f
def QR (P:Program) (os:List Oper) (n:Nat) (w:World) (K:(Nat→Value)→Prop):List Nat→(Nat→Value)→Prop
  | [],f=>K f
  | i::r,f=>match os[i]? with
    | none=>False
    | some o=>match o.dst with
      | none=>False
      | some d=>(Wn os.toArray n f o.guard∧∃ v,Yi P (fr n f) w o v∧QR P os n w K r (upd f d v))∨(Wx os.toArray n f o.guard∧QR P os n w K r (upd f d undef))
def QS (P:Program) (os:List Oper) (n:Nat) (w:World) (f:Nat→Value):List Nat→Prop
  | []=>True
  | i::r=>(match os[i]? with
    | none=>False
    | some o=>match o.dst with
      | none=>False
      | some d=>(Wn os.toArray n f o.guard∧Yi P (fr n f) w o (f d))∨(Wx os.toArray n f o.guard∧f d=undef))∧QS P os n w f r
def LS (P:Program) (os:List Oper) (n:Nat) (f:Nat→Value) (w:World) (o:Oper) (G:Value→World→Prop):Prop:=
  (Wn os.toArray n f o.guard∧((∃ v w',(execOp (fr n f).eval o).run P w=.ok (.value v) w'∧G v w')∨(∃ w',(execOp (fr n f).eval o).run P w=.ok .skip w'∧G undef w')∨
    (∃ g args,(execOp (fr n f).eval o).run P w=.ok (.enter g args) w∧Calls P g args w fun e w'=>∃ v,e=.returned v∧G v w')))∨(Wx os.toArray n f o.guard∧G undef w)
def LA (P:Program) (os:List Oper) (n:Nat) (f:Nat→Value) (w:World) (G:Nat→Oper→Value→World→Prop):List Nat→Prop
  | []=>True
  | e::r=>(match os[e]? with | none=>False | some o=>LS P os n f w o (G e o))∧LA P os n f w G r
def DR (P:Program) (os:List Oper) (tb lo:List Nat) (n:Nat) (Q:Exit→Act→World→Prop):Nat→List Nat→(Nat→Value)→World→Prop
  | 0,D,f,w=>QR P os n w (fun f=>QS P os n w f (oldQ os.length tb lo D)∧Q .normal (fr n f) w) (newQ os.length tb lo D) f
  | m+1,D,f,w=>QR P os n w (fun f=>QS P os n w f (oldQ os.length tb lo D)∧LA P os n f w (fun e o v w'=>DR P os tb lo n Q m (e::D) (updO f o.dst v) w') (candL tb lo D)) (newQ os.length tb lo D) f
theorem Na {n:Nat} {p:Nat→Bool} (h:(List.range n).all p=true) {k:Nat} (hk:k < n):p k=true:=by
  rw [w7] at h; exact h k (Z6.2 hk)
theorem Ia {l:List Nat} {k:Nat}:memB l k=true↔k∈l:=by
  simp only [memB,Lh]
  constructor
  · rintro ⟨x,hx,hb⟩; have:=X6 hb; subst this; exact hx
  · intro h; exact ⟨k,h,H0⟩
theorem Ck {tb:List Nat}:∀ {l:List Nat} {s j:Nat},(l.foldl (fun s p=>s ||| 2 ^ p ||| tb.getD p 0) s).testBit j=true→s.testBit j=true∨∃ p,p∈l∧(p=j∨(tb.getD p 0).testBit j=true):=by
  intro l
  induction l with
  | nil=>intro s j h; exact .inl h
  | cons p l ih=>
    intro s j h
    rw [List.foldl_cons] at h
    rcases ih h with h | ⟨q,hq,h⟩
    · rw [zh,zh,H5,H5] at h
      rcases h with (h | h) | h
      · exact .inl h
      · rw [Nat.testBit_two_pow] at h
        exact .inr ⟨p,H0,.inl (by simpa using h)⟩
      · exact .inr ⟨p,H0,.inr h⟩
    · exact .inr ⟨q,by simp [hq],h⟩
section
variable {P:Program} {os:List Oper} {tb lo:List Nat} {n:Nat} {Q:Exit→Act→World→Prop}
theorem clo (ht:tbOK os tb=true) {S:Nat→Bool} (hS:∀ (k:Nat) (o:Oper),os[k]?=some o→S k=true→∀ e∈o.after,Region.binds .any e=true→S e.on=true):
    ∀ k,k < os.length→S k=true→∀ j,(tb.getD k 0).testBit j=true→S j=true:=by
  intro k
  induction k using Nat.strongRecOn with
  | _ k ih=>
    intro hk vJ j hj
    have h1:=Na ht hk
    have nJ:os[k]?=some os[k]:=by simp [hk]
    simp only [nJ,w4] at h1
    obtain ⟨h1,h2⟩:=h1
    rw [X6 h1] at hj
    rcases Ck hj with h | ⟨p,hp,h⟩
    · simp at h
    · have dM:S p=true:=by
        simp only [prs,Kv] at hp
        obtain ⟨e,he,hb⟩:=hp
        cases xI:Region.binds .any e with
        | false=>simp [xI] at hb
        | true=>
          simp [xI] at hb
          subst hb
          exact hS k _ nJ vJ e (Array.mem_toList_iff.1 he) xI
      rcases h with rfl | h
      · exact dM
      · have hlt:p < k:=by
          rw [w7] at h2
          simpa [X7] using h2 p hp
        exact ih p hlt A0 dM j h
theorem Lu (ht:tbOK os tb=true) {S:Nat→Bool} (hS:∀ (k:Nat) (o:Oper),os[k]?=some o→S k=true→∀ e∈o.after,Region.binds .any e=true→S e.on=true) {i:Nat} (hi:i < os.length)
    (hp:∀ e∈(os[i]).after,Region.binds .any e=true→S e.on=true) {j:Nat} (hj:(tb.getD i 0).testBit j=true):S j=true:=by
  have h1:=Na ht hi
  have nJ:os[i]?=some os[i]:=by simp [hi]
  simp only [nJ,w4] at h1
  obtain ⟨h1,h2⟩:=h1
  rw [X6 h1] at hj
  rcases Ck hj with h | ⟨p,AL,h⟩
  · simp at h
  · have hlt:p < i:=by
      rw [w7] at h2
      simpa [X7] using h2 p AL
    have dM:S p=true:=by
      simp only [prs,Kv] at AL
      obtain ⟨e,he,hb⟩:=AL
      cases xI:Region.binds .any e with
      | false=>simp [xI] at hb
      | true=>
        simp [xI] at hb
        subst hb
        exact hp e (Array.mem_toList_iff.1 he) xI
    rcases h with rfl | h
    · exact dM
    · exact clo ht hS p A0 dM j h
def AgO (os:List Oper) (o:Oper) (f f':Nat→Value):Prop:=∀ t,rdsB os o t=true→f t=f' t
theorem AgO.eval {o:Oper} {f f':Nat→Value} (h:AgO os o f f'):∀ x∈o.op.operands,(fr n f).eval x=(fr n f').eval x:=by
  intro x hx
  cases x with
  | tmp t=>
    unfold Act.eval
    simp only
    by_cases ht:t < n
    · rw [Fe _ _ _ ht,Fe _ _ _ ht]
      refine h t ?_
      simp only [rdsB,Lh]
      exact ⟨t,List.mem_append_left _ (Kv.2 ⟨.tmp t,by simpa using hx,rfl⟩),H0⟩
    · simp [fr,Array.getD,ht]
  | const v=>rfl
  | global g=>rfl
  | func f=>rfl
theorem AgO.exec {o:Oper} {f f':Nat→Value} (h:AgO os o f f') (hs:nsel o=true):execOp (fr n f).eval o=execOp (fr n f').eval o:=
  execOp_congr o (fun cs b e=>by simp [nsel,e] at hs) h.eval
theorem AgO.wn {o:Oper} {f f':Nat→Value} (h:AgO os o f f') (hw:Wn os.toArray n f o.guard):Wn os.toArray n f' o.guard:=by
  cases hg:o.guard with
  | none=>trivial
  | some jb=>
    obtain ⟨j,b⟩:=jb
    rw [hg] at hw
    obtain ⟨d,h1,h2,h3⟩:=hw
    refine ⟨d,h1,h2,?_⟩
    rw [← h d ?_]; exact h3
    simp only [rdsB,Lh]
    refine ⟨d,?_,H0⟩
    simp only [List.getElem?_toArray] at h1
    simp [Oper.looksAt,hg,h1]
theorem AgO.wx {o:Oper} {f f':Nat→Value} (h:AgO os o f f') (hw:Wx os.toArray n f o.guard):Wx os.toArray n f' o.guard:=by
  cases hg:o.guard with
  | none=>rw [hg] at hw; exact hw
  | some jb=>
    obtain ⟨j,b⟩:=jb
    rw [hg] at hw
    obtain ⟨d,h1,h2,h3⟩:=hw
    refine ⟨d,h1,h2,?_⟩
    rw [← h d ?_]; exact h3
    simp only [rdsB,Lh]
    refine ⟨d,?_,H0⟩
    simp only [List.getElem?_toArray] at h1
    simp [Oper.looksAt,hg,h1]
theorem AgO.symm {o:Oper} {f f':Nat→Value} (h:AgO os o f f'):AgO os o f' f:=fun t ht=>(h t ht).symm
def QF (P:Program) (os:List Oper) (n:Nat) (w:World) (f:Nat→Value) (i:Nat):Prop:=∃ o d,os[i]?=some o∧o.dst=some d∧((Wn os.toArray n f o.guard∧Yi P (fr n f) w o (f d))∨(Wx os.toArray n f o.guard∧f d=undef))
theorem xF {w:World} {f:Nat→Value}:∀ {l:List Nat},QS P os n w f l→∀ {i},i∈l→QF P os n w f i:=by
  intro l
  induction l with
  | nil=>intro _ i h; cases h
  | cons j l ih=>
    intro ⟨h1,h2⟩ i hi
    rcases U3.1 hi with rfl | hi
    · cases ho:os[i]? with
      | none=>simp [ho] at h1
      | some o=>
        cases hd:o.dst with
        | none=>simp [ho,hd] at h1
        | some d=>simp only [ho,hd] at h1; exact ⟨o,d,ho,hd,h1⟩
    · exact ih h2 hi
def dstB (os:List Oper) (i t:Nat):Bool:=match (os[i]?).bind (·.dst) with | some d=>Nat.beq t d | none=>false
theorem yF (hs:selOK os=true) (aS:dsOK os=true) (jQ:∀ k,k < os.length→memB lo k=false→∀ d,(os[k]?).bind (·.dst)=some d→∀ i o,os[i]?=some o→rdsB os o d=true→(tb.getD i 0).testBit k=true)
    (hlt:∀ i k,i < os.length→(tb.getD i 0).testBit k=true→k < i) {w:World} {K:(Nat→Value)→Prop}:∀ {l:List Nat} {f:Nat→Value},(∀ i∈l,memB lo i=false)→l.Pairwise (· < ·)→QR P os n w K l f→
    ∃ f',K f'∧(∀ t,(∀ i∈l,dstB os i t=false)→f' t=f t)∧∀ i∈l,QF P os n w f' i:=by
  intro l
  induction l with
  | nil=>intro f _ _ h; exact ⟨f,h,fun _ _=>rfl,fun i hi=>by cases hi⟩
  | cons i l ih=>
    intro f hq mJ h
    unfold QR at h
    cases ho:os[i]? with
    | none=>simp [ho] at h
    | some o=>
      cases hd:o.dst with
      | none=>simp [ho,hd] at h
      | some d=>
        simp only [ho,hd] at h
        have hi:i < os.length:=(Z1.1 ho).1
        rw [Ve] at mJ
        have xN:∀ j∈l,dstB os j d=false:=by
          intro j hj
          unfold dstB
          cases kK:(os[j]?).bind (·.dst) with
          | none=>rfl
          | some d'=>
            have iK:j < os.length:=by
              cases gM:os[j]? with
              | none=>simp [gM] at kK
              | some _=>exact (Z1.1 gM).1
            have h3:=Na (Na aS hi) iK
            rw [ho,kK] at h3
            simp only [M5,hd,H5] at h3
            rcases h3 with h3 | h3
            · have:=X6 h3; have:=mJ.1 j hj; omega
            · simpa using h3
        have YG:∀ f':Nat→Value,(∀ t,(∀ j∈l,dstB os j t=false)→f' t=(upd f d (f' d)) t)→AgO os o f f':=by
          intro f' h' t ht
          have kx:t≠d:=by
            rintro rfl
            have:=hlt i i hi (jQ i hi (hq i H0) t (by simp [ho,hd]) i o ho ht)
            omega
          rw [h' t ?_,z8 _ _ kx]
          intro j hj
          cases FN:dstB os j t with
          | false=>rfl
          | true=>
            exfalso
            unfold dstB at FN
            cases kK:(os[j]?).bind (·.dst) with
            | none=>simp [kK] at FN
            | some d'=>
              rw [kK] at FN
              have:=X6 FN
              subst this
              have iK:j < os.length:=by
                cases gM:os[j]? with
                | none=>simp [gM] at kK
                | some _=>exact (Z1.1 gM).1
              have h1:=hlt i j hi (jQ j iK (hq j (by simp [hj])) t kK i o ho ht)
              have:=mJ.1 j hj
              omega
        have fin:∀ v,((Wn os.toArray n f o.guard∧Yi P (fr n f) w o v)∨(Wx os.toArray n f o.guard∧v=undef))→QR P os n w K l (upd f d v)→
            ∃ f',K f'∧(∀ t,(∀ j∈i::l,dstB os j t=false)→f' t=f t)∧∀ j∈i::l,QF P os n w f' j:=by
          intro v hv hr
          obtain ⟨f',hK,jL,Qx⟩:=ih (fun j hj=>hq j (by simp [hj])) mJ.2 hr
          have FO:f' d=v:=by rw [jL d xN,Sc]
          refine ⟨f',hK,fun t ht=>?_,fun j hj=>?_⟩
          · have h1:=ht i H0
            rw [jL t (fun j hj=>ht j (by simp [hj]))]
            unfold dstB at h1
            simp only [ho,M5,hd] at h1
            exact z8 _ _ (fun e=>by subst e; simp at h1)
          · rcases U3.1 hj with rfl | hj
            · have ha:=YG f' (fun t ht=>by rw [jL t ht,FO])
              refine ⟨o,d,ho,hd,?_⟩
              have hn:nsel o=true:=by
                simp only [selOK,w7] at hs
                exact hs o (Rl ho)
              rcases hv with ⟨h1,h2⟩ | ⟨h1,h2⟩
              · refine .inl ⟨ha.wn h1,?_⟩
                unfold Yi at*
                rw [← ha.exec hn,FO]
                exact h2
              · exact .inr ⟨ha.wx h1,by rw [FO,h2]⟩
            · exact Qx j hj
        rcases h with ⟨h1,v,h2,h3⟩ | ⟨h1,h2⟩
        · exact fin v (.inl ⟨h1,h2⟩) h3
        · exact fin undef (.inr ⟨h1,rfl⟩) h2
theorem LF {f:Nat→Value} {w:World} {G:Nat→Oper→Value→World→Prop}:∀ {l:List Nat},LA P os n f w G l→∀ {e o},e∈l→os[e]?=some o→LS P os n f w o (G e o):=by
  intro l
  induction l with
  | nil=>intro _ e o h; cases h
  | cons j l ih=>
    intro ⟨h1,h2⟩ e o he ho
    rcases U3.1 he with rfl | he
    · simpa [ho] using h1
    · exact ih h2 he ho
structure DInv (P:Program) (os:List Oper) (tb lo:List Nat) (n:Nat) (Q:Exit→Act→World→Prop) (f0:Nat→Value) (S:Nat→Bool) (f:Nat→Value) (w:World) (m:Nat) (D:List Nat) (F:Nat→Value):Prop where
  clos:∀ (k:Nat) (o:Oper),os[k]?=some o→S k=true→∀ e∈o.after,Region.binds .any e=true→S e.on=true
  dn:∀ e,e∈D↔(memB lo e=true∧S e=true)
  ag:∀ k d,S k=true→(os[k]?).bind (·.dst)=some d→f d=F d
  nf:∀ t,(∀ k,S k=true→dstB os k t=false)→f t=f0 t
  nF:∀ t,(∀ k,k < os.length→(memB lo k=false∨k∈D)→dstB os k t=false)→F t=f0 t
  sat:∀ i,i < os.length→memB lo i=false→ready tb lo D i=true→forced tb D i=false→QF P os n w F i
  next:(m=0∧Q .normal (fr n F) w)∨∃ m',m=m'+1∧LA P os n F w (fun e o v w'=>DR P os tb lo n Q m' (e::D) (updO F o.dst v) w') (candL tb lo D)
  cnt:(lo.filter fun e=>!memB D e).length=m
theorem Bb {i t:Nat}:dstB os i t=true↔(os[i]?).bind (·.dst)=some t:=by
  unfold dstB
  cases h:(os[i]?).bind (·.dst) with
  | none=>simp
  | some d=>
    simp only [Oa]
    constructor
    · intro h; exact (X6 h).symm
    · rintro rfl; simp
theorem Ng {i t:Nat} (h:(os[i]?).bind (·.dst)=some t):i < os.length:=by
  cases ho:os[i]? with
  | none=>simp [ho] at h
  | some _=>exact (Z1.1 ho).1
theorem Ge (h:dsOK os=true) {i j t:Nat} (hi:(os[i]?).bind (·.dst)=some t) (hj:(os[j]?).bind (·.dst)=some t):i=j:=by
  have h3:=Na (Na h (Ng hi)) (Ng hj)
  rw [hi,hj] at h3
  simp at h3
  exact h3
structure Chk (os:List Oper) (tb lo:List Nat):Prop where
  ac:acyc os.toArray=true
  tbo:tbOK os tb=true
  rd:rdOK os tb lo=true
  ds:dsOK os=true
  sel:selOK os=true
  inc:incB lo=true
theorem chk (h:allOK os tb lo=true):Chk os tb lo:=by
  simp only [allOK,w4] at h
  exact ⟨h.1,h.2.1,h.2.2.1,h.2.2.2.1,h.2.2.2.2.1,h.2.2.2.2.2⟩
theorem YC:∀ {l:List Nat},incB l=true→l.Pairwise (· < ·):=by
  intro l
  induction l with
  | nil=>intro _; exact List.Pairwise.nil
  | cons a l ih=>
    intro h
    cases l with
    | nil=>simp
    | cons b r=>
      simp only [incB,w4] at h
      have h2:=ih h.2
      rw [Ve]
      refine ⟨fun x hx=>?_,h2⟩
      have DG:a < b:=by simpa [X7] using h.1
      rcases U3.1 hx with rfl | hx
      · exact DG
      · rw [Ve] at h2; have:=h2.1 x hx; omega
theorem Uy (c:Chk os tb lo):∀ i k,i < os.length→(tb.getD i 0).testBit k=true→k < i:=by
  intro i
  induction i using Nat.strongRecOn with
  | _ i ih=>
    intro k hi hk
    have h1:=Na c.tbo hi
    have nJ:os[i]?=some os[i]:=by simp [hi]
    simp only [nJ,w4] at h1
    obtain ⟨h1,h2⟩:=h1
    rw [X6 h1] at hk
    rcases Ck hk with h | ⟨p,hp,h⟩
    · simp at h
    · have hlt:p < i:=by
        rw [w7] at h2
        simpa [X7] using h2 p hp
      rcases h with rfl | h
      · exact hlt
      · have:=ih p hlt k A0 h; omega
theorem Ur (c:Chk os tb lo) {k i d:Nat} {o:Oper} (hk:(os[k]?).bind (·.dst)=some d) (ho:os[i]?=some o) (hr:rdsB os o d=true):
    (tb.getD i 0).testBit k=true∨(memB lo k=true∧((tb.getD k 0).testBit i=true∨i=k)):=by
  have h1:=Na c.rd (Ng hk)
  rw [hk] at h1
  have h2:=Na h1 (Z1.1 ho).1
  rw [ho] at h2
  simp only [hr,Y5,Zd,H5,w4] at h2
  rcases h2 with h2 | ⟨h2,h3⟩
  · exact .inl h2
  · refine .inr ⟨h2,?_⟩
    rcases h3 with h3 | h3
    · exact .inl h3
    · exact .inr (X6 h3)
theorem OA (c:Chk os tb lo):∀ k,k < os.length→memB lo k=false→∀ d,(os[k]?).bind (·.dst)=some d→∀ i o,os[i]?=some o→rdsB os o d=true→(tb.getD i 0).testBit k=true:=by
  intro k _ hq d hk i o ho hr
  rcases Ur c hk ho hr with h | ⟨h,_⟩
  · exact h
  · rw [hq] at h; cases h
variable {f0:Nat→Value} {S:Nat→Bool} {f F:Nat→Value} {w:World} {m:Nat} {D:List Nat}
theorem DInv.agO (c:Chk os tb lo) (h:DInv P os tb lo n Q f0 S f w m D F) {i:Nat} (hi:i < os.length) (_hS:S i=false) (hp:∀ e∈(os[i]).after,Region.binds .any e=true→S e.on=true):AgO os os[i] F f:=by
  intro t ht
  have bK:os[i]?=some os[i]:=by simp [hi]
  by_cases hk:∃ k:Nat,(os[k]?).bind (·.dst)=some t
  · obtain ⟨k,hk⟩:=hk
    cases vJ:S k with
    | true=>exact (h.ag k t vJ hk).symm
    | false=>
      rcases Ur c hk bK ht with h1 | ⟨h1,_⟩
      · have:=Lu c.tbo h.clos hi hp h1
        rw [vJ] at this; cases this
      · rw [h.nf t,h.nF t]
        · intro k' OG iH
          cases hb:dstB os k' t with
          | false=>rfl
          | true=>
            have:=Ge c.ds (Bb.1 hb) hk
            subst this
            rcases iH with iH | iH
            · rw [h1] at iH; cases iH
            · have:=((h.dn k').1 iH).2; rw [vJ] at this; cases this
        · intro k' OG
          cases hb:dstB os k' t with
          | false=>rfl
          | true=>
            have:=Ge c.ds (Bb.1 hb) hk
            subst this
            rw [vJ] at OG; cases OG
  · have hn:∀ k,dstB os k t=false:=fun k=>by
      cases hb:dstB os k t with
      | false=>rfl
      | true=>exact absurd ⟨k,Bb.1 hb⟩ hk
    rw [h.nf t fun k _=>hn k,h.nF t fun k _ _=>hn k]
theorem DInv.ready (c:Chk os tb lo) (h:DInv P os tb lo n Q f0 S f w m D F) {i:Nat} (hi:i < os.length) (hp:∀ e∈(os[i]).after,Region.binds .any e=true→S e.on=true):Sx.ready tb lo D i=true:=by
  simp only [Sx.ready,w7]
  intro e he
  cases hb:(tb.getD i 0).testBit e with
  | false=>rfl
  | true=>
    have h1:=Lu c.tbo h.clos hi hp hb
    simp only [Y5,Zd]
    exact Ia.2 ((h.dn e).2 ⟨Ia.2 he,h1⟩)
theorem DInv.unforced (c:Chk os tb lo) (h:DInv P os tb lo n Q f0 S f w m D F) {i:Nat} (hS:S i=false) (hl:∀ e∈lo,e < os.length):forced tb D i=false:=by
  cases hb:forced tb D i with
  | false=>rfl
  | true=>
    simp only [forced,Lh] at hb
    obtain ⟨e,he,hb⟩:=hb
    obtain ⟨h1,h2⟩:=(h.dn e).1 he
    have:=clo c.tbo h.clos e (hl e (Ia.1 h1)) h2 i hb
    rw [hS] at this; cases this
theorem DInv.of (c:Chk os tb lo) (hd:DR P os tb lo n Q m D F w)
    (clos:∀ (k:Nat) (o:Oper),os[k]?=some o→S k=true→∀ e∈o.after,Region.binds .any e=true→S e.on=true)
    (dn:∀ e,e∈D↔(memB lo e=true∧S e=true))
    (ag:∀ k d,S k=true→(os[k]?).bind (·.dst)=some d→f d=F d)
    (nf:∀ t,(∀ k,S k=true→dstB os k t=false)→f t=f0 t)
    (nF:∀ t,(∀ k,k < os.length→(memB lo k=false∨k∈D)→dstB os k t=false)→F t=f0 t)
    (cnt:(lo.filter fun e=>!memB D e).length=m)
    (sP:∀ i,i < os.length→memB lo i=false→forced tb D i=false→fresh tb D i=true→S i=false):∃ F',DInv P os tb lo n Q f0 S f w m D F':=by
  have key:∀ K:(Nat→Value)→Prop,QR P os n w (fun f=>QS P os n w f (oldQ os.length tb lo D)∧K f) (newQ os.length tb lo D) F→
      ∃ F',K F'∧(∀ t,(∀ i∈newQ os.length tb lo D,dstB os i t=false)→F' t=F t)∧∀ i,i < os.length→memB lo i=false→Sx.ready tb lo D i=true→forced tb D i=false→QF P os n w F' i:=by
    intro K hQ
    obtain ⟨F',⟨hS,hK⟩,YG,Qx⟩:=yF c.sel c.ds (OA c) (Uy c) (fun i hi=>by
      simp only [We,w4,B7] at hi; exact hi.2.1.1.1) (List.Pairwise.filter _ EF) hQ
    refine ⟨F',hK,YG,fun i hi h1 h2 h3=>?_⟩
    cases nH:fresh tb D i with
    | true=>exact Qx i (by simp [hi,h1,h2,h3,nH])
    | false=>exact xF hS (by simp [oldQ,hi,h1,h2,h3,nH])
  have fin:∀ F',(∀ t,(∀ i∈newQ os.length tb lo D,dstB os i t=false)→F' t=F t)→(∀ i,i < os.length→memB lo i=false→Sx.ready tb lo D i=true→forced tb D i=false→QF P os n w F' i)→
      ((m=0∧Q .normal (fr n F') w)∨∃ m',m=m'+1∧LA P os n F' w (fun e o v w'=>DR P os tb lo n Q m' (e::D) (updO F' o.dst v) w') (candL tb lo D))→∃ F',DInv P os tb lo n Q f0 S f w m D F':=by
    intro F' YG Qx BG
    refine ⟨F',clos,dn,fun k d hk AG=>?_,nf,fun t ht=>?_,Qx,BG,cnt⟩
    · rw [ag k d hk AG,YG d]
      intro i hi
      cases hb:dstB os i d with
      | false=>rfl
      | true=>
        have:=Ge c.ds (Bb.1 hb) AG
        subst this
        simp only [newQ,We,Z6,w4,B7] at hi
        have:=sP i hi.1 hi.2.1.1.1 hi.2.1.2 hi.2.2
        rw [hk] at this; cases this
    · rw [YG t,nF t ht]
      intro i hi
      simp only [newQ,We,Z6,w4,B7] at hi
      exact ht i hi.1 (.inl hi.2.1.1.1)
  cases m with
  | zero=>
    obtain ⟨F',hK,YG,Qx⟩:=key (fun f=>Q .normal (fr n f) w) hd
    exact fin F' YG Qx (.inl ⟨rfl,hK⟩)
  | succ m=>
    obtain ⟨F',hK,YG,Qx⟩:=key (fun f=>LA P os n f w (fun e o v w'=>DR P os tb lo n Q m (e::D) (updO f o.dst v) w') (candL tb lo D)) hd
    exact fin F' YG Qx (.inr ⟨m,rfl,hK⟩)
theorem py {id:Nat} (tb lo:List Nat) (m:Nat) (hm:P.follows .mixedOrders=true) (hc:allOK os tb lo=true) (Xz:lo.all (fun k=>Nat.blt k os.length)=true) (sI:Nat.beq lo.length m=true)
    (h:DR P os tb lo n Q m [] f {w with drawn:=w.drawn+1 }):(Code.region id os.toArray true).wp P Q (fr n f) w:=by
  have c:=chk hc
  have hl:∀ e∈lo,e < os.length:=fun e he=>by
    rw [w7] at Xz
    simpa [X7] using Xz e he
  have wP:=X6 sI
  refine qy hm c.ac (fun S a w=>∃ f' m D F,a=fr n f'∧DInv P os tb lo n Q f S f' w m D F) ?_ ?_ ?_
  · obtain ⟨F',hF⟩:=DInv.of (S:=fun _=>false) (f:=f) (f0:=f) c h (fun _ _ _ h=>by simp at h) (fun e=>by simp) (fun _ _ h=>by simp at h) (fun _ _=>rfl) (fun _ _=>rfl) ((C1 List.length (List.filter_eq_self.2 (fun _ _=>rfl))).trans wP) (fun _ _ _ _ _=>rfl)
    exact ⟨f,m,[],F',rfl,hF⟩
  · rintro i o S a w ho hS hp ⟨f',m,D,F,rfl,hI⟩
    have FH:os[i]?=some o:=by simpa using ho
    have hi:i < os.length:=(Z1.1 FH).1
    have nQ:os[i]=o:=by have:=(Z1.1 FH).2; exact this
    have AL:∀ e∈(os[i]).after,Region.binds .any e=true→S e.on=true:=by rw [nQ]; exact hp
    have YG:=hI.agO c hi hS AL
    rw [nQ] at YG
    have hn:nsel o=true:=by
      have:=c.sel
      simp only [selOK,w7] at this
      exact this o (Rl FH)
    have RM:=hI.ready c hi AL
    have BK:∀ (k:Nat) (o:Oper),os[k]?=some o→(k == i || S k)=true→∀ e∈o.after,Region.binds .any e=true→(e.on == i || S e.on)=true:=by
      intro k o' hk vJ e he hb
      by_cases WG:k=i
      · subst WG
        rw [FH] at hk; cases hk
        rw [hp e he hb]; simp
      · have h1:S k=true:=by simpa [WG] using vJ
        rw [hI.clos k o' hk h1 e he hb]; simp
    by_cases hq:memB lo i=true
    · have pO:memB D i=false:=by
        cases hb:memB D i with
        | false=>rfl
        | true=>have:=((hI.dn i).1 (Ia.1 hb)).2; rw [hS] at this; cases this
      have lN:i∈candL tb lo D:=by
        simp only [candL,We,w4,B7]
        exact ⟨Ia.1 hq,pO,RM⟩
      rcases hI.next with ⟨fK,_⟩ | ⟨m',OH,HS⟩
      · exfalso
        have:=hI.cnt
        rw [fK,List.length_eq_zero_iff,HF] at this
        have:=this i (Ia.1 hq)
        rw [pO] at this
        simp at this
      · subst OH
        have GS:=LF HS lN FH
        have nextI:∀ v w',DR P os tb lo n Q m' (i::D) (updO F o.dst v) w'→∃ f'' m D F,(fr n f').put o.dst v=fr n f''∧DInv P os tb lo n Q f (fun j=>j == i || S j) f'' w' m D F:=by
          intro v w' SS
          have nP:(fr n f').put o.dst v=fr n (updO f' o.dst v):=by
            cases o.dst with
            | none=>exact Xt _ _ _
            | some d=>exact tc _ _ _ _
          refine Exists.elim (DInv.of (S:=fun j=>j == i || S j) (f:=updO f' o.dst v) (f0:=f) c SS BK ?_ ?_ ?_ ?_ ?_ ?_) (fun F' aH=>⟨_,m',i::D,F',nP,aH⟩)
          · intro e
            rw [U3,hI.dn e]
            constructor
            · rintro (rfl | ⟨h1,h2⟩)
              · exact ⟨hq,H0⟩
              · exact ⟨h1,by simp [h2]⟩
            · rintro ⟨h1,h2⟩
              by_cases yQ:e=i
              · exact .inl yQ
              · exact .inr ⟨h1,by simpa [yQ] using h2⟩
          · intro k d hk AG
            by_cases WG:k=i
            · subst WG
              rw [FH] at AG
              simp only [M5] at AG
              rw [AG]
              simp [updO,Sc]
            · have h1:S k=true:=by simpa [WG] using hk
              have h2:=hI.ag k d h1 AG
              cases iM:o.dst with
              | none=>exact h2
              | some d'=>
                have kx:d≠d':=by
                  rintro rfl
                  exact WG (Ge c.ds AG (by rw [FH]; exact iM))
                simp only [updO]
                rw [z8 _ _ kx,z8 _ _ kx]; exact h2
          · intro t ht
            have h1:=ht i H0
            have h2:f' t=f t:=hI.nf t fun k hk=>ht k (by simp [hk])
            cases iM:o.dst with
            | none=>exact h2
            | some d'=>
              have kx:t≠d':=by
                rintro rfl
                rw [Bb.2 (by rw [FH]; exact iM)] at h1; cases h1
              simp only [updO]
              rw [z8 _ _ kx]; exact h2
          · intro t ht
            have h1:=ht i hi (.inr H0)
            have h2:F t=f t:=hI.nF t fun k hk iH=>ht k hk (Or.imp (fun h=>h) (fun h=>Ic _ h) iH)
            cases iM:o.dst with
            | none=>exact h2
            | some d'=>
              have kx:t≠d':=by
                rintro rfl
                rw [Bb.2 (by rw [FH]; exact iM)] at h1; cases h1
              simp only [updO]
              rw [z8 _ _ kx]; exact h2
          · have bT:=hI.cnt
            have mJ:=YC c.inc
            have:∀ l:List Nat,l.Pairwise (· < ·)→i∈l→(l.filter fun e=>!memB D e).length=(l.filter fun e=>!memB (i::D) e).length+1:=by
              intro l
              induction l with
              | nil=>intro _ h; cases h
              | cons a l ih=>
                intro mJ VG
                rw [Ve] at mJ
                by_cases PO:a=i
                · subst PO
                  have e1:(!memB D a)=true:=by rw [pO]; rfl
                  have e2:(!memB (a::D) a)=false:=by simp [memB]
                  rw [List.filter_cons_of_pos (p:=fun e=>!memB D e) e1,List.filter_cons_of_neg (p:=fun e=>!memB (a::D) e) (by rw [e2]; simp)]
                  rw [I2]
                  congr 2
                  apply List.filter_congr
                  intro x hx
                  have:x≠a:=by have:=mJ.1 x hx; omega
                  simp [memB,Le this]
                · have OH:i∈l:=by
                    rcases U3.1 VG with h | h
                    · exact absurd h.symm PO
                    · exact h
                  have e1:memB (i::D) a=memB D a:=by simp [memB,Le PO]
                  have:=ih mJ.2 OH
                  simp only [List.filter_cons,e1]
                  split
                  · simp only [I2]; omega
                  · exact this
            have:=this lo mJ (Ia.1 hq)
            omega
          · intro k hk qQ AN zN
            have WG:k≠i:=by rintro rfl; rw [hq] at qQ; cases qQ
            have h1:(k == i)=false:=by simpa using WG
            simp only [h1,Zd]
            cases vJ:S k with
            | false=>rfl
            | true=>
              have:=clo c.tbo hI.clos k hk vJ i zN
              rw [hS] at this; cases this
        unfold opSt
        rcases GS with ⟨hw,hx⟩ | ⟨hw,hx⟩
        · have FK:=YG.wn hw
          rw [M0 FK.wanted]
          unfold Oper.wp
          rw [← YG.exec hn]
          rcases hx with ⟨v,w',hr,hG⟩ | ⟨w',hr,hG⟩ | ⟨g,args,hr,hG⟩
          · rw [hr,Oper.upon_value]
            obtain ⟨f'',m,D,F,h1,h2⟩:=nextI v w' hG
            exact ⟨f'',m,D,F,h1,h2⟩
          · rw [hr,Oper.upon_skip]
            obtain ⟨f'',m,D,F,h1,h2⟩:=nextI _ w' hG
            exact ⟨f'',m,D,F,h1,h2⟩
          · rw [hr,Oper.upon_enter]
            refine hG.mono ?_
            rintro e w' ⟨v,rfl,hG⟩
            obtain ⟨f'',m,D,F,h1,h2⟩:=nextI v w' hG
            exact ⟨f'',m,D,F,h1,h2⟩
        · have FK:=YG.wx hw
          rw [FK.wanted]
          simp only [Q2,if_false]
          obtain ⟨f'',m,D,F,h1,h2⟩:=nextI _ w hx
          exact ⟨f'',m,D,F,h1,h2⟩
    · have mQ:memB lo i=false:=by simpa using hq
      obtain ⟨o',d,h1,hd,h3⟩:=hI.sat i hi mQ RM (hI.unforced c hS hl)
      rw [FH] at h1; cases h1
      have lK:(os[i]?).bind (·.dst)=some d:=by rw [FH]; exact hd
      have step:DInv P os tb lo n Q f (fun j=>j == i || S j) (upd f' d (F d)) w m D F:=by
        refine ⟨BK,fun e=>?_,fun k d' hk AG=>?_,fun t ht=>?_,hI.nF,hI.sat,hI.next,hI.cnt⟩
        · rw [hI.dn e]
          constructor
          · rintro ⟨h1,h2⟩; exact ⟨h1,by simp [h2]⟩
          · rintro ⟨h1,h2⟩
            have:e≠i:=by rintro rfl; rw [mQ] at h1; cases h1
            exact ⟨h1,by simpa [this] using h2⟩
        · by_cases WG:k=i
          · subst WG
            rw [lK] at AG; cases AG
            rw [Sc]
          · have h1:S k=true:=by simpa [WG] using hk
            have kx:d'≠d:=by rintro rfl; exact WG (Ge c.ds AG lK)
            rw [z8 _ _ kx]; exact hI.ag k d' h1 AG
        · have h1:=ht i H0
          have kx:t≠d:=by rintro rfl; rw [Bb.2 lK] at h1; cases h1
          rw [z8 _ _ kx]
          exact hI.nf t fun k hk=>ht k (by simp [hk])
      unfold opSt
      rcases h3 with ⟨hw,hy⟩ | ⟨hw,hy⟩
      · have FK:=YG.wn hw
        rw [M0 FK.wanted]
        unfold Oper.wp
        unfold Yi at hy
        rw [← YG.exec hn,hy,Oper.upon_value,hd,tc]
        exact ⟨_,m,D,F,rfl,step⟩
      · have FK:=YG.wx hw
        rw [FK.wanted]
        simp only [Q2,if_false]
        rw [hd,tc,← hy]
        exact ⟨_,m,D,F,rfl,step⟩
  · rintro S a w Qx ⟨f',m,D,F,rfl,hI⟩
    have DK:∀ i,i < os.length→S i=true:=fun i hi=>Qx i (by simpa using hi)
    rcases hI.next with ⟨_,hQ⟩ | ⟨m',OH,_⟩
    · have:f'=F:=by
        funext t
        by_cases hk:∃ k:Nat,(os[k]?).bind (·.dst)=some t
        · obtain ⟨k,hk⟩:=hk
          exact hI.ag k t (DK k (Ng hk)) hk
        · have hn:∀ k,dstB os k t=false:=fun k=>by
            cases hb:dstB os k t with
            | false=>rfl
            | true=>exact absurd ⟨k,Bb.1 hb⟩ hk
          rw [hI.nf t fun k _=>hn k,hI.nF t fun k _ _=>hn k]
      rw [this]; exact hQ
    · exfalso
      have:=hI.cnt
      rw [OH] at this
      have hz:(lo.filter fun e=>!memB D e)=[]:=by
        rw [HF]
        intro e he
        have:e∈D:=(hI.dn e).2 ⟨Ia.2 he,DK e (hl e he)⟩
        simp [Ia.2 this]
      rw [hz] at this
      simp at this
variable {l l1 l2 lc r:List Nat} {i d e:Nat} {o:Oper} {v:Value} {K:(Nat→Value)→Prop} {G:Nat→Oper→Value→World→Prop} {G1:Value→World→Prop}
theorem DRz (h1:newQ os.length tb lo D=l1) (h2:oldQ os.length tb lo D=l2) (h:QR P os n w (fun f=>QS P os n w f l2∧Q .normal (fr n f) w) l1 f):DR P os tb lo n Q 0 D f w:=by subst h1; subst h2; exact h
theorem DRn (h1:newQ os.length tb lo D=l1) (h2:oldQ os.length tb lo D=l2) (h3:candL tb lo D=lc) (h:QR P os n w (fun f=>QS P os n w f l2∧LA P os n f w (fun e o v w'=>DR P os tb lo n Q m (e::D) (updO f o.dst v) w') lc) l1 f):DR P os tb lo n Q (m+1) D f w:=by subst h1; subst h2; subst h3; exact h
theorem Ry (ho:os[i]?=some o) (hd:o.dst=some d) (hw:Wn os.toArray n f o.guard) (hy:Yi P (fr n f) w o v) (k:QR P os n w K r (upd f d v)):QR P os n w K (i::r) f:=by
  simp only [QR,ho,hd]; exact .inl ⟨hw,v,hy,k⟩
theorem Rx (ho:os[i]?=some o) (hd:o.dst=some d) (hw:Wx os.toArray n f o.guard) (k:QR P os n w K r (upd f d undef)):QR P os n w K (i::r) f:=by
  simp only [QR,ho,hd]; exact .inr ⟨hw,k⟩
theorem Sy (ho:os[i]?=some o) (hd:o.dst=some d) (hw:Wn os.toArray n f o.guard) (hy:Yi P (fr n f) w o v) (hv:f d=v) (k:QS P os n w f r):QS P os n w f (i::r):=by
  simp only [QS,ho,hd]; exact ⟨.inl ⟨hw,by rw [hv]; exact hy⟩,k⟩
theorem Sx_ (ho:os[i]?=some o) (hd:o.dst=some d) (hw:Wx os.toArray n f o.guard) (hv:f d=undef) (k:QS P os n w f r):QS P os n w f (i::r):=by
  simp only [QS,ho,hd]; exact ⟨.inr ⟨hw,hv⟩,k⟩
theorem Rn {K1:(Nat→Value)→Prop} {K2:(Nat→Value)→Prop} (h1:K1 f) (h2:K2 f):QR P os n w (fun f=>K1 f∧K2 f) [] f:=⟨h1,h2⟩
theorem QSn:QS P os n w f []:=trivial
theorem LAn:LA P os n f w G []:=trivial
theorem Lc (ho:os[e]?=some o) (h:LS P os n f w o (G e o)) (k:LA P os n f w G r):LA P os n f w G (e::r):=by
  simp only [LA,ho]; exact ⟨h,k⟩
theorem Ly (hw:Wn os.toArray n f o.guard) (hy:Yi P (fr n f) w o v) (k:G1 v w):LS P os n f w o G1:=.inl ⟨hw,.inl ⟨v,w,hy,k⟩⟩
theorem Lw {w':World} (hw:Wn os.toArray n f o.guard) (hy:(execOp (fr n f).eval o).run P w=.ok (.value v) w') (k:G1 v w'):LS P os n f w o G1:=.inl ⟨hw,.inl ⟨v,w',hy,k⟩⟩
theorem Ls {w':World} (hw:Wn os.toArray n f o.guard) (hy:(execOp (fr n f).eval o).run P w=.ok .skip w') (k:G1 undef w'):LS P os n f w o G1:=.inl ⟨hw,.inr (.inl ⟨w',hy,k⟩)⟩
theorem Lk {g:FuncId} {args:Array Value} {R:Ending→World→Prop} (hw:Wn os.toArray n f o.guard) (hy:(execOp (fr n f).eval o).run P w=.ok (.enter g args) w) (hc:Calls P g args w R) (k:∀ e w',R e w'→∃ v,e=.returned v∧G1 v w'):LS P os n f w o G1:=
  .inl ⟨hw,.inr (.inr ⟨g,args,hy,hc.mono k⟩)⟩
theorem Lx (hw:Wx os.toArray n f o.guard) (k:G1 undef w):LS P os n f w o G1:=.inr ⟨hw,k⟩
end
end Sx
