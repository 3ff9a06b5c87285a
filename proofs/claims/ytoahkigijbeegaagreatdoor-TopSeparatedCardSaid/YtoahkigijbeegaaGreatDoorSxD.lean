/- Regions that draw their order: an invariant that speaks of the operations already carried out serves every order. It holds over any program. -/
import Derived.Test.YtoahkigijbeegaaGreatDoorSxC
import Derived.Orders
import Derived.KernelRfl
namespace Sx
open Go
theorem TB {α:Type} {p q:α→Bool}:∀ {l:List α},(∀ j∈l,q j=true→p j=true)→(∃ i∈l,p i=true∧q i=false)→l.countP q < l.countP p:=by
  intro l
  induction l with
  | nil=>rintro _ ⟨i,hi,_⟩; cases hi
  | cons x l ih=>
    intro h1 ⟨i,hi,hp,hq⟩
    have hle:l.countP q≤l.countP p:=List.countP_mono_left (fun j hj=>h1 j (Qc _ hj))
    rcases G3.1 hi with rfl | hi
    · simp [hp,hq]; omega
    · have:=ih (fun j hj=>h1 j (Qc _ hj)) ⟨i,hi,hp,hq⟩
      have hx:=h1 x (Ct ..)
      by_cases fH:q x=true
      · simp [fH,hx fH]; exact this
      · simp only [Kt,fH]
        by_cases SN:p x=true<;>simp [SN]<;>omega
def rdy (ops:Array Oper) (listed:Array Bool):List Nat:=(List.range ops.size).filter fun i=>
  !listed.getD i true && ((ops[i]?).map (·.after.all fun e=>!Region.binds .any e || listed.getD e.on false)).getD false
def lin (ops:Array Oper):Nat→Nat→Array Bool→List Nat
  | 0,_,_=>[]
  | fuel+1,t,listed=>
    match (rdy ops listed)[t % (rdy ops listed).length]? with
    | some i=>i::lin ops fuel (t / (rdy ops listed).length) (listed.setIfInBounds i true)
    | none=>[]
theorem DA (ops:Array Oper):∀ (fuel t:Nat) (listed:Array Bool) (acc:List Nat),
    Region.linearise.go .any ops fuel t listed acc=acc.reverse++lin ops fuel t listed:=by
  intro fuel
  induction fuel with
  | zero=>intro t listed acc; simp [Region.linearise.go,lin]
  | succ fuel ih=>
    intro t listed acc
    have e1:Region.linearise.go .any ops (fuel+1) t listed acc=match (rdy ops listed)[t % (rdy ops listed).length]? with
      | some i=>Region.linearise.go .any ops fuel (t / (rdy ops listed).length) (listed.setIfInBounds i true) (i::acc)
      | none=>acc.reverse:=rfl
    rw [e1]
    unfold lin
    cases h:(rdy ops listed)[t % (rdy ops listed).length]? with
    | none=>simp
    | some i=>simp only; rw [ih]; simp
theorem Yh {l:Array Bool} {j:Nat} (h:j < l.size) (d d':Bool):l.getD j d=l.getD j d':=by simp [Array.getD,h]
theorem Xh {l:Array Bool} {i:Nat} (h:i < l.size) (v d:Bool):(l.setIfInBounds i v).getD i d=v:=by simp [Array.getD,h]
theorem uq (l:Array Bool) {i j:Nat} (h:i≠j) (v d:Bool):(l.setIfInBounds i v).getD j d=l.getD j d:=by
  by_cases hj:j < l.size
  · simp only [Array.getD,ED,hj,dite_true,Array.getInternal_eq_getElem]
    rw [FD (by simpa using hj),J0 h]
  · simp [Array.getD,hj]
def acyc (ops:Array Oper):Bool:=(List.range ops.size).all fun i=>((ops[i]?).map fun o=>o.after.all fun e=>!Region.binds .any e || Nat.blt e.on i).getD true
def opSt (P:Program) (ops:Array Oper) (o:Oper) (a:Act) (w:World) (K:Act→World→Prop) (Q:Exit→Act→World→Prop):Prop:=
  if Region.wanted o (yielded ops a.tmps) then o.wp P a w K Q else K (a.put o.dst undef) w
theorem Xu {P:Program} {id:Nat} {ops:Array Oper} {Q:Exit→Act→World→Prop} {a:Act} {w:World}
    (hm:P.follows .mixedOrders=true) (YE:acyc ops=true) (I:(Nat→Bool)→Act→World→Prop)
    (h0:I (fun _=>false) a {w with drawn:=w.drawn+1 })
    (hs:∀ i o S a w,ops[i]?=some o→S i=false→(∀ e∈o.after,Region.binds .any e=true→S e.on=true)→I S a w→
      opSt P ops o a w (fun a' w'=>I (fun j=>j == i || S j) a' w') Q)
    (hf:∀ S a w,(∀ i,i < ops.size→S i=true)→I S a w→Q .normal a w):(Code.region id ops true).wp P Q a w:=by
  refine wp_region_draw fun t=>?_
  have key:∀ (fuel t:Nat) (listed:Array Bool) (S:Nat→Bool) (a:Act) (w:World),listed.size=ops.size→(∀ j,S j=listed.getD j false)→
      (List.range ops.size).countP (fun j=>!listed.getD j true)≤fuel→I S a w→wpOps P ops Q (lin ops fuel t listed) a w:=by
    intro fuel
    induction fuel with
    | zero=>
      intro t listed S a w Mu hS hc hI
      simp only [lin,wpOps]
      refine hf S a w (fun i hi=>?_) hI
      have h0:(List.range ops.size).countP (fun j=>!listed.getD j true)=0:=n0
      rw [List.countP_eq_zero] at h0
      have:=h0 i (m7.2 hi)
      rw [hS,Yh n0 false true]
      cases h:listed.getD i true
      · rw [h] at this; exact absurd rfl this
      · rfl
    | succ fuel ih=>
      intro t listed S a w Mu hS hc hI
      unfold lin
      split
      · rename_i i hi
        have kv:i∈rdy ops listed:=Qf hi
        simp only [rdy,n7,m7,V4] at kv
        obtain ⟨hlt,bH,BI⟩:=kv
        have aG:ops[i]?=some ops[i]:=by simp [hlt]
        simp only [wpOps,aG]
        have KK:S i=false:=by
          rw [hS,Yh n0 false true]
          cases h:listed.getD i true
          · rfl
          · rw [h] at bH; cases bH
        have dJ:∀ e∈(ops[i]).after,Region.binds .any e=true→S e.on=true:=by
          intro e he hb
          simp only [aG,H8,Kf,Wt] at BI
          have:=BI e he
          rw [hb] at this
          rw [hS]
          simpa only [U4,xd] using this
        have nu:=hs i ops[i] S a w aG KK dJ hI
        have eI:∀ j,(j == i || S j)=(listed.setIfInBounds i true).getD j false:=by
          intro j
          by_cases kH:j=i
          · subst kH; rw [Xh n0]; simp
          · have h1:(j == i)=false:=by simpa using kH
            rw [h1,xd,hS,uq _ (fun e=>kH e.symm)]
        have Hu:(List.range ops.size).countP (fun j=>!(listed.setIfInBounds i true).getD j true)≤fuel:=by
          have:(List.range ops.size).countP (fun j=>!(listed.setIfInBounds i true).getD j true) < (List.range ops.size).countP (fun j=>!listed.getD j true):=by
            refine TB ?_ ⟨i,m7.2 hlt,bH,?_⟩
            · intro j hj hq
              rw [m7] at hj
              by_cases kH:j=i
              · subst kH; rw [Xh n0] at hq; cases hq
              · rwa [uq _ (fun e=>kH e.symm)] at hq
            · show (!(listed.setIfInBounds i true).getD i true)=false
              rw [Xh n0]; rfl
          omega
        have rec_:=fun a' w' iI=>ih (t / (rdy ops listed).length) (listed.setIfInBounds i true) (fun j=>j == i || S j) a' w' (by simpa using Mu) eI Hu iI
        unfold opSt at nu
        by_cases hw:Region.wanted ops[i] (yielded ops a.tmps)=true
        · rw [I0 hw] at nu ⊢
          refine .inl ?_
          unfold Oper.wp at nu ⊢
          generalize (execOp a.eval ops[i]).run P w=r at*
          revert nu
          cases r with
          | ok x w'=>
            cases x<;>simp only [Oper.upon]<;>intro nu<;>first
              | exact rec_ _ _ nu
              | exact nu
              | (refine nu.mono ?_
                 intro e w'' h
                 cases e<;>first | exact rec_ _ _ h | exact h)
              | (refine nu.mono ?_
                 intro v w'' h
                 exact rec_ _ _ h)
          | halt x w'=>cases x<;>simp only [Oper.upon]<;>intro nu<;>exact nu
        · rw [J0 hw] at nu ⊢
          exact rec_ _ _ nu
      · rename_i RI
        have yL:rdy ops listed=[]:=by
          rw [List.getElem?_eq_none_iff] at RI
          by_cases he:(rdy ops listed).length=0
          · exact P6 he
          · have:=Nf t (Nat.pos_of_ne_zero he); omega
        simp only [wpOps]
        refine hf S a w ?_ hI
        intro i
        induction i using Nat.strongRecOn with
        | _ i ihi=>
          intro hi
          cases KK:S i with
          | true=>rfl
          | false=>
            exfalso
            have aG:ops[i]?=some ops[i]:=by simp [hi]
            have bH:listed.getD i true=false:=by
              rw [Yh n0 true false,← hS,KK]
            have:i∈rdy ops listed:=by
              simp only [rdy,n7,m7,V4]
              refine ⟨hi,by rw [bH]; rfl,?_⟩
              simp only [aG,H8,Kf,Wt]
              intro e he
              cases hb:Region.binds .any e with
              | false=>rfl
              | true=>
                simp only [acyc,Q6,m7] at YE
                have ha:=YE i hi
                simp only [aG,H8,Kf,Wt] at ha
                have ZE:=ha e he
                rw [hb] at ZE
                have hlt:e.on < i:=by simpa [L6] using ZE
                have:=ihi e.on hlt n0
                rw [hS] at this
                rw [this]
                rfl
            rw [yL] at this
            cases this
  have jL:Region.schedule (P.follows .mixedOrders) ops t=lin ops ops.size t (Array.replicate ops.size false):=by
    simp only [Region.schedule,hm,Bool.true_or,if_true,Region.linearise]
    rw [DA]
    simp
  rw [jL]
  refine key _ _ _ (fun _=>false) _ _ G0 (fun j=>by by_cases hj:j < ops.size<;>simp [Array.getD,hj]) ?_ h0
  refine Q5 (yj ..) G0
def prs (o:Oper):List Nat:=o.after.toList.filterMap fun e=>bif Region.binds .any e then some e.on else none
def mk1 (tb:List Nat) (o:Oper):Nat:=(prs o).foldl (fun s p=>s ||| 2 ^ p ||| tb.getD p 0) 0
def tbOK (os:List Oper) (tb:List Nat):Bool:=(List.range os.length).all fun k=>match os[k]? with
  | some o=>Nat.beq (tb.getD k 0) (mk1 tb o) && (prs o).all (fun p=>Nat.blt p k)
  | none=>true
def rdsB (os:List Oper) (o:Oper) (d:Nat):Bool:=(o.looksAt os.toArray).any (Nat.beq d)
def rdOK (os:List Oper) (tb lo:List Nat):Bool:=(List.range os.length).all fun k=>match (os[k]?).bind (·.dst) with
  | none=>true
  | some d=>(List.range os.length).all fun i=>match os[i]? with
    | none=>true
    | some o=>!rdsB os o d || (tb.getD i 0).testBit k || (lo.any (Nat.beq k) && ((tb.getD k 0).testBit i || Nat.beq i k))
def dsOK (os:List Oper):Bool:=(List.range os.length).all fun i=>(List.range os.length).all fun j=>Nat.beq i j || (match (os[i]?).bind (·.dst),(os[j]?).bind (·.dst) with | some a,some b=>!Nat.beq a b | _,_=>true)
def nsel (o:Oper):Bool:=match o.op with | .select ..=>false | _=>true
def selOK (os:List Oper):Bool:=os.all nsel
def incB:List Nat→Bool | a::b::r=>Nat.blt a b && incB (b::r) | _=>true
def allOK (os:List Oper) (tb lo:List Nat):Bool:=acyc os.toArray && (tbOK os tb && (rdOK os tb lo && (dsOK os && (selOK os && incB lo))))
def memB (l:List Nat) (k:Nat):Bool:=l.any (Nat.beq k)
def ready (tb lo D:List Nat) (i:Nat):Bool:=lo.all fun e=>!(tb.getD i 0).testBit e || memB D e
def forced (tb D:List Nat) (i:Nat):Bool:=D.any fun e=>(tb.getD e 0).testBit i
def fresh (tb D:List Nat) (i:Nat):Bool:=match D with | []=>true | e::_=>(tb.getD i 0).testBit e
def newQ (n:Nat) (tb lo D:List Nat):List Nat:=(List.range n).filter fun i=>!memB lo i && ready tb lo D i && !forced tb D i && fresh tb D i
def oldQ (n:Nat) (tb lo D:List Nat):List Nat:=(List.range n).filter fun i=>!memB lo i && ready tb lo D i && !forced tb D i && !fresh tb D i
def candL (tb lo D:List Nat):List Nat:=lo.filter fun e=>!memB D e && ready tb lo D e
def updO (f:Nat→Value) (d:Option Nat) (v:Value):Nat→Value:=match d with | some d=>upd f d v | none=>f
def QR (P:Program) (os:List Oper) (n:Nat) (w:World) (K:(Nat→Value)→Prop):List Nat→(Nat→Value)→Prop
  | [],f=>K f
  | i::r,f=>match os[i]? with
    | none=>False
    | some o=>match o.dst with
      | none=>False
      | some d=>(Wn os.toArray n f o.guard∧∃ v,Yi P (fr n f) w o v∧QR P os n w K r (upd f d v))∨(Wx os.toArray n f o.guard∧QR P os n w K r (upd f d undef))
def QS (P:Program) (os:List Oper) (n:Nat) (w:World) (f:Nat→Value):List Nat→Prop
  | []=>True
  | i::r=>(match os[i]? with
    | none=>False
    | some o=>match o.dst with
      | none=>False
      | some d=>(Wn os.toArray n f o.guard∧Yi P (fr n f) w o (f d))∨(Wx os.toArray n f o.guard∧f d=undef))∧QS P os n w f r
def LS (P:Program) (os:List Oper) (n:Nat) (f:Nat→Value) (w:World) (o:Oper) (G:Value→World→Prop):Prop:=
  (Wn os.toArray n f o.guard∧((∃ v w',(execOp (fr n f).eval o).run P w=.ok (.value v) w'∧G v w')∨(∃ w',(execOp (fr n f).eval o).run P w=.ok .skip w'∧G undef w')∨
    (∃ g args,(execOp (fr n f).eval o).run P w=.ok (.enter g args) w∧Calls P g args w fun e w'=>∃ v,e=.returned v∧G v w')))∨(Wx os.toArray n f o.guard∧G undef w)
def LA (P:Program) (os:List Oper) (n:Nat) (f:Nat→Value) (w:World) (G:Nat→Oper→Value→World→Prop):List Nat→Prop
  | []=>True
  | e::r=>(match os[e]? with | none=>False | some o=>LS P os n f w o (G e o))∧LA P os n f w G r
def DR (P:Program) (os:List Oper) (tb lo:List Nat) (n:Nat) (Q:Exit→Act→World→Prop):Nat→List Nat→(Nat→Value)→World→Prop
  | 0,D,f,w=>QR P os n w (fun f=>QS P os n w f (oldQ os.length tb lo D)∧Q .normal (fr n f) w) (newQ os.length tb lo D) f
  | m+1,D,f,w=>QR P os n w (fun f=>QS P os n w f (oldQ os.length tb lo D)∧LA P os n f w (fun e o v w'=>DR P os tb lo n Q m (e::D) (updO f o.dst v) w') (candL tb lo D)) (newQ os.length tb lo D) f
theorem G8 {n:Nat} {p:Nat→Bool} (h:(List.range n).all p=true) {k:Nat} (hk:k < n):p k=true:=by
  rw [Q6] at h; exact h k (m7.2 hk)
theorem E8 {l:List Nat} {k:Nat}:memB l k=true↔k∈l:=by
  simp only [memB,Uf]
  constructor
  · rintro ⟨x,hx,hb⟩; have:=Y5 hb; subst this; exact hx
  · intro h; exact ⟨k,h,G0⟩
theorem Zh {tb:List Nat}:∀ {l:List Nat} {s j:Nat},(l.foldl (fun s p=>s ||| 2 ^ p ||| tb.getD p 0) s).testBit j=true→s.testBit j=true∨∃ p,p∈l∧(p=j∨(tb.getD p 0).testBit j=true):=by
  intro l
  induction l with
  | nil=>intro s j h; exact .inl h
  | cons p l ih=>
    intro s j h
    rw [List.foldl_cons] at h
    rcases ih h with h | ⟨q,hq,h⟩
    · rw [Lf,Lf,U5,U5] at h
      rcases h with (h | h) | h
      · exact .inl h
      · rw [Nat.testBit_two_pow] at h
        exact .inr ⟨p,G0,.inl (by simpa using h)⟩
      · exact .inr ⟨p,G0,.inr h⟩
    · exact .inr ⟨q,by simp [hq],h⟩
section
variable {P:Program} {os:List Oper} {tb lo:List Nat} {n:Nat} {Q:Exit→Act→World→Prop}
theorem clo (ht:tbOK os tb=true) {S:Nat→Bool} (hS:∀ (k:Nat) (o:Oper),os[k]?=some o→S k=true→∀ e∈o.after,Region.binds .any e=true→S e.on=true):
    ∀ k,k < os.length→S k=true→∀ j,(tb.getD k 0).testBit j=true→S j=true:=by
  intro k
  induction k using Nat.strongRecOn with
  | _ k ih=>
    intro hk xF j hj
    have h1:=G8 ht hk
    have qF:os[k]?=some os[k]:=by simp [hk]
    simp only [qF,V4] at h1
    obtain ⟨h1,h2⟩:=h1
    rw [Y5 h1] at hj
    rcases Zh hj with h | ⟨p,hp,h⟩
    · simp at h
    · have IH:S p=true:=by
        simp only [prs,Bt] at hp
        obtain ⟨e,he,hb⟩:=hp
        cases OE:Region.binds .any e with
        | false=>simp [OE] at hb
        | true=>
          simp [OE] at hb
          subst hb
          exact hS k _ qF xF e (Array.mem_toList_iff.1 he) OE
      rcases h with rfl | h
      · exact IH
      · have hlt:p < k:=by
          rw [Q6] at h2
          simpa [L6] using h2 p hp
        exact ih p hlt n0 IH j h
theorem Sr (ht:tbOK os tb=true) {S:Nat→Bool} (hS:∀ (k:Nat) (o:Oper),os[k]?=some o→S k=true→∀ e∈o.after,Region.binds .any e=true→S e.on=true) {i:Nat} (hi:i < os.length)
    (hp:∀ e∈(os[i]).after,Region.binds .any e=true→S e.on=true) {j:Nat} (hj:(tb.getD i 0).testBit j=true):S j=true:=by
  have h1:=G8 ht hi
  have qF:os[i]?=some os[i]:=by simp [hi]
  simp only [qF,V4] at h1
  obtain ⟨h1,h2⟩:=h1
  rw [Y5 h1] at hj
  rcases Zh hj with h | ⟨p,hH,h⟩
  · simp at h
  · have hlt:p < i:=by
      rw [Q6] at h2
      simpa [L6] using h2 p hH
    have IH:S p=true:=by
      simp only [prs,Bt] at hH
      obtain ⟨e,he,hb⟩:=hH
      cases OE:Region.binds .any e with
      | false=>simp [OE] at hb
      | true=>
        simp [OE] at hb
        subst hb
        exact hp e (Array.mem_toList_iff.1 he) OE
    rcases h with rfl | h
    · exact IH
    · exact clo ht hS p n0 IH j h
def AgO (os:List Oper) (o:Oper) (f f':Nat→Value):Prop:=∀ t,rdsB os o t=true→f t=f' t
theorem AgO.eval {o:Oper} {f f':Nat→Value} (h:AgO os o f f'):∀ x∈o.op.operands,(fr n f).eval x=(fr n f').eval x:=by
  intro x hx
  cases x with
  | tmp t=>
    unfold Act.eval
    simp only
    by_cases ht:t < n
    · rw [pc _ _ _ ht,pc _ _ _ ht]
      refine h t ?_
      simp only [rdsB,Uf]
      exact ⟨t,List.mem_append_left _ (Bt.2 ⟨.tmp t,by simpa using hx,rfl⟩),G0⟩
    · simp [fr,Array.getD,ht]
  | const v=>rfl
  | global g=>rfl
  | func f=>rfl
theorem AgO.exec {o:Oper} {f f':Nat→Value} (h:AgO os o f f') (hs:nsel o=true):execOp (fr n f).eval o=execOp (fr n f').eval o:=
  execOp_congr o (fun cs b e=>by simp [nsel,e] at hs) h.eval
theorem AgO.wn {o:Oper} {f f':Nat→Value} (h:AgO os o f f') (hw:Wn os.toArray n f o.guard):Wn os.toArray n f' o.guard:=by
  cases hg:o.guard with
  | none=>trivial
  | some jb=>
    obtain ⟨j,b⟩:=jb
    rw [hg] at hw
    obtain ⟨d,h1,h2,h3⟩:=hw
    refine ⟨d,h1,h2,?_⟩
    rw [← h d ?_]; exact h3
    simp only [rdsB,Uf]
    refine ⟨d,?_,G0⟩
    simp only [List.getElem?_toArray] at h1
    simp [Oper.looksAt,hg,h1]
theorem AgO.wx {o:Oper} {f f':Nat→Value} (h:AgO os o f f') (hw:Wx os.toArray n f o.guard):Wx os.toArray n f' o.guard:=by
  cases hg:o.guard with
  | none=>rw [hg] at hw; exact hw
  | some jb=>
    obtain ⟨j,b⟩:=jb
    rw [hg] at hw
    obtain ⟨d,h1,h2,h3⟩:=hw
    refine ⟨d,h1,h2,?_⟩
    rw [← h d ?_]; exact h3
    simp only [rdsB,Uf]
    refine ⟨d,?_,G0⟩
    simp only [List.getElem?_toArray] at h1
    simp [Oper.looksAt,hg,h1]
def QF (P:Program) (os:List Oper) (n:Nat) (w:World) (f:Nat→Value) (i:Nat):Prop:=∃ o d,os[i]?=some o∧o.dst=some d∧((Wn os.toArray n f o.guard∧Yi P (fr n f) w o (f d))∨(Wx os.toArray n f o.guard∧f d=undef))
theorem ZC {w:World} {f:Nat→Value}:∀ {l:List Nat},QS P os n w f l→∀ {i},i∈l→QF P os n w f i:=by
  intro l
  induction l with
  | nil=>intro _ i h; cases h
  | cons j l ih=>
    intro ⟨h1,h2⟩ i hi
    rcases G3.1 hi with rfl | hi
    · cases ho:os[i]? with
      | none=>simp [ho] at h1
      | some o=>
        cases hd:o.dst with
        | none=>simp [ho,hd] at h1
        | some d=>simp only [ho,hd] at h1; exact ⟨o,d,ho,hd,h1⟩
    · exact ih h2 hi
def dstB (os:List Oper) (i t:Nat):Bool:=match (os[i]?).bind (·.dst) with | some d=>Nat.beq t d | none=>false
theorem aD (hs:selOK os=true) (pO:dsOK os=true) (SL:∀ k,k < os.length→memB lo k=false→∀ d,(os[k]?).bind (·.dst)=some d→∀ i o,os[i]?=some o→rdsB os o d=true→(tb.getD i 0).testBit k=true)
    (hlt:∀ i k,i < os.length→(tb.getD i 0).testBit k=true→k < i) {w:World} {K:(Nat→Value)→Prop}:∀ {l:List Nat} {f:Nat→Value},(∀ i∈l,memB lo i=false)→l.Pairwise (· < ·)→QR P os n w K l f→
    ∃ f',K f'∧(∀ t,(∀ i∈l,dstB os i t=false)→f' t=f t)∧∀ i∈l,QF P os n w f' i:=by
  intro l
  induction l with
  | nil=>intro f _ _ h; exact ⟨f,h,fun _ _=>rfl,fun i hi=>by cases hi⟩
  | cons i l ih=>
    intro f hq IE h
    unfold QR at h
    cases ho:os[i]? with
    | none=>simp [ho] at h
    | some o=>
      cases hd:o.dst with
      | none=>simp [ho,hd] at h
      | some d=>
        simp only [ho,hd] at h
        have hi:i < os.length:=(C2.1 ho).1
        rw [z6] at IE
        have NH:∀ j∈l,dstB os j d=false:=by
          intro j hj
          unfold dstB
          cases EG:(os[j]?).bind (·.dst) with
          | none=>rfl
          | some d'=>
            have zG:j < os.length:=by
              cases JH:os[j]? with
              | none=>simp [JH] at EG
              | some _=>exact (C2.1 JH).1
            have h3:=G8 (G8 pO hi) zG
            rw [ho,EG] at h3
            simp only [y6,hd,U5] at h3
            rcases h3 with h3 | h3
            · have:=Y5 h3; have:=IE.1 j hj; omega
            · simpa using h3
        have Ay:∀ f':Nat→Value,(∀ t,(∀ j∈l,dstB os j t=false)→f' t=(upd f d (f' d)) t)→AgO os o f f':=by
          intro f' h' t ht
          have Bu:t≠d:=by
            rintro rfl
            have:=hlt i i hi (SL i hi (hq i G0) t (by simp [ho,hd]) i o ho ht)
            omega
          rw [h' t ?_,X6 _ _ Bu]
          intro j hj
          cases yJ:dstB os j t with
          | false=>rfl
          | true=>
            exfalso
            unfold dstB at yJ
            cases EG:(os[j]?).bind (·.dst) with
            | none=>simp [EG] at yJ
            | some d'=>
              rw [EG] at yJ
              have:=Y5 yJ
              subst this
              have zG:j < os.length:=by
                cases JH:os[j]? with
                | none=>simp [JH] at EG
                | some _=>exact (C2.1 JH).1
              have h1:=hlt i j hi (SL j zG (hq j (by simp [hj])) t EG i o ho ht)
              have:=IE.1 j hj
              omega
        have fin:∀ v,((Wn os.toArray n f o.guard∧Yi P (fr n f) w o v)∨(Wx os.toArray n f o.guard∧v=undef))→QR P os n w K l (upd f d v)→
            ∃ f',K f'∧(∀ t,(∀ j∈i::l,dstB os j t=false)→f' t=f t)∧∀ j∈i::l,QF P os n w f' j:=by
          intro v hv hr
          obtain ⟨f',hK,TG,iv⟩:=ih (fun j hj=>hq j (by simp [hj])) IE.2 hr
          have CK:f' d=v:=by rw [TG d NH,Oa]
          refine ⟨f',hK,fun t ht=>?_,fun j hj=>?_⟩
          · have h1:=ht i G0
            rw [TG t (fun j hj=>ht j (by simp [hj]))]
            unfold dstB at h1
            simp only [ho,y6,hd] at h1
            exact X6 _ _ (fun e=>by subst e; simp at h1)
          · rcases G3.1 hj with rfl | hj
            · have ha:=Ay f' (fun t ht=>by rw [TG t ht,CK])
              refine ⟨o,d,ho,hd,?_⟩
              have hn:nsel o=true:=by
                simp only [selOK,Q6] at hs
                exact hs o (Qf ho)
              rcases hv with ⟨h1,h2⟩ | ⟨h1,h2⟩
              · refine .inl ⟨ha.wn h1,?_⟩
                unfold Yi at*
                rw [← ha.exec hn,CK]
                exact h2
              · exact .inr ⟨ha.wx h1,by rw [CK,h2]⟩
            · exact iv j hj
        rcases h with ⟨h1,v,h2,h3⟩ | ⟨h1,h2⟩
        · exact fin v (.inl ⟨h1,h2⟩) h3
        · exact fin undef (.inr ⟨h1,rfl⟩) h2
theorem oD {f:Nat→Value} {w:World} {G:Nat→Oper→Value→World→Prop}:∀ {l:List Nat},LA P os n f w G l→∀ {e o},e∈l→os[e]?=some o→LS P os n f w o (G e o):=by
  intro l
  induction l with
  | nil=>intro _ e o h; cases h
  | cons j l ih=>
    intro ⟨h1,h2⟩ e o he ho
    rcases G3.1 he with rfl | he
    · simpa [ho] using h1
    · exact ih h2 he ho
structure DInv (P:Program) (os:List Oper) (tb lo:List Nat) (n:Nat) (Q:Exit→Act→World→Prop) (f0:Nat→Value) (S:Nat→Bool) (f:Nat→Value) (w:World) (m:Nat) (D:List Nat) (F:Nat→Value):Prop where
  clos:∀ (k:Nat) (o:Oper),os[k]?=some o→S k=true→∀ e∈o.after,Region.binds .any e=true→S e.on=true
  dn:∀ e,e∈D↔(memB lo e=true∧S e=true)
  ag:∀ k d,S k=true→(os[k]?).bind (·.dst)=some d→f d=F d
  nf:∀ t,(∀ k,S k=true→dstB os k t=false)→f t=f0 t
  nF:∀ t,(∀ k,k < os.length→(memB lo k=false∨k∈D)→dstB os k t=false)→F t=f0 t
  sat:∀ i,i < os.length→memB lo i=false→ready tb lo D i=true→forced tb D i=false→QF P os n w F i
  next:(m=0∧Q .normal (fr n F) w)∨∃ m',m=m'+1∧LA P os n F w (fun e o v w'=>DR P os tb lo n Q m' (e::D) (updO F o.dst v) w') (candL tb lo D)
  cnt:(lo.filter fun e=>!memB D e).length=m
theorem q9 {i t:Nat}:dstB os i t=true↔(os[i]?).bind (·.dst)=some t:=by
  unfold dstB
  cases h:(os[i]?).bind (·.dst) with
  | none=>simp
  | some d=>
    simp only [w6]
    constructor
    · intro h; exact (Y5 h).symm
    · rintro rfl; simp
theorem Me {i t:Nat} (h:(os[i]?).bind (·.dst)=some t):i < os.length:=by
  cases ho:os[i]? with
  | none=>simp [ho] at h
  | some _=>exact (C2.1 ho).1
theorem Ac (h:dsOK os=true) {i j t:Nat} (hi:(os[i]?).bind (·.dst)=some t) (hj:(os[j]?).bind (·.dst)=some t):i=j:=by
  have h3:=G8 (G8 h (Me hi)) (Me hj)
  rw [hi,hj] at h3
  simp at h3
  exact h3
structure Chk (os:List Oper) (tb lo:List Nat):Prop where
  ac:acyc os.toArray=true
  tbo:tbOK os tb=true
  rd:rdOK os tb lo=true
  ds:dsOK os=true
  sel:selOK os=true
  inc:incB lo=true
theorem chk (h:allOK os tb lo=true):Chk os tb lo:=by
  simp only [allOK,V4] at h
  exact ⟨h.1,h.2.1,h.2.2.1,h.2.2.2.1,h.2.2.2.2.1,h.2.2.2.2.2⟩
theorem oA:∀ {l:List Nat},incB l=true→l.Pairwise (· < ·):=by
  intro l
  induction l with
  | nil=>intro _; exact List.Pairwise.nil
  | cons a l ih=>
    intro h
    cases l with
    | nil=>simp
    | cons b r=>
      simp only [incB,V4] at h
      have h2:=ih h.2
      rw [z6]
      refine ⟨fun x hx=>?_,h2⟩
      have nE:a < b:=by simpa [L6] using h.1
      rcases G3.1 hx with rfl | hx
      · exact nE
      · rw [z6] at h2; have:=h2.1 x hx; omega
theorem fw (c:Chk os tb lo):∀ i k,i < os.length→(tb.getD i 0).testBit k=true→k < i:=by
  intro i
  induction i using Nat.strongRecOn with
  | _ i ih=>
    intro k hi hk
    have h1:=G8 c.tbo hi
    have qF:os[i]?=some os[i]:=by simp [hi]
    simp only [qF,V4] at h1
    obtain ⟨h1,h2⟩:=h1
    rw [Y5 h1] at hk
    rcases Zh hk with h | ⟨p,hp,h⟩
    · simp at h
    · have hlt:p < i:=by
        rw [Q6] at h2
        simpa [L6] using h2 p hp
      rcases h with rfl | h
      · exact hlt
      · have:=ih p hlt k n0 h; omega
theorem Yo (c:Chk os tb lo) {k i d:Nat} {o:Oper} (hk:(os[k]?).bind (·.dst)=some d) (ho:os[i]?=some o) (hr:rdsB os o d=true):
    (tb.getD i 0).testBit k=true∨(memB lo k=true∧((tb.getD k 0).testBit i=true∨i=k)):=by
  have h1:=G8 c.rd (Me hk)
  rw [hk] at h1
  have h2:=G8 h1 (C2.1 ho).1
  rw [ho] at h2
  simp only [hr,U4,xd,U5,V4] at h2
  rcases h2 with h2 | ⟨h2,h3⟩
  · exact .inl h2
  · refine .inr ⟨h2,?_⟩
    rcases h3 with h3 | h3
    · exact .inl h3
    · exact .inr (Y5 h3)
theorem ey (c:Chk os tb lo):∀ k,k < os.length→memB lo k=false→∀ d,(os[k]?).bind (·.dst)=some d→∀ i o,os[i]?=some o→rdsB os o d=true→(tb.getD i 0).testBit k=true:=by
  intro k _ hq d hk i o ho hr
  rcases Yo c hk ho hr with h | ⟨h,_⟩
  · exact h
  · rw [hq] at h; cases h
variable {f0:Nat→Value} {S:Nat→Bool} {f F:Nat→Value} {w:World} {m:Nat} {D:List Nat}
theorem DInv.agO (c:Chk os tb lo) (h:DInv P os tb lo n Q f0 S f w m D F) {i:Nat} (hi:i < os.length) (_hS:S i=false) (hp:∀ e∈(os[i]).after,Region.binds .any e=true→S e.on=true):AgO os os[i] F f:=by
  intro t ht
  have aG:os[i]?=some os[i]:=by simp [hi]
  by_cases hk:∃ k:Nat,(os[k]?).bind (·.dst)=some t
  · obtain ⟨k,hk⟩:=hk
    cases xF:S k with
    | true=>exact (h.ag k t xF hk).symm
    | false=>
      rcases Yo c hk aG ht with h1 | ⟨h1,_⟩
      · have:=Sr c.tbo h.clos hi hp h1
        rw [xF] at this; cases this
      · rw [h.nf t,h.nF t]
        · intro k' qK jE
          cases hb:dstB os k' t with
          | false=>rfl
          | true=>
            have:=Ac c.ds (q9.1 hb) hk
            subst this
            rcases jE with jE | jE
            · rw [h1] at jE; cases jE
            · have:=((h.dn k').1 jE).2; rw [xF] at this; cases this
        · intro k' qK
          cases hb:dstB os k' t with
          | false=>rfl
          | true=>
            have:=Ac c.ds (q9.1 hb) hk
            subst this
            rw [xF] at qK; cases qK
  · have hn:∀ k,dstB os k t=false:=fun k=>by
      cases hb:dstB os k t with
      | false=>rfl
      | true=>exact absurd ⟨k,q9.1 hb⟩ hk
    rw [h.nf t fun k _=>hn k,h.nF t fun k _ _=>hn k]
theorem DInv.ready (c:Chk os tb lo) (h:DInv P os tb lo n Q f0 S f w m D F) {i:Nat} (hi:i < os.length) (hp:∀ e∈(os[i]).after,Region.binds .any e=true→S e.on=true):Sx.ready tb lo D i=true:=by
  simp only [Sx.ready,Q6]
  intro e he
  cases hb:(tb.getD i 0).testBit e with
  | false=>rfl
  | true=>
    have h1:=Sr c.tbo h.clos hi hp hb
    simp only [U4,xd]
    exact E8.2 ((h.dn e).2 ⟨E8.2 he,h1⟩)
theorem DInv.unforced (c:Chk os tb lo) (h:DInv P os tb lo n Q f0 S f w m D F) {i:Nat} (hS:S i=false) (hl:∀ e∈lo,e < os.length):forced tb D i=false:=by
  cases hb:forced tb D i with
  | false=>rfl
  | true=>
    simp only [forced,Uf] at hb
    obtain ⟨e,he,hb⟩:=hb
    obtain ⟨h1,h2⟩:=(h.dn e).1 he
    have:=clo c.tbo h.clos e (hl e (E8.1 h1)) h2 i hb
    rw [hS] at this; cases this
theorem DInv.of (c:Chk os tb lo) (hd:DR P os tb lo n Q m D F w)
    (clos:∀ (k:Nat) (o:Oper),os[k]?=some o→S k=true→∀ e∈o.after,Region.binds .any e=true→S e.on=true)
    (dn:∀ e,e∈D↔(memB lo e=true∧S e=true))
    (ag:∀ k d,S k=true→(os[k]?).bind (·.dst)=some d→f d=F d)
    (nf:∀ t,(∀ k,S k=true→dstB os k t=false)→f t=f0 t)
    (nF:∀ t,(∀ k,k < os.length→(memB lo k=false∨k∈D)→dstB os k t=false)→F t=f0 t)
    (cnt:(lo.filter fun e=>!memB D e).length=m)
    (qL:∀ i,i < os.length→memB lo i=false→forced tb D i=false→fresh tb D i=true→S i=false):∃ F',DInv P os tb lo n Q f0 S f w m D F':=by
  have key:∀ K:(Nat→Value)→Prop,QR P os n w (fun f=>QS P os n w f (oldQ os.length tb lo D)∧K f) (newQ os.length tb lo D) F→
      ∃ F',K F'∧(∀ t,(∀ i∈newQ os.length tb lo D,dstB os i t=false)→F' t=F t)∧∀ i,i < os.length→memB lo i=false→Sx.ready tb lo D i=true→forced tb D i=false→QF P os n w F' i:=by
    intro K hQ
    obtain ⟨F',⟨hS,hK⟩,Ay,iv⟩:=aD c.sel c.ds (ey c) (fw c) (fun i hi=>by
      simp only [n7,V4,Yf] at hi; exact hi.2.1.1.1) (List.Pairwise.filter _ List.pairwise_lt_range) hQ
    refine ⟨F',hK,Ay,fun i hi h1 h2 h3=>?_⟩
    cases xJ:fresh tb D i with
    | true=>exact iv i (by simp [hi,h1,h2,h3,xJ])
    | false=>exact ZC hS (by simp [oldQ,hi,h1,h2,h3,xJ])
  have fin:∀ F',(∀ t,(∀ i∈newQ os.length tb lo D,dstB os i t=false)→F' t=F t)→(∀ i,i < os.length→memB lo i=false→Sx.ready tb lo D i=true→forced tb D i=false→QF P os n w F' i)→
      ((m=0∧Q .normal (fr n F') w)∨∃ m',m=m'+1∧LA P os n F' w (fun e o v w'=>DR P os tb lo n Q m' (e::D) (updO F' o.dst v) w') (candL tb lo D))→∃ F',DInv P os tb lo n Q f0 S f w m D F':=by
    intro F' Ay iv ky
    refine ⟨F',clos,dn,fun k d hk AE=>?_,nf,fun t ht=>?_,iv,ky,cnt⟩
    · rw [ag k d hk AE,Ay d]
      intro i hi
      cases hb:dstB os i d with
      | false=>rfl
      | true=>
        have:=Ac c.ds (q9.1 hb) AE
        subst this
        simp only [newQ,n7,m7,V4,Yf] at hi
        have:=qL i hi.1 hi.2.1.1.1 hi.2.1.2 hi.2.2
        rw [hk] at this; cases this
    · rw [Ay t,nF t ht]
      intro i hi
      simp only [newQ,n7,m7,V4,Yf] at hi
      exact ht i hi.1 (.inl hi.2.1.1.1)
  cases m with
  | zero=>
    obtain ⟨F',hK,Ay,iv⟩:=key (fun f=>Q .normal (fr n f) w) hd
    exact fin F' Ay iv (.inl ⟨rfl,hK⟩)
  | succ m=>
    obtain ⟨F',hK,Ay,iv⟩:=key (fun f=>LA P os n f w (fun e o v w'=>DR P os tb lo n Q m (e::D) (updO f o.dst v) w') (candL tb lo D)) hd
    exact fin F' Ay iv (.inr ⟨m,rfl,hK⟩)
theorem Wu {id:Nat} (tb lo:List Nat) (m:Nat) (hm:P.follows .mixedOrders=true) (hc:allOK os tb lo=true) (Nu:lo.all (fun k=>Nat.blt k os.length)=true) (Ev:Nat.beq lo.length m=true)
    (h:DR P os tb lo n Q m [] f {w with drawn:=w.drawn+1 }):(Code.region id os.toArray true).wp P Q (fr n f) w:=by
  have c:=chk hc
  have hl:∀ e∈lo,e < os.length:=fun e he=>by
    rw [Q6] at Nu
    simpa [L6] using Nu e he
  have rL:=Y5 Ev
  refine Xu hm c.ac (fun S a w=>∃ f' m D F,a=fr n f'∧DInv P os tb lo n Q f S f' w m D F) ?_ ?_ ?_
  · obtain ⟨F',hF⟩:=DInv.of (S:=fun _=>false) (f:=f) (f0:=f) c h (fun _ _ _ h=>by simp at h) (fun e=>by simp) (fun _ _ h=>by simp at h) (fun _ _=>rfl) (fun _ _=>rfl) ((S0 List.length (List.filter_eq_self.2 (fun _ _=>rfl))).trans rL) (fun _ _ _ _ _=>rfl)
    exact ⟨f,m,[],F',rfl,hF⟩
  · rintro i o S a w ho hS hp ⟨f',m,D,F,rfl,hI⟩
    have wE:os[i]?=some o:=by simpa using ho
    have hi:i < os.length:=(C2.1 wE).1
    have aM:os[i]=o:=by have:=(C2.1 wE).2; exact this
    have hH:∀ e∈(os[i]).after,Region.binds .any e=true→S e.on=true:=by rw [aM]; exact hp
    have Ay:=hI.agO c hi hS hH
    rw [aM] at Ay
    have hn:nsel o=true:=by
      have:=c.sel
      simp only [selOK,Q6] at this
      exact this o (Qf wE)
    have oI:=hI.ready c hi hH
    have oG:∀ (k:Nat) (o:Oper),os[k]?=some o→(k == i || S k)=true→∀ e∈o.after,Region.binds .any e=true→(e.on == i || S e.on)=true:=by
      intro k o' hk xF e he hb
      by_cases zy:k=i
      · subst zy
        rw [wE] at hk; cases hk
        rw [hp e he hb]; simp
      · have h1:S k=true:=by simpa [zy] using xF
        rw [hI.clos k o' hk h1 e he hb]; simp
    by_cases hq:memB lo i=true
    · have GF:memB D i=false:=by
        cases hb:memB D i with
        | false=>rfl
        | true=>have:=((hI.dn i).1 (E8.1 hb)).2; rw [hS] at this; cases this
      have aJ:i∈candL tb lo D:=by
        simp only [candL,n7,V4,Yf]
        exact ⟨E8.1 hq,GF,oI⟩
      rcases hI.next with ⟨cG,_⟩ | ⟨m',SD,LO⟩
      · exfalso
        have:=hI.cnt
        rw [cG,List.length_eq_zero_iff,tj] at this
        have:=this i (E8.1 hq)
        rw [GF] at this
        simp at this
      · subst SD
        have KO:=oD LO aJ wE
        have nextI:∀ v w',DR P os tb lo n Q m' (i::D) (updO F o.dst v) w'→∃ f'' m D F,(fr n f').put o.dst v=fr n f''∧DInv P os tb lo n Q f (fun j=>j == i || S j) f'' w' m D F:=by
          intro v w' SO
          have oL:(fr n f').put o.dst v=fr n (updO f' o.dst v):=by
            cases o.dst with
            | none=>exact zq _ _ _
            | some d=>exact Z9 _ _ _ _
          refine Exists.elim (DInv.of (S:=fun j=>j == i || S j) (f:=updO f' o.dst v) (f0:=f) c SO oG ?_ ?_ ?_ ?_ ?_ ?_) (fun F' pE=>⟨_,m',i::D,F',oL,pE⟩)
          · intro e
            rw [G3,hI.dn e]
            constructor
            · rintro (rfl | ⟨h1,h2⟩)
              · exact ⟨hq,G0⟩
              · exact ⟨h1,by simp [h2]⟩
            · rintro ⟨h1,h2⟩
              by_cases wM:e=i
              · exact .inl wM
              · exact .inr ⟨h1,by simpa [wM] using h2⟩
          · intro k d hk AE
            by_cases zy:k=i
            · subst zy
              rw [wE] at AE
              simp only [y6] at AE
              rw [AE]
              simp [updO,Oa]
            · have h1:S k=true:=by simpa [zy] using hk
              have h2:=hI.ag k d h1 AE
              cases KH:o.dst with
              | none=>exact h2
              | some d'=>
                have Bu:d≠d':=by
                  rintro rfl
                  exact zy (Ac c.ds AE (by rw [wE]; exact KH))
                simp only [updO]
                rw [X6 _ _ Bu,X6 _ _ Bu]; exact h2
          · intro t ht
            have h1:=ht i G0
            have h2:f' t=f t:=hI.nf t fun k hk=>ht k (by simp [hk])
            cases KH:o.dst with
            | none=>exact h2
            | some d'=>
              have Bu:t≠d':=by
                rintro rfl
                rw [q9.2 (by rw [wE]; exact KH)] at h1; cases h1
              simp only [updO]
              rw [X6 _ _ Bu]; exact h2
          · intro t ht
            have h1:=ht i hi (.inr G0)
            have h2:F t=f t:=hI.nF t fun k hk jE=>ht k hk (Or.imp (fun h=>h) (fun h=>Qc _ h) jE)
            cases KH:o.dst with
            | none=>exact h2
            | some d'=>
              have Bu:t≠d':=by
                rintro rfl
                rw [q9.2 (by rw [wE]; exact KH)] at h1; cases h1
              simp only [updO]
              rw [X6 _ _ Bu]; exact h2
          · have QG:=hI.cnt
            have IE:=oA c.inc
            have:∀ l:List Nat,l.Pairwise (· < ·)→i∈l→(l.filter fun e=>!memB D e).length=(l.filter fun e=>!memB (i::D) e).length+1:=by
              intro l
              induction l with
              | nil=>intro _ h; cases h
              | cons a l ih=>
                intro IE kv
                rw [z6] at IE
                by_cases XE:a=i
                · subst XE
                  have e1:(!memB D a)=true:=by rw [GF]; rfl
                  have e2:(!memB (a::D) a)=false:=by simp [memB]
                  rw [Tf (p:=fun e=>!memB D e) e1,Uc (p:=fun e=>!memB (a::D) e) (by rw [e2]; simp)]
                  rw [B4]
                  congr 2
                  apply List.filter_congr
                  intro x hx
                  have:x≠a:=by have:=IE.1 x hx; omega
                  simp [memB,Dc this]
                · have SD:i∈l:=by
                    rcases G3.1 kv with h | h
                    · exact absurd h.symm XE
                    · exact h
                  have e1:memB (i::D) a=memB D a:=by simp [memB,Dc XE]
                  have:=ih IE.2 SD
                  simp only [List.filter_cons,e1]
                  split
                  · simp only [B4]; omega
                  · exact this
            have:=this lo IE (E8.1 hq)
            omega
          · intro k hk fM iM rJ
            have zy:k≠i:=by rintro rfl; rw [hq] at fM; cases fM
            have h1:(k == i)=false:=by simpa using zy
            simp only [h1,xd]
            cases xF:S k with
            | false=>rfl
            | true=>
              have:=clo c.tbo hI.clos k hk xF i rJ
              rw [hS] at this; cases this
        unfold opSt
        rcases KO with ⟨hw,hx⟩ | ⟨hw,hx⟩
        · have gE:=Ay.wn hw
          rw [I0 gE.wanted]
          unfold Oper.wp
          rw [← Ay.exec hn]
          rcases hx with ⟨v,w',hr,hG⟩ | ⟨w',hr,hG⟩ | ⟨g,args,hr,hG⟩
          · rw [hr,Oper.upon_value]
            obtain ⟨f'',m,D,F,h1,h2⟩:=nextI v w' hG
            exact ⟨f'',m,D,F,h1,h2⟩
          · rw [hr,Oper.upon_skip]
            obtain ⟨f'',m,D,F,h1,h2⟩:=nextI _ w' hG
            exact ⟨f'',m,D,F,h1,h2⟩
          · rw [hr,Oper.upon_enter]
            refine hG.mono ?_
            rintro e w' ⟨v,rfl,hG⟩
            obtain ⟨f'',m,D,F,h1,h2⟩:=nextI v w' hG
            exact ⟨f'',m,D,F,h1,h2⟩
        · have gE:=Ay.wx hw
          rw [gE.wanted]
          simp only [D2,if_false]
          obtain ⟨f'',m,D,F,h1,h2⟩:=nextI _ w hx
          exact ⟨f'',m,D,F,h1,h2⟩
    · have WL:memB lo i=false:=by simpa using hq
      obtain ⟨o',d,h1,hd,h3⟩:=hI.sat i hi WL oI (hI.unforced c hS hl)
      rw [wE] at h1; cases h1
      have EK:(os[i]?).bind (·.dst)=some d:=by rw [wE]; exact hd
      have step:DInv P os tb lo n Q f (fun j=>j == i || S j) (upd f' d (F d)) w m D F:=by
        refine ⟨oG,fun e=>?_,fun k d' hk AE=>?_,fun t ht=>?_,hI.nF,hI.sat,hI.next,hI.cnt⟩
        · rw [hI.dn e]
          constructor
          · rintro ⟨h1,h2⟩; exact ⟨h1,by simp [h2]⟩
          · rintro ⟨h1,h2⟩
            have:e≠i:=by rintro rfl; rw [WL] at h1; cases h1
            exact ⟨h1,by simpa [this] using h2⟩
        · by_cases zy:k=i
          · subst zy
            rw [EK] at AE; cases AE
            rw [Oa]
          · have h1:S k=true:=by simpa [zy] using hk
            have Bu:d'≠d:=by rintro rfl; exact zy (Ac c.ds AE EK)
            rw [X6 _ _ Bu]; exact hI.ag k d' h1 AE
        · have h1:=ht i G0
          have Bu:t≠d:=by rintro rfl; rw [q9.2 EK] at h1; cases h1
          rw [X6 _ _ Bu]
          exact hI.nf t fun k hk=>ht k (by simp [hk])
      unfold opSt
      rcases h3 with ⟨hw,hy⟩ | ⟨hw,hy⟩
      · have gE:=Ay.wn hw
        rw [I0 gE.wanted]
        unfold Oper.wp
        unfold Yi at hy
        rw [← Ay.exec hn,hy,Oper.upon_value,hd,Z9]
        exact ⟨_,m,D,F,rfl,step⟩
      · have gE:=Ay.wx hw
        rw [gE.wanted]
        simp only [D2,if_false]
        rw [hd,Z9,← hy]
        exact ⟨_,m,D,F,rfl,step⟩
  · rintro S a w iv ⟨f',m,D,F,rfl,hI⟩
    have qG:∀ i,i < os.length→S i=true:=fun i hi=>iv i (by simpa using hi)
    rcases hI.next with ⟨_,hQ⟩ | ⟨m',SD,_⟩
    · have:f'=F:=by
        funext t
        by_cases hk:∃ k:Nat,(os[k]?).bind (·.dst)=some t
        · obtain ⟨k,hk⟩:=hk
          exact hI.ag k t (qG k (Me hk)) hk
        · have hn:∀ k,dstB os k t=false:=fun k=>by
            cases hb:dstB os k t with
            | false=>rfl
            | true=>exact absurd ⟨k,q9.1 hb⟩ hk
          rw [hI.nf t fun k _=>hn k,hI.nF t fun k _ _=>hn k]
      rw [this]; exact hQ
    · exfalso
      have:=hI.cnt
      rw [SD] at this
      have hz:(lo.filter fun e=>!memB D e)=[]:=by
        rw [tj]
        intro e he
        have:e∈D:=(hI.dn e).2 ⟨E8.2 he,qG e (hl e he)⟩
        simp [E8.2 this]
      rw [hz] at this
      simp at this
variable {l l1 l2 lc r:List Nat} {i d e:Nat} {o:Oper} {v:Value} {K:(Nat→Value)→Prop} {G:Nat→Oper→Value→World→Prop} {G1:Value→World→Prop}
theorem DRz (h1:newQ os.length tb lo D=l1) (h2:oldQ os.length tb lo D=l2) (h:QR P os n w (fun f=>QS P os n w f l2∧Q .normal (fr n f) w) l1 f):DR P os tb lo n Q 0 D f w:=by subst h1; subst h2; exact h
theorem DRn (h1:newQ os.length tb lo D=l1) (h2:oldQ os.length tb lo D=l2) (h3:candL tb lo D=lc) (h:QR P os n w (fun f=>QS P os n w f l2∧LA P os n f w (fun e o v w'=>DR P os tb lo n Q m (e::D) (updO f o.dst v) w') lc) l1 f):DR P os tb lo n Q (m+1) D f w:=by subst h1; subst h2; subst h3; exact h
theorem Ry (ho:os[i]?=some o) (hd:o.dst=some d) (hw:Wn os.toArray n f o.guard) (hy:Yi P (fr n f) w o v) (k:QR P os n w K r (upd f d v)):QR P os n w K (i::r) f:=by
  simp only [QR,ho,hd]; exact .inl ⟨hw,v,hy,k⟩
theorem Rx (ho:os[i]?=some o) (hd:o.dst=some d) (hw:Wx os.toArray n f o.guard) (k:QR P os n w K r (upd f d undef)):QR P os n w K (i::r) f:=by
  simp only [QR,ho,hd]; exact .inr ⟨hw,k⟩
theorem Sy (ho:os[i]?=some o) (hd:o.dst=some d) (hw:Wn os.toArray n f o.guard) (hy:Yi P (fr n f) w o v) (hv:f d=v) (k:QS P os n w f r):QS P os n w f (i::r):=by
  simp only [QS,ho,hd]; exact ⟨.inl ⟨hw,by rw [hv]; exact hy⟩,k⟩
theorem Sx_ (ho:os[i]?=some o) (hd:o.dst=some d) (hw:Wx os.toArray n f o.guard) (hv:f d=undef) (k:QS P os n w f r):QS P os n w f (i::r):=by
  simp only [QS,ho,hd]; exact ⟨.inr ⟨hw,hv⟩,k⟩
theorem Rn {K1:(Nat→Value)→Prop} {K2:(Nat→Value)→Prop} (h1:K1 f) (h2:K2 f):QR P os n w (fun f=>K1 f∧K2 f) [] f:=⟨h1,h2⟩
theorem QSn:QS P os n w f []:=trivial
theorem LAn:LA P os n f w G []:=trivial
theorem Lc (ho:os[e]?=some o) (h:LS P os n f w o (G e o)) (k:LA P os n f w G r):LA P os n f w G (e::r):=by
  simp only [LA,ho]; exact ⟨h,k⟩
theorem Ly (hw:Wn os.toArray n f o.guard) (hy:Yi P (fr n f) w o v) (k:G1 v w):LS P os n f w o G1:=.inl ⟨hw,.inl ⟨v,w,hy,k⟩⟩
theorem Lw {w':World} (hw:Wn os.toArray n f o.guard) (hy:(execOp (fr n f).eval o).run P w=.ok (.value v) w') (k:G1 v w'):LS P os n f w o G1:=.inl ⟨hw,.inl ⟨v,w',hy,k⟩⟩
theorem Ls {w':World} (hw:Wn os.toArray n f o.guard) (hy:(execOp (fr n f).eval o).run P w=.ok .skip w') (k:G1 undef w'):LS P os n f w o G1:=.inl ⟨hw,.inr (.inl ⟨w',hy,k⟩)⟩
theorem Lk {g:FuncId} {args:Array Value} {R:Ending→World→Prop} (hw:Wn os.toArray n f o.guard) (hy:(execOp (fr n f).eval o).run P w=.ok (.enter g args) w) (hc:Calls P g args w R) (k:∀ e w',R e w'→∃ v,e=.returned v∧G1 v w'):LS P os n f w o G1:=
  .inl ⟨hw,.inr (.inr ⟨g,args,hy,hc.mono k⟩)⟩
theorem Lx (hw:Wx os.toArray n f o.guard) (k:G1 undef w):LS P os n f w o G1:=.inr ⟨hw,k⟩
end
end Sx
