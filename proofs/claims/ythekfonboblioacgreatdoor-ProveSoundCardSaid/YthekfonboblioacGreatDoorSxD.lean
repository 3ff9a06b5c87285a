/- Regions that draw their order: an invariant that speaks of the operations already carried out serves every order. It holds over any program. -/
import Derived.Test.YthekfonboblioacGreatDoorSxC
import Derived.Orders
import Derived.KernelRfl
namespace Sx
open Go
theorem OC {α:Type} {p q:α→Bool}:∀ {l:List α},(∀ j∈l,q j=true→p j=true)→(∃ i∈l,p i=true∧q i=false)→l.countP q < l.countP p:=by
  intro l
  induction l with
  | nil=>rintro _ ⟨i,hi,_⟩; cases hi
  | cons x l ih=>
    intro h1 ⟨i,hi,hp,hq⟩
    have hle:l.countP q≤l.countP p:=List.countP_mono_left (fun j hj=>h1 j (Cd _ hj))
    rcases P3.1 hi with rfl | hi
    · simp [hp,hq]; omega
    · have:=ih (fun j hj=>h1 j (Cd _ hj)) ⟨i,hi,hp,hq⟩
      have hx:=h1 x (Ad ..)
      by_cases hqx:q x=true
      · simp [hqx,hx hqx]; exact this
      · simp only [List.countP_cons,hqx]
        by_cases hpx:p x=true<;>simp [hpx]<;>omega
def rdy (ops:Array Oper) (listed:Array Bool):List Nat:=(List.range ops.size).filter fun i=>
  !listed.getD i true && ((ops[i]?).map (·.after.all fun e=>!Region.binds .any e || listed.getD e.on false)).getD false
def lin (ops:Array Oper):Nat→Nat→Array Bool→List Nat
  | 0,_,_=>[]
  | fuel+1,t,listed=>
    match (rdy ops listed)[t % (rdy ops listed).length]? with
    | some i=>i::lin ops fuel (t / (rdy ops listed).length) (listed.setIfInBounds i true)
    | none=>[]
theorem BB (ops:Array Oper):∀ (fuel t:Nat) (listed:Array Bool) (acc:List Nat),
    Region.linearise.go .any ops fuel t listed acc=acc.reverse++lin ops fuel t listed:=by
  intro fuel
  induction fuel with
  | zero=>intro t listed acc; simp [Region.linearise.go,lin]
  | succ fuel ih=>
    intro t listed acc
    have e1:Region.linearise.go .any ops (fuel+1) t listed acc=match (rdy ops listed)[t % (rdy ops listed).length]? with
      | some i=>Region.linearise.go .any ops fuel (t / (rdy ops listed).length) (listed.setIfInBounds i true) (i::acc)
      | none=>acc.reverse:=rfl
    rw [e1]
    unfold lin
    cases h:(rdy ops listed)[t % (rdy ops listed).length]? with
    | none=>simp
    | some i=>simp only; rw [ih]; simp
theorem Hj {l:Array Bool} {j:Nat} (h:j < l.size) (d d':Bool):l.getD j d=l.getD j d':=by simp [Array.getD,h]
theorem Gj {l:Array Bool} {i:Nat} (h:i < l.size) (v d:Bool):(l.setIfInBounds i v).getD i d=v:=by simp [Array.getD,h]
theorem Ms (l:Array Bool) {i j:Nat} (h:i≠j) (v d:Bool):(l.setIfInBounds i v).getD j d=l.getD j d:=by
  by_cases hj:j < l.size
  · simp only [Array.getD,pE,hj,dite_true,Array.getInternal_eq_getElem]
    rw [qE (by simpa using hj),K0 h]
  · simp [Array.getD,hj]
def acyc (ops:Array Oper):Bool:=(List.range ops.size).all fun i=>((ops[i]?).map fun o=>o.after.all fun e=>!Region.binds .any e || Nat.blt e.on i).getD true
def opSt (P:Program) (ops:Array Oper) (o:Oper) (a:Act) (w:World) (K:Act→World→Prop) (Q:Exit→Act→World→Prop):Prop:=
  if Region.wanted o (yielded ops a.tmps) then o.wp P a w K Q else K (a.put o.dst undef) w
theorem qw {P:Program} {id:Nat} {ops:Array Oper} {Q:Exit→Act→World→Prop} {a:Act} {w:World}
    (hm:P.follows .mixedOrders=true) (hac:acyc ops=true) (I:(Nat→Bool)→Act→World→Prop)
    (h0:I (fun _=>false) a {w with drawn:=w.drawn+1 })
    (hs:∀ i o S a w,ops[i]?=some o→S i=false→(∀ e∈o.after,Region.binds .any e=true→S e.on=true)→I S a w→
      opSt P ops o a w (fun a' w'=>I (fun j=>j == i || S j) a' w') Q)
    (hf:∀ S a w,(∀ i,i < ops.size→S i=true)→I S a w→Q .normal a w):(Code.region id ops true).wp P Q a w:=by
  refine wp_region_draw fun t=>?_
  have key:∀ (fuel t:Nat) (listed:Array Bool) (S:Nat→Bool) (a:Act) (w:World),listed.size=ops.size→(∀ j,S j=listed.getD j false)→
      (List.range ops.size).countP (fun j=>!listed.getD j true)≤fuel→I S a w→wpOps P ops Q (lin ops fuel t listed) a w:=by
    intro fuel
    induction fuel with
    | zero=>
      intro t listed S a w hsz hS hc hI
      simp only [lin,wpOps]
      refine hf S a w (fun i hi=>?_) hI
      have h0:(List.range ops.size).countP (fun j=>!listed.getD j true)=0:=A0
      rw [List.countP_eq_zero] at h0
      have:=h0 i (M6.2 hi)
      rw [hS,Hj A0 false true]
      cases h:listed.getD i true
      · rw [h] at this; exact absurd rfl this
      · rfl
    | succ fuel ih=>
      intro t listed S a w hsz hS hc hI
      unfold lin
      split
      · rename_i i hi
        have hmem:i∈rdy ops listed:=Qk hi
        simp only [rdy,Ac,M6,V3] at hmem
        obtain ⟨hlt,hun,haft⟩:=hmem
        have hoi:ops[i]?=some ops[i]:=by simp [hlt]
        simp only [wpOps,hoi]
        have hSi:S i=false:=by
          rw [hS,Hj A0 false true]
          cases h:listed.getD i true
          · rfl
          · rw [h] at hun; cases hun
        have haft':∀ e∈(ops[i]).after,Region.binds .any e=true→S e.on=true:=by
          intro e he hb
          simp only [hoi,wk,xk,Zu] at haft
          have:=haft e he
          rw [hb] at this
          rw [hS]
          simpa only [W7,Ue] using this
        have hst:=hs i ops[i] S a w hoi hSi haft' hI
        have hS':∀ j,(j == i || S j)=(listed.setIfInBounds i true).getD j false:=by
          intro j
          by_cases hji:j=i
          · subst hji; rw [Gj A0]; simp
          · have h1:(j == i)=false:=by simpa using hji
            rw [h1,Ue,hS,Ms _ (fun e=>hji e.symm)]
        have hc':(List.range ops.size).countP (fun j=>!(listed.setIfInBounds i true).getD j true)≤fuel:=by
          have:(List.range ops.size).countP (fun j=>!(listed.setIfInBounds i true).getD j true) < (List.range ops.size).countP (fun j=>!listed.getD j true):=by
            refine OC ?_ ⟨i,M6.2 hlt,hun,?_⟩
            · intro j hj hq
              rw [M6] at hj
              by_cases hji:j=i
              · subst hji; rw [Gj A0] at hq; cases hq
              · rwa [Ms _ (fun e=>hji e.symm)] at hq
            · show (!(listed.setIfInBounds i true).getD i true)=false
              rw [Gj A0]; rfl
          omega
        have rec_:=fun a' w' hI'=>ih (t / (rdy ops listed).length) (listed.setIfInBounds i true) (fun j=>j == i || S j) a' w' (by simpa using hsz) hS' hc' hI'
        unfold opSt at hst
        by_cases hw:Region.wanted ops[i] (yielded ops a.tmps)=true
        · rw [M0 hw] at hst ⊢
          refine .inl ?_
          unfold Oper.wp at hst ⊢
          generalize (execOp a.eval ops[i]).run P w=r at*
          revert hst
          cases r with
          | ok x w'=>
            cases x<;>simp only [Oper.upon]<;>intro hst<;>first
              | exact rec_ _ _ hst
              | exact hst
              | (refine hst.mono ?_
                 intro e w'' h
                 cases e<;>first | exact rec_ _ _ h | exact h)
              | (refine hst.mono ?_
                 intro v w'' h
                 exact rec_ _ _ h)
          | halt x w'=>cases x<;>simp only [Oper.upon]<;>intro hst<;>exact hst
        · rw [K0 hw] at hst ⊢
          exact rec_ _ _ hst
      · rename_i hnone
        have hemp:rdy ops listed=[]:=by
          rw [List.getElem?_eq_none_iff] at hnone
          by_cases he:(rdy ops listed).length=0
          · exact U6 he
          · have:=ub t (zk he); omega
        simp only [wpOps]
        refine hf S a w ?_ hI
        intro i
        induction i using Nat.strongRecOn with
        | _ i ihi=>
          intro hi
          cases hSi:S i with
          | true=>rfl
          | false=>
            exfalso
            have hoi:ops[i]?=some ops[i]:=by simp [hi]
            have hun:listed.getD i true=false:=by
              rw [Hj A0 true false,← hS,hSi]
            have:i∈rdy ops listed:=by
              simp only [rdy,Ac,M6,V3]
              refine ⟨hi,by rw [hun]; rfl,?_⟩
              simp only [hoi,wk,xk,Zu]
              intro e he
              cases hb:Region.binds .any e with
              | false=>rfl
              | true=>
                simp only [acyc,E7,M6] at hac
                have ha:=hac i hi
                simp only [hoi,wk,xk,Zu] at ha
                have ha2:=ha e he
                rw [hb] at ha2
                have hlt:e.on < i:=by simpa [S7] using ha2
                have:=ihi e.on hlt A0
                rw [hS] at this
                rw [this]
                rfl
            rw [hemp] at this
            cases this
  have hsch:Region.schedule (P.follows .mixedOrders) ops t=lin ops ops.size t (Array.replicate ops.size false):=by
    simp only [Region.schedule,hm,Bool.true_or,if_true,Region.linearise]
    rw [BB]
    simp
  rw [hsch]
  refine key _ _ _ (fun _=>false) _ _ H0 (fun j=>by by_cases hj:j < ops.size<;>simp [Array.getD,hj]) ?_ h0
  refine N9 (List.countP_le_length ..) H0
def prs (o:Oper):List Nat:=o.after.toList.filterMap fun e=>bif Region.binds .any e then some e.on else none
def mk1 (tb:List Nat) (o:Oper):Nat:=(prs o).foldl (fun s p=>s ||| 2 ^ p ||| tb.getD p 0) 0
def tbOK (os:List Oper) (tb:List Nat):Bool:=(List.range os.length).all fun k=>match os[k]? with
  | some o=>Nat.beq (tb.getD k 0) (mk1 tb o) && (prs o).all (fun p=>Nat.blt p k)
  | none=>true
def rdsB (os:List Oper) (o:Oper) (d:Nat):Bool:=(o.looksAt os.toArray).any (Nat.beq d)
def rdOK (os:List Oper) (tb lo:List Nat):Bool:=(List.range os.length).all fun k=>match (os[k]?).bind (·.dst) with
  | none=>true
  | some d=>(List.range os.length).all fun i=>match os[i]? with
    | none=>true
    | some o=>!rdsB os o d || (tb.getD i 0).testBit k || (lo.any (Nat.beq k) && ((tb.getD k 0).testBit i || Nat.beq i k))
def dsOK (os:List Oper):Bool:=(List.range os.length).all fun i=>(List.range os.length).all fun j=>Nat.beq i j || (match (os[i]?).bind (·.dst),(os[j]?).bind (·.dst) with | some a,some b=>!Nat.beq a b | _,_=>true)
def nsel (o:Oper):Bool:=match o.op with | .select ..=>false | _=>true
def selOK (os:List Oper):Bool:=os.all nsel
def incB:List Nat→Bool | a::b::r=>Nat.blt a b && incB (b::r) | _=>true
def allOK (os:List Oper) (tb lo:List Nat):Bool:=acyc os.toArray && (tbOK os tb && (rdOK os tb lo && (dsOK os && (selOK os && incB lo))))
def memB (l:List Nat) (k:Nat):Bool:=l.any (Nat.beq k)
def ready (tb lo D:List Nat) (i:Nat):Bool:=lo.all fun e=>!(tb.getD i 0).testBit e || memB D e
def forced (tb D:List Nat) (i:Nat):Bool:=D.any fun e=>(tb.getD e 0).testBit i
def fresh (tb D:List Nat) (i:Nat):Bool:=match D with | []=>true | e::_=>(tb.getD i 0).testBit e
def newQ (n:Nat) (tb lo D:List Nat):List Nat:=(List.range n).filter fun i=>!memB lo i && ready tb lo D i && !forced tb D i && fresh tb D i
def oldQ (n:Nat) (tb lo D:List Nat):List Nat:=(List.range n).filter fun i=>!memB lo i && ready tb lo D i && !forced tb D i && !fresh tb D i
def candL (tb lo D:List Nat):List Nat:=lo.filter fun e=>!memB D e && ready tb lo D e
def updO (f:Nat→Value) (d:Option Nat) (v:Value):Nat→Value:=match d with | some d=>upd f d v | none=>f
def QR (P:Program) (os:List Oper) (n:Nat) (w:World) (K:(Nat→Value)→Prop):List Nat→(Nat→Value)→Prop
  | [],f=>K f
  | i::r,f=>match os[i]? with
    | none=>False
    | some o=>match o.dst with
      | none=>False
      | some d=>(Wn os.toArray n f o.guard∧∃ v,Yi P (fr n f) w o v∧QR P os n w K r (upd f d v))∨(Wx os.toArray n f o.guard∧QR P os n w K r (upd f d undef))
def QS (P:Program) (os:List Oper) (n:Nat) (w:World) (f:Nat→Value):List Nat→Prop
  | []=>True
  | i::r=>(match os[i]? with
    | none=>False
    | some o=>match o.dst with
      | none=>False
      | some d=>(Wn os.toArray n f o.guard∧Yi P (fr n f) w o (f d))∨(Wx os.toArray n f o.guard∧f d=undef))∧QS P os n w f r
def LS (P:Program) (os:List Oper) (n:Nat) (f:Nat→Value) (w:World) (o:Oper) (G:Value→World→Prop):Prop:=
  (Wn os.toArray n f o.guard∧((∃ v w',(execOp (fr n f).eval o).run P w=.ok (.value v) w'∧G v w')∨(∃ w',(execOp (fr n f).eval o).run P w=.ok .skip w'∧G undef w')∨
    (∃ g args,(execOp (fr n f).eval o).run P w=.ok (.enter g args) w∧Calls P g args w fun e w'=>∃ v,e=.returned v∧G v w')))∨(Wx os.toArray n f o.guard∧G undef w)
def LA (P:Program) (os:List Oper) (n:Nat) (f:Nat→Value) (w:World) (G:Nat→Oper→Value→World→Prop):List Nat→Prop
  | []=>True
  | e::r=>(match os[e]? with | none=>False | some o=>LS P os n f w o (G e o))∧LA P os n f w G r
def DR (P:Program) (os:List Oper) (tb lo:List Nat) (n:Nat) (Q:Exit→Act→World→Prop):Nat→List Nat→(Nat→Value)→World→Prop
  | 0,D,f,w=>QR P os n w (fun f=>QS P os n w f (oldQ os.length tb lo D)∧Q .normal (fr n f) w) (newQ os.length tb lo D) f
  | m+1,D,f,w=>QR P os n w (fun f=>QS P os n w f (oldQ os.length tb lo D)∧LA P os n f w (fun e o v w'=>DR P os tb lo n Q m (e::D) (updO f o.dst v) w') (candL tb lo D)) (newQ os.length tb lo D) f
theorem Ka {n:Nat} {p:Nat→Bool} (h:(List.range n).all p=true) {k:Nat} (hk:k < n):p k=true:=by
  rw [E7] at h; exact h k (M6.2 hk)
theorem Fa {l:List Nat} {k:Nat}:memB l k=true↔k∈l:=by
  simp only [memB,jh]
  constructor
  · rintro ⟨x,hx,hb⟩; have:=S6 hb; subst this; exact hx
  · intro h; exact ⟨k,h,H0⟩
theorem Lj {tb:List Nat}:∀ {l:List Nat} {s j:Nat},(l.foldl (fun s p=>s ||| 2 ^ p ||| tb.getD p 0) s).testBit j=true→s.testBit j=true∨∃ p,p∈l∧(p=j∨(tb.getD p 0).testBit j=true):=by
  intro l
  induction l with
  | nil=>intro s j h; exact .inl h
  | cons p l ih=>
    intro s j h
    rw [List.foldl_cons] at h
    rcases ih h with h | ⟨q,hq,h⟩
    · rw [Ug,Ug,H5,H5] at h
      rcases h with (h | h) | h
      · exact .inl h
      · rw [Nat.testBit_two_pow] at h
        exact .inr ⟨p,H0,.inl (by simpa using h)⟩
      · exact .inr ⟨p,H0,.inr h⟩
    · exact .inr ⟨q,by simp [hq],h⟩
section
variable {P:Program} {os:List Oper} {tb lo:List Nat} {n:Nat} {Q:Exit→Act→World→Prop}
theorem clo (ht:tbOK os tb=true) {S:Nat→Bool} (hS:∀ (k:Nat) (o:Oper),os[k]?=some o→S k=true→∀ e∈o.after,Region.binds .any e=true→S e.on=true):
    ∀ k,k < os.length→S k=true→∀ j,(tb.getD k 0).testBit j=true→S j=true:=by
  intro k
  induction k using Nat.strongRecOn with
  | _ k ih=>
    intro hk hSk j hj
    have h1:=Ka ht hk
    have hok:os[k]?=some os[k]:=by simp [hk]
    simp only [hok,V3] at h1
    obtain ⟨h1,h2⟩:=h1
    rw [S6 h1] at hj
    rcases Lj hj with h | ⟨p,hp,h⟩
    · simp at h
    · have hpS:S p=true:=by
        simp only [prs,Hu] at hp
        obtain ⟨e,he,hb⟩:=hp
        cases hbb:Region.binds .any e with
        | false=>simp [hbb] at hb
        | true=>
          simp [hbb] at hb
          subst hb
          exact hS k _ hok hSk e (Array.mem_toList_iff.1 he) hbb
      rcases h with rfl | h
      · exact hpS
      · have hlt:p < k:=by
          rw [E7] at h2
          simpa [S7] using h2 p hp
        exact ih p hlt A0 hpS j h
theorem Rt (ht:tbOK os tb=true) {S:Nat→Bool} (hS:∀ (k:Nat) (o:Oper),os[k]?=some o→S k=true→∀ e∈o.after,Region.binds .any e=true→S e.on=true) {i:Nat} (hi:i < os.length)
    (hp:∀ e∈(os[i]).after,Region.binds .any e=true→S e.on=true) {j:Nat} (hj:(tb.getD i 0).testBit j=true):S j=true:=by
  have h1:=Ka ht hi
  have hok:os[i]?=some os[i]:=by simp [hi]
  simp only [hok,V3] at h1
  obtain ⟨h1,h2⟩:=h1
  rw [S6 h1] at hj
  rcases Lj hj with h | ⟨p,hp',h⟩
  · simp at h
  · have hlt:p < i:=by
      rw [E7] at h2
      simpa [S7] using h2 p hp'
    have hpS:S p=true:=by
      simp only [prs,Hu] at hp'
      obtain ⟨e,he,hb⟩:=hp'
      cases hbb:Region.binds .any e with
      | false=>simp [hbb] at hb
      | true=>
        simp [hbb] at hb
        subst hb
        exact hp e (Array.mem_toList_iff.1 he) hbb
    rcases h with rfl | h
    · exact hpS
    · exact clo ht hS p A0 hpS j h
def AgO (os:List Oper) (o:Oper) (f f':Nat→Value):Prop:=∀ t,rdsB os o t=true→f t=f' t
theorem AgO.eval {o:Oper} {f f':Nat→Value} (h:AgO os o f f'):∀ x∈o.op.operands,(fr n f).eval x=(fr n f').eval x:=by
  intro x hx
  cases x with
  | tmp t=>
    unfold Act.eval
    simp only
    by_cases ht:t < n
    · rw [te _ _ _ ht,te _ _ _ ht]
      refine h t ?_
      simp only [rdsB,jh]
      exact ⟨t,List.mem_append_left _ (Hu.2 ⟨.tmp t,by simpa using hx,rfl⟩),H0⟩
    · simp [fr,Array.getD,ht]
  | const v=>rfl
  | global g=>rfl
  | func f=>rfl
theorem AgO.exec {o:Oper} {f f':Nat→Value} (h:AgO os o f f') (hs:nsel o=true):execOp (fr n f).eval o=execOp (fr n f').eval o:=
  execOp_congr o (fun cs b e=>by simp [nsel,e] at hs) h.eval
theorem AgO.wn {o:Oper} {f f':Nat→Value} (h:AgO os o f f') (hw:Wn os.toArray n f o.guard):Wn os.toArray n f' o.guard:=by
  cases hg:o.guard with
  | none=>trivial
  | some jb=>
    obtain ⟨j,b⟩:=jb
    rw [hg] at hw
    obtain ⟨d,h1,h2,h3⟩:=hw
    refine ⟨d,h1,h2,?_⟩
    rw [← h d ?_]; exact h3
    simp only [rdsB,jh]
    refine ⟨d,?_,H0⟩
    simp only [List.getElem?_toArray] at h1
    simp [Oper.looksAt,hg,h1]
theorem AgO.wx {o:Oper} {f f':Nat→Value} (h:AgO os o f f') (hw:Wx os.toArray n f o.guard):Wx os.toArray n f' o.guard:=by
  cases hg:o.guard with
  | none=>rw [hg] at hw; exact hw
  | some jb=>
    obtain ⟨j,b⟩:=jb
    rw [hg] at hw
    obtain ⟨d,h1,h2,h3⟩:=hw
    refine ⟨d,h1,h2,?_⟩
    rw [← h d ?_]; exact h3
    simp only [rdsB,jh]
    refine ⟨d,?_,H0⟩
    simp only [List.getElem?_toArray] at h1
    simp [Oper.looksAt,hg,h1]
theorem AgO.symm {o:Oper} {f f':Nat→Value} (h:AgO os o f f'):AgO os o f' f:=fun t ht=>(h t ht).symm
def QF (P:Program) (os:List Oper) (n:Nat) (w:World) (f:Nat→Value) (i:Nat):Prop:=∃ o d,os[i]?=some o∧o.dst=some d∧((Wn os.toArray n f o.guard∧Yi P (fr n f) w o (f d))∨(Wx os.toArray n f o.guard∧f d=undef))
theorem xD {w:World} {f:Nat→Value}:∀ {l:List Nat},QS P os n w f l→∀ {i},i∈l→QF P os n w f i:=by
  intro l
  induction l with
  | nil=>intro _ i h; cases h
  | cons j l ih=>
    intro ⟨h1,h2⟩ i hi
    rcases P3.1 hi with rfl | hi
    · cases ho:os[i]? with
      | none=>simp [ho] at h1
      | some o=>
        cases hd:o.dst with
        | none=>simp [ho,hd] at h1
        | some d=>simp only [ho,hd] at h1; exact ⟨o,d,ho,hd,h1⟩
    · exact ih h2 hi
def dstB (os:List Oper) (i t:Nat):Bool:=match (os[i]?).bind (·.dst) with | some d=>Nat.beq t d | none=>false
theorem yD (hs:selOK os=true) (hds:dsOK os=true) (hrd:∀ k,k < os.length→memB lo k=false→∀ d,(os[k]?).bind (·.dst)=some d→∀ i o,os[i]?=some o→rdsB os o d=true→(tb.getD i 0).testBit k=true)
    (hlt:∀ i k,i < os.length→(tb.getD i 0).testBit k=true→k < i) {w:World} {K:(Nat→Value)→Prop}:∀ {l:List Nat} {f:Nat→Value},(∀ i∈l,memB lo i=false)→l.Pairwise (· < ·)→QR P os n w K l f→
    ∃ f',K f'∧(∀ t,(∀ i∈l,dstB os i t=false)→f' t=f t)∧∀ i∈l,QF P os n w f' i:=by
  intro l
  induction l with
  | nil=>intro f _ _ h; exact ⟨f,h,fun _ _=>rfl,fun i hi=>by cases hi⟩
  | cons i l ih=>
    intro f hq hpw h
    unfold QR at h
    cases ho:os[i]? with
    | none=>simp [ho] at h
    | some o=>
      cases hd:o.dst with
      | none=>simp [ho,hd] at h
      | some d=>
        simp only [ho,hd] at h
        have hi:i < os.length:=(S2.1 ho).1
        rw [Fe] at hpw
        have hnd:∀ j∈l,dstB os j d=false:=by
          intro j hj
          unfold dstB
          cases hdj:(os[j]?).bind (·.dst) with
          | none=>rfl
          | some d'=>
            have hjl:j < os.length:=by
              cases hoj:os[j]? with
              | none=>simp [hoj] at hdj
              | some _=>exact (S2.1 hoj).1
            have h3:=Ka (Ka hds hi) hjl
            rw [ho,hdj] at h3
            simp only [ru,hd,H5] at h3
            rcases h3 with h3 | h3
            · have:=S6 h3; have:=hpw.1 j hj; omega
            · simpa using h3
        have hag:∀ f':Nat→Value,(∀ t,(∀ j∈l,dstB os j t=false)→f' t=(upd f d (f' d)) t)→AgO os o f f':=by
          intro f' h' t ht
          have hne:t≠d:=by
            rintro rfl
            have:=hlt i i hi (hrd i hi (hq i H0) t (by simp [ho,hd]) i o ho ht)
            omega
          rw [h' t ?_,X7 _ _ hne]
          intro j hj
          cases hdt:dstB os j t with
          | false=>rfl
          | true=>
            exfalso
            unfold dstB at hdt
            cases hdj:(os[j]?).bind (·.dst) with
            | none=>simp [hdj] at hdt
            | some d'=>
              rw [hdj] at hdt
              have:=S6 hdt
              subst this
              have hjl:j < os.length:=by
                cases hoj:os[j]? with
                | none=>simp [hoj] at hdj
                | some _=>exact (S2.1 hoj).1
              have h1:=hlt i j hi (hrd j hjl (hq j (by simp [hj])) t hdj i o ho ht)
              have:=hpw.1 j hj
              omega
        have fin:∀ v,((Wn os.toArray n f o.guard∧Yi P (fr n f) w o v)∨(Wx os.toArray n f o.guard∧v=undef))→QR P os n w K l (upd f d v)→
            ∃ f',K f'∧(∀ t,(∀ j∈i::l,dstB os j t=false)→f' t=f t)∧∀ j∈i::l,QF P os n w f' j:=by
          intro v hv hr
          obtain ⟨f',hK,hag',hall⟩:=ih (fun j hj=>hq j (by simp [hj])) hpw.2 hr
          have hfd:f' d=v:=by rw [hag' d hnd,Kc]
          refine ⟨f',hK,fun t ht=>?_,fun j hj=>?_⟩
          · have h1:=ht i H0
            rw [hag' t (fun j hj=>ht j (by simp [hj]))]
            unfold dstB at h1
            simp only [ho,ru,hd] at h1
            exact X7 _ _ (fun e=>by subst e; simp at h1)
          · rcases P3.1 hj with rfl | hj
            · have ha:=hag f' (fun t ht=>by rw [hag' t ht,hfd])
              refine ⟨o,d,ho,hd,?_⟩
              have hn:nsel o=true:=by
                simp only [selOK,E7] at hs
                exact hs o (Qk ho)
              rcases hv with ⟨h1,h2⟩ | ⟨h1,h2⟩
              · refine .inl ⟨ha.wn h1,?_⟩
                unfold Yi at*
                rw [← ha.exec hn,hfd]
                exact h2
              · exact .inr ⟨ha.wx h1,by rw [hfd,h2]⟩
            · exact hall j hj
        rcases h with ⟨h1,v,h2,h3⟩ | ⟨h1,h2⟩
        · exact fin v (.inl ⟨h1,h2⟩) h3
        · exact fin undef (.inr ⟨h1,rfl⟩) h2
theorem ND {f:Nat→Value} {w:World} {G:Nat→Oper→Value→World→Prop}:∀ {l:List Nat},LA P os n f w G l→∀ {e o},e∈l→os[e]?=some o→LS P os n f w o (G e o):=by
  intro l
  induction l with
  | nil=>intro _ e o h; cases h
  | cons j l ih=>
    intro ⟨h1,h2⟩ e o he ho
    rcases P3.1 he with rfl | he
    · simpa [ho] using h1
    · exact ih h2 he ho
structure DInv (P:Program) (os:List Oper) (tb lo:List Nat) (n:Nat) (Q:Exit→Act→World→Prop) (f0:Nat→Value) (S:Nat→Bool) (f:Nat→Value) (w:World) (m:Nat) (D:List Nat) (F:Nat→Value):Prop where
  clos:∀ (k:Nat) (o:Oper),os[k]?=some o→S k=true→∀ e∈o.after,Region.binds .any e=true→S e.on=true
  dn:∀ e,e∈D↔(memB lo e=true∧S e=true)
  ag:∀ k d,S k=true→(os[k]?).bind (·.dst)=some d→f d=F d
  nf:∀ t,(∀ k,S k=true→dstB os k t=false)→f t=f0 t
  nF:∀ t,(∀ k,k < os.length→(memB lo k=false∨k∈D)→dstB os k t=false)→F t=f0 t
  sat:∀ i,i < os.length→memB lo i=false→ready tb lo D i=true→forced tb D i=false→QF P os n w F i
  next:(m=0∧Q .normal (fr n F) w)∨∃ m',m=m'+1∧LA P os n F w (fun e o v w'=>DR P os tb lo n Q m' (e::D) (updO F o.dst v) w') (candL tb lo D)
  cnt:(lo.filter fun e=>!memB D e).length=m
theorem nb {i t:Nat}:dstB os i t=true↔(os[i]?).bind (·.dst)=some t:=by
  unfold dstB
  cases h:(os[i]?).bind (·.dst) with
  | none=>simp
  | some d=>
    simp only [Na]
    constructor
    · intro h; exact (S6 h).symm
    · rintro rfl; simp
theorem ig {i t:Nat} (h:(os[i]?).bind (·.dst)=some t):i < os.length:=by
  cases ho:os[i]? with
  | none=>simp [ho] at h
  | some _=>exact (S2.1 ho).1
theorem ve (h:dsOK os=true) {i j t:Nat} (hi:(os[i]?).bind (·.dst)=some t) (hj:(os[j]?).bind (·.dst)=some t):i=j:=by
  have h3:=Ka (Ka h (ig hi)) (ig hj)
  rw [hi,hj] at h3
  simp at h3
  exact h3
structure Chk (os:List Oper) (tb lo:List Nat):Prop where
  ac:acyc os.toArray=true
  tbo:tbOK os tb=true
  rd:rdOK os tb lo=true
  ds:dsOK os=true
  sel:selOK os=true
  inc:incB lo=true
theorem chk (h:allOK os tb lo=true):Chk os tb lo:=by
  simp only [allOK,V3] at h
  exact ⟨h.1,h.2.1,h.2.2.1,h.2.2.2.1,h.2.2.2.2.1,h.2.2.2.2.2⟩
theorem kB:∀ {l:List Nat},incB l=true→l.Pairwise (· < ·):=by
  intro l
  induction l with
  | nil=>intro _; exact List.Pairwise.nil
  | cons a l ih=>
    intro h
    cases l with
    | nil=>simp
    | cons b r=>
      simp only [incB,V3] at h
      have h2:=ih h.2
      rw [Fe]
      refine ⟨fun x hx=>?_,h2⟩
      have hab:a < b:=by simpa [S7] using h.1
      rcases P3.1 hx with rfl | hx
      · exact hab
      · rw [Fe] at h2; have:=h2.1 x hx; omega
theorem Tw (c:Chk os tb lo):∀ i k,i < os.length→(tb.getD i 0).testBit k=true→k < i:=by
  intro i
  induction i using Nat.strongRecOn with
  | _ i ih=>
    intro k hi hk
    have h1:=Ka c.tbo hi
    have hok:os[i]?=some os[i]:=by simp [hi]
    simp only [hok,V3] at h1
    obtain ⟨h1,h2⟩:=h1
    rw [S6 h1] at hk
    rcases Lj hk with h | ⟨p,hp,h⟩
    · simp at h
    · have hlt:p < i:=by
        rw [E7] at h2
        simpa [S7] using h2 p hp
      rcases h with rfl | h
      · exact hlt
      · have:=ih p hlt k A0 h; omega
theorem dr (c:Chk os tb lo) {k i d:Nat} {o:Oper} (hk:(os[k]?).bind (·.dst)=some d) (ho:os[i]?=some o) (hr:rdsB os o d=true):
    (tb.getD i 0).testBit k=true∨(memB lo k=true∧((tb.getD k 0).testBit i=true∨i=k)):=by
  have h1:=Ka c.rd (ig hk)
  rw [hk] at h1
  have h2:=Ka h1 (S2.1 ho).1
  rw [ho] at h2
  simp only [hr,W7,Ue,H5,V3] at h2
  rcases h2 with h2 | ⟨h2,h3⟩
  · exact .inl h2
  · refine .inr ⟨h2,?_⟩
    rcases h3 with h3 | h3
    · exact .inl h3
    · exact .inr (S6 h3)
theorem kz (c:Chk os tb lo):∀ k,k < os.length→memB lo k=false→∀ d,(os[k]?).bind (·.dst)=some d→∀ i o,os[i]?=some o→rdsB os o d=true→(tb.getD i 0).testBit k=true:=by
  intro k _ hq d hk i o ho hr
  rcases dr c hk ho hr with h | ⟨h,_⟩
  · exact h
  · rw [hq] at h; cases h
variable {f0:Nat→Value} {S:Nat→Bool} {f F:Nat→Value} {w:World} {m:Nat} {D:List Nat}
theorem DInv.agO (c:Chk os tb lo) (h:DInv P os tb lo n Q f0 S f w m D F) {i:Nat} (hi:i < os.length) (_hS:S i=false) (hp:∀ e∈(os[i]).after,Region.binds .any e=true→S e.on=true):AgO os os[i] F f:=by
  intro t ht
  have hoi:os[i]?=some os[i]:=by simp [hi]
  by_cases hk:∃ k:Nat,(os[k]?).bind (·.dst)=some t
  · obtain ⟨k,hk⟩:=hk
    cases hSk:S k with
    | true=>exact (h.ag k t hSk hk).symm
    | false=>
      rcases dr c hk hoi ht with h1 | ⟨h1,_⟩
      · have:=Rt c.tbo h.clos hi hp h1
        rw [hSk] at this; cases this
      · rw [h.nf t,h.nF t]
        · intro k' hk' hor
          cases hb:dstB os k' t with
          | false=>rfl
          | true=>
            have:=ve c.ds (nb.1 hb) hk
            subst this
            rcases hor with hor | hor
            · rw [h1] at hor; cases hor
            · have:=((h.dn k').1 hor).2; rw [hSk] at this; cases this
        · intro k' hk'
          cases hb:dstB os k' t with
          | false=>rfl
          | true=>
            have:=ve c.ds (nb.1 hb) hk
            subst this
            rw [hSk] at hk'; cases hk'
  · have hn:∀ k,dstB os k t=false:=fun k=>by
      cases hb:dstB os k t with
      | false=>rfl
      | true=>exact absurd ⟨k,nb.1 hb⟩ hk
    rw [h.nf t fun k _=>hn k,h.nF t fun k _ _=>hn k]
theorem DInv.ready (c:Chk os tb lo) (h:DInv P os tb lo n Q f0 S f w m D F) {i:Nat} (hi:i < os.length) (hp:∀ e∈(os[i]).after,Region.binds .any e=true→S e.on=true):Sx.ready tb lo D i=true:=by
  simp only [Sx.ready,E7]
  intro e he
  cases hb:(tb.getD i 0).testBit e with
  | false=>rfl
  | true=>
    have h1:=Rt c.tbo h.clos hi hp hb
    simp only [W7,Ue]
    exact Fa.2 ((h.dn e).2 ⟨Fa.2 he,h1⟩)
theorem DInv.unforced (c:Chk os tb lo) (h:DInv P os tb lo n Q f0 S f w m D F) {i:Nat} (hS:S i=false) (hl:∀ e∈lo,e < os.length):forced tb D i=false:=by
  cases hb:forced tb D i with
  | false=>rfl
  | true=>
    simp only [forced,jh] at hb
    obtain ⟨e,he,hb⟩:=hb
    obtain ⟨h1,h2⟩:=(h.dn e).1 he
    have:=clo c.tbo h.clos e (hl e (Fa.1 h1)) h2 i hb
    rw [hS] at this; cases this
theorem DInv.of (c:Chk os tb lo) (hd:DR P os tb lo n Q m D F w)
    (clos:∀ (k:Nat) (o:Oper),os[k]?=some o→S k=true→∀ e∈o.after,Region.binds .any e=true→S e.on=true)
    (dn:∀ e,e∈D↔(memB lo e=true∧S e=true))
    (ag:∀ k d,S k=true→(os[k]?).bind (·.dst)=some d→f d=F d)
    (nf:∀ t,(∀ k,S k=true→dstB os k t=false)→f t=f0 t)
    (nF:∀ t,(∀ k,k < os.length→(memB lo k=false∨k∈D)→dstB os k t=false)→F t=f0 t)
    (cnt:(lo.filter fun e=>!memB D e).length=m)
    (hnew:∀ i,i < os.length→memB lo i=false→forced tb D i=false→fresh tb D i=true→S i=false):∃ F',DInv P os tb lo n Q f0 S f w m D F':=by
  have key:∀ K:(Nat→Value)→Prop,QR P os n w (fun f=>QS P os n w f (oldQ os.length tb lo D)∧K f) (newQ os.length tb lo D) F→
      ∃ F',K F'∧(∀ t,(∀ i∈newQ os.length tb lo D,dstB os i t=false)→F' t=F t)∧∀ i,i < os.length→memB lo i=false→Sx.ready tb lo D i=true→forced tb D i=false→QF P os n w F' i:=by
    intro K hQ
    obtain ⟨F',⟨hS,hK⟩,hag,hall⟩:=yD c.sel c.ds (kz c) (Tw c) (fun i hi=>by
      simp only [Ac,V3,I7] at hi; exact hi.2.1.1.1) (List.Pairwise.filter _ ED) hQ
    refine ⟨F',hK,hag,fun i hi h1 h2 h3=>?_⟩
    cases hfr:fresh tb D i with
    | true=>exact hall i (by simp [hi,h1,h2,h3,hfr])
    | false=>exact xD hS (by simp [oldQ,hi,h1,h2,h3,hfr])
  have fin:∀ F',(∀ t,(∀ i∈newQ os.length tb lo D,dstB os i t=false)→F' t=F t)→(∀ i,i < os.length→memB lo i=false→Sx.ready tb lo D i=true→forced tb D i=false→QF P os n w F' i)→
      ((m=0∧Q .normal (fr n F') w)∨∃ m',m=m'+1∧LA P os n F' w (fun e o v w'=>DR P os tb lo n Q m' (e::D) (updO F' o.dst v) w') (candL tb lo D))→∃ F',DInv P os tb lo n Q f0 S f w m D F':=by
    intro F' hag hall hnext
    refine ⟨F',clos,dn,fun k d hk hdk=>?_,nf,fun t ht=>?_,hall,hnext,cnt⟩
    · rw [ag k d hk hdk,hag d]
      intro i hi
      cases hb:dstB os i d with
      | false=>rfl
      | true=>
        have:=ve c.ds (nb.1 hb) hdk
        subst this
        simp only [newQ,Ac,M6,V3,I7] at hi
        have:=hnew i hi.1 hi.2.1.1.1 hi.2.1.2 hi.2.2
        rw [hk] at this; cases this
    · rw [hag t,nF t ht]
      intro i hi
      simp only [newQ,Ac,M6,V3,I7] at hi
      exact ht i hi.1 (.inl hi.2.1.1.1)
  cases m with
  | zero=>
    obtain ⟨F',hK,hag,hall⟩:=key (fun f=>Q .normal (fr n f) w) hd
    exact fin F' hag hall (.inl ⟨rfl,hK⟩)
  | succ m=>
    obtain ⟨F',hK,hag,hall⟩:=key (fun f=>LA P os n f w (fun e o v w'=>DR P os tb lo n Q m (e::D) (updO f o.dst v) w') (candL tb lo D)) hd
    exact fin F' hag hall (.inr ⟨m,rfl,hK⟩)
theorem nw {id:Nat} (tb lo:List Nat) (m:Nat) (hm:P.follows .mixedOrders=true) (hc:allOK os tb lo=true) (hlo:lo.all (fun k=>Nat.blt k os.length)=true) (hml:Nat.beq lo.length m=true)
    (h:DR P os tb lo n Q m [] f {w with drawn:=w.drawn+1 }):(Code.region id os.toArray true).wp P Q (fr n f) w:=by
  have c:=chk hc
  have hl:∀ e∈lo,e < os.length:=fun e he=>by
    rw [E7] at hlo
    simpa [S7] using hlo e he
  have hml':=S6 hml
  refine qw hm c.ac (fun S a w=>∃ f' m D F,a=fr n f'∧DInv P os tb lo n Q f S f' w m D F) ?_ ?_ ?_
  · obtain ⟨F',hF⟩:=DInv.of (S:=fun _=>false) (f:=f) (f0:=f) c h (fun _ _ _ h=>by simp at h) (fun e=>by simp) (fun _ _ h=>by simp at h) (fun _ _=>rfl) (fun _ _=>rfl) ((Z0 List.length (List.filter_eq_self.2 (fun _ _=>rfl))).trans hml') (fun _ _ _ _ _=>rfl)
    exact ⟨f,m,[],F',rfl,hF⟩
  · rintro i o S a w ho hS hp ⟨f',m,D,F,rfl,hI⟩
    have ho':os[i]?=some o:=by simpa using ho
    have hi:i < os.length:=(S2.1 ho').1
    have hoe:os[i]=o:=by have:=(S2.1 ho').2; exact this
    have hp':∀ e∈(os[i]).after,Region.binds .any e=true→S e.on=true:=by rw [hoe]; exact hp
    have hag:=hI.agO c hi hS hp'
    rw [hoe] at hag
    have hn:nsel o=true:=by
      have:=c.sel
      simp only [selOK,E7] at this
      exact this o (Qk ho')
    have hrdy:=hI.ready c hi hp'
    have hclos:∀ (k:Nat) (o:Oper),os[k]?=some o→(k == i || S k)=true→∀ e∈o.after,Region.binds .any e=true→(e.on == i || S e.on)=true:=by
      intro k o' hk hSk e he hb
      by_cases hki:k=i
      · subst hki
        rw [ho'] at hk; cases hk
        rw [hp e he hb]; simp
      · have h1:S k=true:=by simpa [hki] using hSk
        rw [hI.clos k o' hk h1 e he hb]; simp
    by_cases hq:memB lo i=true
    · have hnD:memB D i=false:=by
        cases hb:memB D i with
        | false=>rfl
        | true=>have:=((hI.dn i).1 (Fa.1 hb)).2; rw [hS] at this; cases this
      have hcand:i∈candL tb lo D:=by
        simp only [candL,Ac,V3,I7]
        exact ⟨Fa.1 hq,hnD,hrdy⟩
      rcases hI.next with ⟨hm0,_⟩ | ⟨m',hm',hLA⟩
      · exfalso
        have:=hI.cnt
        rw [hm0,List.length_eq_zero_iff,HD] at this
        have:=this i (Fa.1 hq)
        rw [hnD] at this
        simp at this
      · subst hm'
        have hLS:=ND hLA hcand ho'
        have nextI:∀ v w',DR P os tb lo n Q m' (i::D) (updO F o.dst v) w'→∃ f'' m D F,(fr n f').put o.dst v=fr n f''∧DInv P os tb lo n Q f (fun j=>j == i || S j) f'' w' m D F:=by
          intro v w' hDR
          have hput:(fr n f').put o.dst v=fr n (updO f' o.dst v):=by
            cases o.dst with
            | none=>exact Ts _ _ _
            | some d=>exact ic _ _ _ _
          refine Exists.elim (DInv.of (S:=fun j=>j == i || S j) (f:=updO f' o.dst v) (f0:=f) c hDR hclos ?_ ?_ ?_ ?_ ?_ ?_) (fun F' hF'=>⟨_,m',i::D,F',hput,hF'⟩)
          · intro e
            rw [P3,hI.dn e]
            constructor
            · rintro (rfl | ⟨h1,h2⟩)
              · exact ⟨hq,H0⟩
              · exact ⟨h1,by simp [h2]⟩
            · rintro ⟨h1,h2⟩
              by_cases hei:e=i
              · exact .inl hei
              · exact .inr ⟨h1,by simpa [hei] using h2⟩
          · intro k d hk hdk
            by_cases hki:k=i
            · subst hki
              rw [ho'] at hdk
              simp only [ru] at hdk
              rw [hdk]
              simp [updO,Kc]
            · have h1:S k=true:=by simpa [hki] using hk
              have h2:=hI.ag k d h1 hdk
              cases hod:o.dst with
              | none=>exact h2
              | some d'=>
                have hne:d≠d':=by
                  rintro rfl
                  exact hki (ve c.ds hdk (by rw [ho']; exact hod))
                simp only [updO]
                rw [X7 _ _ hne,X7 _ _ hne]; exact h2
          · intro t ht
            have h1:=ht i H0
            have h2:f' t=f t:=hI.nf t fun k hk=>ht k (by simp [hk])
            cases hod:o.dst with
            | none=>exact h2
            | some d'=>
              have hne:t≠d':=by
                rintro rfl
                rw [nb.2 (by rw [ho']; exact hod)] at h1; cases h1
              simp only [updO]
              rw [X7 _ _ hne]; exact h2
          · intro t ht
            have h1:=ht i hi (.inr H0)
            have h2:F t=f t:=hI.nF t fun k hk hor=>ht k hk (Or.imp (fun h=>h) (fun h=>Cd _ h) hor)
            cases hod:o.dst with
            | none=>exact h2
            | some d'=>
              have hne:t≠d':=by
                rintro rfl
                rw [nb.2 (by rw [ho']; exact hod)] at h1; cases h1
              simp only [updO]
              rw [X7 _ _ hne]; exact h2
          · have hcnt:=hI.cnt
            have hpw:=kB c.inc
            have:∀ l:List Nat,l.Pairwise (· < ·)→i∈l→(l.filter fun e=>!memB D e).length=(l.filter fun e=>!memB (i::D) e).length+1:=by
              intro l
              induction l with
              | nil=>intro _ h; cases h
              | cons a l ih=>
                intro hpw hmem
                rw [Fe] at hpw
                by_cases hai:a=i
                · subst hai
                  have e1:(!memB D a)=true:=by rw [hnD]; rfl
                  have e2:(!memB (a::D) a)=false:=by simp [memB]
                  rw [List.filter_cons_of_pos (p:=fun e=>!memB D e) e1,List.filter_cons_of_neg (p:=fun e=>!memB (a::D) e) (by rw [e2]; simp)]
                  rw [E2]
                  congr 2
                  apply List.filter_congr
                  intro x hx
                  have:x≠a:=by have:=hpw.1 x hx; omega
                  simp [memB,ye this]
                · have hm':i∈l:=by
                    rcases P3.1 hmem with h | h
                    · exact absurd h.symm hai
                    · exact h
                  have e1:memB (i::D) a=memB D a:=by simp [memB,ye hai]
                  have:=ih hpw.2 hm'
                  simp only [Ku,e1]
                  split
                  · simp only [E2]; omega
                  · exact this
            have:=this lo hpw (Fa.1 hq)
            omega
          · intro k hk hkq hkf hkr
            have hki:k≠i:=by rintro rfl; rw [hq] at hkq; cases hkq
            have h1:(k == i)=false:=by simpa using hki
            simp only [h1,Ue]
            cases hSk:S k with
            | false=>rfl
            | true=>
              have:=clo c.tbo hI.clos k hk hSk i hkr
              rw [hS] at this; cases this
        unfold opSt
        rcases hLS with ⟨hw,hx⟩ | ⟨hw,hx⟩
        · have hw':=hag.wn hw
          rw [M0 hw'.wanted]
          unfold Oper.wp
          rw [← hag.exec hn]
          rcases hx with ⟨v,w',hr,hG⟩ | ⟨w',hr,hG⟩ | ⟨g,args,hr,hG⟩
          · rw [hr,Oper.upon_value]
            obtain ⟨f'',m,D,F,h1,h2⟩:=nextI v w' hG
            exact ⟨f'',m,D,F,h1,h2⟩
          · rw [hr,Oper.upon_skip]
            obtain ⟨f'',m,D,F,h1,h2⟩:=nextI _ w' hG
            exact ⟨f'',m,D,F,h1,h2⟩
          · rw [hr,Oper.upon_enter]
            refine hG.mono ?_
            rintro e w' ⟨v,rfl,hG⟩
            obtain ⟨f'',m,D,F,h1,h2⟩:=nextI v w' hG
            exact ⟨f'',m,D,F,h1,h2⟩
        · have hw':=hag.wx hw
          rw [hw'.wanted]
          simp only [E9,if_false]
          obtain ⟨f'',m,D,F,h1,h2⟩:=nextI _ w hx
          exact ⟨f'',m,D,F,h1,h2⟩
    · have hq':memB lo i=false:=by simpa using hq
      obtain ⟨o',d,h1,hd,h3⟩:=hI.sat i hi hq' hrdy (hI.unforced c hS hl)
      rw [ho'] at h1; cases h1
      have hdd:(os[i]?).bind (·.dst)=some d:=by rw [ho']; exact hd
      have step:DInv P os tb lo n Q f (fun j=>j == i || S j) (upd f' d (F d)) w m D F:=by
        refine ⟨hclos,fun e=>?_,fun k d' hk hdk=>?_,fun t ht=>?_,hI.nF,hI.sat,hI.next,hI.cnt⟩
        · rw [hI.dn e]
          constructor
          · rintro ⟨h1,h2⟩; exact ⟨h1,by simp [h2]⟩
          · rintro ⟨h1,h2⟩
            have:e≠i:=by rintro rfl; rw [hq'] at h1; cases h1
            exact ⟨h1,by simpa [this] using h2⟩
        · by_cases hki:k=i
          · subst hki
            rw [hdd] at hdk; cases hdk
            rw [Kc]
          · have h1:S k=true:=by simpa [hki] using hk
            have hne:d'≠d:=by rintro rfl; exact hki (ve c.ds hdk hdd)
            rw [X7 _ _ hne]; exact hI.ag k d' h1 hdk
        · have h1:=ht i H0
          have hne:t≠d:=by rintro rfl; rw [nb.2 hdd] at h1; cases h1
          rw [X7 _ _ hne]
          exact hI.nf t fun k hk=>ht k (by simp [hk])
      unfold opSt
      rcases h3 with ⟨hw,hy⟩ | ⟨hw,hy⟩
      · have hw':=hag.wn hw
        rw [M0 hw'.wanted]
        unfold Oper.wp
        unfold Yi at hy
        rw [← hag.exec hn,hy,Oper.upon_value,hd,ic]
        exact ⟨_,m,D,F,rfl,step⟩
      · have hw':=hag.wx hw
        rw [hw'.wanted]
        simp only [E9,if_false]
        rw [hd,ic,← hy]
        exact ⟨_,m,D,F,rfl,step⟩
  · rintro S a w hall ⟨f',m,D,F,rfl,hI⟩
    have hall':∀ i,i < os.length→S i=true:=fun i hi=>hall i (by simpa using hi)
    rcases hI.next with ⟨_,hQ⟩ | ⟨m',hm',_⟩
    · have:f'=F:=by
        funext t
        by_cases hk:∃ k:Nat,(os[k]?).bind (·.dst)=some t
        · obtain ⟨k,hk⟩:=hk
          exact hI.ag k t (hall' k (ig hk)) hk
        · have hn:∀ k,dstB os k t=false:=fun k=>by
            cases hb:dstB os k t with
            | false=>rfl
            | true=>exact absurd ⟨k,nb.1 hb⟩ hk
          rw [hI.nf t fun k _=>hn k,hI.nF t fun k _ _=>hn k]
      rw [this]; exact hQ
    · exfalso
      have:=hI.cnt
      rw [hm'] at this
      have hz:(lo.filter fun e=>!memB D e)=[]:=by
        rw [HD]
        intro e he
        have:e∈D:=(hI.dn e).2 ⟨Fa.2 he,hall' e (hl e he)⟩
        simp [Fa.2 this]
      rw [hz] at this
      simp at this
variable {l l1 l2 lc r:List Nat} {i d e:Nat} {o:Oper} {v:Value} {K:(Nat→Value)→Prop} {G:Nat→Oper→Value→World→Prop} {G1:Value→World→Prop}
theorem DRz (h1:newQ os.length tb lo D=l1) (h2:oldQ os.length tb lo D=l2) (h:QR P os n w (fun f=>QS P os n w f l2∧Q .normal (fr n f) w) l1 f):DR P os tb lo n Q 0 D f w:=by subst h1; subst h2; exact h
theorem DRn (h1:newQ os.length tb lo D=l1) (h2:oldQ os.length tb lo D=l2) (h3:candL tb lo D=lc) (h:QR P os n w (fun f=>QS P os n w f l2∧LA P os n f w (fun e o v w'=>DR P os tb lo n Q m (e::D) (updO f o.dst v) w') lc) l1 f):DR P os tb lo n Q (m+1) D f w:=by subst h1; subst h2; subst h3; exact h
theorem Ry (ho:os[i]?=some o) (hd:o.dst=some d) (hw:Wn os.toArray n f o.guard) (hy:Yi P (fr n f) w o v) (k:QR P os n w K r (upd f d v)):QR P os n w K (i::r) f:=by
  simp only [QR,ho,hd]; exact .inl ⟨hw,v,hy,k⟩
theorem Rx (ho:os[i]?=some o) (hd:o.dst=some d) (hw:Wx os.toArray n f o.guard) (k:QR P os n w K r (upd f d undef)):QR P os n w K (i::r) f:=by
  simp only [QR,ho,hd]; exact .inr ⟨hw,k⟩
theorem Sy (ho:os[i]?=some o) (hd:o.dst=some d) (hw:Wn os.toArray n f o.guard) (hy:Yi P (fr n f) w o v) (hv:f d=v) (k:QS P os n w f r):QS P os n w f (i::r):=by
  simp only [QS,ho,hd]; exact ⟨.inl ⟨hw,by rw [hv]; exact hy⟩,k⟩
theorem Sx_ (ho:os[i]?=some o) (hd:o.dst=some d) (hw:Wx os.toArray n f o.guard) (hv:f d=undef) (k:QS P os n w f r):QS P os n w f (i::r):=by
  simp only [QS,ho,hd]; exact ⟨.inr ⟨hw,hv⟩,k⟩
theorem Rn {K1:(Nat→Value)→Prop} {K2:(Nat→Value)→Prop} (h1:K1 f) (h2:K2 f):QR P os n w (fun f=>K1 f∧K2 f) [] f:=⟨h1,h2⟩
theorem QSn:QS P os n w f []:=trivial
theorem LAn:LA P os n f w G []:=trivial
theorem Lc (ho:os[e]?=some o) (h:LS P os n f w o (G e o)) (k:LA P os n f w G r):LA P os n f w G (e::r):=by
  simp only [LA,ho]; exact ⟨h,k⟩
theorem Ly (hw:Wn os.toArray n f o.guard) (hy:Yi P (fr n f) w o v) (k:G1 v w):LS P os n f w o G1:=.inl ⟨hw,.inl ⟨v,w,hy,k⟩⟩
theorem Lw {w':World} (hw:Wn os.toArray n f o.guard) (hy:(execOp (fr n f).eval o).run P w=.ok (.value v) w') (k:G1 v w'):LS P os n f w o G1:=.inl ⟨hw,.inl ⟨v,w',hy,k⟩⟩
theorem Ls {w':World} (hw:Wn os.toArray n f o.guard) (hy:(execOp (fr n f).eval o).run P w=.ok .skip w') (k:G1 undef w'):LS P os n f w o G1:=.inl ⟨hw,.inr (.inl ⟨w',hy,k⟩)⟩
theorem Lk {g:FuncId} {args:Array Value} {R:Ending→World→Prop} (hw:Wn os.toArray n f o.guard) (hy:(execOp (fr n f).eval o).run P w=.ok (.enter g args) w) (hc:Calls P g args w R) (k:∀ e w',R e w'→∃ v,e=.returned v∧G1 v w'):LS P os n f w o G1:=
  .inl ⟨hw,.inr (.inr ⟨g,args,hy,hc.mono k⟩)⟩
theorem Lx (hw:Wx os.toArray n f o.guard) (k:G1 undef w):LS P os n f w o G1:=.inr ⟨hw,k⟩
end
end Sx
