/- A small calculus of weakest preconditions for the printed models: what a call returns, rules for each step, one rule for loops. It holds over any program. -/
import Derived.Test.YthekfonboblioabGreatDoorTm
import Derived.KernelRfl
set_option linter.unusedSimpArgs false
set_option linter.unusedVariables false
set_option maxHeartbeats 4000000
namespace Vc
open Sx Go
def Ret {α:Type} (m:Option α) (Q:α→Prop):Prop:=∃ x,m=some x∧Q x
def VQ {τ ρ:Type} (P:τ→Prop) (Q:ρ→Prop):τ⊕ρ→Prop
 | .inl t=>P t
 | .inr o=>Q o
theorem E9 {τ ρ:Type} {P:τ→Prop} {Q:ρ→Prop} {t:τ}:VQ P Q (.inl t)=P t:=rfl
theorem D9 {τ ρ:Type} {P:τ→Prop} {Q:ρ→Prop} {t:ρ}:VQ P Q (.inr t)=Q t:=rfl
theorem obs {α β:Type} {x:α} {f:α→Option β}:(some x).bind f=f x:=by
 have h:∀ e:Option α,e=some x→e.bind f=f x:=by rintro _ rfl; rfl
 exact h _ rfl
theorem U2 {α:Type} {x:α} {Q:α→Prop}:Ret (some x) Q=Q x:=by simp [Ret]
theorem Pr {α:Type} {Q:α→Prop}:Ret none Q=False:=by simp [Ret]
theorem J0 {α β:Type} {m:Option α} {f:α→Option β} {Q:β→Prop}:Ret (m.bind f) Q=Ret m (fun x=>Ret (f x) Q):=by
 cases m<;>simp [Ret]
theorem O0 {α:Type} {c:Prop} [Decidable c] {a b:Option α} {Q:α→Prop}:Ret (if c then a else b) Q=((c→Ret a Q)∧(¬ c→Ret b Q)):=by
 split<;>simp_all
theorem L3 {α:Type} {l:List α} {i:Int} {Q:α→Prop}:Ret (getI l i) Q=(0≤i∧i < l.length∧∀ x,l[i.toNat]?=some x→Q x):=by
 cases i with
 | ofNat k=>
  simp only [Ret,getI]
  apply propext
  constructor
  ·rintro ⟨x,h1,h2⟩
   have:=(Z1.1 h1).1
   refine ⟨Int.natCast_nonneg k,by simpa using this,fun y hy=>?_⟩
   have:l[k]?=some y:=hy
   rw [h1] at this; cases this; exact h2
  ·rintro ⟨_,h1,h2⟩
   have OJ:k < l.length:=by simpa using h1
   exact ⟨l[k],by simp [OJ],h2 _ (by simp [OJ])⟩
 | negSucc k=>simp only [Ret,getI]; apply propext; constructor; rintro ⟨x,h,_⟩; cases h; rintro ⟨h,_⟩; omega
theorem E4 {α:Type} {l:List α} {i:Int} {z:α} {Q:List α→Prop}:Ret (setI l i z) Q=(0≤i∧i < l.length∧Q (l.set i.toNat z)):=by
 cases i with
 | ofNat k=>
  simp only [Ret,setI]
  by_cases h:k < l.length
  ·simp [h]
  ·simp [h]
 | negSucc k=>simp only [Ret,setI]; apply propext; constructor; rintro ⟨x,h,_⟩; cases h; rintro ⟨h,_⟩; omega
theorem D2 {α:Type} {l m:List α} {Q:List α→Prop}:Ret (app l m) Q=(l.length+m.length≤1099511627776∧Q (l++m)):=by
 unfold app BIG Ret
 by_cases h:((l.length+m.length:Nat):Int)≤1099511627776
 ·rw [M0 h]; simp; omega
 ·rw [K0 h]; simp; omega
theorem J5 {α:Type} {z:α} {n:Int} {Q:List α→Prop}:Ret (mkL z n) Q=(0≤n∧n≤1099511627776∧Q (List.replicate n.toNat z)):=by
 unfold mkL BIG Ret
 by_cases h:0≤n∧n≤1099511627776
 ·rw [M0 h]; simp [h]
 ·rw [K0 h]; simp; omega
theorem ic {α:Type} {l:List α} {lo hi:Int} {Q:List α→Prop}:Ret (sli l lo hi) Q=(0≤lo∧lo≤hi∧hi≤l.length∧Q ((l.take hi.toNat).drop lo.toNat)):=by
 unfold sli subL Ret
 by_cases h:0≤lo∧lo≤hi∧hi≤l.length
 ·rw [M0 h]; simp [h]
 ·rw [K0 h]; simp; omega
theorem uA {x y:Int} {Q:Int→Prop}:Ret (wr x y) Q=(y≠0∧Q (x.tmod y)):=by
 unfold wr Ret
 by_cases h:y=0
 ·simp [h]
 ·simp [h]
theorem vA {k:IntKind} {x y:Int} {Q:Int→Prop}:Ret (wq k x y) Q=(y≠0∧Q (k.wrap (x.tdiv y))):=by
 unfold wq Ret
 by_cases h:y=0
 ·simp [h]
 ·simp [h]
theorem Ret.mono {α:Type} {m:Option α} {P Q:α→Prop} (h:Ret m P) (h':∀ x,P x→Q x):Ret m Q:=by
 obtain ⟨x,h1,h2⟩:=h; exact ⟨x,h1,h' x h2⟩
theorem Zw {α β:Type} {m:Option α} {f:α→Option β} {P:α→Prop} {Q:β→Prop} (h:Ret m P) (g:∀ x,P x→Ret (f x) Q):Ret (m.bind f) Q:=by rw [J0]; exact h.mono g
theorem xA {α:Type} {m:Option α} {x:α} (h:m=some x) {Q:α→Prop}:Ret m Q=Q x:=by rw [h,U2]
theorem Ret.eq {α:Type} {m:Option α} {x:α} (h:Ret m (fun y=>y=x)):m=some x:=by
 obtain ⟨y,h1,h2⟩:=h; rw [h1,h2]
theorem B8 {α:Type} {m:Option α} {P Q:α→Prop} (h:Ret m P) (h':∀ x,P x→Q x):Ret m Q:=h.mono h'
theorem Q0 {τ ρ:Type} {step:τ→Option (τ⊕ρ)} {Post:ρ→Prop} (n:Nat) (I:Nat→τ→Prop) {s:τ} (h0:I 0 s)
  (h:∀ k t,k≤n→I k t→Ret (step t) (VQ (fun t'=>k < n∧I (k+1) t') Post)) (hn:n < 9223372036854775808:=by omega):Ret (loop step s) Post:=by
 have key:∀ (m k:Nat) (t:τ) (fuel:Nat),k+m=n→m < fuel→I k t→Ret (loopN step fuel t) Post:=by
  intro m
  induction m with
  | zero=>
   intro k t fuel hk hf hI
   obtain ⟨r,h1,h2⟩:=h k t A0 hI
   cases fuel with
   | zero=>omega
   | succ fuel=>
    cases r with
    | inl t'=>exact absurd h2.1 A0
    | inr o=>exact ⟨o,by simp [loopN,h1],h2⟩
  | succ m ih=>
   intro k t fuel hk hf hI
   obtain ⟨r,h1,h2⟩:=h k t A0 hI
   cases fuel with
   | zero=>omega
   | succ fuel=>
    cases r with
    | inl t'=>
     obtain ⟨o,h3,h4⟩:=ih (k+1) t' fuel A0 A0 h2.2
     exact ⟨o,by simp [loopN,h1,h3],h4⟩
    | inr o=>exact ⟨o,by simp [loopN,h1],h2⟩
 exact key n 0 s FUEL A0 (by unfold FUEL; omega) h0
theorem U0 {x y:Int} (h1: -9223372036854775808≤x+y) (h2:x+y≤9223372036854775807):wa .i64 x y=x+y:=IntWalk.i64_in _ ⟨h1,h2⟩
theorem Xw {k:Nat} (h:(k:Int)+1≤9223372036854775807:=by omega):wa .i64 (k:Int) 1=((k+1:Nat):Int):=by rw [U0 A0 h]; rfl
theorem C3 {x y:Int} (h1: -9223372036854775808≤x - y) (h2:x - y≤9223372036854775807):ws .i64 x y=x - y:=IntWalk.i64_in _ ⟨h1,h2⟩
theorem Z9 {x y:Int} (h1: -9223372036854775808≤x*y) (h2:x*y≤9223372036854775807):wm .i64 x y=x*y:=IntWalk.i64_in _ ⟨h1,h2⟩
attribute [grind =] U0 C3
theorem mts {α:Type} {l:List α} {k:Nat} {x y:α} (h:l[k]?=some x):y∈l.take (k+1)↔y∈l.take k∨y=x:=by
 simp [Kl,h]
theorem mts2 {α:Type} {l:List α} {k:Nat} {y:α}:y∈l.take (k+1)↔y∈l.take k∨l[k]?=some y:=by
 cases h:l[k]? with
 | none=>simp [Kl,h]
 | some x=>simp [Kl,h,eq_comm]
attribute [grind =] mts2
theorem Oy {w:Int}:0≤w→(w.toNat:Int)=w:=fun h=>Yl h
attribute [grind! .] Oy
theorem tks {α:Type} {l:List α} {k:Nat} {x:α} (h:l[k]?=some x):l.take (k+1)=l.take k++[x]:=by
 simp [Kl,h]
theorem S8 {α:Type} {l:List α} {k:Nat} {x:α} (h:l[k]?=some x):x∈l:=Rl h
attribute [grind →] S8
theorem I5 {α:Type} {l:List α} {k:Nat} (h:l.length≤k):l.take k=l:=Y7 h
abbrev vcC:=And.intro @J0 <| And.intro @O0 <| And.intro @L3 <| And.intro @E4 <| And.intro @D2 <| And.intro @J5 <| And.intro @ic <| And.intro @uA <| And.intro @vA <| And.intro @U2 <| And.intro @E9 <| And.intro @D9 <| And.intro @Z0 <| And.intro @if_true.{1} <| And.intro @if_false.{1} <| And.intro @obs <| And.intro @decide_false <| And.intro @decide_true <| And.intro @Y5 <| And.intro @jw <| And.intro @not_true_eq_false <| And.intro @not_false_eq_true <| And.intro @true_implies @false_implies
abbrev vcD:=And.intro @vcC <| And.intro @true_and <| And.intro @and_true <| And.intro @false_and <| And.intro @or_false @false_or
end Vc
/- Determinants of integer matrices, by expansion along the first row: linear and alternating in the rows. -/
namespace Dt
def sm:Nat→(Nat→Int)→Int
 | 0,_=>0
 | n+1,f=>sm n f+f n
theorem W0 {n:Nat} {f g:Nat→Int} (h:∀ i,i < n→f i=g i):sm n f=sm n g:=by
 induction n with
 | zero=>rfl
 | succ n ih=>rw [sm,sm,ih fun i hi=>h i A0,h n A0]
theorem C5 {n:Nat} {f:Nat→Int} (h:∀ i,i < n→f i=0):sm n f=0:=by
 induction n with
 | zero=>rfl
 | succ n ih=>rw [sm,ih fun i hi=>h i A0,h n A0]; rfl
theorem G7 (n:Nat) (f g:Nat→Int):sm n (fun i=>f i+g i)=sm n f+sm n g:=by
 induction n with
 | zero=>rfl
 | succ n ih=>simp only [sm,ih]; omega
theorem H3 (n:Nat) (c:Int) (f:Nat→Int):sm n (fun i=>c*f i)=c*sm n f:=by
 induction n with
 | zero=>simp [sm]
 | succ n ih=>simp only [sm,ih,T6]
theorem N7 (n:Nat) (c:Int) (f:Nat→Int):sm n (fun i=>f i*c)=sm n f*c:=by
 induction n with
 | zero=>simp [sm]
 | succ n ih=>simp only [sm,ih,Ob]
theorem Uc (n:Nat) (s t:Int) (f g:Nat→Int):sm n (fun i=>s*f i+t*g i)=s*sm n f+t*sm n g:=by
 rw [G7,H3,H3]
theorem E7 (n m:Nat) (f:Nat→Nat→Int):sm n (fun i=>sm m fun j=>f i j)=sm m (fun j=>sm n fun i=>f i j):=by
 induction n with
 | zero=>exact (C5 (n:=m) fun _ _=>rfl).symm
 | succ n ih=>simp only [sm]; rw [ih,← G7]
theorem L4 {n a:Nat} {f:Nat→Int} (h:a < n):sm n (fun i=>if i=a then f i else 0)=f a:=by
 induction n with
 | zero=>omega
 | succ n ih=>
  rw [sm]
  by_cases ha:a=n
  ·subst ha
   rw [C5 (fun i hi=>K0 A0),M0 rfl]; omega
  ·rw [ih A0,B0]; omega
theorem zz (N:Nat) (F:Nat→Nat→Int):sm (N+1) (fun j=>sm N fun k=>F j k)=sm (N+1) (fun j=>sm j fun k=>F j k+F k (j - 1)):=by
 induction N with
 | zero=>rfl
 | succ N ih=>
  have h1:sm (N+1) (fun j=>sm (N+1) fun k=>F j k)=sm (N+1) (fun j=>sm N fun k=>F j k)+sm (N+1) (fun j=>F j N):=by
   rw [← G7]; exact W0 fun j _=>rfl
  have h2:∀ G:Nat→Int,sm (N+1+1) G=sm (N+1) G+G (N+1):=fun _=>rfl
  have h3:sm (N+1) (fun k=>F (N+1) k+F k N)=sm (N+1) (fun k=>F (N+1) k)+sm (N+1) (fun k=>F k N):=G7 _ _ _
  rw [h2,h2 (fun j=>sm j fun k=>F j k+F k (j - 1)),← ih,h1,show N+1 - 1=N from rfl,h3]
  omega
abbrev Mx:=Nat→Nat→Int
def sk (j k:Nat):Nat:=if k < j then k else k+1
def mn (A:Mx) (j:Nat):Mx:=fun r c=>A (r+1) (sk j c)
def sg (j:Nat):Int:=if j % 2=0 then 1 else -1
theorem xj (j:Nat):sg (j+1)= - sg j:=by
 unfold sg
 by_cases h:j % 2=0
 ·rw [M0 h,B0]
 ·rw [K0 h,C0]; rfl
def det:Nat→Mx→Int
 | 0,_=>1
 | n+1,A=>sm (n+1) fun j=>sg j*A 0 j*det n (mn A j)
theorem te {j k n:Nat} (hj:j < n+1) (hk:k < n):sk j k < n+1:=by unfold sk; split<;>omega
theorem w5:∀ {n:Nat} {A B:Mx},(∀ i j,i < n→j < n→A i j=B i j)→det n A=det n B
 | 0,_,_,_=>rfl
 | n+1,A,B,h=>by
  rw [det,det]
  refine W0 fun j hj=>?_
  rw [h 0 j A0 hj,w5 (A:=mn A j) (B:=mn B j) fun i k hi hk=>h _ _ A0 (te hj hk)]
def up (A:Mx) (i:Nat) (v:Nat→Int):Mx:=fun r c=>if r=i then v c else A r c
theorem Tj (A:Mx) (v:Nat→Int) (j:Nat):mn (up A 0 v) j=mn A j:=by funext r c; simp [mn,up]
theorem Uj (A:Mx) (i:Nat) (v:Nat→Int) (j:Nat):mn (up A (i+1) v) j=up (mn A j) i (fun c=>v (sk j c)):=by funext r c; simp [mn,up]
theorem Ik:∀ {n i:Nat} (A:Mx) (s t:Int) (v w:Nat→Int),i < n→det n (up A i (fun c=>s*v c+t*w c))=s*det n (up A i v)+t*det n (up A i w)
 | 0,i,_,_,_,_,_,h=>A0
 | n+1,0,A,s,t,v,w,_=>by
  rw [det,det,det,← Uc]
  refine W0 fun j hj=>?_
  rw [Tj,Tj,Tj]
  simp only [up,if_true]
  grind
 | n+1,i+1,A,s,t,v,w,h=>by
  rw [det,det,det,← Uc]
  refine W0 fun j hj=>?_
  rw [Uj,Uj,Uj,Ik (mn A j) s t (fun c=>v (sk j c)) (fun c=>w (sk j c)) A0]
  simp only [up,show ¬ (0=i+1) by omega,if_false]
  grind
theorem kC {A:Mx} {j k:Nat} (h:k < j):∀ r c,mn (mn A j) k r c=mn (mn A k) (j - 1) r c:=by
 intro r c
 simp only [mn]
 congr 1
 unfold sk
 split<;>split<;>(try split)<;>(try split)<;>omega
theorem Nk:∀ {n i:Nat} {A:Mx},i+1 < n→(∀ c,c < n→A i c=A (i+1) c)→det n A=0
 | 0,_,_,h,_=>A0
 | 1,_,_,h,_=>A0
 | n+2,0,A,h,he=>by
  have h1:det (n+2) A=sm (n+2) fun j=>sm (n+1) fun k=>(sg j*sg k)*(A 0 j*A 1 (sk j k))*det n (mn (mn A j) k):=by
   rw [det]
   refine W0 fun j hj=>?_
   rw [det,← H3]
   refine W0 fun k hk=>?_
   have:mn A j 0 k=A 1 (sk j k):=rfl
   rw [this]
   grind
  rw [h1,zz]
  refine C5 fun j hj=>C5 fun k hk=>?_
  have hd:det n (mn (mn A j) k)=det n (mn (mn A k) (j - 1)):=w5 fun r c _ _=>kC hk r c
  have e1:sk j k=k:=by unfold sk; rw [M0 hk]
  have e2:sk k (j - 1)=j:=by unfold sk; rw [B0]; omega
  have e3:sg j= - sg (j - 1):=by
   have:=xj (j - 1)
   rwa [show j - 1+1=j by omega] at this
  rw [hd,e1,e2,← he k A0,← he j hj,e3]
  grind
 | n+2,i+1,A,h,he=>by
  rw [det]
  refine C5 fun j hj=>?_
  rw [Nk (i:=i) (A:=mn A j) A0 (fun c hc=>he _ (te hj hc)),Q3]
structure Am (n:Nat) (D:Mx→Int):Prop where
 congr:∀ A B,(∀ i j,i < n→j < n→A i j=B i j)→D A=D B
 lin:∀ A i (s t:Int) v w,i < n→D (up A i (fun c=>s*v c+t*w c))=s*D (up A i v)+t*D (up A i w)
 adj:∀ A i,i+1 < n→(∀ c,c < n→A i c=A (i+1) c)→D A=0
theorem L9 (n:Nat):Am n (det n):=⟨fun A B h=>w5 h,fun A i s t v w h=>Ik A s t v w h,fun A i h he=>Nk h he⟩
theorem mj (A:Mx) (i:Nat):up A i (A i)=A:=by funext r c; simp only [up]; split<;>simp_all
theorem zq (A:Mx) (i:Nat) (v w:Nat→Int):up (up A i v) i w=up A i w:=by funext r c; simp only [up]; split<;>rfl
theorem nj (A:Mx) {i k:Nat} (h:i≠k) (v w:Nat→Int):up (up A i v) k w=up (up A k w) i v:=by
 funext r c; simp only [up]; by_cases h1:r=k<;>by_cases h2:r=i<;>simp [h1,h2]<;>omega
def sw (A:Mx) (i k:Nat):Mx:=fun r c=>if r=i then A k c else if r=k then A i c else A r c
section
variable {n:Nat} {D:Mx→Int}
theorem Am.add (h:Am n D) (A:Mx) {i:Nat} (hi:i < n) (v w:Nat→Int):D (up A i (fun c=>v c+w c))=D (up A i v)+D (up A i w):=by
 have:=h.lin A i 1 1 v w hi
 simpa using this
theorem Am.sw_of (h:Am n D) {i k:Nat} (hi:i < n) (hk:k < n) (Pz:i≠k) (he:∀ A,(∀ c,c < n→A i c=A k c)→D A=0) (A:Mx):D (sw A i k)= - D A:=by
 let u:=A i
 let v:=A k
 let F:(Nat→Int)→(Nat→Int)→Mx:=fun x y=>up (up A i x) k y
 have hz:∀ x,D (F x x)=0:=fun x=>he _ (fun c _=>by simp [F,up,Pz])
 have hl:∀ x y z,D (F (fun c=>x c+y c) z)=D (F x z)+D (F y z):=by
  intro x y z
  simp only [F]
  rw [nj A Pz,nj A Pz,nj A Pz,h.add _ hi]
 have hr:∀ x y z,D (F z (fun c=>x c+y c))=D (F z x)+D (F z y):=fun x y z=>h.add _ hk _ _
 have h0:=hz (fun c=>u c+v c)
 rw [hl,hr,hr,hz,hz] at h0
 have e1:D (F u v)=D A:=h.congr _ _ fun r c _ _=>by
  simp only [F,up]; split
  ·rename_i h; subst h; rfl
  ·split
   ·rename_i h; subst h; rfl
   ·rfl
 have e2:D (F v u)=D (sw A i k):=h.congr _ _ fun r c _ _=>by
  simp only [F,up,sw]
  by_cases h1:r=k
  ·rw [M0 h1,B0,M0 h1]
  ·rw [K0 h1]
   by_cases h2:r=i
   ·rw [M0 h2,M0 h2]
   ·rw [K0 h2,K0 h2,K0 h1]
 omega
theorem Am.eq (h:Am n D):∀ (d i:Nat) (A:Mx),i+d+1 < n→(∀ c,c < n→A i c=A (i+d+1) c)→D A=0:=by
 intro d
 induction d with
 | zero=>exact fun i A hi he=>h.adj A i hi he
 | succ d ih=>
  intro i A hi he
  have hs:=h.sw_of (i:=i+d+1) (k:=i+d+2) A0 A0 A0 (fun B hB=>h.adj B (i+d+1) A0 hB) A
  have hz:=ih i (sw A (i+d+1) (i+d+2)) A0 (fun c hc=>by
   simp only [sw]
   rw [B0,B0]
   simp only [if_true]
   exact he c hc)
  rw [hz] at hs
  omega
theorem Am.equal (h:Am n D) {i k:Nat} (hi:i < n) (hk:k < n) (Pz:i≠k) (A:Mx) (he:∀ c,c < n→A i c=A k c):D A=0:=by
 by_cases hlt:i < k
 ·have:=h.eq (k - i - 1) i A A0 (fun c hc=>by rw [show i+(k - i - 1)+1=k by omega]; exact he c hc)
  exact this
 ·have:=h.eq (i - k - 1) k A A0 (fun c hc=>by rw [show k+(i - k - 1)+1=i by omega]; exact (he c hc).symm)
  exact this
theorem Am.swap (h:Am n D) {i k:Nat} (hi:i < n) (hk:k < n) (Pz:i≠k) (A:Mx):D (sw A i k)= - D A:=
 h.sw_of hi hk Pz (fun B hB=>h.equal hi hk Pz B hB) A
theorem Am.addrow (h:Am n D) {i k:Nat} (hi:i < n) (hk:k < n) (Pz:i≠k) (A:Mx) (t:Int):D (up A i (fun c=>A i c+t*A k c))=D A:=by
 have h1:=h.lin A i 1 t (A i) (A k) hi
 have h2:D (up A i (A k))=0:=h.equal hi hk Pz _ (fun c _=>by simp [up,Ne.symm Pz])
 rw [h2,mj] at h1
 simpa using h1
theorem Am.scale (h:Am n D) {i:Nat} (hi:i < n) (A:Mx) (t:Int):D (up A i (fun c=>t*A i c))=t*D A:=by
 have h1:=h.lin A i t 0 (A i) (A i) hi
 rw [mj] at h1
 simpa using h1
theorem Am.zero (h:Am n D) {i:Nat} (hi:i < n) (A:Mx) (he:∀ c,c < n→A i c=0):D A=0:=by
 have h1:=h.scale hi A 0
 have h2:D (up A i (fun c=>0*A i c))=D A:=h.congr _ _ fun r c hr hc=>by
  simp only [up]; split
  ·rename_i e; subst e; rw [he c hc]; rfl
  ·rfl
 rw [h2] at h1
 simpa using h1
theorem Am.sum (h:Am n D) {i:Nat} (hi:i < n) (A:Mx):∀ (m:Nat) (x:Nat→Int) (V:Nat→Nat→Int),D (up A i (fun c=>sm m fun j=>x j*V j c))=sm m fun j=>x j*D (up A i (V j)):=by
 intro m x V
 induction m with
 | zero=>exact h.zero hi _ (fun c _=>by simp [up,sm])
 | succ m ih=>
  simp only [sm]
  rw [h.add A hi (fun c=>sm m fun j=>x j*V j c) (fun c=>x m*V m c),ih]
  congr 1
  have:=h.lin A i (x m) 0 (V m) (V m) hi
  simpa using this
end
def one:Mx:=fun r c=>if r=c then 1 else 0
def unit (j:Nat):Nat→Int:=fun c=>if c=j then 1 else 0
def ins (j:Nat) (M:Mx):Mx:=fun r c=>if r=0 then unit j c else if c=j then 0 else M (r - 1) (if c < j then c else c - 1)
theorem VC (j:Nat) (M:Mx) (i:Nat) (v:Nat→Int):ins j (up M i v)=up (ins j M) (i+1) (fun c=>if c=j then 0 else v (if c < j then c else c - 1)):=by
 funext r c
 unfold ins up
 by_cases h0:r=0
 ·subst h0; simp
 ·by_cases h1:r=i+1
  ·subst h1; simp
  ·simp only [h0,h1,if_false]
   by_cases h2:c=j
   ·rw [M0 h2,M0 h2]
   ·rw [K0 h2,K0 h2,B0]
theorem WC {n:Nat} {D:Mx→Int} (h:Am (n+1) D) {j:Nat} (hj:j < n+1):Am n fun M=>D (ins j M):=by
 refine ⟨fun A B he=>h.congr _ _ fun r c hr hc=>?_,fun A i s t v w hi=>?_,fun A i hi he=>?_⟩
 ·unfold ins
  by_cases h0:r=0
  ·rw [M0 h0,M0 h0]
  ·rw [K0 h0,K0 h0]
   by_cases h2:c=j
   ·rw [M0 h2,M0 h2]
   ·rw [K0 h2,K0 h2]
    refine he _ _ A0 ?_
    split<;>omega
 ·simp only [VC]
  have:=h.lin (ins j A) (i+1) s t (fun c=>if c=j then 0 else v (if c < j then c else c - 1)) (fun c=>if c=j then 0 else w (if c < j then c else c - 1)) A0
  rw [← this]
  congr 2
  funext c
  split
  ·simp
  ·rfl
 ·refine h.adj (ins j A) (i+1) A0 fun c hc=>?_
  have e:∀ r,r≠0→ins j A r c=if c=j then 0 else A (r - 1) (if c < j then c else c - 1):=fun r hr=>by unfold ins; rw [K0 hr]
  rw [e _ A0,e _ A0]
  by_cases h2:c=j
  ·rw [M0 h2,M0 h2]
  ·rw [K0 h2,K0 h2]
   exact he _ (by split<;>omega)
def addm (A:Mx) (x:Nat→Int) (m:Nat):Mx:=fun r c=>if 0 < r∧r < m then A r c+x r*A 0 c else A r c
theorem Zk {A:Mx} {x:Nat→Int} {m r c:Nat} (h:0 < r∧r < m):addm A x m r c=A r c+x r*A 0 c:=by unfold addm; rw [M0 h]
theorem Cc {A:Mx} {x:Nat→Int} {m r c:Nat} (h:¬ (0 < r∧r < m)):addm A x m r c=A r c:=by unfold addm; rw [K0 h]
theorem C2 {A:Mx} {i c:Nat} {v:Nat→Int}:up A i v i c=v c:=by unfold up; rw [M0 rfl]
theorem J2 {A:Mx} {i r c:Nat} {v:Nat→Int} (h:r≠i):up A i v r c=A r c:=by unfold up; rw [K0 h]
theorem Am.addm {n:Nat} {D:Mx→Int} (h:Am n D) (A:Mx) (x:Nat→Int):∀ m,m≤n→D (addm A x m)=D A:=by
 intro m
 induction m with
 | zero=>exact fun _=>h.congr _ _ fun r c _ _=>Cc A0
 | succ m ih=>
  intro hm
  rw [← ih A0]
  by_cases h0:m=0
  ·subst h0
   exact h.congr _ _ fun r c _ _=>by rw [Cc A0,Cc A0]
  ·have:=h.addrow (i:=m) (k:=0) A0 A0 h0 (Dt.addm A x m) (x m)
   rw [← this]
   refine h.congr _ _ fun r c _ _=>?_
   by_cases hr:r=m
   ·subst hr
    rw [Zk A0,C2,Cc A0,Cc A0]
   ·rw [J2 hr]
    by_cases h1:0 < r∧r < m
    ·rw [Zk A0,Zk h1]
    ·rw [Cc A0,Cc h1]
theorem qa {p q:Prop} [Decidable p] [Decidable q] (h:p↔q):(if p then (1:Int) else 0)=if q then 1 else 0:=by
 by_cases hp:p
 ·rw [M0 hp,M0 (h.1 hp)]
 ·rw [K0 hp,K0 (fun hq=>hp (h.2 hq))]
theorem pc (j r c:Nat):ins j one r c=if (r=0∧c=j)∨(0 < r∧r≤j∧c+1=r)∨(j < r∧c=r) then 1 else 0:=by
 unfold ins one unit
 by_cases h0:r=0
 ·rw [M0 h0]
  exact qa A0
 ·rw [K0 h0]
  by_cases h1:c=j
  ·rw [M0 h1,B0]
  ·rw [K0 h1]
   by_cases h2:c < j
   ·rw [M0 h2]; exact qa A0
   ·rw [K0 h2]; exact qa A0
theorem pE {n:Nat} {D:Mx→Int} (h:Am (n+1) D):∀ j,j < n+1→D (ins j one)=sg j*D one:=by
 intro j
 induction j with
 | zero=>
  intro _
  rw [show sg 0=1 from rfl,M4]
  refine h.congr _ _ fun r c _ _=>?_
  rw [pc]
  unfold one
  exact qa A0
 | succ j ih=>
  intro hj
  have hs:=h.swap (i:=0) (k:=j+1) A0 hj A0 (ins j one)
  rw [ih A0] at hs
  rw [xj,Ph,← hs]
  refine h.congr _ _ fun r c _ _=>?_
  show ins (j+1) one r c=if r=0 then ins j one (j+1) c else if r=j+1 then ins j one 0 c else ins j one r c
  by_cases h0:r=0
  ·rw [M0 h0,pc,pc]; exact qa A0
  ·rw [K0 h0]
   by_cases h1:r=j+1
   ·rw [M0 h1,pc,pc]; exact qa A0
   ·rw [K0 h1,pc,pc]; exact qa A0
theorem Am.uniq:∀ {n:Nat} {D:Mx→Int},Am n D→∀ A,D A=det n A*D one
 | 0,D,h,A=>by
  rw [det,M4]
  exact h.congr _ _ fun r c hr _=>A0
 | n+1,D,h,A=>by
  have h0:D A=sm (n+1) fun j=>A 0 j*D (up A 0 (unit j)):=by
   rw [← h.sum A0 A (n+1) (A 0) unit]
   refine h.congr _ _ fun r c hr hc=>?_
   simp only [up]
   split
   ·rename_i e
    subst e
    have:=L4 (n:=n+1) (a:=c) (f:=A 0) hc
    rw [← this]
    refine W0 fun i hi=>?_
    unfold unit
    by_cases e:i=c
    ·rw [M0 e,M0 e.symm,J6]
    ·rw [K0 e,K0 (fun e'=>e e'.symm),Q3]
   ·rfl
  rw [h0,det,← N7]
  refine W0 fun j hj=>?_
  have h1:D (up A 0 (unit j))=D (ins j (mn A j)):=by
   rw [← h.addm (ins j (mn A j)) (fun r=>A r j) (n+1) A0]
   refine h.congr _ _ fun r c hr hc=>?_
   unfold Dt.addm up
   by_cases e0:r=0
   ·subst e0
    rw [M0 rfl,B0]
    unfold ins
    rw [M0 rfl]
   ·rw [K0 e0,C0]
    unfold ins mn
    simp only [if_true,K0 e0]
    unfold unit
    by_cases e:c=j
    ·subst e; rw [M0 rfl,M0 rfl]; omega
    ·rw [K0 e,K0 e,show r - 1+1=r by omega]
     unfold sk
     by_cases e2:c < j
     ·rw [M0 e2,M0 e2]; omega
     ·rw [K0 e2,B0,show c - 1+1=c by omega]; omega
  have h2:D (ins j (mn A j))=det n (mn A j)*D (ins j one):=Am.uniq (WC h hj) (mn A j)
  rw [h1,h2,pE h j hj]
  grind
theorem He:∀ n,det n one=1
 | 0=>rfl
 | n+1=>by
  have h1:det (n+1) one=sm (n+1) fun j=>if j=0 then det n (mn one 0) else 0:=by
   rw [det]
   refine W0 fun j hj=>?_
   unfold one
   by_cases h:j=0
   ·subst h; simp [sg]
   ·rw [B0,K0 h]; simp
  rw [h1,L4 (f:=fun _=>det n (mn one 0)) A0,← He n]
  refine w5 fun r c _ _=>?_
  unfold mn one
  have:sk 0 c=c+1:=rfl
  rw [this]
  exact qa A0
def mul (n:Nat) (A B:Mx):Mx:=fun r c=>sm n fun k=>A r k*B k c
theorem one_mul {n:Nat} {B:Mx} {r c:Nat} (hr:r < n):mul n one B r c=B r c:=by
 unfold mul
 rw [← L4 (f:=fun k=>B k c) hr]
 refine W0 fun k hk=>?_
 unfold one
 by_cases h:r=k
 ·rw [M0 h,M0 h.symm,M4]
 ·rw [K0 h,K0 (fun e=>h e.symm),V3]
def tp (A:Mx):Mx:=fun r c=>A c r
theorem Gu:∀ {n i:Nat} (A:Mx) (s t:Int) (v w:Nat→Int),i < n→det n (tp (up (tp A) i (fun c=>s*v c+t*w c)))=s*det n (tp (up (tp A) i v))+t*det n (tp (up (tp A) i w))
 | 0,i,_,_,_,_,_,h=>A0
 | n+1,i,A,s,t,v,w,h=>by
  rw [det,det,det,← Uc]
  refine W0 fun j hj=>?_
  by_cases FJ:j=i
  ·subst FJ
   have e:∀ x,mn (tp (up (tp A) j x)) j=mn A j:=by
    intro x
    funext r c
    simp only [mn,tp,up]
    rw [K0]
    unfold sk
    split<;>omega
   rw [e,e,e]
   simp only [tp,up,if_true]
   grind
  ·
   have e:∀ x,mn (tp (up (tp A) i x)) j=tp (up (tp (mn A j)) (if i < j then i else i - 1) (fun c=>x (c+1))):=by
    intro x
    funext r c
    simp only [mn,tp,up]
    have:(sk j c=i)↔(c=if i < j then i else i - 1):=by
     unfold sk
     split<;>split<;>omega
    by_cases h1:sk j c=i
    ·rw [M0 h1,M0 (this.1 h1)]
    ·rw [K0 h1,K0 (fun h2=>h1 (this.2 h2))]
   rw [e,e,e,Gu (mn A j) s t (fun c=>v (c+1)) (fun c=>w (c+1)) (by split<;>omega)]
   have e2:∀ x,tp (up (tp A) i x) 0 j=A 0 j:=by
    intro x
    simp only [tp,up]
    rw [K0 FJ]
   rw [e2,e2,e2]
   grind
theorem Hu:∀ {n i:Nat} {A:Mx},i+1 < n→(∀ r,r < n→A r i=A r (i+1))→det n A=0
 | 0,_,_,h,_=>A0
 | n+1,i,A,h,he=>by
  have hz:∀ j,j < n+1→j≠i→j≠i+1→det n (mn A j)=0:=by
   intro j hj h1 h2
   refine Hu (i:=if i < j then i else i - 1) (by split<;>omega) fun r hr=>?_
   simp only [mn]
   have e1:sk j (if i < j then i else i - 1)=i:=by unfold sk; split<;>(try split)<;>omega
   have e2:sk j ((if i < j then i else i - 1)+1)=i+1:=by unfold sk; split<;>(try split)<;>omega
   rw [e1,e2]
   exact he _ A0
  have hm:det n (mn A i)=det n (mn A (i+1)):=by
   refine w5 fun r c hr hc=>?_
   simp only [mn]
   unfold sk
   by_cases h1:c < i
   ·rw [M0 h1,C0]
   ·rw [K0 h1]
    by_cases h2:c=i
    ·subst h2; rw [C0]; exact (he _ A0).symm
    ·rw [B0]
  rw [det]
  have hs:sm (n+1) (fun j=>sg j*A 0 j*det n (mn A j))=sm (n+1) (fun j=>(if j=i then sg i*A 0 i*det n (mn A i) else 0)+(if j=i+1 then sg (i+1)*A 0 (i+1)*det n (mn A (i+1)) else 0)):=by
   refine W0 fun j hj=>?_
   by_cases h1:j=i
   ·subst h1; rw [M0 rfl,B0]; omega
   ·by_cases h2:j=i+1
    ·subst h2; rw [K0 h1,M0 rfl]; omega
    ·rw [K0 h1,K0 h2,hz j hj h1 h2]; simp
  rw [hs,G7,L4 (f:=fun _=>sg i*A 0 i*det n (mn A i)) A0,L4 (f:=fun _=>sg (i+1)*A 0 (i+1)*det n (mn A (i+1))) h,xj,hm,← he 0 A0]
  grind
theorem Ky (n:Nat):Am n fun A=>det n (tp A):=by
 refine ⟨fun A B he=>w5 fun r c hr hc=>he c r hc hr,fun A i s t v w hi=>?_,fun A i hi he=>Hu hi fun r hr=>he r hr⟩
 exact Gu (tp A) s t v w hi
theorem Hk (n:Nat) (A:Mx):det n (tp A)=det n A:=by
 have h:det n (tp A)=det n A*det n (tp one):=(Ky n).uniq A
 rw [h]
 have:det n (tp one)=1:=by
  rw [← He n]
  exact w5 fun r c _ _=>by unfold tp one; exact qa A0
 rw [this,J6]
def adds (A:Mx) (k:Nat) (x:Nat→Int) (m:Nat):Mx:=fun r c=>if r≠k∧r < m then A r c+x r*A k c else A r c
theorem W8 {A:Mx} {x:Nat→Int} {k m r c:Nat} (h:r≠k∧r < m):adds A k x m r c=A r c+x r*A k c:=by unfold adds; rw [M0 h]
theorem A7 {A:Mx} {x:Nat→Int} {k m r c:Nat} (h:¬ (r≠k∧r < m)):adds A k x m r c=A r c:=by unfold adds; rw [K0 h]
theorem Am.adds {n:Nat} {D:Mx→Int} (h:Am n D) (A:Mx) {k:Nat} (hk:k < n) (x:Nat→Int):∀ m,m≤n→D (adds A k x m)=D A:=by
 intro m
 induction m with
 | zero=>exact fun _=>h.congr _ _ fun r c _ _=>A7 A0
 | succ m ih=>
  intro hm
  rw [← ih A0]
  by_cases h0:m=k
  ·subst h0
   refine h.congr _ _ fun r c _ _=>?_
   by_cases h1:r≠m∧r < m+1
   ·rw [W8 h1,W8 A0]
   ·rw [A7 h1,A7 A0]
  ·have:=h.addrow (i:=m) (k:=k) A0 hk h0 (Dt.adds A k x m) (x m)
   rw [← this]
   refine h.congr _ _ fun r c _ _=>?_
   by_cases hr:r=m
   ·subst hr
    rw [W8 A0,C2,A7 A0,A7 A0]
   ·rw [J2 hr]
    by_cases h1:r≠k∧r < m
    ·rw [W8 A0,W8 h1]
    ·rw [A7 A0,A7 h1]
def cl (A:Mx) (j i:Nat):Mx:=fun r c=>if r=j then unit i c else if c=i then 0 else A r c
theorem Jk {n:Nat} (A:Mx) {j i:Nat} (hj:j < n):det n (up A j (unit i))=det n (cl A j i):=by
 rw [← (L9 n).adds (up A j (unit i)) hj (fun r=>- A r i) n A0]
 refine w5 fun r c hr hc=>?_
 by_cases h:r=j
 ·subst h
  rw [A7 A0,C2]
  unfold cl
  rw [M0 rfl]
 ·rw [W8 ⟨h,hr⟩,J2 h,C2]
  unfold cl unit
  rw [K0 h]
  by_cases h2:c=i
  ·rw [M0 h2,M0 h2,h2]; omega
  ·rw [K0 h2,K0 h2]; omega
def adj (n:Nat) (A:Mx):Mx:=fun i j=>det n (up A j (unit i))
theorem gF {n:Nat} (A:Mx) {i j:Nat} (hi:i < n) (hj:j < n):adj n (tp A) j i=adj n A i j:=by
 unfold adj
 rw [Jk _ hi,Jk _ hj,← Hk n (cl (tp A) i j)]
 refine w5 fun r c _ _=>?_
 simp only [tp,cl,unit]
 by_cases h1:c=i
 ·rw [M0 h1]
  by_cases h2:r=j
  ·rw [M0 h2,M0 h2,M0 h1]
  ·rw [K0 h2,K0 h2,M0 h1]
 ·rw [K0 h1]
  by_cases h2:r=j
  ·rw [M0 h2,M0 h2,K0 h1]
  ·rw [K0 h2,K0 h2,K0 h1]
theorem mA {n:Nat} (v:Nat→Int) {c:Nat} (hc:c < n):sm n (fun j=>v j*unit j c)=v c:=by
 rw [← L4 (f:=v) hc]
 refine W0 fun j _=>?_
 unfold unit
 by_cases h:j=c
 ·rw [M0 h,M0 h.symm,J6]
 ·rw [K0 h,K0 (fun e=>h e.symm),Q3]
theorem lE {n:Nat} (A:Mx) {j:Nat} (hj:j < n) (v:Nat→Int):sm n (fun c=>v c*adj n A c j)=det n (up A j v):=by
 unfold adj
 rw [← (L9 n).sum hj A n v unit]
 refine w5 fun r c hr hc=>?_
 by_cases h:r=j
 ·subst h; rw [C2,C2]; exact mA v hc
 ·rw [J2 h,J2 h]
theorem Sj {n:Nat} (A:Mx) {r j:Nat} (hr:r < n) (hj:j < n):sm n (fun c=>A r c*adj n A c j)=if r=j then det n A else 0:=by
 rw [lE A hj (A r)]
 by_cases h:r=j
 ·subst h; rw [M0 rfl,mj]
 ·rw [K0 h]
  refine (L9 n).equal hr hj h _ fun c _=>?_
  rw [J2 h,C2]
theorem Uu {n:Nat} (A:Mx) {i c:Nat} (hi:i < n) (hc:c < n):sm n (fun j=>adj n A i j*A j c)=if i=c then det n A else 0:=by
 have h:=Sj (tp A) hc hi
 have e:sm n (fun j=>tp A c j*adj n (tp A) j i)=sm n (fun j=>adj n A i j*A j c):=W0 fun j hj=>by
  rw [gF A hi hj]
  show A j c*_=_
  rw [P2]
 rw [← e,h,Hk]
 by_cases h:i=c
 ·rw [M0 h,M0 h.symm]
 ·rw [K0 h,K0 (fun e=>h e.symm)]
theorem Bj {n:Nat} {A:Mx} (hd:det n A≠0) {w:Nat→Int} (h:∀ c,c < n→sm n (fun r=>w r*A r c)=0):∀ r,r < n→w r=0:=by
 intro i hi
 have h1:sm n (fun c=>sm n (fun r=>w r*A r c)*adj n A c i)=0:=C5 fun c hc=>by rw [h c hc,V3]
 have h2:sm n (fun c=>sm n (fun r=>w r*A r c)*adj n A c i)=w i*det n A:=by
  have e:sm n (fun c=>sm n (fun r=>w r*A r c)*adj n A c i)=sm n (fun c=>sm n fun r=>w r*(A r c*adj n A c i)):=W0 fun c _=>by
   rw [← N7]; exact W0 fun r _=>by grind
  rw [e,E7]
  have e2:sm n (fun r=>sm n fun c=>w r*(A r c*adj n A c i))=sm n (fun r=>if r=i then w r*det n A else 0):=W0 fun r hr=>by
   rw [H3,Sj A hr hi]
   by_cases h:r=i
   ·rw [M0 h,M0 h]
   ·rw [K0 h,K0 h,Q3]
  rw [e2,L4 (f:=fun r=>w r*det n A) hi]
 rw [h1] at h2
 rcases K4.1 h2.symm with h3 | h3
 ·exact h3
 ·exact absurd h3 hd
theorem gh {n:Nat} {A:Mx} (hd:det n A≠0) {w:Nat→Int} (h:∀ r,r < n→sm n (fun c=>A r c*w c)=0):∀ c,c < n→w c=0:=by
 refine Bj (A:=tp A) (by rw [Hk]; exact hd) fun c hc=>?_
 rw [← h c hc]
 exact W0 fun r _=>P2 _ _
end Dt
namespace Nt
structure Prm (p:Nat):Prop where
 two:2≤p
 div:∀ d,d ∣ p→d=1∨d=p
theorem Prm.of {p:Nat} (h2:2≤p) (h:∀ d,2≤d→d*d≤p→¬ d ∣ p):Prm p:=by
 refine ⟨h2,fun d hd=>H1 fun eA=>?_⟩
 obtain ⟨e,he⟩:=hd
 have rD:d≠0:=by rintro rfl; simp at he; omega
 have GO:e≠0:=by rintro rfl; simp at he; omega
 have HT:e≠1:=by rintro rfl; simp at he; omega
 by_cases hle:d≤e
 ·exact h d A0 (by rw [he]; exact nv d hle) ⟨e,he⟩
 ·exact h e A0 (by rw [he]; exact Eb e A0) ⟨d,by rw [he,G8]⟩
theorem Prm.cop {p a:Nat} (h:Prm p) (ha:¬ p ∣ a):Nat.Coprime p a:=by
 rcases h.div _ (Nat.gcd_dvd_left p a) with h1 | h1
 ·exact h1
 ·exact absurd (h1▸Nat.gcd_dvd_right p a) ha
theorem Prm.euclid {p a b:Nat} (h:Prm p) (DG:p ∣ a*b):p ∣ a∨p ∣ b:=by
 by_cases ha:p ∣ a
 ·exact .inl ha
 ·exact .inr ((h.cop ha).dvd_of_dvd_mul_left DG)
def prod:List Nat→Nat
 | []=>1
 | x::l=>x*prod l
theorem uB {l m:List Nat} (h:l.Perm m):prod l=prod m:=by
 induction h with
 | nil=>rfl
 | cons x _ ih=>simp only [prod,ih]
 | swap x y l=>simp only [prod]; rw [← El,← El,G8 y x]
 | trans _ _ h1 h2=>rw [h1,h2]
theorem Cs {a p:Nat}:∀ l:List Nat,prod (l.map fun k=>a*k % p) % p=a ^ l.length*prod l % p
 | []=>by simp [prod]
 | x::l=>by
  have ih:=Cs (a:=a) (p:=p) l
  simp only [Jc,prod,I2]
  have e:a ^ (l.length+1)*(x*prod l)=a*x*(a ^ l.length*prod l):=by
   rw [Nat.pow_succ]
   simp only [El,G8,Nat.mul_left_comm]
  rw [e,Ec,Nat.mod_mod,ih,← Ec]
theorem Ds {p:Nat} (h:Prm p):∀ l:List Nat,(∀ x,x∈l→0 < x∧x < p)→¬ p ∣ prod l
 | [],_=>by
  intro hd
  have:=Ib (by simp [prod]) hd
  have:=h.two
  simp only [prod] at*
  omega
 | x::l,hl=>by
  intro hd
  rcases h.euclid hd with h1 | h1
  ·have:=Ib (hl x H0).1 h1
   have:=(hl x H0).2
   omega
  ·exact Ds h l (fun y hy=>hl y (by simp [hy])) h1
theorem HB {l m:List Nat} (hl:l.Nodup) (hs:∀ x,x∈l→x∈m) (hm:m.Nodup) (he:m.length≤l.length):l.Perm m:=by
 induction l generalizing m with
 | nil=>
  have:m=[]:=S6 (by simpa using he)
  rw [this]
 | cons x l ih=>
  rw [List.nodup_cons] at hl
  have hx:=hs x H0
  have hp:=List.perm_cons_erase hx
  refine .trans ?_ hp.symm
  refine .cons x (ih hl.2 (fun y hy=>?_) (hm.erase x) ?_)
  ·exact (List.mem_erase_of_ne (by rintro rfl; exact hl.1 hy)).2 (hs y (by simp [hy]))
  ·rw [List.length_erase_of_mem hx]
   simp only [I2] at he
   omega
theorem Au {x y p:Nat} (h:x % p=y % p):p ∣ y - x:=BF (Nat.sub_mod_eq_zero_of_mod_eq h.symm)
theorem iC {x y p:Nat} (hle:x≤y) (h:p ∣ y - x):x % p=y % p:=by
 obtain ⟨k,hk⟩:=h
 have:y=x+p*k:=A0
 rw [this,Nat.add_mul_mod_self_left]
theorem Prm.fermat {p a:Nat} (h:Prm p) (ha:¬ p ∣ a):a ^ (p - 1) % p=1:=by
 have h2:=h.two
 let L:=(List.range (p - 1)).map (·+ 1)
 have VG:∀ x,x∈L↔0 < x∧x < p:=by
  intro x
  simp only [L,Fh,Z6]
  constructor
  ·rintro ⟨y,hy,rfl⟩; omega
  ·rintro ⟨h1,h3⟩; exact ⟨x - 1,A0,A0⟩
 have hL:L.Nodup:=by
  rw [Ql,Cv]
  exact (Ql.1 List.nodup_range).imp fun h e=>h A0
 have hlen:L.length=p - 1:=by simp [L]
 have jI:∀ x y,x < p→y < p→a*x % p=a*y % p→x≤y→x=y:=by
  intro x y hx hy he hle
  have h1:p ∣ a*(y - x):=by
   rw [Nat.mul_sub]
   exact Au he
  rcases h.euclid h1 with h3 | h3
  ·exact absurd h3 ha
  ·refine H1 fun kx=>?_
   have:=Ib A0 h3
   omega
 have hp:(L.map fun k=>a*k % p).Perm L:=by
  refine HB ?_ (fun x hx=>?_) hL H0
  ·rw [Ql,Cv]
   have h3:L.Pairwise fun x y=>x∈L∧y∈L:=List.Pairwise.and_mem.1 (List.pairwise_of_forall (l:=L) (R:=fun _ _=>True) (fun _ _=>trivial)) |>.imp fun h=>⟨h.1,h.2.1⟩
   refine ((Ql.1 hL).and h3).imp ?_
   rintro x y ⟨kx,hx,hy⟩ he
   have hx:=(VG x).1 hx
   have hy:=(VG y).1 hy
   rcases Nat.le_total x y with hle | hle
   ·exact kx (jI x y hx.2 hy.2 he hle)
   ·exact kx (jI y x hy.2 hx.2 he.symm hle).symm
  ·obtain ⟨k,hk,rfl⟩:=Fh.1 hx
   have hk:=(VG k).1 hk
   refine (VG _).2 ⟨Bl fun h0=>?_,Gb _ A0⟩
   rcases h.euclid (BF h0) with h3 | h3
   ·exact ha h3
   ·have:=Ib hk.1 h3; omega
 have h3:=Cs (a:=a) (p:=p) L
 rw [uB hp,hlen] at h3
 have xN:=Ds h L (fun x hx=>(VG x).1 hx)
 have uH:1≤a ^ (p - 1):=Bl fun h0=>by
  have:a≠0:=by rintro rfl; exact ha (Nat.dvd_zero p)
  exact absurd h0 (Nat.pos_iff_ne_zero.1 (Nat.pow_pos A0))
 have h4:p ∣ a ^ (p - 1)*prod L - 1*prod L:=Au (by rw [Bh]; exact h3)
 rw [← Nat.sub_mul] at h4
 have h5:=(h.euclid h4).resolve_right xN
 have h6:1 % p=a ^ (p - 1) % p:=iC uH h5
 rw [← h6]
 exact uv A0
def ab (x:Int):Int:=if x < 0 then -x else x
theorem jF (x:Int):0≤ab x:=by unfold ab; split<;>omega
theorem il {x:Int} (h:x≤0):ab x= -x:=by unfold ab; split<;>omega
theorem fl {x:Int} (h:0≤x):ab x=x:=by unfold ab; split<;>omega
structure Eu (m x:Int) (r0 r1 t0 t1:Int):Prop where
 n0:0 < r0
 n1:0≤r1
 le:r1≤r0
 sum:r0*ab t1+r1*ab t0=m
 sgn:(0≤t0∧t1≤0)∨(t0≤0∧0≤t1)
 t:t1≠0
 c0:m ∣ r0 - t0*x
 c1:m ∣ r1 - t1*x
theorem Eu.start {m x:Int} (hm:0 < m) (hx:0≤x∧x < m):Eu m x m x 0 1:=
 ⟨hm,hx.1,A0,by simp [ab],.inr ⟨A0,A0⟩,A0,⟨1,H0⟩,⟨0,A0⟩⟩
theorem Eu.step {m x r0 r1 t0 t1:Int} (h:Eu m x r0 r1 t0 t1) (h1:0 < r1):Eu m x r1 (r0 - r0 / r1*r1) t1 (t0 - r0 / r1*t1):=by
 have hq:1≤r0 / r1:=by
  have:=h.le
  have h2:1*r1≤r0:=A0
  exact (ff h1).2 h2
 have hm:=P3 r0 (show r1≠0 by omega)
 have qD:=W3 r0 h1
 have he:r0 - r0 / r1*r1=r0 % r1:=by
  have:=V4 r0 r1
  rw [P2] at this
  omega
 have hs:=h.sum
 generalize cM:r0 / r1=q at*
 have DG:ab (t0 - q*t1)=ab t0+q*ab t1:=by
  rcases h.sgn with ⟨a1,a2⟩ | ⟨a1,a2⟩
  ·have:q*t1≤0:=cf A0 a2
   rw [fl a1,il a2,fl A0]; grind
  ·have:0≤q*t1:=O3 A0 a2
   rw [il a1,fl a2,il A0]; grind
 refine ⟨h1,A0,A0,?_,?_,?_,h.c1,?_⟩
 ·rw [DG]; grind
 ·rcases h.sgn with ⟨a1,a2⟩ | ⟨a1,a2⟩
  ·have:q*t1≤0:=cf A0 a2
   exact .inr ⟨a2,A0⟩
  ·have:0≤q*t1:=O3 A0 a2
   exact .inl ⟨a2,A0⟩
 ·intro h0
  have h2:ab (t0 - q*t1)=0:=by rw [h0]; rfl
  rw [DG] at h2
  have h3:=jF t0
  have h4:0 < ab t1:=by
   have:=h.t
   unfold ab; split<;>omega
  have h5:1*ab t1≤q*ab t1:=D3 hq A0
  omega
 ·obtain ⟨a,ha⟩:=h.c0
  obtain ⟨b,hb⟩:=h.c1
  refine ⟨a - q*b,?_⟩
  have:r0 - q*r1 - (t0 - q*t1)*x=(r0 - t0*x) - q*(r1 - t1*x):=by grind
  rw [this,ha,hb]
  grind
def nodiv (p:Nat):Nat→Nat→Bool
 | 0,_=>true
 | n+1,d=>!(Nat.beq (p % d) 0) && nodiv p n (d+1)
theorem Rs {p:Nat}:∀ (n d:Nat),nodiv p n d=true→∀ e,d≤e→e < d+n→¬ e ∣ p
 | 0,d,_,e,h1,h2=>A0
 | n+1,d,h,e,h1,h2=>by
  simp only [nodiv,w4,B7] at h
  by_cases ZR:e=d
  ·subst ZR
   intro hd
   have h3:=Nat.mod_eq_zero_of_dvd hd
   have h4:=h.1
   rw [h3] at h4
   cases h4
  ·exact Rs n (d+1) h.2 e A0 A0
theorem Prm.by_nodiv {p n:Nat} (h2:2≤p) (h:nodiv p n 2=true) (hn:p < (n+2)*(n+2)):Prm p:=by
 refine Prm.of h2 fun d hd lK=>Rs n 2 h d hd ?_
 refine H1 fun eA=>?_
 have:(n+2)*(n+2)≤d*d:=S9 A0 A0
 omega
theorem ZB:nodiv 2147483647 46340 2=true:=I0
theorem wB:Prm 2147483647:=Prm.by_nodiv A0 ZB A0
theorem Gs (a n:Nat):a ^ n=a ^ (n % 2)*(a*a) ^ (n / 2):=by
 have h:n=n % 2+2*(n / 2):=A0
 conv=>lhs; rw [h]
 rw [Nat.pow_add,Nat.pow_mul,Nat.pow_two]
theorem BB {out a n p:Nat} (h:n % 2=1):(out*a % p)*(a*a % p) ^ (n / 2) % p=out*a ^ n % p:=by
 rw [Gs a n,h,Nat.pow_one,← El]
 rw [Ec,Nat.mod_mod,← Nat.pow_mod,← Ec]
theorem CB {out a n p:Nat} (h:n % 2=0):out*(a*a % p) ^ (n / 2) % p=out*a ^ n % p:=by
 rw [Gs a n,h,Nat.pow_zero,Bh]
 rw [Ec,← Nat.pow_mod,← Ec]
theorem RC {p a:Nat} (hp:Prm p) (h0:0 < a) (h1:a < p):a*(a ^ (p - 2) % p) % p=1:=by
 have h2:=hp.two
 have hn:¬ p ∣ a:=fun hd=>by have:=Ib h0 hd; omega
 have hf:=hp.fermat hn
 rw [Ec,Nat.mod_mod,← Ec]
 have e:a*a ^ (p - 2)=a ^ (p - 1):=by
  rw [show p - 1=(p - 2)+1 by omega,Nat.pow_succ,G8]
 rw [e,hf]
end Nt
namespace Dt
def Cg (p a b:Int):Prop:=p ∣ a - b
theorem Cg.refl (p a:Int):Cg p a a:=⟨0,A0⟩
theorem Cg.symm {p a b:Int} (h:Cg p a b):Cg p b a:=by obtain ⟨k,hk⟩:=h; exact ⟨-k,by rw [df]; omega⟩
theorem Cg.trans {p a b c:Int} (h:Cg p a b) (h':Cg p b c):Cg p a c:=by
 obtain ⟨k,hk⟩:=h; obtain ⟨m,hm⟩:=h'; exact ⟨k+m,by rw [T6]; omega⟩
theorem Cg.add {p a b c d:Int} (h:Cg p a b) (h':Cg p c d):Cg p (a+c) (b+d):=by
 obtain ⟨k,hk⟩:=h; obtain ⟨m,hm⟩:=h'; exact ⟨k+m,by rw [T6]; omega⟩
theorem Cg.sub {p a b c d:Int} (h:Cg p a b) (h':Cg p c d):Cg p (a - c) (b - d):=by
 obtain ⟨k,hk⟩:=h; obtain ⟨m,hm⟩:=h'; exact ⟨k - m,by rw [A9]; omega⟩
theorem Cg.neg {p a b:Int} (h:Cg p a b):Cg p (-a) (-b):=by
 obtain ⟨k,hk⟩:=h; exact ⟨-k,by rw [df]; omega⟩
theorem Cg.mul {p a b c d:Int} (h:Cg p a b) (h':Cg p c d):Cg p (a*c) (b*d):=by
 obtain ⟨k,hk⟩:=h; obtain ⟨m,hm⟩:=h'
 refine ⟨k*c+b*m,?_⟩
 have e:a*c - b*d=(a - b)*c+b*(c - d):=by grind
 rw [e,hk,hm]
 grind
theorem Cg.mod (p a:Int):Cg p (a % p) a:=by
 refine ⟨-(a / p),?_⟩
 have:=V4 a p
 rw [df]
 omega
theorem Cg.iff {p a b:Int}:Cg p a b↔a % p=b % p:=by
 constructor
 ·rintro ⟨k,hk⟩
  have:a=b+p*k:=A0
  rw [this,mm]
 ·intro h
  exact ((Cg.mod p a).symm.trans (h▸Cg.refl p _)).trans (Cg.mod p b)
theorem Cg.zero {p a:Int}:Cg p a 0↔a % p=0:=by rw [Cg.iff]; simp
theorem Cg.eq {p a b:Int} (h:Cg p a b) (ha:0≤a∧a < p) (hb:0≤b∧b < p):a=b:=by
 have:=Cg.iff.1 h
 rwa [X4 ha.1 ha.2,X4 hb.1 hb.2] at this
theorem Cg.sm {p:Int} {n:Nat} {f g:Nat→Int} (h:∀ i,i < n→Cg p (f i) (g i)):Cg p (sm n f) (sm n g):=by
 induction n with
 | zero=>exact .refl _ _
 | succ n ih=>exact (ih fun i hi=>h i A0).add (h n A0)
theorem Cg.det {p:Int}:∀ {n:Nat} {A B:Mx},(∀ i j,i < n→j < n→Cg p (A i j) (B i j))→Cg p (det n A) (det n B)
 | 0,_,_,_=>.refl _ _
 | n+1,A,B,h=>by
  rw [Dt.det,Dt.det]
  refine Cg.sm fun j hj=>?_
  exact ((Cg.refl p _).mul (h 0 j A0 hj)).mul (Cg.det fun i k hi hk=>h _ _ A0 (te hj hk))
def Nl (p:Int) (n w:Nat) (M:Mx) (x:Nat→Int):Prop:=∀ r,r < n→Cg p (sm w fun c=>M r c*x c) 0
def Rq (p:Int) (n w:Nat) (M M':Mx):Prop:=∀ x,Nl p n w M x↔Nl p n w M' x
theorem Rq.refl (p:Int) (n w:Nat) (M:Mx):Rq p n w M M:=fun _=>Yd
theorem Rq.trans {p:Int} {n w:Nat} {A B C:Mx} (h:Rq p n w A B) (h':Rq p n w B C):Rq p n w A C:=fun x=>(h x).trans (h' x)
theorem Rq.symm {p:Int} {n w:Nat} {A B:Mx} (h:Rq p n w A B):Rq p n w B A:=fun x=>(h x).symm
theorem Rq.cg {p:Int} {n w:Nat} {A B:Mx} (h:∀ r c,r < n→c < w→Cg p (A r c) (B r c)):Rq p n w A B:=by
 intro x
 have e:∀ r,r < n→Cg p (sm w fun c=>A r c*x c) (sm w fun c=>B r c*x c):=fun r hr=>Cg.sm fun c hc=>(h r c hr hc).mul (.refl _ _)
 exact ⟨fun hA r hr=>(e r hr).symm.trans (hA r hr),fun hB r hr=>(e r hr).trans (hB r hr)⟩
theorem Rq.sw {p:Int} {n w:Nat} (A:Mx) {i k:Nat} (hi:i < n) (hk:k < n):Rq p n w A (sw A i k):=by
 intro x
 constructor
 ·intro h r hr
  unfold Dt.sw
  by_cases h1:r=i
  ·simp only [h1,if_true]; exact h k hk
  ·by_cases h2:r=k
   ·simp only [h1,if_false]; simp only [h2,if_true]; exact h i hi
   ·simp only [h1,h2,if_false]; exact h r hr
 ·intro h r hr
  by_cases h1:r=i
  ·by_cases h2:i=k
   ·have:=h r hr
    unfold Dt.sw at this
    subst h1; subst h2; simpa using this
   ·have:=h k hk
    unfold Dt.sw at this
    rw [h1]
    simpa [Ne.symm h2] using this
  ·by_cases h2:r=k
   ·have:=h i hi
    unfold Dt.sw at this
    rw [h2]
    simpa using this
   ·have:=h r hr
    unfold Dt.sw at this
    simpa [h1,h2] using this
theorem rj (w:Nat) (f:Int) (v x:Nat→Int):sm w (fun c=>f*v c*x c)=f*sm w (fun c=>v c*x c):=by
 rw [← H3]; exact W0 fun c _=>by grind
theorem Rq.scale {p:Int} {n w:Nat} (A:Mx) {i:Nat} (hi:i < n) {f g:Int} (EO:Cg p (g*f) 1):Rq p n w A (up A i (fun c=>f*A i c)):=by
 intro x
 constructor
 ·intro h r hr
  by_cases h1:r=i
  ·subst h1
   simp only [C2]
   rw [rj]
   have:=(Cg.refl p f).mul (h r hr)
   simpa using this
  ·simp only [J2 h1]; exact h r hr
 ·intro h r hr
  have h2:=h r hr
  by_cases h1:r=i
  ·subst h1
   simp only [C2] at h2
   rw [rj] at h2
   have h3:=(Cg.refl p g).mul h2
   rw [Q3,← y7] at h3
   have h4:=EO.mul (Cg.refl p (sm w fun c=>A r c*x c))
   rw [M4] at h4
   exact h4.symm.trans h3
  ·simp only [J2 h1] at h2; exact h2
theorem br (w:Nat) (f:Int) (u v x:Nat→Int):sm w (fun c=>(u c+f*v c)*x c)=sm w (fun c=>u c*x c)+f*sm w (fun c=>v c*x c):=by
 rw [← H3,← G7]; exact W0 fun c _=>by grind
theorem Rq.add {p:Int} {n w:Nat} (A:Mx) {i k:Nat} (hi:i < n) (hk:k < n) (Pz:i≠k) (f:Int):Rq p n w A (up A i (fun c=>A i c+f*A k c)):=by
 intro x
 constructor
 ·intro h r hr
  by_cases h1:r=i
  ·subst h1
   simp only [C2]
   rw [br]
   have:=(h r hr).add ((Cg.refl p f).mul (h k hk))
   simpa using this
  ·simp only [J2 h1]; exact h r hr
 ·intro h r hr
  have h2:=h r hr
  by_cases h1:r=i
  ·subst h1
   simp only [C2] at h2
   rw [br] at h2
   have h3:=h k hk
   simp only [J2 (Ne.symm Pz)] at h3
   have:=h2.sub ((Cg.refl p f).mul h3)
   simp only [Q3,Ea] at this
   rwa [Int.add_sub_cancel] at this
  ·simp only [J2 h1] at h2; exact h2
theorem Rq.adds {p:Int} {n w:Nat} (A:Mx) {k:Nat} (hk:k < n) (x:Nat→Int):∀ m,m≤n→Rq p n w A (adds A k x m):=by
 intro m
 induction m with
 | zero=>exact fun _=>Rq.cg fun r c _ _=>by rw [A7 A0]; exact .refl _ _
 | succ m ih=>
  intro hm
  refine (ih A0).trans ?_
  by_cases h0:m=k
  ·subst h0
   refine Rq.cg fun r c _ _=>?_
   by_cases h1:r≠m∧r < m
   ·rw [W8 h1,W8 A0]; exact .refl _ _
   ·rw [A7 h1,A7 A0]; exact .refl _ _
  ·refine (Rq.add (p:=p) (n:=n) (w:=w) (Dt.adds A k x m) (i:=m) (k:=k) A0 hk h0 (x m)).trans ?_
   refine Rq.cg fun r c _ _=>?_
   by_cases hr:r=m
   ·subst hr
    rw [W8 A0,C2,A7 A0,A7 A0]; exact .refl _ _
   ·rw [J2 hr]
    by_cases h1:r≠k∧r < m
    ·rw [W8 h1,W8 A0]; exact .refl _ _
    ·rw [A7 h1,A7 A0]; exact .refl _ _
theorem Rq.step {p:Int} {n w:Nat} (A:Mx) {k:Nat} (hk:k < n) {f g:Int} (EO:Cg p (g*f) 1) (x:Nat→Int):Rq p n w A (Dt.adds (up A k (fun c=>f*A k c)) k x n):=
 (Rq.scale A hk EO).trans (Rq.adds _ hk x n (H2 n))
theorem mE {n:Nat} (A:Mx) {k:Nat} (hk:k < n) (f:Int) (x:Nat→Int):det n (Dt.adds (up A k (fun c=>f*A k c)) k x n)=f*det n A:=by
 rw [(L9 n).adds _ hk x n (H2 n),(L9 n).scale hk A f]
structure Rre (p:Int) (n w:Nat) (M:Mx) (col:Nat→Nat) (k c:Nat):Prop where
 kn:k≤n
 cw:c≤w
 lt:∀ s,s < k→col s < c
 asc:∀ s t,s < t→t < k→col s < col t
 unit:∀ s r,s < k→r < n→M r (col s)=if r=s then 1 else 0
 zero:∀ r j,k≤r→r < n→j < c→M r j=0
 rng:∀ r j,r < n→j < w→0≤M r j∧M r j < p
 lead:∀ s j,s < k→j < col s→M s j=0
section
variable {p:Int} {n w:Nat} {M:Mx} {col:Nat→Nat} {k c:Nat}
theorem Rre.ge (h:Rre p n w M col k c):∀ s,s < k→s≤col s:=by
 intro s
 induction s with
 | zero=>intro _; omega
 | succ s ih=>
  intro hs
  have h1:=ih A0
  have h2:=h.asc s (s+1) A0 hs
  omega
theorem Rre.kc (h:Rre p n w M col k c):k≤c:=by
 cases k with
 | zero=>omega
 | succ k=>
  have h1:=h.ge k A0
  have h2:=h.lt k A0
  omega
theorem Rre.first (h:Rre p n w M col k c) {fr:Nat} (h1:∀ s,s < fr→s < k∧col s=s) (h2:fr < k→col fr≠fr):∀ s,s < k→col s≠fr:=by
 intro s hs he
 by_cases YJ:s < fr
 ·have:=(h1 s YJ).2
  omega
 ·have IJ:fr < k:=A0
  have h3:=h.ge fr IJ
  have h4:=h2 IJ
  by_cases uR:s=fr
  ·subst uR; exact h4 he
  ·have:=h.asc fr s A0 hs
   omega
theorem Rre.kernel (h:Rre p n w M col k w) {fr:Nat} (nH:fr < w) (eA:∀ s,s < k→col s≠fr) {v:Nat→Int} (h1:v fr=1) (hv:∀ s,s < k→Cg p (v (col s)) (- M s fr)) (h0:∀ j,j < w→j≠fr→(∀ s,s < k→col s≠j)→v j=0):Nl p n w M v:=by
 intro r hr
 by_cases RG:r < k
 ·
  have dI:sm w (fun j=>M r j*v j)=sm w (fun j=>(if j=fr then M r fr else 0)+(if j=col r then v (col r) else 0)):=by
   refine W0 fun j hj=>?_
   by_cases GJ:j=fr
   ·subst GJ
    rw [M0 rfl,K0 (fun e=>eA r RG e.symm),h1]; omega
   ·rw [K0 GJ]
    by_cases hp:∃ s,s < k∧col s=j
    ·obtain ⟨s,hs,rfl⟩:=hp
     rw [h.unit s r hs hr]
     by_cases mO:r=s
     ·subst mO; rw [M0 rfl,M0 rfl]; omega
     ·rw [K0 mO,K0 (fun e=>mO ?_)]
      ·simp
      ·rcases Hb s r with h5 | h5 | h5
       ·have:=h.asc s r h5 RG; omega
       ·exact h5.symm
       ·have:=h.asc r s h5 hs; omega
    ·have hz:=h0 j hj GJ (fun s hs he=>hp ⟨s,hs,he⟩)
     rw [hz,K0 (fun e=>hp ⟨r,RG,e.symm⟩)]; simp
  rw [dI,G7,L4 (f:=fun _=>M r fr) nH,L4 (f:=fun _=>v (col r)) (h.lt r RG)]
  have:=(Cg.refl p (M r fr)).add (hv r RG)
  rwa [Int.add_right_neg] at this
 ·rw [C5 fun j hj=>by rw [h.zero r j A0 hr hj,V3]]
  exact .refl _ _
theorem Rre.only (h:Rre p n w M col w w) {v:Nat→Int} (hv:Nl p n w M v):∀ j,j < w→Cg p (v j) 0:=by
 have nM:∀ s,s < w→col s=s:=by
  intro s hs
  have h1:=h.ge s hs
  have h2:∀ d,s+d < w→col s+d≤col (s+d):=by
   intro d
   induction d with
   | zero=>intro _; exact H2 _
   | succ d ih=>intro hd; have:=h.asc (s+d) (s+(d+1)) A0 A0; have:=ih A0; omega
  have h3:=h2 (w - 1 - s) A0
  have h4:=h.lt (w - 1) A0
  rw [show s+(w - 1 - s)=w - 1 by omega] at h3
  omega
 intro j hj
 have h1:=hv j (by have:=h.kn; omega)
 have e:sm w (fun c=>M j c*v c)=sm w (fun c=>if c=j then v c else 0):=W0 fun c hc=>by
  have:=h.unit c j hc (by have:=h.kn; omega)
  rw [nM c hc] at this
  rw [this]
  by_cases IN:c=j
  ·rw [M0 IN,M0 IN.symm,M4]
  ·rw [K0 IN,K0 (fun e=>IN e.symm),V3]
 rw [e,L4 (f:=v) hj] at h1
 exact h1
end
theorem Az (k t:Nat) (ht:t < k+1) (f:Nat→Int):sm (k+1) f=f t+sm k (fun j=>f (sk t j)):=by
 induction k with
 | zero=>
  have:t=0:=A0
  subst this
  simp [sm]
 | succ k ih=>
  by_cases h:t=k+1
  ·subst h
   rw [sm]
   have:sm (k+1) (fun j=>f (sk (k+1) j))=sm (k+1) f:=W0 fun j hj=>by unfold sk; rw [M0 hj]
   rw [this]; omega
  ·rw [sm,ih A0,sm]
   have:f (sk t k)=f (k+1):=by unfold sk; rw [B0]
   rw [this]; omega
theorem wk:∀ (r k:Nat) (A:Mx),r < k→∃ y:Nat→Int,(∃ j,j < k∧y j≠0)∧∀ i,i < r→sm k (fun j=>A i j*y j)=0:=by
 intro r
 induction r with
 | zero=>exact fun k A hk=>⟨fun j=>if j=0 then 1 else 0,⟨0,hk,H0⟩,fun i hi=>A0⟩
 | succ r ih=>
  intro k A hk
  by_cases hz:∃ t,t < k∧A r t≠0
  ·obtain ⟨t,ht,kx⟩:=hz
   obtain ⟨k,rfl⟩:∃ k',k=k'+1:=⟨k - 1,A0⟩
   obtain ⟨y,⟨j0,uI,jJ⟩,hy⟩:=ih k (fun i j=>A r t*A i (sk t j) - A i t*A r (sk t j)) A0
   let un:Nat→Nat:=fun c=>if c < t then c else c - 1
   let z:Nat→Int:=fun c=>if c=t then - sm k (fun j=>A r (sk t j)*y j) else A r t*y (un c)
   have ZQ:z t= - sm k (fun j=>A r (sk t j)*y j):=by simp [z]
   have pL:∀ j,z (sk t j)=A r t*y j:=by
    intro j
    have h1:sk t j≠t:=by unfold sk; split<;>omega
    have h2:un (sk t j)=j:=by simp only [un]; unfold sk; split<;>(try split)<;>omega
    simp only [z]
    rw [K0 h1,h2]
   refine ⟨z,⟨sk t j0,te ht uI,?_⟩,fun i hi=>?_⟩
   ·rw [pL]
    exact J8 kx jJ
   ·rw [Az k t ht,ZQ]
    have e:sm k (fun j=>A i (sk t j)*z (sk t j))=A r t*sm k (fun j=>A i (sk t j)*y j):=by
     rw [← H3]; exact W0 fun j _=>by rw [pL]; grind
    rw [e]
    by_cases xO:i=r
    ·subst xO; grind
    ·have:=hy i A0
     have e2:sm k (fun j=>(A r t*A i (sk t j) - A i t*A r (sk t j))*y j)=A r t*sm k (fun j=>A i (sk t j)*y j)+ - A i t*sm k (fun j=>A r (sk t j)*y j):=by
      rw [← Uc]; exact W0 fun j _=>by grind
     rw [e2] at this
     grind
  ·obtain ⟨y,h1,h2⟩:=ih k A A0
   refine ⟨y,h1,fun i hi=>?_⟩
   by_cases xO:i=r
   ·subst xO
    refine C5 fun j hj=>?_
    have:A i j=0:=H1 fun h=>hz ⟨j,hj,h⟩
    rw [this,V3]
   ·exact h2 i A0
theorem aD (r k:Nat) (A:Mx) (h:r < k) {p:Int} (hp:2≤p):∃ y:Nat→Int,(∃ j,j < k∧¬ p ∣ y j)∧∀ i,i < r→sm k (fun j=>A i j*y j)=0:=by
 obtain ⟨y,h1,h2⟩:=wk r k A h
 have key:∀ (d:Nat) (y:Nat→Int),(∃ j,j < k∧y j≠0∧(y j).natAbs≤d)→(∀ i,i < r→sm k (fun j=>A i j*y j)=0)→∃ y:Nat→Int,(∃ j,j < k∧¬ p ∣ y j)∧∀ i,i < r→sm k (fun j=>A i j*y j)=0:=by
  intro d
  induction d with
  | zero=>
   rintro y ⟨j,_,h3,h4⟩ _
   exact absurd (Vv.1 A0) h3
  | succ d ih=>
   rintro y ⟨j,hj,h3,h4⟩ h5
   by_cases hd:∃ j,j < k∧¬ p ∣ y j
   ·exact ⟨y,hd,h5⟩
   ·have Qx:∀ j,j < k→p ∣ y j:=fun j hj=>H1 fun h=>hd ⟨j,hj,h⟩
    refine ih (fun j=>y j / p) ⟨j,hj,?_,?_⟩ fun i hi=>?_
    ·intro h0
     obtain ⟨m,hm⟩:=Qx j hj
     rw [hm,B9 _ A0] at h0
     subst h0
     exact h3 (by rw [hm]; simp)
    ·obtain ⟨m,hm⟩:=Qx j hj
     rw [hm,B9 _ A0]
     have h6:(y j).natAbs=p.natAbs*m.natAbs:=by rw [hm,Ud]
     have h7:m.natAbs≠0:=by
      intro h0
      have:=Vv.1 h0
      subst this
      exact h3 (by rw [hm]; simp)
     have h8:2*m.natAbs≤p.natAbs*m.natAbs:=Eb _ A0
     omega
    ·have h9:=h5 i hi
     have e:sm k (fun j=>A i j*y j)=p*sm k (fun j=>A i j*(y j / p)):=by
      rw [← H3]
      refine W0 fun j hj=>?_
      obtain ⟨m,hm⟩:=Qx j hj
      rw [hm,B9 _ A0]
      grind
     rw [e] at h9
     rcases K4.1 h9 with WN | WN
     ·omega
     ·exact WN
 obtain ⟨j,hj,h3⟩:=h1
 exact key (y j).natAbs y ⟨j,hj,h3,H2 _⟩ h2
def ext (n:Nat) (M:Mx):Mx:=fun r c=>if r=n∨c=n then (if r=c then 1 else 0) else M r c
theorem ua {n r c:Nat} {M:Mx} (h:r=n∨c=n):ext n M r c=if r=c then 1 else 0:=by unfold ext; rw [M0 h]
theorem Ka {n r c:Nat} {M:Mx} (h:¬ (r=n∨c=n)):ext n M r c=M r c:=by unfold ext; rw [K0 h]
theorem qE (n:Nat) (M:Mx):det (n+1) (ext n M)=det n M:=by
 have ha:Am n fun M=>det (n+1) (ext n M):=by
  refine ⟨fun A B he=>w5 fun r c hr hc=>?_,fun A i s t v w hi=>?_,fun A i hi he=>Nk (i:=i) A0 fun c hc=>?_⟩
  ·by_cases h:r=n∨c=n
   ·rw [ua h,ua h]
   ·rw [Ka h,Ka h]; exact he r c A0 A0
  ·have e:∀ x:Nat→Int,ext n (up A i x)=up (ext n A) i (fun c=>if c=n then 0 else x c):=by
    intro x
    funext r c
    by_cases h1:r=i
    ·subst h1
     rw [C2]
     by_cases h2:c=n
     ·rw [ua (.inr h2),M0 h2,B0]
     ·rw [Ka A0,K0 h2,C2]
    ·rw [J2 h1]
     by_cases h2:r=n∨c=n
     ·rw [ua h2,ua h2]
     ·rw [Ka h2,Ka h2,J2 h1]
   simp only [e]
   rw [← Ik _ s t _ _ A0]
   congr 2
   funext c
   by_cases h:c=n
   ·simp [h]
   ·simp [h]
  ·by_cases h:c=n
   ·rw [ua (.inr h),ua (.inr h),B0,B0]
   ·rw [Ka A0,Ka A0]; exact he c A0
 have h:det (n+1) (ext n M)=det n M*det (n+1) (ext n one):=ha.uniq M
 have h1:det (n+1) (ext n one)=1:=by
  rw [← He (n+1)]
  refine w5 fun r c _ _=>?_
  by_cases h:r=n∨c=n
  ·rw [ua h]; rfl
  ·rw [Ka h]
 rw [h,h1,J6]
section
variable (A:Mx) (col:Nat→Nat)
def Pm_:Mx:=fun r s=>A r (col s)
def Rk (k:Nat):Mx:=fun i j=>if i < k then sm k (fun t=>adj k (Pm_ A col) i t*A t j) else det k (Pm_ A col)*A i j - sm k (fun s=>A i (col s)*sm k (fun t=>adj k (Pm_ A col) s t*A t j))
variable {A col}
theorem Aa {k i j:Nat} (h:i < k):Rk A col k i j=sm k (fun t=>adj k (Pm_ A col) i t*A t j):=by unfold Rk; rw [M0 h]
theorem Ba {k i j:Nat} (h:¬ i < k):Rk A col k i j=det k (Pm_ A col)*A i j - sm k (fun s=>A i (col s)*sm k (fun t=>adj k (Pm_ A col) s t*A t j)):=by unfold Rk; rw [K0 h]
theorem ml {k i s:Nat} (hi:i < k) (hs:s < k):Rk A col k i (col s)=if i=s then det k (Pm_ A col) else 0:=by
 rw [Aa hi]
 exact Uu (Pm_ A col) hi hs
theorem Od {k i s:Nat} (hi:¬ i < k) (hs:s < k):Rk A col k i (col s)=0:=by
 rw [Ba hi]
 have e:sm k (fun s'=>A i (col s')*sm k (fun t=>adj k (Pm_ A col) s' t*A t (col s)))=sm k (fun s'=>if s'=s then A i (col s')*det k (Pm_ A col) else 0):=W0 fun s' aI=>by
  have:sm k (fun t=>adj k (Pm_ A col) s' t*A t (col s))=if s'=s then det k (Pm_ A col) else 0:=Uu (Pm_ A col) aI hs
  rw [this]
  by_cases h:s'=s
  ·rw [M0 h,M0 h]
  ·rw [K0 h,K0 h,Q3]
 rw [e,L4 (f:=fun s'=>A i (col s')*det k (Pm_ A col)) hs,P2]
 omega
def bt (A:Mx) (col:Nat→Nat) (k i t:Nat):Int:=sm k fun s=>A i (col s)*adj k (Pm_ A col) s t
theorem Nd {k i j:Nat} (h:¬ i < k):Rk A col k i j=det k (Pm_ A col)*A i j - sm k (fun t=>bt A col k i t*A t j):=by
 rw [Ba h]
 congr 1
 have e:sm k (fun s=>A i (col s)*sm k (fun t=>adj k (Pm_ A col) s t*A t j))=sm k (fun s=>sm k fun t=>A i (col s)*adj k (Pm_ A col) s t*A t j):=W0 fun s _=>by
  rw [← H3]; exact W0 fun t _=>by grind
 rw [e,E7]
 exact W0 fun t _=>by rw [N7]; rfl
theorem det_next {k:Nat} (hd:det k (Pm_ A col)≠0):det (k+1) (Pm_ A col)=Rk A col k k (col k):=by
 let P:=Pm_ A col
 have h1:det (k+1) (up P k (fun s=>det k P*P k s))=det k P*det (k+1) P:=(L9 (k+1)).scale A0 P (det k P)
 have h2:∀ m,m≤k→det (k+1) (up P k (fun s=>det k P*P k s - sm m (fun t=>bt A col k k t*P t s)))=det k P*det (k+1) P:=by
  intro m
  induction m with
  | zero=>
   intro _
   rw [← h1]
   congr 2
   funext s
   simp [sm]
  | succ m ih=>
   intro hm
   rw [← ih A0]
   have h3:=(L9 (k+1)).addrow (i:=k) (k:=m) A0 A0 A0 (up P k (fun s=>det k P*P k s - sm m (fun t=>bt A col k k t*P t s))) (- bt A col k k m)
   rw [← h3,zq]
   refine w5 fun r c _ _=>?_
   by_cases hr:r=k
   ·subst hr
    rw [C2,C2,C2,J2 A0]
    simp only [sm]
    grind
   ·rw [J2 hr,J2 hr]
 have h4:=h2 k A0
 have h5:det (k+1) (up P k (fun s=>det k P*P k s - sm k (fun t=>bt A col k k t*P t s)))=det (k+1) (up P k (fun s=>Rk A col k k (col k)*unit k s)):=by
  refine w5 fun r c hr hc=>?_
  by_cases h:r=k
  ·subst h
   rw [C2,C2]
   have e:det r P*P r c - sm r (fun t=>bt A col r r t*P t c)=Rk A col r r (col c):=(Nd A0).symm
   rw [e]
   unfold unit
   by_cases JO:c=r
   ·rw [M0 JO,JO,J6]
   ·rw [K0 JO,Q3]
    exact Od A0 A0
  ·rw [J2 h,J2 h]
 have h6:det (k+1) (up P k (fun s=>Rk A col k k (col k)*unit k s))=Rk A col k k (col k)*det (k+1) (up P k (unit k)):=by
  have:=(L9 (k+1)).scale (i:=k) A0 (up P k (unit k)) (Rk A col k k (col k))
  rw [← this,zq]
  congr 2
  funext s
  rw [C2]
 have h7:det (k+1) (up P k (unit k))=det k P:=by
  rw [Jk P A0,← qE k P]
  refine w5 fun r c hr hc=>?_
  by_cases h1:r=k
  ·subst h1
   rw [ua (.inl rfl)]
   unfold cl unit
   rw [M0 rfl]
   exact qa eq_comm
  ·unfold cl
   rw [K0 h1]
   by_cases h2:c=k
   ·rw [M0 h2,ua (.inr h2),B0]
   ·rw [K0 h2,Ka A0]
 rw [h5,h6,h7] at h4
 have h8:det k P*(det (k+1) P - Rk A col k k (col k))=0:=by rw [A9,← h4]; grind
 rcases K4.1 h8 with h9 | h9
 ·exact absurd h9 hd
 ·show det (k+1) P=_
  omega
theorem uF {k j:Nat} (hd:det k (Pm_ A col)≠0) (hn:Rk A col k k (col k)≠0):Rk A col (k+1) k j=Rk A col k k j:=by
 have JJ:=det_next hd
 let w:Nat→Int:=fun t=>(if t=k then det k (Pm_ A col) else - bt A col k k t) - adj (k+1) (Pm_ A col) k t
 have yH:∀ j,sm (k+1) (fun t=>w t*A t j)=Rk A col k k j - Rk A col (k+1) k j:=by
  intro j
  rw [Nd (k:=k) (i:=k) A0,Aa (k:=k+1) (i:=k) A0]
  have e:sm (k+1) (fun t=>w t*A t j)=sm (k+1) (fun t=>(if t=k then det k (Pm_ A col) else - bt A col k k t)*A t j) - sm (k+1) (fun t=>adj (k+1) (Pm_ A col) k t*A t j):=by
   have:=Uc (k+1) 1 (-1) (fun t=>(if t=k then det k (Pm_ A col) else - bt A col k k t)*A t j) (fun t=>adj (k+1) (Pm_ A col) k t*A t j)
   have e2:sm (k+1) (fun t=>w t*A t j)=sm (k+1) (fun t=>1*((if t=k then det k (Pm_ A col) else - bt A col k k t)*A t j)+ -1*(adj (k+1) (Pm_ A col) k t*A t j)):=W0 fun t _=>by simp only [w]; grind
   rw [e2,this]
   omega
  rw [e]
  congr 1
  rw [sm,M0 rfl]
  have e3:sm k (fun t=>(if t=k then det k (Pm_ A col) else - bt A col k k t)*A t j)= -1*sm k (fun t=>bt A col k k t*A t j):=by
   rw [← H3]
   exact W0 fun t ht=>by rw [B0]; grind
  rw [e3]
  omega
 have hz:∀ t,t < k+1→w t=0:=by
  refine Bj (A:=Pm_ A col) (n:=k+1) (by rw [JJ]; exact hn) fun s hs=>?_
  have:=yH (col s)
  rw [show sm (k+1) (fun r=>w r*Pm_ A col r s)=sm (k+1) (fun t=>w t*A t (col s)) from rfl,this,ml (k:=k+1) A0 hs,JJ]
  by_cases h:k=s
  ·subst h; rw [M0 rfl]; omega
  ·rw [K0 h,Od (k:=k) A0 A0]; rfl
 have h1:=yH j
 rw [C5 (fun t ht=>by rw [hz t ht,V3])] at h1
 omega
theorem vF {k i j:Nat} (hd:det k (Pm_ A col)≠0) (hn:Rk A col k k (col k)≠0) (Pz:i≠k):
  Rk A col k k (col k)*Rk A col k i j - Rk A col k i (col k)*Rk A col k k j=det k (Pm_ A col)*Rk A col (k+1) i j:=by
 have JJ:=det_next hd
 suffices hw:∃ w:Nat→Int,∀ j,sm (k+1) (fun t=>w t*A t j)=Rk A col k k (col k)*Rk A col k i j - Rk A col k i (col k)*Rk A col k k j - det k (Pm_ A col)*Rk A col (k+1) i j by
  obtain ⟨w,yH⟩:=hw
  have hz:∀ t,t < k+1→w t=0:=by
   refine Bj (A:=Pm_ A col) (n:=k+1) (by rw [JJ]; exact hn) fun s hs=>?_
   rw [show sm (k+1) (fun r=>w r*Pm_ A col r s)=sm (k+1) (fun t=>w t*A t (col s)) from rfl,yH]
   have hR:Rk A col (k+1) i (col s)=if i=s then Rk A col k k (col k) else 0:=by
    by_cases hi:i < k
    ·rw [ml (k:=k+1) A0 hs,JJ]
    ·rw [Od (k:=k+1) A0 hs,B0]
   rw [hR]
   by_cases XH:s=k
   ·subst XH; rw [K0 Pz]; grind
   ·have h0:Rk A col k k (col s)=0:=Od A0 A0
    rw [h0]
    by_cases hi:i < k
    ·rw [ml hi A0]
     by_cases DN:i=s
     ·rw [M0 DN,M0 DN]; grind
     ·rw [K0 DN,K0 DN]; simp
    ·rw [Od hi A0,B0]; simp
  have h1:=yH j
  rw [C5 (fun t ht=>by rw [hz t ht,V3])] at h1
  omega
 have pJ:∀ j,Rk A col k k j=det k (Pm_ A col)*A k j - sm k (fun t=>bt A col k k t*A t j):=fun j=>Nd A0
 have dC:∀ (f:Nat→Int) (g:Nat→Int) (x:Int) (j:Nat),sm (k+1) (fun t=>(if t=k then x else f t)*A t j)=sm k (fun t=>f t*A t j)+x*A k j:=by
  intro f g x j
  rw [sm,M0 rfl]
  congr 1
  exact W0 fun t ht=>by rw [B0]
 generalize hN:Rk A col k k (col k)=N at*
 by_cases hi:i < k
 ·refine ⟨fun t=>(if t=k then - (Rk A col k i (col k)*det k (Pm_ A col)) else N*adj k (Pm_ A col) i t+Rk A col k i (col k)*bt A col k k t)+ - det k (Pm_ A col)*adj (k+1) (Pm_ A col) i t,fun j=>?_⟩
  rw [pJ,Aa (k:=k+1) (i:=i) A0,Aa (k:=k) (i:=i) (j:=j) hi]
  have e:sm (k+1) (fun t=>((if t=k then - (Rk A col k i (col k)*det k (Pm_ A col)) else N*adj k (Pm_ A col) i t+Rk A col k i (col k)*bt A col k k t)+ - det k (Pm_ A col)*adj (k+1) (Pm_ A col) i t)*A t j)
    = sm (k+1) (fun t=>(if t=k then - (Rk A col k i (col k)*det k (Pm_ A col)) else N*adj k (Pm_ A col) i t+Rk A col k i (col k)*bt A col k k t)*A t j)+ - det k (Pm_ A col)*sm (k+1) (fun t=>adj (k+1) (Pm_ A col) i t*A t j):=by
   rw [← H3,← G7]
   exact W0 fun t _=>by grind
  rw [e,dC (fun t=>N*adj k (Pm_ A col) i t+Rk A col k i (col k)*bt A col k k t) (fun _=>0)]
  have e2:sm k (fun t=>(N*adj k (Pm_ A col) i t+Rk A col k i (col k)*bt A col k k t)*A t j)=N*sm k (fun t=>adj k (Pm_ A col) i t*A t j)+Rk A col k i (col k)*sm k (fun t=>bt A col k k t*A t j):=by
   rw [← H3,← H3,← G7]
   exact W0 fun t _=>by grind
  rw [e2]
  grind
 ·refine ⟨fun t=>(if t=k then - (Rk A col k i (col k)*det k (Pm_ A col)) else - N*bt A col k i t+Rk A col k i (col k)*bt A col k k t)+det k (Pm_ A col)*bt A col (k+1) i t,fun j=>?_⟩
  rw [pJ,Nd (k:=k+1) (i:=i) A0,Nd (k:=k) (i:=i) (j:=j) hi,JJ]
  have e:sm (k+1) (fun t=>((if t=k then - (Rk A col k i (col k)*det k (Pm_ A col)) else - N*bt A col k i t+Rk A col k i (col k)*bt A col k k t)+det k (Pm_ A col)*bt A col (k+1) i t)*A t j)
    = sm (k+1) (fun t=>(if t=k then - (Rk A col k i (col k)*det k (Pm_ A col)) else - N*bt A col k i t+Rk A col k i (col k)*bt A col k k t)*A t j)+det k (Pm_ A col)*sm (k+1) (fun t=>bt A col (k+1) i t*A t j):=by
   rw [← H3,← G7]
   exact W0 fun t _=>by grind
  rw [e,dC (fun t=>- N*bt A col k i t+Rk A col k i (col k)*bt A col k k t) (fun _=>0)]
  have e2:sm k (fun t=>(- N*bt A col k i t+Rk A col k i (col k)*bt A col k k t)*A t j)= - N*sm k (fun t=>bt A col k i t*A t j)+Rk A col k i (col k)*sm k (fun t=>bt A col k k t*A t j):=by
   rw [← H3,← H3,← G7]
   exact W0 fun t _=>by grind
  rw [e2]
  grind
end
def pr:Nat→(Nat→Int)→Int
 | 0,_=>1
 | n+1,f=>pr n f*f n
theorem Vu {n:Nat} {A B:Mx} (h:∀ i j,i < n→j < n→A i j=B i j) {i j:Nat}:adj n A i j=adj n B i j:=by
 unfold adj
 refine w5 fun r c hr hc=>?_
 by_cases h1:r=j
 ·subst h1; rw [C2,C2]
 ·rw [J2 h1,J2 h1,h r c hr hc]
theorem tl {A A':Mx} {col Zx:Nat→Nat} {k i j:Nat} (hc:∀ s,s < k→col s=Zx s) (ht:∀ t j,t < k→A t j=A' t j) (hi:∀ j,A i j=A' i j):Rk A col k i j=Rk A' Zx k i j:=by
 have hP:∀ r s,r < k→s < k→Pm_ A col r s=Pm_ A' Zx r s:=fun r s hr hs=>by unfold Pm_; rw [hc s hs,ht r _ hr]
 have hs:∀ s,sm k (fun t=>adj k (Pm_ A col) s t*A t j)=sm k (fun t=>adj k (Pm_ A' Zx) s t*A' t j):=fun s=>W0 fun t WH=>by rw [Vu hP,ht t j WH]
 by_cases h:i < k
 ·rw [Aa h,Aa h,hs]
 ·rw [Ba h,Ba h,hi j,w5 hP]
  congr 1
  exact W0 fun s XH=>by rw [hs,hi,hc s XH]
def setC (col:Nat→Nat) (k c:Nat):Nat→Nat:=fun s=>if s=k then c else col s
theorem ja {col:Nat→Nat} {k c s:Nat} (h:s < k):setC col k c s=col s:=by unfold setC; rw [B0]
theorem ib {col:Nat→Nat} {k c:Nat}:setC col k c k=c:=by unfold setC; rw [M0 rfl]
theorem gv {A:Mx} {col:Nat→Nat} {k c i j:Nat}:Rk A (setC col k c) k i j=Rk A col k i j:=tl (fun s hs=>ja hs) (fun _ _ _=>rfl) (fun _=>rfl)
theorem nE {A:Mx} {col:Nat→Nat} {k c:Nat}:det k (Pm_ A (setC col k c))=det k (Pm_ A col):=w5 fun r s hr hs=>by unfold Pm_; rw [ja hs]
theorem Y8 {A:Mx} {col:Nat→Nat} {k a i j:Nat} (ha:k≤a):Rk (sw A k a) col k i j=if i=k then Rk A col k a j else if i=a then Rk A col k k j else Rk A col k i j:=by
 have ht:∀ t j,t < k→sw A k a t j=A t j:=fun t j h=>by unfold sw; rw [B0,B0]
 have hP:∀ r s,r < k→s < k→Pm_ (sw A k a) col r s=Pm_ A col r s:=fun r s hr hs=>by unfold Pm_; rw [ht r _ hr]
 have TA:∀ b,¬ i < k→¬ b < k→(∀ j,sw A k a i j=A b j)→Rk (sw A k a) col k i j=Rk A col k b j:=by
  intro b h1 h2 h3
  rw [Ba h1,Ba h2,h3,w5 hP]
  congr 1
  exact W0 fun s _=>by
   rw [h3]
   congr 1
   exact W0 fun t WH=>by rw [Vu hP,ht t j WH]
 by_cases h1:i=k
 ·subst h1; rw [M0 rfl]; exact TA a A0 A0 (fun j=>by unfold sw; rw [M0 rfl])
 ·rw [K0 h1]
  by_cases h2:i=a
  ·subst h2; rw [M0 rfl]; exact TA k A0 A0 (fun j=>by unfold sw; rw [K0 h1,M0 rfl])
  ·rw [K0 h2]; exact tl (fun _ _=>rfl) ht (fun j=>by unfold sw; rw [K0 h1,K0 h2])
def tr2 (k a i:Nat):Nat:=if i=k then a else if i=a then k else i
theorem Jq (k a i:Nat):tr2 k a (tr2 k a i)=i:=by
 unfold tr2
 by_cases e1:i=k
 ·rw [M0 e1]
  by_cases e2:a=k
  ·rw [M0 e2]; omega
  ·rw [K0 e2,M0 rfl,e1]
 ·rw [K0 e1]
  by_cases e2:i=a
  ·rw [M0 e2,M0 rfl,e2]
  ·rw [K0 e2,K0 e1,K0 e2]
theorem oj {n k a i:Nat} (hk:k < n) (ha:a < n) (hi:i < n):tr2 k a i < n:=by unfold tr2; split<;>(try split)<;>omega
structure Bar (n w:Nat) (A A':Mx) (col:Nat→Nat) (k c:Nat) (sn:Int):Prop where
 kn:k≤n
 cw:c≤w
 d:det k (Pm_ A' col)≠0
 lt:∀ s,s < k→col s < c
 asc:∀ s t,s < t→t < k→col s < col t
 zero:∀ i j,k≤i→i < n→j < c→Rk A' col k i j=0
 lead:∀ s j,s < k→j < col s→Rk A' col k s j=0
 perm:∃ x xi:Nat→Nat,(∀ i,i < n→x i < n∧xi i < n∧xi (x i)=i∧x (xi i)=i)∧∀ i j,i < n→A' i j=A (x i) j
 sg:(sn=1∨sn= -1)∧det n A'=sn*det n A
theorem Bar.start {n w:Nat} {A:Mx} {col:Nat→Nat}:Bar n w A A col 0 0 1:=
 ⟨A0,A0,by simp [det],fun s h=>A0,fun s t h h'=>A0,fun i j _ _ h=>A0,fun s j h=>A0,⟨id,id,fun i hi=>⟨hi,hi,rfl,rfl⟩,fun i j _=>rfl⟩,.inl rfl,A0⟩
section
variable {n w:Nat} {A A':Mx} {col:Nat→Nat} {k c:Nat} {sn:Int}
theorem ev {A:Mx} {col:Nat→Nat} {i j:Nat}:Rk A col 0 i j=A i j:=by
 rw [Ba A0]
 simp [sm,det]
theorem Bar.none (h:Bar n w A A' col k c sn) (hc:c < w) (hz:∀ i,k≤i→i < n→Rk A' col k i c=0):Bar n w A A' col k (c+1) sn:=by
 refine ⟨h.kn,hc,h.d,fun s hs=>by have:=h.lt s hs; omega,h.asc,fun i j h1 h2 h3=>?_,h.lead,h.perm,h.sg⟩
 by_cases hj:j=c
 ·subst hj; exact hz i h1 h2
 ·exact h.zero i j h1 h2 A0
theorem Bar.pivot (h:Bar n w A A' col k c sn) (hc:c < w) {a:Nat} (kH:k≤a) (wG:a < n) (kx:Rk A' col k a c≠0):
  Bar n w A (sw A' k a) (setC col k c) (k+1) (c+1) (if a=k then sn else -sn)∧
  det (k+1) (Pm_ (sw A' k a) (setC col k c))=Rk A' col k a c∧
  (∀ j,Rk (sw A' k a) (setC col k c) (k+1) k j=Rk A' col k a j)∧
  ∀ i j,i≠k→Rk A' col k a c*Rk (sw A' k a) col k i j - Rk (sw A' k a) col k i c*Rk A' col k a j=det k (Pm_ A' col)*Rk (sw A' k a) (setC col k c) (k+1) i j:=by
 have rD:det k (Pm_ (sw A' k a) (setC col k c))=det k (Pm_ A' col):=by
  rw [nE]
  exact w5 fun r s hr hs=>by unfold Pm_ sw; rw [B0,B0]
 have hd:det k (Pm_ (sw A' k a) (setC col k c))≠0:=by rw [rD]; exact h.d
 have hR:∀ i j,Rk (sw A' k a) (setC col k c) k i j=Rk (sw A' k a) col k i j:=fun i j=>gv
 have hk:∀ j,Rk (sw A' k a) (setC col k c) k k j=Rk A' col k a j:=fun j=>by rw [hR,Y8 kH,M0 rfl]
 have hn:Rk (sw A' k a) (setC col k c) k k (setC col k c k)≠0:=by rw [ib,hk]; exact kx
 have BG:=det_next hd
 rw [ib,hk] at BG
 have SA:∀ j,Rk (sw A' k a) (setC col k c) (k+1) k j=Rk A' col k a j:=fun j=>by rw [uF hd hn,hk]
 have kB:∀ i j,i≠k→Rk A' col k a c*Rk (sw A' k a) col k i j - Rk (sw A' k a) col k i c*Rk A' col k a j=det k (Pm_ A' col)*Rk (sw A' k a) (setC col k c) (k+1) i j:=by
  intro i j Pz
  have:=vF (j:=j) hd hn Pz
  rw [ib,hk,hk,rD,hR,hR] at this
  exact this
 refine ⟨⟨A0,hc,by rw [BG]; exact kx,fun s hs=>?_,fun s t hs ht=>?_,fun i j h1 h2 h3=>?_,fun s j hs hj=>?_,?_,?_⟩,BG,SA,kB⟩
 ·by_cases XH:s=k
  ·subst XH; rw [ib]; omega
  ·rw [ja A0]; have:=h.lt s A0; omega
 ·rw [ja A0]
  by_cases WH:t=k
  ·subst WH; rw [ib]; exact h.lt s hs
  ·rw [ja A0]; exact h.asc s t hs A0
 ·have hz:∀ j,j < c→Rk (sw A' k a) col k i j=0:=by
   intro j hj
   rw [Y8 kH]
   split
   ·exact h.zero a j kH wG hj
   ·split
    ·exact h.zero k j A0 A0 hj
    ·exact h.zero i j A0 h2 hj
  have hs:=kB i j A0
  have h0:det k (Pm_ A' col)*Rk (sw A' k a) (setC col k c) (k+1) i j=0:=by
   by_cases hj:j=c
   ·subst hj; rw [← hs]; grind
   ·rw [← hs,hz j A0,h.zero a j kH wG A0]; simp
  rcases K4.1 h0 with h4 | h4
  ·exact absurd h4 h.d
  ·exact h4
 ·by_cases XH:s=k
  ·subst XH
   rw [ib] at hj
   rw [SA]
   exact h.zero a j kH wG hj
  ·rw [ja A0] at hj
   have hlt:=h.lt s A0
   have cQ:=kB s j XH
   have h1:Rk (sw A' k a) col k s j=0:=by
    rw [Y8 kH,K0 XH,B0]
    exact h.lead s j A0 hj
   rw [h1,h.zero a j kH wG A0] at cQ
   have h0:det k (Pm_ A' col)*Rk (sw A' k a) (setC col k c) (k+1) s j=0:=by rw [← cQ]; simp
   rcases K4.1 h0 with h4 | h4
   ·exact absurd h4 h.d
   ·exact h4
 ·obtain ⟨x,xi,hx,hA⟩:=h.perm
  have px:k < n:=A0
  refine ⟨fun i=>x (tr2 k a i),fun i=>tr2 k a (xi i),fun i hi=>?_,fun i j hi=>?_⟩
  ·have h1:=hx _ (oj px wG hi)
   have h2:=hx i hi
   refine ⟨h1.1,oj px wG h2.2.1,?_,?_⟩
   ·show tr2 k a (xi (x (tr2 k a i)))=i
    rw [h1.2.2.1,Jq]
   ·show x (tr2 k a (tr2 k a (xi i)))=i
    rw [Jq]; exact h2.2.2.2
  ·show sw A' k a i j=A (x (tr2 k a i)) j
   rw [← hA _ j (oj px wG hi)]
   unfold sw tr2
   by_cases e1:i=k
   ·rw [M0 e1,M0 e1]
   ·rw [K0 e1,K0 e1]
    by_cases e2:i=a
    ·rw [M0 e2,M0 e2]
    ·rw [K0 e2,K0 e2]
 ·obtain ⟨h1,h2⟩:=h.sg
  by_cases MN:a=k
  ·rw [M0 MN]
   refine ⟨h1,?_⟩
   rw [← h2]
   refine w5 fun r c _ _=>?_
   unfold sw
   by_cases e:r=k
   ·rw [M0 e,e,MN]
   ·rw [K0 e,B0]
  ·rw [K0 MN,(L9 n).swap A0 wG (fun e=>MN e.symm) A',h2]
   exact ⟨A0,by grind⟩
theorem Bar.det_ok (h:Bar n n A A' col n c sn):det n (Pm_ A' col)=sn*det n A:=by
 have tx:∀ s,s < n→s≤col s:=by
  intro s
  induction s with
  | zero=>intro _; omega
  | succ s ih=>
   intro hs
   have h1:=ih A0
   have h2:=h.asc s (s+1) A0 hs
   omega
 have WJ:∀ d s,s+d < n→col s+d≤col (s+d):=by
  intro d s
  induction d with
  | zero=>intro _; exact H2 _
  | succ d ih=>intro hd; have:=h.asc (s+d) (s+(d+1)) A0 A0; have:=ih A0; omega
 have nM:∀ s,s < n→col s=s:=by
  intro s hs
  have h1:=tx s hs
  have h3:=WJ (n - 1 - s) s A0
  have h4:=h.lt (n - 1) A0
  have h5:=h.cw
  rw [show s+(n - 1 - s)=n - 1 by omega] at h3
  omega
 rw [← h.sg.2]
 exact w5 fun r s hr hs=>by unfold Pm_; rw [nM s hs]
end
section
variable {n w:Nat} {A A':Mx} {col:Nat→Nat} {k c:Nat} {sn:Int}
theorem Bar.span (h:Bar n w A A' col k c sn) {r j:Nat} (hr:r < n) (hj:j < c∨r < k):det k (Pm_ A' col)*A' r j=sm k (fun s=>A' r (col s)*Rk A' col k s j):=by
 by_cases RG:r < k
 ·have e:sm k (fun s=>A' r (col s)*Rk A' col k s j)=sm k (fun s=>sm k fun t=>Pm_ A' col r s*adj k (Pm_ A' col) s t*A' t j):=W0 fun s hs=>by
   rw [Aa hs,← H3]
   exact W0 fun t _=>by unfold Pm_; grind
  rw [e,E7]
  have e2:sm k (fun t=>sm k fun s=>Pm_ A' col r s*adj k (Pm_ A' col) s t*A' t j)=sm k (fun t=>if t=r then det k (Pm_ A' col)*A' t j else 0):=W0 fun t ht=>by
   rw [N7,Sj _ RG ht]
   by_cases h1:r=t
   ·rw [M0 h1,M0 h1.symm]
   ·rw [K0 h1,K0 (fun e=>h1 e.symm),V3]
  rw [e2,L4 (f:=fun t=>det k (Pm_ A' col)*A' t j) RG]
 ·have SR:j < c:=A0
  have h1:=h.zero r j A0 hr SR
  rw [Ba RG] at h1
  have e:sm k (fun s=>A' r (col s)*Rk A' col k s j)=sm k (fun s=>A' r (col s)*sm k (fun t=>adj k (Pm_ A' col) s t*A' t j)):=W0 fun s hs=>by rw [Aa hs]
  rw [e]
  omega
theorem Bar.rows (h:Bar n w A A' col k c sn) {P:(Nat→Int)→Prop} (hP:∀ r,r < n→P (A' r)):∀ r,r < n→P (A r):=by
 obtain ⟨x,xi,hx,hA⟩:=h.perm
 intro r hr
 have h1:=hx r hr
 have e:A' (xi r)=A r:=by funext j; rw [hA _ j h1.2.1,h1.2.2.2]
 rw [← e]
 exact hP _ h1.2.1
theorem Bar.kernel (h:Bar n w A A' col k w sn) {fr:Nat} (nH:fr < w) (eA:∀ s,s < k→col s≠fr) {v:Nat→Int} (h1:v fr=det k (Pm_ A' col)) (hv:∀ s,s < k→v (col s)= - Rk A' col k s fr) (h0:∀ j,j < w→j≠fr→(∀ s,s < k→col s≠j)→v j=0):∀ r,r < n→sm w (fun j=>A r j*v j)=0:=by
 refine h.rows (P:=fun row=>sm w (fun j=>row j*v j)=0) fun r hr=>?_
 have jI:∀ s t,s < k→t < k→col s=col t→s=t:=by
  intro s t hs ht e
  rcases Hb s t with h5 | h5 | h5
  ·have:=h.asc s t h5 ht; omega
  ·exact h5
  ·have:=h.asc t s h5 hs; omega
 have dI:sm w (fun j=>A' r j*v j)=sm w (fun j=>(if j=fr then A' r fr*v fr else 0)+sm k fun s=>if j=col s then A' r (col s)*v (col s) else 0):=by
  refine W0 fun j hj=>?_
  by_cases GJ:j=fr
  ·subst GJ
   rw [M0 rfl,C5 (fun s hs=>K0 (fun e=>eA s hs e.symm))]; omega
  ·rw [K0 GJ]
   by_cases hp:∃ s,s < k∧col s=j
   ·obtain ⟨s,hs,rfl⟩:=hp
    have e:sm k (fun t=>if col s=col t then A' r (col t)*v (col t) else 0)=sm k (fun t=>if t=s then A' r (col s)*v (col s) else 0):=W0 fun t ht=>by
     by_cases CG:t=s
     ·subst CG; rw [M0 rfl,M0 rfl]
     ·rw [K0 (fun e=>CG (jI t s ht hs e.symm)),K0 CG]
    rw [e,L4 (f:=fun _=>A' r (col s)*v (col s)) hs]; omega
   ·rw [h0 j hj GJ (fun s hs e=>hp ⟨s,hs,e⟩),C5 (fun s hs=>K0 (fun e=>hp ⟨s,hs,e.symm⟩))]; simp
 have h2:=h.span (j:=fr) hr (.inl nH)
 rw [dI,G7,L4 (f:=fun _=>A' r fr*v fr) nH]
 have e3:sm w (fun j=>sm k fun s=>if j=col s then A' r (col s)*v (col s) else 0)=sm k (fun s=>A' r (col s)*v (col s)):=by
  rw [E7]
  exact W0 fun s hs=>L4 (f:=fun _=>A' r (col s)*v (col s)) (h.lt s hs)
 have e4:sm k (fun s=>A' r (col s)*v (col s))= -1*sm k (fun s=>A' r (col s)*Rk A' col k s fr):=by
  rw [← H3]
  exact W0 fun s hs=>by rw [hv s hs]; grind
 rw [e3,e4,h1,← h2]
 grind
theorem Bar.only (h:Bar n w A A' col w w sn) {v:Nat→Int} (hv:∀ r,r < n→sm w (fun j=>A r j*v j)=0):∀ j,j < w→v j=0:=by
 have nM:∀ s,s < w→col s=s:=by
  have tx:∀ s,s < w→s≤col s:=by
   intro s
   induction s with
   | zero=>intro _; omega
   | succ s ih=>intro hs; have h1:=ih A0; have h2:=h.asc s (s+1) A0 hs; omega
  have WJ:∀ d s,s+d < w→col s+d≤col (s+d):=by
   intro d s
   induction d with
   | zero=>intro _; exact H2 _
   | succ d ih=>intro hd; have:=h.asc (s+d) (s+(d+1)) A0 A0; have:=ih A0; omega
  intro s hs
  have h1:=tx s hs
  have h3:=WJ (w - 1 - s) s A0
  have h4:=h.lt (w - 1) A0
  rw [show s+(w - 1 - s)=w - 1 by omega] at h3
  omega
 obtain ⟨x,xi,hx,hA⟩:=h.perm
 refine gh h.d fun r hr=>?_
 have ZJ:r < n:=by have:=h.kn; omega
 rw [← hv (x r) (hx r ZJ).1]
 exact W0 fun j hj=>by unfold Pm_; rw [nM j hj,hA r j ZJ]
end
def Lo (n d:Int):Prop:=0 < d∧Int.gcd n d=1
theorem Ja {d n m:Int} (hg:Int.gcd n d=1) (h:d ∣ n*m):d ∣ m:=by
 refine Qh.1 (Nat.Coprime.dvd_of_dvd_mul_left (k:=d.natAbs) (m:=n.natAbs) ?_ ?_)
 ·have:Nat.gcd n.natAbs d.natAbs=1:=hg
  exact (Nat.gcd_comm _ _).trans this
 ·rw [← Ud]; exact Qh.2 h
def sgcd (a b:Int):Int:=if b < 0 then -(Int.gcd a b:Int) else (Int.gcd a b:Int)
def nrm (a b:Int):Int×Int:=(a / sgcd a b,b / sgcd a b)
theorem Lo.uniq {n d n' d':Int} (h:Lo n d) (h':Lo n' d') (he:n*d'=n'*d):n=n'∧d=d':=by
 have h1:d ∣ d':=by
  have:d ∣ n*d':=⟨n',by rw [he,P2]⟩
  exact Ja h.2 this
 have h2:d' ∣ d:=by
  have:d' ∣ n'*d:=⟨n,by rw [← he,P2]⟩
  exact Ja h'.2 this
 have h3:d=d':=Int.dvd_antisymm (by have:=h.1; omega) (by have:=h'.1; omega) h1 h2
 subst h3
 refine ⟨?_,rfl⟩
 have:=h.1
 exact UF A0 he
theorem vj {a b:Int} (hb:b≠0):sgcd a b≠0:=by
 unfold sgcd
 have:Int.gcd a b≠0:=fun h=>hb (gm h)
 split<;>omega
theorem wj (a b:Int):sgcd a b ∣ a:=by
 unfold sgcd
 split
 ·exact Int.neg_dvd.2 (Nc a b)
 ·exact Nc a b
theorem uj (a b:Int):sgcd a b ∣ b:=by
 unfold sgcd
 split
 ·exact Int.neg_dvd.2 (Mc a b)
 ·exact Mc a b
theorem nb {a b:Int} (hb:b≠0):Lo (nrm a b).1 (nrm a b).2∧(nrm a b).1*b=a*(nrm a b).2:=by
 have hg:=vj (a:=a) hb
 obtain ⟨p,hp⟩:=wj a b
 obtain ⟨q,hq⟩:=uj a b
 have e1:a / sgcd a b=p:=by
  conv=>lhs; lhs; rw [hp]
  exact B9 _ hg
 have e2:b / sgcd a b=q:=by
  conv=>lhs; lhs; rw [hq]
  exact B9 _ hg
 have hn:nrm a b=(p,q):=by unfold nrm; rw [e1,e2]
 rw [hn]
 have AO:(sgcd a b).natAbs=Int.gcd a b:=by unfold sgcd; split<;>simp
 refine ⟨⟨?_,?_⟩,?_⟩
 ·
  have uQ:Int.gcd a b≠0:=fun h=>hb (gm h)
  refine H1 fun eA=>?_
  have zH:q≤0:=A0
  by_cases JL:b < 0
  ·have hs:sgcd a b < 0:=by unfold sgcd; rw [M0 JL]; omega
   have:=Int.mul_nonneg_of_nonpos_of_nonpos (show sgcd a b≤0 by omega) zH
   omega
  ·have hs:0≤sgcd a b:=by unfold sgcd; rw [K0 JL]; omega
   have:=cf hs zH
   omega
 ·have h1:Int.gcd a b=(sgcd a b).natAbs*Int.gcd p q:=by
   have h0:Int.gcd (sgcd a b*p) (sgcd a b*q)=(sgcd a b).natAbs*Int.gcd p q:=Int.gcd_mul_left _ _ _
   rw [← hp,← hq] at h0
   exact h0
  rw [AO] at h1
  have uQ:0 < Int.gcd a b:=Bl fun h=>hb (gm h)
  have h2:Int.gcd a b*Int.gcd p q=Int.gcd a b*1:=A0
  exact Nat.eq_of_mul_eq_mul_left uQ h2
 ·show p*b=a*q
  conv=>lhs; rw [hq]
  conv=>rhs; rw [hp]
  grind
theorem SB {a b n d:Int} (hb:b≠0) (h:Lo n d) (he:n*b=a*d):nrm a b=(n,d):=by
 obtain ⟨h1,h2⟩:=nb (a:=a) hb
 have h3:(nrm a b).1*d=n*(nrm a b).2:=by
  have h4:b*((nrm a b).1*d - n*(nrm a b).2)=0:=by grind
  rcases K4.1 h4 with h5 | h5
  ·exact absurd h5 hb
  ·omega
 obtain ⟨h4,h5⟩:=h1.uniq h h3
 exact Prod.ext h4 h5
def Vq (n d A D:Int):Prop:=n*D=A*d
theorem minus_ok {xn xd yn yd zn zd wn wd X Y Z W D:Int} (hD:D≠0) (hW:W≠0) (hx:Lo xn xd) (hy:Lo yn yd) (hz:Lo zn zd) (hw:Lo wn wd) (ex:Vq xn xd X D) (ey:Vq yn yd Y D) (ez:Vq zn zd Z D) (ew:Vq wn wd W D):
  wn≠0∧Vq (nrm (xn*(nrm (yn*zn*wd) (yd*zd*wn)).2 - (nrm (yn*zn*wd) (yd*zd*wn)).1*xd) (xd*(nrm (yn*zn*wd) (yd*zd*wn)).2)).1 (nrm (xn*(nrm (yn*zn*wd) (yd*zd*wn)).2 - (nrm (yn*zn*wd) (yd*zd*wn)).1*xd) (xd*(nrm (yn*zn*wd) (yd*zd*wn)).2)).2 (X*W - Y*Z) (D*W):=by
 unfold Vq at*
 have AJ:wn≠0:=by
  intro h
  rw [h,V3] at ew
  rcases K4.1 ew.symm with h1 | h1
  ·exact hW h1
  ·have:=hw.1; omega
 refine ⟨AJ,?_⟩
 have SL:=hy.1
 have XN:=hz.1
 have uL:=hx.1
 have oT:=hw.1
 have wH:yd*zd*wn≠0:=J8 (J8 A0 A0) AJ
 obtain ⟨p1,p2⟩:=nb (a:=yn*zn*wd) wH
 generalize nrm (yn*zn*wd) (yd*zd*wn)=p at*
 obtain ⟨pn,pd⟩:=p
 simp only at p1 p2 ⊢
 have BR:=p1.1
 have xH:xd*pd≠0:=J8 A0 A0
 obtain ⟨q1,q2⟩:=nb (a:=xn*pd - pn*xd) xH
 generalize nrm (xn*pd - pn*xd) (xd*pd)=q at*
 obtain ⟨qn,qd⟩:=q
 simp only at q1 q2 ⊢
 have hp:pn*(D*W)=Y*Z*pd:=by
  have h0:(yd*zd*wd*D)*(pn*(D*W) - Y*Z*pd)=0:=by
   have a1:pn*(yd*zd*wn)=yn*zn*wd*pd:=p2
   have a2:wn*D=W*wd:=ew
   have a3:yn*D=Y*yd:=ey
   have a4:zn*D=Z*zd:=ez
   have b1:(yd*zd*wd*D)*(pn*(D*W))=(pn*(yd*zd*wn))*D*D*D:=by
    have:W*wd=wn*D:=a2.symm
    grind
   have b2:(yd*zd*wd*D)*(Y*Z*pd)=(yn*zn*wd*pd)*D*D*D:=by grind
   rw [A9,b1,b2,a1]; omega
  rcases K4.1 h0 with h1 | h1
  ·exact absurd h1 (J8 (J8 (J8 A0 A0) A0) hD)
  ·omega
 have h0:(xd*pd)*(qn*(D*W) - (X*W - Y*Z)*qd)=0:=by
  have c1:(xd*pd)*(qn*(D*W))=(xn*pd - pn*xd)*qd*(D*W):=by
   have:=q2
   grind
  have c2:(xn*pd - pn*xd)*qd*(D*W)=(xn*D*W*pd - pn*(D*W)*xd)*qd:=by grind
  rw [A9,c1,c2,hp,ex]
  grind
 rcases K4.1 h0 with h1 | h1
 ·exact absurd h1 xH
 ·omega
def Prim (w:Nat) (u:Nat→Int):Prop:=∀ d:Int,1 < d→¬ ∀ j,j < w→d ∣ u j
theorem Fs {w fr:Nat} {u t:Nat→Int} (nH:fr < w) (hu:0 < u fr) (ht:0 < t fr) (pu:Prim w u) (pt:Prim w t) (he:∀ j,j < w→u j*t fr=t j*u fr):∀ j,j < w→u j=t j:=by
 obtain ⟨h1,h2⟩:=nb (a:=u fr) (b:=t fr) A0
 have hn:0 < (nrm (u fr) (t fr)).1:=by
  refine H1 fun eA=>?_
  have h3:(nrm (u fr) (t fr)).1*t fr≤0:=MF A0 A0
  have h4:0 < u fr*(nrm (u fr) (t fr)).2:=Vd hu h1.1
  omega
 generalize nrm (u fr) (t fr)=q at*
 obtain ⟨a,b⟩:=q
 simp only at h1 h2 hn
 have hj:∀ j,j < w→u j*b=t j*a:=by
  intro j Ay
  have h3:=he j Ay
  have h4:t fr*(u j*b - t j*a)=0:=by grind
  rcases K4.1 h4 with h5 | h5<;>omega
 have ha:a=1:=by
  refine H1 fun eA=>pu a A0 fun j Ay=>?_
  refine Ja (n:=b) (by rw [Xv]; exact h1.2) ⟨t j,?_⟩
  have:=hj j Ay
  grind
 have hb:b=1:=by
  have:=h1.1
  refine H1 fun eA=>pt b A0 fun j Ay=>?_
  refine Ja (n:=a) h1.2 ⟨u j,?_⟩
  have:=hj j Ay
  grind
 intro j Ay
 have:=hj j Ay
 rw [ha,hb] at this
 omega
theorem zB {w fr:Nat} {n d:Nat→Int} {s:Int} (nH:fr < w) (Xz:∀ j,j < w→Lo (n j) (d j)) (h1:n fr=1∧d fr=1) (hs:0 < s) (hd:∀ j,j < w→d j ∣ s) (hm:∀ m:Int,(∀ j,j < w→d j ∣ m)→s ∣ m):Prim w fun j=>n j*s / d j:=by
 intro e he Qx
 have YR:e ∣ s:=by
  have:=Qx fr nH
  simp only [h1.1,h1.2,M4,Yv] at this
  exact this
 obtain ⟨q,hq⟩:=YR
 have h2:s ∣ q:=hm q fun j hj=>by
  obtain ⟨m,hm⟩:=Qx j hj
  obtain ⟨k,hk⟩:=hd j hj
  have kK:=(Xz j hj).1
  have h3:n j*s / d j=n j*k:=by
   rw [hk,show n j*(d j*k)=d j*(n j*k) by grind,B9 _ A0]
  simp only at hm
  rw [h3] at hm
  have h4:e*(n j*q - m*d j)=0:=by
   have h5:n j*s=n j*k*d j:=by rw [hk]; grind
   rw [hm,hq] at h5
   grind
  have h5:n j*q=m*d j:=by rcases K4.1 h4 with h6 | h6<;>omega
  exact Ja (Xz j hj).2 ⟨m,by rw [h5,P2]⟩
 have zH:0 < q:=by
  refine H1 fun eA=>?_
  have:e*q≤0:=cf A0 A0
  omega
 have h3:=Kc zH h2
 have h4:2*q≤e*q:=D3 A0 A0
 omega
def Bd (M x:Int):Prop:=-M≤x∧x≤M
theorem Bd.mono {M N x:Int} (h:Bd M x) (UT:M≤N):Bd N x:=⟨by have:=h.1; omega,by have:=h.2; omega⟩
theorem Bd.nn {M x:Int} (h:Bd M x):0≤M:=by have:=h.1; have:=h.2; omega
theorem Bd.add {M N x y:Int} (h:Bd M x) (h':Bd N y):Bd (M+N) (x+y):=⟨by have:=h.1; have:=h'.1; omega,by have:=h.2; have:=h'.2; omega⟩
theorem Bd.sub {M N x y:Int} (h:Bd M x) (h':Bd N y):Bd (M+N) (x - y):=⟨by have:=h.1; have:=h'.2; omega,by have:=h.2; have:=h'.1; omega⟩
theorem Bd.neg {M x:Int} (h:Bd M x):Bd M (-x):=⟨by have:=h.2; omega,by have:=h.1; omega⟩
theorem Bd.mul {M N x y:Int} (h:Bd M x) (h':Bd N y):Bd (M*N) (x*y):=by
 have hM:=h.nn
 have hN:=h'.nn
 obtain ⟨a1,a2⟩:=h
 obtain ⟨b1,b2⟩:=h'
 have k1:0≤(M - x)*(N - y):=O3 A0 A0
 have k2:0≤(M+x)*(N+y):=O3 A0 A0
 have k3:0≤(M - x)*(N+y):=O3 A0 A0
 have k4:0≤(M+x)*(N - y):=O3 A0 A0
 have e1:(M - x)*(N - y)=M*N - M*y - x*N+x*y:=by grind
 have e2:(M+x)*(N+y)=M*N+M*y+x*N+x*y:=by grind
 have e3:(M - x)*(N+y)=M*N+M*y - x*N - x*y:=by grind
 have e4:(M+x)*(N - y)=M*N - M*y+x*N - x*y:=by grind
 rw [e1] at k1
 rw [e2] at k2
 rw [e3] at k3
 rw [e4] at k4
 exact ⟨A0,A0⟩
theorem Wc {n:Nat} {M:Int} {f:Nat→Int} (hM:0≤M) (h:∀ i,i < n→Bd M (f i)):Bd (n*M) (sm n f):=by
 induction n with
 | zero=>exact ⟨by simp [sm],by simp [sm]⟩
 | succ n ih=>
  have h1:=ih fun i hi=>h i A0
  have h2:=(h1.add (h n A0))
  have e:((n+1:Nat):Int)*M=n*M+M:=by rw [Int.natCast_add,Ob]; simp
  rw [e]; exact h2
theorem Qj {n K:Nat} {X:Int} (h:n≤K) (hX:0≤X):(n:Int)*X≤K*X:=D3 A0 hX
theorem Hj {X:Int} (h:0≤X) (n:Nat):0≤X ^ n:=Int.pow_nonneg h
theorem Kk {K:Nat} {M:Int} (hM:1≤M):∀ {n:Nat} {A:Mx},n≤K→(∀ i j,i < n→j < n→Bd M (A i j))→Bd ((K*M) ^ n) (det n A)
 | 0,A,_,_=>by rw [Rv]; exact ⟨by show (-1:Int)≤1; omega,ef _⟩
 | n+1,A,hn,h=>by
  have hK:0≤(K:Int)*M:=O3 A0 A0
  have hp:=Hj hK n
  have IQ:0≤M*((K*M) ^ n):=O3 A0 hp
  have h1:∀ j,j < n+1→Bd (M*(K*M) ^ n) (sg j*A 0 j*det n (mn A j)):=by
   intro j hj
   have h2:Bd M (sg j*A 0 j):=by
    have h3:=h 0 j A0 hj
    unfold sg
    split
    ·rw [M4]; exact h3
    ·have:(-1:Int)*A 0 j= - A 0 j:=A0
     rw [this]; exact h3.neg
   exact h2.mul (Kk hM A0 fun i k hi hk=>h _ _ A0 (te hj hk))
  have h2:=Wc (n:=n+1) IQ h1
  rw [det]
  refine h2.mono ?_
  have h3:=Qj hn IQ
  rw [w8]
  have e:(K*M) ^ n*(K*M)=K*(M*(K*M) ^ n):=by grind
  rw [e]; exact h3
theorem iF {K:Nat} {M:Int} (hM:1≤M) {n:Nat} {A:Mx} (hn:n≤K) (h:∀ i j,i < n→j < n→Bd M (A i j)) {i j:Nat}:Bd ((K*M) ^ n) (adj n A i j):=by
 unfold adj
 refine Kk hM hn fun r c hr hc=>?_
 unfold up unit
 split
 ·split
  ·exact ⟨A0,hM⟩
  ·exact ⟨A0,A0⟩
 ·exact h r c hr hc
theorem wF {K n w:Nat} {M:Int} {A:Mx} {col:Nat→Nat} {k i j:Nat} (hM:1≤M) (hK:1≤K) (hA:∀ i j,i < n→j < w→Bd M (A i j)) (hk:k≤n) (DL:k≤K) (hc:∀ s,s < k→col s < w) (hi:i < n) (hj:j < w):Bd (2*(K*M) ^ (k+2)) (Rk A col k i j)∧Bd (2*(K*M) ^ (k+2)) (det k (Pm_ A col)):=by
 have QN:1≤(K:Int)*M:=by
  have:(1:Int)*1≤K*M:=K8 A0 hM A0 A0
  omega
 have hp:=Hj (show 0≤(K:Int)*M by omega) k
 have hP:∀ r s,r < k→s < k→Bd M (Pm_ A col r s):=fun r s hr hs=>hA _ _ A0 (hc s hs)
 have hd:=Kk hM DL hP
 have MP:∀ a b,Bd ((K*M) ^ k) (adj k (Pm_ A col) a b):=fun a b=>iF hM DL hP
 have dI:∀ a,Bd ((K*M) ^ (k+1)) (sm k fun t=>adj k (Pm_ A col) a t*A t j):=by
  intro a
  have eM:0≤(K*M) ^ k*M:=O3 hp A0
  refine (Wc eM fun t ht=>(MP a t).mul (hA t j A0 hj)).mono ?_
  have h3:=Qj DL eM
  have e:((K:Int)*M) ^ (k+1)=K*((K*M) ^ k*M):=by rw [w8]; grind
  rw [e]; exact h3
 have g1:((K:Int)*M) ^ k≤(K*M) ^ (k+1):=by
  rw [w8]
  have:(K*M) ^ k*1≤(K*M) ^ k*(K*M):=K3 QN hp
  omega
 have g2:((K:Int)*M) ^ (k+1)≤(K*M) ^ (k+2):=by
  rw [w8 _ (k+1)]
  have:(K*M) ^ (k+1)*1≤(K*M) ^ (k+1)*(K*M):=K3 QN A0
  omega
 refine ⟨?_,hd.mono A0⟩
 by_cases Pz:i < k
 ·rw [Aa Pz]; exact (dI i).mono A0
 ·rw [Ba Pz]
  have h1:Bd ((K*M) ^ k*M) (det k (Pm_ A col)*A i j):=hd.mul (hA i j hi hj)
  have eM:0≤M*(K*M) ^ (k+1):=O3 A0 A0
  have h2:Bd (k*(M*(K*M) ^ (k+1))) (sm k fun s=>A i (col s)*sm k (fun t=>adj k (Pm_ A col) s t*A t j)):=Wc eM fun s hs=>(hA i (col s) hi (hc s hs)).mul (dI s)
  refine (h1.sub h2).mono ?_
  have h3:=Qj DL eM
  have e:((K:Int)*M) ^ (k+2)=K*(M*(K*M) ^ (k+1)):=by rw [w8 _ (k+1)]; grind
  have h4:(K*M) ^ k*M≤(K*M) ^ k*(K*M):=by
   refine K3 ?_ hp
   have:1*M≤K*M:=D3 A0 A0
   omega
  have e2:((K:Int)*M) ^ (k+1)=(K*M) ^ k*(K*M):=w8 _ _
  omega
def gf (f:Nat→Int):Nat→Int
 | 0=>0
 | n+1=>((Int.gcd (gf f n) (f n):Nat):Int)
theorem mD (f:Nat→Int):∀ n i,i < n→gf f n ∣ f i
 | 0,i,h=>A0
 | n+1,i,h=>by
  show ((Int.gcd (gf f n) (f n):Nat):Int) ∣ f i
  by_cases e:i=n
  ·subst e; exact Mc ..
  ·exact Oc (Nc ..) (mD f n i A0)
section
variable {n w:Nat} {A A':Mx} {col:Nat→Nat} {k:Nat} {sn:Int}
theorem Bar.le (h:Bar n w A A' col k w sn):k≤w:=by
 have tx:∀ d s,s+d < k→col s+d≤col (s+d):=by
  intro d s
  induction d with
  | zero=>intro _; exact H2 _
  | succ d ih=>intro hd; have:=h.asc (s+d) (s+(d+1)) A0 A0; have:=ih A0; omega
 rcases Qa k with h0 | h0
 ·omega
 ·have h1:=tx (k - 1) 0 A0
  have h2:=h.lt (k - 1) A0
  rw [Q9] at h1
  omega
end
structure Dz (p:Int):Prop where
 dom:∀ a b:Int,p ∣ a*b→p ∣ a∨p ∣ b
 one:¬ p ∣ 1
 pos:p=0∨2≤p
theorem P5:Dz 0:=⟨fun a b h=>by
 rw [I8] at h ⊢
 rw [I8]
 exact K4.1 h,A0,.inl rfl⟩
theorem Lt {p:Int} (hp:Dz p) (r k:Nat) (A:Mx) (h:r < k):∃ y:Nat→Int,(∃ j,j < k∧¬ p ∣ y j)∧∀ i,i < r→sm k (fun j=>A i j*y j)=0:=by
 rcases hp.pos with rfl | h2
 ·obtain ⟨y,⟨j,hj,hy⟩,h1⟩:=wk r k A h
  exact ⟨y,⟨j,hj,by rw [I8]; exact hy⟩,h1⟩
 ·exact aD r k A h h2
theorem K9 {p:Int}:∀ {n:Nat} {f:Nat→Int},(∀ i,i < n→p ∣ f i)→p ∣ sm n f
 | 0,_,_=>⟨0,by simp [sm]⟩
 | n+1,f,h=>by
  rw [sm]
  exact Int.dvd_add (K9 fun i hi=>h i A0) (h n A0)
theorem ia (n:Nat) (f g:Nat→Int):sm n (fun i=>f i - g i)=sm n f - sm n g:=by
 have:=Uc n 1 (-1) f g
 rw [show (fun i=>f i - g i)=fun i=>1*f i+ -1*g i from funext fun i=>A0,this]; omega
theorem zu {p a b:Int} (h:p ∣ a - b) (h':p ∣ b):p ∣ a:=by
 have:=Int.dvd_add h h'
 rwa [Int.sub_add_cancel] at this
theorem yu {p a b:Int} (h:p ∣ a - b) (h':p ∣ a):p ∣ b:=by
 have:=Rh h' h
 rwa [show a - (a - b)=b by omega] at this
def Ind (p:Int) (n:Nat) (A:Mx) (cl:Nat→Nat) (k:Nat):Prop:=∀ y:Nat→Int,(∀ r,r < n→p ∣ sm k fun s=>A r (cl s)*y s)→∀ s,s < k→p ∣ y s
structure Rn (p:Int) (n w:Nat) (A:Mx) (col:Nat→Nat) (k:Nat):Prop where
 lt:∀ s,s < k→col s < w
 asc:∀ s t,s < t→t < k→col s < col t
 ind:Ind p n A col k
 span:∃ (d:Int) (L:Mx),¬ p ∣ d∧(∀ r j,r < n→j < w→p ∣ d*A r j - sm k fun s=>A r (col s)*L s j)∧∀ s j,s < k→j < col s→p ∣ L s j
theorem Bar.rn {n w:Nat} {A A':Mx} {col:Nat→Nat} {k:Nat} {sn:Int} (h:Bar n w A A' col k w sn):Rn 0 n w A col k where
 lt:=h.lt
 asc:=h.asc
 ind:=fun y hy s hs=>by
  obtain ⟨x,xi,hx,eO⟩:=h.perm
  have px:=h.kn
  rw [I8]
  refine gh h.d (w:=y) (fun r hr=>?_) s hs
  have:=hy (x r) (hx r A0).1
  rw [I8] at this
  rw [← this]
  exact W0 fun t ht=>by unfold Pm_; rw [eO r _ A0]
 span:=⟨det k (Pm_ A' col),fun s j=>Rk A' col k s j,by rw [I8]; exact h.d,fun r j hr hj=>by
  rw [I8]
  have:=h.rows (P:=fun row=>det k (Pm_ A' col)*row j=sm k fun s=>row (col s)*Rk A' col k s j) (fun r hr=>h.span hr (.inl hj)) r hr
  show det k (Pm_ A' col)*A r j - sm k (fun s=>A r (col s)*Rk A' col k s j)=0
  have e:det k (Pm_ A' col)*A r j=sm k (fun s=>A r (col s)*Rk A' col k s j):=this
  rw [e,Zl],fun s j hs hj=>by show (0:Int) ∣ Rk A' col k s j; rw [h.lead s j hs hj]; exact ⟨0,H0⟩⟩
theorem Zb {w k:Nat} {col:Nat→Nat} (hlt:∀ s,s < k→col s < w) (X y:Nat→Int):sm w (fun c=>X c*sm k fun s=>if c=col s then y s else 0)=sm k fun s=>X (col s)*y s:=by
 have e:sm w (fun c=>X c*sm k fun s=>if c=col s then y s else 0)=sm w (fun c=>sm k fun s=>if c=col s then X (col s)*y s else 0):=W0 fun c _=>by
  rw [← H3]
  exact W0 fun s _=>by
   by_cases h:c=col s
   ·rw [M0 h,M0 h,h]
   ·rw [K0 h,K0 h,Q3]
 rw [e,E7]
 exact W0 fun s hs=>L4 (f:=fun _=>X (col s)*y s) (hlt s hs)
theorem Rre.rn {p:Int} {n w:Nat} {A M:Mx} {col:Nat→Nat} {k:Nat} (hp:Dz p) (h:Rre p n w M col k w) (hq:Rq p n w A M):Rn p n w A col k where
 lt:=h.lt
 asc:=h.asc
 ind:=fun y hy s hs=>by
  have px:=h.kn
  have h1:Nl p n w A (fun c=>sm k fun s=>if c=col s then y s else 0):=fun r hr=>by
   rw [Zb h.lt]
   have:=hy r hr
   unfold Cg
   rwa [Ea]
  have h2:=(hq _).1 h1 s A0
  rw [Zb h.lt] at h2
  have e:sm k (fun t=>M s (col t)*y t)=sm k (fun t=>if t=s then y t else 0):=W0 fun t ht=>by
   rw [h.unit t s ht A0]
   by_cases e:s=t
   ·rw [M0 e,M0 e.symm,M4]
   ·rw [K0 e,K0 (fun x=>e x.symm),V3]
  rw [e,L4 (f:=y) hs] at h2
  unfold Cg at h2
  rwa [Ea] at h2
 span:=⟨1,M,hp.one,fun r j hr hj=>by
  have px:=h.kn
  have key:∀ X:Nat→Int,sm w (fun c=>X c*((if c=j then 1 else 0)+sm k fun s=>if c=col s then - M s j else 0))=X j - sm k fun s=>X (col s)*M s j:=fun X=>by
   have e:sm w (fun c=>X c*((if c=j then 1 else 0)+sm k fun s=>if c=col s then - M s j else 0))=sm w (fun c=>(if c=j then X c else 0)+X c*sm k fun s=>if c=col s then - M s j else 0):=W0 fun c _=>by
    rw [T6]
    congr 1
    by_cases e:c=j
    ·rw [M0 e,M0 e,J6]
    ·rw [K0 e,K0 e,Q3]
   rw [e,G7,L4 (f:=X) hj,Zb h.lt]
   have:sm k (fun s=>X (col s)* - M s j)= -1*sm k (fun s=>X (col s)*M s j):=by
    rw [← H3]
    exact W0 fun s _=>by grind
   rw [this]; omega
  have h1:Nl p n w M (fun c=>(if c=j then 1 else 0)+sm k fun s=>if c=col s then - M s j else 0):=fun r hr=>by
   rw [key]
   by_cases RG:r < k
   ·have e:sm k (fun s=>M r (col s)*M s j)=sm k (fun s=>if s=r then M s j else 0):=W0 fun s hs=>by
     rw [h.unit s r hs hr]
     by_cases e:r=s
     ·rw [M0 e,M0 e.symm,M4]
     ·rw [K0 e,K0 (fun x=>e x.symm),V3]
    rw [e,L4 (f:=fun s=>M s j) RG,Zl]; exact .refl _ _
   ·rw [h.zero r j A0 hr hj,C5 (fun s hs=>by rw [h.unit s r hs hr,B0,V3])]; exact .refl _ _
  have h2:=(hq _).2 h1 r hr
  rw [key] at h2
  unfold Cg at h2
  rwa [Ea,← M4 (A r j)] at h2,fun s j hs hj=>by rw [h.lead s j hs hj]; exact ⟨0,H0⟩⟩
def Fr (p:Int) (n:Nat) (A:Mx) (j:Nat):Prop:=∃ v:Nat→Int,¬ p ∣ v j∧∀ r,r < n→p ∣ sm (j+1) fun c=>A r c*v c
section
variable {p:Int} {n w:Nat} {A:Mx} {col:Nat→Nat} {k:Nat}
theorem Rn.mem (hp:Dz p) (h:Rn p n w A col k) {j:Nat} (hj:j < w):¬ Fr p n A j↔∃ s,s < k∧col s=j:=by
 obtain ⟨d,L,hd,hL,hl⟩:=h.span
 constructor
 ·intro hf
  refine H1 fun eA=>hf ⟨fun c=>if c=j then d else sm k fun s=>if c=col s then - L s j else 0,by show ¬ p ∣ (if j=j then d else _); rw [M0 rfl]; exact hd,fun r hr=>?_⟩
  have e:sm (j+1) (fun c=>A r c*(if c=j then d else sm k fun s=>if c=col s then - L s j else 0))=(d*A r j - sm k fun s=>A r (col s)*L s j)+sm k fun s=>if col s < j then 0 else A r (col s)*L s j:=by
   rw [sm,M0 rfl]
   have e1:sm j (fun c=>A r c*(if c=j then d else sm k fun s=>if c=col s then - L s j else 0))=sm j (fun c=>sm k fun s=>if c=col s then A r c* - L s j else 0):=W0 fun c hc=>by
    rw [B0,← H3]
    exact W0 fun s _=>by
     by_cases h:c=col s
     ·rw [M0 h,M0 h]
     ·rw [K0 h,K0 h,Q3]
   have e2:sm k (fun s=>sm j fun c=>if c=col s then A r c* - L s j else 0)=sm k (fun s=>if col s < j then -(A r (col s)*L s j) else 0):=W0 fun s hs=>by
    by_cases h1:col s < j
    ·rw [M0 h1,L4 (f:=fun c=>A r c* - L s j) h1,df]
    ·rw [K0 h1]
     exact C5 fun c hc=>K0 A0
   rw [e1,E7,e2]
   have e3:sm k (fun s=>if col s < j then -(A r (col s)*L s j) else 0)=sm k (fun s=>if col s < j then 0 else A r (col s)*L s j) - sm k (fun s=>A r (col s)*L s j):=by
    rw [← ia]
    refine W0 fun s _=>?_
    by_cases h1:col s < j
    ·rw [M0 h1,M0 h1]; omega
    ·rw [K0 h1,K0 h1]; omega
   rw [e3,P2 (A r j) d]
   omega
  rw [e]
  refine Int.dvd_add (hL r j hr hj) (K9 fun s hs=>?_)
  by_cases h1:col s < j
  ·rw [M0 h1]; exact ⟨0,H0⟩
  ·rw [K0 h1]
   have h2:j < col s:=by
    have:col s≠j:=fun e=>eA ⟨s,hs,e⟩
    omega
   obtain ⟨q,hq⟩:=hl s j hs h2
   exact ⟨A r (col s)*q,by rw [hq]; grind⟩
 ·rintro ⟨s,hs,rfl⟩ ⟨v,hv,hz⟩
  have JG:p ∣ d - L s (col s):=by
   have:=h.ind (fun t=>(if t=s then d else 0) - L t (col s)) (fun r hr=>by
    have e:sm k (fun t=>A r (col t)*((if t=s then d else 0) - L t (col s)))=d*A r (col s) - sm k fun t=>A r (col t)*L t (col s):=by
     have e1:sm k (fun t=>A r (col t)*((if t=s then d else 0) - L t (col s)))=sm k (fun t=>(if t=s then A r (col t)*d else 0) - A r (col t)*L t (col s)):=W0 fun t _=>by
      by_cases e:t=s
      ·rw [M0 e,M0 e]; grind
      ·rw [K0 e,K0 e]; grind
     rw [e1,ia,L4 (f:=fun t=>A r (col t)*d) hs,P2]
    rw [e]
    exact hL r (col s) hr hj) s hs
   simp only [if_true] at this
   exact this
  have h1:=h.ind (fun t=>sm (col s+1) fun c=>L t c*v c) (fun r hr=>by
   have e:sm k (fun t=>A r (col t)*sm (col s+1) fun c=>L t c*v c)=sm (col s+1) (fun c=>(sm k fun t=>A r (col t)*L t c)*v c):=by
    have e1:sm k (fun t=>A r (col t)*sm (col s+1) fun c=>L t c*v c)=sm k (fun t=>sm (col s+1) fun c=>A r (col t)*L t c*v c):=W0 fun t _=>by
     rw [← H3]; exact W0 fun c _=>by grind
    rw [e1,E7]
    exact W0 fun c _=>N7 _ _ _
   rw [e]
   have h2:p ∣ d*sm (col s+1) (fun c=>A r c*v c):=by
    obtain ⟨q,hq⟩:=hz r hr
    exact ⟨d*q,by rw [hq]; grind⟩
   refine yu (a:=d*sm (col s+1) (fun c=>A r c*v c)) ?_ h2
   rw [← H3,← ia]
   refine K9 fun c hc=>?_
   obtain ⟨q,hq⟩:=hL r c hr A0
   exact ⟨q*v c,by rw [← y7 p,← hq]; grind⟩) s hs
  rw [sm] at h1
  have h2:p ∣ sm (col s) fun c=>L s c*v c:=K9 fun c hc=>by
   obtain ⟨q,hq⟩:=hl s c hs hc
   exact ⟨q*v c,by rw [hq]; grind⟩
  have h3:p ∣ L s (col s)*v (col s):=by
   have:=Rh h1 h2
   rwa [show ∀ a b:Int,a+b - a=b from fun a b=>A0] at this
  rcases hp.dom _ _ h3 with h4 | h4
  ·exact hd (zu JG h4)
  ·exact hv h4
end
theorem Wk:∀ {l m:List Nat},l.Pairwise (· < ·)→m.Pairwise (· < ·)→(∀ x,x∈l↔x∈m)→l=m
 | [],[],_,_,_=>rfl
 | [],b::m,_,_,h=>absurd ((h b).2 Hc) H0
 | a::l,[],_,_,h=>absurd ((h a).1 Hc) H0
 | a::l,b::m,h1,h2,h=>by
  obtain ⟨a1,a2⟩:=Ve.1 h1
  obtain ⟨b1,b2⟩:=Ve.1 h2
  have e:a=b:=by
   rcases U3.1 ((h a).1 Hc) with e | e
   ·exact e
   ·rcases U3.1 ((h b).2 Hc) with e' | e'
    ·exact e'.symm
    ·have:=a1 b e'; have:=b1 a e; omega
  subst e
  rw [Wk a2 b2 fun x=>⟨fun hx=>?_,fun hx=>?_⟩]
  ·rcases U3.1 ((h x).1 (Ic _ hx)) with e | e
   ·have:=a1 x hx; omega
   ·exact e
  ·rcases U3.1 ((h x).2 (Ic _ hx)) with e | e
   ·have:=b1 x hx; omega
   ·exact e
open Classical in
noncomputable def pvs (p:Int) (n:Nat) (A:Mx) (w:Nat):List Nat:=(List.range w).filter fun j=>decide (¬ Fr p n A j)
theorem Fj (w:Nat):(List.range w).Pairwise (· < ·):=EF
section
variable {p:Int} {n w:Nat} {A:Mx} {col:Nat→Nat} {k:Nat}
theorem mc:(pvs p n A w).Pairwise (· < ·):=(Fj w).filter _
theorem O7 {j:Nat}:j∈pvs p n A w↔j < w∧¬ Fr p n A j:=by unfold pvs; simp
theorem ye:pvs p n A 0=[]:=rfl
theorem ma (h:¬ Fr p n A w):pvs p n A (w+1)=pvs p n A w++[w]:=by
 unfold pvs
 rw [Fc,Vl]
 simp [h]
theorem I9 (h:Fr p n A w):pvs p n A (w+1)=pvs p n A w:=by
 unfold pvs
 rw [Fc,Vl]
 simp [h]
theorem sC (h:∀ s t,s < t→t < k→col s < col t):((List.range k).map col).Pairwise (· < ·):=by
 rw [Cv]
 refine (Fj k).imp_of_mem ?_
 intro a b _ hb DG
 exact h a b DG (Z6.1 hb)
theorem Rn.pvs (hp:Dz p) (h:Rn p n w A col k):(List.range k).map col=pvs p n A w:=by
 refine Wk (sC h.asc) mc fun x=>?_
 rw [O7,Fh]
 constructor
 ·rintro ⟨s,hs,rfl⟩
  have:=Z6.1 hs
  exact ⟨h.lt s this,(h.mem hp (h.lt s this)).2 ⟨s,this,rfl⟩⟩
 ·rintro ⟨h1,h2⟩
  obtain ⟨s,hs,e⟩:=(h.mem hp h1).1 h2
  exact ⟨s,Z6.2 hs,e⟩
theorem Rn.len (hp:Dz p) (h:Rn p n w A col k):k=(Dt.pvs p n A w).length:=by
 rw [← h.pvs hp,Sa,Q6]
theorem Rn.getD (hp:Dz p) (h:Rn p n w A col k):∀ s,s < k→(Dt.pvs p n A w).getD s 0=col s:=fun s hs=>by
 rw [← h.pvs hp,I6,y9,Ta hs]; rfl
theorem Rn.ex (hp:Dz p):∀ w:Nat,∃ col k,Rn p n w A col k:=by
 intro w
 induction w with
 | zero=>exact ⟨fun _=>0,0,fun s h=>absurd h A0,fun s t _ h=>absurd h A0,fun y _ s h=>absurd h A0,1,fun _ _=>0,hp.one,fun r j _ h=>absurd h A0,fun s j h=>absurd h A0⟩
 | succ w ih=>
  obtain ⟨col,k,h⟩:=ih
  obtain ⟨d,L,hd,hL,hl⟩:=h.span
  by_cases hf:Fr p n A w
  ·obtain ⟨v,hv,hz⟩:=hf
   refine ⟨col,k,fun s hs=>by have:=h.lt s hs; omega,h.asc,h.ind,d*v w,fun t c=>if c=w then - sm w (fun c=>L t c*v c) else v w*L t c,fun hc=>?_,fun r j hr hj=>?_,fun s j hs hj=>?_⟩
   ·rcases hp.dom _ _ hc with h1 | h1
    ·exact hd h1
    ·exact hv h1
   ·by_cases Ay:j=w
    ·subst Ay
     simp only [if_true]
     have e:sm k (fun s=>A r (col s)* - sm j (fun c=>L s c*v c))= - sm j (fun c=>(sm k fun s=>A r (col s)*L s c)*v c):=by
      have e1:sm k (fun s=>A r (col s)* - sm j (fun c=>L s c*v c))= -1*sm k (fun s=>sm j fun c=>A r (col s)*L s c*v c):=by
       rw [← H3]
       exact W0 fun s _=>by
        rw [show sm j (fun c=>A r (col s)*L s c*v c)=A r (col s)*sm j (fun c=>L s c*v c) from rj j (A r (col s)) (L s) v]; grind
      rw [e1,E7,show sm j (fun c=>sm k fun s=>A r (col s)*L s c*v c)=sm j (fun c=>(sm k fun s=>A r (col s)*L s c)*v c) from W0 fun c _=>N7 _ _ _]
      omega
     rw [e]
     have h1:p ∣ d*sm (j+1) (fun c=>A r c*v c):=by
      obtain ⟨q,hq⟩:=hz r hr
      exact ⟨d*q,by rw [hq]; grind⟩
     rw [sm] at h1
     have h2:p ∣ sm j (fun c=>(d*A r c - sm k fun s=>A r (col s)*L s c)*v c):=K9 fun c hc=>by
      obtain ⟨q,hq⟩:=hL r c hr hc
      exact ⟨q*v c,by rw [hq]; grind⟩
     have e2:sm j (fun c=>(d*A r c - sm k fun s=>A r (col s)*L s c)*v c)=d*sm j (fun c=>A r c*v c) - sm j (fun c=>(sm k fun s=>A r (col s)*L s c)*v c):=by
      rw [← H3,← ia]
      exact W0 fun c _=>by grind
     rw [e2] at h2
     have h3:=Rh h1 h2
     refine (Int.dvd_neg (a:=p)).1 ?_
     refine (Int.dvd_neg (a:=p)).2 ?_
     rwa [show d*(sm j (fun c=>A r c*v c)+A r j*v j) - (d*sm j (fun c=>A r c*v c) - sm j (fun c=>(sm k fun s=>A r (col s)*L s c)*v c))=d*v j*A r j - -sm j (fun c=>(sm k fun s=>A r (col s)*L s c)*v c) by grind] at h3
    ·simp only [Ay,if_false]
     obtain ⟨q,hq⟩:=hL r j hr A0
     refine ⟨q*v w,?_⟩
     have e:sm k (fun s=>A r (col s)*(v w*L s j))=v w*sm k (fun s=>A r (col s)*L s j):=by
      rw [← H3]; exact W0 fun s _=>by grind
     rw [e,← y7,← hq]; grind
   ·have:=h.lt s hs
    simp only [show j≠w by omega,if_false]
    obtain ⟨q,hq⟩:=hl s j hs hj
    exact ⟨v w*q,by rw [hq]; grind⟩
  ·refine ⟨fun s=>if s=k then w else col s,k+1,fun s hs=>?_,fun s t hs ht=>?_,fun y hy s hs=>?_,d,fun t c=>if t=k then (if c=w then d else 0) else if c=w then 0 else L t c,hd,fun r j hr hj=>?_,fun s j hs hj=>?_⟩
   ·show (if s=k then w else col s) < w+1
    by_cases e:s=k
    ·rw [M0 e]; omega
    ·rw [K0 e]; have:=h.lt s A0; omega
   ·show (if s=k then w else col s) < (if t=k then w else col t)
    rw [K0 (show s≠k by omega)]
    by_cases e:t=k
    ·rw [M0 e]; exact h.lt s A0
    ·rw [K0 e]; exact h.asc s t hs A0
   ·have VJ:∀ r,r < n→p ∣ sm k (fun s=>A r (col s)*y s)+A r w*y k:=fun r hr=>by
     have:=hy r hr
     rw [sm] at this
     simp only [if_true] at this
     rwa [W0 (g:=fun s=>A r (col s)*y s) fun s hs=>by rw [K0 (show s≠k by omega)]] at this
    have hk:p ∣ y k:=H1 fun eA=>hf ⟨fun c=>if c=w then y k else sm k fun s=>if c=col s then y s else 0,by show ¬ p ∣ (if w=w then y k else _); rw [M0 rfl]; exact eA,fun r hr=>by
     rw [sm]
     simp only [if_true]
     rw [W0 (g:=fun c=>A r c*sm k fun s=>if c=col s then y s else 0) fun c hc=>by rw [K0 (show c≠w by omega)],Zb h.lt]
     exact VJ r hr⟩
    by_cases e:s=k
    ·rw [e]; exact hk
    ·refine h.ind y (fun r hr=>?_) s A0
     have h1:=VJ r hr
     obtain ⟨q,hq⟩:=hk
     have h2:p ∣ A r w*y k:=⟨A r w*q,by rw [hq]; grind⟩
     have:=Rh h1 h2
     rwa [Int.add_sub_cancel] at this
   ·rw [sm]
    simp only [if_true]
    have e:sm k (fun s=>A r (if s=k then w else col s)*(if s=k then (if j=w then d else 0) else if j=w then 0 else L s j))=sm k (fun s=>A r (col s)*(if j=w then 0 else L s j)):=W0 fun s hs=>by
     rw [K0 (show s≠k by omega),K0 (show s≠k by omega)]
    rw [e]
    by_cases Ay:j=w
    ·subst Ay
     simp only [if_true,Q3]
     rw [C5 fun _ _=>rfl]
     exact ⟨0,by grind⟩
    ·simp only [Ay,if_false,Q3,L8]
     exact hL r j hr A0
   ·show p ∣ (if s=k then (if j=w then d else 0) else if j=w then 0 else L s j)
    have hj:j < (if s=k then w else col s):=hj
    by_cases e:s=k
    ·rw [M0 e] at hj ⊢
     rw [B0]; exact ⟨0,H0⟩
    ·rw [K0 e] at hj ⊢
     have:=h.lt s A0
     rw [B0]
     exact hl s j A0 hj
noncomputable def pcol (p:Int) (n:Nat) (A:Mx) (w:Nat):Nat→Nat:=fun s=>(Dt.pvs p n A w).getD s 0
theorem Rn.can (hp:Dz p):Rn p n w A (pcol p n A w) (Dt.pvs p n A w).length:=by
 obtain ⟨col,k,h⟩:=Rn.ex (n:=n) (A:=A) hp w
 have e:=h.len hp
 have hc:=h.getD hp
 subst e
 have hI:∀ (r:Nat) (y:Nat→Int),sm (Dt.pvs p n A w).length (fun s=>A r (pcol p n A w s)*y s)=sm (Dt.pvs p n A w).length (fun s=>A r (col s)*y s):=fun r y=>W0 fun s hs=>by unfold pcol; rw [hc s hs]
 obtain ⟨d,L,hd,hL,hl⟩:=h.span
 refine ⟨fun s hs=>by unfold pcol; rw [hc s hs]; exact h.lt s hs,fun s t hs ht=>by unfold pcol; rw [hc s A0,hc t ht]; exact h.asc s t hs ht,fun y hy=>h.ind y fun r hr=>by rw [← hI]; exact hy r hr,d,L,hd,fun r j hr hj=>?_,fun s j hs hj=>hl s j hs (by unfold pcol at hj; rwa [hc s hs] at hj)⟩
 have e:sm (Dt.pvs p n A w).length (fun s=>A r (pcol p n A w s)*L s j)=sm (Dt.pvs p n A w).length (fun s=>A r (col s)*L s j):=hI r fun s=>L s j
 rw [e]
 exact hL r j hr hj
theorem Ind.le (hp:Dz p) (h:Rn p n w A col k) {cl:Nat→Nat} {m:Nat} (hc:∀ s,s < m→cl s < w) (hi:Ind p n A cl m):m≤k:=by
 refine H1 fun eA=>?_
 obtain ⟨d,L,hd,hL,_⟩:=h.span
 obtain ⟨y,⟨j0,uI,jJ⟩,hy⟩:=Lt hp k m (fun t s=>L t (cl s)) A0
 refine jJ (hi y (fun r hr=>?_) j0 uI)
 have h1:p ∣ d*sm m (fun s=>A r (cl s)*y s):=by
  have h2:p ∣ sm m (fun s=>(d*A r (cl s) - sm k fun t=>A r (col t)*L t (cl s))*y s):=K9 fun s hs=>by
   obtain ⟨q,hq⟩:=hL r (cl s) hr (hc s hs)
   exact ⟨q*y s,by rw [hq]; grind⟩
  have e:sm m (fun s=>(d*A r (cl s) - sm k fun t=>A r (col t)*L t (cl s))*y s)=d*sm m (fun s=>A r (cl s)*y s) - sm m (fun s=>(sm k fun t=>A r (col t)*L t (cl s))*y s):=by
   rw [← H3,← ia]
   exact W0 fun s _=>by grind
  have e2:sm m (fun s=>(sm k fun t=>A r (col t)*L t (cl s))*y s)=0:=by
   have e3:sm m (fun s=>(sm k fun t=>A r (col t)*L t (cl s))*y s)=sm m (fun s=>sm k fun t=>A r (col t)*(L t (cl s)*y s)):=W0 fun s _=>by
    rw [← N7]; exact W0 fun t _=>by grind
   rw [e3,E7]
   exact C5 fun t ht=>by rw [H3,hy t ht,Q3]
  rwa [e,e2,Ea] at h2
 rcases hp.dom _ _ h1 with h3 | h3
 ·exact absurd h3 hd
 ·exact h3
theorem Rn.tp_le (hp:Dz p) (h:Rn p n w A col k) {row:Nat→Nat} {m:Nat} (h':Rn p w n (tp A) row m):k≤m:=by
 refine H1 fun eA=>?_
 obtain ⟨d,L,hd,hL,_⟩:=h'.span
 obtain ⟨y,⟨j0,uI,jJ⟩,hy⟩:=Lt hp m k (fun t s=>A (row t) (col s)) A0
 refine jJ (h.ind y (fun i hi=>?_) j0 uI)
 have h1:p ∣ d*sm k (fun s=>A i (col s)*y s):=by
  have h2:p ∣ sm k (fun s=>(d*A i (col s) - sm m fun t=>A (row t) (col s)*L t i)*y s):=K9 fun s hs=>by
   obtain ⟨q,hq⟩:=hL (col s) i (h.lt s hs) hi
   unfold tp at hq
   exact ⟨q*y s,by rw [hq]; grind⟩
  have e:sm k (fun s=>(d*A i (col s) - sm m fun t=>A (row t) (col s)*L t i)*y s)=d*sm k (fun s=>A i (col s)*y s) - sm k (fun s=>(sm m fun t=>A (row t) (col s)*L t i)*y s):=by
   rw [← H3,← ia]
   exact W0 fun s _=>by grind
  have e2:sm k (fun s=>(sm m fun t=>A (row t) (col s)*L t i)*y s)=0:=by
   have e3:sm k (fun s=>(sm m fun t=>A (row t) (col s)*L t i)*y s)=sm k (fun s=>sm m fun t=>L t i*(A (row t) (col s)*y s)):=W0 fun s _=>by
    rw [← N7]; exact W0 fun t _=>by grind
   rw [e3,E7]
   exact C5 fun t ht=>by rw [H3,hy t ht,Q3]
  rwa [e,e2,Ea] at h2
 rcases hp.dom _ _ h1 with h3 | h3
 ·exact absurd h3 hd
 ·exact h3
theorem cd (hp:Dz p):(Dt.pvs p n A w).length=(Dt.pvs p w (tp A) n).length:=
 Nat.le_antisymm ((Rn.can hp).tp_le hp (Rn.can hp)) ((Rn.can (A:=tp A) hp).tp_le hp (show Rn p n w (tp (tp A)) _ _ from Rn.can hp))
end
section
variable {p:Int} {n w:Nat} {A B:Mx} {k:Nat}
theorem Yt (h:∀ r c,r < n→c < w→p ∣ A r c - B r c) {j:Nat} (hj:j < w) (hf:Fr p n A j):Fr p n B j:=by
 obtain ⟨v,hv,hz⟩:=hf
 refine ⟨v,hv,fun r hr=>?_⟩
 refine yu (a:=sm (j+1) fun c=>A r c*v c) ?_ (hz r hr)
 rw [← ia]
 refine K9 fun c hc=>?_
 obtain ⟨q,hq⟩:=h r c hr A0
 exact ⟨q*v c,by rw [← y7,← hq]; grind⟩
theorem Bs (h:∀ r c,r < n→c < w→p ∣ A r c - B r c):pvs p n A w=pvs p n B w:=by
 refine Wk mc mc fun x=>?_
 rw [O7,O7]
 constructor
 ·rintro ⟨h1,h2⟩
  exact ⟨h1,fun hf=>h2 (Yt (fun r c hr hc=>by have:=Int.dvd_neg.2 (h r c hr hc); rwa [Int.neg_sub] at this) h1 hf)⟩
 ·rintro ⟨h1,h2⟩
  exact ⟨h1,fun hf=>h2 (Yt h h1 hf)⟩
theorem kb:∀ w,(pvs p n A w).length≤w:=fun w=>by
 have:(pvs p n A w).Sublist (List.range w):=by unfold pvs; exact List.filter_sublist
 have:=this.length_le
 rwa [Q6] at this
theorem Ind.nf {cl:Nat→Nat} (h:Ind p n A cl k) {B:Mx} (hB:∀ r s,r < n→s < k→B r s=A r (cl s)) {s:Nat} (hs:s < k):¬ Fr p n B s:=by
 rintro ⟨v,hv,hz⟩
 have:=h (fun t=>if t≤s then v t else 0) (fun r hr=>by
  have e:sm k (fun t=>A r (cl t)*(if t≤s then v t else 0))=sm (s+1) (fun c=>B r c*v c):=by
   have:∀ m,s+1≤m→m≤k→sm m (fun t=>A r (cl t)*(if t≤s then v t else 0))=sm (s+1) (fun c=>B r c*v c):=by
    intro m
    induction m with
    | zero=>intro h _; omega
    | succ m ih=>
     intro h1 h2
     by_cases e:m=s
     ·subst e
      exact W0 fun t ht=>by rw [C0,hB r t hr A0]
     ·rw [sm,ih A0 A0,B0]; omega
   exact this k A0 (H2 k)
  rw [e]; exact hz r hr) s hs
 simp only [H2,if_true] at this
 exact hv this
theorem Ind.range {cl:Nat→Nat} (h:Ind p n A cl k) {B:Mx} (hB:∀ r s,r < n→s < k→B r s=A r (cl s)):∀ m,m≤k→pvs p n B m=List.range m:=by
 intro m
 induction m with
 | zero=>intro _; rfl
 | succ m ih=>intro hm; rw [ma (h.nf hB A0),ih A0,Fc]
def sub (A:Mx) (C:List Nat):Mx:=fun r s=>A r (C.getD s 0)
theorem xk {C D:List Nat} {s:Nat} (h:s < C.length):(C++D).getD s 0=C.getD s 0:=by
 rw [I6,I6,Q5 h]
theorem Wg {C:List Nat} {j:Nat}:(C++[j]).getD C.length 0=j:=by
 rw [I6,X5 (H2 _),E6]; rfl
theorem Zg (hp:Dz p) {j:Nat}:Fr p n (sub A (pvs p n A j++[j])) (pvs p n A j).length↔Fr p n A j:=by
 have hI:=Rn.can (p:=p) (n:=n) (w:=j) (A:=A) hp
 obtain ⟨d,L,hd,hL,hl⟩:=hI.span
 generalize hk:(pvs p n A j).length=k at hI hL hl
 have ZH:∀ r s,s < k→sub A (pvs p n A j++[j]) r s=A r (pcol p n A j s):=fun r s hs=>by
  unfold sub; rw [xk A0]; rfl
 have gH:∀ r,sub A (pvs p n A j++[j]) r k=A r j:=fun r=>by
  unfold sub; rw [← hk,Wg]
 constructor
 ·rintro ⟨v,hv,hz⟩
  refine ⟨fun c=>if c=j then v k else sm k fun s=>if c=pcol p n A j s then v s else 0,by show ¬ p ∣ (if j=j then v k else _); rw [M0 rfl]; exact hv,fun r hr=>?_⟩
  have h1:=hz r hr
  rw [sm,gH,W0 (g:=fun s=>A r (pcol p n A j s)*v s) fun s hs=>by rw [ZH r s hs]] at h1
  rw [sm]
  simp only [if_true]
  rw [W0 (g:=fun c=>A r c*sm k fun s=>if c=pcol p n A j s then v s else 0) fun c hc=>by rw [K0 (show c≠j by omega)],Zb hI.lt]
  exact h1
 ·rintro ⟨v,hv,hz⟩
  refine ⟨fun t=>if t=k then d*v j else sm j fun c=>L t c*v c,?_,fun r hr=>?_⟩
  ·show ¬ p ∣ (if k=k then d*v j else _)
   rw [M0 rfl]
   intro h
   rcases hp.dom _ _ h with h1 | h1
   ·exact hd h1
   ·exact hv h1
  ·rw [sm,gH]
   simp only [if_true]
   rw [W0 (g:=fun t=>sm j fun c=>A r (pcol p n A j t)*L t c*v c) fun t ht=>by rw [K0 (show t≠k by omega),ZH r t ht,← H3]; exact W0 fun c _=>by grind]
   rw [E7,W0 (g:=fun c=>(sm k fun t=>A r (pcol p n A j t)*L t c)*v c) fun c _=>N7 _ _ _]
   have h1:p ∣ d*sm (j+1) (fun c=>A r c*v c):=by
    obtain ⟨q,hq⟩:=hz r hr
    exact ⟨d*q,by rw [hq]; grind⟩
   rw [sm] at h1
   have h2:p ∣ sm j (fun c=>(d*A r c - sm k fun t=>A r (pcol p n A j t)*L t c)*v c):=K9 fun c hc=>by
    obtain ⟨q,hq⟩:=hL r c hr hc
    exact ⟨q*v c,by rw [hq]; grind⟩
   have e2:sm j (fun c=>(d*A r c - sm k fun t=>A r (pcol p n A j t)*L t c)*v c)=d*sm j (fun c=>A r c*v c) - sm j (fun c=>(sm k fun t=>A r (pcol p n A j t)*L t c)*v c):=by
    rw [← H3,← ia]
    exact W0 fun c _=>by grind
   rw [e2] at h2
   have h3:=Rh h1 h2
   rwa [show d*(sm j (fun c=>A r c*v c)+A r j*v j) - (d*sm j (fun c=>A r c*v c) - sm j (fun c=>(sm k fun t=>A r (pcol p n A j t)*L t c)*v c))=sm j (fun c=>(sm k fun t=>A r (pcol p n A j t)*L t c)*v c)+A r j*(d*v j) by grind] at h3
theorem Vf (hp:Dz p) {j:Nat}:pvs p n (sub A (pvs p n A j++[j])) (pvs p n A j).length=List.range (pvs p n A j).length:=
 (Rn.can (p:=p) (n:=n) (w:=j) (A:=A) hp).ind.range (fun r s _ hs=>by unfold sub; rw [xk hs]; rfl) _ (H2 _)
theorem qj (hp:Dz p) {j:Nat} (h:¬ Fr p n A j):(pvs p n (sub A (pvs p n A j++[j])) ((pvs p n A j).length+1)).length=(pvs p n A j).length+1:=by
 rw [ma (fun hf=>h ((Zg hp).1 hf)),Vf hp,Q1,Q6]; rfl
theorem qe (hp:Dz p) {j:Nat} (h:Fr p n A j):(pvs p n (sub A (pvs p n A j++[j])) ((pvs p n A j).length+1)).length=(pvs p n A j).length:=by
 rw [I9 ((Zg hp).2 h),Vf hp,Q6]
theorem oC (hp:Dz p) (hk:(pvs p n A w).length=k):Ind p k (fun r s=>A (pcol p w (tp A) n r) (pcol p n A w s)) (fun s=>s) k:=by
 have h:=Rn.can (p:=p) (n:=n) (w:=w) (A:=A) hp
 have h':=Rn.can (p:=p) (n:=w) (w:=n) (A:=tp A) hp
 have hm:(pvs p w (tp A) n).length=k:=by rw [← cd hp]; exact hk
 rw [hk] at h
 rw [hm] at h'
 obtain ⟨d,L,hd,hL,_⟩:=h'.span
 intro y hy
 refine h.ind y fun i hi=>?_
 have h1:p ∣ d*sm k (fun s=>A i (pcol p n A w s)*y s):=by
  have h2:p ∣ sm k (fun s=>(d*A i (pcol p n A w s) - sm k fun t=>A (pcol p w (tp A) n t) (pcol p n A w s)*L t i)*y s):=K9 fun s hs=>by
   obtain ⟨q,hq⟩:=hL (pcol p n A w s) i (h.lt s hs) hi
   unfold tp at hq
   exact ⟨q*y s,by rw [← y7,← hq]; rfl⟩
  have e:sm k (fun s=>(d*A i (pcol p n A w s) - sm k fun t=>A (pcol p w (tp A) n t) (pcol p n A w s)*L t i)*y s)=d*sm k (fun s=>A i (pcol p n A w s)*y s) - sm k (fun s=>(sm k fun t=>A (pcol p w (tp A) n t) (pcol p n A w s)*L t i)*y s):=by
   rw [← H3,← ia]
   exact W0 fun s _=>by grind
  have h3:p ∣ sm k (fun s=>(sm k fun t=>A (pcol p w (tp A) n t) (pcol p n A w s)*L t i)*y s):=by
   have e3:sm k (fun s=>(sm k fun t=>A (pcol p w (tp A) n t) (pcol p n A w s)*L t i)*y s)=sm k (fun s=>sm k fun t=>L t i*(A (pcol p w (tp A) n t) (pcol p n A w s)*y s)):=W0 fun s _=>by
    rw [← N7]; exact W0 fun t _=>by grind
   rw [e3,E7]
   exact K9 fun t ht=>by
    rw [H3]
    obtain ⟨q,hq⟩:=hy t ht
    exact ⟨L t i*q,by rw [hq]; grind⟩
  rw [e] at h2
  exact zu h2 h3
 rcases hp.dom _ _ h1 with h3 | h3
 ·exact absurd h3 hd
 ·exact h3
theorem Ind.lift (hp:2≤p) {cl:Nat→Nat} (h:Ind p n A cl k):Ind 0 n A cl k:=by
 have key:∀ (d:Nat) (y:Nat→Int),(∀ r,r < n→sm k (fun s=>A r (cl s)*y s)=0)→∀ s,s < k→(y s).natAbs≤d→y s=0:=by
  intro d
  induction d with
  | zero=>exact fun y _ s _ hs=>Vv.1 A0
  | succ d ih=>
   intro y hy s hs hd
   have Qx:=h y (fun r hr=>by rw [hy r hr]; exact ⟨0,H0⟩)
   have hq:∀ t,t < k→y t=p*(y t / p):=fun t ht=>(Wv (Qx t ht)).symm
   have h0:=ih (fun t=>y t / p) (fun r hr=>by
    have e:sm k (fun t=>A r (cl t)*y t)=p*sm k (fun t=>A r (cl t)*(y t / p)):=by
     rw [← H3]
     refine W0 fun t ht=>?_
     have:=hq t ht
     generalize y t / p=q at*
     rw [this]; grind
    have:=hy r hr
    rw [e] at this
    rcases K4.1 this with h1 | h1
    ·omega
    ·exact h1) s hs
   by_cases hz:y s=0
   ·exact hz
   ·have h1:=hq s hs
    have h2:(y s).natAbs=p.natAbs*(y s / p).natAbs:=by rw [← Ud,← h1]
    have h3:2*(y s / p).natAbs≤p.natAbs*(y s / p).natAbs:=Eb _ A0
    have h4:=h0 (by show (y s / p).natAbs≤d; omega)
    have h5:y s / p=0:=h4
    rw [h1,h5]; omega
 intro y hy s hs
 rw [I8]
 exact key (y s).natAbs y (fun r hr=>by have:=hy r hr; rwa [I8] at this) s hs (H2 _)
theorem Ind.rows {B:Mx} {R:Nat→Nat} {m:Nat} {cl:Nat→Nat} (hR:∀ r,r < m→R r < n) (h:Ind p m (fun r s=>A (R r) (cl s)) (fun s=>s) k):Ind p n A cl k:=
 fun y hy=>h y fun r hr=>hy (R r) (hR r hr)
theorem tu {V:Mx} {m:Nat} {f:Nat→Nat} (hf:∀ i,i < m→f i < w) (ha:∀ i j,i < j→j < m→f i < f j) (hn:∀ i,i < m→V i (f i)≠0) (hz:∀ i c,i < m→f i < c→c < w→V i c=0):Ind 0 w (tp V) (fun s=>s) m:=by
 intro y hy
 have key:∀ d i,i < m→m - 1 - i=d→y i=0:=by
  intro d
  induction d using Nat.strongRecOn with
  | ind d ih=>
   intro i hi hd
   have h1:=hy (f i) (hf i hi)
   rw [I8] at h1
   have e:sm m (fun s=>tp V (f i) s*y s)=sm m (fun s=>if s=i then V s (f i)*y s else 0):=W0 fun s hs=>by
    show V s (f i)*y s=_
    by_cases e:s=i
    ·rw [M0 e]
    ·rw [K0 e]
     rcases Pa s i with h2 | h2
     ·rw [hz s (f i) hs (ha s i h2 hi) (hf i hi),V3]
     ·rw [ih (m - 1 - s) A0 s hs rfl,Q3]
   have h2:sm m (fun s=>tp V (f i) s*y s)=0:=h1
   rw [e,L4 (f:=fun s=>V s (f i)*y s) hi] at h2
   rcases K4.1 h2 with h3 | h3
   ·exact absurd h3 (hn i hi)
   ·exact h3
 intro s hs
 rw [I8]
 exact key _ s hs rfl
end
end Dt
